/- Walk: wire.Read. -/
import Derived.Test.YtibpmogmeoappaaJWirC
import Derived.Test.YtibpmogmeoappaaJFrmM
set_option maxRecDepth 100000
set_option maxHeartbeats 16000000
namespace Go.Proofs.Ytibpmogmeoappaa
open Go.RowKit
abbrev readD (B : Nat) : Deferred:={ target:=.fn (.func 80) #[.pointer (some ⟨B,0,none⟩),.pointer (some ⟨B + 1,0,none⟩)],args:=#[] }
theorem read_thrown (tmps : Array Value) (B : Nat) (h2 : tmps.getD 2 undef = .pointer (some ⟨B,0,none⟩)) (h3 : tmps.getD 3 undef = .pointer (some ⟨B + 1,0,none⟩)) (s : List Int) (w wx : World) (hB : B = w.heap.size) (hz : readFrm s = none) (hl : ¬ 2048 < s.length)
 (cs : List Value) (hc : cs.length = 5) (hF : Blk wx B 63 cs) (v : Value) (hE : Blk wx (B + 1) 25 [v]) (hb : Below B w wx) :
 bodyPostD Try.prog Try.f40 (RetFrm w (readF s) (readZ s)) (Exit.panic brokenP) { tmps:=tmps,defers:=[readD B] } wx:=by
 have ez : readZ s = 1:=by unfold readZ; rw [if_neg hl,hz]
 have ef : readF s = noFrm:=by unfold readF; rw [if_neg hl,hz]
 rw [ez,ef]
 match cs,hc with
 | [a, b, c, d, e], _ =>
   refine leaves_cons (f:=80) (args:=#[.pointer (some ⟨B,0,none⟩),.pointer (some ⟨B + 1,0,none⟩)]) (by simp) (by simp [go_sem]) ?_;refine (catch_panicking B (B + 1) _ _ a b c d e v wx hF hE (by omega)).mono ?_;rintro r u' w'' ⟨rfl,rfl,rfl⟩;have hF2 : Blk (caught wx B (B + 1)) B 63 (frmCells 0 0 0 0 none 0 0):=(((((hF.set_ 0 (.int .i64 0)).set_ 1 (.int .i64 0)).set_ 2 (.int .i64 0)).set_ 3 (.int .i64 0)).set_ 4 (.slice none 0 0)).far (p:=⟨B + 1,0,none⟩) (by simp) _;have hE2 : Blk (caught wx B (B + 1)) (B + 1) 25 [.int .i64 1]:=(((((hE.far (p:=⟨B,0,none⟩) (by simp) _).far (p:=⟨B,1,none⟩) (by simp) _).far (p:=⟨B,2,none⟩) (by simp) _).far (p:=⟨B,3,none⟩) (by simp) _).far (p:=⟨B,4,none⟩) (by simp) _).set_ 0 _;refine ⟨_,read_results tmps B (B + 1) h2 h3 0 0 0 0 1 none 0 0 _ hF2 hE2,none,0,0,rfl,rfl,?_,?_⟩
   ·intro i hi
    simp [noFrm] at hi
   ·subst hB
    exact (((((hb.setCell (p:=⟨w.heap.size,0,none⟩) (Nat.le_refl _) _).setCell (p:=⟨w.heap.size,1,none⟩) (Nat.le_refl _) _).setCell (p:=⟨w.heap.size,2,none⟩) (Nat.le_refl _) _).setCell (p:=⟨w.heap.size,3,none⟩) (Nat.le_refl _) _).setCell (p:=⟨w.heap.size,4,none⟩) (Nat.le_refl _) _).setCell (p:=⟨w.heap.size + 1,0,none⟩) (by simp) _
theorem cons4 {s : List Int} (h : 4 ≤ s.length) : ∃ a b c d t,s = a :: b :: c :: d :: t:=by
 match s,h with
 | a :: b :: c :: d :: t,_=>exact ⟨a,b,c,d,t,rfl⟩
theorem cons3 {s : List Int} (h : 3 ≤ s.length) : ∃ a b c t,s = a :: b :: c :: t:=by
 match s,h with
 | a :: b :: c :: t,_=>exact ⟨a,b,c,t,rfl⟩
theorem cons2 {s : List Int} (h : 2 ≤ s.length) : ∃ a b t,s = a :: b :: t:=by
 match s,h with
 | a :: b :: t,_=>exact ⟨a,b,t,rfl⟩
theorem cons1 {s : List Int} (h : 1 ≤ s.length) : ∃ a t,s = a :: t:=by
 match s,h with
 | a :: t,_=>exact ⟨a,t,rfl⟩
theorem GRow.farW {w : World} {base : Nat} {A : Option Addr} {n c : Nat} {xs : List Pas} {es : List (List Value × Option Addr × List Value)} (h : GRow PasW 6 110 w base A n c xs es) (hn : ∀ e ∈ es,e.2.2 ≠ [] → NewFrom base e.2.1) {p : Addr} (hp : p.block < base) (u : Value) :
 GRow PasW 6 110 (w.setCell p u) base A n c xs es:=⟨h.own.far hp u,h.spelt.farB hn hp u⟩
theorem rd_short {s : List Int} (h : s.length < 5) : rdFrm s = none:=by
 match s,h with
 | [],_=>rfl
 | [_],_=>rfl
 | [_,_],_=>rfl
 | [_,_,_],_=>rfl
 | [_,_,_,_],_=>rfl
theorem read_short {s : List Int} (h : rdFrm s = none) : readFrm s = none:=by unfold readFrm; rw [h]
theorem Bytes.drop {s : List Int} (h : Bytes s) (n : Nat) : Bytes (s.drop n):=fun x hx=>h x (List.mem_of_mem_drop hx)
theorem read_few (z : ByteArray) (w : World) (h : ¬ 2048 < (strL z).length) : Calls Try.prog 40 #[.string z] w (RetFrm w (readF (strL z)) (readZ (strL z))):=by
 have h1 : ¬ (2048 : Int) < (z.size : Int):=by rw [strL_len] at h; omega
 have hby:=strL_bytes z;obtain ⟨s,hs⟩ : ∃ s,strL z = s:=⟨_,rfl⟩;rw [hs] at h hby ⊢;obtain ⟨B,hB⟩ : ∃ B,B = w.heap.size:=⟨_,rfl⟩;obtain ⟨p0i,hpi,pz0,pz1,pz2⟩:=info_parts Try.infoPas;obtain ⟨l0i,hli,lz0,lz1,lz2⟩:=info_parts Try.info59;have HS:=hide hs;have HL:=hide h;have HY:=hide hby;clear hs h hby;have hmf : ∀ (fn : Fn) (first cap : Array Value) (w : World),(Instr.makeFunc fn first cap).run Try.prog w = .ok (.func fn first cap) w:=fun _ _ _ _=>rfl
 go_enter_defers Try.func40,Try.ntmps40
 go_wp2_with fail;obtain ⟨W0,hW0⟩ : ∃ W0,(((w.alloc (.cells #[.int .i64 0,.int .i64 0,.int .i64 0,.int .i64 0,.slice none 0 0] 63)).alloc (.cells #[.int .i64 0] 25)).alloc (.cells #[.string z] 117)).alloc (.cells #[.pointer (some ⟨w.heap.size,0,none⟩),.pointer (some ⟨w.heap.size,1,none⟩),.pointer (some ⟨w.heap.size,2,none⟩),.pointer (some ⟨w.heap.size,3,none⟩)] 101) = W0:=⟨_,rfl⟩
 have hF0 : Blk W0 B 63 (frmCells 0 0 0 0 none 0 0):=by
  subst hB hW0;exact (((Blk.new w 63 (frmCells 0 0 0 0 none 0 0)).alloc _).alloc _).alloc _
 have hE0 : Blk W0 (B + 1) 25 [.int .i64 0]:=by
  subst hB hW0;exact ((Blk.newE (cs:=[.int .i64 0]) (by simp)).alloc _).alloc _
 have hG0 : GlassAt W0 (B + 2) s:=by
  subst hB hW0;exact ⟨z,HS.out,(Blk.newE (cs:=[.string z]) (by simp)).alloc _⟩
 have hP0 : Blk W0 (B + 3) 101 (ptrsTo B 4):=by
  subst hB hW0;exact Blk.newE (cs:=ptrsTo w.heap.size 4) (by simp)
 have hB0 : Below B w W0:=by
  subst hB hW0;exact ((((Below.refl _ _).alloc (Nat.le_refl _) _).alloc (by simp) _).alloc (by simp only [World.size_alloc]; omega) _).alloc (by simp only [World.size_alloc]; omega) _
 have hs0 : W0.heap.size = B + 4:=by
  subst hB hW0;simp
 rw [hW0,← hB];have HB0:=hide hB0;have HE0:=hide hE0;refine (into_any (B + 2) (B + 3) B 4 4 63 (frmCells 0 0 0 0 none 0 0) s W0 hG0 hP0 hF0 (by simp [frmCells]) (by omega) (by omega) (by omega) (by omega)).mono ?_;have HBQ:=hide hB;clear hF0 hG0 hP0 hW0 hB0 hE0 hB;rintro e w1 (⟨hl,rfl,hg1,hf1,hb1⟩ | ⟨hl,rfl,⟨cs',hc',hf1⟩,hb1⟩)
 ·obtain ⟨W,H,S,O,t,rfl⟩:=cons4 hl
  have hrel0 : RdW w B W H S O [] [] none 0 0 t w1:=⟨hf1,hb1.blk HE0.out (by omega) (by omega),hg1,GRow.nil _ _ _ _ _,(fun e he=>by cases he),HB0.out.trans (hb1.below (by omega) (by omega) (by omega)),rfl⟩;have HR0:=hide hrel0;clear hg1 hf1 hb1 hrel0 HE0;go_wp2_with fail;refine (number_any (B + 2) 1 t w1 HR0.out.glass (by omega)).mono ?_;rintro e w2 (⟨hl2,rfl,hg2,hb2⟩ | ⟨hl2,rfl,hb2⟩)
  ·obtain ⟨cnt,t,rfl⟩:=cons1 hl2
   obtain ⟨N,hN⟩ : ∃ N : Nat,cnt = (N : Int):=⟨cnt.toNat,by have:=HY.out cnt (by simp); omega⟩;have hn1 : numB ([cnt]) = (N : Int):=by rw [hN]; simp [numB]
   have hcb : N ≤ 255:=by have:=HY.out cnt (by simp); omega
   have hrd:=rdFrm_map W H S O N t;rw [← hN] at hrd;have HRD:=hide hrd;have HYT:=hide (show Bytes t from fun x hx=>HY.out x (by simp [hx]));have HR1:=hide (HR0.out.grow hb2 hg2);rw [show List.take 1 (cnt :: t) = [cnt] from rfl,hn1];rw [show List.drop 1 (cnt :: t) = t from rfl] at HR1;clear hg2 hb2 hn1 hrd HR0 hl2 hl;generalize W :: H :: S :: O :: cnt :: t = s at *;clear hN cnt;go_wp2_with fail;go_loopw [5,6,24] (fun _ _ s24 wr=>∃ (i : Nat) (ps : List Pas) (es : List (List Value × Option Addr × List Value)) (A : Option Addr) (c : Nat) (u : List Int),i ≤ N ∧ s24 = .int .i64 (i : Int) ∧ Hid (RdW w B W H S O ps es A i c u wr) ∧ Hid (rdPs N t = (rdPs (N - i) u).map fun x=>(ps ++ x.1,x.2)) ∧ Hid (Bytes u)) (fun _ _ s24 _=>N - (intOf s24).toNat)
   case atStart=>exact ⟨0,[],[],none,0,t,Nat.zero_le _,rfl,HR1,hide (by simp),HYT⟩
   case round =>
    obtain ⟨i,ps,es,A,c,u,hi,rfl,HR,HQ,HYU⟩:=hrel;obtain ⟨wo,rfl⟩ : ∃ wo : World,wo = wr:=⟨_,rfl⟩;by_cases hlt : i < N
    ·have hi0 : (0 : Int) ≤ (i : Int):=by omega
     have hi1 : (i : Int) < (N : Int):=by omega
     obtain ⟨M0,hM0⟩ : ∃ M0,N - i = M0 + 1:=⟨N - i - 1,by omega⟩;have HM0:=hide hM0;have HNO:=hide (fun h : rdPas u = none=>(show readFrm s = none from read_short (by rw [HRD.out,HQ.out,hM0,rdPs_stop h]; rfl)));have hsz:=HR.out.below.size;have hgl:=HR.out.glass;have hgb : B + 2 < wo.heap.size:=by obtain ⟨z9,_,h9⟩:=hgl; exact h9.lt
     clear hM0;go_wp2_with fail;obtain ⟨pb,hpb⟩ : ∃ pb,wo.heap.size = pb:=⟨_,rfl⟩;have hb1 : Below wo.heap.size wo ((wo.alloc (.cells #[.int .i64 0,.int .i64 0,.int .i64 0,.int .i64 0,.int .i64 0,.slice none 0 0] 110)).alloc (.cells #[.pointer (some ⟨wo.heap.size,0,none⟩),.pointer (some ⟨wo.heap.size,1,none⟩),.pointer (some ⟨wo.heap.size,2,none⟩),.pointer (some ⟨wo.heap.size,3,none⟩)] 101)):=((Below.refl _ _).alloc (Nat.le_refl _) _).alloc (by simp) _;have hF1 : Blk ((wo.alloc (.cells #[.int .i64 0,.int .i64 0,.int .i64 0,.int .i64 0,.int .i64 0,.slice none 0 0] 110)).alloc (.cells #[.pointer (some ⟨wo.heap.size,0,none⟩),.pointer (some ⟨wo.heap.size,1,none⟩),.pointer (some ⟨wo.heap.size,2,none⟩),.pointer (some ⟨wo.heap.size,3,none⟩)] 101)) pb 110 (passCells ⟨0,0,0,0,0,[]⟩ none 0 0):=(Blk.newE (cs:=passCells ⟨0,0,0,0,0,[]⟩ none 0 0) hpb).alloc _;have hP1 : Blk ((wo.alloc (.cells #[.int .i64 0,.int .i64 0,.int .i64 0,.int .i64 0,.int .i64 0,.slice none 0 0] 110)).alloc (.cells #[.pointer (some ⟨wo.heap.size,0,none⟩),.pointer (some ⟨wo.heap.size,1,none⟩),.pointer (some ⟨wo.heap.size,2,none⟩),.pointer (some ⟨wo.heap.size,3,none⟩)] 101)) (pb + 1) 101 (ptrsTo pb 4):=by rw [← hpb]; exact Blk.newE (cs:=ptrsTo wo.heap.size 4) (by simp)
     rw [hpb] at hgb;refine (into_any (B + 2) (wo.heap.size + 1) wo.heap.size 4 4 110 (passCells ⟨0,0,0,0,0,[]⟩ none 0 0) u _ (hgl.keep hb1) (by rw [hpb]; rw [hpb] at hP1; exact hP1) (by rw [hpb]; rw [hpb] at hF1; exact hF1) (by simp [passCells]) (by omega) (by omega) (by omega) (by omega)).mono ?_;rintro e w3 (⟨hl3,rfl,hg3,hf3,hb3⟩ | ⟨hl3,rfl,-,hb3⟩)
     ·obtain ⟨op,to_,a,b,u1,rfl⟩:=cons4 hl3
      have hgr3:=hb3.grown (grown_ofB hb1 _) (Nat.le_refl _);rw [hpb] at hf3;have HF3:=hide (show Blk w3 pb 110 (passCells ⟨op,to_,a,b,0,[]⟩ none 0 0) from hf3);have HG3:=hide (show GlassAt w3 (B + 2) u1 from hg3);have HGR3:=hide hgr3;have HPB:=hide hpb;rw [hpb];clear hb3 hF1 hP1 hb1 hgl hpb hf3 hg3 hgr3 hl3;go_wp2_with fail;refine (number_any (B + 2) 3 u1 w3 HG3.out (by omega)).mono ?_;rintro e w4 (⟨hl4,rfl,hg4,hb4⟩ | ⟨hl4,rfl,hb4⟩)
      ·obtain ⟨k1,k2,k3,u2,rfl⟩:=cons3 hl4
       have hkk : numB (List.take 3 (k1 :: k2 :: k3 :: u2)) = (k1 * 256 + k2) * 256 + k3:=by simp [numB]
       rw [hkk];have hf4:=HF3.out.other hb4 (by omega);have HF4:=hide hf4;have c4 : w4.cell? ⟨pb,4,none⟩ = some (.int .i64 0):=(hf4.cell 4).trans rfl;have f4:=hf4.frozen 4;obtain ⟨kv,hkv⟩ : ∃ kv,(k1 * 256 + k2) * 256 + k3 = kv:=⟨_,rfl⟩
       have hkb : 0 ≤ kv ∧ kv < 16777216:=by
        have h1:=HYU.out k1 (by simp);have h2:=HYU.out k2 (by simp);have h3:=HYU.out k3 (by simp);omega
       rw [hkv];have HKV:=hide hkv;clear hkk hf4 hkv;obtain ⟨kk,hkk⟩ : ∃ kk,wrap64 (kv * 1099511627776) / 1099511627776 = kk:=⟨_,rfl⟩;have HKK:=hide (show kk = sgn kv from by rw [← hkk]; exact sgn_shift hkb.1 hkb.2);go_wp2_with fail;clear hkk
       have hg5 : GlassAt (w4.setCell ⟨pb,4,none⟩ (.int .i64 kk)) (B + 2) u2:=by
        obtain ⟨z9,h8,h9⟩:=hg4;exact ⟨z9,h8,h9.far (by simp only; omega) _⟩
       refine (number_any (B + 2) 1 u2 _ hg5 (by omega)).mono ?_;have hgr5 : wo.grownBy (w4.setCell ⟨pb,4,none⟩ (.int .i64 kk)) (some (B + 2)):=grown_setW (grown_trB HGR3.out hb4) (by rw [HPB.out]; exact Nat.le_refl _) _;rintro e w6 (⟨hl6,rfl,hg6,hb6⟩ | ⟨hl6,rfl,hb6⟩)
       ·obtain ⟨cn,u3,rfl⟩:=cons1 hl6
        obtain ⟨M,hM⟩ : ∃ M : Nat,cn = (M : Int):=⟨cn.toNat,by have:=HYU.out cn (by simp); omega⟩;have hm1 : numB (List.take 1 (cn :: u3)) = (M : Int):=by rw [hM]; simp [numB]
        have hmb : M ≤ 255:=by have:=HYU.out cn (by simp); omega
        rw [hm1];have hf6 : Blk w6 pb 110 (passCells ⟨op,to_,a,b,kk,[]⟩ none 0 0):=Blk.other (show Blk (w4.setCell ⟨pb,4,none⟩ (.int .i64 kk)) pb 110 (passCells ⟨op,to_,a,b,kk,[]⟩ none 0 0) from HF4.out.set_ 4 _) hb6 (by omega);have HLD:=hide (show LdW wo pb (B + 2) op to_ a b kk [] none 0 0 u3 w6 from ⟨hf6,Own.nil _ _ _ _,hg6,grown_trB hgr5 hb6,by rw [HPB.out]; exact Nat.le_refl _,by rw [HPB.out]; exact hgb,rfl⟩);have HRP:=hide (show rdPas (op :: to_ :: a :: b :: k1 :: k2 :: k3 :: cn :: u3) = (rdLamps M u3).map fun x=>(⟨op,to_,a,b,kk,x.1⟩,x.2) from by rw [hM,rdPas_map,HKV.out,HKK.out]);have HYV:=hide (show Bytes u3 from fun x hx=>HYU.out x (by simp [hx]));generalize hu : op :: to_ :: a :: b :: k1 :: k2 :: k3 :: cn :: u3 = uu at *;clear hu hm1 hf6 hg6 hb6 hgr5 hg5 hb4 hg4 hl4 hl6 c4 f4 HF4 HF3 HG3 HGR3 hM HKV HKK hkb;go_wp2_with fail;go_loopw [6,40] (fun _ s40 wr=>∃ (j : Nat) (ls : List Lamp) (LB : Option Addr) (d : Nat) (v : List Int),j ≤ M ∧ s40 = .int .i64 (j : Int) ∧ Hid (LdW wo pb (B + 2) op to_ a b kk ls LB j d v wr) ∧ Hid (rdLamps M u3 = (rdLamps (M - j) v).map fun x=>(ls ++ x.1,x.2)) ∧ Hid (Bytes v)) (fun _ s40 _=>M - (intOf s40).toNat)
        case atStart=>exact ⟨0,[],none,0,u3,Nat.zero_le _,rfl,HLD,hide (by simp),HYV⟩
        case round =>
         obtain ⟨j,ls,LB,d,v,hj,rfl,HLW,HQL,HYW⟩:=hrel;obtain ⟨wq,rfl⟩ : ∃ wq : World,wq = wr:=⟨_,rfl⟩;have hpd:=HLW.out.pas.lt;have hgq : B + 2 < wq.heap.size:=by obtain ⟨z9,_,h9⟩:=HLW.out.glass; exact h9.lt
         by_cases hlm : j < M
         ·have hj0 : (0 : Int) ≤ (j : Int):=by omega
          have hj1 : (j : Int) < (M : Int):=by omega
          obtain ⟨M1,hM1⟩ : ∃ M1,M - j = M1 + 1:=⟨M - j - 1,by omega⟩;have HM1:=hide hM1;have HNL:=hide (fun h : rdLamp v = none=>(show readFrm s = none from HNO.out (by rw [HRP.out,HQL.out,hM1,rdLamps_stop h]; rfl)));clear hM1;go_wp2_with fail;have hb7 : Below wq.heap.size wq ((wq.alloc (.cells #[.int .i64 0,.int .i64 0,.int .i64 0,.int .i64 0] 59)).alloc (.cells #[.pointer (some ⟨wq.heap.size,0,none⟩),.pointer (some ⟨wq.heap.size,1,none⟩),.pointer (some ⟨wq.heap.size,2,none⟩)] 101)):=((Below.refl _ _).alloc (Nat.le_refl _) _).alloc (by simp) _;have hF7 : Blk ((wq.alloc (.cells #[.int .i64 0,.int .i64 0,.int .i64 0,.int .i64 0] 59)).alloc (.cells #[.pointer (some ⟨wq.heap.size,0,none⟩),.pointer (some ⟨wq.heap.size,1,none⟩),.pointer (some ⟨wq.heap.size,2,none⟩)] 101)) wq.heap.size 59 (lampCells ⟨0,0,0,0⟩):=(Blk.new wq 59 (lampCells ⟨0,0,0,0⟩)).alloc _;have hP7 : Blk ((wq.alloc (.cells #[.int .i64 0,.int .i64 0,.int .i64 0,.int .i64 0] 59)).alloc (.cells #[.pointer (some ⟨wq.heap.size,0,none⟩),.pointer (some ⟨wq.heap.size,1,none⟩),.pointer (some ⟨wq.heap.size,2,none⟩)] 101)) (wq.heap.size + 1) 101 (ptrsTo wq.heap.size 3):=Blk.newE (cs:=ptrsTo wq.heap.size 3) (by simp);refine (into_any (B + 2) (wq.heap.size + 1) wq.heap.size 3 3 59 (lampCells ⟨0,0,0,0⟩) v _ (HLW.out.glass.keep hb7) hP7 hF7 (by simp [lampCells]) (by omega) (by omega) (by omega) (by omega)).mono ?_;rintro e w7 (⟨hl7,rfl,hg7,hf7,hb8⟩ | ⟨hl7,rfl,-,hb8⟩)
          ·obtain ⟨lx,ly,lr,v1,rfl⟩:=cons3 hl7
           have hgr7:=hb8.grown (grown_ofB hb7 _) (Nat.le_refl _);have HF7:=hide (show Blk w7 wq.heap.size 59 (lampCells ⟨lx,ly,lr,0⟩) from hf7);have HG7:=hide (show GlassAt w7 (B + 2) v1 from hg7);have HGR7:=hide hgr7;clear hb8 hF7 hP7 hb7 hf7 hg7 hgr7 hl7;go_wp2_with fail;refine (number_any (B + 2) 2 v1 w7 HG7.out (by omega)).mono ?_;rintro e w8 (⟨hl8,rfl,hg8,hb8⟩ | ⟨hl8,rfl,hb8⟩)
           ·obtain ⟨p1,p2,v2,rfl⟩:=cons2 hl8
            have hpp : numB (List.take 2 (p1 :: p2 :: v2)) = p1 * 256 + p2:=by simp [numB]
            rw [hpp];obtain ⟨pw,hpw⟩ : ∃ pw,p1 * 256 + p2 = pw:=⟨_,rfl⟩;rw [hpw];have hf8:=HF7.out.other hb8 (by omega);have HF8:=hide (show Blk (w8.setCell ⟨wq.heap.size,3,none⟩ (.int .i64 pw)) wq.heap.size 59 (lampCells ⟨lx,ly,lr,pw⟩) from hf8.set_ 3 _)
            have hgs : GlassAt (w8.setCell ⟨wq.heap.size,3,none⟩ (.int .i64 pw)) (B + 2) v2:=by
             obtain ⟨z9,h8,h9⟩:=hg8;exact ⟨z9,h8,h9.far (by simp only; omega) _⟩
            have hgr9 : wq.grownBy (w8.setCell ⟨wq.heap.size,3,none⟩ (.int .i64 pw)) (some (B + 2)):=grown_setW (grown_trB HGR7.out hb8) (Nat.le_refl _) _;have HL9:=hide (HLW.out.grow hgr9 hgs);have c8 : w8.cell? ⟨wq.heap.size,3,none⟩ = some (.int .i64 0):=(hf8.cell 3).trans rfl;have f8:=hf8.frozen 3;have HRL:=hide (show rdLamp (lx :: ly :: lr :: p1 :: p2 :: v2) = some (⟨lx,ly,lr,pw⟩,v2) from by rw [← hpw]; rfl);have HYX:=hide (show Bytes v2 from fun x hx=>HYW.out x (by simp [hx]));have c9 : (w8.setCell ⟨wq.heap.size,3,none⟩ (.int .i64 pw)).cell? ⟨pb,5,none⟩ = some (.slice LB j d):=(HL9.out.pas.cell 5).trans rfl;have l0 : (w8.setCell ⟨wq.heap.size,3,none⟩ (.int .i64 pw)).cell? ⟨wq.heap.size,0,none⟩ = some (.int .i64 lx):=(HF8.out.cell 0).trans rfl;have l1 : (w8.setCell ⟨wq.heap.size,3,none⟩ (.int .i64 pw)).cell? ⟨wq.heap.size,1,none⟩ = some (.int .i64 ly):=(HF8.out.cell 1).trans rfl;have l2 : (w8.setCell ⟨wq.heap.size,3,none⟩ (.int .i64 pw)).cell? ⟨wq.heap.size,2,none⟩ = some (.int .i64 lr):=(HF8.out.cell 2).trans rfl;have l3 : (w8.setCell ⟨wq.heap.size,3,none⟩ (.int .i64 pw)).cell? ⟨wq.heap.size,3,none⟩ = some (.int .i64 pw):=(HF8.out.cell 3).trans rfl;generalize hv : lx :: ly :: lr :: p1 :: p2 :: v2 = vv at *;clear hpp hf8 hgs hgr9 hg8 hb8 hl8 HF7 HG7 HGR7 hpw hv;have hsz9 : pb + 1 ≤ (w8.setCell ⟨wq.heap.size,3,none⟩ (.int .i64 pw)).heap.size:=HL9.out.pas.lt;go_wp2_with (at_builtin; go_loud (refine wpList_app1H (w8.setCell ⟨wq.heap.size,3,none⟩ (.int .i64 pw)) w8.heap.size (by simp [World.setCell]) rfl _ _ 45 rfl (pb + 1) 59 l0i _ 4 32 Try.underlying45 hli lz0 lz1 lz2 rfl (by omega) LB j d _ (lampCells ⟨lx,ly,lr,pw⟩) rfl HL9.out.row rfl rfl (lamp_one _) (by omega) (by omega) hsz9 ?_; intro LC d2 w9 hown9 hg9; have hp9:=Blk.grown (HL9.out.pas.alloc (.cells (lampCells ⟨lx,ly,lr,pw⟩).toArray 59)) (HL9.out.row.alloc _) hg9 (Nat.lt_succ_self _); have s5 : w9.cell? ⟨pb,5,none⟩ = some (.slice LB j d):=(hp9.cell 5).trans rfl; have f5:=hp9.frozen 5))
            have HLX:=hide (HL9.out.app (l:=⟨lx,ly,lr,pw⟩) hown9 hg9);go_roundw
            case rel=>exact ⟨j + 1,ls ++ [⟨lx,ly,lr,pw⟩],LC,d2,v2,by omega,by go_num,HLX,hide (by rw [HQL.out,HM1.out,rdLamps_step HRL.out,show M - (j + 1) = M1 from by have:=HM1.out; omega]; cases rdLamps M1 v2 <;> simp),HYX⟩
            case measure=>simp [intOf]; omega
           ·obtain ⟨z1,z2,z3⟩:=HR.out.thrown (grown_trB HLW.out.grown (grown_trB HGR7.out hb8))
            clear hb8;go_wp2_with fail;exact read_thrown _ B rfl rfl s w w8 HBQ.out (HNL.out (lamp_short (by simp; omega))) HL.out _ rfl z1 _ z2 z3
          ·obtain ⟨z1,z2,z3⟩:=HR.out.thrown (grown_trB HLW.out.grown (hb8.grown (grown_ofB hb7 _) (Nat.le_refl _)))
           clear hb8 hF7 hP7 hb7;go_wp2_with fail;exact read_thrown _ B rfl rfl s w w7 HBQ.out (HNL.out (lamp_short (by omega))) HL.out _ rfl z1 _ z2 z3
         ·obtain rfl : j = M:=by omega
          have HR9:=hide (HR.out.grow HLW.out.grown HLW.out.glass);have HRQ:=hide (show rdPas uu = some (⟨op,to_,a,b,kk,ls⟩,v) from by rw [HRP.out,HQL.out]; simp [rdLamps]);obtain ⟨x,q0,q1,q2,q3,q4⟩:=FrmBox.cells (show FrmBox _ _ W H S O A i c from HR9.out.out);obtain ⟨y,y0,y1,y2,y3,y4,y5⟩:=PasBox.cells (show PasBox wq pb ⟨op,to_,a,b,kk,ls⟩ LB j d from HLW.out.pas);have hsz9 : B + 3 ≤ wq.heap.size:=by omega
          have hi9 : i ≤ 255:=by omega
          clear HRP HQL;go_wp2_with (at_builtin; go_loud (refine wpList_app1A wq wq.heap.size rfl rfl _ _ 61 rfl (B + 3) 110 p0i _ 6 64 Try.underlying61 hpi pz0 pz1 pz2 rfl (by omega) A i c _ (passCells ⟨op,to_,a,b,kk,ls⟩ LB j d) rfl HR9.out.row.own rfl rfl (pas_one _ _ _ _) (by omega) (by omega) hsz9 ?_; intro A9 c9 w9 hown9 hg9 hat9; have hob9:=Blk.grown (HR9.out.out.alloc (.cells (passCells ⟨op,to_,a,b,kk,ls⟩ LB j d).toArray 110)) (HR9.out.row.own.alloc _) hg9 (by omega); obtain ⟨s,t0,t1,t2,t3,t4⟩:=FrmBox.cells (show FrmBox _ B W H S O A i c from hob9); have s5:=Blk.frozen hob9 4))
          have HRX:=hide (HR.out.app HLW.out (by omega) hown9 hg9 hat9);exact ⟨⟨i + 1,_,_,A9,c9,v,by omega,by go_num,HRX,hide (by rw [HQ.out,HM0.out,rdPs_step HRQ.out,show N - (i + 1) = M0 from by have:=HM0.out; omega]; cases rdPs M0 v <;> simp),HYW⟩,by simp [intOf]; omega⟩
       ·obtain ⟨z1,z2,z3⟩:=HR.out.thrown (grown_trB hgr5 hb6)
        clear hb6 hgr5 hg5 hb4 hg4 c4 f4;go_wp2_with fail;exact read_thrown _ B rfl rfl s w w6 HBQ.out (HNO.out (pas_short (by simp; omega))) HL.out _ rfl z1 _ z2 z3
      ·obtain ⟨z1,z2,z3⟩:=HR.out.thrown (grown_trB HGR3.out hb4)
       clear hb4;go_wp2_with fail;exact read_thrown _ B rfl rfl s w w4 HBQ.out (HNO.out (pas_short (by simp; omega))) HL.out _ rfl z1 _ z2 z3
     ·obtain ⟨k1,k2,k3⟩:=HR.out.thrown (hb3.grown (grown_ofB hb1 _) (Nat.le_refl _))
      clear hb3 hF1 hP1 hb1 hgl hpb;go_wp2_with fail;exact read_thrown _ B rfl rfl s w w3 HBQ.out (HNO.out (pas_short (by omega))) HL.out _ rfl k1 _ k2 k3
    ·obtain rfl : i = N:=by omega
     have hfr : rdFrm s = some (⟨W,H,S,O,ps⟩,u):=by rw [HRD.out,HQ.out]; simp [rdPs]
     have HFR:=hide hfr;obtain ⟨zz,hzz,hbz⟩:=HR.out.glass;have cz : wo.cell? ⟨B + 1 + 1,0,none⟩ = some (.string zz):=(hbz.cell 0).trans rfl;obtain ⟨x,q0,q1,q2,q3,q4⟩:=FrmBox.cells (show FrmBox _ _ W H S O A i c from HR.out.out);have HZZ:=hide hzz;have HBZ:=hide hbz;clear hzz hbz hfr;by_cases hu : u = []
     ·have hz0 : zz = ⟨#[]⟩:=strL_inj (by rw [HZZ.out,hu]; rfl)
      subst hz0;have HU:=hide hu;have HCK:=hide (frameCheck_any W H S O A i c ps wo HR.out.len HR.out.row.passesW);obtain ⟨er,her⟩ : ∃ er,frErr ⟨W,H,S,O,ps⟩ = er:=⟨_,rfl⟩;rw [her] at HCK;have HER:=hide her;clear hu her;go_wp2_with fail;refine (unhide HCK).mono ?_;rintro e w5 ⟨rfl,hE5⟩;have hr5:=HR.out.grow (grown_ofB hE5 _) (HR.out.glass.keep hE5);obtain ⟨x',p0,p1,p2,p3,p4⟩:=FrmBox.cells (show FrmBox _ _ W H S O A i c from hr5.out);have g0:=Blk.frozen hr5.out 0;have g1:=Blk.frozen hr5.out 1;have g2:=Blk.frozen hr5.out 2;have g3:=Blk.frozen hr5.out 3;have g4:=Blk.frozen hr5.out 4;have e0 : w5.cell? ⟨B + 1,0,none⟩ = some (.int .i64 0):=(hr5.err.cell 0).trans rfl;have h0:=Blk.frozen hr5.err 0;have HR5:=hide hr5;clear hE5 hr5 x q0 q1 q2 q3 q4 cz;by_cases hz : er = 0
      ·subst hz
       have hrf : readFrm s = some ⟨W,H,S,O,ps⟩:=by
        unfold readFrm;rw [HFR.out,HU.out];simp only [HER.out,if_true]
       have HRF:=hide (show readF s = ⟨W,H,S,O,ps⟩ ∧ readZ s = 0 from by unfold readF readZ; rw [if_neg HL.out,if_neg HL.out,hrf]; exact ⟨rfl,rfl⟩);clear hrf;go_wp2_with fail
       have hF : Blk ((((((w5.setCell ⟨B,0,none⟩ (.int .i64 W)).setCell ⟨B,1,none⟩ (.int .i64 H)).setCell ⟨B,2,none⟩ (.int .i64 S)).setCell ⟨B,3,none⟩ (.int .i64 O)).setCell ⟨B,4,none⟩ (.slice A i c)).setCell ⟨B + 1,0,none⟩ (.int .i64 0)) B 63 (frmCells W H S O A i c) :=
        (((((HR5.out.out.set_ 0 (.int .i64 W)).set_ 1 (.int .i64 H)).set_ 2 (.int .i64 S)).set_ 3 (.int .i64 O)).set_ 4 (.slice A i c)).far (p:=⟨B + 1,0,none⟩) (by simp) _
       have hE : Blk ((((((w5.setCell ⟨B,0,none⟩ (.int .i64 W)).setCell ⟨B,1,none⟩ (.int .i64 H)).setCell ⟨B,2,none⟩ (.int .i64 S)).setCell ⟨B,3,none⟩ (.int .i64 O)).setCell ⟨B,4,none⟩ (.slice A i c)).setCell ⟨B + 1,0,none⟩ (.int .i64 0)) (B + 1) 25 [.int .i64 0] :=
        (((((HR5.out.err.far (p:=⟨B,0,none⟩) (by simp) _).far (p:=⟨B,1,none⟩) (by simp) _).far (p:=⟨B,2,none⟩) (by simp) _).far (p:=⟨B,3,none⟩) (by simp) _).far (p:=⟨B,4,none⟩) (by simp) _).set_ 0 _
       have hrow:=(((((HR5.out.row.farW HR5.out.new (p:=⟨B,0,none⟩) (by simp only; omega) (.int .i64 W)).farW HR5.out.new (p:=⟨B,1,none⟩) (by simp only; omega) (.int .i64 H)).farW HR5.out.new (p:=⟨B,2,none⟩) (by simp only; omega) (.int .i64 S)).farW HR5.out.new (p:=⟨B,3,none⟩) (by simp only; omega) (.int .i64 O)).farW HR5.out.new (p:=⟨B,4,none⟩) (by simp only; omega) (.slice A i c)).farW HR5.out.new (p:=⟨B + 1,0,none⟩) (by simp only; omega) (.int .i64 0);have hbw:=(((((HR5.out.below.setCell (p:=⟨B,0,none⟩) (Nat.le_refl _) (.int .i64 W)).setCell (p:=⟨B,1,none⟩) (Nat.le_refl _) (.int .i64 H)).setCell (p:=⟨B,2,none⟩) (Nat.le_refl _) (.int .i64 S)).setCell (p:=⟨B,3,none⟩) (Nat.le_refl _) (.int .i64 O)).setCell (p:=⟨B,4,none⟩) (Nat.le_refl _) (.slice A i c)).setCell (p:=⟨B + 1,0,none⟩) (by simp) (.int .i64 0);refine leaves_cons (f:=80) (args:=#[.pointer (some ⟨B,0,none⟩),.pointer (some ⟨B + 1,0,none⟩)]) (by simp) (by simp [go_sem]) ?_;refine (catch_idle _ _ _).mono ?_;rintro r u' w'' ⟨rfl,rfl,rfl⟩;rw [HRF.out.1,HRF.out.2];exact ⟨_,read_results _ B (B + 1) rfl rfl W H S O 0 A i c _ hF hE,A,i,c,rfl,HR5.out.len,hrow.passesW,by rw [← HBQ.out]; exact hbw⟩
      ·have hz2 : (er != 0) = true:=by simpa using hz
       have hrf : readFrm s = none:=by
        unfold readFrm;rw [HFR.out,HU.out];simp only;rw [if_neg (by rw [HER.out]; exact hz)]
       have HRF:=hide hrf;clear hz hrf;go_wp2_with fail;exact read_thrown _ B rfl rfl s w w5 HBQ.out HRF.out HL.out _ rfl HR5.out.out _ HR5.out.err HR5.out.below
     ·have hze : zz.toList.isEmpty = false:=by
       rw [ByteArray.toList_eq]
       cases hd : zz.data.toList with
       | nil=>exact absurd (by rw [← HZZ.out]; unfold strL; rw [hd]; rfl) hu
       | cons _ _=>rfl
      have hrf : readFrm s = none:=by
       unfold readFrm;rw [HFR.out]
       cases u with
       | nil=>exact absurd rfl hu
       | cons _ _=>rfl
      have HRF:=hide hrf;have HT:=hide (HR.out.thrown (w':=wo) (grown_ofB (Below.refl _ _) _));clear hu hrf;go_wp2_with fail;exact read_thrown _ B rfl rfl s w wo HBQ.out HRF.out HL.out _ rfl HT.out.1 _ HT.out.2.1 HT.out.2.2
  ·go_wp2_with fail
   exact read_thrown _ B rfl rfl _ w w2 HBQ.out (read_short (rd_short (by simp; omega))) HL.out _ rfl (HR0.out.out.other hb2 (by omega)) _ (HR0.out.err.other hb2 (by omega)) (HR0.out.below.trans (below_of_grown hb2 (by have:=HR0.out.out.lt; omega) (by omega)))
 ·go_wp2_with fail
  exact read_thrown _ B rfl rfl s w w1 HBQ.out (read_short (rd_short (by omega))) HL.out cs' (by rw [hc']; rfl) hf1 (.int .i64 0) (hb1.blk HE0.out (by omega) (by omega)) (HB0.out.trans (hb1.below (by omega) (by omega) (by omega)))
theorem read_any (z : ByteArray) (w : World) : Calls Try.prog 40 #[.string z] w (RetFrm w (readF (strL z)) (readZ (strL z))):=by
 by_cases h : 2048 < (strL z).length
 ·exact read_many z w h
 ·exact read_few z w h
end Go.Proofs.Ytibpmogmeoappaa
