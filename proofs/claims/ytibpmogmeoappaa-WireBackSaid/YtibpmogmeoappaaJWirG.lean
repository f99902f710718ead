/- Walk: FrameBytes (of the reference). -/
import Derived.Test.YtibpmogmeoappaaJWirA
import Derived.Test.YtibpmogmeoappaaJWirF
import Derived.Test.YtibpmogmeoappaaJFrmC
set_option maxRecDepth 100000
set_option maxHeartbeats 8000000
namespace Go.Proofs.Ytibpmogmeoappaa
open Go.RowKit
theorem wpList_appN {P : Program} (w0 : World) (k : Nat) (hk : 0 < k) {ops : Array Oper} {rest : List Oper} {o : Oper} {a : Act} {Q : Exit → Act → World → Prop} (hgd : o.guard = none) (s x : Operand) (t : TypeId)
 (ho : o.op = .call { callee:=.builtin .append,args:=#[s,x],argTypes:=#[t,t] })
 (base : Nat) (e : TypeId) (i : TypeInfo) (z : Value) (bytes : Nat) (ht : P.underlying t = some (.slice e)) (hi : P.info? e = some i) (hz : i.zero = some z)
 (hsize : i.size = 1) (hby : i.bytes = bytes) (hzs : z.cells.size = 1)
 (A : Option Addr) (n c : Nat) (cs news : List Value) (hs : a.eval s = .slice A n c) (hown : Own w0 base e 1 A n c cs)
 (hx : a.eval x = .slice (some ⟨w0.heap.size,0,none⟩) k k) (hl : news.length = k) (h1 : ∀ u ∈ news,u.oneCell' = true)
 (h63 : n + k ≤ 1073741824) (hbytes : bytes ≤ 65536) (hbase : base ≤ w0.heap.size)
 (h : ∀ A' c' w',Own w' base e 1 A' (n + k) c' (cs ++ news) → (w0.alloc (.cells news.toArray e)).grownBy w' (Value.slice A n c).ownBlock → wpList P ops Q rest (a.put o.dst (.slice A' (n + k) c')) w') :
 wpList P ops Q (o :: rest) a (w0.alloc (.cells news.toArray e)):=by
 refine wpList_append_own _ hgd s x t ho base e i z 1 bytes ht hi hz hsize hby hzs (by omega) (.slice A n c) n cs hs (hown.alloc _) ⟨w0.heap.size,0,none⟩ k k news hx (by omega) ?_ h1 (by unfold maxLen; omega) ?_ (by simp; omega) ?_
 ·intro j u hu
  rw [Addr.add_lit,Nat.zero_add,(Blk.new w0 e news).cell];exact hu
 ·have h2 : (n + k) * bytes ≤ 1073741825 * 65536:=Nat.mul_le_mul (by omega) hbytes
  omega
 ·intro v' w' hown' hg _
  have hform : ∃ A' c',v' = .slice A' (n + k) c':=by
   rcases hown'.2 with ⟨_,h0⟩ | ⟨g,cap,cur,hv,_⟩
   ·omega
   ·exact ⟨_,_,hv⟩
  obtain ⟨A',c',rfl⟩:=hform;exact h A' c' w' hown' hg
def RetStr (w : World) (l : List Int) (e : Ending) (w' : World) : Prop:=e = .returned (.string (mkS l)) ∧ Below w.heap.size w w'
theorem own_string {w : World} {base : Nat} {l : List Int} {A : Option Addr} {n c : Nat} (h : Own w base 5 1 A n c (l.map (.int .u8))) : (convert 105 9 (.slice A n c)).run Try.prog w = .ok (.string (mkS l)) w:=by
 have hn:=h.len;rw [List.length_map,Nat.mul_one] at hn;rcases h.2 with ⟨e0,h0⟩ | ⟨g,cap,cur,hv,_⟩
 ·injection e0 with e1 e2
  subst e1;have hl : l = []:=List.length_eq_zero_iff.1 (by omega);subst hl;exact run_convert_bytes_nil w 105 5 Try.underlying105 Try.underlying5 n c 9 Try.underlying9
 ·injection hv with e1 e2 e3
  subst e1;refine run_convert_bytes_arg w 105 5 Try.underlying105 Try.underlying5 g 0 n c l hn (fun i hi=>?_) 9 Try.underlying9;obtain ⟨b,o,e,_,hc⟩:=h.cells i (by rw [List.length_map]; omega);injection e with e;injection e with e1 e2;subst e1 e2;rw [hc,List.getD_eq_getElem?_getD,List.getElem?_map,List.getElem?_eq_getElem (by omega),List.getD_eq_getElem?_getD,List.getElem?_eq_getElem (by omega)];rfl
structure KeptT (base : Nat) (w w' : World) : Prop where
 below : Below base w w'
 blk : ∀ g t cs,t ≠ 5 → Blk w g t cs → Blk w' g t cs
theorem KeptT.refl (base : Nat) (w : World) : KeptT base w w:=⟨Below.refl _ _,fun _ _ _ _ h=>h⟩
theorem KeptT.trans {base : Nat} {w w1 w2 : World} (h : KeptT base w w1) (k : KeptT base w1 w2) : KeptT base w w2:=⟨h.below.trans k.below,fun g t cs h1 h3=>k.blk g t cs h1 (h.blk g t cs h1 h3)⟩
theorem KeptT.alloc {base : Nat} {w w1 : World} (h : KeptT base w w1) (hp : base ≤ w1.heap.size) (o : Obj) : KeptT base w (w1.alloc o):=⟨h.below.alloc hp o,fun g t cs h1 h3=>(h.blk g t cs h1 h3).alloc o⟩
structure RowB (base : Nat) (w : World) (l : List Int) (A : Option Addr) (n c : Nat) (wr : World) : Prop where
 own : Own wr base 5 1 A n c (l.map (.int .u8))
 kept : KeptT base w wr
 len : n = l.length
theorem RowB.alloc {base : Nat} {w wr : World} {l : List Int} {A : Option Addr} {n c : Nat} (h : RowB base w l A n c wr) (hb : base ≤ wr.heap.size) (o : Obj) : RowB base w l A n c (wr.alloc o):=⟨h.own.alloc o,h.kept.alloc hb o,h.len⟩
theorem RowB.app {base : Nat} {w wr w2 : World} {l : List Int} {A A' : Option Addr} {n c c' k : Nat} {xs : List Int} (h : RowB base w l A n c wr) (hb : base ≤ wr.heap.size) (hk : xs.length = k)
 (ho : Own w2 base 5 1 A' (n + k) c' (l.map (.int .u8) ++ xs.map fun x=>.int .u8 (lowB x))) (hg : (wr.alloc (.cells (xs.map fun x=>Value.int .u8 (lowB x)).toArray 5)).grownBy w2 (Value.slice A n c).ownBlock) : RowB base w (l ++ xs.map lowB) A' (n + k) c' w2:=by
 refine ⟨?_,⟨Below.grownOwn (h.kept.below.alloc hb _) (h.own.alloc _) hg (by simp only [World.size_alloc]; omega) (Nat.le_refl _),fun g t cs h1 h3=>?_⟩,by rw [List.length_append,List.length_map,h.len,hk]⟩
 ·rw [List.map_append,List.map_map]
  exact ho
 ·have hk:=h.kept.blk g t cs h1 h3
  have hal:=hk.alloc (.cells (xs.map fun x=>Value.int .u8 (lowB x)).toArray 5);exact (hg.block g hal.lt (fun e=>type_apart h.own h1 hk e.symm)).trans hal
theorem frameBytes_ref (W H S O : Int) (PA : Option Addr) (n c : Nat) (pss : List Pas) (w : World) (hn : pss.length = n) (hP : Passes w PA pss) (hok : FrmOk ⟨W,H,S,O,pss⟩) :
 Calls Try.prog 39 #[.agg #[.int .i64 W,.int .i64 H,.int .i64 S,.int .i64 O,.slice PA n c]] w (RetStr w (frmBytes ⟨W,H,S,O,pss⟩)):=by
 obtain ⟨i0,hi0,hz0,hz1,hz2⟩:=info_parts Try.info5;have hb:=(Below.refl w.heap.size w).alloc (Nat.le_refl _) (.cells #[.int .i64 W,.int .i64 H,.int .i64 S,.int .i64 O,.slice PA n c] 63);have hbx:=(show FrmBox (w.alloc (.cells #[.int .i64 W,.int .i64 H,.int .i64 S,.int .i64 O,.slice PA n c] 63)) w.heap.size W H S O PA n c from Blk.new w 63 (frmCells W H S O PA n c));have hpp:=hP.keep hb;obtain ⟨w1,hw1⟩ : ∃ w1,w.alloc (.cells #[.int .i64 W,.int .i64 H,.int .i64 S,.int .i64 O,.slice PA n c] 63) = w1:=⟨_,rfl⟩;rw [hw1] at hb hbx hpp;have hs1 : w1.heap.size = w.heap.size + 1:=by rw [← hw1]; simp
 have hn12 : n ≤ 12:=by have:=hok.many; simp only [hn] at this; omega
 have HB:=hide hb;have HBX:=hide (Keeps.blk hbx);have HP:=hide (Keeps.passes hpp);have HN:=hide hn;have HFK:=hide hok;have hwu:=wrap_u8;obtain ⟨x,q0,q1,q2,q3,q4⟩:=FrmBox.cells (show FrmBox _ _ W H S O PA n c from hbx);clear hn hP hb hbx hpp hok;go_enter Try.func39,Try.ntmps39
 go_wp2_with fail
 have HB5:=hide (show RowB w1.heap.size w1 ([W,H,S,O,(n : Int)].map lowB) (some ⟨w1.heap.size,0,none⟩) 5 5 (w1.alloc (.cells #[.int .u8 (lowB W),.int .u8 (lowB H),.int .u8 (lowB S),.int .u8 (lowB O),.int .u8 (lowB (n : Int))] 5)) from
  ⟨⟨rfl,.inr ⟨w1.heap.size,5,#[.int .u8 (lowB W),.int .u8 (lowB H),.int .u8 (lowB S),.int .u8 (lowB O),.int .u8 (lowB (n : Int))],rfl,Nat.le_refl _,Blk.new w1 _ _,Nat.le_refl _,by unfold maxLen; omega,rfl,rfl⟩⟩,(KeptT.refl _ _).alloc (Nat.le_refl _) _,rfl⟩)
 clear x q0 q1 q2 q3 q4 hw1;go_loopw [3,4,5,6,7] (fun s3 s4 _ _ _ wr=>∃ (i : Nat) (A : Option Addr) (m d : Nat),i ≤ n ∧ s4 = .int .i64 (i : Int) ∧ s3 = .slice A m d ∧ Hid (RowB w1.heap.size w1 ([W,H,S,O,(n : Int)].map lowB ++ (pss.take i).flatMap pasBytes) A m d wr)) (fun _ s4 _ _ _ _=>n - (intOf s4).toNat)
 case atStart=>exact ⟨0,_,5,5,Nat.zero_le _,rfl,rfl,by have h:=HB5; rw [hs1] at h; simpa [hs1] using h⟩
 case round =>
  obtain ⟨i,A,m,d,hi,rfl,rfl,HRW⟩:=hrel;obtain ⟨wo,rfl⟩ : ∃ wo : World,wo = wr:=⟨_,rfl⟩;obtain ⟨x,q0,q1,q2,q3,q4⟩:=FrmBox.cells (show FrmBox _ _ W H S O PA n c from HBX.out.later _ HRW.out.kept.below);by_cases hlt : i < n
  ·have hi0' : (0 : Int) ≤ (i : Int):=by omega
   have hi1 : (i : Int) < (n : Int):=by omega
   have hil : i < pss.length:=by rw [HN.out]; exact hlt
   obtain ⟨b,o,LA,lm,ld,p,rfl,hb,hp,c0,c1,c2,c3',c4,c5,hm,hL,hml⟩:=HP.out.now.at_ i hil
   replace c0:=keepC HRW.out.kept.below c0
   replace c1:=keepC HRW.out.kept.below c1
   replace c2:=keepC HRW.out.kept.below c2
   replace c3':=keepC HRW.out.kept.below c3'
   replace c4:=keepC HRW.out.kept.below c4
   replace c5:=keepC HRW.out.kept.below c5
   have hi8 : lm ≤ 8:=by
    have:=(HFK.out.pass (k:=i) (by simp only [HN.out]; exact hlt)).fewW;rw [← hm,← hp];exact this
   have hlp : (([W,H,S,O,(n : Int)].map lowB ++ (pss.take i).flatMap pasBytes).length ≤ 600):=by
    have h1:=flatMap_bd (l:=pss.take i) (f:=pasBytes) (k:=48) (fun q hq=>by
     obtain ⟨j,hj,rfl⟩:=List.getElem_of_mem (List.mem_of_mem_take hq);have h2:=(HFK.out.pass (k:=j) hj).fewW;have e : (Frm.mk W H S O pss).pas j = pss[j]:=by show pss.getD j noPas = _; rw [List.getD_eq_getElem?_getD,List.getElem?_eq_getElem hj]; rfl
     rw [e] at h2;rw [pas_len]
     omega)
    rw [List.length_take] at h1;simp only [List.length_append,List.length_map,List.length_cons,List.length_nil];omega
   have hfm : (pss.take (i + 1)).flatMap pasBytes = (pss.take i).flatMap pasBytes ++ pasBytes p:=by
    rw [flatMap_snocW hil];have e : pss[i] = p:=by rw [← hp,List.getD_eq_getElem?_getD,List.getElem?_eq_getElem hil]; rfl
    rw [e]
   obtain ⟨l0,hl0⟩ : ∃ l0,[W,H,S,O,(n : Int)].map lowB ++ (pss.take i).flatMap pasBytes = l0:=⟨_,rfl⟩;rw [hl0] at HRW hlp;have hml2 : m ≤ 600:=by rw [HRW.out.len]; exact hlp
   have HLP:=hide hlp;have HFM:=hide (show [W,H,S,O,(n : Int)].map lowB ++ (pss.take (i + 1)).flatMap pasBytes = l0 ++ pasBytes p from by rw [hfm,← List.append_assoc,hl0]);have HLA:=hide (Keeps.lampsK hL);have HLM:=hide hm;have hws:=HRW.out.kept.below.size;have hrw1:=HRW.out.alloc hws (.cells #[.int .i64 p.Op,.int .i64 p.To,.int .i64 p.A,.int .i64 p.B,.int .i64 p.K,.slice LA lm ld] 110);have hpx1 : PasBox (wo.alloc (.cells #[.int .i64 p.Op,.int .i64 p.To,.int .i64 p.A,.int .i64 p.B,.int .i64 p.K,.slice LA lm ld] 110)) wo.heap.size p LA lm ld:=Blk.new wo 110 (passCells p LA lm ld);obtain ⟨wp,hwp⟩ : ∃ wp,wo.alloc (.cells #[.int .i64 p.Op,.int .i64 p.To,.int .i64 p.A,.int .i64 p.B,.int .i64 p.K,.slice LA lm ld] 110) = wp:=⟨_,rfl⟩;rw [hwp] at hrw1 hpx1;have hwps : wp.heap.size = wo.heap.size + 1:=by rw [← hwp]; simp
   have HR1:=hide hrw1;have HX1:=hide hpx1;obtain ⟨y,y0,y1,y2,y3,y4,y5⟩:=PasBox.cells hpx1;clear hp hm hL hlp hfm hl0 hil hrw1 hpx1;have hbs : w1.heap.size ≤ wp.heap.size:=by omega
   go_wp2_with (at_builtin; go_loud (refine wpList_appN wp 8 (by omega) rfl _ _ 105 rfl w1.heap.size 5 i0 _ 1 Try.underlying105 hi0 hz0 hz1 hz2 rfl A m d _ ([p.Op,p.To,p.A,p.B,p.K / 65536,p.K / 256,p.K,(lm : Int)].map fun x=>Value.int .u8 (lowB x)) rfl HR1.out.own (by rw [hwps]; rfl) rfl (fun u hu=>by obtain ⟨x,_,rfl⟩:=List.mem_map.1 hu; rfl) (by omega) (by omega) hbs ?_; intro A1 d1 w2 hown2 hg2))
   have hr2:=HR1.out.app hbs rfl hown2 hg2
   have hx2 : PasBox w2 wo.heap.size p LA lm ld:=by
    have hal:=HX1.out.alloc (.cells ([p.Op,p.To,p.A,p.B,p.K / 65536,p.K / 256,p.K,(lm : Int)].map fun x=>Value.int .u8 (lowB x)).toArray 5);exact (hg2.block _ hal.lt (fun e=>type_apart HR1.out.own (by decide) HX1.out e.symm)).trans hal
   have HR2:=hide hr2;have HX2:=hide hx2;clear hr2 hx2 hown2 hg2 y y0 y1 y2 y3 y4 y5 c0 c1 c2 c3' c4 c5 x q0 q1 q2 q3 q4;go_loopw [3,6,7] (fun s3 s6 _ wr=>∃ (j : Nat) (A : Option Addr) (m' d : Nat),j ≤ lm ∧ s6 = .int .i64 (j : Int) ∧ s3 = .slice A m' d ∧ Hid (RowB w1.heap.size w1 (l0 ++ [p.Op,p.To,p.A,p.B,p.K / 65536,p.K / 256,p.K,(lm : Int)].map lowB ++ (p.L.take j).flatMap lampBytes) A m' d wr) ∧ Hid (PasBox wr wo.heap.size p LA lm ld)) (fun _ s6 _ _=>lm - (intOf s6).toNat)
   case atStart=>exact ⟨0,A1,m + 8,d1,Nat.zero_le _,rfl,rfl,by simpa using HR2,HX2⟩
   case round =>
    obtain ⟨j,A5,m5,d5,hj,rfl,rfl,HRX,HXX⟩:=hrel;obtain ⟨y,y0,y1,y2,y3,y4,y5⟩:=PasBox.cells HXX.out;have hxs:=HRX.out.kept.below.size;by_cases hjl : j < lm
    ·have hj0 : (0 : Int) ≤ (j : Int):=by omega
     have hj1 : (j : Int) < (lm : Int):=by omega
     have hjm : j < p.L.length:=by rw [HLM.out]; exact hjl
     obtain ⟨lb,lo,q,rfl,hlb,hq,a0,a1,a2,a3⟩:=HLA.out.now.at_ j hjm
     replace a0:=keepC HRX.out.kept.below a0
     replace a1:=keepC HRX.out.kept.below a1
     replace a2:=keepC HRX.out.kept.below a2
     replace a3:=keepC HRX.out.kept.below a3
     have hfm : (p.L.take (j + 1)).flatMap lampBytes = (p.L.take j).flatMap lampBytes ++ lampBytes q:=by
      rw [flatMap_snocW hjm];have e : p.L[j] = q:=by rw [List.getElem?_eq_getElem hjm] at hq; injection hq
      rw [e]
     have hlq : m5 ≤ 700:=by
      have h1:=flatMap_bd (l:=p.L.take j) (f:=lampBytes) (k:=5) (fun q hq=>by simp [lampBytes]);rw [List.length_take] at h1;have:=HLP.out;rw [HRX.out.len];simp only [List.length_append,List.length_map,List.length_cons,List.length_nil];omega
     have HFQ:=hide (show l0 ++ [p.Op,p.To,p.A,p.B,p.K / 65536,p.K / 256,p.K,(lm : Int)].map lowB ++ (p.L.take (j + 1)).flatMap lampBytes = (l0 ++ [p.Op,p.To,p.A,p.B,p.K / 65536,p.K / 256,p.K,(lm : Int)].map lowB ++ (p.L.take j).flatMap lampBytes) ++ [q.X,q.Y,q.R,q.K / 256,q.K].map lowB from by rw [hfm,← lamp_low]; simp only [List.append_assoc]);have hal:=HRX.out.alloc hxs (.cells #[.int .i64 q.X,.int .i64 q.Y,.int .i64 q.R,.int .i64 q.K] 59);have hxl:=HXX.out.alloc (.cells #[.int .i64 q.X,.int .i64 q.Y,.int .i64 q.R,.int .i64 q.K] 59);have hlx : Blk (wr.alloc (.cells #[.int .i64 q.X,.int .i64 q.Y,.int .i64 q.R,.int .i64 q.K] 59)) wr.heap.size 59 (lampCells q):=Blk.new wr _ (lampCells q);obtain ⟨wl,hwl⟩ : ∃ wl,wr.alloc (.cells #[.int .i64 q.X,.int .i64 q.Y,.int .i64 q.R,.int .i64 q.K] 59) = wl:=⟨_,rfl⟩;rw [hwl] at hal hxl hlx;have hwls : wl.heap.size = wr.heap.size + 1:=by rw [← hwl]; simp
     have l0' : wl.cell? ⟨wr.heap.size,0,none⟩ = some (.int .i64 q.X):=(hlx.cell 0).trans rfl;have l1' : wl.cell? ⟨wr.heap.size,1,none⟩ = some (.int .i64 q.Y):=(hlx.cell 1).trans rfl;have l2' : wl.cell? ⟨wr.heap.size,2,none⟩ = some (.int .i64 q.R):=(hlx.cell 2).trans rfl;have l3' : wl.cell? ⟨wr.heap.size,3,none⟩ = some (.int .i64 q.K):=(hlx.cell 3).trans rfl;have hlz:=hlx.lt;have HAL:=hide hal;have HXL:=hide hxl;have hbl : w1.heap.size ≤ wl.heap.size:=by omega
     clear hq hfm hjm hal hxl hlx;go_wp2_with (at_builtin; go_loud (refine wpList_appN wl 5 (by omega) rfl _ _ 105 rfl w1.heap.size 5 i0 _ 1 Try.underlying105 hi0 hz0 hz1 hz2 rfl A5 m5 d5 _ ([q.X,q.Y,q.R,q.K / 256,q.K].map fun x=>Value.int .u8 (lowB x)) rfl HAL.out.own (by rw [hwls]; rfl) rfl (fun u hu=>by obtain ⟨x,_,rfl⟩:=List.mem_map.1 hu; rfl) (by omega) (by omega) hbl ?_; intro A6 d6 w6 hown6 hg6))
     have hr6:=HAL.out.app hbl rfl hown6 hg6
     have hx6 : PasBox w6 wo.heap.size p (some ⟨lb,lo,none⟩) lm ld:=by
      have hal:=HXL.out.alloc (.cells ([q.X,q.Y,q.R,q.K / 256,q.K].map fun x=>Value.int .u8 (lowB x)).toArray 5);exact (hg6.block _ hal.lt (fun e=>type_apart HAL.out.own (by decide) HXL.out e.symm)).trans hal
     go_roundw
     case rel=>exact ⟨j + 1,A6,m5 + 5,d6,by omega,by go_num,rfl,by rw [HFQ.out]; exact hide hr6,hide hx6⟩
     case measure=>simp [intOf]; omega
    ·obtain rfl : j = lm:=by omega
     have hfl : (p.L.take j) = p.L:=List.take_of_length_le (by rw [HLM.out]; exact Nat.le_refl _);have HFB:=hide (show l0 ++ [p.Op,p.To,p.A,p.B,p.K / 65536,p.K / 256,p.K,(j : Int)].map lowB ++ (p.L.take j).flatMap lampBytes = l0 ++ pasBytes p from by rw [hfl,pas_low,HLM.out,List.append_assoc]);clear hfl;go_wp2_with fail;exact ⟨⟨i + 1,A5,m5,d5,by omega,by go_num,rfl,by rw [HFM.out,← HFB.out]; exact HRX⟩,by simp [intOf]; omega⟩
  ·obtain rfl : i = n:=by omega
   have hfl : (pss.take i) = pss:=List.take_of_length_le (by rw [HN.out]; exact Nat.le_refl _);have hfb : [W,H,S,O,(i : Int)].map lowB ++ (pss.take i).flatMap pasBytes = frmBytes ⟨W,H,S,O,pss⟩:=by rw [hfl,frm_low]; simp only; rw [HN.out]
   have hcv:=own_string HRW.out.own;rw [hfb] at hcv;clear hfl hfb;go_wp2_with fail;go_ret;exact ⟨rfl,HB.out.trans (HRW.out.kept.below.mono (by omega))⟩
end Go.Proofs.Ytibpmogmeoappaa
namespace Go.Proofs.Ytibpmogmeoappaa
open Go.RowKit
def EyeAt (w : World) (gb : Nat) (s : List Int) : Prop:=∃ z : ByteArray,strL z = s ∧ Blk w gb 125 [.string z]
theorem EyeAt.keep {w w' : World} {gb : Nat} {s : List Int} (h : EyeAt w gb s) (hb : Below w.heap.size w w') : EyeAt w' gb s:=by
 obtain ⟨z,h1,h2⟩:=h;exact ⟨z,h1,h2.keep hb⟩
theorem EyeAt.far {w : World} {gb : Nat} {s : List Int} (h : EyeAt w gb s) {p : Addr} (hp : gb ≠ p.block) (u : Value) : EyeAt (w.setCell p u) gb s:=by
 obtain ⟨z,h1,h2⟩:=h;exact ⟨z,h1,h2.far hp u⟩
def RetByte (w : World) (gb : Nat) (s : List Int) (e : Ending) (w' : World) : Prop:=e = .returned (.int .i64 (s.getD 0 0)) ∧ EyeAt w' gb (s.drop 1) ∧ w.grownBy w' (some gb) ∧ w'.heap.size = w.heap.size
theorem byte_any (gb : Nat) (s : List Int) (w : World) (hE : EyeAt w gb s) : Calls Try.prog 84 #[.pointer (some ⟨gb,0,none⟩)] w (RetByte w gb s):=by
 obtain ⟨z,hz,hB⟩:=hE;have c0 : w.cell? ⟨gb,0,none⟩ = some (.string z):=(hB.cell 0).trans rfl;have f0:=hB.frozen 0;by_cases hs : s = []
 ·have hz0 : z = ⟨#[]⟩:=strL_inj (by rw [hz,hs]; rfl)
  subst hz0;subst hs;have HB:=hide hB;clear hz hB;go_enter Try.func84,Try.ntmps84
  go_wp2_with fail;go_ret;exact ⟨rfl,⟨_,rfl,HB.out⟩,grown_rflW _ _,rfl⟩
 ·have hze : z.toList.isEmpty = false:=by
   rw [ByteArray.toList_eq]
   cases hd : z.data.toList with
   | nil=>exact absurd (by rw [← hz]; unfold strL; rw [hd]; rfl) hs
   | cons _ _=>rfl
  have hsz : 0 < z.size:=by rw [← strL_len,hz]; exact List.length_pos_iff.2 hs
  have hsz2 : (0 : Int) < (z.size : Int):=by omega
  have hsz1 : ¬ (z.size : Int) < 1:=by omega
  have hg:=strL_get z 0 hsz;have hby:=strL_bytes z;have hdr:=strL_drop z 1;rw [hz] at hg hby hdr;have hb1:=hby (s.getD 0 0) (by rw [List.getD_eq_getElem?_getD,List.getElem?_eq_getElem (List.length_pos_iff.2 hs)]; exact List.getElem_mem _);have HG:=hide (show wrap64 ((z[0].toNat : Nat) : Int) = s.getD 0 0 from by rw [hg]; exact wrap64_of (by omega) (by omega));have HB:=hide hB;have HD:=hide hdr;clear hg hby hdr hb1 hs hB hz;go_enter Try.func84,Try.ntmps84
  go_wp2_with fail;go_ret;exact ⟨ret_int HG.out,⟨_,HD.out,HB.out.set_ 0 _⟩,grown_putW w ⟨gb,0,none⟩ _,by simp [World.setCell]⟩
theorem getD_drop0 (s : List Int) (k : Nat) : (s.drop k).getD 0 0 = s.getD k 0:=by simp [List.getD_eq_getElem?_getD,List.getElem?_drop]
def byN (s : List Int) (k : Nat) : Int:=s.getD k 0
def RetByteAt (w : World) (gb : Nat) (s : List Int) (k : Nat) (e : Ending) (w' : World) : Prop:=e = .returned (.int .i64 (byN s k)) ∧ EyeAt w' gb (s.drop (k + 1)) ∧ w.grownBy w' (some gb) ∧ w'.heap.size = w.heap.size
theorem byte_at (gb k : Nat) (s : List Int) (w : World) (hE : EyeAt w gb (s.drop k)) : Calls Try.prog 84 #[.pointer (some ⟨gb,0,none⟩)] w (RetByteAt w gb s k):=by
 refine (byte_any gb (s.drop k) w hE).mono ?_;rintro e w' ⟨rfl,h1,h2⟩;exact ⟨by rw [getD_drop0]; rfl,by rw [List.drop_drop] at h1; exact h1,h2⟩
theorem byte_bd {s : List Int} (h : Bytes s) (k : Nat) : 0 ≤ byN s k ∧ byN s k ≤ 255:=by
 unfold byN;by_cases e : k < s.length
 ·have:=h (s.getD k 0) (by rw [List.getD_eq_getElem?_getD,List.getElem?_eq_getElem e]; exact List.getElem_mem e)
  exact this
 ·rw [List.getD_eq_getElem?_getD,List.getElem?_eq_none (by omega)]
  simp
structure RdX (w : World) (B : Nat) (W H S O : Int) (ps : List Pas) (es : List (List Value × Option Addr × List Value)) (A : Option Addr) (n c : Nat) (t : List Int) (wr : World) : Prop where
 out : Blk wr (B + 2) 63 (frmCells W H S O A n c)
 res : Blk wr B 63 (frmCells 0 0 0 0 none 0 0)
 eye : EyeAt wr (B + 1) t
 row : GRow PasW 6 110 wr (B + 3) A n c ps es
 new : ∀ e ∈ es,e.2.2 ≠ [] → NewFrom (B + 3) e.2.1
 below : Below B w wr
 len : ps.length = n
structure LdX (wo : World) (pb gb : Nat) (op to_ a b k : Int) (ls : List Lamp) (LB : Option Addr) (m d : Nat) (t : List Int) (wx : World) : Prop where
 pas : Blk wx pb 110 (passCells ⟨op,to_,a,b,k,ls⟩ LB m d)
 row : Own wx (pb + 1) 59 4 LB m d (ls.flatMap lampCells)
 eye : EyeAt wx gb t
 grown : wo.grownBy wx (some gb)
 new : wo.heap.size ≤ pb
 old : gb < wo.heap.size
 len : ls.length = m
section
variable {w wr w' : World} {B : Nat} {W H S O : Int} {ps : List Pas} {es : List (List Value × Option Addr × List Value)} {A : Option Addr} {n c : Nat} {t t' : List Int}
theorem RdX.grow (h : RdX w B W H S O ps es A n c t wr) (hg : wr.grownBy w' (some (B + 1))) (ht : EyeAt w' (B + 1) t') : RdX w B W H S O ps es A n c t' w' :=
 ⟨h.out.other hg (by omega),h.res.other hg (by omega),ht,⟨h.row.own.but hg (by omega),h.row.spelt.butW h.new hg (by omega)⟩,h.new,h.below.trans ⟨hg.os,hg.tape,hg.output,hg.size,fun k hk=>hg.block k (by have:=h.below.size; have:=h.out.lt; omega) (fun e=>by injection e with e; omega)⟩,h.len⟩
end
section
variable {wo wx w' : World} {pb gb : Nat} {op to_ a b k : Int} {ls : List Lamp} {LB : Option Addr} {m d : Nat} {t t' : List Int}
theorem LdX.grow (h : LdX wo pb gb op to_ a b k ls LB m d t wx) (hg : wx.grownBy w' (some gb)) (ht : EyeAt w' gb t') : LdX wo pb gb op to_ a b k ls LB m d t' w' :=
 ⟨h.pas.other hg (by have:=h.new; have:=h.old; omega),h.row.but hg (by have:=h.new; have:=h.old; omega),ht,grown_trB h.grown hg,h.new,h.old,h.len⟩
end
theorem LdX.app {wo wx w9 : World} {pb gb : Nat} {op to_ a b k : Int} {ls : List Lamp} {LB LC : Option Addr} {m d d' : Nat} {t : List Int} {l : Lamp} (h : LdX wo pb gb op to_ a b k ls LB m d t wx)
 (ho : Own w9 (pb + 1) 59 4 LC (m + 1) d' (ls.flatMap lampCells ++ lampCells l)) (hg : (wx.alloc (.cells (lampCells l).toArray 59)).grownBy w9 (Value.slice LB m d).ownBlock) :
 LdX wo pb gb op to_ a b k (ls ++ [l]) LC (m + 1) d' t (w9.setCell ⟨pb,5,none⟩ (.slice LC (m + 1) d')):=by
 have hn:=h.new;have ho2:=h.old;obtain ⟨z,hz,hzb⟩:=h.eye;have hs:=h.grown.size;refine ⟨?_,?_,⟨z,hz,?_⟩,?_,hn,ho2,by rw [List.length_append,h.len]; rfl⟩
 ·exact (Blk.grown (h.pas.alloc _) (h.row.alloc _) hg (Nat.lt_succ_self _)).set_ 5 _
 ·rw [List.flatMap_append]
  have e : ls.flatMap lampCells ++ [l].flatMap lampCells = ls.flatMap lampCells ++ lampCells l:=by simp
  rw [e];exact ho.far (p:=⟨pb,5,none⟩) (Nat.lt_succ_self _) _
 ·exact (Blk.grown (hzb.alloc _) (h.row.alloc _) hg (by omega)).far (p:=⟨pb,5,none⟩) (by simp only; omega) _
 ·have h1 : wo.grownBy w9 (some gb):=by
   have hal:=grown_trB h.grown (grown_ofB ((Below.refl wx.heap.size wx).alloc (Nat.le_refl _) (.cells (lampCells l).toArray 59)) (some gb));refine ⟨hg.os.trans hal.os,hg.tape.trans hal.tape,hg.output.trans hal.output,Nat.le_trans hal.size hg.size,fun q hq hne=>(hg.block q (Nat.lt_of_lt_of_le hq hal.size) (fun e=>?_)).trans (hal.block q hq hne)⟩;have:=(World.ownsRow.lt h.row q e.symm).1;omega
  exact grown_setW h1 hn _
theorem RdX.app {w wr wx w9 : World} {B : Nat} {W H S O : Int} {ps : List Pas} {es : List (List Value × Option Addr × List Value)} {A A' LB : Option Addr} {n c c' m d pb : Nat} {t u : List Int} {op to_ a b k : Int} {ls : List Lamp} (h : RdX w B W H S O ps es A n c t wr)
 (hl : LdX wr pb (B + 1) op to_ a b k ls LB m d u wx) (hm : m ≤ 65536)
 (ho : Own w9 (B + 3) 110 6 A' (n + 1) c' (es.flatMap (·.1) ++ passCells ⟨op,to_,a,b,k,ls⟩ LB m d)) (hg : (wx.alloc (.cells (passCells ⟨op,to_,a,b,k,ls⟩ LB m d).toArray 110)).grownBy w9 (Value.slice A n c).ownBlock)
 (hat : (Value.slice A' (n + 1) c').ownBlock = (Value.slice A n c).ownBlock ∨ (Value.slice A' (n + 1) c').ownBlock = some (wx.alloc (.cells (passCells ⟨op,to_,a,b,k,ls⟩ LB m d).toArray 110)).heap.size) :
 RdX w B W H S O (ps ++ [⟨op,to_,a,b,k,ls⟩]) (es ++ [(passCells ⟨op,to_,a,b,k,ls⟩ LB m d,LB,ls.flatMap lampCells)]) A' (n + 1) c' u (w9.setCell ⟨B + 2,4,none⟩ (.slice A' (n + 1) c')):=by
 have h':=h.grow hl.grown hl.eye;have hn:=hl.new;have ho2:=hl.old;have hlr:=hl.row.len;have hne : ls.flatMap lampCells ≠ [] → NewFrom (pb + 1) LB:=fun _=>hl.row.new
 have hnb : ls.flatMap lampCells ≠ [] → ∀ x,LB = some x → (Value.slice A n c).ownBlock ≠ some x.block:=fun hd x hx hc=>by
  have h1:=hl.row.new _ hx;have h2:=(World.ownsRow.lt h.row.own _ hc).2;omega
 have hr:=h'.row.app (x:=⟨op,to_,a,b,k,ls⟩) ⟨m,d,rfl,hl.len,rfl,hm⟩ hl.row.cells hnb ho hg hat
 have hnew : ∀ e ∈ es ++ [(passCells ⟨op,to_,a,b,k,ls⟩ LB m d,LB,ls.flatMap lampCells)],e.2.2 ≠ [] → NewFrom (B + 3) e.2.1:=by
  intro e he;rcases List.mem_append.1 he with he | he
  ·exact h.new e he
  ·simp only [List.mem_singleton] at he; subst he; exact fun hd=>(hne hd).mono (by omega)
 have hob:=Blk.grown (h'.out.alloc (.cells (passCells ⟨op,to_,a,b,k,ls⟩ LB m d).toArray 110)) (h'.row.own.alloc _) hg (by omega);have hoe:=Blk.grown (h'.res.alloc (.cells (passCells ⟨op,to_,a,b,k,ls⟩ LB m d).toArray 110)) (h'.row.own.alloc _) hg (by omega);obtain ⟨z,hz,hzb⟩:=h'.eye;have hog:=Blk.grown (hzb.alloc (.cells (passCells ⟨op,to_,a,b,k,ls⟩ LB m d).toArray 110)) (h'.row.own.alloc _) hg (by omega);have hlt:=h'.out.lt;refine ⟨hob.set_ 4 _,hoe.far (p:=⟨B + 2,4,none⟩) (by simp) _,⟨z,hz,hog.far (p:=⟨B + 2,4,none⟩) (by simp) _⟩,⟨hr.own.far (p:=⟨B + 2,4,none⟩) (by simp only; omega) _,?_⟩,hnew,?_,by rw [List.length_append,h.len]; rfl⟩
 ·exact hr.spelt.farB hnew (p:=⟨B + 2,4,none⟩) (by simp only; omega) _
 ·have hba:=h'.below.alloc (by omega) (.cells (passCells ⟨op,to_,a,b,k,ls⟩ LB m d).toArray 110)
  exact (Below.grownOwn hba (h'.row.own.alloc _) hg (by simp only [World.size_alloc]; omega) (by omega)).setCell (p:=⟨B + 2,4,none⟩) (by simp only; omega) _
end Go.Proofs.Ytibpmogmeoappaa
