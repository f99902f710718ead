/- Walks: told, a frame within its bounds. -/
import Derived.Test.YtibpmogmeoappabGreatJFrmJ
import Derived.Test.YtibpmogmeoappabGreatJMem
import Derived.Deep.DeepCutAuto
import Derived.Deep.RegionHeld3
set_option maxRecDepth 100000
set_option maxHeartbeats 16000000
namespace Go.Proofs.YtibpmogmeoappabGreat
open Go.RowKit
theorem Two.rowsN {k1 : Nat} {t1 t2 : TypeId} {w : World} {base B0 : Nat} {A B : Option Addr} {n c m d : Nat} {cs : List Value} {xs : List (List Int)} {es : List (List Value × Option Addr × List Value)} (h : Two IntK k1 1 t1 t2 w base A n c cs B m d xs es) (hB : B0 ≤ base) : IntRowsN w B xs B0:=h.two.intRowsN h.new hB
theorem Tryz.info25 : (Tryz.prog.info? 25).map (fun i=>(i.zero,i.size,i.bytes)) = some (some (.slice none 0 0),1,24):=by kernel_rfl
theorem one_slice (A : Option Addr) (n c : Nat) : ∀ u ∈ [Value.slice A n c],u.oneCell' = true:=by
 intro u hu;rw [List.mem_singleton] at hu;subst hu;rfl
theorem hasA_at {f : Frm} {k : Nat} {p : Pas} (hB : f.Bounds) (hE : frErrTo f k = 0) (_hp : f.pas k = p) (hok : PassOk f.S p (frSt f k)) :
 (hasA p.Op = true → slotIn f.S p.A = true ∧ (frMk f k).getD p.A.toNat 0 = writerTo f k p.A + 1 ∧ 0 ≤ writerTo f k p.A ∧ writerTo f k p.A < k) ∧
 (hasB p.Op = true → slotIn f.S p.B = true ∧ (frMk f k).getD p.B.toNat 0 = writerTo f k p.B + 1 ∧ 0 ≤ writerTo f k p.B ∧ writerTo f k p.B < k):=by
 constructor
 ·intro h
  have hs:=slot_iff.2 (hok.a h);exact ⟨hs,frMk_at hE hs,wr_ok hB hE hs (hok.wa h)⟩
 ·intro h
  have hs:=slot_iff.2 (hok.b h);exact ⟨hs,frMk_at hE hs,wr_ok hB hE hs (hok.wb h)⟩
theorem told_walk (W H S O : Int) (PA : Option Addr) (n c : Nat) (ps : List Pas) (w : World) (hn : ps.length = n) (hP : Passes w PA ps) (hBd : Frm.Bounds ⟨W,H,S,O,ps⟩) (hlen : 1 ≤ n ∧ n ≤ 12) :
 Calls Tryz.prog 44 #[.agg #[.int .i64 W,.int .i64 H,.int .i64 S,.int .i64 O,.slice PA n c]] w (RetTale w (frSizes ⟨W,H,S,O,ps⟩) (frSources ⟨W,H,S,O,ps⟩) (frErr ⟨W,H,S,O,ps⟩)):=by
 obtain ⟨i0,hi0,hz0,hz1,hz2⟩:=info_parts Tryz.info53;obtain ⟨j0,hj0,jz0,jz1,jz2⟩:=info_parts Tryz.info3;have hmk:=run_make_sizes i0 hi0 hz0 hz1 hz2 S (by have:=hBd.2.2.1; simp only at this; omega) (by have:=hBd.2.2.1; simp only at this; omega);have hmi:=run_make_ints (P:=Tryz.prog) 25 3 j0 Tryz.underlying25 hj0 jz0 jz1 jz2 S S.toNat (by have:=hBd.2.2.1; simp only at this; omega) (by have:=hBd.2.2.1; simp only at this; omega);have HI0:=hide hi0;have HZ0:=hide hz0;have HZ1:=hide hz1;have HZ2:=hide hz2;have HJ0:=hide hj0;have KZ0:=hide jz0;have KZ1:=hide jz1;have KZ2:=hide jz2;have HN:=hide hn;have HP:=hide (Keeps.passes hP);have HBd:=hide hBd;obtain ⟨⟨b1,b2⟩,⟨b3,b4⟩,⟨b5,b6⟩,⟨b7,b8⟩⟩:=hBd;simp only at b1 b2 b3 b4 b5 b6 b7 b8;have b9 : O < S:=by omega
 obtain ⟨l1,l2⟩:=hlen;have l3 : (1 : Int) ≤ (n : Int):=by omega
 have l4 : (n : Int) ≤ 12:=by omega
 clear hn hP hi0 hz0 hz1 hz2 hj0 jz0 jz1 jz2;go_enter Tryz.func44,Tryz.ntmps44
 go_upto_region 5 with fail
 have hfb : FrmBox ((w.alloc (.cells #[.int .i64 W,.int .i64 H,.int .i64 S,.int .i64 O,.slice PA n c] 24)).alloc (.cells #[.slice none 0 0,.slice none 0 0] 90)) w.heap.size W H S O PA n c:=(Blk.new w 24 (frmCells W H S O PA n c)).alloc _;have hrb:=Blk.new (w.alloc (.cells #[.int .i64 W,.int .i64 H,.int .i64 S,.int .i64 O,.slice PA n c] 24)) 90 [.slice none 0 0,.slice none 0 0];have hb0 : Below w.heap.size w ((w.alloc (.cells #[.int .i64 W,.int .i64 H,.int .i64 S,.int .i64 O,.slice PA n c] 24)).alloc (.cells #[.slice none 0 0,.slice none 0 0] 90)):=((Below.refl _ _).alloc (Nat.le_refl _) _).alloc (by simp) _;have hs0 : ((w.alloc (.cells #[.int .i64 W,.int .i64 H,.int .i64 S,.int .i64 O,.slice PA n c] 24)).alloc (.cells #[.slice none 0 0,.slice none 0 0] 90)).heap.size = w.heap.size + 2:=by simp
 simp only [World.size_alloc] at hrb;generalize ((w.alloc (.cells #[.int .i64 W,.int .i64 H,.int .i64 S,.int .i64 O,.slice PA n c] 24)).alloc (.cells #[.slice none 0 0,.slice none 0 0] 90)) = w0 at *;obtain ⟨x0,q0,q1,q2,q3,q4⟩:=FrmBox.cells hfb;have HFB:=hide hfb;have HRB:=hide (show Blk w0 (w.heap.size + 1) 90 [.slice none 0 0,.slice none 0 0] from hrb);have HB0:=hide hb0;have HS0:=hide hs0;clear hfb hrb hb0 hs0
 go_cut [4] (fun s4 wx=>∃ gs gm gw : Nat,Hid (gs = w.heap.size + 2 ∧ gm = w.heap.size + 3 ∨ gs = w.heap.size + 3 ∧ gm = w.heap.size + 2) ∧ Hid (gw = w.heap.size + 4) ∧ s4 = .pointer (some ⟨gw,0,none⟩) ∧ Hid (Blk wx gs 53 ((List.replicate S.toNat (⟨0,0⟩ : Sz)).flatMap szCells)) ∧ Hid (Blk wx gm 3 (List.replicate S.toNat (Value.int .i64 0))) ∧
  Hid (Blk wx gw 128 (walkCells W H S O PA n c (some ⟨gs,0,none⟩) S.toNat S.toNat (some ⟨gm,0,none⟩) S.toNat S.toNat)) ∧ Hid (wx.heap.size = w.heap.size + 5) ∧ Hid (Below w0.heap.size w0 wx))
 case first =>
  have HKS:=hide (show Keeps w0 (fun w'=>w'.cell? ⟨w.heap.size,0,none⟩ = some (.int .i64 W) ∧ w'.cell? ⟨w.heap.size,1,none⟩ = some (.int .i64 H) ∧ w'.cell? ⟨w.heap.size,2,none⟩ = some (.int .i64 S) ∧ w'.cell? ⟨w.heap.size,3,none⟩ = some (.int .i64 O) ∧ w'.cell? ⟨w.heap.size,4,none⟩ = some (.slice PA n c)) from ⟨⟨q0,q1,q2,q3,q4⟩,fun _ hb=>⟨keepC hb q0,keepC hb q1,keepC hb q2,keepC hb q3,keepC hb q4⟩⟩);go_region_held3 (fun w'=>w'.cell? ⟨w.heap.size,0,none⟩ = some (.int .i64 W) ∧ w'.cell? ⟨w.heap.size,1,none⟩ = some (.int .i64 H) ∧ w'.cell? ⟨w.heap.size,2,none⟩ = some (.int .i64 S) ∧ w'.cell? ⟨w.heap.size,3,none⟩ = some (.int .i64 O) ∧ w'.cell? ⟨w.heap.size,4,none⟩ = some (.slice PA n c)) (exact HKS.out.later _ (by repeat (first | exact Below.refl _ _ | exact (Below.refl _ _).drew | refine Below.drew ?_ | refine Below.alloc ?_ (by first | omega | (simp only [World.size_alloc]; omega)) _))) (fail)
  ·go_wp2_with fail
   go_meet
   have hs0:=HS0.out
   exact ⟨w0.heap.size, w0.heap.size + 1, w0.heap.size + 1 + 1, hide (by omega), hide (by omega), rfl, hide (((Blk.new w0 53 _).alloc _).alloc _).drew, hide ((Blk.newE (cs := List.replicate S.toNat (Value.int .i64 0)) (by simp only [World.size_alloc])).alloc _).drew, hide (Blk.newE (by simp only [World.size_alloc])).drew, hide (by simp [hs0]),
         hide ((((Below.refl _ _).alloc (Nat.le_refl _) _).alloc (by simp) _).alloc (by simp only [World.size_alloc]; omega) _).drew⟩
  ·go_wp2_with fail
   go_meet
   have hs0:=HS0.out
   exact ⟨w0.heap.size + 1, w0.heap.size, w0.heap.size + 1 + 1, hide (by omega), hide (by omega), rfl, hide ((Blk.newE (by simp only [World.size_alloc])).alloc _).drew, hide (((Blk.new w0 3 (List.replicate S.toNat (Value.int .i64 0))).alloc _).alloc _).drew, hide (Blk.newE (by simp only [World.size_alloc])).drew, hide (by simp [hs0]),
         hide ((((Below.refl _ _).alloc (Nat.le_refl _) _).alloc (by simp) _).alloc (by simp only [World.size_alloc]; omega) _).drew⟩
 case rest =>
  obtain ⟨gs,gm,gw,HGG,HGW,rfl,HS1,HM1,HW1,HSZ1,HB1⟩:=hcut;obtain rfl:=HGW.out;clear HGW q0 q1 q2 q3 q4 x0;obtain ⟨f,hf⟩ : ∃ f : Frm,f = ⟨W,H,S,O,ps⟩:=⟨_,rfl⟩;have fW : f.W = W:=by rw [hf]
  have fH : f.H = H:=by rw [hf]
  have fS : f.S = S:=by rw [hf]
  have fO : f.O = O:=by rw [hf]
  have fP : f.P = ps:=by rw [hf]
  have HF:=hide hf;have HFW:=hide (show f.W = W ∧ f.H = H ∧ f.S = S ∧ f.O = O ∧ f.P = ps from ⟨fW,fH,fS,fO,fP⟩);have HBf : Hid f.Bounds:=hide (by rw [hf]; exact HBd.out);have hsz:=HSZ1.out
  have HT0 : Hid (TBase w f PA n c gs gm 0 none 0 0 none 0 0 (wc.alloc (.cells #[.slice none 0 0,.slice none 0 0] 90))):=hide (by
   have hal : Below wc.heap.size wc (wc.alloc (.cells #[.slice none 0 0,.slice none 0 0] 90)):=(Below.refl _ _).alloc (Nat.le_refl _) _;refine ⟨?_,(HRB.out.keep HB1.out).keep hal,?_,?_,?_,Blk.newE hsz,by rw [World.size_alloc,hsz]; omega,((HB0.out.trans (HB1.out.mono HB0.out.size))).trans (hal.mono (by rw [hsz]; omega))⟩
   ·rw [fW,fH,fS,fO]; exact Blk.keep (Blk.keep HFB.out HB1.out) hal
   ·have e : frSt f 0 = List.replicate S.toNat ⟨0,0⟩:=by unfold frSt; rw [fS]
    rw [e]; exact HS1.out.keep hal
   ·have e : (frMk f 0).map (Value.int .i64) = List.replicate S.toNat (Value.int .i64 0):=by unfold frMk; rw [fS]; simp
    rw [e]; exact HM1.out.keep hal
   ·rw [fW,fH,fS,fO]; exact Blk.keep HW1.out hal)
  obtain ⟨x0,q0,q1,q2,q3,q4⟩:=FrmBox.cells (Blk.keep HFB.out HB1.out);clear hf fW fH fS fO fP HS1 HM1 HW1 HB1 HB0 HRB HFB;have r1:=HSZ1.out;go_wp2_with fail;go_loopw [6,7,8,9,10,11,12,77] (fun _ _ _ _ _ _ _ i wr=>∃ (k : Nat) (A : Option Addr) (d : Nat) (B : Option Addr) (d' : Nat) (es : List (List Value × Option Addr × List Value)),k ≤ n ∧ i = .int .i64 k ∧ Hid (frErrTo f k = 0) ∧ Hid (TBase w f PA n c gs gm k A k d B k d' wr) ∧ Hid (ToldRows w wr f k A d B d' es)) (fun _ _ _ _ _ _ _ i _=>n - (intOf i).toNat)
  case atStart=>exact ⟨0,none,0,none,0,[],Nat.zero_le _,rfl,hide rfl,HT0,hide (Two.nil _ _ _ _ _ _ _)⟩
  case round =>
   obtain ⟨k,A,d,B,d',es,hk,rfl,HE,HT,HR⟩:=hrel;clear HT0;by_cases hlt : k < n
   ·have hbx:=HT.out.frm
    rw [HFW.out.1,HFW.out.2.1,HFW.out.2.2.1,HFW.out.2.2.2.1] at hbx;have hk0 : (0 : Int) ≤ (k : Int):=by omega
    have hk1 : (k : Int) < (n : Int):=by omega
    obtain ⟨b,o,LA,m,dd,p,rfl,hb,hp,c0,c1,c2,c3,c4,c5,hm,hL,hml⟩:=(HP.out.later _ HT.out.below).at_ k (by have:=HN.out; omega);have HPK : Hid (f.pas k = p):=hide (by unfold Frm.pas; rw [HFW.out.2.2.2.2]; exact hp);have HLP:=hide (Keeps.lampsK hL);have HM:=hide hm;clear hp hL hm q0 q1 q2 q3 q4 x0 hsz r1 hbx;go_wp2_with fail;have hal : Below wr.heap.size wr (wr.alloc (.cells (passCells p LA m dd).toArray 72)):=(Below.refl _ _).alloc (Nat.le_refl _) _;have HT1:=hide (HT.out.keep hal);have HR1:=hide (HR.out.keep hal);have HPB:=hide (show PasBox (wr.alloc (.cells (passCells p LA m dd).toArray 72)) wr.heap.size p LA m dd from Blk.new wr 72 (passCells p LA m dd));have HL1:=hide (HLP.out.move hal);have hwk:=HT1.out.walk;rw [HFW.out.1,HFW.out.2.1,HFW.out.2.2.1,HFW.out.2.2.2.1] at hwk;have hG0:=HT.out.size;refine (step_any (w.heap.size + 4) W H S O (some ⟨b,o,none⟩) n c (some ⟨gs,0,none⟩) S.toNat S.toNat (some ⟨gm,0,none⟩) S.toNat S.toNat (frSt f k) (frMk f k) p LA m dd _ ⟨b5,b6⟩ hwk HT1.out.sizes.cells HT1.out.made.cells (by omega) (by rw [frSt_len,HFW.out.2.2.1]) (by omega) (by rw [frMk_len,HFW.out.2.2.1]) (frSt_fine HBf.out HE.out) (fun i hi=>frMk_zero HBf.out HE.out (by rw [HFW.out.2.2.1]; exact hi)) HM.out HL1.out.now hml).mono ?_;rintro e w1 ⟨rfl,hE1⟩;have HT2:=hide (HT1.out.keep hE1);have HR2:=hide (HR1.out.keep hE1);have HPB1:=hide (Blk.keep HPB.out hE1);have hw1:=hE1.size;simp only [World.size_alloc] at hw1;have HRA:=hide (fun b (h : (Value.slice A k d).ownBlock = some b)=>(HR.out.one.lt h).2);have HRB:=hide (fun b (h : (Value.slice B k d').ownBlock = some b)=>(HR.out.two.own.lt h).2);clear c0 c1 c2 c3 c4 c5 hal HT HR HT1 HR1 HPB HL1 HLP hE1 hwk;by_cases hpe : passErr S p (frSt f k) = 0
    ·have hok:=pass_ok hpe
     have hsize : stepSz W H S p (frSt f k) = frSize f k:=by unfold stepSz frSize; rw [if_pos hpe,HPK.out,HFW.out.1,HFW.out.2.1]
     have HPE:=hide hpe;have HOK:=hide (show PassOk f.S p (frSt f k) from by rw [HFW.out.2.2.1]; exact hok);rw [hpe,hsize];clear hpe hok hsize;have HOF:=hide (fun W0 : World=>of_any p.Op W0);have h0 : inR p.Op 1 13 = true:=inR_iff.2 HOK.out.kind;unfold RetOf at HOF;rw [h0] at HOF;simp only [Bool.true_and] at HOF;have hal : Below w1.heap.size w1 (w1.alloc (.cells #[.int .i64 (frSize f k).W,.int .i64 (frSize f k).H] 53)):=(Below.refl _ _).alloc (Nat.le_refl _) _;have HT3:=hide (HT2.out.keep hal);have HR3:=hide (HR2.out.keep hal);have HPB2:=hide (Blk.keep HPB1.out hal);have HSB:=hide (Blk.new w1 53 (szCells (frSize f k)));obtain ⟨y,y0,y1,y2,y3,y4,y5⟩:=PasBox.cells HPB2.out;clear hal HT2 HR2 HPB1 h0;go_wp2_with fail;refine ((unhide HOF) _).mono ?_;rintro e w2 ⟨rfl,hE2⟩;have hw2:=hE2.size;simp only [World.size_alloc] at hw2;have hal : Below w2.heap.size w2 (w2.alloc (.cells #[.bool (hasA p.Op),.bool (hasB p.Op),.bool (hasK p.Op),.bool (hasL p.Op)] 94)):=(Below.refl _ _).alloc (Nat.le_refl _) _;have HT4:=hide ((HT3.out.keep hE2).keep hal);have HR4:=hide ((HR3.out.keep hE2).keep hal);have HPB3:=hide (Blk.keep (Blk.keep HPB2.out hE2) hal);have HSB2:=hide ((HSB.out.keep hE2).keep hal);have HSH:=hide (Blk.new w2 94 [.bool (hasA p.Op),.bool (hasB p.Op),.bool (hasK p.Op),.bool (hasL p.Op)]);clear hal HT3 HR3 HPB2 HSB hE2 HOF y y0 y1 y2 y3 y4 y5;have z0 : (w2.alloc (.cells #[.bool (hasA p.Op),.bool (hasB p.Op),.bool (hasK p.Op),.bool (hasL p.Op)] 94)).cell? ⟨w2.heap.size,0,none⟩ = some (.bool (hasA p.Op)):=(HSH.out.cell 0).trans rfl;have z1 : (w2.alloc (.cells #[.bool (hasA p.Op),.bool (hasB p.Op),.bool (hasK p.Op),.bool (hasL p.Op)] 94)).cell? ⟨w2.heap.size,1,none⟩ = some (.bool (hasB p.Op)):=(HSH.out.cell 1).trans rfl;have HZ1':=hide (Keeps.cell z1);have hat:=hasA_at (f:=f) (k:=k) (p:=p) HBf.out HE.out HPK.out HOK.out;have HOWN:=hide hat;clear hat;go_upto_if 99 with fail
     generalize hwl : (w2.alloc (.cells #[.bool (hasA p.Op),.bool (hasB p.Op),.bool (hasK p.Op),.bool (hasL p.Op)] 94)) = wL at *;have hL8 : w1.heap.size < wL.heap.size:=by rw [← hwl,World.size_alloc]; omega
     have HL6 : Hid (w.heap.size + 6 ≤ wr.heap.size ∧ wr.heap.size < w1.heap.size):=hide ⟨hG0,by omega⟩;clear hwl hw2 hw1 hG0 HSH;go_cut [12] (fun s12 wx=>∃ (A1 : Option Addr) (m1 d1 : Nat),s12 = .slice A1 m1 d1 ∧ Hid (Own wx wL.heap.size 3 1 A1 m1 d1 ((if hasA p.Op = true then [writerTo f k p.A] else []).map (.int .i64))) ∧ Hid (Below wL.heap.size wL wx))
     case first =>
      cases ha : hasA p.Op with
      | false =>
        rw [ha] at z0;go_wp2_with fail;go_meet
        exact ⟨none,0,0,rfl,hide (by simpa [ha] using Own.nil wL wL.heap.size 3 1),hide (Below.refl _ _)⟩
      | true =>
        rw [ha] at z0;obtain ⟨hs,hmkv,hv0,hv1⟩:=HOWN.out.1 ha;rw [HFW.out.2.2.1] at hs;obtain ⟨a0,a1⟩:=slot_bd hs;obtain ⟨mb,mo,mv,hma,mlt,hmv,mc⟩:=(show Ints wL (some ⟨gm,0,none⟩) (frMk f k) from HT4.out.made.cells).at_ p.A.toNat (by rw [frMk_len,HFW.out.2.2.1]; omega);injection hma with hma;injection hma with e2 e3;subst e2 e3;rw [Nat.zero_add] at mc;have hmv2 : mv = writerTo f k p.A + 1:=by rw [← hmkv,List.getD_eq_getElem?_getD,hmv]; rfl
        have HMV : Hid (mv - 1 = writerTo f k p.A):=hide (by omega);have e4 : IntKind.i64.wrap (mv - 1) = mv - 1:=IntWalk.i64_in _ (by omega);have haN : p.A < (S.toNat : Int):=by omega
        have haN4 : p.A < max S 0:=by omega
        have haN5 : p.A < S:=by omega
        have hwk:=HT4.out.walk;rw [HFW.out.1,HFW.out.2.1,HFW.out.2.2.1,HFW.out.2.2.2.1] at hwk;have v6:=(WalkBox.cells hwk).2.2.2.2.2.2.2;have y2 : wL.cell? ⟨wr.heap.size,2,none⟩ = some (.int .i64 p.A):=(Blk.cell HPB3.out 2).trans rfl;have HKS:=hide (show Keeps wL (fun w'=>w'.cell? ⟨w.heap.size + 4,6,none⟩ = some (.slice (some ⟨gm,0,none⟩) S.toNat S.toNat) ∧ w'.cell? ⟨wr.heap.size,2,none⟩ = some (.int .i64 p.A) ∧ w'.cell? ⟨gm,p.A.toNat,none⟩ = some (.int .i64 mv)) from ⟨⟨v6,y2,mc⟩,fun _ hb=>⟨keepC hb v6,keepC hb y2,keepC hb mc⟩⟩);have hj0:=HJ0.out;have jz0:=KZ0.out;have jz1:=KZ1.out;have jz2:=KZ2.out;clear hmv2 hmkv hmv hv0 hv1 hwk hs mlt;go_wp2_with fail
        go_region_held3 (fun w'=>w'.cell? ⟨w.heap.size + 4,6,none⟩ = some (.slice (some ⟨gm,0,none⟩) S.toNat S.toNat) ∧ w'.cell? ⟨wr.heap.size,2,none⟩ = some (.int .i64 p.A) ∧ w'.cell? ⟨gm,p.A.toNat,none⟩ = some (.int .i64 mv))
         (first | exact HKS.out.later _ hb9 | exact HKS.out.later _ (by repeat (first | exact Below.refl _ _ | refine Below.drew ?_ | refine Below.alloc ?_ (by first | omega | (simp only [World.size_alloc,World.size_drew]; omega)) _)))
         ((refine step_app1W _ _ (by rfl) _ _ 25 (by rfl) wL.heap.size 3 j0 _ 1 8 Tryz.underlying25 hj0 jz0 jz1 jz2 rfl (by omega) none 0 0 [] [.int .i64 (mv - 1)] (by rfl) (by first | exact (Own.nil _ wL.heap.size 3 1) | exact Own.alloc (Own.nil _ wL.heap.size 3 1) _ | exact Own.drew (Own.alloc (Own.nil _ wL.heap.size 3 1) _) | exact Own.alloc (Own.drew (Own.nil _ wL.heap.size 3 1)) _) (by rfl) (by first | exact Blk.newE (by first | rfl | simp) | exact Blk.drew (Blk.newE (by first | rfl | simp))) rfl (one_int _) (by omega) (by omega) (by first | omega | (simp; done) | (simp; omega)) ?_; intro A9 c9 w9 hown9 hg9 hat9; have hb9 : Below wL.heap.size wL w9:=Below.grownOwn (by repeat (first | exact Below.refl _ _ | refine Below.drew ?_ | refine Below.alloc ?_ (by first | omega | (simp only [World.size_alloc,World.size_drew]; omega)) _)) (by first | exact (Own.nil _ wL.heap.size 3 1) | exact Own.alloc (Own.nil _ wL.heap.size 3 1) _ | exact Own.drew (Own.alloc (Own.nil _ wL.heap.size 3 1) _)) hg9 (by first | omega | (simp; done) | (simp; omega)) (Nat.le_refl _)))
        go_wp2_with fail;go_meet
        exact ⟨A9,_,c9,rfl,hide (by have e:=HMV.out; rw [e] at hown9; simpa [ha] using hown9),hide hb9⟩
     case rest =>
      obtain ⟨A1,m1,d1,rfl,HO1,HB5⟩:=hcut;have hs5:=HB5.out.size;have z1:=HZ1'.out.later _ HB5.out;clear z0;go_upto_if 113 with fail
      go_cut [12] (fun s12 wx=>∃ (A1 : Option Addr) (m1 d1 : Nat),s12 = .slice A1 m1 d1 ∧ Hid (Own wx wL.heap.size 3 1 A1 m1 d1 ((srcs f k).map (.int .i64))) ∧ Hid (Below wL.heap.size wL wx))
      case first =>
       cases ha : hasB p.Op with
       | false =>
         rw [ha] at z1;go_wp2_with fail;go_meet
         exact ⟨A1, m1, d1, rfl, hide (by have e : srcs f k = if hasA p.Op = true then [writerTo f k p.A] else [] := by unfold srcs; rw [HPK.out]; simp [ha]
                                          rw [e]; exact HO1.out),HB5⟩
       | true =>
         rw [ha] at z1
         have hm1 : m1 ≤ 1:=by
          have:=HO1.out.len;rw [List.length_map] at this;split at this
          ·simp only [List.length_singleton] at this; omega
          ·simp only [List.length_nil] at this; omega
         obtain ⟨hs,hmkv,hv0,hv1⟩:=HOWN.out.2 ha;rw [HFW.out.2.2.1] at hs;obtain ⟨a0,a1⟩:=slot_bd hs;obtain ⟨mb,mo,mv,hma,mlt,hmv,mc⟩:=(show Ints wL (some ⟨gm,0,none⟩) (frMk f k) from HT4.out.made.cells).at_ p.B.toNat (by rw [frMk_len,HFW.out.2.2.1]; omega);injection hma with hma;injection hma with e2 e3;subst e2 e3;rw [Nat.zero_add] at mc;have hmv2 : mv = writerTo f k p.B + 1:=by rw [← hmkv,List.getD_eq_getElem?_getD,hmv]; rfl
         have HMV : Hid (mv - 1 = writerTo f k p.B):=hide (by omega);have e4 : IntKind.i64.wrap (mv - 1) = mv - 1:=IntWalk.i64_in _ (by omega);have haN : p.B < (S.toNat : Int):=by omega
         have haN4 : p.B < max S 0:=by omega
         have haN5 : p.B < S:=by omega
         have hwk:=HT4.out.walk;rw [HFW.out.1,HFW.out.2.1,HFW.out.2.2.1,HFW.out.2.2.2.1] at hwk;have v6:=(WalkBox.cells hwk).2.2.2.2.2.2.2;have y2 : wL.cell? ⟨wr.heap.size,3,none⟩ = some (.int .i64 p.B):=(Blk.cell HPB3.out 3).trans rfl;have HKS:=hide (show Keeps wL (fun w'=>w'.cell? ⟨w.heap.size + 4,6,none⟩ = some (.slice (some ⟨gm,0,none⟩) S.toNat S.toNat) ∧ w'.cell? ⟨wr.heap.size,3,none⟩ = some (.int .i64 p.B) ∧ w'.cell? ⟨gm,p.B.toNat,none⟩ = some (.int .i64 mv)) from ⟨⟨v6,y2,mc⟩,fun _ hb=>⟨keepC hb v6,keepC hb y2,keepC hb mc⟩⟩);have hj0:=HJ0.out;have jz0:=KZ0.out;have jz1:=KZ1.out;have jz2:=KZ2.out;clear hmv2 hmkv hmv hv0 hv1 hwk hs mlt;go_wp2_with fail
         go_region_held3 (fun w'=>w'.cell? ⟨w.heap.size + 4,6,none⟩ = some (.slice (some ⟨gm,0,none⟩) S.toNat S.toNat) ∧ w'.cell? ⟨wr.heap.size,3,none⟩ = some (.int .i64 p.B) ∧ w'.cell? ⟨gm,p.B.toNat,none⟩ = some (.int .i64 mv))
          (first | exact HKS.out.later _ hb9 | exact HKS.out.later _ (by repeat (first | exact HB5.out | refine Below.drew ?_ | refine Below.alloc ?_ (by first | omega | (simp only [World.size_alloc,World.size_drew]; omega)) _)))
          ((refine step_app1W _ _ (by rfl) _ _ 25 (by rfl) wL.heap.size 3 j0 _ 1 8 Tryz.underlying25 hj0 jz0 jz1 jz2 rfl (by omega) A1 m1 d1 _ [.int .i64 (mv - 1)] (by rfl) (by first | exact HO1.out | exact Own.alloc HO1.out _ | exact Own.drew (Own.alloc HO1.out _) | exact Own.alloc (Own.drew HO1.out) _) (by rfl) (by first | exact Blk.newE (by first | rfl | simp) | exact Blk.drew (Blk.newE (by first | rfl | simp))) rfl (one_int _) (by omega) (by omega) (by first | omega | (simp; done) | (simp; omega)) ?_; intro A9 c9 w9 hown9 hg9 hat9; have hb9 : Below wL.heap.size wL w9:=Below.grownOwn (by repeat (first | exact HB5.out | refine Below.drew ?_ | refine Below.alloc ?_ (by first | omega | (simp only [World.size_alloc,World.size_drew]; omega)) _)) (by first | exact HO1.out | exact Own.alloc HO1.out _ | exact Own.drew (Own.alloc HO1.out _)) hg9 (by first | omega | (simp; done) | (simp; omega)) (Nat.le_refl _)))
         go_wp2_with fail;go_meet
         exact ⟨A9,_,c9,rfl,hide (by have e:=HMV.out; rw [e] at hown9; have e2 : (srcs f k).map (Value.int .i64) = (if hasA p.Op = true then [writerTo f k p.A] else []).map (Value.int .i64) ++ [.int .i64 (writerTo f k p.B)]:=(by unfold srcs; rw [HPK.out]; simp [ha]); rw [e2]; exact hown9),hide hb9⟩
      case rest =>
       obtain ⟨A1,m1,d1,rfl,HO1,HB5⟩:=hcut;have HT5:=hide (HT4.out.keep HB5.out);have HR5:=hide (HR4.out.keep HB5.out);have HPB5:=hide (Blk.keep HPB3.out HB5.out);have HSB5:=hide (HSB2.out.keep HB5.out);have hs6:=HB5.out.size;have hlen1 : m1 = (srcs f k).length:=by have:=HO1.out.len; rw [List.length_map] at this; omega
       have HLN:=hide hlen1;obtain ⟨LL,hLL⟩ : ∃ LL,LL = wL.heap.size:=⟨_,rfl⟩;rw [← hLL] at hL8 hs6 HO1;have HLL : Hid (LL ≤ wc.heap.size ∧ w1.heap.size < LL):=hide ⟨hs6,hL8⟩;have hgg:=HGG.out;have hl6:=HL6.out;have hok:=HOK.out.to;rw [HFW.out.2.2.1] at hok;obtain ⟨to0,to1⟩:=hok;have hto3 : p.To < (S.toNat : Int):=by omega
       have hto4 : p.To < max S 0:=by omega
       have hto5 : p.To < S:=by omega
       have hwk:=HT5.out.walk;rw [HFW.out.1,HFW.out.2.1,HFW.out.2.2.1,HFW.out.2.2.2.1] at hwk;obtain ⟨v,v0,v1,v2,v3,v4,v5,v6⟩:=WalkBox.cells hwk;have y1 : wc.cell? ⟨wr.heap.size,1,none⟩ = some (.int .i64 p.To):=(Blk.cell HPB5.out 1).trans rfl;have s0 : wc.cell? ⟨w1.heap.size,0,none⟩ = some (.int .i64 (frSize f k).W):=(HSB5.out.cell 0).trans rfl;have s1 : wc.cell? ⟨w1.heap.size,1,none⟩ = some (.int .i64 (frSize f k).H):=(HSB5.out.cell 1).trans rfl;have g0:=HT5.out.sizes.lt;have g1:=HT5.out.sizes.frozen (p.To.toNat * 2);have g2:=HT5.out.sizes.frozen (p.To.toNat * 2 + 1);have g3:=HT5.out.made.frozen p.To.toNat;have g4:=HT5.out.made.lt;obtain ⟨b',o',hsa,hb',i1,i2⟩:=sizes_at (N:=S.toNat) HT5.out.sizes.cells (by rw [frSt_len,HFW.out.2.2.1]) (by omega) (slot_iff.2 ⟨to0,to1⟩);injection hsa with hsa;injection hsa with e1 e2;subst e1 e2;rw [Nat.zero_add] at i1 i2;obtain ⟨mb,mo,mv,hma,mlt,hmv,i3⟩:=(show Ints wc (some ⟨gm,0,none⟩) (frMk f k) from HT5.out.made.cells).at_ p.To.toNat (by rw [frMk_len,HFW.out.2.2.1]; omega);injection hma with hma;injection hma with e1 e2;subst e1 e2;rw [Nat.zero_add] at i3;have n1 : ¬ w.heap.size + 4 = gs:=by omega
       have n2 : ¬ w.heap.size + 4 = gm:=by omega
       have n3 : ¬ wr.heap.size = gs:=by omega
       have n4 : ¬ wr.heap.size = gm:=by omega
       have n5 : ¬ w1.heap.size = gs:=by omega
       have n6 : ¬ w1.heap.size = gm:=by omega
       have n7 : ¬ gs = gm:=by omega
       have n8 : ¬ gm = gs:=by omega
       have e5 : IntKind.i64.wrap ((k : Int) + 1) = (k : Int) + 1:=IntWalk.i64_in _ (by omega);clear hmv hwk hgg hl6 hLL HT4 HR4 HPB3 HSB2 HPB5 HB5 z1 hs5 hs6 hL8 hlen1 hb' mlt;go_upto_region 19 with fail
       go_cut [] (fun wx=>Hid (TBase w f (some ⟨b,o,none⟩) n c gs gm (k + 1) A k d B k d' wx) ∧ Hid (ToldRows w wx f k A d B d' es) ∧ Hid (Blk wx w1.heap.size 53 (szCells (frSize f k))) ∧ Hid (Own wx LL 3 1 A1 m1 d1 ((srcs f k).map (.int .i64))) ∧ Hid (wx.heap.size = wc.heap.size))
       case first =>
        go_region_held3 (fun w'=>w'.cell? ⟨w.heap.size + 4,5,none⟩ = some (.slice (some ⟨gs,0,none⟩) S.toNat S.toNat) ∧ w'.cell? ⟨w.heap.size + 4,6,none⟩ = some (.slice (some ⟨gm,0,none⟩) S.toNat S.toNat) ∧ w'.cell? ⟨wr.heap.size,1,none⟩ = some (.int .i64 p.To) ∧ w'.cell? ⟨w1.heap.size,0,none⟩ = some (.int .i64 (frSize f k).W) ∧ w'.cell? ⟨w1.heap.size,1,none⟩ = some (.int .i64 (frSize f k).H)) (refine ⟨?_,?_,?_,?_,?_⟩ <;> (repeat (first | with_reducible (first | exact v5 | exact v6 | exact y1 | exact s0 | exact s1) | with_reducible (refine cellDrew ?_) | with_reducible (refine cellFar ?_ (by simp only; omega))))) (fail)
        have hst:=HT5.out.store HGG.out (by rw [HPK.out,HFW.out.2.2.1]; omega);rw [HPK.out] at hst;have qq1:=HGG.out;have qq2:=HL6.out;have qq3:=HLL.out;have hb1 : gs < w.heap.size + 6:=by omega
        have hb2 : gm < w.heap.size + 6:=by omega
        have hb3 : gs < LL:=by omega
        have hb4 : gm < LL:=by omega
        clear qq1 qq2 qq3;go_wp2_with fail;go_meet
        exact ⟨hide (hst.keep (Below.refl _ _).drew),hide ((((HR5.out.setBelow (p:=⟨gs,_,none⟩) hb1 _).setBelow (p:=⟨gs,_,none⟩) hb1 _).setBelow (p:=⟨gm,_,none⟩) hb2 _).keep (Below.refl _ _).drew),
         hide (((HSB5.out.far (p:=⟨gs,_,none⟩) n5 _).far (p:=⟨gs,_,none⟩) n5 _).far (p:=⟨gm,_,none⟩) n6 _).drew,hide (((HO1.out.far (p:=⟨gs,_,none⟩) hb3 _).far (p:=⟨gs,_,none⟩) hb3 _).far (p:=⟨gm,_,none⟩) hb4 _).drew,hide (by simp [World.setCell])⟩
       case rest =>
        obtain ⟨HT6,HR6,HSB6,HO6,HSZ6⟩:=hcut
        have hl9 : LL ≤ wc.heap.size ∧ w1.heap.size < LL:=by
         have h1:=HLL.out;have h2:=HSZ6.out;omega
        obtain ⟨hl1,hl2⟩:=hl9;obtain ⟨hl3,hl4⟩:=HL6.out;have hgg:=HGG.out;have hk8 : k ≤ 1073741824:=by omega
        have hg4 : gs < w.heap.size + 4:=by omega
        have hm4 : gm < w.heap.size + 4:=by omega
        clear v v0 v1 v2 v3 v4 v5 v6 y1 s0 s1 g0 g1 g2 g3 g4 i1 i2 i3 n1 n2 n3 n4 n5 n6 n7 n8 to0 to1 hto3 hto4 hto5 e5 HT5 HR5 HSB5 HO1 hgg;have s0 : wc.cell? ⟨w1.heap.size,0,none⟩ = some (.int .i64 (frSize f k).W):=(HSB6.out.cell 0).trans rfl;have s1 : wc.cell? ⟨w1.heap.size,1,none⟩ = some (.int .i64 (frSize f k).H):=(HSB6.out.cell 1).trans rfl;obtain ⟨t0,t1,t2,t3,t4⟩:=HT6.out.taleCells;have hi0:=HI0.out;have hz0:=HZ0.out;have hz1:=HZ1.out;have hz2:=HZ2.out;obtain ⟨l0,hl0,lz0,lz1,lz2⟩:=info_parts Tryz.info25;go_upto_region 20 with fail
        have HKS : ∀ x1 x2 : World,Below x1.heap.size x1 x2 → (fun w' : World=>w'.cell? ⟨w.heap.size + 5,0,none⟩ = some (.slice A k d) ∧ w'.cell? ⟨w.heap.size + 5,1,none⟩ = some (.slice B k d') ∧ w'.cell? ⟨w1.heap.size,0,none⟩ = some (.int .i64 (frSize f k).W) ∧ w'.cell? ⟨w1.heap.size,1,none⟩ = some (.int .i64 (frSize f k).H)) x1 → (fun w' : World=>w'.cell? ⟨w.heap.size + 5,0,none⟩ = some (.slice A k d) ∧ w'.cell? ⟨w.heap.size + 5,1,none⟩ = some (.slice B k d') ∧ w'.cell? ⟨w1.heap.size,0,none⟩ = some (.int .i64 (frSize f k).W) ∧ w'.cell? ⟨w1.heap.size,1,none⟩ = some (.int .i64 (frSize f k).H)) x2:=fun _ _ hb h=>⟨keepC hb h.1,keepC hb h.2.1,keepC hb h.2.2.1,keepC hb h.2.2.2⟩;have hS0 : (fun w' : World=>w'.cell? ⟨w.heap.size + 5,0,none⟩ = some (.slice A k d) ∧ w'.cell? ⟨w.heap.size + 5,1,none⟩ = some (.slice B k d') ∧ w'.cell? ⟨w1.heap.size,0,none⟩ = some (.int .i64 (frSize f k).W) ∧ w'.cell? ⟨w1.heap.size,1,none⟩ = some (.int .i64 (frSize f k).H)) wc.drew:=⟨t0,t1,s0,s1⟩;have HSS:=hide HKS;clear HKS;refine wp_region_B (fun w' : World=>w'.cell? ⟨w.heap.size + 5,0,none⟩ = some (.slice A k d) ∧ w'.cell? ⟨w.heap.size + 5,1,none⟩ = some (.slice B k d') ∧ w'.cell? ⟨w1.heap.size,0,none⟩ = some (.int .i64 (frSize f k).W) ∧ w'.cell? ⟨w1.heap.size,1,none⟩ = some (.int .i64 (frSize f k).H)) (fun j=>decide (j = 11 ∨ j = 13)) (by kernel_rfl) ?_;refine AnyB.fr (i:=0) (.pointer (some ⟨w.heap.size + 5,0,none⟩)) rfl (by kernel_rfl) (fun w'=>?_) ?_
        ·go_simp
        try simp only [Act.put,lsa]
        refine AnyB.tk (i:=1) (.slice A k d) rfl (by kernel_rfl) (fun w' hS'=>?_) hS0 ?_
        ·obtain ⟨e0,e1,e2,e3⟩:=hS'
         go_simp
        try simp only [Act.put]
        refine AnyB.tk (i:=2) (.agg #[.int .i64 (frSize f k).W,.int .i64 (frSize f k).H]) rfl (by kernel_rfl) (fun w' hS'=>?_) hS0 ?_
        ·obtain ⟨e0,e1,e2,e3⟩:=hS'
         go_simp
        try simp only [Act.put]
        refine AnyB.fr (i:=5) (.pointer (some ⟨w.heap.size + 5,1,none⟩)) rfl (by kernel_rfl) (fun w'=>?_) ?_
        ·go_simp
        try simp only [Act.put]
        refine AnyB.tk (i:=6) (.slice B k d') rfl (by kernel_rfl) (fun w' hS'=>?_) hS0 ?_
        ·obtain ⟨e0,e1,e2,e3⟩:=hS'
         go_simp
        try simp only [Act.put]
        refine AnyB.fr (i:=7) (.slice A1 m1 d1) rfl (by kernel_rfl) (fun w'=>?_) ?_
        ·go_simp
        try simp only [Act.put]
        refine AnyB.two (i:=3) (j:=8) (by kernel_rfl) rfl rfl (fun K hK=>?_) (fun K hK=>?_)
        ·
         go_simp;refine hK.out _ _ (fun _ hs=>HSS.out _ _ ((Below.refl _ _).alloc (Nat.le_refl _) _) hs) ?_;clear hK K;try simp only [Act.put,lsa,lsz,lss]
         refine AnyB.two (i:=4) (j:=8) (by kernel_rfl) rfl rfl (fun K hK=>?_) (fun K hK=>?_)
         ·
          refine step_app1W _ _ (by rfl) _ _ 48 (by rfl) (w.heap.size + 6) 53 i0 _ 2 16 Tryz.underlying48 hi0 hz0 hz1 hz2 rfl (by omega) A k d _ (szCells (frSize f k)) (by rfl) (Own.keep HR6.out.one (by repeat (first | exact Below.refl _ _ | refine Below.drew ?_ | refine Below.alloc ?_ (by first | omega | (simp only [World.size_alloc,World.size_drew]; omega)) _))) (by rfl) (by first | exact Blk.newE (by first | rfl | simp) | exact Blk.drew (Blk.newE (by first | rfl | simp)) | exact Blk.alloc (Blk.newE (by first | rfl | simp)) _ | exact Blk.drew (Blk.alloc (Blk.newE (by first | rfl | simp)) _) | exact Blk.alloc (Blk.drew (Blk.newE (by first | rfl | simp))) _ | exact Blk.alloc (Blk.alloc (Blk.newE (by first | rfl | simp)) _) _) rfl (sz_one _) hk8 (by omega) (by first | omega | (simp only [World.size_alloc,World.size_drew]; omega)) ?_
          intro A9 c9 w9 hown9 hg9 hat9;obtain ⟨u1,u2,u3,u4,u5,u6,u7⟩:=tellOne (R:=wr.heap.size) hg4 hm4 HT6.out HR6.out HO6.out HRA.out HRB.out (by omega) (by repeat (first | exact Below.refl _ _ | refine Below.drew ?_ | refine Below.alloc ?_ (by first | omega | (simp only [World.size_alloc,World.size_drew]; omega)) _)) hown9 hg9 hat9
          obtain ⟨x0,x1,x2,x3,x4⟩:=u1.taleCells;have hB9:=u6 w1.heap.size _ _ (by omega) (HSB6.out.keep (by repeat (first | exact Below.refl _ _ | refine Below.drew ?_ | refine Below.alloc ?_ (by first | omega | (simp only [World.size_alloc,World.size_drew]; omega)) _)))
          have U1:=hide u1;have U2:=hide u2;have U3:=hide u3;have U4:=hide u4;have U5:=hide u5;have U6:=hide u6;have HB9:=hide hB9;clear u2 u3 u4 u5 u6 u1;refine hK.out _ _ (fun _ _=>⟨x0,x1,(HB9.out.cell 0).trans rfl,(HB9.out.cell 1).trans rfl⟩) ?_;clear hK K;try simp only [Act.put,lsa]
          clear x0 x1 x2 x3 x4 hB9;refine AnyB.fr (i:=10) (.pointer (some ⟨w.heap.size + 5,0,none⟩)) rfl (by kernel_rfl) (fun w'=>?_) ?_
          ·go_simp
          try simp only [Act.put]
          refine AnyB.one (i:=8) (by kernel_rfl) rfl (fun K hK=>?_)
          go_simp;refine hK.out _ _ (fun _ hs=>HSS.out _ _ ((Below.refl _ _).alloc (Nat.le_refl _) _) hs) ?_;clear hK K;try simp only [Act.put,lsa,lsz,lss]
          refine AnyB.one (i:=9) (by kernel_rfl) rfl (fun K hK=>?_)
          refine step_app1W _ _ (by rfl) _ _ 63 (by rfl) (w.heap.size + 6) 25 l0 _ 1 24 Tryz.underlying63 hl0 lz0 lz1 lz2 rfl (by omega) B k d' _ [.slice A1 m1 d1] (by rfl) (Own.keep U2.out.two.own (by repeat (first | exact Below.refl _ _ | refine Below.drew ?_ | refine Below.alloc ?_ (by first | omega | (simp only [World.size_alloc,World.size_drew]; omega)) _))) (by rfl) (by first | exact U6.out _ _ _ (by omega) (Blk.newE (by first | rfl | simp)) | exact U6.out _ _ _ (by omega) (Blk.drew (Blk.newE (by first | rfl | simp))) | exact U6.out _ _ _ (by omega) (Blk.alloc (Blk.newE (by first | rfl | simp)) _) | exact U6.out _ _ _ (by omega) (Blk.drew (Blk.alloc (Blk.newE (by first | rfl | simp)) _)) | exact U6.out _ _ _ (by omega) (Blk.alloc (Blk.drew (Blk.newE (by first | rfl | simp))) _) | exact U6.out _ _ _ (by omega) (Blk.alloc (Blk.alloc (Blk.newE (by first | rfl | simp)) _) _) | exact Blk.newE (by first | rfl | simp) | exact Blk.drew (Blk.newE (by first | rfl | simp)) | exact Blk.alloc (Blk.newE (by first | rfl | simp)) _ | exact Blk.drew (Blk.alloc (Blk.newE (by first | rfl | simp)) _) | exact Blk.alloc (Blk.drew (Blk.newE (by first | rfl | simp))) _ | exact Blk.alloc (Blk.alloc (Blk.newE (by first | rfl | simp)) _) _) rfl (one_slice _ _ _) hk8 (by omega) (by have:=U1.out.size; first | omega | (simp only [World.size_alloc]; omega)) ?_
          intro B9 d9 w10 hown10 hg10 hat10;obtain ⟨y1,y2⟩:=tellTwo hg4 hm4 U1.out U2.out U3.out HLN.out.symm (by omega) U4.out U5.out (by repeat (first | exact Below.refl _ _ | refine Below.drew ?_ | refine Below.alloc ?_ (by first | omega | (simp only [World.size_alloc,World.size_drew]; omega)) _)) hown10 hg10 hat10
          obtain ⟨p0,p1,p2,p3,p4⟩:=y1.taleCells;have hB10:=blkGrown (HB9.out.keep (by repeat (first | exact Below.refl _ _ | refine Below.drew ?_ | refine Below.alloc ?_ (by first | omega | (simp only [World.size_alloc,World.size_drew]; omega)) _))) hg10 (fun e=>by have:=HRB.out _ e; omega)
          have Y1:=hide y1;have Y2:=hide y2;clear y1 y2;refine hK.out _ _ (fun _ _=>⟨p0,p1,(hB10.cell 0).trans rfl,(hB10.cell 1).trans rfl⟩) ?_;clear hK K;try simp only [Act.put,lsa]
          clear hB10;refine AnyB.one (i:=11) (by kernel_rfl) rfl (fun K hK=>?_)
          go_simp;refine hK.out _ _ (fun h _=>by cases h) ?_;clear hK K;try simp only [Act.put,lsa,lsz,lss]
          refine AnyB.fr (i:=12) (.pointer (some ⟨w.heap.size + 5,1,none⟩)) rfl (by kernel_rfl) (fun w'=>?_) ?_
          ·go_simp
          try simp only [Act.put,lsa]
          refine AnyB.one (i:=13) (by kernel_rfl) rfl (fun K hK=>?_)
          go_simp;refine hK.out _ _ (fun h _=>by cases h) ?_;clear hK K;try simp only [Act.put,lsa,lsz,lss]
          refine AnyB.done (by kernel_rfl) ?_;go_wp2_with fail;go_roundw
          case rel=>exact ⟨k + 1,A9,c9,B9,d9,_,by omega,by go_num,hide ((frErrTo_succ HE.out).trans (by rw [HFW.out.2.2.1,HPK.out]; exact HPE.out)),hide (Y1.out.tell hg4 hm4),hide ((Y2.out.setBelow (p:=⟨w.heap.size + 5,0,none⟩) (by simp) _).setBelow (p:=⟨w.heap.size + 5,1,none⟩) (by simp) _)⟩
          case measure=>simp [intOf]; omega
         ·
          go_simp;refine hK.out _ _ (fun _ hs=>HSS.out _ _ ((Below.refl _ _).alloc (Nat.le_refl _) _) hs) ?_;clear hK K;try simp only [Act.put,lsa,lsz,lss]
          refine AnyB.one (i:=4) (by kernel_rfl) rfl (fun K hK=>?_)
          refine step_app1W _ _ (by rfl) _ _ 48 (by rfl) (w.heap.size + 6) 53 i0 _ 2 16 Tryz.underlying48 hi0 hz0 hz1 hz2 rfl (by omega) A k d _ (szCells (frSize f k)) (by rfl) (Own.keep HR6.out.one (by repeat (first | exact Below.refl _ _ | refine Below.drew ?_ | refine Below.alloc ?_ (by first | omega | (simp only [World.size_alloc]; omega)) _))) (by rfl) (by first | exact Blk.newE (by first | rfl | simp) | exact Blk.drew (Blk.newE (by first | rfl | simp)) | exact Blk.alloc (Blk.newE (by first | rfl | simp)) _ | exact Blk.drew (Blk.alloc (Blk.newE (by first | rfl | simp)) _) | exact Blk.alloc (Blk.drew (Blk.newE (by first | rfl | simp))) _ | exact Blk.alloc (Blk.alloc (Blk.newE (by first | rfl | simp)) _) _) rfl (sz_one _) hk8 (by omega) (by first | omega | (simp only [World.size_alloc,World.size_drew]; omega)) ?_
          intro A9 c9 w9 hown9 hg9 hat9;obtain ⟨u1,u2,u3,u4,u5,u6,u7⟩:=tellOne (R:=wr.heap.size) hg4 hm4 HT6.out HR6.out HO6.out HRA.out HRB.out (by omega) (by repeat (first | exact Below.refl _ _ | refine Below.drew ?_ | refine Below.alloc ?_ (by first | omega | (simp only [World.size_alloc]; omega)) _)) hown9 hg9 hat9
          obtain ⟨x0,x1,x2,x3,x4⟩:=u1.taleCells;have hB9:=u6 w1.heap.size _ _ (by omega) (HSB6.out.keep (by repeat (first | exact Below.refl _ _ | refine Below.drew ?_ | refine Below.alloc ?_ (by first | omega | (simp only [World.size_alloc]; omega)) _)))
          have U1:=hide u1;have U2:=hide u2;have U3:=hide u3;have U4:=hide u4;have U5:=hide u5;have U6:=hide u6;have HB9:=hide hB9;clear u2 u3 u4 u5 u6 u1;refine hK.out _ _ (fun _ _=>⟨x0,x1,(HB9.out.cell 0).trans rfl,(HB9.out.cell 1).trans rfl⟩) ?_;clear hK K;try simp only [Act.put,lsa]
          clear x0 x1 x2 x3 x4 hB9;refine AnyB.fr (i:=10) (.pointer (some ⟨w.heap.size + 5,0,none⟩)) rfl (by kernel_rfl) (fun w'=>?_) ?_
          ·go_simp
          try simp only [Act.put]
          refine AnyB.one (i:=9) (by kernel_rfl) rfl (fun K hK=>?_)
          refine step_app1W _ _ (by rfl) _ _ 63 (by rfl) (w.heap.size + 6) 25 l0 _ 1 24 Tryz.underlying63 hl0 lz0 lz1 lz2 rfl (by omega) B k d' _ [.slice A1 m1 d1] (by rfl) (Own.keep U2.out.two.own (by repeat (first | exact Below.refl _ _ | refine Below.drew ?_ | refine Below.alloc ?_ (by first | omega | (simp only [World.size_alloc,World.size_drew]; omega)) _))) (by rfl) (by first | exact U6.out _ _ _ (by omega) (Blk.newE (by first | rfl | simp)) | exact U6.out _ _ _ (by omega) (Blk.drew (Blk.newE (by first | rfl | simp))) | exact U6.out _ _ _ (by omega) (Blk.alloc (Blk.newE (by first | rfl | simp)) _) | exact U6.out _ _ _ (by omega) (Blk.drew (Blk.alloc (Blk.newE (by first | rfl | simp)) _)) | exact U6.out _ _ _ (by omega) (Blk.alloc (Blk.drew (Blk.newE (by first | rfl | simp))) _) | exact U6.out _ _ _ (by omega) (Blk.alloc (Blk.alloc (Blk.newE (by first | rfl | simp)) _) _) | exact Blk.newE (by first | rfl | simp) | exact Blk.drew (Blk.newE (by first | rfl | simp)) | exact Blk.alloc (Blk.newE (by first | rfl | simp)) _ | exact Blk.drew (Blk.alloc (Blk.newE (by first | rfl | simp)) _) | exact Blk.alloc (Blk.drew (Blk.newE (by first | rfl | simp))) _ | exact Blk.alloc (Blk.alloc (Blk.newE (by first | rfl | simp)) _) _) rfl (one_slice _ _ _) hk8 (by omega) (by have:=U1.out.size; first | omega | (simp only [World.size_alloc,World.size_drew]; omega)) ?_
          intro B9 d9 w10 hown10 hg10 hat10;obtain ⟨y1,y2⟩:=tellTwo hg4 hm4 U1.out U2.out U3.out HLN.out.symm (by omega) U4.out U5.out (by repeat (first | exact Below.refl _ _ | refine Below.drew ?_ | refine Below.alloc ?_ (by first | omega | (simp only [World.size_alloc,World.size_drew]; omega)) _)) hown10 hg10 hat10
          obtain ⟨p0,p1,p2,p3,p4⟩:=y1.taleCells;have hB10:=blkGrown (HB9.out.keep (by repeat (first | exact Below.refl _ _ | refine Below.drew ?_ | refine Below.alloc ?_ (by first | omega | (simp only [World.size_alloc,World.size_drew]; omega)) _))) hg10 (fun e=>by have:=HRB.out _ e; omega)
          have Y1:=hide y1;have Y2:=hide y2;clear y1 y2;refine hK.out _ _ (fun _ _=>⟨p0,p1,(hB10.cell 0).trans rfl,(hB10.cell 1).trans rfl⟩) ?_;clear hK K;try simp only [Act.put]
          clear hB10;refine AnyB.one (i:=11) (by kernel_rfl) rfl (fun K hK=>?_)
          go_simp;refine hK.out _ _ (fun h _=>by cases h) ?_;clear hK K;try simp only [Act.put,lsa,lsz,lss]
          refine AnyB.fr (i:=12) (.pointer (some ⟨w.heap.size + 5,1,none⟩)) rfl (by kernel_rfl) (fun w'=>?_) ?_
          ·go_simp
          try simp only [Act.put,lsa]
          refine AnyB.one (i:=13) (by kernel_rfl) rfl (fun K hK=>?_)
          go_simp;refine hK.out _ _ (fun h _=>by cases h) ?_;clear hK K;try simp only [Act.put,lsa,lsz,lss]
          refine AnyB.done (by kernel_rfl) ?_;go_wp2_with fail;go_roundw
          case rel=>exact ⟨k + 1,A9,c9,B9,d9,_,by omega,by go_num,hide ((frErrTo_succ HE.out).trans (by rw [HFW.out.2.2.1,HPK.out]; exact HPE.out)),hide (Y1.out.tell hg4 hm4),hide ((Y2.out.setBelow (p:=⟨w.heap.size + 5,0,none⟩) (by simp) _).setBelow (p:=⟨w.heap.size + 5,1,none⟩) (by simp) _)⟩
          case measure=>simp [intOf]; omega
        ·
         go_simp;refine hK.out _ _ (fun _ hs=>HSS.out _ _ ((Below.refl _ _).alloc (Nat.le_refl _) _) hs) ?_;clear hK K;try simp only [Act.put,lsa,lsz,lss]
         refine AnyB.one (i:=3) (by kernel_rfl) rfl (fun K hK=>?_)
         go_simp;refine hK.out _ _ (fun _ hs=>HSS.out _ _ ((Below.refl _ _).alloc (Nat.le_refl _) _) hs) ?_;clear hK K;try simp only [Act.put,lsa,lsz,lss]
         refine AnyB.one (i:=4) (by kernel_rfl) rfl (fun K hK=>?_)
         refine step_app1W _ _ (by rfl) _ _ 48 (by rfl) (w.heap.size + 6) 53 i0 _ 2 16 Tryz.underlying48 hi0 hz0 hz1 hz2 rfl (by omega) A k d _ (szCells (frSize f k)) (by rfl) (Own.keep HR6.out.one (by repeat (first | exact Below.refl _ _ | refine Below.drew ?_ | refine Below.alloc ?_ (by first | omega | (simp only [World.size_alloc]; omega)) _))) (by rfl) (by first | exact Blk.newE (by first | rfl | simp) | exact Blk.drew (Blk.newE (by first | rfl | simp)) | exact Blk.alloc (Blk.newE (by first | rfl | simp)) _ | exact Blk.drew (Blk.alloc (Blk.newE (by first | rfl | simp)) _) | exact Blk.alloc (Blk.drew (Blk.newE (by first | rfl | simp))) _ | exact Blk.alloc (Blk.alloc (Blk.newE (by first | rfl | simp)) _) _) rfl (sz_one _) hk8 (by omega) (by first | omega | (simp only [World.size_alloc,World.size_drew]; omega)) ?_
         intro A9 c9 w9 hown9 hg9 hat9;obtain ⟨u1,u2,u3,u4,u5,u6,u7⟩:=tellOne (R:=wr.heap.size) hg4 hm4 HT6.out HR6.out HO6.out HRA.out HRB.out (by omega) (by repeat (first | exact Below.refl _ _ | refine Below.drew ?_ | refine Below.alloc ?_ (by first | omega | (simp only [World.size_alloc]; omega)) _)) hown9 hg9 hat9
         obtain ⟨x0,x1,x2,x3,x4⟩:=u1.taleCells;have hB9:=u6 w1.heap.size _ _ (by omega) (HSB6.out.keep (by repeat (first | exact Below.refl _ _ | refine Below.drew ?_ | refine Below.alloc ?_ (by first | omega | (simp only [World.size_alloc]; omega)) _)))
         have U1:=hide u1;have U2:=hide u2;have U3:=hide u3;have U4:=hide u4;have U5:=hide u5;have U6:=hide u6;have HB9:=hide hB9;clear u2 u3 u4 u5 u6 u1;refine hK.out _ _ (fun _ _=>⟨x0,x1,(HB9.out.cell 0).trans rfl,(HB9.out.cell 1).trans rfl⟩) ?_;clear hK K;try simp only [Act.put,lsa]
         clear x0 x1 x2 x3 x4 hB9;refine AnyB.fr (i:=10) (.pointer (some ⟨w.heap.size + 5,0,none⟩)) rfl (by kernel_rfl) (fun w'=>?_) ?_
         ·go_simp
         try simp only [Act.put]
         refine AnyB.one (i:=9) (by kernel_rfl) rfl (fun K hK=>?_)
         refine step_app1W _ _ (by rfl) _ _ 63 (by rfl) (w.heap.size + 6) 25 l0 _ 1 24 Tryz.underlying63 hl0 lz0 lz1 lz2 rfl (by omega) B k d' _ [.slice A1 m1 d1] (by rfl) (Own.keep U2.out.two.own (by repeat (first | exact Below.refl _ _ | refine Below.drew ?_ | refine Below.alloc ?_ (by first | omega | (simp only [World.size_alloc,World.size_drew]; omega)) _))) (by rfl) (by first | exact U6.out _ _ _ (by omega) (Blk.newE (by first | rfl | simp)) | exact U6.out _ _ _ (by omega) (Blk.drew (Blk.newE (by first | rfl | simp))) | exact U6.out _ _ _ (by omega) (Blk.alloc (Blk.newE (by first | rfl | simp)) _) | exact U6.out _ _ _ (by omega) (Blk.drew (Blk.alloc (Blk.newE (by first | rfl | simp)) _)) | exact U6.out _ _ _ (by omega) (Blk.alloc (Blk.drew (Blk.newE (by first | rfl | simp))) _) | exact U6.out _ _ _ (by omega) (Blk.alloc (Blk.alloc (Blk.newE (by first | rfl | simp)) _) _) | exact Blk.newE (by first | rfl | simp) | exact Blk.drew (Blk.newE (by first | rfl | simp)) | exact Blk.alloc (Blk.newE (by first | rfl | simp)) _ | exact Blk.drew (Blk.alloc (Blk.newE (by first | rfl | simp)) _) | exact Blk.alloc (Blk.drew (Blk.newE (by first | rfl | simp))) _ | exact Blk.alloc (Blk.alloc (Blk.newE (by first | rfl | simp)) _) _) rfl (one_slice _ _ _) hk8 (by omega) (by have:=U1.out.size; first | omega | (simp only [World.size_alloc,World.size_drew]; omega)) ?_
         intro B9 d9 w10 hown10 hg10 hat10;obtain ⟨y1,y2⟩:=tellTwo hg4 hm4 U1.out U2.out U3.out HLN.out.symm (by omega) U4.out U5.out (by repeat (first | exact Below.refl _ _ | refine Below.drew ?_ | refine Below.alloc ?_ (by first | omega | (simp only [World.size_alloc,World.size_drew]; omega)) _)) hown10 hg10 hat10
         obtain ⟨p0,p1,p2,p3,p4⟩:=y1.taleCells;have hB10:=blkGrown (HB9.out.keep (by repeat (first | exact Below.refl _ _ | refine Below.drew ?_ | refine Below.alloc ?_ (by first | omega | (simp only [World.size_alloc,World.size_drew]; omega)) _))) hg10 (fun e=>by have:=HRB.out _ e; omega)
         have Y1:=hide y1;have Y2:=hide y2;clear y1 y2;refine hK.out _ _ (fun _ _=>⟨p0,p1,(hB10.cell 0).trans rfl,(hB10.cell 1).trans rfl⟩) ?_;clear hK K;try simp only [Act.put]
         clear hB10;refine AnyB.one (i:=11) (by kernel_rfl) rfl (fun K hK=>?_)
         go_simp;refine hK.out _ _ (fun h _=>by cases h) ?_;clear hK K;try simp only [Act.put,lsa,lsz,lss]
         refine AnyB.fr (i:=12) (.pointer (some ⟨w.heap.size + 5,1,none⟩)) rfl (by kernel_rfl) (fun w'=>?_) ?_
         ·go_simp
         try simp only [Act.put,lsa]
         refine AnyB.one (i:=13) (by kernel_rfl) rfl (fun K hK=>?_)
         go_simp;refine hK.out _ _ (fun h _=>by cases h) ?_;clear hK K;try simp only [Act.put,lsa,lsz,lss]
         refine AnyB.done (by kernel_rfl) ?_;go_wp2_with fail;go_roundw
         case rel=>exact ⟨k + 1,A9,c9,B9,d9,_,by omega,by go_num,hide ((frErrTo_succ HE.out).trans (by rw [HFW.out.2.2.1,HPK.out]; exact HPE.out)),hide (Y1.out.tell hg4 hm4),hide ((Y2.out.setBelow (p:=⟨w.heap.size + 5,0,none⟩) (by simp) _).setBelow (p:=⟨w.heap.size + 5,1,none⟩) (by simp) _)⟩
         case measure=>simp [intOf]; omega
    ·have hfe : frErr ⟨W,H,S,O,ps⟩ = passErr S p (frSt f k):=by
      rw [← HF.out];have:=frErr_pass HBf.out (by rw [HFW.out.2.2.2.2]; have:=HN.out; omega) (k:=k) (by rw [HFW.out.2.2.2.2]; have:=HN.out; omega) HE.out;rw [HFW.out.2.2.1,HPK.out] at this;exact this hpe
     have hfs : frSizes ⟨W,H,S,O,ps⟩ = []:=frSizes_no (by rw [hfe]; exact hpe);have hfr : frSources ⟨W,H,S,O,ps⟩ = []:=frSources_no (by rw [hfe]; exact hpe);have HFE:=hide hfe;have HFS:=hide hfs;have HFR:=hide hfr;clear hfe hfs hfr;generalize passErr S p (frSt f k) = z at *;generalize stepSz W H S p (frSt f k) = sz at *;have hz : (z != 0) = true:=by simpa using hpe
     have HT3:=hide (HT2.out.keep ((Below.refl _ _).alloc (Nat.le_refl _) (.cells #[.int .i64 sz.W,.int .i64 sz.H] 53)));obtain ⟨r0,r1,r2,r3,r4⟩:=HT3.out.resCells;clear hpe HT2 HR2 HPB1;go_wp2_with fail;refine bodyPost_ret (v:=.tuple #[.agg #[.slice none 0 0,.slice none 0 0],.int .i64 z]) ?_ rfl ?_
     ·simp [results,Tryz.results44,go_sem,r0,r1]
     ·rw [HFE.out,HFS.out,HFR.out]
      exact retTale_none ((HT3.out.below.setCell (p:=⟨w.heap.size + 1,0,none⟩) (by simp) _).setCell (p:=⟨w.heap.size + 1,1,none⟩) (by simp) _)
   ·obtain rfl : k = n:=by omega
    have hend : frErr ⟨W,H,S,O,ps⟩ = if (szAt (frSt f k) O).W = 0 then 5 else 0:=by
     rw [← HF.out];have:=frErr_end HBf.out (by rw [HFW.out.2.2.2.2]; have:=HN.out; omega) (by rw [HFW.out.2.2.2.2,HN.out]; exact HE.out);rw [HFW.out.2.2.2.2,HN.out,HFW.out.2.2.2.1] at this;exact this
    have hwk:=HT.out.walk;rw [HFW.out.1,HFW.out.2.1,HFW.out.2.2.1,HFW.out.2.2.2.1] at hwk;have hbx:=HT.out.frm;rw [HFW.out.1,HFW.out.2.1,HFW.out.2.2.1,HFW.out.2.2.2.1] at hbx;clear q0 q1 q2 q3 q4 x0 hsz r1;obtain ⟨v,v0,v1,v2,v3,v4,v5,v6⟩:=WalkBox.cells hwk;obtain ⟨x,q0,q1,q2,q3,q4⟩:=FrmBox.cells hbx;have hslot : slotIn S O = true:=slot_iff.2 ⟨b7,b8⟩;have hz0:=frMk_zero HBf.out HE.out (s:=O) (by rw [HFW.out.2.2.1]; exact hslot);obtain ⟨mb,mo,mv,hma,mlt,hmv,mc⟩:=(show Ints wr (some ⟨gm,0,none⟩) (frMk f k) from HT.out.made.cells).at_ O.toNat (by rw [frMk_len,HFW.out.2.2.1]; omega);injection hma with hma;injection hma with e1 e2;subst e1 e2;rw [Nat.zero_add] at mc;have hmv2 : (frMk f k).getD O.toNat 0 = mv:=by rw [List.getD_eq_getElem?_getD,hmv]; rfl
    rw [hmv2] at hz0;have hO3 : O < (S.toNat : Int):=by omega
    have hO4 : O < max S 0:=by omega
    obtain ⟨r0,r1,r2,r3,r4⟩:=HT.out.resCells;obtain ⟨t0,t1,t2,t3,t4⟩:=HT.out.taleCells;have HHE:=hide hend;clear hend hslot hmv hmv2 hwk hbx mlt;by_cases hz : mv = 0
    ·have hfe : frErr ⟨W,H,S,O,ps⟩ = 5:=by rw [HHE.out,if_pos (hz0.1 hz)]
     have hfs : frSizes ⟨W,H,S,O,ps⟩ = []:=frSizes_no (by rw [hfe]; omega);have hfr : frSources ⟨W,H,S,O,ps⟩ = []:=frSources_no (by rw [hfe]; omega);have HFE:=hide hfe;have HFS:=hide hfs;have HFR:=hide hfr;subst hz;clear hfe hfs hfr hz0;go_wp2_with fail;go_quiet (fail)
     go_wp2_with fail;refine bodyPost_ret (v:=.tuple #[.agg #[.slice none 0 0,.slice none 0 0],.int .i64 5]) ?_ rfl ?_
     ·simp [results,Tryz.results44,go_sem,r0,r1]
     ·rw [HFE.out,HFS.out,HFR.out]
      refine retTale_none ?_;exact (((below_drewN HT.out.below _)).setCell (p:=⟨w.heap.size + 1,0,none⟩) (by simp) _).setCell (p:=⟨w.heap.size + 1,1,none⟩) (by simp) _
    ·have hfe : frErr ⟨W,H,S,O,ps⟩ = 0:=by rw [HHE.out,if_neg (fun e=>hz (hz0.2 e))]
     have hfs : frSizes ⟨W,H,S,O,ps⟩ = frAll f k:=by unfold frSizes; rw [if_pos hfe,← HF.out,HFW.out.2.2.2.2,HN.out]
     have hfr : frSources ⟨W,H,S,O,ps⟩ = srcsTo f k:=by unfold frSources; rw [if_pos hfe,← HF.out,HFW.out.2.2.2.2,HN.out]
     have HFE:=hide hfe;have HFS:=hide hfs;have HFR:=hide hfr;have hmz : (mv == 0) = false:=by simpa using hz
     clear hfe hfs hfr hz0 hz;go_wp2_with fail;go_quiet (fail)
     go_wp2_with fail;refine bodyPost_ret (v:=.tuple #[.agg #[.slice A k d,.slice B k d'],.int .i64 0]) ?_ rfl ?_
     ·simp [results,Tryz.results44,go_sem,r0,r1]
     ·rw [HFE.out,HFS.out,HFR.out]
      refine ⟨A,k,d,B,k,d',rfl,by simp [frAll],by simp [srcsTo],?_,HR.out.one.new.mono (by omega),?_,(((below_drewN HT.out.below _)).setCell (p:=⟨w.heap.size + 1,0,none⟩) (by simp) _).setCell (p:=⟨w.heap.size + 1,1,none⟩) (by simp) _⟩
      ·exact (((HR.out.keep (below_drewN (Below.refl _ _) _)).setBelow (p:=⟨w.heap.size + 1,0,none⟩) (by simp) _).setBelow (p:=⟨w.heap.size + 1,1,none⟩) (by simp) _).one.cells
      ·exact (((HR.out.keep (below_drewN (Below.refl _ _) _)).setBelow (p:=⟨w.heap.size + 1,0,none⟩) (by simp) _).setBelow (p:=⟨w.heap.size + 1,1,none⟩) (by simp) _).rowsN (by omega)
end Go.Proofs.YtibpmogmeoappabGreat
