/- Walk of the law FrameRight. -/
import Derived.Test.YtibpmogmeoappabJFrmU
import Derived.Test.YtibpmogmeoappabJNeedA
set_option maxRecDepth 100000
set_option maxHeartbeats 4000000
namespace Go.Proofs.Ytibpmogmeoappab
open Go.RowKit
theorem frRight {f : Frm} (h : FrmOk f) : Sized (frAns f) (szAt (frSizes f) (frLast f)):=by
 have h1:=frShown_fine h;have hl:=h.last;have he:=frErr_zero.2 h;have e1 : frAns f = frShown f:=if_pos he
 have e2 : szAt (frSizes f) (frLast f) = frSize f (frLast f).toNat:=by
  unfold szAt frSizes frAll;rw [if_pos he,List.getD_eq_getElem?_getD,List.getElem?_map,List.getElem?_range (by omega)];rfl
 rw [e1,e2];exact h1
theorem frameRight_any (W H S O : Int) (PA : Option Addr) (n c : Nat) (ps : List Pas) (w : World) (hn : ps.length = n) (hP : Passes w PA ps) (hl : n ≤ 9223372036854775807) :
 Calls Try.prog 8 #[.agg #[.int .i64 W,.int .i64 H,.int .i64 S,.int .i64 O,.slice PA n c]] w fun e w'=>e = .returned (.bool true) ∧ Below w.heap.size w w':=by
 have hb:=(Below.refl w.heap.size w).alloc (Nat.le_refl _) (.cells #[.int .i64 W,.int .i64 H,.int .i64 S,.int .i64 O,.slice PA n c] 24);have HBX:=hide (show FrmBox (w.alloc (.cells #[.int .i64 W,.int .i64 H,.int .i64 S,.int .i64 O,.slice PA n c] 24)) w.heap.size W H S O PA n c from Blk.new w 24 (frmCells W H S O PA n c));have HR:=hide (fun (W0 : World) (h1 : Passes W0 PA ps)=>render_any W H S O PA n c ps W0 hn h1);have HSI:=hide (fun (W0 : World) (h1 : Passes W0 PA ps)=>sizes_any W H S O PA n c ps W0 hn h1);have HLA:=hide (fun (W0 : World) (h1 : Passes W0 PA ps)=>last_any W H S O PA n c ps W0 hn h1);have HB0:=hide hb;have HP:=hide (Keeps.passes hP);have hzz : frErr ⟨W,H,S,O,ps⟩ = 0 ∨ frErr ⟨W,H,S,O,ps⟩ ≠ 0:=by omega
 have hkk : frErr ⟨W,H,S,O,ps⟩ = 0 → Sized (frAns ⟨W,H,S,O,ps⟩) (szAt (frSizes ⟨W,H,S,O,ps⟩) (lastAns ⟨W,H,S,O,ps⟩)) ∧ ∃ j : Nat,lastAns ⟨W,H,S,O,ps⟩ = (j : Int) ∧ j < (frSizes ⟨W,H,S,O,ps⟩).length ∧ (frSizes ⟨W,H,S,O,ps⟩).length ≤ 12:=fun he=>by
  have hok:=frErr_zero.1 he;have h1:=frRight hok;have hl:=hok.last;have hm:=hok.many;have e1 : lastAns ⟨W,H,S,O,ps⟩ = frLast ⟨W,H,S,O,ps⟩:=if_pos he;have e2 : (frSizes ⟨W,H,S,O,ps⟩).length = ps.length:=by unfold frSizes; rw [if_pos he]; simp [frAll]
  rw [e1,e2];exact ⟨h1,(frLast ⟨W,H,S,O,ps⟩).toNat,by omega,by have:=hl.2; simp only at this; omega,hm.2⟩
 have hfi : frErr ⟨W,H,S,O,ps⟩ = 0 → (frAns ⟨W,H,S,O,ps⟩).P.length ≤ 9223372036854775807:=fun he=>by have:=fine_small (hkk he).1.1; omega
 generalize hans : frAns ⟨W,H,S,O,ps⟩ = an at *;generalize hszs : frSizes ⟨W,H,S,O,ps⟩ = st at *;generalize hlas : lastAns ⟨W,H,S,O,ps⟩ = la at *;generalize hers : frErr ⟨W,H,S,O,ps⟩ = er at *;clear hn hP hl hb hans hszs hlas hers;rcases hzz with rfl | hz
 ·obtain ⟨⟨hfine,hW,hH⟩,j,rfl,hj,h12⟩:=hkk rfl
  have hfl:=hfi rfl;have HW:=hide hW;have HH:=hide hH;have HFI:=hide hfine;have HFL:=hide hfl;clear hkk hfi hW hH hfine hfl;go_enter Try.func8,Try.ntmps8
  go_wp2_with fail;refine ((unhide HR) _ (HP.out.later _ HB0.out)).mono ?_;rintro e w1 ⟨W1,H1,P1,A1,n1,c1,rfl,hn1,rfl,hI1,hE1⟩;have hba:=HB0.out.trans (hE1.mono HB0.out.size);have HB1:=hide (hba.alloc hba.size (.cells #[.int .i64 W1,.int .i64 H1,.slice A1 n1 c1] 56));have HX1:=hide (Blk.alloc (Blk.keep HBX.out hE1) (.cells #[.int .i64 W1,.int .i64 H1,.slice A1 n1 c1] 56));have HK1:=hide (((Keeps.ints hI1).alloc (.cells #[.int .i64 W1,.int .i64 H1,.slice A1 n1 c1] 56)).and (Keeps.blk (Blk.new w1 56 [.int .i64 W1,.int .i64 H1,.slice A1 n1 c1])));have HN1:=hide hn1;obtain ⟨x,q0,q1,q2,q3,q4⟩:=FrmBox.cells HX1.out;clear HB0 HBX hE1 hI1 hn1 hba HR;go_wp2_with fail;refine ((unhide HSI) _ (HP.out.later _ HB1.out)).mono ?_;rintro e w2 ⟨A2,n2,c2,rfl,hn2,hI2,hE2⟩;have HB2:=hide (HB1.out.trans (hE2.mono HB1.out.size));have HX2:=hide (Blk.keep HX1.out hE2);have HK2:=hide (HK1.out.move hE2);have HS2:=hide hI2;clear q0 q1 q2 q3 q4 x HB1 HX1 hE2 HSI HK1 hI2;obtain ⟨x,q0,q1,q2,q3,q4⟩:=FrmBox.cells HX2.out;subst hn2;go_wp2_with fail;refine ((unhide HLA) _ (HP.out.later _ HB2.out)).mono ?_;rintro e w3 ⟨rfl,hE3⟩;have HB3:=hide (HB2.out.trans (hE3.mono HB2.out.size));have HK3:=hide (HK2.out.move hE3);obtain ⟨sb,so,rfl,hslt,s0,s1⟩:=Sizes.at_ (show Sizes w3 A2 st from Cells.keep HS2.out hE3) hj;obtain ⟨p0,p1,p2,p3⟩:=ImgBox.cells HK3.out.now.2;rw [← HW.out] at s0;rw [← HH.out] at s1;have HKS:=hide (show Keeps w3 (fun w'=>w'.cell? ⟨w1.heap.size,0,none⟩ = some (.int .i64 W1) ∧ w'.cell? ⟨w1.heap.size,1,none⟩ = some (.int .i64 H1) ∧ w'.cell? ⟨w1.heap.size,2,none⟩ = some (.slice A1 n1 c1) ∧ w'.cell? ⟨sb,so + j * 2,none⟩ = some (.int .i64 W1) ∧ w'.cell? ⟨sb,so + j * 2 + 1,none⟩ = some (.int .i64 H1)) from ⟨⟨p1,p2,p3,s0,s1⟩,fun _ hb=>⟨keepC hb p1,keepC hb p2,keepC hb p3,keepC hb s0,keepC hb s1⟩⟩);clear q0 q1 q2 q3 q4 x HB2 HX2 hE3 HLA HK2 HS2 HW HH;go_wp2_with fail
  go_region_held3 (fun w'=>w'.cell? ⟨w1.heap.size,0,none⟩ = some (.int .i64 W1) ∧ w'.cell? ⟨w1.heap.size,1,none⟩ = some (.int .i64 H1) ∧ w'.cell? ⟨w1.heap.size,2,none⟩ = some (.slice A1 n1 c1) ∧ w'.cell? ⟨sb,so + j * 2,none⟩ = some (.int .i64 W1) ∧ w'.cell? ⟨sb,so + j * 2 + 1,none⟩ = some (.int .i64 H1))
   (first | exact HKS.out.later _ hB5 | exact HKS.out.later _ hB4 | exact HKS.out.later _ (Below.refl _ _).drew)
   (first
     | (go_simp; go_at_call 29; refine (frameBegun_any _).mono ?_; rintro e w4 ⟨rfl,hE4⟩; have hB4 : Below w3.heap.size w3 w4:=(Below.refl _ _).drew.trans hE4)
     | (go_simp; go_at_call 35; refine (fine_any W1 H1 A1 n1 c1 P1 _ HN1.out ((HK3.out.later _ hB4).1) (by have h1:=HFL.out; have h2:=HN1.out; omega)).mono ?_; rintro e w5 ⟨he5,hE5⟩; rw [decide_eq_true HFI.out] at he5; subst he5; have hB5 : Below w3.heap.size w3 w5:=hB4.trans (hE5.mono hB4.size)))
  have HB6:=hide (HB3.out.trans (hB5.mono HB3.out.size));go_wp2_with fail;go_ret;exact ⟨rfl,HB6.out⟩
 ·have hz2 : (er == 0) = false:=by simpa using hz
  clear hkk hfi hz HSI HLA;go_enter Try.func8,Try.ntmps8
  go_wp2_with fail;refine ((unhide HR) _ (HP.out.later _ HB0.out)).mono ?_;rintro e w1 ⟨W1,H1,P1,A1,n1,c1,-,-,rfl,-,hE1⟩;have hba:=HB0.out.trans (hE1.mono HB0.out.size);have HB1:=hide (hba.alloc hba.size (.cells #[.int .i64 W1,.int .i64 H1,.slice A1 n1 c1] 56));clear HB0 HBX hE1 hba HR;go_wp2_with fail;refine (frameBegun_any _).mono ?_;rintro e w4 ⟨rfl,hE4⟩;have HB5:=hide (HB1.out.trans (hE4.mono HB1.out.size));clear hE4;go_wp2_with fail;go_ret;exact ⟨rfl,HB5.out⟩
end Go.Proofs.Ytibpmogmeoappab
