/- Walk: ExecError (of the reference). -/
import Derived.Test.YtibpmogmeoappabGreatJExcF
import Derived.Test.YtibpmogmeoappabGreatJPlnK
import Derived.Test.YtibpmogmeoappabGreatJExcA
import Derived.Test.YtibpmogmeoappabGreatJGlow
import Derived.Test.YtibpmogmeoappabGreatJImgH
set_option maxRecDepth 100000
set_option maxHeartbeats 8000000
namespace Go.Proofs.YtibpmogmeoappabGreat
open Go.RowKit
theorem execError_ref (W H S O : Int) (PA : Option Addr) (n c : Nat) (ps : List Pas) (OA : Option Addr) (on oc : Nat) (QA : Option Addr) (qn qc : Nat) (p : Pln) (GA : Option Addr) (gn gc : Nat) (l : List Int) (w : World) (hn : ps.length = n) (hP : Passes w PA ps) (hl : n ≤ 9223372036854775807)
 (hO : Ints w OA p.Order) (hon : p.Order.length = on) (hol : on ≤ 9223372036854775807) (hQ : Ints w QA p.Places) (hqn : p.Places.length = qn) (hql : qn ≤ 9223372036854775807) (hG : Ints w GA l) (hgn : l.length = gn) (hgl : gn ≤ 9223372036854775807) :
 Calls Tryz.prog 5 #[.agg #[.int .i64 W,.int .i64 H,.int .i64 S,.int .i64 O,.slice PA n c],.agg #[.slice OA on oc,.slice QA qn qc],.slice GA gn gc] w (RetE w (execErr ⟨W,H,S,O,ps⟩ p l)):=by
 have hb:=((Below.refl w.heap.size w).alloc (Nat.le_refl _) (.cells #[.int .i64 W,.int .i64 H,.int .i64 S,.int .i64 O,.slice PA n c] 24)).alloc (by simp) (.cells #[.slice OA on oc,.slice QA qn qc] 27);have hbx:=(show FrmBox (w.alloc (.cells #[.int .i64 W,.int .i64 H,.int .i64 S,.int .i64 O,.slice PA n c] 24)) w.heap.size W H S O PA n c from Blk.new w 24 (frmCells W H S O PA n c)).alloc (.cells #[.slice OA on oc,.slice QA qn qc] 27);have hpx : Blk ((w.alloc (.cells #[.int .i64 W,.int .i64 H,.int .i64 S,.int .i64 O,.slice PA n c] 24)).alloc (.cells #[.slice OA on oc,.slice QA qn qc] 27)) (w.heap.size + 1) 27 [.slice OA on oc,.slice QA qn qc]:=Blk.newE (by simp);have hck:=checkPlan_ref W H S O PA n c ps OA on oc QA qn qc p (gn : Int) _ hn (hP.keep hb) hl (hO.keep hb) hon hol (hQ.keep hb) hqn hql;have hig:=hG.keep hb;obtain ⟨f,hf⟩ : ∃ f : Frm,f = ⟨W,H,S,O,ps⟩:=⟨_,rfl⟩;rw [← hf] at hck ⊢;obtain ⟨w1,hw1⟩ : ∃ w1,((w.alloc (.cells #[.int .i64 W,.int .i64 H,.int .i64 S,.int .i64 O,.slice PA n c] 24)).alloc (.cells #[.slice OA on oc,.slice QA qn qc] 27)) = w1:=⟨_,rfl⟩;rw [hw1] at hb hbx hpx hck hig;obtain ⟨z,hz⟩ : ∃ z,pckErr f p (gn : Int) = z:=⟨_,rfl⟩;rw [hz] at hck;have HCK:=hide hck;have HB:=hide hb;have HIG:=hide (Keeps.ints hig);have HGN:=hide hgn;obtain ⟨x,q0,q1,q2,q3,q4⟩:=FrmBox.cells (show FrmBox _ _ W H S O PA n c from hbx);obtain ⟨y,r0,r1⟩:=plan_box hpx;clear hn hP hO hQ hG hbx hpx hb hig hck hf hon hqn hgn;by_cases h0 : z = 0
 ·have hzz : (z != 0) = false:=by simpa using h0
  have HZ:=hide (hz.trans h0);obtain ⟨bd,hbd⟩ : ∃ bd,l.any badN = bd:=⟨_,rfl⟩;have hcn:=fun (W0 : World) (h1 : Ints W0 GA l)=>arenaFine_ref GA gn gc l W0 HGN.out h1 hgl;rw [hbd] at hcn;have HCN:=hide hcn;have HBD:=hide hbd;clear hz h0 hcn hbd;go_enter Tryz.func5,Tryz.ntmps5
  go_wp2_with fail;refine (unhide HCK).mono ?_;rintro e w2 ⟨rfl,hE2⟩;have HB2:=hide (HB.out.trans (hE2.mono HB.out.size));have hig:=HIG.out.later _ hE2;clear hE2 hw1 x q0 q1 q2 q3 q4 y r0 r1 HCK;have hcn:=(unhide HCN) w2 hig;have HCM:=hide hcn;clear hig hcn HCN
  cases bd with
  | true =>
    have HR:=hide (show execErr f p l = 3 from by
     unfold execErr
     rw [HGN.out,if_neg (fun h=>h HZ.out),if_pos HBD.out])
    go_wp2_with (go_at_call 14; refine (unhide HCM).mono ?_; rintro e w3 ⟨rfl,rfl⟩)
    go_ret;exact ⟨ret_int HR.out.symm,HB2.out⟩
  | false =>
    have HR:=hide (show execErr f p l = 0 from by
     unfold execErr
     rw [HGN.out,if_neg (fun h=>h HZ.out),if_neg (by rw [HBD.out]; simp)])
    go_wp2_with (go_at_call 14; refine (unhide HCM).mono ?_; rintro e w3 ⟨rfl,rfl⟩)
    go_ret;exact ⟨ret_int HR.out.symm,HB2.out⟩
 ·have hzz : (z != 0) = true:=by simpa using h0
  have HR:=hide (show execErr f p l = z from by
   unfold execErr
   rw [HGN.out,hz,if_pos h0])
  clear hz h0;go_enter Tryz.func5,Tryz.ntmps5
  go_wp2_with fail;refine (unhide HCK).mono ?_;rintro e w2 ⟨rfl,hE2⟩;have HB2:=hide (HB.out.trans (hE2.mono HB.out.size));clear hE2 hw1 x q0 q1 q2 q3 q4 y r0 r1 HCK;go_wp2_with fail;go_ret;exact ⟨ret_int HR.out.symm,HB2.out⟩
end Go.Proofs.YtibpmogmeoappabGreat
namespace Go.Proofs.YtibpmogmeoappabGreat
open Go.RowKit
def ar28 : List Int:=(List.replicate 28 0).set 5 77
def st28 : List Int:=[9,9,9,9,9,9,9,9,0,0,0,0,0,0,0,0,0,0,0,0,0,0,0,0,0,0,0,0]
theorem eb1 : execErr glowF otherP ar28 = 0:=by decide +kernel
theorem eb2 : runAns glowF otherP ar28 = ⟨4,2,[9,109,209,309,10,110,210,310]⟩:=by decide +kernel
theorem eb3 : stepErr glowF otherP ar28 0 = 0:=by decide +kernel
theorem eb4 : stepAns glowF otherP ar28 0 = st28:=by decide +kernel
theorem execBegun_any (w : World) : Calls Tryz.prog 7 #[] w fun e w'=>e = .returned (.bool true) ∧ Below w.heap.size w w':=by
 have eG : (⟨4,2,3,1,glowF.P⟩ : Frm) = glowF:=rfl;have HRN:=hide (fun (G A : Option Addr) (c : Nat) (B C : Option Addr) (W0 : World) (h1 : Passes W0 A glowF.P) (h2 : Ints W0 B otherP.Order) (h3 : Ints W0 C otherP.Places) (h4 : Ints W0 G ar28)=>execRun_any 4 2 3 1 A 5 c glowF.P B 3 3 C 5 5 otherP G 28 28 ar28 W0 rfl h1 h2 rfl (by omega) (by omega) h3 rfl (by omega) h4 rfl (by omega));have HST:=hide (fun (G A : Option Addr) (c : Nat) (B C : Option Addr) (W0 : World) (h1 : Passes W0 A glowF.P) (h2 : Ints W0 B otherP.Order) (h3 : Ints W0 C otherP.Places) (h4 : Ints W0 G ar28)=>execStep_any 4 2 3 1 A 5 c glowF.P B 3 3 C 5 5 otherP G 28 28 ar28 0 W0 rfl h1 h2 rfl (by omega) (by omega) h3 rfl (by omega) h4 rfl (by omega));rw [eG,eb2,eb1] at HRN;rw [eG,eb4,eb3] at HST;clear eG;obtain ⟨j0,hj0,jz0,jz1,jz2⟩:=info_parts Tryz.info3;obtain ⟨R,hR⟩ : ∃ R,List.replicate 28 (Value.int .i64 0) = R:=⟨_,rfl⟩
 have hmk : ∀ wx : World,(Instr.makeSlice 25 (.int .i64 28) (.int .i64 28)).run Tryz.prog wx = .ok (.slice (some ⟨wx.heap.size,0,none⟩) 28 28) (wx.alloc (.cells R.toArray 3)):=fun wx=>by
  rw [← hR]; exact run_make_ints 25 3 j0 Tryz.underlying25 hj0 jz0 jz1 jz2 28 28 rfl (by omega) wx
 have hbl : Blk (w.alloc (.cells R.toArray 3)) w.heap.size 3 R:=Blk.new w _ _;have z5 : (w.alloc (.cells R.toArray 3)).cell? ⟨w.heap.size,5,none⟩ = some (.int .i64 0):=by rw [hbl.cell,← hR]; rfl
 have zf:=hbl.frozen 5;have hb1 : Below w.heap.size w ((w.alloc (.cells R.toArray 3)).setCell ⟨w.heap.size,5,none⟩ (.int .i64 77)):=((Below.refl _ _).alloc (Nat.le_refl _) _).setCell (Nat.le_refl _) _
 have hbs : Blk ((w.alloc (.cells R.toArray 3)).setCell ⟨w.heap.size,5,none⟩ (.int .i64 77)) w.heap.size 3 (ar28.map (Value.int .i64)):=by
  have h:=hbl.set_ 5 (.int .i64 77);rw [← hR] at h ⊢;exact h
 obtain ⟨w1,hw1⟩ : ∃ w1,(w.alloc (.cells R.toArray 3)).setCell ⟨w.heap.size,5,none⟩ (.int .i64 77) = w1:=⟨_,rfl⟩;rw [hw1] at hb1 hbs;have HB0:=hide hb1;have HA0:=hide (Keeps.blk hbs);clear hR hbl hb1 hbs hj0 jz0 jz1 jz2;go_enter Tryz.func7,Tryz.ntmps7
 go_wp2_with fail;refine (glow_any _).mono ?_;rintro e w2 ⟨A2,c2,rfl,hP2,hE2⟩;have HB2:=hide (HB0.out.trans (hE2.mono HB0.out.size));have HP2:=hide hP2;have HA2:=hide (HA0.out.move hE2);clear hw1 z5 zf hmk hE2 hP2 HB0 HA0;go_wp2_with fail;refine (other_any _).mono ?_;rintro e w3 ⟨B3,C3,rfl,hO3,hQ3,hE3⟩;have HB3:=hide (HB2.out.trans (hE3.mono HB2.out.size));have HA3:=hide (HA2.out.move hE3);have hP:=HP2.out.keep hE3;go_wp2_with fail;refine ((unhide HRN) _ A2 c2 B3 C3 w3 hP hO3 hQ3 HA3.out.now.cells).mono ?_;rintro e w4 ⟨W4,H4,P4,A4,n4,c4,hr4,hn4,rfl,hI4,hM4,hE4⟩;injection hr4 with a1 a2 a3;subst a1 a2 a3;have hn4 : n4 = 8:=hn4.symm;subst hn4;have hba:=HB3.out.trans (hE4.mono HB3.out.size);have HB4:=hide (hba.alloc hba.size (.cells #[.int .i64 4,.int .i64 2,.slice A4 8 c4] 29));have HA4:=hide ((HA3.out.move hE4).alloc (.cells #[.int .i64 4,.int .i64 2,.slice A4 8 c4] 29));have HK4:=hide (((Keeps.ints hI4).alloc (.cells #[.int .i64 4,.int .i64 2,.slice A4 8 c4] 29)).and (Keeps.blk (Blk.new w4 29 [.int .i64 4,.int .i64 2,.slice A4 8 c4])));clear HB2 HB3 HP2 HA2 HA3 hE3 hP hO3 hQ3 hE4 hI4 hM4 hba HRN;go_wp2_with fail;refine (glow_any _).mono ?_;rintro e w5 ⟨A5,c5,rfl,hP5,hE5⟩;have HB5:=hide (HB4.out.trans (hE5.mono HB4.out.size));have HP5:=hide hP5;have HA5:=hide (HA4.out.move hE5);have HK5:=hide (HK4.out.move hE5);clear hE5 hP5 HB4 HA4 HK4;go_wp2_with fail;refine (other_any _).mono ?_;rintro e w6 ⟨B6,C6,rfl,hO6,hQ6,hE6⟩;have HB6:=hide (HB5.out.trans (hE6.mono HB5.out.size));have HA6:=hide (HA5.out.move hE6);have HK6:=hide (HK5.out.move hE6);have hP:=HP5.out.keep hE6;go_wp2_with fail;refine ((unhide HST) _ A5 c5 B6 C6 w6 hP hO6 hQ6 HA6.out.now.cells).mono ?_;rintro e w7 ⟨A7,n7,c7,rfl,hn7,hI7,hE7⟩;have hn7 : n7 = 28:=hn7.symm;subst hn7;have HB7:=hide (HB6.out.trans (hE7.mono HB6.out.size));have ha7:=HA6.out.later _ hE7;obtain ⟨hk1,hk2⟩:=HK6.out.later _ hE7;obtain ⟨b7,o7,v0,rfl,hb7,hv0,d0⟩:=hI7.at_ 0 (by decide);obtain ⟨b7',o7',v5,hA7,_,hv5,d5⟩:=hI7.at_ 5 (by decide);injection hA7 with hA7;injection hA7 with x1 x2;subst x1 x2;have hv0 : v0 = 9:=by injection hv0 with h; exact h.symm
 have hv5 : v5 = 9:=by injection hv5 with h; exact h.symm
 subst hv0 hv5;simp only [Nat.add_zero] at d0;have e0 : w7.cell? ⟨w.heap.size,0,none⟩ = some (.int .i64 0):=by rw [ha7.cell]; rfl
 have e5 : w7.cell? ⟨w.heap.size,5,none⟩ = some (.int .i64 77):=by rw [ha7.cell]; rfl
 have e9 : w7.cell? ⟨w4.heap.size,2,none⟩ = some (.slice A4 8 c4):=(hk2.cell 2).trans rfl;have HKK:=hide ((((((Keeps.cell d0).and (Keeps.cell d5)).and (Keeps.cell e0)).and (Keeps.cell e5)).and (Keeps.ints hk1)));clear HB5 HB6 HP5 HA5 HA6 HK5 HK6 hE6 hP hO6 hQ6 hE7 ha7 hk1 hk2 hI7 HST hb7;go_wp2_with fail;have hb8 : Below w7.heap.size w7 (w7.alloc (.cells ([9,109,209,309,10,110,210,310].map (Value.int .i64)).toArray 3)):=(Below.refl _ _).alloc (Nat.le_refl _) _;have HB8:=hide (HB7.out.trans (hb8.mono HB7.out.size));refine (sameNums A4 (some ⟨w7.heap.size,0,none⟩) 8 c4 8 [9,109,209,309,10,110,210,310] (w7.alloc (.cells ([9,109,209,309,10,110,210,310].map (Value.int .i64)).toArray 3)) rfl (HKK.out.later _ hb8).2 (intsNew _ _) (by omega)).mono ?_;rintro e w9 ⟨rfl,hE9⟩;have HB9:=hide (HB8.out.trans (hE9.mono HB8.out.size));obtain ⟨⟨⟨⟨f0,f5⟩,g0⟩,g5⟩,_⟩:=HKK.out.later _ (hb8.trans (hE9.mono hb8.size));clear HKK HB7 HB8 hb8 hE9 d0 d5 e0 e5 e9;go_wp2_with fail;go_ret;exact ⟨rfl,HB9.out⟩
end Go.Proofs.YtibpmogmeoappabGreat
