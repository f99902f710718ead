/- Walk: plan.Check. -/
import Derived.Test.YtibpmogmeoappabGreatJPlnE
import Derived.Test.YtibpmogmeoappabGreatJPlnH
import Derived.Test.YtibpmogmeoappabGreatJPlnJ
set_option maxRecDepth 100000
set_option maxHeartbeats 8000000
namespace Go.Proofs.YtibpmogmeoappabGreat
open Go.RowKit
theorem begin_any (W H S O : Int) (PA : Option Addr) (n c : Nat) (ps : List Pas) (OA : Option Addr) (on oc : Nat) (QA : Option Addr) (qn qc : Nat) (p : Pln) (w : World) (hn : ps.length = n) (hP : Passes w PA ps)
 (hO : Ints w OA p.Order) (hon : p.Order.length = on) (hol : on ≤ 9223372036854775807) (hQ : Ints w QA p.Places) (hqn : p.Places.length = qn) (hql : qn ≤ 9223372036854775807) :
 Calls Tryz.prog 41 #[.agg #[.int .i64 W,.int .i64 H,.int .i64 S,.int .i64 O,.slice PA n c],.agg #[.slice OA on oc,.slice QA qn qc]] w (RetLook w ⟨W,H,S,O,ps⟩ p OA on oc QA qn qc):=by
 by_cases he : frErr ⟨W,H,S,O,ps⟩ = 0
 ·exact begin_ok W H S O PA n c ps OA on oc QA qn qc p w hn hP hO hon hol hQ hqn hql (frErr_zero.1 he)
 ·exact begin_no W H S O PA n c ps OA on oc QA qn qc p w hn hP he
theorem planCheck_any (W H S O : Int) (PA : Option Addr) (n c : Nat) (ps : List Pas) (OA : Option Addr) (on oc : Nat) (QA : Option Addr) (qn qc : Nat) (p : Pln) (room : Int) (w : World) (hn : ps.length = n) (hP : Passes w PA ps)
 (hO : Ints w OA p.Order) (hon : p.Order.length = on) (hol : on ≤ 9223372036854775807) (hoc : on ≤ oc) (hQ : Ints w QA p.Places) (hqn : p.Places.length = qn) (hql : qn ≤ 9223372036854775807) :
 Calls Tryz.prog 23 #[.agg #[.int .i64 W,.int .i64 H,.int .i64 S,.int .i64 O,.slice PA n c],.agg #[.slice OA on oc,.slice QA qn qc],.int .i64 room] w (RetE w (pckErr ⟨W,H,S,O,ps⟩ p room)):=by
 have hb:=((Below.refl w.heap.size w).alloc (Nat.le_refl _) (.cells #[.int .i64 W,.int .i64 H,.int .i64 S,.int .i64 O,.slice PA n c] 24)).alloc (by simp) (.cells #[.slice OA on oc,.slice QA qn qc] 27);have hbx:=(show FrmBox (w.alloc (.cells #[.int .i64 W,.int .i64 H,.int .i64 S,.int .i64 O,.slice PA n c] 24)) w.heap.size W H S O PA n c from Blk.new w 24 (frmCells W H S O PA n c)).alloc (.cells #[.slice OA on oc,.slice QA qn qc] 27);have hpx : Blk ((w.alloc (.cells #[.int .i64 W,.int .i64 H,.int .i64 S,.int .i64 O,.slice PA n c] 24)).alloc (.cells #[.slice OA on oc,.slice QA qn qc] 27)) (w.heap.size + 1) 27 [.slice OA on oc,.slice QA qn qc]:=Blk.newE (by simp);have hbg:=begin_any W H S O PA n c ps OA on oc QA qn qc p _ hn (hP.keep hb) (hO.keep hb) hon hol (hQ.keep hb) hqn hql;have hio:=hO.keep hb;have hiq:=hQ.keep hb;obtain ⟨f,hf⟩ : ∃ f : Frm,f = ⟨W,H,S,O,ps⟩:=⟨_,rfl⟩;rw [← hf] at hbg ⊢;obtain ⟨w1,hw1⟩ : ∃ w1,(w.alloc (.cells #[.int .i64 W,.int .i64 H,.int .i64 S,.int .i64 O,.slice PA n c] 24)).alloc (.cells #[.slice OA on oc,.slice QA qn qc] 27) = w1:=⟨_,rfl⟩;rw [hw1] at hb hbx hpx hbg hio hiq;have HB:=hide hb;have HPX:=hide (Keeps.blk hpx);have HIO:=hide (Keeps.ints hio);have HIQ:=hide (Keeps.ints hiq);have HBG:=hide hbg;have HON:=hide hon;have HQN:=hide hqn;obtain ⟨x,q0,q1,q2,q3,q4⟩:=FrmBox.cells (show FrmBox _ _ W H S O PA n c from hbx);obtain ⟨y,r0,r1⟩:=plan_box hpx;clear hn hP hO hQ hbx hpx hb hio hiq hbg hf hon hqn;go_enter Tryz.func23,Tryz.ntmps23
 go_wp2_with fail;refine (unhide HBG).mono ?_;rintro e w2 ⟨hE2,⟨hne,rfl⟩ | ⟨hz,g,⟨hni,rfl⟩ | ⟨hin,rfl,hLk⟩⟩⟩
 ·have HB2:=hide (HB.out.trans (hE2.mono HB.out.size))
  obtain ⟨z,hz⟩ : ∃ z,frErr f = z:=⟨_,rfl⟩;have HR:=hide (show pckErr f p room = z from by unfold pckErr; rw [if_pos hne]; exact hz);rw [hz];clear hE2 hne hz hw1 HBG x q0 q1 q2 q3 q4 y r0 r1;go_wp2_with fail;all_goals try (exfalso; omega)
  go_ret;exact ⟨ret_int HR.out.symm,HB2.out⟩
 ·have HB2:=hide (HB.out.trans (hE2.mono HB.out.size))
  have HZ:=hide hz;have HNI:=hide hni;clear hE2 hz hni hw1 HBG x q0 q1 q2 q3 q4 y r0 r1;by_cases h1 : room < 0
  ·have HR:=hide (show pckErr f p room = 3 from by unfold pckErr; rw [if_neg (fun e=>e HZ.out),if_pos (by omega)])
   go_wp2_with fail;all_goals try (exfalso; omega)
   go_ret;exact ⟨ret_int HR.out.symm,HB2.out⟩
  ·by_cases h2 : 4096 < room
   ·have HR:=hide (show pckErr f p room = 3 from by unfold pckErr; rw [if_neg (fun e=>e HZ.out),if_pos (by omega)])
    go_wp2_with fail;all_goals try (exfalso; omega)
    go_ret;exact ⟨ret_int HR.out.symm,HB2.out⟩
   ·have HR:=hide (show pckErr f p room = 1 from by unfold pckErr; rw [if_neg (fun e=>e HZ.out),if_neg (by omega),if_pos HNI.out])
    go_wp2_with fail;all_goals try (exfalso; omega)
    go_ret;exact ⟨ret_int HR.out.symm,HB2.out⟩
 ·have HB2:=hide (HB.out.trans (hE2.mono HB.out.size))
  have HZ:=hide hz;have HIN:=hide hin;have HIO2:=hide (HIO.out.later _ hE2);have HIQ2:=hide (HIQ.out.later _ hE2);have HLK:=hide hLk;clear hE2 hz hin hLk hw1 HBG x q0 q1 q2 q3 q4 y r0 r1;by_cases h1 : room < 0
  ·have HR:=hide (show pckErr f p room = 3 from by unfold pckErr; rw [if_neg (fun e=>e HZ.out),if_pos (by omega)])
   go_wp2_with fail;all_goals try (exfalso; omega)
   go_ret;exact ⟨ret_int HR.out.symm,HB2.out⟩
  ·by_cases h2 : 4096 < room
   ·have HR:=hide (show pckErr f p room = 3 from by unfold pckErr; rw [if_neg (fun e=>e HZ.out),if_pos (by omega)])
    go_wp2_with fail;all_goals try (exfalso; omega)
    go_ret;exact ⟨ret_int HR.out.symm,HB2.out⟩
   ·have HR:=hide (show pckErr f p room = if Fits f p room then 0 else 7 from pckErr_of (frErr_zero.1 HZ.out) (by omega) HIN.out)
    have HFT:=hide (fitsL_any g f p OA on oc QA qn qc room w2 (frErr_zero.1 HZ.out) HIN.out HLK.out HIO2.out HON.out hoc HIQ2.out HQN.out (by omega));go_wp2_with fail;all_goals try (exfalso; omega)
    refine (unhide HFT).mono ?_;rintro e w3 ⟨b,rfl,hb,hE3⟩;have HB3:=hide (HB2.out.trans (hE3.mono HB2.out.size));have HBB:=hide hb;clear hb hE3 HFT
    cases b with
    | true =>
      go_wp2_with fail;all_goals try (exfalso; omega)
      go_ret;exact ⟨ret_int (by rw [HR.out,if_pos (by first | exact HBB.out.1 rfl | exact HBB.out.1 trivial)]),HB3.out⟩
    | false =>
      go_wp2_with fail;all_goals try (exfalso; omega)
      go_ret;exact ⟨ret_int (by rw [HR.out,if_neg (fun h=>by have:=HBB.out.2 h; cases this)]),HB3.out⟩
end Go.Proofs.YtibpmogmeoappabGreat
namespace Go.Proofs.YtibpmogmeoappabGreat
open Go.RowKit
theorem checkPlan_ref (W H S O : Int) (PA : Option Addr) (n c : Nat) (ps : List Pas) (OA : Option Addr) (on oc : Nat) (QA : Option Addr) (qn qc : Nat) (p : Pln) (room : Int) (w : World) (hn : ps.length = n) (hP : Passes w PA ps) (hl : n ≤ 9223372036854775807)
 (hO : Ints w OA p.Order) (hon : p.Order.length = on) (hol : on ≤ 9223372036854775807) (hQ : Ints w QA p.Places) (hqn : p.Places.length = qn) (hql : qn ≤ 9223372036854775807) :
 Calls Tryz.prog 13 #[.agg #[.int .i64 W,.int .i64 H,.int .i64 S,.int .i64 O,.slice PA n c],.agg #[.slice OA on oc,.slice QA qn qc],.int .i64 room] w (RetE w (pckErr ⟨W,H,S,O,ps⟩ p room)):=by
 have hb:=((Below.refl w.heap.size w).alloc (Nat.le_refl _) (.cells #[.int .i64 W,.int .i64 H,.int .i64 S,.int .i64 O,.slice PA n c] 24)).alloc (by simp) (.cells #[.slice OA on oc,.slice QA qn qc] 27);have hbx:=(show FrmBox (w.alloc (.cells #[.int .i64 W,.int .i64 H,.int .i64 S,.int .i64 O,.slice PA n c] 24)) w.heap.size W H S O PA n c from Blk.new w 24 (frmCells W H S O PA n c)).alloc (.cells #[.slice OA on oc,.slice QA qn qc] 27);have hpx : Blk ((w.alloc (.cells #[.int .i64 W,.int .i64 H,.int .i64 S,.int .i64 O,.slice PA n c] 24)).alloc (.cells #[.slice OA on oc,.slice QA qn qc] 27)) (w.heap.size + 1) 27 [.slice OA on oc,.slice QA qn qc]:=Blk.newE (by simp);have hio:=hO.keep hb;have hiq:=hQ.keep hb;have hpa:=hP.keep hb;have hcf:=fun (W0 : World) (h1 : Passes W0 PA ps)=>checkFrame_ref W H S O PA n c ps W0 hn h1 hl;have hin:=fun (h0 : FrmOk ⟨W,H,S,O,ps⟩) (W0 : World) (h1 : Passes W0 PA ps) (h2 : Ints W0 OA p.Order) (h3 : Ints W0 QA p.Places)=>inOrder_ref W H S O PA n c ps OA on oc QA qn qc p W0 hn h1 h2 hon hol h3 hqn hql h0;have hft:=fun (h0 : FrmOk ⟨W,H,S,O,ps⟩) (hi : InOrder ⟨W,H,S,O,ps⟩ p) (hr : 0 ≤ room ∧ room ≤ 4096) (W0 : World) (h1 : Passes W0 PA ps) (h2 : Ints W0 OA p.Order) (h3 : Ints W0 QA p.Places)=>fits_ref W H S O PA n c ps OA on oc QA qn qc p room W0 hn h1 h2 hon hol h3 hqn h0 hi hr;obtain ⟨f,hf⟩ : ∃ f : Frm,f = ⟨W,H,S,O,ps⟩:=⟨_,rfl⟩;rw [← hf] at hcf hin hft ⊢;obtain ⟨w1,hw1⟩ : ∃ w1,(w.alloc (.cells #[.int .i64 W,.int .i64 H,.int .i64 S,.int .i64 O,.slice PA n c] 24)).alloc (.cells #[.slice OA on oc,.slice QA qn qc] 27) = w1:=⟨_,rfl⟩;rw [hw1] at hb hbx hpx hio hiq hpa;have HB:=hide hb;have HBX:=hide (Keeps.blk hbx);have HPX:=hide (Keeps.blk hpx);have HIO:=hide (Keeps.ints hio);have HIQ:=hide (Keeps.ints hiq);have HP:=hide (Keeps.passes hpa);obtain ⟨x,q0,q1,q2,q3,q4⟩:=FrmBox.cells (show FrmBox _ _ W H S O PA n c from hbx);obtain ⟨y,r0,r1⟩:=plan_box hpx;have HCF:=hide hcf;have HIN:=hide hin;have HFT:=hide hft;clear hn hP hl hon hO hol hqn hQ hql hb hbx hpx hio hiq hpa hf hcf hin hft;obtain ⟨z,hz⟩ : ∃ z,frErr f = z:=⟨_,rfl⟩;rw [hz] at HCF;by_cases h0 : z = 0
 ·have hfz:=hz.trans h0
  have HOK:=hide (frErr_zero.1 hfz);have HFZ:=hide hfz;have HI2:=hide ((unhide HIN) HOK.out);have hrz : (z == 0) = true:=by simpa using h0
  obtain ⟨inb,hinb⟩ : ∃ b,inR room 0 4096 = b:=⟨_,rfl⟩;have hwi:=fun W0=>within_any room 0 4096 W0;rw [hinb] at hwi;have HWI:=hide hwi;have HINB:=hide hinb;clear h0 hz HIN hfz hwi hinb;go_enter Tryz.func13,Tryz.ntmps13
  go_wp2_with fail;refine ((unhide HCF) _ HP.out.now).mono ?_;rintro e w2 ⟨ZA,zn,zc,rfl,-,-,hE2⟩;have HB2:=hide (HB.out.trans (hE2.mono HB.out.size));have HIO2:=hide (HIO.out.move hE2);have HIQ2:=hide (HIQ.out.move hE2);have HP2:=hide (HP.out.move hE2);have HBX2:=hide (HBX.out.move hE2);have HPX2:=hide (HPX.out.move hE2);clear hw1 hE2 HB HIO HIQ HP x q0 q1 q2 q3 q4 y r0 r1 HCF HBX HPX;obtain ⟨x,q0,q1,q2,q3,q4⟩:=FrmBox.cells (show FrmBox _ _ W H S O PA n c from HBX2.out.now);obtain ⟨y,r0,r1⟩:=plan_box HPX2.out.now
  cases inb with
  | false =>
    have HR:=hide (show pckErr f p room = 3 from by
     have h2:=HINB.out;unfold inR at h2;simp at h2
     unfold pckErr
     rw [if_neg (fun e=>e HFZ.out),if_pos (by omega)])
    go_wp2_with (go_at_call 32; refine ((unhide HWI) _).mono ?_; rintro e w3 ⟨rfl,rfl⟩)
    go_ret;exact ⟨ret_int HR.out.symm,HB2.out⟩
  | true =>
    have hrr : 0 ≤ room ∧ room ≤ 4096:=by
     have h2:=HINB.out;unfold inR at h2;simp at h2
     omega
    have HRR:=hide hrr;clear hrr;go_wp2_with (first | (go_at_call 32; refine ((unhide HWI) _).mono ?_; rintro e w3 ⟨rfl,rfl⟩))
    refine ((unhide HI2) _ HP2.out.now HIO2.out.now HIQ2.out.now).mono ?_;rintro e w3 ⟨b,rfl,hb,hE3⟩;have HB3:=hide (HB2.out.trans (hE3.mono HB2.out.size));have HBB:=hide hb
    cases b with
    | false =>
      have HR:=hide (show pckErr f p room = 1 from by
       unfold pckErr
       rw [if_neg (fun e=>e HFZ.out),if_neg (fun h=>h HRR.out),if_pos (fun h=>by have:=HBB.out.2 h; cases this)])
      clear hb hE3;go_wp2_with fail;go_ret;exact ⟨ret_int HR.out.symm,HB3.out⟩
    | true =>
      have hii : InOrder f p:=by first | exact hb.1 rfl | exact hb.1 trivial
      have HR:=hide (show pckErr f p room = if Fits f p room then 0 else 7 from pckErr_of HOK.out HRR.out hii);have HF2:=hide ((unhide HFT) HOK.out hii HRR.out w3 (HP2.out.later _ hE3) (HIO2.out.later _ hE3) (HIQ2.out.later _ hE3));have hbx3:=HBX2.out.later _ hE3;have hpx3:=HPX2.out.later _ hE3;clear hb hE3 x q0 q1 q2 q3 q4 y r0 r1 hii;obtain ⟨x,q0,q1,q2,q3,q4⟩:=FrmBox.cells (show FrmBox _ _ W H S O PA n c from hbx3);obtain ⟨y,r0,r1⟩:=plan_box hpx3;clear hbx3 hpx3;go_wp2_with fail;refine (unhide HF2).mono ?_;rintro e w4 ⟨b,rfl,hb,hE4⟩;have HB4:=hide (HB3.out.trans (hE4.mono HB3.out.size));have HBF:=hide hb;clear hb hE4
      cases b with
      | true =>
        go_wp2_with fail;go_ret;exact ⟨ret_int (by rw [HR.out,if_pos (by first | exact HBF.out.1 rfl | exact HBF.out.1 trivial)]),HB4.out⟩
      | false =>
        go_wp2_with fail;go_ret;exact ⟨ret_int (by rw [HR.out,if_neg (fun h=>by have:=HBF.out.2 h; cases this)]),HB4.out⟩
 ·have hrz : (z == 0) = false:=by simpa using h0
  have HR:=hide (show pckErr f p room = z from by unfold pckErr; rw [if_pos (by rw [hz]; exact h0),hz]);clear h0 hz HIN HFT;go_enter Tryz.func13,Tryz.ntmps13
  go_wp2_with fail;refine ((unhide HCF) _ HP.out.now).mono ?_;rintro e w2 ⟨ZA,zn,zc,rfl,-,-,hE2⟩;have HB2:=hide (HB.out.trans (hE2.mono HB.out.size));clear hw1 hE2 HB x q0 q1 q2 q3 q4 y r0 r1 HCF;go_wp2_with fail;go_ret;exact ⟨ret_int HR.out.symm,HB2.out⟩
end Go.Proofs.YtibpmogmeoappabGreat
