/- Walk: plan.Check. -/
import Derived.Test.YtibpmogmeoappabJPlnE
import Derived.Test.YtibpmogmeoappabJPlnH
import Derived.Test.YtibpmogmeoappabJPlnJ
set_option maxRecDepth 100000
set_option maxHeartbeats 8000000
namespace Go.Proofs.Ytibpmogmeoappab
open Go.RowKit
theorem begin_any (W H S O : Int) (PA : Option Addr) (n c : Nat) (ps : List Pas) (OA : Option Addr) (on oc : Nat) (QA : Option Addr) (qn qc : Nat) (p : Pln) (w : World) (hn : ps.length = n) (hP : Passes w PA ps)
 (hO : Ints w OA p.Order) (hon : p.Order.length = on) (hol : on ≤ 9223372036854775807) (hQ : Ints w QA p.Places) (hqn : p.Places.length = qn) (hql : qn ≤ 9223372036854775807) :
 Calls Try.prog 55 #[.agg #[.int .i64 W,.int .i64 H,.int .i64 S,.int .i64 O,.slice PA n c],.agg #[.slice OA on oc,.slice QA qn qc]] w (RetLook w ⟨W,H,S,O,ps⟩ p OA on oc QA qn qc):=by
 by_cases he : frErr ⟨W,H,S,O,ps⟩ = 0
 ·exact begin_ok W H S O PA n c ps OA on oc QA qn qc p w hn hP hO hon hol hQ hqn hql (frErr_zero.1 he)
 ·exact begin_no W H S O PA n c ps OA on oc QA qn qc p w hn hP he
theorem planErr_frm {f : Frm} {p : Pln} (h : frErr f ≠ 0) : planErr f p = frErr f:=by unfold planErr; rw [if_pos h]
theorem planErr_form {f : Frm} {p : Pln} (h : frErr f = 0) (hi : ¬ InOrder f p) : planErr f p = 1:=by unfold planErr; rw [if_neg (fun e=>e h),if_neg hi]
theorem planErr_ok {f : Frm} {p : Pln} (h : frErr f = 0) (hi : InOrder f p) : planErr f p = 0:=by unfold planErr; rw [if_neg (fun e=>e h),if_pos hi]
theorem planCheck_any (W H S O : Int) (PA : Option Addr) (n c : Nat) (ps : List Pas) (OA : Option Addr) (on oc : Nat) (QA : Option Addr) (qn qc : Nat) (p : Pln) (room : Int) (w : World) (hn : ps.length = n) (hP : Passes w PA ps)
 (hO : Ints w OA p.Order) (hon : p.Order.length = on) (hol : on ≤ 9223372036854775807) (hoc : on ≤ oc) (hQ : Ints w QA p.Places) (hqn : p.Places.length = qn) (hql : qn ≤ 9223372036854775807) :
 Calls Try.prog 15 #[.agg #[.int .i64 W,.int .i64 H,.int .i64 S,.int .i64 O,.slice PA n c],.agg #[.slice OA on oc,.slice QA qn qc],.int .i64 room] w (RetE w (pckErr ⟨W,H,S,O,ps⟩ p room)):=by
 have hb:=((Below.refl w.heap.size w).alloc (Nat.le_refl _) (.cells #[.int .i64 W,.int .i64 H,.int .i64 S,.int .i64 O,.slice PA n c] 24)).alloc (by simp) (.cells #[.slice OA on oc,.slice QA qn qc] 27);have hbx:=(show FrmBox (w.alloc (.cells #[.int .i64 W,.int .i64 H,.int .i64 S,.int .i64 O,.slice PA n c] 24)) w.heap.size W H S O PA n c from Blk.new w 24 (frmCells W H S O PA n c)).alloc (.cells #[.slice OA on oc,.slice QA qn qc] 27);have hpx : Blk ((w.alloc (.cells #[.int .i64 W,.int .i64 H,.int .i64 S,.int .i64 O,.slice PA n c] 24)).alloc (.cells #[.slice OA on oc,.slice QA qn qc] 27)) (w.heap.size + 1) 27 [.slice OA on oc,.slice QA qn qc]:=Blk.newE (by simp);have hbg:=begin_any W H S O PA n c ps OA on oc QA qn qc p _ hn (hP.keep hb) (hO.keep hb) hon hol (hQ.keep hb) hqn hql;have hio:=hO.keep hb;have hiq:=hQ.keep hb;obtain ⟨f,hf⟩ : ∃ f : Frm,f = ⟨W,H,S,O,ps⟩:=⟨_,rfl⟩;rw [← hf] at hbg ⊢;obtain ⟨w1,hw1⟩ : ∃ w1,(w.alloc (.cells #[.int .i64 W,.int .i64 H,.int .i64 S,.int .i64 O,.slice PA n c] 24)).alloc (.cells #[.slice OA on oc,.slice QA qn qc] 27) = w1:=⟨_,rfl⟩;rw [hw1] at hb hbx hpx hbg hio hiq;have HB:=hide hb;have HPX:=hide (Keeps.blk hpx);have HIO:=hide (Keeps.ints hio);have HIQ:=hide (Keeps.ints hiq);have HBG:=hide hbg;have HON:=hide hon;have HQN:=hide hqn;obtain ⟨x,q0,q1,q2,q3,q4⟩:=FrmBox.cells (show FrmBox _ _ W H S O PA n c from hbx);obtain ⟨y,r0,r1⟩:=plan_box hpx;clear hn hP hO hQ hbx hpx hb hio hiq hbg hf hon hqn;go_enter Try.func15,Try.ntmps15
 go_wp2_with fail;refine (unhide HBG).mono ?_;rintro e w2 ⟨hE2,⟨hne,rfl⟩ | ⟨hz,g,⟨hni,rfl⟩ | ⟨hin,rfl,hLk⟩⟩⟩
 ·have HB2:=hide (HB.out.trans (hE2.mono HB.out.size))
  obtain ⟨z,hz⟩ : ∃ z,frErr f = z:=⟨_,rfl⟩;have HR:=hide (show pckErr f p room = z from by unfold pckErr; rw [if_pos hne]; exact hz);rw [hz];clear hE2 hne hz hw1 HBG x q0 q1 q2 q3 q4 y r0 r1;go_wp2_with fail;all_goals try (exfalso; omega)
  go_ret;exact ⟨ret_int HR.out.symm,HB2.out⟩
 ·have HB2:=hide (HB.out.trans (hE2.mono HB.out.size))
  have HZ:=hide hz;have HNI:=hide hni;clear hE2 hz hni hw1 HBG x q0 q1 q2 q3 q4 y r0 r1;by_cases h1 : room < 0
  ·have HR:=hide (show pckErr f p room = 3 from by unfold pckErr; rw [if_neg (fun e=>e HZ.out),if_pos (by omega)])
   go_wp2_with fail;all_goals try (exfalso; omega)
   go_ret;exact ⟨ret_int HR.out.symm,HB2.out⟩
  ·by_cases h2 : 4096 < room
   ·have HR:=hide (show pckErr f p room = 3 from by unfold pckErr; rw [if_neg (fun e=>e HZ.out),if_pos (by omega)])
    go_wp2_with fail;all_goals try (exfalso; omega)
    go_ret;exact ⟨ret_int HR.out.symm,HB2.out⟩
   ·have HR:=hide (show pckErr f p room = 1 from by unfold pckErr; rw [if_neg (fun e=>e HZ.out),if_neg (by omega),if_pos HNI.out])
    go_wp2_with fail;all_goals try (exfalso; omega)
    go_ret;exact ⟨ret_int HR.out.symm,HB2.out⟩
 ·have HB2:=hide (HB.out.trans (hE2.mono HB.out.size))
  have HZ:=hide hz;have HIN:=hide hin;have HIO2:=hide (HIO.out.later _ hE2);have HIQ2:=hide (HIQ.out.later _ hE2);have HLK:=hide hLk;clear hE2 hz hin hLk hw1 HBG x q0 q1 q2 q3 q4 y r0 r1;by_cases h1 : room < 0
  ·have HR:=hide (show pckErr f p room = 3 from by unfold pckErr; rw [if_neg (fun e=>e HZ.out),if_pos (by omega)])
   go_wp2_with fail;all_goals try (exfalso; omega)
   go_ret;exact ⟨ret_int HR.out.symm,HB2.out⟩
  ·by_cases h2 : 4096 < room
   ·have HR:=hide (show pckErr f p room = 3 from by unfold pckErr; rw [if_neg (fun e=>e HZ.out),if_pos (by omega)])
    go_wp2_with fail;all_goals try (exfalso; omega)
    go_ret;exact ⟨ret_int HR.out.symm,HB2.out⟩
   ·have HR:=hide (show pckErr f p room = if Fits f p room then 0 else 7 from pckErr_of (frErr_zero.1 HZ.out) (by omega) HIN.out)
    have HFT:=hide (fitsL_any g f p OA on oc QA qn qc room w2 (frErr_zero.1 HZ.out) HIN.out HLK.out HIO2.out HON.out hoc HIQ2.out HQN.out (by omega));go_wp2_with fail;all_goals try (exfalso; omega)
    refine (unhide HFT).mono ?_;rintro e w3 ⟨b,rfl,hb,hE3⟩;have HB3:=hide (HB2.out.trans (hE3.mono HB2.out.size));have HBB:=hide hb;clear hb hE3 HFT
    cases b with
    | true =>
      go_wp2_with fail;all_goals try (exfalso; omega)
      go_ret;exact ⟨ret_int (by rw [HR.out,if_pos (by first | exact HBB.out.1 rfl | exact HBB.out.1 trivial)]),HB3.out⟩
    | false =>
      go_wp2_with fail;all_goals try (exfalso; omega)
      go_ret;exact ⟨ret_int (by rw [HR.out,if_neg (fun h=>by have:=HBB.out.2 h; cases this)]),HB3.out⟩
end Go.Proofs.Ytibpmogmeoappab
namespace Go.Proofs.Ytibpmogmeoappab
open Go.RowKit
theorem checkPlan_ref (W H S O : Int) (PA : Option Addr) (n c : Nat) (ps : List Pas) (OA : Option Addr) (on oc : Nat) (QA : Option Addr) (qn qc : Nat) (p : Pln) (room : Int) (w : World) (hn : ps.length = n) (hP : Passes w PA ps) (hl : n ≤ 9223372036854775807)
 (hO : Ints w OA p.Order) (hon : p.Order.length = on) (hol : on ≤ 9223372036854775807) (hQ : Ints w QA p.Places) (hqn : p.Places.length = qn) (hql : qn ≤ 9223372036854775807) :
 Calls Try.prog 16 #[.agg #[.int .i64 W,.int .i64 H,.int .i64 S,.int .i64 O,.slice PA n c],.agg #[.slice OA on oc,.slice QA qn qc],.int .i64 room] w (RetE w (pckErr ⟨W,H,S,O,ps⟩ p room)):=by
 have hb:=((Below.refl w.heap.size w).alloc (Nat.le_refl _) (.cells #[.int .i64 W,.int .i64 H,.int .i64 S,.int .i64 O,.slice PA n c] 24)).alloc (by simp) (.cells #[.slice OA on oc,.slice QA qn qc] 27);have hbx:=(show FrmBox (w.alloc (.cells #[.int .i64 W,.int .i64 H,.int .i64 S,.int .i64 O,.slice PA n c] 24)) w.heap.size W H S O PA n c from Blk.new w 24 (frmCells W H S O PA n c)).alloc (.cells #[.slice OA on oc,.slice QA qn qc] 27);have hpx : Blk ((w.alloc (.cells #[.int .i64 W,.int .i64 H,.int .i64 S,.int .i64 O,.slice PA n c] 24)).alloc (.cells #[.slice OA on oc,.slice QA qn qc] 27)) (w.heap.size + 1) 27 [.slice OA on oc,.slice QA qn qc]:=Blk.newE (by simp);have hio:=hO.keep hb;have hiq:=hQ.keep hb;have hpa:=hP.keep hb;have hcf:=fun (W0 : World) (h1 : Passes W0 PA ps)=>checkFrame_ref W H S O PA n c ps W0 hn h1 hl;have hin:=fun (h0 : FrmOk ⟨W,H,S,O,ps⟩) (W0 : World) (h1 : Passes W0 PA ps) (h2 : Ints W0 OA p.Order) (h3 : Ints W0 QA p.Places)=>inOrder_ref W H S O PA n c ps OA on oc QA qn qc p W0 hn h1 h2 hon hol h3 hqn hql h0;have hft:=fun (h0 : FrmOk ⟨W,H,S,O,ps⟩) (hi : InOrder ⟨W,H,S,O,ps⟩ p) (hr : 0 ≤ room ∧ room ≤ 4096) (W0 : World) (h1 : Passes W0 PA ps) (h2 : Ints W0 OA p.Order) (h3 : Ints W0 QA p.Places)=>fits_ref W H S O PA n c ps OA on oc QA qn qc p room W0 hn h1 h2 hon hol h3 hqn h0 hi hr;obtain ⟨f,hf⟩ : ∃ f : Frm,f = ⟨W,H,S,O,ps⟩:=⟨_,rfl⟩;rw [← hf] at hcf hin hft ⊢;obtain ⟨w1,hw1⟩ : ∃ w1,(w.alloc (.cells #[.int .i64 W,.int .i64 H,.int .i64 S,.int .i64 O,.slice PA n c] 24)).alloc (.cells #[.slice OA on oc,.slice QA qn qc] 27) = w1:=⟨_,rfl⟩;rw [hw1] at hb hbx hpx hio hiq hpa;have HB:=hide hb;have HBX:=hide (Keeps.blk hbx);have HPX:=hide (Keeps.blk hpx);have HIO:=hide (Keeps.ints hio);have HIQ:=hide (Keeps.ints hiq);have HP:=hide (Keeps.passes hpa);obtain ⟨x,q0,q1,q2,q3,q4⟩:=FrmBox.cells (show FrmBox _ _ W H S O PA n c from hbx);obtain ⟨y,r0,r1⟩:=plan_box hpx;have HCF:=hide hcf;have HIN:=hide hin;have HFT:=hide hft;clear hn hP hl hon hO hol hqn hQ hql hb hbx hpx hio hiq hpa hf hcf hin hft;obtain ⟨z,hz⟩ : ∃ z,frErr f = z:=⟨_,rfl⟩;rw [hz] at HCF;by_cases h0 : z = 0
 ·have hfz:=hz.trans h0
  have HOK:=hide (frErr_zero.1 hfz);have HFZ:=hide hfz;have HI2:=hide ((unhide HIN) HOK.out);have hrz : (z == 0) = true:=by simpa using h0
  obtain ⟨inb,hinb⟩ : ∃ b,inR room 0 4096 = b:=⟨_,rfl⟩;have hwi:=fun W0=>within_any room 0 4096 W0;rw [hinb] at hwi;have HWI:=hide hwi;have HINB:=hide hinb;clear h0 hz HIN hfz hwi hinb;go_enter Try.func16,Try.ntmps16
  go_wp2_with fail;refine ((unhide HCF) _ HP.out.now).mono ?_;rintro e w2 ⟨ZA,zn,zc,rfl,-,-,hE2⟩;have HB2:=hide (HB.out.trans (hE2.mono HB.out.size));have HIO2:=hide (HIO.out.move hE2);have HIQ2:=hide (HIQ.out.move hE2);have HP2:=hide (HP.out.move hE2);have HBX2:=hide (HBX.out.move hE2);have HPX2:=hide (HPX.out.move hE2);clear hw1 hE2 HB HIO HIQ HP x q0 q1 q2 q3 q4 y r0 r1 HCF HBX HPX;obtain ⟨x,q0,q1,q2,q3,q4⟩:=FrmBox.cells (show FrmBox _ _ W H S O PA n c from HBX2.out.now);obtain ⟨y,r0,r1⟩:=plan_box HPX2.out.now
  cases inb with
  | false =>
    have HR:=hide (show pckErr f p room = 3 from by
     have h2:=HINB.out;unfold inR at h2;simp at h2
     unfold pckErr
     rw [if_neg (fun e=>e HFZ.out),if_pos (by omega)])
    go_wp2_with (go_at_call 57; refine ((unhide HWI) _).mono ?_; rintro e w3 ⟨rfl,rfl⟩)
    go_ret;exact ⟨ret_int HR.out.symm,HB2.out⟩
  | true =>
    have hrr : 0 ≤ room ∧ room ≤ 4096:=by
     have h2:=HINB.out;unfold inR at h2;simp at h2
     omega
    have HRR:=hide hrr;clear hrr;go_wp2_with (first | (go_at_call 57; refine ((unhide HWI) _).mono ?_; rintro e w3 ⟨rfl,rfl⟩))
    refine ((unhide HI2) _ HP2.out.now HIO2.out.now HIQ2.out.now).mono ?_;rintro e w3 ⟨b,rfl,hb,hE3⟩;have HB3:=hide (HB2.out.trans (hE3.mono HB2.out.size));have HBB:=hide hb
    cases b with
    | false =>
      have HR:=hide (show pckErr f p room = 1 from by
       unfold pckErr
       rw [if_neg (fun e=>e HFZ.out),if_neg (fun h=>h HRR.out),if_pos (fun h=>by have:=HBB.out.2 h; cases this)])
      clear hb hE3;go_wp2_with fail;go_ret;exact ⟨ret_int HR.out.symm,HB3.out⟩
    | true =>
      have hii : InOrder f p:=by first | exact hb.1 rfl | exact hb.1 trivial
      have HR:=hide (show pckErr f p room = if Fits f p room then 0 else 7 from pckErr_of HOK.out HRR.out hii);have HF2:=hide ((unhide HFT) HOK.out hii HRR.out w3 (HP2.out.later _ hE3) (HIO2.out.later _ hE3) (HIQ2.out.later _ hE3));have hbx3:=HBX2.out.later _ hE3;have hpx3:=HPX2.out.later _ hE3;clear hb hE3 x q0 q1 q2 q3 q4 y r0 r1 hii;obtain ⟨x,q0,q1,q2,q3,q4⟩:=FrmBox.cells (show FrmBox _ _ W H S O PA n c from hbx3);obtain ⟨y,r0,r1⟩:=plan_box hpx3;clear hbx3 hpx3;go_wp2_with fail;refine (unhide HF2).mono ?_;rintro e w4 ⟨b,rfl,hb,hE4⟩;have HB4:=hide (HB3.out.trans (hE4.mono HB3.out.size));have HBF:=hide hb;clear hb hE4
      cases b with
      | true =>
        go_wp2_with fail;go_ret;exact ⟨ret_int (by rw [HR.out,if_pos (by first | exact HBF.out.1 rfl | exact HBF.out.1 trivial)]),HB4.out⟩
      | false =>
        go_wp2_with fail;go_ret;exact ⟨ret_int (by rw [HR.out,if_neg (fun h=>by have:=HBF.out.2 h; cases this)]),HB4.out⟩
 ·have hrz : (z == 0) = false:=by simpa using h0
  have HR:=hide (show pckErr f p room = z from by unfold pckErr; rw [if_pos (by rw [hz]; exact h0),hz]);clear h0 hz HIN HFT;go_enter Try.func16,Try.ntmps16
  go_wp2_with fail;refine ((unhide HCF) _ HP.out.now).mono ?_;rintro e w2 ⟨ZA,zn,zc,rfl,-,-,hE2⟩;have HB2:=hide (HB.out.trans (hE2.mono HB.out.size));clear hw1 hE2 HB x q0 q1 q2 q3 q4 y r0 r1 HCF;go_wp2_with fail;go_ret;exact ⟨ret_int HR.out.symm,HB2.out⟩
end Go.Proofs.Ytibpmogmeoappab
namespace Go.Proofs.Ytibpmogmeoappab
open Go.RowKit
theorem peakTo_bd {f : Frm} {p : Pln} (hf : FrmOk f) (h : InOrder f p) : ∀ k,k ≤ f.P.length → 0 ≤ peakTo f p k ∧ peakTo f p k ≤ 4352
 | 0,_=>by simp [peakTo]
 | k + 1, hk => by
   have h1:=peakTo_bd hf h k (by omega);have h2:=place_of h (k:=k) (by omega);have h3:=area_bd hf (k:=k) (by omega);simp only [peakTo];split <;> omega
theorem peakOf_ref (W H S O : Int) (PA : Option Addr) (n c : Nat) (ps : List Pas) (OA : Option Addr) (on oc : Nat) (QA : Option Addr) (qn qc : Nat) (p : Pln) (w : World) (hn : ps.length = n) (hP : Passes w PA ps)
 (hO : Ints w OA p.Order) (hon : p.Order.length = on) (hol : on ≤ 9223372036854775807) (hQ : Ints w QA p.Places) (hqn : p.Places.length = qn) (hok : FrmOk ⟨W,H,S,O,ps⟩) (hin : InOrder ⟨W,H,S,O,ps⟩ p) :
 Calls Try.prog 22 #[.agg #[.int .i64 W,.int .i64 H,.int .i64 S,.int .i64 O,.slice PA n c],.agg #[.slice OA on oc,.slice QA qn qc]] w (RetE w (peakOf ⟨W,H,S,O,ps⟩ p)):=by
 have hb:=((Below.refl w.heap.size w).alloc (Nat.le_refl _) (.cells #[.int .i64 W,.int .i64 H,.int .i64 S,.int .i64 O,.slice PA n c] 24)).alloc (by simp) (.cells #[.slice OA on oc,.slice QA qn qc] 27);have hbx:=(show FrmBox (w.alloc (.cells #[.int .i64 W,.int .i64 H,.int .i64 S,.int .i64 O,.slice PA n c] 24)) w.heap.size W H S O PA n c from Blk.new w 24 (frmCells W H S O PA n c)).alloc (.cells #[.slice OA on oc,.slice QA qn qc] 27);have hpx : Blk ((w.alloc (.cells #[.int .i64 W,.int .i64 H,.int .i64 S,.int .i64 O,.slice PA n c] 24)).alloc (.cells #[.slice OA on oc,.slice QA qn qc] 27)) (w.heap.size + 1) 27 [.slice OA on oc,.slice QA qn qc]:=Blk.newE (by simp);have h12:=hok.many;have hpl:=hin.places;have hle:=hin.len;have hCF:=fun (W0 : World) (h1 : Passes W0 PA ps)=>checkFrame_ref W H S O PA n c ps W0 hn h1 (by have:=hok.many.2; simp only at this; omega);have hSP:=fun (W0 : World) (h1 : Passes W0 PA ps) (h2 : Ints W0 OA p.Order)=>spansOf_ref W H S O PA n c ps OA on oc QA qn qc p W0 hn h1 h2 hon hol hok hin;have HP:=hide (Keeps.passes (hP.keep hb));have hio:=hO.keep hb;have hiq:=hQ.keep hb;obtain ⟨f,hf⟩ : ∃ f : Frm,f = ⟨W,H,S,O,ps⟩:=⟨_,rfl⟩;have HFN:=hide (show f.P.length = n from by rw [hf]; exact hn);rw [← hf] at hok hin hCF hSP h12 hpl hle ⊢;rw [HFN.out] at h12 hpl hle;rw [hon] at hle;rw [hqn] at hpl;obtain rfl : n = qn:=hpl.symm;rw [frErr_zero.2 hok] at hCF;obtain ⟨w1,hw1⟩ : ∃ w1,(w.alloc (.cells #[.int .i64 W,.int .i64 H,.int .i64 S,.int .i64 O,.slice PA n c] 24)).alloc (.cells #[.slice OA on oc,.slice QA n qc] 27) = w1:=⟨_,rfl⟩;rw [hw1] at hb hbx hpx HP hio hiq;have HB:=hide hb;have HBX:=hide (Keeps.blk hbx);have HPX:=hide (Keeps.blk hpx);have HIO:=hide (Keeps.ints hio);have HIQ:=hide (Keeps.ints hiq);have HCF:=hide hCF;have HSP:=hide hSP;have HOK:=hide hok;have HIN:=hide hin;have HON:=hide hon;have HQN:=hide hqn;obtain ⟨x,q0,q1,q2,q3,q4⟩:=FrmBox.cells (show FrmBox _ _ W H S O PA n c from hbx);obtain ⟨y,r0,r1⟩:=plan_box hpx;clear hn hP hO hQ hbx hpx hb hio hiq hCF hSP hok hf hon hqn hin hpl;go_enter Try.func22,Try.ntmps22
 go_wp2_with fail;refine ((unhide HCF) _ HP.out.now).mono ?_;rintro e w2 ⟨ZA,zn,zc,rfl,hzn,hZ,hE2⟩;obtain rfl : n = zn:=by rw [← hzn,sizes_len HOK.out]; exact HFN.out.symm
 have HB2:=hide (HB.out.trans (hE2.mono HB.out.size));have HBX2:=hide (HBX.out.move hE2);have HPX2:=hide (HPX.out.move hE2);have HIO2:=hide (HIO.out.move hE2);have HIQ2:=hide (HIQ.out.move hE2);have HP2:=hide (HP.out.move hE2);have HZ2:=hide (show Keeps w2 (fun W'=>Sizes W' ZA (frSizes f)) from ⟨hZ,fun _ hb=>Cells.keep hZ hb⟩);clear hw1 hE2 hZ hzn x q0 q1 q2 q3 q4 y r0 r1 HB HBX HPX HIO HIQ HP HCF;go_wp2_with fail;go_loopw [7,8] (fun a s wr=>∃ k : Nat,k ≤ n ∧ s = .int .i64 k ∧ a = .int .i64 (peakTo f p k) ∧ Hid (Below w2.heap.size w2 wr)) (fun _ s _=>n - (intOf s).toNat)
 case atStart=>exact ⟨0,Nat.zero_le _,rfl,rfl,hide (Below.refl _ _)⟩
 case round =>
  obtain ⟨k,hk,rfl,rfl,HBW⟩:=hrel;obtain ⟨y,r0,r1⟩:=plan_box (HPX2.out.later _ HBW.out);by_cases hlt : k < n
  ·have hk0 : (0 : Int) ≤ (k : Int):=by omega
   have hk1 : (k : Int) < (n : Int):=by omega
   have hkf : k < f.P.length:=by rw [HFN.out]; exact hlt
   obtain ⟨pb,po,hQA,hpb,cp⟩:=ints_at (HIQ2.out.later _ HBW.out) (k:=k) (by rw [HQN.out]; exact hlt);obtain rfl:=hQA;have hpl:=place_of HIN.out hkf;have hpe:=peakTo_bd HOK.out HIN.out k (by omega);have hsuc : peakTo f p (k + 1) = if p.pl k = -1 then peakTo f p k else max (peakTo f p k) (p.pl k + areaOf f k):=rfl;obtain ⟨pk,hpk⟩ : ∃ v,p.pl k = v:=⟨_,rfl⟩;obtain ⟨ak,hak⟩ : ∃ a,areaOf f k = a:=⟨_,rfl⟩;obtain ⟨pe,hpee⟩ : ∃ a,peakTo f p k = a:=⟨_,rfl⟩;have hab:=area_bd HOK.out hkf;rw [show p.Places.getD k 0 = p.pl k from rfl,hpk] at cp;rw [hpk,hak,hpee] at hsuc;rw [hpk] at hpl;rw [hak] at hab;rw [hpee] at hpe;rw [hpee];by_cases hm1 : pk = -1
   ·have hb1 : (pk == -1) = true:=by simpa using hm1
    have HSU:=hide (show peakTo f p (k + 1) = pe from by rw [hsuc,if_pos hm1]);clear hm1 hpk hak hpee hsuc hpl hab;go_wp2_with fail;go_roundw
    case rel=>exact ⟨k + 1,by omega,by go_num,by rw [HSU.out],HBW⟩
    case measure=>simp [intOf]; omega
   ·have hb1 : (pk == -1) = false:=by simpa using hm1
    have hpl2 : 0 ≤ pk ∧ pk ≤ 4096:=by omega
    have HSU:=hide (show peakTo f p (k + 1) = max pe (pk + ak) from by rw [hsuc,if_neg hm1]);obtain ⟨zb,zo,hZA,hzb,z0,z1⟩:=size_cells HOK.out (HZ2.out.later _ HBW.out) hkf;obtain rfl:=hZA;obtain ⟨sw,hsw⟩ : ∃ a,(frSize f k).W = a:=⟨_,rfl⟩;obtain ⟨sh,hsh⟩ : ∃ a,(frSize f k).H = a:=⟨_,rfl⟩;rw [hsw] at z0;rw [hsh] at z1;have HAR:=hide (area_is (W:=sw) (H:=sh) (a:=ak) (by rw [← hsw,← hsh,← hak]; rfl) (by omega));have hwr : IntKind.i64.wrap (pk + ak) = pk + ak:=IntWalk.i64_in _ (by omega);have HKS:=hide (show Keeps wr (fun w'=>w'.cell? ⟨w.heap.size + 1,1,none⟩ = some (.slice (some ⟨pb,po,none⟩) n qc) ∧ w'.cell? ⟨pb,po + k,none⟩ = some (.int .i64 pk) ∧ w'.cell? ⟨zb,zo + k * 2,none⟩ = some (.int .i64 sw) ∧ w'.cell? ⟨zb,zo + k * 2 + 1,none⟩ = some (.int .i64 sh)) from ⟨⟨r1,cp,z0,z1⟩,fun _ hb=>⟨keepC hb r1,keepC hb cp,keepC hb z0,keepC hb z1⟩⟩);clear hm1 hpk hak hpee hsuc hpl hsw hsh;go_upto_region 7 with fail
    go_region_held3 (fun w'=>w'.cell? ⟨w.heap.size + 1,1,none⟩ = some (.slice (some ⟨pb,po,none⟩) n qc) ∧ w'.cell? ⟨pb,po + k,none⟩ = some (.int .i64 pk) ∧ w'.cell? ⟨zb,zo + k * 2,none⟩ = some (.int .i64 sw) ∧ w'.cell? ⟨zb,zo + k * 2 + 1,none⟩ = some (.int .i64 sh))
     (first | exact HKS.out.later _ hB5 | exact HKS.out.later _ (Below.refl _ _).drew)
     (first
       | (go_simp; go_at_call 62; refine ((unhide HAR) _).mono ?_; rintro e w5 ⟨rfl,hE5⟩; have hB5 : Below wr.heap.size wr w5:=(Below.refl _ _).drew.trans hE5))
    go_wp2_with fail;go_roundw
    case rel=>exact ⟨k + 1,by omega,by go_num,by rw [HSU.out]; congr 1; (first | rfl | omega),hide (HBW.out.trans (hB5.mono HBW.out.size))⟩
    case measure=>simp [intOf]; omega
  ·obtain rfl : k = n:=by omega
   go_wp2_with fail;go_ret;exact ⟨ret_int (by unfold peakOf; rw [HFN.out]),HB2.out.trans (HBW.out.mono HB2.out.size)⟩
theorem needTo_bd {f : Frm} {p : Pln} (hf : FrmOk f) (i : Int) : ∀ k,k ≤ f.P.length → 0 ≤ needTo f p i k ∧ needTo f p i k ≤ 256 * (k : Int)
 | 0,_=>by simp [needTo]
 | k + 1, hk => by
   have h1:=needTo_bd hf (p:=p) i k (by omega);have h3:=area_bd hf (k:=k) (by omega);simp only [needTo];split <;> omega
theorem floorTo_bd {f : Frm} {p : Pln} (hf : FrmOk f) : ∀ i : Nat,0 ≤ floorTo f p i ∧ floorTo f p i ≤ 3072
 | 0=>by simp [floorTo]
 | i + 1 => by
   have h1:=floorTo_bd hf (p:=p) i;have h2:=needTo_bd hf (p:=p) i f.P.length (Nat.le_refl _);have h3:=hf.many;simp only [floorTo];omega
theorem floorOf_ref (W H S O : Int) (PA : Option Addr) (n c : Nat) (ps : List Pas) (OA : Option Addr) (on oc : Nat) (QA : Option Addr) (qn qc : Nat) (p : Pln) (w : World) (hn : ps.length = n) (hP : Passes w PA ps)
 (hO : Ints w OA p.Order) (hon : p.Order.length = on) (hol : on ≤ 9223372036854775807) (hQ : Ints w QA p.Places) (hqn : p.Places.length = qn) (hok : FrmOk ⟨W,H,S,O,ps⟩) (hin : InOrder ⟨W,H,S,O,ps⟩ p) :
 Calls Try.prog 23 #[.agg #[.int .i64 W,.int .i64 H,.int .i64 S,.int .i64 O,.slice PA n c],.agg #[.slice OA on oc,.slice QA qn qc]] w (RetE w (floorOf ⟨W,H,S,O,ps⟩ p)):=by
 have hb:=((Below.refl w.heap.size w).alloc (Nat.le_refl _) (.cells #[.int .i64 W,.int .i64 H,.int .i64 S,.int .i64 O,.slice PA n c] 24)).alloc (by simp) (.cells #[.slice OA on oc,.slice QA qn qc] 27);have hbx:=(show FrmBox (w.alloc (.cells #[.int .i64 W,.int .i64 H,.int .i64 S,.int .i64 O,.slice PA n c] 24)) w.heap.size W H S O PA n c from Blk.new w 24 (frmCells W H S O PA n c)).alloc (.cells #[.slice OA on oc,.slice QA qn qc] 27);have hpx : Blk ((w.alloc (.cells #[.int .i64 W,.int .i64 H,.int .i64 S,.int .i64 O,.slice PA n c] 24)).alloc (.cells #[.slice OA on oc,.slice QA qn qc] 27)) (w.heap.size + 1) 27 [.slice OA on oc,.slice QA qn qc]:=Blk.newE (by simp);have h12:=hok.many;have hpl:=hin.places;have hle:=hin.len;have hCF:=fun (W0 : World) (h1 : Passes W0 PA ps)=>checkFrame_ref W H S O PA n c ps W0 hn h1 (by have:=hok.many.2; simp only at this; omega);have hSP:=fun (W0 : World) (h1 : Passes W0 PA ps) (h2 : Ints W0 OA p.Order)=>spansOf_ref W H S O PA n c ps OA on oc QA qn qc p W0 hn h1 h2 hon hol hok hin;have HP:=hide (Keeps.passes (hP.keep hb));have hio:=hO.keep hb;have hiq:=hQ.keep hb;obtain ⟨f,hf⟩ : ∃ f : Frm,f = ⟨W,H,S,O,ps⟩:=⟨_,rfl⟩;have HFN:=hide (show f.P.length = n from by rw [hf]; exact hn);rw [← hf] at hok hin hCF hSP h12 hpl hle ⊢;rw [HFN.out] at h12 hpl hle;rw [hon] at hle;rw [hqn] at hpl;obtain rfl : n = qn:=hpl.symm;rw [frErr_zero.2 hok] at hCF;obtain ⟨w1,hw1⟩ : ∃ w1,(w.alloc (.cells #[.int .i64 W,.int .i64 H,.int .i64 S,.int .i64 O,.slice PA n c] 24)).alloc (.cells #[.slice OA on oc,.slice QA n qc] 27) = w1:=⟨_,rfl⟩;rw [hw1] at hb hbx hpx HP hio hiq;have HB:=hide hb;have HBX:=hide (Keeps.blk hbx);have HPX:=hide (Keeps.blk hpx);have HIO:=hide (Keeps.ints hio);have HIQ:=hide (Keeps.ints hiq);have HCF:=hide hCF;have HSP:=hide hSP;have HOK:=hide hok;have HIN:=hide hin;have HON:=hide hon;have HQN:=hide hqn;obtain ⟨x,q0,q1,q2,q3,q4⟩:=FrmBox.cells (show FrmBox _ _ W H S O PA n c from hbx);obtain ⟨y,r0,r1⟩:=plan_box hpx;clear hn hP hO hQ hbx hpx hb hio hiq hCF hSP hok hf hon hqn hin hpl;go_enter Try.func23,Try.ntmps23
 go_wp2_with fail;refine ((unhide HCF) _ HP.out.now).mono ?_;rintro e w2 ⟨ZA,zn,zc,rfl,hzn,hZ,hE2⟩;obtain rfl : n = zn:=by rw [← hzn,sizes_len HOK.out]; exact HFN.out.symm
 have HB2:=hide (HB.out.trans (hE2.mono HB.out.size));have HBX2:=hide (HBX.out.move hE2);have HPX2:=hide (HPX.out.move hE2);have HIO2:=hide (HIO.out.move hE2);have HIQ2:=hide (HIQ.out.move hE2);have HP2:=hide (HP.out.move hE2);have HZ2:=hide (show Keeps w2 (fun W'=>Sizes W' ZA (frSizes f)) from ⟨hZ,fun _ hb=>Cells.keep hZ hb⟩);clear hw1 hE2 hZ hzn x q0 q1 q2 q3 q4 y r0 r1 HB HBX HPX HIO HIQ HP HCF;obtain ⟨x,q0,q1,q2,q3,q4⟩:=FrmBox.cells (show FrmBox _ _ W H S O PA n c from HBX2.out.now);obtain ⟨y,r0,r1⟩:=plan_box HPX2.out.now;go_wp2_with fail;refine ((unhide HSP) _ HP2.out.now HIO2.out.now).mono ?_;rintro e w3 ⟨XA,xn,xc,rfl,hxn,hX,hE3⟩;obtain rfl : n = xn:=by rw [← hxn]; simp [spansTo]
 have HB3:=hide (HB2.out.trans (hE3.mono HB2.out.size));have HPX3:=hide (HPX2.out.move hE3);have HIO3:=hide (HIO2.out.move hE3);have HIQ3:=hide (HIQ2.out.move hE3);have HZ3:=hide (HZ2.out.move hE3);have HX3:=hide (show Keeps w3 (fun W'=>Spns W' XA (spansTo f p n)) from ⟨hX,fun _ hb=>Cells.keep hX hb⟩);clear hE3 hX hxn x q0 q1 q2 q3 q4 y r0 r1 HB2 HPX2 HIO2 HIQ2 HZ2 HP2 HBX2 HSP;go_wp2_with fail;go_loopw [8,9,10,11] (fun a s _ _ wr=>∃ i : Nat,i ≤ on ∧ s = .int .i64 i ∧ a = .int .i64 (floorTo f p i) ∧ Hid (Below w3.heap.size w3 wr)) (fun _ s _ _ _=>on - (intOf s).toNat)
 case atStart=>exact ⟨0,Nat.zero_le _,rfl,rfl,hide (Below.refl _ _)⟩
 case round =>
  obtain ⟨i,hi,rfl,rfl,HBW⟩:=hrel;obtain ⟨y,r0,r1⟩:=plan_box (HPX3.out.later _ HBW.out);have hfl:=floorTo_bd HOK.out (p:=p) i;have hsu : floorTo f p (i + 1) = max (floorTo f p i) (needTo f p (i : Int) n):=by rw [← HFN.out]; rfl
  obtain ⟨fl,hfle⟩ : ∃ a,floorTo f p i = a:=⟨_,rfl⟩;rw [hfle] at hfl hsu;rw [hfle];have HSU:=hide hsu;have HFL:=hide hfle;clear hfle hsu;by_cases hil : i < on
  ·have hi0 : (0 : Int) ≤ (i : Int):=by omega
   have hi1 : (i : Int) < (on : Int):=by omega
   go_wp2_with fail;clear y r0 r1;go_loopw [10,11] (fun b s wz=>∃ k : Nat,k ≤ n ∧ s = .int .i64 k ∧ b = .int .i64 (needTo f p (i : Int) k) ∧ Hid (Below w3.heap.size w3 wz)) (fun _ s _=>n - (intOf s).toNat)
   case atStart=>exact ⟨0,Nat.zero_le _,rfl,rfl,HBW⟩
   case round =>
    obtain ⟨k,hk,rfl,rfl,HBZ⟩:=hrel;have hne:=needTo_bd HOK.out (p:=p) (i : Int) k (by rw [HFN.out]; exact hk);by_cases hlt : k < n
    ·have hk0 : (0 : Int) ≤ (k : Int):=by omega
     have hk1 : (k : Int) < (n : Int):=by omega
     have hkf : k < f.P.length:=by rw [HFN.out]; exact hlt
     obtain ⟨y,-,r1⟩:=plan_box (HPX3.out.later _ HBZ.out);obtain ⟨pb,po,hQA,hpb,cp⟩:=ints_at (HIQ3.out.later _ HBZ.out) (k:=k) (by rw [HQN.out]; exact hlt);obtain rfl:=hQA;obtain ⟨zb,zo,hZA,hzb,z0,z1⟩:=size_cells HOK.out (HZ3.out.later _ HBZ.out) hkf;obtain rfl:=hZA;obtain ⟨xb,xo,hXA,hxb,x0,x1⟩:=spns_at (HX3.out.later _ HBZ.out) hlt;obtain rfl:=hXA;have hsuc : needTo f p (i : Int) (k + 1) = if p.pl k ≠ -1 ∧ meetB (spanOf f p k) ⟨i,i⟩ = true then needTo f p (i : Int) k + areaOf f k else needTo f p (i : Int) k:=rfl;obtain ⟨pk,hpk⟩ : ∃ v,p.pl k = v:=⟨_,rfl⟩;obtain ⟨ak,hak⟩ : ∃ a,areaOf f k = a:=⟨_,rfl⟩;obtain ⟨ne,hnee⟩ : ∃ a,needTo f p (i : Int) k = a:=⟨_,rfl⟩;obtain ⟨sk,hsk⟩ : ∃ s,spanOf f p k = s:=⟨_,rfl⟩;obtain ⟨mt,hmt⟩ : ∃ b,meetB sk ⟨i,i⟩ = b:=⟨_,rfl⟩;obtain ⟨sw,hsw⟩ : ∃ a,(frSize f k).W = a:=⟨_,rfl⟩;obtain ⟨sh,hsh⟩ : ∃ a,(frSize f k).H = a:=⟨_,rfl⟩;have hab:=area_bd HOK.out hkf;rw [show p.Places.getD k 0 = p.pl k from rfl,hpk] at cp;rw [hpk,hak,hnee,hsk,hmt] at hsuc;rw [hak] at hab;rw [hnee] at hne;rw [hsk] at x0 x1;rw [hsw] at z0;rw [hsh] at z1;rw [hnee];have HAR:=hide (area_is (W:=sw) (H:=sh) (a:=ak) (by rw [← hsw,← hsh,← hak]; rfl) (by omega));have HME:=hide (meet_is (a:=sk) (b:=⟨i,i⟩) hmt);have hwr : IntKind.i64.wrap (ne + ak) = ne + ak:=IntWalk.i64_in _ (by omega);have HKZ:=hide (show Keeps wr (fun w'=>w'.cell? ⟨zb,zo + k * 2,none⟩ = some (.int .i64 sw) ∧ w'.cell? ⟨zb,zo + k * 2 + 1,none⟩ = some (.int .i64 sh)) from ⟨⟨z0,z1⟩,fun _ hb=>⟨keepC hb z0,keepC hb z1⟩⟩);clear hak hnee hsk hmt hsw hsh hpk;by_cases hm1 : pk = -1
     ·have HSUC:=hide (show needTo f p (i : Int) (k + 1) = ne from by rw [hsuc,if_neg (fun h=>h.1 hm1)])
      clear hsuc;subst hm1;go_wp2_with fail;go_roundw
      case rel=>exact ⟨k + 1,by omega,by go_num,by rw [HSUC.out],HBZ⟩
      case measure=>simp [intOf]; omega
     ·have hb1 : (pk == -1) = false:=by simpa using hm1
      cases mt with
      | false =>
        have HSUC:=hide (show needTo f p (i : Int) (k + 1) = ne from by rw [hsuc,if_neg (fun h=>by cases h.2)]);clear hsuc;go_wp2_with (go_at_call 63; refine ((unhide HME) _).mono ?_; rintro e w5 ⟨rfl,hE5⟩; have HB5:=hide (HBZ.out.trans (hE5.mono HBZ.out.size)); clear hE5)
        all_goals try (exfalso; omega)
        go_roundw
        case rel=>exact ⟨k + 1,by omega,by go_num,by rw [HSUC.out],HB5⟩
        case measure=>simp [intOf]; omega
      | true =>
        have HSUC:=hide (show needTo f p (i : Int) (k + 1) = ne + ak from by rw [hsuc,if_pos ⟨hm1,rfl⟩]);clear hsuc
        go_wp2_with (first
         | (go_at_call 63; refine ((unhide HME) _).mono ?_; rintro e w5 ⟨rfl,hE5⟩; have HB5:=hide (HBZ.out.trans (hE5.mono HBZ.out.size)); obtain ⟨z0',z1'⟩:=HKZ.out.later _ hE5; clear hE5)
         | (go_at_call 62; refine ((unhide HAR) _).mono ?_; rintro e w6 ⟨rfl,hE6⟩; have HB6:=hide (HB5.out.trans (hE6.mono HB5.out.size)); clear hE6))
        all_goals try (exfalso; omega)
        go_roundw
        case rel=>exact ⟨k + 1,by omega,by go_num,by rw [HSUC.out],HB6⟩
        case measure=>simp [intOf]; omega
    ·obtain rfl : k = n:=by omega
     obtain ⟨ne,hnee⟩ : ∃ a,needTo f p (i : Int) k = a:=⟨_,rfl⟩;have HSUF:=hide (show floorTo f p (i + 1) = max fl ne from by rw [HSU.out,hnee]);rw [hnee] at hne;rw [hnee];clear hnee;go_wp2_with fail;go_roundw
     case rel=>exact ⟨i + 1,by omega,by go_num,by rw [HSUF.out]; congr 1; (first | rfl | omega),HBZ⟩
     case measure=>simp [intOf]; omega
  ·obtain rfl : i = on:=by omega
   go_wp2_with fail;go_ret;exact ⟨ret_int (by unfold floorOf; rw [HON.out,HFL.out]),HB3.out.trans (HBW.out.mono HB3.out.size)⟩
end Go.Proofs.Ytibpmogmeoappab
namespace Go.Proofs.Ytibpmogmeoappab
open Go.RowKit
def RetSpE (w : World) (L : List Spn) (z : Int) (e : Ending) (w' : World) : Prop :=
 ∃ (A : Option Addr) (n c : Nat),e = .returned (.tuple #[.slice A n c,.int .i64 z]) ∧ L.length = n ∧ Spns w' A L ∧ Below w.heap.size w w'
theorem spansAns_no {f : Frm} {p : Pln} (h : planErr f p ≠ 0) : spansAns f p = []:=if_neg h
theorem planSpans_any (W H S O : Int) (PA : Option Addr) (n c : Nat) (ps : List Pas) (OA : Option Addr) (on oc : Nat) (QA : Option Addr) (qn qc : Nat) (p : Pln) (w : World) (hn : ps.length = n) (hP : Passes w PA ps)
 (hO : Ints w OA p.Order) (hon : p.Order.length = on) (hol : on ≤ 9223372036854775807) (hQ : Ints w QA p.Places) (hqn : p.Places.length = qn) (hql : qn ≤ 9223372036854775807) :
 Calls Try.prog 17 #[.agg #[.int .i64 W,.int .i64 H,.int .i64 S,.int .i64 O,.slice PA n c],.agg #[.slice OA on oc,.slice QA qn qc]] w (RetSpE w (spansAns ⟨W,H,S,O,ps⟩ p) (planErr ⟨W,H,S,O,ps⟩ p)):=by
 have hb:=((Below.refl w.heap.size w).alloc (Nat.le_refl _) (.cells #[.int .i64 W,.int .i64 H,.int .i64 S,.int .i64 O,.slice PA n c] 24)).alloc (by simp) (.cells #[.slice OA on oc,.slice QA qn qc] 27);have hbx:=(show FrmBox (w.alloc (.cells #[.int .i64 W,.int .i64 H,.int .i64 S,.int .i64 O,.slice PA n c] 24)) w.heap.size W H S O PA n c from Blk.new w 24 (frmCells W H S O PA n c)).alloc (.cells #[.slice OA on oc,.slice QA qn qc] 27);have hpx : Blk ((w.alloc (.cells #[.int .i64 W,.int .i64 H,.int .i64 S,.int .i64 O,.slice PA n c] 24)).alloc (.cells #[.slice OA on oc,.slice QA qn qc] 27)) (w.heap.size + 1) 27 [.slice OA on oc,.slice QA qn qc]:=Blk.newE (by simp);have hbg:=begin_any W H S O PA n c ps OA on oc QA qn qc p _ hn (hP.keep hb) (hO.keep hb) hon hol (hQ.keep hb) hqn hql;have hio:=hO.keep hb;have hiq:=hQ.keep hb;obtain ⟨f,hf⟩ : ∃ f : Frm,f = ⟨W,H,S,O,ps⟩:=⟨_,rfl⟩;rw [← hf] at hbg ⊢;obtain ⟨w1,hw1⟩ : ∃ w1,(w.alloc (.cells #[.int .i64 W,.int .i64 H,.int .i64 S,.int .i64 O,.slice PA n c] 24)).alloc (.cells #[.slice OA on oc,.slice QA qn qc] 27) = w1:=⟨_,rfl⟩;rw [hw1] at hb hbx hpx hbg hio hiq;have HB:=hide hb;have HPX:=hide (Keeps.blk hpx);have HIO:=hide (Keeps.ints hio);have HIQ:=hide (Keeps.ints hiq);have HBG:=hide hbg;have HON:=hide hon;have HQN:=hide hqn;obtain ⟨x,q0,q1,q2,q3,q4⟩:=FrmBox.cells (show FrmBox _ _ W H S O PA n c from hbx);obtain ⟨y,r0,r1⟩:=plan_box hpx;clear hn hP hO hQ hbx hpx hb hio hiq hbg hf hon hqn;go_enter Try.func17,Try.ntmps17
 go_wp2_with fail;refine (unhide HBG).mono ?_;rintro e w2 ⟨hE2,⟨hne,rfl⟩ | ⟨hz,g,⟨hni,rfl⟩ | ⟨hin,rfl,hLk⟩⟩⟩
 ·have HB2:=hide (HB.out.trans (hE2.mono HB.out.size))
  have hpe:=planErr_frm (p:=p) hne;have HSA:=hide (spansAns_no (f:=f) (p:=p) (by rw [hpe]; exact hne));obtain ⟨z,hz⟩ : ∃ z,frErr f = z:=⟨_,rfl⟩;rw [hz] at hpe hne ⊢;have HPE:=hide hpe;have hz2 : (z == 0) = false:=by simpa using hne
  clear hE2 hne hz hpe hw1 HBG x q0 q1 q2 q3 q4 y r0 r1;go_wp2_with fail;go_ret2;rw [HSA.out,HPE.out];exact ⟨none,0,0,rfl,rfl,Cells.nil _ _,HB2.out⟩
 ·have HB2:=hide (HB.out.trans (hE2.mono HB.out.size))
  have HPE:=hide (planErr_form hz hni);have HSA:=hide (spansAns_no (f:=f) (p:=p) (by rw [HPE.out]; omega));clear hE2 hz hni hw1 HBG x q0 q1 q2 q3 q4 y r0 r1;go_wp2_with fail;go_ret2;rw [HSA.out,HPE.out];exact ⟨none,0,0,rfl,rfl,Cells.nil _ _,HB2.out⟩
 ·have HB2:=hide (HB.out.trans (hE2.mono HB.out.size))
  have HPE:=hide (planErr_ok hz hin);have HSA:=hide (show spansAns f p = spansTo f p f.P.length from if_pos HPE.out);obtain ⟨la,KA,kn,kc,SA,sc,RA,rn,rc,mb,XA,xc,hLB,-,hXA⟩:=hLk;obtain ⟨v,v0,v1,v2,v3,v4,v5,v6,v7⟩:=look_at hLB;have HXA:=hide hXA;clear hE2 hz hin hLB hXA hw1 HBG x q0 q1 q2 q3 q4 y r0 r1;go_wp2_with fail;go_ret2;rw [HSA.out,HPE.out];exact ⟨XA,f.P.length,xc,rfl,by simp [spansTo],HXA.out,HB2.out⟩
theorem peakOrd_bd {f : Frm} {p : Pln} (hf : FrmOk f) (h : InOrder f p) : ∀ m,m ≤ p.Order.length → 0 ≤ peakOrd f p m ∧ peakOrd f p m ≤ 4352
 | 0,_=>by simp [peakOrd]
 | m + 1, hm => by
   have h1:=peakOrd_bd hf h m (by omega);obtain ⟨k,hk,hkf,h2,h3⟩:=ord_in h (i:=m) (by omega);have h4:=area_bd hf hkf;simp only [peakOrd];rw [hk,Int.toNat_natCast];omega
theorem needOrd_bd {f : Frm} {p : Pln} (hf : FrmOk f) (h : InOrder f p) (i : Int) : ∀ m,m ≤ p.Order.length → 0 ≤ needOrd f p i m ∧ needOrd f p i m ≤ 256 * (m : Int)
 | 0,_=>by simp [needOrd]
 | m + 1, hm => by
   have h1:=needOrd_bd hf h i m (by omega);obtain ⟨k,hk,hkf,h2,h3⟩:=ord_in h (i:=m) (by omega);have h4:=area_bd hf hkf;simp only [needOrd];rw [hk,Int.toNat_natCast];split <;> omega
theorem planPeak_any (W H S O : Int) (PA : Option Addr) (n c : Nat) (ps : List Pas) (OA : Option Addr) (on oc : Nat) (QA : Option Addr) (qn qc : Nat) (p : Pln) (w : World) (hn : ps.length = n) (hP : Passes w PA ps)
 (hO : Ints w OA p.Order) (hon : p.Order.length = on) (hol : on ≤ 9223372036854775807) (hQ : Ints w QA p.Places) (hqn : p.Places.length = qn) (hql : qn ≤ 9223372036854775807) :
 Calls Try.prog 18 #[.agg #[.int .i64 W,.int .i64 H,.int .i64 S,.int .i64 O,.slice PA n c],.agg #[.slice OA on oc,.slice QA qn qc]] w (RetIE w (peakAns ⟨W,H,S,O,ps⟩ p) (planErr ⟨W,H,S,O,ps⟩ p)):=by
 have hb:=((Below.refl w.heap.size w).alloc (Nat.le_refl _) (.cells #[.int .i64 W,.int .i64 H,.int .i64 S,.int .i64 O,.slice PA n c] 24)).alloc (by simp) (.cells #[.slice OA on oc,.slice QA qn qc] 27);have hbx:=(show FrmBox (w.alloc (.cells #[.int .i64 W,.int .i64 H,.int .i64 S,.int .i64 O,.slice PA n c] 24)) w.heap.size W H S O PA n c from Blk.new w 24 (frmCells W H S O PA n c)).alloc (.cells #[.slice OA on oc,.slice QA qn qc] 27);have hpx : Blk ((w.alloc (.cells #[.int .i64 W,.int .i64 H,.int .i64 S,.int .i64 O,.slice PA n c] 24)).alloc (.cells #[.slice OA on oc,.slice QA qn qc] 27)) (w.heap.size + 1) 27 [.slice OA on oc,.slice QA qn qc]:=Blk.newE (by simp);have hbg:=begin_any W H S O PA n c ps OA on oc QA qn qc p _ hn (hP.keep hb) (hO.keep hb) hon hol (hQ.keep hb) hqn hql;have hio:=hO.keep hb;have hiq:=hQ.keep hb;obtain ⟨f,hf⟩ : ∃ f : Frm,f = ⟨W,H,S,O,ps⟩:=⟨_,rfl⟩;rw [← hf] at hbg ⊢;obtain ⟨w1,hw1⟩ : ∃ w1,(w.alloc (.cells #[.int .i64 W,.int .i64 H,.int .i64 S,.int .i64 O,.slice PA n c] 24)).alloc (.cells #[.slice OA on oc,.slice QA qn qc] 27) = w1:=⟨_,rfl⟩;rw [hw1] at hb hbx hpx hbg hio hiq;have HB:=hide hb;have HPX:=hide (Keeps.blk hpx);have HIO:=hide (Keeps.ints hio);have HIQ:=hide (Keeps.ints hiq);have HBG:=hide hbg;have HON:=hide hon;have HQN:=hide hqn;obtain ⟨x,q0,q1,q2,q3,q4⟩:=FrmBox.cells (show FrmBox _ _ W H S O PA n c from hbx);obtain ⟨y,r0,r1⟩:=plan_box hpx;clear hn hP hO hQ hbx hpx hb hio hiq hbg hf hon hqn;go_enter Try.func18,Try.ntmps18
 go_wp2_with fail;refine (unhide HBG).mono ?_;rintro e w2 ⟨hE2,⟨hne,rfl⟩ | ⟨hz,g,⟨hni,rfl⟩ | ⟨hin,rfl,hLk⟩⟩⟩
 ·have HB2:=hide (HB.out.trans (hE2.mono HB.out.size))
  have hpe:=planErr_frm (p:=p) hne;have HSA:=hide (show peakAns f p = 0 from if_neg (by rw [hpe]; exact hne));obtain ⟨z,hz⟩ : ∃ z,frErr f = z:=⟨_,rfl⟩;rw [hz] at hpe hne ⊢;have HPE:=hide hpe;have hz2 : (z == 0) = false:=by simpa using hne
  clear hE2 hne hz hpe hw1 HBG x q0 q1 q2 q3 q4 y r0 r1;go_wp2_with fail;go_ret2;rw [HSA.out,HPE.out];exact ⟨rfl,HB2.out⟩
 ·have HB2:=hide (HB.out.trans (hE2.mono HB.out.size))
  have HPE:=hide (planErr_form hz hni);have HSA:=hide (show peakAns f p = 0 from if_neg (by rw [HPE.out]; omega));clear hE2 hz hni hw1 HBG x q0 q1 q2 q3 q4 y r0 r1;go_wp2_with fail;go_ret2;rw [HSA.out,HPE.out];exact ⟨rfl,HB2.out⟩
 ·have HB2:=hide (HB.out.trans (hE2.mono HB.out.size))
  have HOK:=hide (frErr_zero.1 hz);have HIN:=hide hin;have HPE:=hide (planErr_ok hz hin);have HSA:=hide (show peakAns f p = peakOf f p from if_pos HPE.out);have hpn:=hin.places;have hle:=hin.len;have h12:=HOK.out.many;obtain ⟨la,KA,kn,kc,SA,sc,RA,rn,rc,mb,XA,xc,hLB,hSA,-⟩:=hLk;obtain ⟨N,hN⟩ : ∃ N,f.P.length = N:=⟨_,rfl⟩;rw [hN] at hLB hSA hpn hle h12;have HNN:=hide hN;rw [HON.out] at hle;rw [HQN.out] at hpn;obtain rfl : qn = N:=hpn;have HLB:=hide (Keeps.blk hLB);have HSR:=hide (Keeps.ints hSA);have HPX2:=hide (HPX.out.move hE2);have HIO2:=hide (HIO.out.move hE2);have HIQ2:=hide (HIQ.out.move hE2);obtain ⟨y',r0',r1'⟩:=plan_box HPX2.out.now;clear hE2 hz hin hLB hSA hN hw1 HBG x q0 q1 q2 q3 q4 y r0 r1;go_wp2_with fail;clear y' r0' r1';go_loopw [8,10,23] (fun a _ s wr=>∃ i : Nat,i ≤ on ∧ s = .int .i64 i ∧ a = .int .i64 (peakOrd f p i) ∧ Hid (Below w2.heap.size w2 wr)) (fun _ _ s _=>on - (intOf s).toNat)
  case atStart=>exact ⟨0,Nat.zero_le _,rfl,rfl,hide (Below.refl _ _)⟩
  case round =>
   obtain ⟨i,hi,rfl,rfl,HBW⟩:=hrel;by_cases hil : i < on
   ·have hi0 : (0 : Int) ≤ (i : Int):=by omega
    have hi1 : (i : Int) < (on : Int):=by omega
    obtain ⟨m,hm,hmf,hp0,hp1⟩:=ord_in HIN.out (i:=i) (by rw [HON.out]; exact hil);obtain ⟨y,r0,r1⟩:=plan_box (HPX2.out.later _ HBW.out);obtain ⟨v,v0,v1,v2,v3,v4,v5,v6,v7⟩:=look_at (HLB.out.later _ HBW.out);obtain ⟨ob,oo,hOA,hob,co⟩:=ints_at (HIO2.out.later _ HBW.out) (k:=i) (by rw [HON.out]; exact hil);obtain rfl:=hOA;rw [show p.Order.getD i 0 = p.ord i from rfl,hm] at co;have hmq : m < qn:=by rw [← HNN.out]; exact hmf
    obtain ⟨pb,po,hQA,hpb,cp⟩:=ints_at (HIQ2.out.later _ HBW.out) (k:=m) (by rw [HQN.out]; exact hmq);obtain rfl:=hQA;rw [show p.Places.getD m 0 = p.pl m from rfl] at cp;obtain ⟨sb,so,hSB,hsb,cs⟩:=areas_at (HSR.out.later _ HBW.out) hmq;obtain rfl:=hSB;have hab:=area_bd HOK.out hmf;have hpk:=peakOrd_bd HOK.out HIN.out i (by rw [HON.out]; exact hi)
    have hsuc : peakOrd f p (i + 1) = max (peakOrd f p i) (p.pl m + areaOf f m):=by
     simp only [peakOrd];rw [hm,Int.toNat_natCast]
    obtain ⟨pm,hpm⟩ : ∃ v,p.pl m = v:=⟨_,rfl⟩;obtain ⟨am,ham⟩ : ∃ v,areaOf f m = v:=⟨_,rfl⟩;obtain ⟨pe,hpe⟩ : ∃ v,peakOrd f p i = v:=⟨_,rfl⟩;rw [hpm] at hp0 hp1 cp hsuc;rw [ham] at hab cs hsuc;rw [hpe] at hpk hsuc;rw [hpe];have HSU:=hide hsuc;have hwr : IntKind.i64.wrap (pm + am) = pm + am:=IntWalk.i64_in _ (by omega);have hm0 : (0 : Int) ≤ (m : Int):=by omega
    have hm1 : (m : Int) < (qn : Int):=by omega
    clear hm hmf hpm ham hpe hsuc;go_wp2_with fail;go_quiet (fail)
    go_wp2_with fail;refine ⟨⟨i + 1,by omega,by simp,by rw [HSU.out]; congr 1; (first | rfl | omega),hide (below_drewN HBW.out _)⟩,by simp [intOf]; omega⟩
   ·obtain rfl : i = on:=by omega
    have HPK:=hide (show peakOrd f p i = peakOf f p from by rw [← HON.out]; exact peak_ord HIN.out);go_wp2_with fail;go_ret2;rw [HSA.out,HPE.out];exact ⟨by rw [← HPK.out]; rfl,HB2.out.trans (HBW.out.mono HB2.out.size)⟩
theorem planFloor_any (W H S O : Int) (PA : Option Addr) (n c : Nat) (ps : List Pas) (OA : Option Addr) (on oc : Nat) (QA : Option Addr) (qn qc : Nat) (p : Pln) (w : World) (hn : ps.length = n) (hP : Passes w PA ps)
 (hO : Ints w OA p.Order) (hon : p.Order.length = on) (hol : on ≤ 9223372036854775807) (hQ : Ints w QA p.Places) (hqn : p.Places.length = qn) (hql : qn ≤ 9223372036854775807) :
 Calls Try.prog 19 #[.agg #[.int .i64 W,.int .i64 H,.int .i64 S,.int .i64 O,.slice PA n c],.agg #[.slice OA on oc,.slice QA qn qc]] w (RetIE w (floorAns ⟨W,H,S,O,ps⟩ p) (planErr ⟨W,H,S,O,ps⟩ p)):=by
 have hb:=((Below.refl w.heap.size w).alloc (Nat.le_refl _) (.cells #[.int .i64 W,.int .i64 H,.int .i64 S,.int .i64 O,.slice PA n c] 24)).alloc (by simp) (.cells #[.slice OA on oc,.slice QA qn qc] 27);have hbx:=(show FrmBox (w.alloc (.cells #[.int .i64 W,.int .i64 H,.int .i64 S,.int .i64 O,.slice PA n c] 24)) w.heap.size W H S O PA n c from Blk.new w 24 (frmCells W H S O PA n c)).alloc (.cells #[.slice OA on oc,.slice QA qn qc] 27);have hpx : Blk ((w.alloc (.cells #[.int .i64 W,.int .i64 H,.int .i64 S,.int .i64 O,.slice PA n c] 24)).alloc (.cells #[.slice OA on oc,.slice QA qn qc] 27)) (w.heap.size + 1) 27 [.slice OA on oc,.slice QA qn qc]:=Blk.newE (by simp);have hbg:=begin_any W H S O PA n c ps OA on oc QA qn qc p _ hn (hP.keep hb) (hO.keep hb) hon hol (hQ.keep hb) hqn hql;have hio:=hO.keep hb;have hiq:=hQ.keep hb;obtain ⟨f,hf⟩ : ∃ f : Frm,f = ⟨W,H,S,O,ps⟩:=⟨_,rfl⟩;rw [← hf] at hbg ⊢;obtain ⟨w1,hw1⟩ : ∃ w1,(w.alloc (.cells #[.int .i64 W,.int .i64 H,.int .i64 S,.int .i64 O,.slice PA n c] 24)).alloc (.cells #[.slice OA on oc,.slice QA qn qc] 27) = w1:=⟨_,rfl⟩;rw [hw1] at hb hbx hpx hbg hio hiq;have HB:=hide hb;have HPX:=hide (Keeps.blk hpx);have HIO:=hide (Keeps.ints hio);have HIQ:=hide (Keeps.ints hiq);have HBG:=hide hbg;have HON:=hide hon;have HQN:=hide hqn;obtain ⟨x,q0,q1,q2,q3,q4⟩:=FrmBox.cells (show FrmBox _ _ W H S O PA n c from hbx);obtain ⟨y,r0,r1⟩:=plan_box hpx;clear hn hP hO hQ hbx hpx hb hio hiq hbg hf hon hqn;go_enter Try.func19,Try.ntmps19
 go_wp2_with fail;refine (unhide HBG).mono ?_;rintro e w2 ⟨hE2,⟨hne,rfl⟩ | ⟨hz,g,⟨hni,rfl⟩ | ⟨hin,rfl,hLk⟩⟩⟩
 ·have HB2:=hide (HB.out.trans (hE2.mono HB.out.size))
  have hpe:=planErr_frm (p:=p) hne;have HSA:=hide (show floorAns f p = 0 from if_neg (by rw [hpe]; exact hne));obtain ⟨z,hz⟩ : ∃ z,frErr f = z:=⟨_,rfl⟩;rw [hz] at hpe hne ⊢;have HPE:=hide hpe;have hz2 : (z == 0) = false:=by simpa using hne
  clear hE2 hne hz hpe hw1 HBG x q0 q1 q2 q3 q4 y r0 r1;go_wp2_with fail;go_ret2;rw [HSA.out,HPE.out];exact ⟨rfl,HB2.out⟩
 ·have HB2:=hide (HB.out.trans (hE2.mono HB.out.size))
  have HPE:=hide (planErr_form hz hni);have HSA:=hide (show floorAns f p = 0 from if_neg (by rw [HPE.out]; omega));clear hE2 hz hni hw1 HBG x q0 q1 q2 q3 q4 y r0 r1;go_wp2_with fail;go_ret2;rw [HSA.out,HPE.out];exact ⟨rfl,HB2.out⟩
 ·have HB2:=hide (HB.out.trans (hE2.mono HB.out.size))
  have HOK:=hide (frErr_zero.1 hz);have HIN:=hide hin;have HPE:=hide (planErr_ok hz hin);have HSA:=hide (show floorAns f p = floorOf f p from if_pos HPE.out);have hle:=hin.len;have h12:=HOK.out.many;obtain ⟨la,KA,kn,kc,SA,sc,RA,rn,rc,mb,XA,xc,hLB,hSA,hXA⟩:=hLk;obtain ⟨N,hN⟩ : ∃ N,f.P.length = N:=⟨_,rfl⟩;rw [hN] at hLB hSA hXA hle h12;have HNN:=hide hN;rw [HON.out] at hle;have HLB:=hide (Keeps.blk hLB);have HSR:=hide (Keeps.ints hSA);have HXR:=hide (show Keeps w2 (fun W'=>Spns W' XA (spansTo f p N)) from ⟨hXA,fun _ hb=>Cells.keep hXA hb⟩);have HPX2:=hide (HPX.out.move hE2);have HIO2:=hide (HIO.out.move hE2);obtain ⟨y',r0',r1'⟩:=plan_box HPX2.out.now;clear hE2 hz hin hLB hSA hXA hN hw1 HBG x q0 q1 q2 q3 q4 y r0 r1;go_wp2_with fail;clear y' r0' r1';go_loop [8,9,10,12,25] (fun a _ _ _ s=>∃ i : Nat,i ≤ on ∧ s = .int .i64 i ∧ a = .int .i64 (floorTo f p i)) (fun _ _ _ _ s=>on - (intOf s).toNat)
  case atStart=>exact ⟨0,Nat.zero_le _,rfl,rfl⟩
  case round =>
   obtain ⟨i,hi,rfl,rfl⟩:=hrel;obtain ⟨y,r0,r1⟩:=plan_box HPX2.out.now;have hfl:=floorTo_bd HOK.out (p:=p) i
   have hsu : floorTo f p (i + 1) = max (floorTo f p i) (needOrd f p (i : Int) on):=by
    rw [← HON.out,need_ord HIN.out];rfl
   obtain ⟨fl,hfle⟩ : ∃ a,floorTo f p i = a:=⟨_,rfl⟩;rw [hfle] at hfl hsu;rw [hfle];have HSU:=hide hsu;have HFL:=hide hfle;clear hfle hsu;by_cases hil : i < on
   ·have hi0 : (0 : Int) ≤ (i : Int):=by omega
    have hi1 : (i : Int) < (on : Int):=by omega
    go_wp2_with fail;clear y r0 r1;go_loop [10,12,31] (fun b _ s=>∃ j : Nat,j ≤ on ∧ s = .int .i64 j ∧ b = .int .i64 (needOrd f p (i : Int) j)) (fun _ _ s=>on - (intOf s).toNat)
    case atStart=>exact ⟨0,Nat.zero_le _,rfl,rfl⟩
    case round =>
     obtain ⟨j,hj,rfl,rfl⟩:=hrel;have hne:=needOrd_bd HOK.out HIN.out (i : Int) j (by rw [HON.out]; exact hj);by_cases hjl : j < on
     ·have hj0 : (0 : Int) ≤ (j : Int):=by omega
      have hj1 : (j : Int) < (on : Int):=by omega
      obtain ⟨m,hm,hmf,hp0,hp1⟩:=ord_in HIN.out (i:=j) (by rw [HON.out]; exact hjl);obtain ⟨v,v0,v1,v2,v3,v4,v5,v6,v7⟩:=look_at HLB.out.now;obtain ⟨ob,oo,hOA,hob,co⟩:=ints_at HIO2.out.now (k:=j) (by rw [HON.out]; exact hjl);obtain rfl:=hOA;rw [show p.Order.getD j 0 = p.ord j from rfl,hm] at co;have hmq : m < N:=by rw [← HNN.out]; exact hmf
      obtain ⟨sb,so,hSB,hsb,cs⟩:=areas_at HSR.out.now hmq;obtain rfl:=hSB;obtain ⟨xb,xo,hXB,hxb,x0,x1⟩:=spns_at HXR.out.now hmq;obtain rfl:=hXB;have hab:=area_bd HOK.out hmf
      have hsuc : needOrd f p (i : Int) (j + 1) = if (spanOf f p m).First ≤ (i : Int) ∧ (i : Int) ≤ (spanOf f p m).Last then needOrd f p (i : Int) j + areaOf f m else needOrd f p (i : Int) j:=by
       simp only [needOrd];rw [hm,Int.toNat_natCast]
      obtain ⟨am,ham⟩ : ∃ v,areaOf f m = v:=⟨_,rfl⟩;obtain ⟨ne,hnee⟩ : ∃ v,needOrd f p (i : Int) j = v:=⟨_,rfl⟩;obtain ⟨sf,hsf⟩ : ∃ v,(spanOf f p m).First = v:=⟨_,rfl⟩;obtain ⟨sl,hsl⟩ : ∃ v,(spanOf f p m).Last = v:=⟨_,rfl⟩;rw [ham,hnee,hsf,hsl] at hsuc;rw [ham] at hab cs;rw [hsf] at x0;rw [hsl] at x1;rw [hnee] at hne;rw [hnee];have hwr : IntKind.i64.wrap (ne + am) = ne + am:=IntWalk.i64_in _ (by omega);have hm0 : (0 : Int) ≤ (m : Int):=by omega
      have hm1 : (m : Int) < (N : Int):=by omega
      clear hm hmf ham hnee hsf hsl hp0 hp1;by_cases c1 : sf ≤ (i : Int)
      ·by_cases c2 : (i : Int) ≤ sl
       ·have HSUC:=hide (show needOrd f p (i : Int) (j + 1) = ne + am from by rw [hsuc,if_pos ⟨c1,c2⟩])
        clear hsuc;go_wp2_with fail;go_round
        case rel=>exact ⟨j + 1,by omega,by go_num,by rw [HSUC.out]⟩
        case measure=>simp [intOf]; omega
       ·have HSUC:=hide (show needOrd f p (i : Int) (j + 1) = ne from by rw [hsuc,if_neg (fun h=>c2 h.2)])
        clear hsuc;go_wp2_with fail;go_round
        case rel=>exact ⟨j + 1,by omega,by go_num,by rw [HSUC.out]⟩
        case measure=>simp [intOf]; omega
      ·have HSUC:=hide (show needOrd f p (i : Int) (j + 1) = ne from by rw [hsuc,if_neg (fun h=>c1 h.1)])
       clear hsuc;go_wp2_with fail;go_round
       case rel=>exact ⟨j + 1,by omega,by go_num,by rw [HSUC.out]⟩
       case measure=>simp [intOf]; omega
     ·obtain rfl : j = on:=by omega
      obtain ⟨ne,hnee⟩ : ∃ a,needOrd f p (i : Int) j = a:=⟨_,rfl⟩;have HSUF:=hide (show floorTo f p (i + 1) = max fl ne from by rw [HSU.out,hnee]);rw [hnee] at hne;rw [hnee];clear hnee;go_wp2_with fail;go_round
      case rel=>exact ⟨i + 1,by omega,by go_num,by rw [HSUF.out]; congr 1; (first | rfl | omega)⟩
      case measure=>simp [intOf]; omega
   ·obtain rfl : i = on:=by omega
    have HFF:=hide (show fl = floorOf f p from by unfold floorOf; rw [← HFL.out,HON.out]);go_wp2_with fail;go_ret2;rw [HSA.out,HPE.out];exact ⟨by rw [← HFF.out]; rfl,HB2.out⟩
end Go.Proofs.Ytibpmogmeoappab
