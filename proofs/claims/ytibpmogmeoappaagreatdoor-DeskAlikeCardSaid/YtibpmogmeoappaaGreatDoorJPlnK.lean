/- Walk: plan.Check. -/
import Derived.Test.YtibpmogmeoappaaGreatDoorJPlnE
import Derived.Test.YtibpmogmeoappaaGreatDoorJPlnH
set_option maxRecDepth 100000
set_option maxHeartbeats 8000000
namespace Go.Proofs.YtibpmogmeoappaaGreatDoor
open Go.RowKit
theorem begin_any (W H S O : Int) (PA : Option Addr) (n c : Nat) (ps : List Pas) (OA : Option Addr) (on oc : Nat) (QA : Option Addr) (qn qc : Nat) (p : Pln) (w : World) (hn : ps.length = n) (hP : Passes w PA ps)
 (hO : Ints w OA p.Order) (hon : p.Order.length = on) (hol : on ≤ 9223372036854775807) (hQ : Ints w QA p.Places) (hqn : p.Places.length = qn) (hql : qn ≤ 9223372036854775807) :
 Calls Tryz.prog 47 #[.agg #[.int .i64 W, .int .i64 H, .int .i64 S, .int .i64 O, .slice PA n c], .agg #[.slice OA on oc, .slice QA qn qc]] w (RetLook w ⟨W, H, S, O, ps⟩ p OA on oc QA qn qc) := by
 by_cases he : frErr ⟨W, H, S, O, ps⟩ = 0
 ·exact begin_ok W H S O PA n c ps OA on oc QA qn qc p w hn hP hO hon hol hQ hqn hql (frErr_zero.1 he)
 ·exact begin_no W H S O PA n c ps OA on oc QA qn qc p w hn hP he
theorem planErr_frm {f : Frm} {p : Pln} (h : frErr f ≠ 0) : planErr f p = frErr f := by unfold planErr; rw [if_pos h]
theorem planErr_form {f : Frm} {p : Pln} (h : frErr f = 0) (hi : ¬ InOrder f p) : planErr f p = 1 := by unfold planErr; rw [if_neg (fun e => e h), if_neg hi]
theorem planErr_ok {f : Frm} {p : Pln} (h : frErr f = 0) (hi : InOrder f p) : planErr f p = 0 := by unfold planErr; rw [if_neg (fun e => e h), if_pos hi]
theorem planCheck_any (W H S O : Int) (PA : Option Addr) (n c : Nat) (ps : List Pas) (OA : Option Addr) (on oc : Nat) (QA : Option Addr) (qn qc : Nat) (p : Pln) (room : Int) (w : World) (hn : ps.length = n) (hP : Passes w PA ps)
 (hO : Ints w OA p.Order) (hon : p.Order.length = on) (hol : on ≤ 9223372036854775807) (hoc : on ≤ oc) (hQ : Ints w QA p.Places) (hqn : p.Places.length = qn) (hql : qn ≤ 9223372036854775807) :
 Calls Tryz.prog 79 #[.agg #[.int .i64 W, .int .i64 H, .int .i64 S, .int .i64 O, .slice PA n c], .agg #[.slice OA on oc, .slice QA qn qc], .int .i64 room] w (RetE w (pckErr ⟨W, H, S, O, ps⟩ p room)) := by
 have hb := ((Below.refl w.heap.size w).alloc (Nat.le_refl _) (.cells #[.int .i64 W, .int .i64 H, .int .i64 S, .int .i64 O, .slice PA n c] 35)).alloc (by simp) (.cells #[.slice OA on oc, .slice QA qn qc] 56);have hbx := (show FrmBox (w.alloc (.cells #[.int .i64 W, .int .i64 H, .int .i64 S, .int .i64 O, .slice PA n c] 35)) w.heap.size W H S O PA n c from Blk.new w 35 (frmCells W H S O PA n c)).alloc (.cells #[.slice OA on oc, .slice QA qn qc] 56);have hpx : Blk ((w.alloc (.cells #[.int .i64 W, .int .i64 H, .int .i64 S, .int .i64 O, .slice PA n c] 35)).alloc (.cells #[.slice OA on oc, .slice QA qn qc] 56)) (w.heap.size + 1) 56 [.slice OA on oc, .slice QA qn qc] := Blk.newE (by simp);have hbg := begin_any W H S O PA n c ps OA on oc QA qn qc p _ hn (hP.keep hb) (hO.keep hb) hon hol (hQ.keep hb) hqn hql;have hio := hO.keep hb;have hiq := hQ.keep hb;obtain ⟨f, hf⟩ : ∃ f : Frm, f = ⟨W, H, S, O, ps⟩ := ⟨_, rfl⟩;rw [← hf] at hbg ⊢;obtain ⟨w1, hw1⟩ : ∃ w1, (w.alloc (.cells #[.int .i64 W, .int .i64 H, .int .i64 S, .int .i64 O, .slice PA n c] 35)).alloc (.cells #[.slice OA on oc, .slice QA qn qc] 56) = w1 := ⟨_, rfl⟩;rw [hw1] at hb hbx hpx hbg hio hiq;have HB := hide hb;have HPX := hide (Keeps.blk hpx);have HIO := hide (Keeps.ints hio);have HIQ := hide (Keeps.ints hiq);have HBG := hide hbg;have HON := hide hon;have HQN := hide hqn;obtain ⟨x, q0, q1, q2, q3, q4⟩ := FrmBox.cells (show FrmBox _ _ W H S O PA n c from hbx);obtain ⟨y, r0, r1⟩ := plan_box hpx;clear hn hP hO hQ hbx hpx hb hio hiq hbg hf hon hqn;go_enter Tryz.func79, Tryz.ntmps79
 go_wp2_with fail;refine (unhide HBG).mono ?_;rintro e w2 ⟨hE2, ⟨hne, rfl⟩ | ⟨hz, g, ⟨hni, rfl⟩ | ⟨hin, rfl, hLk⟩⟩⟩
 ·have HB2 := hide (HB.out.trans (hE2.mono HB.out.size))
  obtain ⟨z, hz⟩ : ∃ z, frErr f = z := ⟨_, rfl⟩;have HR := hide (show pckErr f p room = z from by unfold pckErr; rw [if_pos hne]; exact hz);rw [hz];clear hE2 hne hz hw1 HBG x q0 q1 q2 q3 q4 y r0 r1;go_wp2_with fail;all_goals try (exfalso; omega)
  go_ret;exact ⟨ret_int HR.out.symm, HB2.out⟩
 ·have HB2 := hide (HB.out.trans (hE2.mono HB.out.size))
  have HZ := hide hz;have HNI := hide hni;clear hE2 hz hni hw1 HBG x q0 q1 q2 q3 q4 y r0 r1;by_cases h1 : room < 0
  ·have HR := hide (show pckErr f p room = 3 from by unfold pckErr; rw [if_neg (fun e => e HZ.out), if_pos (by omega)])
   go_wp2_with fail;all_goals try (exfalso; omega)
   go_ret;exact ⟨ret_int HR.out.symm, HB2.out⟩
  ·by_cases h2 : 4096 < room
   ·have HR := hide (show pckErr f p room = 3 from by unfold pckErr; rw [if_neg (fun e => e HZ.out), if_pos (by omega)])
    go_wp2_with fail;all_goals try (exfalso; omega)
    go_ret;exact ⟨ret_int HR.out.symm, HB2.out⟩
   ·have HR := hide (show pckErr f p room = 1 from by unfold pckErr; rw [if_neg (fun e => e HZ.out), if_neg (by omega), if_pos HNI.out])
    go_wp2_with fail;all_goals try (exfalso; omega)
    go_ret;exact ⟨ret_int HR.out.symm, HB2.out⟩
 ·have HB2 := hide (HB.out.trans (hE2.mono HB.out.size))
  have HZ := hide hz;have HIN := hide hin;have HIO2 := hide (HIO.out.later _ hE2);have HIQ2 := hide (HIQ.out.later _ hE2);have HLK := hide hLk;clear hE2 hz hin hLk hw1 HBG x q0 q1 q2 q3 q4 y r0 r1;by_cases h1 : room < 0
  ·have HR := hide (show pckErr f p room = 3 from by unfold pckErr; rw [if_neg (fun e => e HZ.out), if_pos (by omega)])
   go_wp2_with fail;all_goals try (exfalso; omega)
   go_ret;exact ⟨ret_int HR.out.symm, HB2.out⟩
  ·by_cases h2 : 4096 < room
   ·have HR := hide (show pckErr f p room = 3 from by unfold pckErr; rw [if_neg (fun e => e HZ.out), if_pos (by omega)])
    go_wp2_with fail;all_goals try (exfalso; omega)
    go_ret;exact ⟨ret_int HR.out.symm, HB2.out⟩
   ·have HR := hide (show pckErr f p room = if Fits f p room then 0 else 7 from pckErr_of (frErr_zero.1 HZ.out) (by omega) HIN.out)
    have HFT := hide (fitsL_any g f p OA on oc QA qn qc room w2 (frErr_zero.1 HZ.out) HIN.out HLK.out HIO2.out HON.out hoc HIQ2.out HQN.out (by omega));go_wp2_with fail;all_goals try (exfalso; omega)
    refine (unhide HFT).mono ?_;rintro e w3 ⟨b, rfl, hb, hE3⟩;have HB3 := hide (HB2.out.trans (hE3.mono HB2.out.size));have HBB := hide hb;clear hb hE3 HFT
    cases b with
    | true =>
      go_wp2_with fail;all_goals try (exfalso; omega)
      go_ret;exact ⟨ret_int (by rw [HR.out, if_pos (by first | exact HBB.out.1 rfl | exact HBB.out.1 trivial)]), HB3.out⟩
    | false =>
      go_wp2_with fail;all_goals try (exfalso; omega)
      go_ret;exact ⟨ret_int (by rw [HR.out, if_neg (fun h => by have := HBB.out.2 h; cases this)]), HB3.out⟩
end Go.Proofs.YtibpmogmeoappaaGreatDoor
namespace Go.Proofs.YtibpmogmeoappaaGreatDoor
open Go.RowKit
theorem peakTo_bd {f : Frm} {p : Pln} (hf : FrmOk f) (h : InOrder f p) : ∀ k, k ≤ f.P.length → 0 ≤ peakTo f p k ∧ peakTo f p k ≤ 4352
 | 0, _ => by simp [peakTo]
 | k + 1, hk => by
   have h1 := peakTo_bd hf h k (by omega);have h2 := place_of h (k := k) (by omega);have h3 := area_bd hf (k := k) (by omega);simp only [peakTo];split <;> omega
theorem peakOf_ref (W H S O : Int) (PA : Option Addr) (n c : Nat) (ps : List Pas) (OA : Option Addr) (on oc : Nat) (QA : Option Addr) (qn qc : Nat) (p : Pln) (w : World) (hn : ps.length = n) (hP : Passes w PA ps)
 (hO : Ints w OA p.Order) (hon : p.Order.length = on) (hol : on ≤ 9223372036854775807) (hQ : Ints w QA p.Places) (hqn : p.Places.length = qn) (hok : FrmOk ⟨W, H, S, O, ps⟩) (hin : InOrder ⟨W, H, S, O, ps⟩ p) :
 Calls Tryz.prog 25 #[.agg #[.int .i64 W, .int .i64 H, .int .i64 S, .int .i64 O, .slice PA n c], .agg #[.slice OA on oc, .slice QA qn qc]] w (RetE w (peakOf ⟨W, H, S, O, ps⟩ p)) := by
 have hb := ((Below.refl w.heap.size w).alloc (Nat.le_refl _) (.cells #[.int .i64 W, .int .i64 H, .int .i64 S, .int .i64 O, .slice PA n c] 35)).alloc (by simp) (.cells #[.slice OA on oc, .slice QA qn qc] 56);have hbx := (show FrmBox (w.alloc (.cells #[.int .i64 W, .int .i64 H, .int .i64 S, .int .i64 O, .slice PA n c] 35)) w.heap.size W H S O PA n c from Blk.new w 35 (frmCells W H S O PA n c)).alloc (.cells #[.slice OA on oc, .slice QA qn qc] 56);have hpx : Blk ((w.alloc (.cells #[.int .i64 W, .int .i64 H, .int .i64 S, .int .i64 O, .slice PA n c] 35)).alloc (.cells #[.slice OA on oc, .slice QA qn qc] 56)) (w.heap.size + 1) 56 [.slice OA on oc, .slice QA qn qc] := Blk.newE (by simp);have h12 := hok.many;have hpl := hin.places;have hle := hin.len;have hCF := fun (W0 : World) (h1 : Passes W0 PA ps) => checkFrame_ref W H S O PA n c ps W0 hn h1 (by have := hok.many.2; simp only at this; omega);have hSP := fun (W0 : World) (h1 : Passes W0 PA ps) (h2 : Ints W0 OA p.Order) => spansOf_ref W H S O PA n c ps OA on oc QA qn qc p W0 hn h1 h2 hon hol hok hin;have HP := hide (Keeps.passes (hP.keep hb));have hio := hO.keep hb;have hiq := hQ.keep hb;obtain ⟨f, hf⟩ : ∃ f : Frm, f = ⟨W, H, S, O, ps⟩ := ⟨_, rfl⟩;have HFN := hide (show f.P.length = n from by rw [hf]; exact hn);rw [← hf] at hok hin hCF hSP h12 hpl hle ⊢;rw [HFN.out] at h12 hpl hle;rw [hon] at hle;rw [hqn] at hpl;obtain rfl : n = qn := hpl.symm;rw [frErr_zero.2 hok] at hCF;obtain ⟨w1, hw1⟩ : ∃ w1, (w.alloc (.cells #[.int .i64 W, .int .i64 H, .int .i64 S, .int .i64 O, .slice PA n c] 35)).alloc (.cells #[.slice OA on oc, .slice QA n qc] 56) = w1 := ⟨_, rfl⟩;rw [hw1] at hb hbx hpx HP hio hiq;have HB := hide hb;have HBX := hide (Keeps.blk hbx);have HPX := hide (Keeps.blk hpx);have HIO := hide (Keeps.ints hio);have HIQ := hide (Keeps.ints hiq);have HCF := hide hCF;have HSP := hide hSP;have HOK := hide hok;have HIN := hide hin;have HON := hide hon;have HQN := hide hqn;obtain ⟨x, q0, q1, q2, q3, q4⟩ := FrmBox.cells (show FrmBox _ _ W H S O PA n c from hbx);obtain ⟨y, r0, r1⟩ := plan_box hpx;clear hn hP hO hQ hbx hpx hb hio hiq hCF hSP hok hf hon hqn hin hpl;go_enter Tryz.func25, Tryz.ntmps25
 go_wp2_with fail;refine ((unhide HCF) _ HP.out.now).mono ?_;rintro e w2 ⟨ZA, zn, zc, rfl, hzn, hZ, hE2⟩;obtain rfl : n = zn := by rw [← hzn, sizes_len HOK.out]; exact HFN.out.symm
 have HB2 := hide (HB.out.trans (hE2.mono HB.out.size));have HBX2 := hide (HBX.out.move hE2);have HPX2 := hide (HPX.out.move hE2);have HIO2 := hide (HIO.out.move hE2);have HIQ2 := hide (HIQ.out.move hE2);have HP2 := hide (HP.out.move hE2);have HZ2 := hide (show Keeps w2 (fun W' => Sizes W' ZA (frSizes f)) from ⟨hZ, fun _ hb => Cells.keep hZ hb⟩);clear hw1 hE2 hZ hzn x q0 q1 q2 q3 q4 y r0 r1 HB HBX HPX HIO HIQ HP HCF;go_wp2_with fail;go_loopw [7, 8] (fun a s wr => ∃ k : Nat, k ≤ n ∧ s = .int .i64 k ∧ a = .int .i64 (peakTo f p k) ∧ Hid (Below w2.heap.size w2 wr)) (fun _ s _ => n - (intOf s).toNat)
 case atStart => exact ⟨0, Nat.zero_le _, rfl, rfl, hide (Below.refl _ _)⟩
 case round =>
  obtain ⟨k, hk, rfl, rfl, HBW⟩ := hrel;obtain ⟨y, r0, r1⟩ := plan_box (HPX2.out.later _ HBW.out);by_cases hlt : k < n
  ·have hk0 : (0 : Int) ≤ (k : Int) := by omega
   have hk1 : (k : Int) < (n : Int) := by omega
   have hkf : k < f.P.length := by rw [HFN.out]; exact hlt
   obtain ⟨pb, po, hQA, hpb, cp⟩ := ints_at (HIQ2.out.later _ HBW.out) (k := k) (by rw [HQN.out]; exact hlt);obtain rfl := hQA;have hpl := place_of HIN.out hkf;have hpe := peakTo_bd HOK.out HIN.out k (by omega);have hsuc : peakTo f p (k + 1) = if p.pl k = -1 then peakTo f p k else max (peakTo f p k) (p.pl k + areaOf f k) := rfl;obtain ⟨pk, hpk⟩ : ∃ v, p.pl k = v := ⟨_, rfl⟩;obtain ⟨ak, hak⟩ : ∃ a, areaOf f k = a := ⟨_, rfl⟩;obtain ⟨pe, hpee⟩ : ∃ a, peakTo f p k = a := ⟨_, rfl⟩;have hab := area_bd HOK.out hkf;rw [show p.Places.getD k 0 = p.pl k from rfl, hpk] at cp;rw [hpk, hak, hpee] at hsuc;rw [hpk] at hpl;rw [hak] at hab;rw [hpee] at hpe;rw [hpee];by_cases hm1 : pk = -1
   ·have hb1 : (pk == -1) = true := by simpa using hm1
    have HSU := hide (show peakTo f p (k + 1) = pe from by rw [hsuc, if_pos hm1]);clear hm1 hpk hak hpee hsuc hpl hab;go_wp2_with fail;go_roundw
    case rel => exact ⟨k + 1, by omega, by go_num, by rw [HSU.out], HBW⟩
    case measure => simp [intOf]; omega
   ·have hb1 : (pk == -1) = false := by simpa using hm1
    have hpl2 : 0 ≤ pk ∧ pk ≤ 4096 := by omega
    have HSU := hide (show peakTo f p (k + 1) = max pe (pk + ak) from by rw [hsuc, if_neg hm1]);obtain ⟨zb, zo, hZA, hzb, z0, z1⟩ := size_cells HOK.out (HZ2.out.later _ HBW.out) hkf;obtain rfl := hZA;obtain ⟨sw, hsw⟩ : ∃ a, (frSize f k).W = a := ⟨_, rfl⟩;obtain ⟨sh, hsh⟩ : ∃ a, (frSize f k).H = a := ⟨_, rfl⟩;rw [hsw] at z0;rw [hsh] at z1;have HAR := hide (area_is (W := sw) (H := sh) (a := ak) (by rw [← hsw, ← hsh, ← hak]; rfl) (by omega));have hwr : IntKind.i64.wrap (pk + ak) = pk + ak := IntWalk.i64_in _ (by omega);have HKS := hide (show Keeps wr (fun w' => w'.cell? ⟨w.heap.size + 1, 1, none⟩ = some (.slice (some ⟨pb, po, none⟩) n qc) ∧ w'.cell? ⟨pb, po + k, none⟩ = some (.int .i64 pk) ∧ w'.cell? ⟨zb, zo + k * 2, none⟩ = some (.int .i64 sw) ∧ w'.cell? ⟨zb, zo + k * 2 + 1, none⟩ = some (.int .i64 sh)) from ⟨⟨r1, cp, z0, z1⟩, fun _ hb => ⟨keepC hb r1, keepC hb cp, keepC hb z0, keepC hb z1⟩⟩);clear hm1 hpk hak hpee hsuc hpl hsw hsh;go_upto_region 7 with fail
    go_region_held3 (fun w' => w'.cell? ⟨w.heap.size + 1, 1, none⟩ = some (.slice (some ⟨pb, po, none⟩) n qc) ∧ w'.cell? ⟨pb, po + k, none⟩ = some (.int .i64 pk) ∧ w'.cell? ⟨zb, zo + k * 2, none⟩ = some (.int .i64 sw) ∧ w'.cell? ⟨zb, zo + k * 2 + 1, none⟩ = some (.int .i64 sh))
     (first | exact HKS.out.later _ hB5 | exact HKS.out.later _ (Below.refl _ _).drew)
     (first
       | (go_simp; go_at_call 55; refine ((unhide HAR) _).mono ?_; rintro e w5 ⟨rfl, hE5⟩; have hB5 : Below wr.heap.size wr w5 := (Below.refl _ _).drew.trans hE5))
    go_wp2_with fail;go_roundw
    case rel => exact ⟨k + 1, by omega, by go_num, by rw [HSU.out]; congr 1; (first | rfl | omega), hide (HBW.out.trans (hB5.mono HBW.out.size))⟩
    case measure => simp [intOf]; omega
  ·obtain rfl : k = n := by omega
   go_wp2_with fail;go_ret;exact ⟨ret_int (by unfold peakOf; rw [HFN.out]), HB2.out.trans (HBW.out.mono HB2.out.size)⟩
end Go.Proofs.YtibpmogmeoappaaGreatDoor
namespace Go.Proofs.YtibpmogmeoappaaGreatDoor
open Go.RowKit
def RetSpE (w : World) (L : List Spn) (z : Int) (e : Ending) (w' : World) : Prop :=
 ∃ (A : Option Addr) (n c : Nat), e = .returned (.tuple #[.slice A n c, .int .i64 z]) ∧ L.length = n ∧ Spns w' A L ∧ Below w.heap.size w w'
theorem spansAns_no {f : Frm} {p : Pln} (h : planErr f p ≠ 0) : spansAns f p = [] := if_neg h
theorem planSpans_any (W H S O : Int) (PA : Option Addr) (n c : Nat) (ps : List Pas) (OA : Option Addr) (on oc : Nat) (QA : Option Addr) (qn qc : Nat) (p : Pln) (w : World) (hn : ps.length = n) (hP : Passes w PA ps)
 (hO : Ints w OA p.Order) (hon : p.Order.length = on) (hol : on ≤ 9223372036854775807) (hQ : Ints w QA p.Places) (hqn : p.Places.length = qn) (hql : qn ≤ 9223372036854775807) :
 Calls Tryz.prog 41 #[.agg #[.int .i64 W, .int .i64 H, .int .i64 S, .int .i64 O, .slice PA n c], .agg #[.slice OA on oc, .slice QA qn qc]] w (RetSpE w (spansAns ⟨W, H, S, O, ps⟩ p) (planErr ⟨W, H, S, O, ps⟩ p)) := by
 have hb := ((Below.refl w.heap.size w).alloc (Nat.le_refl _) (.cells #[.int .i64 W, .int .i64 H, .int .i64 S, .int .i64 O, .slice PA n c] 35)).alloc (by simp) (.cells #[.slice OA on oc, .slice QA qn qc] 56);have hbx := (show FrmBox (w.alloc (.cells #[.int .i64 W, .int .i64 H, .int .i64 S, .int .i64 O, .slice PA n c] 35)) w.heap.size W H S O PA n c from Blk.new w 35 (frmCells W H S O PA n c)).alloc (.cells #[.slice OA on oc, .slice QA qn qc] 56);have hpx : Blk ((w.alloc (.cells #[.int .i64 W, .int .i64 H, .int .i64 S, .int .i64 O, .slice PA n c] 35)).alloc (.cells #[.slice OA on oc, .slice QA qn qc] 56)) (w.heap.size + 1) 56 [.slice OA on oc, .slice QA qn qc] := Blk.newE (by simp);have hbg := begin_any W H S O PA n c ps OA on oc QA qn qc p _ hn (hP.keep hb) (hO.keep hb) hon hol (hQ.keep hb) hqn hql;have hio := hO.keep hb;have hiq := hQ.keep hb;obtain ⟨f, hf⟩ : ∃ f : Frm, f = ⟨W, H, S, O, ps⟩ := ⟨_, rfl⟩;rw [← hf] at hbg ⊢;obtain ⟨w1, hw1⟩ : ∃ w1, (w.alloc (.cells #[.int .i64 W, .int .i64 H, .int .i64 S, .int .i64 O, .slice PA n c] 35)).alloc (.cells #[.slice OA on oc, .slice QA qn qc] 56) = w1 := ⟨_, rfl⟩;rw [hw1] at hb hbx hpx hbg hio hiq;have HB := hide hb;have HPX := hide (Keeps.blk hpx);have HIO := hide (Keeps.ints hio);have HIQ := hide (Keeps.ints hiq);have HBG := hide hbg;have HON := hide hon;have HQN := hide hqn;obtain ⟨x, q0, q1, q2, q3, q4⟩ := FrmBox.cells (show FrmBox _ _ W H S O PA n c from hbx);obtain ⟨y, r0, r1⟩ := plan_box hpx;clear hn hP hO hQ hbx hpx hb hio hiq hbg hf hon hqn;go_enter Tryz.func41, Tryz.ntmps41
 go_wp2_with fail;refine (unhide HBG).mono ?_;rintro e w2 ⟨hE2, ⟨hne, rfl⟩ | ⟨hz, g, ⟨hni, rfl⟩ | ⟨hin, rfl, hLk⟩⟩⟩
 ·have HB2 := hide (HB.out.trans (hE2.mono HB.out.size))
  have hpe := planErr_frm (p := p) hne;have HSA := hide (spansAns_no (f := f) (p := p) (by rw [hpe]; exact hne));obtain ⟨z, hz⟩ : ∃ z, frErr f = z := ⟨_, rfl⟩;rw [hz] at hpe hne ⊢;have HPE := hide hpe;have hz2 : (z == 0) = false := by simpa using hne
  clear hE2 hne hz hpe hw1 HBG x q0 q1 q2 q3 q4 y r0 r1;go_wp2_with fail;go_ret2;rw [HSA.out, HPE.out];exact ⟨none, 0, 0, rfl, rfl, Cells.nil _ _, HB2.out⟩
 ·have HB2 := hide (HB.out.trans (hE2.mono HB.out.size))
  have HPE := hide (planErr_form hz hni);have HSA := hide (spansAns_no (f := f) (p := p) (by rw [HPE.out]; omega));clear hE2 hz hni hw1 HBG x q0 q1 q2 q3 q4 y r0 r1;go_wp2_with fail;go_ret2;rw [HSA.out, HPE.out];exact ⟨none, 0, 0, rfl, rfl, Cells.nil _ _, HB2.out⟩
 ·have HB2 := hide (HB.out.trans (hE2.mono HB.out.size))
  have HPE := hide (planErr_ok hz hin);have HSA := hide (show spansAns f p = spansTo f p f.P.length from if_pos HPE.out);obtain ⟨la, KA, kn, kc, SA, sc, RA, rn, rc, mb, XA, xc, hLB, -, hXA⟩ := hLk;obtain ⟨v, v0, v1, v2, v3, v4, v5, v6, v7⟩ := look_at hLB;have HXA := hide hXA;clear hE2 hz hin hLB hXA hw1 HBG x q0 q1 q2 q3 q4 y r0 r1;go_wp2_with fail;go_ret2;rw [HSA.out, HPE.out];exact ⟨XA, f.P.length, xc, rfl, by simp [spansTo], HXA.out, HB2.out⟩
theorem peakOrd_bd {f : Frm} {p : Pln} (hf : FrmOk f) (h : InOrder f p) : ∀ m, m ≤ p.Order.length → 0 ≤ peakOrd f p m ∧ peakOrd f p m ≤ 4352
 | 0, _ => by simp [peakOrd]
 | m + 1, hm => by
   have h1 := peakOrd_bd hf h m (by omega);obtain ⟨k, hk, hkf, h2, h3⟩ := ord_in h (i := m) (by omega);have h4 := area_bd hf hkf;simp only [peakOrd];rw [hk, Int.toNat_natCast];omega
theorem planPeak_any (W H S O : Int) (PA : Option Addr) (n c : Nat) (ps : List Pas) (OA : Option Addr) (on oc : Nat) (QA : Option Addr) (qn qc : Nat) (p : Pln) (w : World) (hn : ps.length = n) (hP : Passes w PA ps)
 (hO : Ints w OA p.Order) (hon : p.Order.length = on) (hol : on ≤ 9223372036854775807) (hQ : Ints w QA p.Places) (hqn : p.Places.length = qn) (hql : qn ≤ 9223372036854775807) :
 Calls Tryz.prog 22 #[.agg #[.int .i64 W, .int .i64 H, .int .i64 S, .int .i64 O, .slice PA n c], .agg #[.slice OA on oc, .slice QA qn qc]] w (RetIE w (peakAns ⟨W, H, S, O, ps⟩ p) (planErr ⟨W, H, S, O, ps⟩ p)) := by
 have hb := ((Below.refl w.heap.size w).alloc (Nat.le_refl _) (.cells #[.int .i64 W, .int .i64 H, .int .i64 S, .int .i64 O, .slice PA n c] 35)).alloc (by simp) (.cells #[.slice OA on oc, .slice QA qn qc] 56);have hbx := (show FrmBox (w.alloc (.cells #[.int .i64 W, .int .i64 H, .int .i64 S, .int .i64 O, .slice PA n c] 35)) w.heap.size W H S O PA n c from Blk.new w 35 (frmCells W H S O PA n c)).alloc (.cells #[.slice OA on oc, .slice QA qn qc] 56);have hpx : Blk ((w.alloc (.cells #[.int .i64 W, .int .i64 H, .int .i64 S, .int .i64 O, .slice PA n c] 35)).alloc (.cells #[.slice OA on oc, .slice QA qn qc] 56)) (w.heap.size + 1) 56 [.slice OA on oc, .slice QA qn qc] := Blk.newE (by simp);have hbg := begin_any W H S O PA n c ps OA on oc QA qn qc p _ hn (hP.keep hb) (hO.keep hb) hon hol (hQ.keep hb) hqn hql;have hio := hO.keep hb;have hiq := hQ.keep hb;obtain ⟨f, hf⟩ : ∃ f : Frm, f = ⟨W, H, S, O, ps⟩ := ⟨_, rfl⟩;rw [← hf] at hbg ⊢;obtain ⟨w1, hw1⟩ : ∃ w1, (w.alloc (.cells #[.int .i64 W, .int .i64 H, .int .i64 S, .int .i64 O, .slice PA n c] 35)).alloc (.cells #[.slice OA on oc, .slice QA qn qc] 56) = w1 := ⟨_, rfl⟩;rw [hw1] at hb hbx hpx hbg hio hiq;have HB := hide hb;have HPX := hide (Keeps.blk hpx);have HIO := hide (Keeps.ints hio);have HIQ := hide (Keeps.ints hiq);have HBG := hide hbg;have HON := hide hon;have HQN := hide hqn;obtain ⟨x, q0, q1, q2, q3, q4⟩ := FrmBox.cells (show FrmBox _ _ W H S O PA n c from hbx);obtain ⟨y, r0, r1⟩ := plan_box hpx;clear hn hP hO hQ hbx hpx hb hio hiq hbg hf hon hqn;go_enter Tryz.func22, Tryz.ntmps22
 go_wp2_with fail;refine (unhide HBG).mono ?_;rintro e w2 ⟨hE2, ⟨hne, rfl⟩ | ⟨hz, g, ⟨hni, rfl⟩ | ⟨hin, rfl, hLk⟩⟩⟩
 ·have HB2 := hide (HB.out.trans (hE2.mono HB.out.size))
  have hpe := planErr_frm (p := p) hne;have HSA := hide (show peakAns f p = 0 from if_neg (by rw [hpe]; exact hne));obtain ⟨z, hz⟩ : ∃ z, frErr f = z := ⟨_, rfl⟩;rw [hz] at hpe hne ⊢;have HPE := hide hpe;have hz2 : (z == 0) = false := by simpa using hne
  clear hE2 hne hz hpe hw1 HBG x q0 q1 q2 q3 q4 y r0 r1;go_wp2_with fail;go_ret2;rw [HSA.out, HPE.out];exact ⟨rfl, HB2.out⟩
 ·have HB2 := hide (HB.out.trans (hE2.mono HB.out.size))
  have HPE := hide (planErr_form hz hni);have HSA := hide (show peakAns f p = 0 from if_neg (by rw [HPE.out]; omega));clear hE2 hz hni hw1 HBG x q0 q1 q2 q3 q4 y r0 r1;go_wp2_with fail;go_ret2;rw [HSA.out, HPE.out];exact ⟨rfl, HB2.out⟩
 ·have HB2 := hide (HB.out.trans (hE2.mono HB.out.size))
  have HOK := hide (frErr_zero.1 hz);have HIN := hide hin;have HPE := hide (planErr_ok hz hin);have HSA := hide (show peakAns f p = peakOf f p from if_pos HPE.out);have hpn := hin.places;have hle := hin.len;have h12 := HOK.out.many;obtain ⟨la, KA, kn, kc, SA, sc, RA, rn, rc, mb, XA, xc, hLB, hSA, -⟩ := hLk;obtain ⟨N, hN⟩ : ∃ N, f.P.length = N := ⟨_, rfl⟩;rw [hN] at hLB hSA hpn hle h12;have HNN := hide hN;rw [HON.out] at hle;rw [HQN.out] at hpn;obtain rfl : qn = N := hpn;have HLB := hide (Keeps.blk hLB);have HSR := hide (Keeps.ints hSA);have HPX2 := hide (HPX.out.move hE2);have HIO2 := hide (HIO.out.move hE2);have HIQ2 := hide (HIQ.out.move hE2);obtain ⟨y', r0', r1'⟩ := plan_box HPX2.out.now;clear hE2 hz hin hLB hSA hN hw1 HBG x q0 q1 q2 q3 q4 y r0 r1;go_wp2_with fail;clear y' r0' r1';go_loopw [8, 10, 23] (fun a _ s wr => ∃ i : Nat, i ≤ on ∧ s = .int .i64 i ∧ a = .int .i64 (peakOrd f p i) ∧ Hid (Below w2.heap.size w2 wr)) (fun _ _ s _ => on - (intOf s).toNat)
  case atStart => exact ⟨0, Nat.zero_le _, rfl, rfl, hide (Below.refl _ _)⟩
  case round =>
   obtain ⟨i, hi, rfl, rfl, HBW⟩ := hrel;by_cases hil : i < on
   ·have hi0 : (0 : Int) ≤ (i : Int) := by omega
    have hi1 : (i : Int) < (on : Int) := by omega
    obtain ⟨m, hm, hmf, hp0, hp1⟩ := ord_in HIN.out (i := i) (by rw [HON.out]; exact hil);obtain ⟨y, r0, r1⟩ := plan_box (HPX2.out.later _ HBW.out);obtain ⟨v, v0, v1, v2, v3, v4, v5, v6, v7⟩ := look_at (HLB.out.later _ HBW.out);obtain ⟨ob, oo, hOA, hob, co⟩ := ints_at (HIO2.out.later _ HBW.out) (k := i) (by rw [HON.out]; exact hil);obtain rfl := hOA;rw [show p.Order.getD i 0 = p.ord i from rfl, hm] at co;have hmq : m < qn := by rw [← HNN.out]; exact hmf
    obtain ⟨pb, po, hQA, hpb, cp⟩ := ints_at (HIQ2.out.later _ HBW.out) (k := m) (by rw [HQN.out]; exact hmq);obtain rfl := hQA;rw [show p.Places.getD m 0 = p.pl m from rfl] at cp;obtain ⟨sb, so, hSB, hsb, cs⟩ := areas_at (HSR.out.later _ HBW.out) hmq;obtain rfl := hSB;have hab := area_bd HOK.out hmf;have hpk := peakOrd_bd HOK.out HIN.out i (by rw [HON.out]; exact hi)
    have hsuc : peakOrd f p (i + 1) = max (peakOrd f p i) (p.pl m + areaOf f m) := by
     simp only [peakOrd];rw [hm, Int.toNat_natCast]
    obtain ⟨pm, hpm⟩ : ∃ v, p.pl m = v := ⟨_, rfl⟩;obtain ⟨am, ham⟩ : ∃ v, areaOf f m = v := ⟨_, rfl⟩;obtain ⟨pe, hpe⟩ : ∃ v, peakOrd f p i = v := ⟨_, rfl⟩;rw [hpm] at hp0 hp1 cp hsuc;rw [ham] at hab cs hsuc;rw [hpe] at hpk hsuc;rw [hpe];have HSU := hide hsuc;have hwr : IntKind.i64.wrap (pm + am) = pm + am := IntWalk.i64_in _ (by omega);have hm0 : (0 : Int) ≤ (m : Int) := by omega
    have hm1 : (m : Int) < (qn : Int) := by omega
    clear hm hmf hpm ham hpe hsuc;go_wp2_with fail;go_quiet (fail)
    go_wp2_with fail;refine ⟨⟨i + 1, by omega, by simp, by rw [HSU.out]; congr 1; (first | rfl | omega), hide (below_drewN HBW.out _)⟩, by simp [intOf]; omega⟩
   ·obtain rfl : i = on := by omega
    have HPK := hide (show peakOrd f p i = peakOf f p from by rw [← HON.out]; exact peak_ord HIN.out);go_wp2_with fail;go_ret2;rw [HSA.out, HPE.out];exact ⟨by rw [← HPK.out]; rfl, HB2.out.trans (HBW.out.mono HB2.out.size)⟩
end Go.Proofs.YtibpmogmeoappaaGreatDoor
