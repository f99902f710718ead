/- Walk of the law PlanTrue. -/
import Derived.Test.YtibpmogmeoappabJPlnO
namespace Go.Proofs.Ytibpmogmeoappab
open Go.RowKit

set_option maxRecDepth 100000 in
set_option maxHeartbeats 8000000 in
theorem planTrue_any (W H S O : Int) (PA : Option Addr) (n c : Nat) (ps : List Pas) (OA : Option Addr) (on oc : Nat) (Od : List Int) (QA : Option Addr) (qn qc : Nat) (Pl : List Int) (room : Int) (w : World) (hn : ps.length = n) (hP : Passes w PA ps) (_hl : n ≤ 9223372036854775807)
    (hon : Od.length = on) (hO : Ints w OA Od) (hol : on ≤ 9223372036854775807) (hoc : on ≤ oc) (hqn : Pl.length = qn) (hQ : Ints w QA Pl) (hql : qn ≤ 9223372036854775807) :
    Calls Try.prog 5 #[.agg #[.int .i64 W, .int .i64 H, .int .i64 S, .int .i64 O, .slice PA n c], .agg #[.slice OA on oc, .slice QA qn qc], .int .i64 room] w fun e w' => e = .returned (.bool true) ∧ Below w.heap.size w w' := by
  have hb := ((Below.refl w.heap.size w).alloc (Nat.le_refl _) (.cells #[.int .i64 W, .int .i64 H, .int .i64 S, .int .i64 O, .slice PA n c] 24)).alloc (by simp) (.cells #[.slice OA on oc, .slice QA qn qc] 27)
  have hbx := (show FrmBox (w.alloc (.cells #[.int .i64 W, .int .i64 H, .int .i64 S, .int .i64 O, .slice PA n c] 24)) w.heap.size W H S O PA n c from Blk.new w 24 (frmCells W H S O PA n c)).alloc (.cells #[.slice OA on oc, .slice QA qn qc] 27)
  have hpx : Blk ((w.alloc (.cells #[.int .i64 W, .int .i64 H, .int .i64 S, .int .i64 O, .slice PA n c] 24)).alloc (.cells #[.slice OA on oc, .slice QA qn qc] 27)) (w.heap.size + 1) 27 [.slice OA on oc, .slice QA qn qc] := Blk.newE (by simp)
  obtain ⟨p, hp⟩ : ∃ p : Pln, p = ⟨Od, Pl⟩ := ⟨_, rfl⟩
  have hop : p.Order = Od := by rw [hp]
  have hqp : p.Places = Pl := by rw [hp]
  rw [← hop] at hon hO
  rw [← hqp] at hqn hQ
  have hio := hO.keep hb
  have hiq := hQ.keep hb
  have hpa := hP.keep hb
  have hck := fun (r : Int) (W0 : World) (h1 : Passes W0 PA ps) (h2 : Ints W0 OA p.Order) (h3 : Ints W0 QA p.Places) => planCheck_any W H S O PA n c ps OA on oc QA qn qc p r W0 hn h1 h2 hon hol hoc h3 hqn hql
  have hpk := fun (W0 : World) (h1 : Passes W0 PA ps) (h2 : Ints W0 OA p.Order) (h3 : Ints W0 QA p.Places) => planPeak_any W H S O PA n c ps OA on oc QA qn qc p W0 hn h1 h2 hon hol h3 hqn hql
  have hfl := fun (W0 : World) (h1 : Passes W0 PA ps) (h2 : Ints W0 OA p.Order) (h3 : Ints W0 QA p.Places) => planFloor_any W H S O PA n c ps OA on oc QA qn qc p W0 hn h1 h2 hon hol h3 hqn hql
  obtain ⟨f, hf⟩ : ∃ f : Frm, f = ⟨W, H, S, O, ps⟩ := ⟨_, rfl⟩
  rw [← hf] at hck hpk hfl
  obtain ⟨w1, hw1⟩ : ∃ w1, (w.alloc (.cells #[.int .i64 W, .int .i64 H, .int .i64 S, .int .i64 O, .slice PA n c] 24)).alloc (.cells #[.slice OA on oc, .slice QA qn qc] 27) = w1 := ⟨_, rfl⟩
  rw [hw1] at hb hbx hpx hio hiq hpa
  have HB := hide hb
  have HBX := hide (Keeps.blk hbx)
  have HPX := hide (Keeps.blk hpx)
  have HIO := hide (Keeps.ints hio)
  have HIQ := hide (Keeps.ints hiq)
  have HP := hide (Keeps.passes hpa)
  obtain ⟨x, q0, q1, q2, q3, q4⟩ := FrmBox.cells (show FrmBox _ _ W H S O PA n c from hbx)
  obtain ⟨y, r0, r1⟩ := plan_box hpx
  clear hn hP hon hO hol hoc hqn hQ hql hb hbx hpx hio hiq hpa hp hop hqp hf
  have hc1 := hck room
  obtain ⟨r, hr⟩ : ∃ r, pckErr f p room = r := ⟨_, rfl⟩
  rw [hr] at hc1
  have HC1 := hide hc1
  by_cases hz : r = 0
  · obtain ⟨e1, e2, e3, e4, e5⟩ := plan_true (hr.trans hz)
    obtain ⟨hok, -, hin, -⟩ := pckErr_zero (hr.trans hz)
    have hpb := peakTo_bd hok hin f.P.length (Nat.le_refl _)
    rw [show peakTo f p f.P.length = peakAns f p from (if_pos e1).symm] at hpb
    obtain ⟨pk, hpke⟩ : ∃ v, peakAns f p = v := ⟨_, rfl⟩
    obtain ⟨fl, hfle⟩ : ∃ v, floorAns f p = v := ⟨_, rfl⟩
    rw [e1, hpke] at hpk
    rw [e1, hfle] at hfl
    rw [hpke] at hpb e2 e3 e4 e5
    rw [hfle] at e2
    have hc2 := hck pk
    rw [e4] at hc2
    have hc3 := hck (pk - 1)
    rw [e5] at hc3
    have HC2 := hide hc2
    have HC3 := hide hc3
    have HPK := hide hpk
    have HFL := hide hfl
    have hwr : IntKind.i64.wrap (pk - 1) = pk - 1 := IntWalk.i64_in _ (by omega)
    have hrz : (r == 0) = true := by simpa using hz
    clear hck hc1 hc2 hc3 hpk hfl hr e1 e4 e5 hok hin hpke hfle hz
    go_enter Try.func5, Try.ntmps5
    go_wp2_with fail
    refine ((unhide HC1) _ HP.out.now HIO.out.now HIQ.out.now).mono ?_
    rintro e w2 ⟨rfl, hE2⟩
    have HB2 := hide (HB.out.trans (hE2.mono HB.out.size))
    have HBX2 := hide (HBX.out.move hE2)
    have HPX2 := hide (HPX.out.move hE2)
    have HIO2 := hide (HIO.out.move hE2)
    have HIQ2 := hide (HIQ.out.move hE2)
    have HP2 := hide (HP.out.move hE2)
    clear hw1 hE2 HB HBX HPX HIO HIQ HP x q0 q1 q2 q3 q4 y r0 r1
    obtain ⟨x, q0, q1, q2, q3, q4⟩ := FrmBox.cells (show FrmBox _ _ W H S O PA n c from HBX2.out.now)
    obtain ⟨y, r0, r1⟩ := plan_box HPX2.out.now
    go_wp2_with fail
    refine ((unhide HPK) _ HP2.out.now HIO2.out.now HIQ2.out.now).mono ?_
    rintro e w3 ⟨rfl, hE3⟩
    have HB3 := hide (HB2.out.trans (hE3.mono HB2.out.size))
    have HBX3 := hide (HBX2.out.move hE3)
    have HPX3 := hide (HPX2.out.move hE3)
    have HIO3 := hide (HIO2.out.move hE3)
    have HIQ3 := hide (HIQ2.out.move hE3)
    have HP3 := hide (HP2.out.move hE3)
    clear hE3 HB2 HBX2 HPX2 HIO2 HIQ2 HP2 x q0 q1 q2 q3 q4 y r0 r1
    obtain ⟨x, q0, q1, q2, q3, q4⟩ := FrmBox.cells (show FrmBox _ _ W H S O PA n c from HBX3.out.now)
    obtain ⟨y, r0, r1⟩ := plan_box HPX3.out.now
    go_wp2_with fail
    refine ((unhide HFL) _ HP3.out.now HIO3.out.now HIQ3.out.now).mono ?_
    rintro e w4 ⟨rfl, hE4⟩
    have HB4 := hide (HB3.out.trans (hE4.mono HB3.out.size))
    have HBX4 := hide (HBX3.out.move hE4)
    have HPX4 := hide (HPX3.out.move hE4)
    have HIO4 := hide (HIO3.out.move hE4)
    have HIQ4 := hide (HIQ3.out.move hE4)
    have HP4 := hide (HP3.out.move hE4)
    clear hE4 HB3 HBX3 HPX3 HIO3 HIQ3 HP3 x q0 q1 q2 q3 q4 y r0 r1
    go_wp2_with fail
    refine (planBegun_any _).mono ?_
    rintro e w5 ⟨rfl, hE5⟩
    have HB5 := hide (HB4.out.trans (hE5.mono HB4.out.size))
    have HBX5 := hide (HBX4.out.move hE5)
    have HPX5 := hide (HPX4.out.move hE5)
    have HIO5 := hide (HIO4.out.move hE5)
    have HIQ5 := hide (HIQ4.out.move hE5)
    have HP5 := hide (HP4.out.move hE5)
    clear hE5 HB4 HBX4 HPX4 HIO4 HIQ4 HP4
    obtain ⟨x, q0, q1, q2, q3, q4⟩ := FrmBox.cells (show FrmBox _ _ W H S O PA n c from HBX5.out.now)
    obtain ⟨y, r0, r1⟩ := plan_box HPX5.out.now
    go_wp2_with fail
    refine ((unhide HC2) _ HP5.out.now HIO5.out.now HIQ5.out.now).mono ?_
    rintro e w6 ⟨rfl, hE6⟩
    have HB6 := hide (HB5.out.trans (hE6.mono HB5.out.size))
    have HIO6 := hide (HIO5.out.move hE6)
    have HIQ6 := hide (HIQ5.out.move hE6)
    have HP6 := hide (HP5.out.move hE6)
    have hbx6 := HBX5.out.later _ hE6
    have hpx6 := HPX5.out.later _ hE6
    clear hE6 HB5 HIO5 HIQ5 HP5 x q0 q1 q2 q3 q4 y r0 r1 HBX5 HPX5
    obtain ⟨x, q0, q1, q2, q3, q4⟩ := FrmBox.cells (show FrmBox _ _ W H S O PA n c from hbx6)
    obtain ⟨y, r0, r1⟩ := plan_box hpx6
    clear hbx6 hpx6
    go_wp2_with fail
    refine ((unhide HC3) _ HP6.out.now HIO6.out.now HIQ6.out.now).mono ?_
    rintro e w7 ⟨rfl, hE7⟩
    have HB7 := hide (HB6.out.trans (hE7.mono HB6.out.size))
    clear hE7
    go_wp2_with fail
    go_ret
    exact ⟨rfl, HB7.out⟩
  · have hrz : (r == 0) = false := by simpa using hz
    clear hck hc1 hpk hfl hr
    go_enter Try.func5, Try.ntmps5
    go_wp2_with fail
    refine ((unhide HC1) _ HP.out.now HIO.out.now HIQ.out.now).mono ?_
    rintro e w2 ⟨rfl, hE2⟩
    have HB2 := hide (HB.out.trans (hE2.mono HB.out.size))
    clear hw1 hE2 HB x q0 q1 q2 q3 q4 y r0 r1
    go_wp2_with fail
    refine (planBegun_any _).mono ?_
    rintro e w5 ⟨rfl, hE5⟩
    have HB5 := hide (HB2.out.trans (hE5.mono HB2.out.size))
    clear hE5
    go_wp2_with fail
    go_ret
    exact ⟨rfl, HB5.out⟩
end Go.Proofs.Ytibpmogmeoappab
