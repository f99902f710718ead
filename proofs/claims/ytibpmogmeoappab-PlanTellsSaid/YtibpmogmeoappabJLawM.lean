/- Walk of the law PlanTells. -/
import Derived.Test.YtibpmogmeoappabJPlnO
namespace Go.Proofs.Ytibpmogmeoappab
open Go.RowKit

theorem planError_ref (W H S O : Int) (PA : Option Addr) (n c : Nat) (ps : List Pas) (OA : Option Addr) (on oc : Nat) (QA : Option Addr) (qn qc : Nat) (p : Pln) (w : World) (hn : ps.length = n) (hP : Passes w PA ps) (hl : n ≤ 9223372036854775807)
    (hO : Ints w OA p.Order) (hon : p.Order.length = on) (hol : on ≤ 9223372036854775807) (hQ : Ints w QA p.Places) (hqn : p.Places.length = qn) (hql : qn ≤ 9223372036854775807) :
    Calls Try.prog 20 #[.agg #[.int .i64 W, .int .i64 H, .int .i64 S, .int .i64 O, .slice PA n c], .agg #[.slice OA on oc, .slice QA qn qc]] w (RetE w (planErr ⟨W, H, S, O, ps⟩ p)) := by
  have hb := ((Below.refl w.heap.size w).alloc (Nat.le_refl _) (.cells #[.int .i64 W, .int .i64 H, .int .i64 S, .int .i64 O, .slice PA n c] 24)).alloc (by simp) (.cells #[.slice OA on oc, .slice QA qn qc] 27)
  have hbx := (show FrmBox (w.alloc (.cells #[.int .i64 W, .int .i64 H, .int .i64 S, .int .i64 O, .slice PA n c] 24)) w.heap.size W H S O PA n c from Blk.new w 24 (frmCells W H S O PA n c)).alloc (.cells #[.slice OA on oc, .slice QA qn qc] 27)
  have hpx : Blk ((w.alloc (.cells #[.int .i64 W, .int .i64 H, .int .i64 S, .int .i64 O, .slice PA n c] 24)).alloc (.cells #[.slice OA on oc, .slice QA qn qc] 27)) (w.heap.size + 1) 27 [.slice OA on oc, .slice QA qn qc] := Blk.newE (by simp)
  have hio := hO.keep hb
  have hiq := hQ.keep hb
  have hpa := hP.keep hb
  have hcf := fun (W0 : World) (h1 : Passes W0 PA ps) => checkFrame_ref W H S O PA n c ps W0 hn h1 hl
  have hin := fun (h0 : FrmOk ⟨W, H, S, O, ps⟩) (W0 : World) (h1 : Passes W0 PA ps) (h2 : Ints W0 OA p.Order) (h3 : Ints W0 QA p.Places) => inOrder_ref W H S O PA n c ps OA on oc QA qn qc p W0 hn h1 h2 hon hol h3 hqn hql h0
  obtain ⟨f, hf⟩ : ∃ f : Frm, f = ⟨W, H, S, O, ps⟩ := ⟨_, rfl⟩
  rw [← hf] at hcf hin ⊢
  obtain ⟨w1, hw1⟩ : ∃ w1, (w.alloc (.cells #[.int .i64 W, .int .i64 H, .int .i64 S, .int .i64 O, .slice PA n c] 24)).alloc (.cells #[.slice OA on oc, .slice QA qn qc] 27) = w1 := ⟨_, rfl⟩
  rw [hw1] at hb hbx hpx hio hiq hpa
  have HB := hide hb
  have HBX := hide (Keeps.blk hbx)
  have HPX := hide (Keeps.blk hpx)
  have HIO := hide (Keeps.ints hio)
  have HIQ := hide (Keeps.ints hiq)
  have HP := hide (Keeps.passes hpa)
  obtain ⟨x, q0, q1, q2, q3, q4⟩ := FrmBox.cells (show FrmBox _ _ W H S O PA n c from hbx)
  obtain ⟨y, r0, r1⟩ := plan_box hpx
  have HCF := hide hcf
  have HIN := hide hin
  clear hn hP hl hon hO hol hqn hQ hql hb hbx hpx hio hiq hpa hf hcf hin
  obtain ⟨z, hz⟩ : ∃ z, frErr f = z := ⟨_, rfl⟩
  rw [hz] at HCF
  by_cases h0 : z = 0
  · have HI2 := hide ((unhide HIN) (frErr_zero.1 (hz.trans h0)))
    have hrz : (z == 0) = true := by simpa using h0
    have HPE := hide (show planErr f p = if InOrder f p then 0 else 1 from by unfold planErr; rw [if_neg (fun e => e (hz.trans h0))])
    clear h0 hz HIN
    go_enter Try.func20, Try.ntmps20
    go_wp2_with fail
    refine ((unhide HCF) _ HP.out.now).mono ?_
    rintro e w2 ⟨ZA, zn, zc, rfl, -, -, hE2⟩
    have HB2 := hide (HB.out.trans (hE2.mono HB.out.size))
    have HIO2 := hide (HIO.out.move hE2)
    have HIQ2 := hide (HIQ.out.move hE2)
    have HP2 := hide (HP.out.move hE2)
    have hbx2 := HBX.out.later _ hE2
    have hpx2 := HPX.out.later _ hE2
    clear hw1 hE2 HB HIO HIQ HP x q0 q1 q2 q3 q4 y r0 r1 HCF
    obtain ⟨x, q0, q1, q2, q3, q4⟩ := FrmBox.cells (show FrmBox _ _ W H S O PA n c from hbx2)
    obtain ⟨y, r0, r1⟩ := plan_box hpx2
    clear hbx2 hpx2
    go_wp2_with fail
    refine ((unhide HI2) _ HP2.out.now HIO2.out.now HIQ2.out.now).mono ?_
    rintro e w3 ⟨b, rfl, hb, hE3⟩
    have HB3 := hide (HB2.out.trans (hE3.mono HB2.out.size))
    have HBB := hide hb
    clear hb hE3
    cases b with
    | true =>
      go_wp2_with fail
      go_ret
      exact ⟨ret_int (by rw [HPE.out, if_pos (by first | exact HBB.out.1 rfl | exact HBB.out.1 trivial)]), HB3.out⟩
    | false =>
      go_wp2_with fail
      go_ret
      exact ⟨ret_int (by rw [HPE.out, if_neg (fun h => by have := HBB.out.2 h; cases this)]), HB3.out⟩
  · have hrz : (z == 0) = false := by simpa using h0
    have HPE := hide (show planErr f p = z from by rw [planErr_frm (by rw [hz]; exact h0), hz])
    clear h0 hz HIN
    go_enter Try.func20, Try.ntmps20
    go_wp2_with fail
    refine ((unhide HCF) _ HP.out.now).mono ?_
    rintro e w2 ⟨ZA, zn, zc, rfl, -, -, hE2⟩
    have HB2 := hide (HB.out.trans (hE2.mono HB.out.size))
    clear hw1 hE2 HB x q0 q1 q2 q3 q4 y r0 r1 HCF
    go_wp2_with fail
    go_ret
    exact ⟨ret_int HPE.out.symm, HB2.out⟩

set_option maxRecDepth 100000 in
set_option maxHeartbeats 8000000 in
theorem planTells_any (W H S O : Int) (PA : Option Addr) (n c : Nat) (ps : List Pas) (OA : Option Addr) (on oc : Nat) (Od : List Int) (QA : Option Addr) (qn qc : Nat) (Pl : List Int) (w : World) (hn : ps.length = n) (hP : Passes w PA ps) (hl : n ≤ 9223372036854775807)
    (hon : Od.length = on) (hO : Ints w OA Od) (hol : on ≤ 9223372036854775807) (_hoc : on ≤ oc) (hqn : Pl.length = qn) (hQ : Ints w QA Pl) (hql : qn ≤ 9223372036854775807) :
    Calls Try.prog 4 #[.agg #[.int .i64 W, .int .i64 H, .int .i64 S, .int .i64 O, .slice PA n c], .agg #[.slice OA on oc, .slice QA qn qc]] w fun e w' => e = .returned (.bool true) ∧ Below w.heap.size w w' := by
  have hb := ((Below.refl w.heap.size w).alloc (Nat.le_refl _) (.cells #[.int .i64 W, .int .i64 H, .int .i64 S, .int .i64 O, .slice PA n c] 24)).alloc (by simp) (.cells #[.slice OA on oc, .slice QA qn qc] 27)
  have hbx := (show FrmBox (w.alloc (.cells #[.int .i64 W, .int .i64 H, .int .i64 S, .int .i64 O, .slice PA n c] 24)) w.heap.size W H S O PA n c from Blk.new w 24 (frmCells W H S O PA n c)).alloc (.cells #[.slice OA on oc, .slice QA qn qc] 27)
  have hpx : Blk ((w.alloc (.cells #[.int .i64 W, .int .i64 H, .int .i64 S, .int .i64 O, .slice PA n c] 24)).alloc (.cells #[.slice OA on oc, .slice QA qn qc] 27)) (w.heap.size + 1) 27 [.slice OA on oc, .slice QA qn qc] := Blk.newE (by simp)
  obtain ⟨p, hp⟩ : ∃ p : Pln, p = ⟨Od, Pl⟩ := ⟨_, rfl⟩
  have hop : p.Order = Od := by rw [hp]
  have hqp : p.Places = Pl := by rw [hp]
  rw [← hop] at hon hO
  rw [← hqp] at hqn hQ
  have hio := hO.keep hb
  have hiq := hQ.keep hb
  have hpa := hP.keep hb
  have hsp := fun (W0 : World) (h1 : Passes W0 PA ps) (h2 : Ints W0 OA p.Order) (h3 : Ints W0 QA p.Places) => planSpans_any W H S O PA n c ps OA on oc QA qn qc p W0 hn h1 h2 hon hol h3 hqn hql
  have hpk := fun (W0 : World) (h1 : Passes W0 PA ps) (h2 : Ints W0 OA p.Order) (h3 : Ints W0 QA p.Places) => planPeak_any W H S O PA n c ps OA on oc QA qn qc p W0 hn h1 h2 hon hol h3 hqn hql
  have hfl := fun (W0 : World) (h1 : Passes W0 PA ps) (h2 : Ints W0 OA p.Order) (h3 : Ints W0 QA p.Places) => planFloor_any W H S O PA n c ps OA on oc QA qn qc p W0 hn h1 h2 hon hol h3 hqn hql
  have hpe := fun (W0 : World) (h1 : Passes W0 PA ps) (h2 : Ints W0 OA p.Order) (h3 : Ints W0 QA p.Places) => planError_ref W H S O PA n c ps OA on oc QA qn qc p W0 hn h1 hl h2 hon hol h3 hqn hql
  have hrs := fun (h0 : FrmOk ⟨W, H, S, O, ps⟩) (hi : InOrder ⟨W, H, S, O, ps⟩ p) (W0 : World) (h1 : Passes W0 PA ps) (h2 : Ints W0 OA p.Order) => spansOf_ref W H S O PA n c ps OA on oc QA qn qc p W0 hn h1 h2 hon hol h0 hi
  have hrp := fun (h0 : FrmOk ⟨W, H, S, O, ps⟩) (hi : InOrder ⟨W, H, S, O, ps⟩ p) (W0 : World) (h1 : Passes W0 PA ps) (h2 : Ints W0 OA p.Order) (h3 : Ints W0 QA p.Places) => peakOf_ref W H S O PA n c ps OA on oc QA qn qc p W0 hn h1 h2 hon hol h3 hqn h0 hi
  have hrf := fun (h0 : FrmOk ⟨W, H, S, O, ps⟩) (hi : InOrder ⟨W, H, S, O, ps⟩ p) (W0 : World) (h1 : Passes W0 PA ps) (h2 : Ints W0 OA p.Order) (h3 : Ints W0 QA p.Places) => floorOf_ref W H S O PA n c ps OA on oc QA qn qc p W0 hn h1 h2 hon hol h3 hqn h0 hi
  obtain ⟨f, hf⟩ : ∃ f : Frm, f = ⟨W, H, S, O, ps⟩ := ⟨_, rfl⟩
  have HFN := hide (show f.P.length = n from by rw [hf]; exact hn)
  rw [← hf] at hsp hpk hfl hpe hrs hrp hrf
  obtain ⟨w1, hw1⟩ : ∃ w1, (w.alloc (.cells #[.int .i64 W, .int .i64 H, .int .i64 S, .int .i64 O, .slice PA n c] 24)).alloc (.cells #[.slice OA on oc, .slice QA qn qc] 27) = w1 := ⟨_, rfl⟩
  rw [hw1] at hb hbx hpx hio hiq hpa
  have HB := hide hb
  have HBX := hide (Keeps.blk hbx)
  have HPX := hide (Keeps.blk hpx)
  have HIO := hide (Keeps.ints hio)
  have HIQ := hide (Keeps.ints hiq)
  have HP := hide (Keeps.passes hpa)
  obtain ⟨x, q0, q1, q2, q3, q4⟩ := FrmBox.cells (show FrmBox _ _ W H S O PA n c from hbx)
  obtain ⟨y, r0, r1⟩ := plan_box hpx
  clear hn hP hl hon hO hol hqn hQ hql hb hbx hpx hio hiq hpa hp hop hqp hf
  have HRS := hide hrs
  have HRP := hide hrp
  have HRF := hide hrf
  obtain ⟨z, hz⟩ : ∃ z, planErr f p = z := ⟨_, rfl⟩
  obtain ⟨sl, hsl⟩ : ∃ v, spansAns f p = v := ⟨_, rfl⟩
  obtain ⟨pk, hpke⟩ : ∃ v, peakAns f p = v := ⟨_, rfl⟩
  obtain ⟨fl, hfle⟩ : ∃ v, floorAns f p = v := ⟨_, rfl⟩
  rw [hz, hsl] at hsp
  rw [hz, hpke] at hpk
  rw [hz, hfle] at hfl
  rw [hz] at hpe
  have HSP := hide hsp
  have HPK := hide hpk
  have HFL := hide hfl
  have HPE := hide hpe
  have HZ := hide hz
  have HSL := hide hsl
  have HPKE := hide hpke
  have HFLE := hide hfle
  clear hrs hrp hrf hsp hpk hfl hpe hz hsl hpke hfle
  go_enter Try.func4, Try.ntmps4
  go_wp2_with fail
  refine ((unhide HSP) _ HP.out.now HIO.out.now HIQ.out.now).mono ?_
  rintro e w2 ⟨SA, sn, sc, rfl, hsn, hS, hE2⟩
  have HB2 := hide (HB.out.trans (hE2.mono HB.out.size))
  have HBX2 := hide (HBX.out.move hE2)
  have HPX2 := hide (HPX.out.move hE2)
  have HIO2 := hide (HIO.out.move hE2)
  have HIQ2 := hide (HIQ.out.move hE2)
  have HP2 := hide (HP.out.move hE2)
  have HS2 := hide (show Keeps w2 (fun W' => Spns W' SA sl) from ⟨hS, fun _ hb => Cells.keep hS hb⟩)
  have HSN := hide hsn
  clear hS hsn hw1
  clear hE2 HB HBX HPX HIO HIQ HP x q0 q1 q2 q3 q4 y r0 r1
  obtain ⟨x, q0, q1, q2, q3, q4⟩ := FrmBox.cells (show FrmBox _ _ W H S O PA n c from HBX2.out.now)
  obtain ⟨y, r0, r1⟩ := plan_box HPX2.out.now
  go_wp2_with fail
  refine ((unhide HPK) _ HP2.out.now HIO2.out.now HIQ2.out.now).mono ?_
  rintro e w3 ⟨rfl, hE3⟩
  have HB3 := hide (HB2.out.trans (hE3.mono HB2.out.size))
  have HBX3 := hide (HBX2.out.move hE3)
  have HPX3 := hide (HPX2.out.move hE3)
  have HIO3 := hide (HIO2.out.move hE3)
  have HIQ3 := hide (HIQ2.out.move hE3)
  have HP3 := hide (HP2.out.move hE3)
  have HS3 := hide (HS2.out.move hE3)
  clear hE3 HB2 HBX2 HPX2 HIO2 HIQ2 HP2 x q0 q1 q2 q3 q4 y r0 r1
  obtain ⟨x, q0, q1, q2, q3, q4⟩ := FrmBox.cells (show FrmBox _ _ W H S O PA n c from HBX3.out.now)
  obtain ⟨y, r0, r1⟩ := plan_box HPX3.out.now
  go_wp2_with fail
  refine ((unhide HFL) _ HP3.out.now HIO3.out.now HIQ3.out.now).mono ?_
  rintro e w4 ⟨rfl, hE4⟩
  have HB4 := hide (HB3.out.trans (hE4.mono HB3.out.size))
  have HBX4 := hide (HBX3.out.move hE4)
  have HPX4 := hide (HPX3.out.move hE4)
  have HIO4 := hide (HIO3.out.move hE4)
  have HIQ4 := hide (HIQ3.out.move hE4)
  have HP4 := hide (HP3.out.move hE4)
  have HS4 := hide (HS3.out.move hE4)
  clear hE4 HB3 HBX3 HPX3 HIO3 HIQ3 HP3 x q0 q1 q2 q3 q4 y r0 r1
  obtain ⟨x, q0, q1, q2, q3, q4⟩ := FrmBox.cells (show FrmBox _ _ W H S O PA n c from HBX4.out.now)
  obtain ⟨y, r0, r1⟩ := plan_box HPX4.out.now
  go_wp2_with fail
  refine ((unhide HPE) _ HP4.out.now HIO4.out.now HIQ4.out.now).mono ?_
  rintro e w5 ⟨rfl, hE5⟩
  have HB5 := hide (HB4.out.trans (hE5.mono HB4.out.size))
  have HBX5 := hide (HBX4.out.move hE5)
  have HPX5 := hide (HPX4.out.move hE5)
  have HIO5 := hide (HIO4.out.move hE5)
  have HIQ5 := hide (HIQ4.out.move hE5)
  have HP5 := hide (HP4.out.move hE5)
  have HS5 := hide (HS4.out.move hE5)
  clear hE5 HB4 HBX4 HPX4 HIO4 HIQ4 HP4 HS2 HS3 HS4 x q0 q1 q2 q3 q4 y r0 r1 HSP HPK HFL HPE
  have hneq := run_neq_span
  by_cases h0 : z = 0
  · have hin : frErr f = 0 ∧ InOrder f p := by
      have h1 := HZ.out
      unfold planErr at h1
      by_cases hf : frErr f = 0
      · refine ⟨hf, ?_⟩
        rw [if_neg (fun e => e hf)] at h1
        by_cases hi : InOrder f p
        · exact hi
        · rw [if_neg hi] at h1; omega
      · rw [if_pos hf] at h1; omega
    have HC1 := hide ((unhide HRS) (frErr_zero.1 hin.1) hin.2)
    have HC2 := hide ((unhide HRP) (frErr_zero.1 hin.1) hin.2)
    have HC3 := hide ((unhide HRF) (frErr_zero.1 hin.1) hin.2)
    have e1 : spansTo f p n = sl := by rw [← HSL.out, ← HFN.out]; exact (if_pos (HZ.out.trans h0)).symm
    have e2 : peakOf f p = pk := by rw [← HPKE.out]; exact (if_pos (HZ.out.trans h0)).symm
    have e3 : floorOf f p = fl := by rw [← HFLE.out]; exact (if_pos (HZ.out.trans h0)).symm
    rw [e1] at HC1
    rw [e2] at HC2
    rw [e3] at HC3
    have h12 := (frErr_zero.1 hin.1).many
    have hsb : sn ≤ 12 := by have h1 := HSN.out; rw [← e1] at h1; simp [spansTo] at h1; have h2 := HFN.out; omega
    clear HRS HRP HRF hin e1 e2 e3 HFN HPKE HFLE HSL HZ h12
    subst h0
    obtain ⟨x, q0, q1, q2, q3, q4⟩ := FrmBox.cells (show FrmBox _ _ W H S O PA n c from HBX5.out.now)
    obtain ⟨y, r0, r1⟩ := plan_box HPX5.out.now
    have HCS := hide (show Keeps w5 (fun w' => w'.cell? ⟨w.heap.size, 0, none⟩ = some (.int .i64 W) ∧ w'.cell? ⟨w.heap.size, 1, none⟩ = some (.int .i64 H) ∧ w'.cell? ⟨w.heap.size, 2, none⟩ = some (.int .i64 S) ∧ w'.cell? ⟨w.heap.size, 3, none⟩ = some (.int .i64 O) ∧ w'.cell? ⟨w.heap.size, 4, none⟩ = some (.slice PA n c) ∧ w'.cell? ⟨w.heap.size + 1, 0, none⟩ = some (.slice OA on oc) ∧ w'.cell? ⟨w.heap.size + 1, 1, none⟩ = some (.slice QA qn qc)) from ⟨⟨q0, q1, q2, q3, q4, r0, r1⟩, fun _ hb => ⟨keepC hb q0, keepC hb q1, keepC hb q2, keepC hb q3, keepC hb q4, keepC hb r0, keepC hb r1⟩⟩)
    go_wp2_with fail
    go_region_held3 (fun w' => w'.cell? ⟨w.heap.size, 0, none⟩ = some (.int .i64 W) ∧ w'.cell? ⟨w.heap.size, 1, none⟩ = some (.int .i64 H) ∧ w'.cell? ⟨w.heap.size, 2, none⟩ = some (.int .i64 S) ∧ w'.cell? ⟨w.heap.size, 3, none⟩ = some (.int .i64 O) ∧ w'.cell? ⟨w.heap.size, 4, none⟩ = some (.slice PA n c) ∧ w'.cell? ⟨w.heap.size + 1, 0, none⟩ = some (.slice OA on oc) ∧ w'.cell? ⟨w.heap.size + 1, 1, none⟩ = some (.slice QA qn qc))
      (first | exact HCS.out.later _ hB8 | exact HCS.out.later _ hB7 | exact HCS.out.later _ hB6 | exact HCS.out.later _ (Below.refl _ _).drew)
      (first
        | (go_simp; go_at_call 21; refine ((unhide HC1) _ (HP5.out.later _ (Below.refl _ _).drew) (HIO5.out.later _ (Below.refl _ _).drew)).mono ?_; rintro e w6 ⟨TA, tn, tc, rfl, htn, hT, hE6⟩; have hB6 : Below w5.heap.size w5 w6 := (Below.refl _ _).drew.trans hE6)
        | (go_simp; go_at_call 22; refine ((unhide HC2) _ (HP5.out.later _ hB6) (HIO5.out.later _ hB6) (HIQ5.out.later _ hB6)).mono ?_; rintro e w7 ⟨rfl, hE7⟩; have hB7 : Below w5.heap.size w5 w7 := hB6.trans (hE7.mono hB6.size))
        | (go_simp; go_at_call 23; refine ((unhide HC3) _ (HP5.out.later _ hB7) (HIO5.out.later _ hB7) (HIQ5.out.later _ hB7)).mono ?_; rintro e w8 ⟨rfl, hE8⟩; have hB8 : Below w5.heap.size w5 w8 := hB7.trans (hE8.mono hB7.size)))
    obtain rfl : sn = tn := by have := HSN.out; omega
    have HSN2 := hide htn
    have hT8 : Spns w8 TA sl := Cells.keep (Cells.keep hT hE7) hE8
    have HS8 := hide (show Keeps w8 (fun W' => Spns W' SA sl ∧ Spns W' TA sl) from ⟨⟨HS5.out.later _ hB8, hT8⟩, fun _ hb => ⟨Cells.keep (HS5.out.later _ hB8) hb, Cells.keep hT8 hb⟩⟩)
    have HB8 := hide (HB5.out.trans (hB8.mono HB5.out.size))
    clear hT hT8 hB6 hB7 hB8 hE6 hE7 hE8 htn x q0 q1 q2 q3 q4 y r0 r1 HCS HBX5 HPX5 HIO5 HIQ5 HP5 HS5 HB5 HC1 HC2 HC3
    go_wp2_with fail
    go_loopw [15] (fun s wr => ∃ k : Nat, k ≤ sn ∧ s = .int .i64 k ∧ Hid (Below w8.heap.size w8 wr)) (fun s _ => sn - (intOf s).toNat)
    case atStart => exact ⟨0, Nat.zero_le _, rfl, hide (Below.refl _ _)⟩
    case round =>
      obtain ⟨k, hk, rfl, HBW⟩ := hrel
      by_cases hlt : k < sn
      · have hk0 : (0 : Int) ≤ (k : Int) := by omega
        have hk1 : (k : Int) < (sn : Int) := by omega
        have hks : k < sl.length := by rw [HSN.out]; exact hlt
        obtain ⟨sb, so, hSA, hsb, hc⟩ := cells_flat (k := 2) (f := spnCells) (fun _ => rfl) (HS8.out.later _ HBW.out).1 hks (by omega)
        obtain ⟨tb, to_, hTA, htb, hd⟩ := cells_flat (k := 2) (f := spnCells) (fun _ => rfl) (HS8.out.later _ HBW.out).2 hks (by omega)
        obtain rfl := hSA
        obtain rfl := hTA
        obtain ⟨v, hv⟩ : ∃ v, sl[k] = v := ⟨_, rfl⟩
        rw [hv] at hc hd
        have c0 : wr.cell? ⟨sb, so + k * 2, none⟩ = some (.int .i64 v.First) := hc 0 (by omega)
        have c1 : wr.cell? ⟨sb, so + k * 2 + 1, none⟩ = some (.int .i64 v.Last) := hc 1 (by omega)
        have d0 : wr.cell? ⟨tb, to_ + k * 2, none⟩ = some (.int .i64 v.First) := hd 0 (by omega)
        have d1 : wr.cell? ⟨tb, to_ + k * 2 + 1, none⟩ = some (.int .i64 v.Last) := hd 1 (by omega)
        clear hc hd hv
        go_wp2_with fail
        go_quiet (fail)
        go_wp2_with fail
        exact ⟨⟨k + 1, by omega, by simp, hide (below_drewN HBW.out _)⟩, by simp [intOf]; omega⟩
      · obtain rfl : k = sn := by omega
        have HB9 := hide (HB8.out.trans (HBW.out.mono HB8.out.size))
        go_wp2_with fail
        refine (planBegun_any _).mono ?_
        rintro e w9 ⟨rfl, hE9⟩
        have HB10 := hide (HB9.out.trans (hE9.mono HB9.out.size))
        clear hE9
        go_wp2_with fail
        go_ret
        exact ⟨rfl, HB10.out⟩
  · have e1 : sl = [] := by rw [← HSL.out]; exact spansAns_no (by rw [HZ.out]; exact h0)
    have e2 : pk = 0 := by rw [← HPKE.out]; exact if_neg (by rw [HZ.out]; exact h0)
    have e3 : fl = 0 := by rw [← HFLE.out]; exact if_neg (by rw [HZ.out]; exact h0)
    have hrz : (z == 0) = false := by simpa using h0
    obtain rfl : sn = 0 := by have := HSN.out; rw [e1] at this; exact this.symm
    clear h0 HRS HRP HRF HFN HPKE HFLE HSL HZ HSN HS5 e1 HBX5 HPX5 HIO5 HIQ5 HP5
    subst e2 e3
    go_wp2_with fail
    go_loop [15] (fun s => s = .int .i64 0) (fun _ => 0)
    case atStart => rfl
    case round =>
      obtain rfl := hrel
      go_wp2_with fail
      refine (planBegun_any _).mono ?_
      rintro e w9 ⟨rfl, hE9⟩
      have HB10 := hide (HB5.out.trans (hE9.mono HB5.out.size))
      clear hE9
      go_wp2_with fail
      go_ret
      exact ⟨rfl, HB10.out⟩
end Go.Proofs.Ytibpmogmeoappab
