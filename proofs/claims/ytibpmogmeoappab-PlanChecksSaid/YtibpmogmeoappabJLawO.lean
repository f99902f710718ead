/- Walks: The law PlanChecks. -/
import Derived.Test.YtibpmogmeoappabJPlnN0
import Derived.Test.YtibpmogmeoappabJPlnO
namespace Go.Proofs.Ytibpmogmeoappab
open Go.RowKit

set_option maxRecDepth 100000 in
set_option maxHeartbeats 8000000 in
theorem planChecks_any (W H S O : Int) (PA : Option Addr) (n c : Nat) (ps : List Pas) (OA : Option Addr) (on oc : Nat) (Od : List Int) (QA : Option Addr) (qn qc : Nat) (Pl : List Int) (room : Int) (w : World) (hn : ps.length = n) (hP : Passes w PA ps) (hl : n ≤ 9223372036854775807)
    (hon : Od.length = on) (hO : Ints w OA Od) (hol : on ≤ 9223372036854775807) (hoc : on ≤ oc) (hqn : Pl.length = qn) (hQ : Ints w QA Pl) (hql : qn ≤ 9223372036854775807) :
    Calls Try.prog 3 #[.agg #[.int .i64 W, .int .i64 H, .int .i64 S, .int .i64 O, .slice PA n c], .agg #[.slice OA on oc, .slice QA qn qc], .int .i64 room] w fun e w' => e = .returned (.bool true) ∧ Below w.heap.size w w' := by
  have hb := ((Below.refl w.heap.size w).alloc (Nat.le_refl _) (.cells #[.int .i64 W, .int .i64 H, .int .i64 S, .int .i64 O, .slice PA n c] 24)).alloc (by simp) (.cells #[.slice OA on oc, .slice QA qn qc] 27)
  have hbx := (show FrmBox (w.alloc (.cells #[.int .i64 W, .int .i64 H, .int .i64 S, .int .i64 O, .slice PA n c] 24)) w.heap.size W H S O PA n c from Blk.new w 24 (frmCells W H S O PA n c)).alloc (.cells #[.slice OA on oc, .slice QA qn qc] 27)
  have hpx : Blk ((w.alloc (.cells #[.int .i64 W, .int .i64 H, .int .i64 S, .int .i64 O, .slice PA n c] 24)).alloc (.cells #[.slice OA on oc, .slice QA qn qc] 27)) (w.heap.size + 1) 27 [.slice OA on oc, .slice QA qn qc] := Blk.newE (by simp)
  obtain ⟨p, hp⟩ : ∃ p : Pln, p = ⟨Od, Pl⟩ := ⟨_, rfl⟩
  have hop : p.Order = Od := by rw [hp]
  have hqp : p.Places = Pl := by rw [hp]
  rw [← hop] at hon hO
  rw [← hqp] at hqn hQ
  have hio := hO.keep hb
  have hiq := hQ.keep hb
  have hpa := hP.keep hb
  have hck := fun (W0 : World) (h1 : Passes W0 PA ps) (h2 : Ints W0 OA p.Order) (h3 : Ints W0 QA p.Places) => planCheck_any W H S O PA n c ps OA on oc QA qn qc p room W0 hn h1 h2 hon hol hoc h3 hqn hql
  have hcr := fun (W0 : World) (h1 : Passes W0 PA ps) (h2 : Ints W0 OA p.Order) (h3 : Ints W0 QA p.Places) => checkPlan_ref W H S O PA n c ps OA on oc QA qn qc p room W0 hn h1 hl h2 hon hol h3 hqn hql
  obtain ⟨f, hf⟩ : ∃ f : Frm, f = ⟨W, H, S, O, ps⟩ := ⟨_, rfl⟩
  rw [← hf] at hck hcr
  obtain ⟨w1, hw1⟩ : ∃ w1, (w.alloc (.cells #[.int .i64 W, .int .i64 H, .int .i64 S, .int .i64 O, .slice PA n c] 24)).alloc (.cells #[.slice OA on oc, .slice QA qn qc] 27) = w1 := ⟨_, rfl⟩
  rw [hw1] at hb hbx hpx hio hiq hpa
  have HB := hide hb
  have HBX := hide (Keeps.blk hbx)
  have HPX := hide (Keeps.blk hpx)
  have HIO := hide (Keeps.ints hio)
  have HIQ := hide (Keeps.ints hiq)
  have HP := hide (Keeps.passes hpa)
  obtain ⟨x, q0, q1, q2, q3, q4⟩ := FrmBox.cells (show FrmBox _ _ W H S O PA n c from hbx)
  obtain ⟨y, r0, r1⟩ := plan_box hpx
  clear hn hP hl hon hO hol hoc hqn hQ hql hb hbx hpx hio hiq hpa hp hop hqp hf
  obtain ⟨r, hr⟩ : ∃ r, pckErr f p room = r := ⟨_, rfl⟩
  rw [hr] at hck hcr
  have HCK := hide hck
  have HCR := hide hcr
  clear hck hcr hr
  have HCS := hide (show Keeps w1 (fun w' => w'.cell? ⟨w.heap.size, 0, none⟩ = some (.int .i64 W) ∧ w'.cell? ⟨w.heap.size, 1, none⟩ = some (.int .i64 H) ∧ w'.cell? ⟨w.heap.size, 2, none⟩ = some (.int .i64 S) ∧ w'.cell? ⟨w.heap.size, 3, none⟩ = some (.int .i64 O) ∧ w'.cell? ⟨w.heap.size, 4, none⟩ = some (.slice PA n c) ∧ w'.cell? ⟨w.heap.size + 1, 0, none⟩ = some (.slice OA on oc) ∧ w'.cell? ⟨w.heap.size + 1, 1, none⟩ = some (.slice QA qn qc)) from ⟨⟨q0, q1, q2, q3, q4, r0, r1⟩, fun _ hb => ⟨keepC hb q0, keepC hb q1, keepC hb q2, keepC hb q3, keepC hb q4, keepC hb r0, keepC hb r1⟩⟩)
  go_enter Try.func3, Try.ntmps3
  go_wp2_with fail
  go_region_held3 (fun w' => w'.cell? ⟨w.heap.size, 0, none⟩ = some (.int .i64 W) ∧ w'.cell? ⟨w.heap.size, 1, none⟩ = some (.int .i64 H) ∧ w'.cell? ⟨w.heap.size, 2, none⟩ = some (.int .i64 S) ∧ w'.cell? ⟨w.heap.size, 3, none⟩ = some (.int .i64 O) ∧ w'.cell? ⟨w.heap.size, 4, none⟩ = some (.slice PA n c) ∧ w'.cell? ⟨w.heap.size + 1, 0, none⟩ = some (.slice OA on oc) ∧ w'.cell? ⟨w.heap.size + 1, 1, none⟩ = some (.slice QA qn qc))
    (first | exact HCS.out.later _ hB4 | exact HCS.out.later _ hB3 | exact HCS.out.later _ hB2 | exact HCS.out.later _ (Below.refl _ _).drew)
    (first
      | (go_simp; go_at_call 14; refine (planBegun_any _).mono ?_; rintro e w2 ⟨rfl, hE2⟩; have hB2 : Below w1.heap.size w1 w2 := (Below.refl _ _).drew.trans hE2)
      | (go_simp; go_at_call 15; refine ((unhide HCK) _ (HP.out.later _ hB2) (HIO.out.later _ hB2) (HIQ.out.later _ hB2)).mono ?_; rintro e w3 ⟨rfl, hE3⟩; have hB3 : Below w1.heap.size w1 w3 := hB2.trans (hE3.mono hB2.size))
      | (go_simp; go_at_call 16; refine ((unhide HCR) _ (HP.out.later _ hB3) (HIO.out.later _ hB3) (HIQ.out.later _ hB3)).mono ?_; rintro e w4 ⟨rfl, hE4⟩; have hB4 : Below w1.heap.size w1 w4 := hB3.trans (hE4.mono hB3.size)))
  go_wp2_with fail
  go_ret
  exact ⟨rfl, HB.out.trans (hB4.mono HB.out.size)⟩
end Go.Proofs.Ytibpmogmeoappab
