/- Walks over lights: abs, far, gives, outside. -/
import Derived.Test.YtibpmogmeoappaaLitA
namespace Go.Proofs.Ytibpmogmeoappaa
open Go.RowKit

theorem abs_any (x : Int) (w : World) (h1 : -1000 ≤ x) (h2 : x ≤ 1000) : Calls Try.prog 96 #[.int .i64 x] w fun e w' => e = .returned (.int .i64 (max x (-x))) ∧ w = w' := by
  by_cases h : 0 ≤ x
  · have e : max x (-x) = x := by omega
    rw [e]
    go_enter Try.func96, Try.ntmps96
    go_wp2
    all_goals try (exfalso; omega)
    go_ret
    first | exact ⟨rfl, rfl⟩ | (refine ⟨ret_int ?_, rfl⟩; split <;> omega)
  · have e : max x (-x) = -x := by omega
    rw [e]
    go_enter Try.func96, Try.ntmps96
    go_wp2
    all_goals try (exfalso; omega)
    go_ret
    first | exact ⟨rfl, rfl⟩ | (refine ⟨ret_int ?_, rfl⟩; split <;> omega)

theorem abs_quiet (x : Int) (w : World) (h1 : -1000 ≤ x) (h2 : x ≤ 1000) (k : Nat) : Calls Try.prog 96 #[.int .i64 x] (w.drewN k) fun e w' => e = .returned (.int .i64 (max x (-x))) ∧ ∃ q, w' = w.drewN q :=
  (abs_any x (w.drewN k) h1 h2).mono fun _ _ ⟨e1, e2⟩ => ⟨e1, k, e2.symm⟩
theorem quo_lit (K T R : Int) (h1 : 0 ≤ K) (h2 : K ≤ 65535) (h3 : 0 ≤ T) (h4 : T ≤ 1000) (h5 : 1 ≤ R) (h6 : R ≤ 32) : wrap64 ((wrap64 (K * T)).tdiv R) = K * T / R := by
  have p0 : 0 ≤ K * T := Int.mul_nonneg h1 h3
  have p1 : K * T ≤ 65535 * 1000 := Int.mul_le_mul h2 h4 h3 (by omega)
  rw [wrap64_of (n := K * T) (by omega) (by omega), Int.tdiv_eq_ediv_of_nonneg p0]
  have q0 : 0 ≤ K * T / R := Int.ediv_nonneg p0 (by omega)
  have q1 : K * T / R ≤ K * T := Int.ediv_le_self _ p0
  exact wrap64_of (by omega) (by omega)

set_option maxRecDepth 100000 in
theorem far_any (l : Lamp) (x y : Int) (w : World) (hF : l.Fine) (hx : -20 ≤ x ∧ x ≤ 50) (hy : -20 ≤ y ∧ y ≤ 50) :
    Calls Try.prog 72 #[.agg (lampCells l).toArray, .int .i64 x, .int .i64 y] w fun e w' => e = .returned (.int .i64 (l.far x y)) ∧ Below w.heap.size w w' := by
  obtain ⟨⟨f1, f2⟩, ⟨f3, f4⟩, ⟨f5, f6⟩, ⟨f7, f8⟩⟩ := hF
  obtain ⟨X, Y, R, K⟩ := l
  simp only [lampCells] at *
  have e1 : IntKind.i64.wrap (X - x) = X - x := IntWalk.i64_in _ (by omega)
  have e2 : IntKind.i64.wrap (Y - y) = Y - y := IntWalk.i64_in _ (by omega)
  have e3 : IntKind.i64.wrap (max (X - x) (-(X - x)) + max (Y - y) (-(Y - y))) = max (X - x) (-(X - x)) + max (Y - y) (-(Y - y)) := IntWalk.i64_in _ (by omega)
  go_enter Try.func72, Try.ntmps72
  go_wp2_with fail
  have kb := Blk.new w 59 [.int .i64 X, .int .i64 Y, .int .i64 R, .int .i64 K]
  have a0 : (w.alloc (.cells #[.int .i64 X, .int .i64 Y, .int .i64 R, .int .i64 K] 59)).cell? ⟨w.heap.size, 0, none⟩ = some (.int .i64 X) := by rw [kb.cell]; rfl
  have a1 : (w.alloc (.cells #[.int .i64 X, .int .i64 Y, .int .i64 R, .int .i64 K] 59)).cell? ⟨w.heap.size, 1, none⟩ = some (.int .i64 Y) := by rw [kb.cell]; rfl
  have HB := hide ((Below.refl w.heap.size w).alloc (Nat.le_refl _) (.cells #[.int .i64 X, .int .i64 Y, .int .i64 R, .int .i64 K] 59))
  clear kb
  generalize (w.alloc (.cells #[.int .i64 X, .int .i64 Y, .int .i64 R, .int .i64 K] 59)) = w1 at *
  have H1 := hide (abs_quiet (X - x) w1 (by omega) (by omega))
  have H2 := hide (abs_quiet (Y - y) w1 (by omega) (by omega))
  go_quiet ((go_at_call 96; first | (with_reducible exact (unhide H1) _) | (with_reducible exact (unhide H2) _)))
  go_wp2_with fail
  go_ret
  exact ⟨rfl, below_drewN HB.out _⟩

set_option maxRecDepth 100000 in
theorem gives_any (l : Lamp) (x y : Int) (w : World) (hF : l.Fine) (hx : -20 ≤ x ∧ x ≤ 50) (hy : -20 ≤ y ∧ y ≤ 50) :
    Calls Try.prog 70 #[.agg (lampCells l).toArray, .int .i64 x, .int .i64 y] w fun e w' => e = .returned (.int .i64 (l.gives x y)) ∧ Below w.heap.size w w' := by
  obtain ⟨⟨f1, f2⟩, ⟨f3, f4⟩, ⟨f5, f6⟩, ⟨f7, f8⟩⟩ := hF
  obtain ⟨X, Y, R, K⟩ := l
  simp only [lampCells] at *
  go_enter Try.func70, Try.ntmps70
  go_wp2
  all_goals (go_ret; refine ⟨ret_int ?_, (Below.refl _ _).alloc (Nat.le_refl _) _⟩)
  all_goals first
    | (rw [quo_lit _ _ _ f7 f8 (by omega) (by omega) f5 f6]; unfold Lamp.gives Lamp.far; simp only; rw [if_pos (by omega)]; congr 2; omega)
    | (unfold Lamp.gives Lamp.far; simp only; rw [if_neg (by omega)])

theorem outside_any (a lo k : Int) (w : World) (ha : -20 ≤ a ∧ a ≤ 50) (hlo : -20 ≤ lo ∧ lo ≤ 50) (hk : -20 ≤ k ∧ k ≤ 50) :
    Calls Try.prog 95 #[.int .i64 a, .int .i64 lo, .int .i64 k] w fun e w' => e = .returned (.int .i64 (outside a lo k)) ∧ w = w' := by
  go_enter Try.func95, Try.ntmps95
  go_wp2
  all_goals (go_ret; refine ⟨ret_int ?_, rfl⟩; unfold outside; try simp only [decide_eq_true_eq] at *)
  all_goals first | omega | (split <;> omega) | (trace_state; sorry)
end Go.Proofs.Ytibpmogmeoappaa
