/- Plans that came in: two slices of numbers. -/
import Derived.Test.YtibpmogmeoappabJWrap
namespace Go.Proofs.Ytibpmogmeoappab
open Go.ChangeShapes Go.WideShapes Go.ChangeAt Go.RowKit

/-- a slice of numbers that came in, and its room -/
theorem ints_room {H : Type} {enc : TypeId × Value → H} {W : World} {base : Nat} {n : Nat} {v : Value} {y : DataW H × List MemPlace}
    (h : DataW.trod enc Try.prog W base (fun _ => true) true n 25 [v] = some y) : ∃ (A : Option Addr) (len cap : Nat) (xs : List Int), v = .slice A len cap ∧ xs.length = len ∧ Ints W A xs ∧ len ≤ 9223372036854775807 ∧ len ≤ cap := by
  obtain ⟨A, len, cap, xs, hv, h1, h2, h3⟩ := ints_in h
  refine ⟨A, len, cap, xs, hv, h1, h2, h3, ?_⟩
  rcases open_ints (k := .i64) Try.underlying25 Try.underlying3 (by kernel_rfl) h with ⟨hcs, _⟩ | ⟨a, len', cap', zs, hcs, _, hl, _, _, _, _, _⟩
  · injection hcs with hv'
    rw [hv] at hv'
    cases hv'
    exact Nat.le_refl _
  · injection hcs with hv'
    rw [hv] at hv'
    cases hv'
    exact hl
set_option maxRecDepth 100000 in
/-- a plan that came in, by value -/
theorem plan_in {H : Type} {enc : TypeId × Value → H} {W : World} {r : Reach} {b0 : Nat} {v : Value} {d : DataW H} {p : List MemPlace}
    (hv : Value.okWide Try.prog W r b0 27 v) (h : DataW.Trod enc Try.prog W 0 (fun _ => true) true 27 v d p) :
    ∃ (A : Option Addr) (n c : Nat) (P : List Int) (B : Option Addr) (m e : Nat) (Q : List Int), v = .agg #[.slice A n c, .slice B m e] ∧ P.length = n ∧ Ints W A P ∧ n ≤ 9223372036854775807 ∧ n ≤ c ∧ Q.length = m ∧ Ints W B Q ∧ m ≤ 9223372036854775807 := by
  obtain ⟨v0, v1, y0, y1, n, rfl, _, _, t0, t1⟩ := Joins.open_agg2 Try.underlying27 (by kernel_rfl) (by kernel_rfl) hv h
  obtain ⟨A, len, cap, xs, rfl, hx, hI, hl, hc⟩ := ints_room t0
  obtain ⟨B, len', cap', ys, rfl, hy, hJ, hl'⟩ := ints_in t1
  exact ⟨A, len, cap, xs, B, len', cap', ys, rfl, hx, hI, hl, hc, hy, hJ, hl'⟩
end Go.Proofs.Ytibpmogmeoappab
