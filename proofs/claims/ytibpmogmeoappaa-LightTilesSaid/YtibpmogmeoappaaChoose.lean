/- Small things: choose; slices of structs as flat cells. -/
import Derived.Test.YtibpmogmeoappaaLitA
import Derived.Test.YtibpmogmeoappaaKeep
namespace Go.Proofs.Ytibpmogmeoappaa
open Go.RowKit

theorem flatMap_get {α β : Type} (f : α → List β) (k : Nat) (hf : ∀ x, (f x).length = k) : ∀ (ls : List α) (i j : Nat) (hi : i < ls.length), j < k → (ls.flatMap f)[i * k + j]? = (f ls[i])[j]?
  | [], i, j, hi, _ => by simp at hi
  | x :: ls, 0, j, hi, hj => by
    rw [List.flatMap_cons, Nat.zero_mul, Nat.zero_add, List.getElem?_append_left (by rw [hf]; exact hj)]
    rfl
  | x :: ls, i + 1, j, hi, hj => by
    have hi' : i < ls.length := by simpa using hi
    rw [List.flatMap_cons, List.getElem?_append_right (by rw [hf, Nat.succ_mul]; omega), hf, show (i + 1) * k + j - k = i * k + j by rw [Nat.succ_mul]; omega, flatMap_get f k hf ls i j hi' hj]
    rfl
theorem flatMap_len {α β : Type} (f : α → List β) (k : Nat) (hf : ∀ x, (f x).length = k) (ls : List α) : (ls.flatMap f).length = ls.length * k := by
  induction ls with
  | nil => simp
  | cons x ls ih => rw [List.flatMap_cons, List.length_append, ih, hf, List.length_cons, Nat.succ_mul]; omega
/-- a row of structs of k cells -/
theorem cells_flat {w : World} {A : Option Addr} {α : Type} {f : α → List Value} {k : Nat} {ls : List α} (hf : ∀ x, (f x).length = k) (h : Cells w A (ls.flatMap f)) {i : Nat} (hi : i < ls.length) (h0 : 0 < k) :
    ∃ b o, A = some ⟨b, o, none⟩ ∧ b < w.heap.size ∧ ∀ j, j < k → w.cell? ⟨b, o + i * k + j, none⟩ = some ((f ls[i]).getD j undef) := by
  have hlen := flatMap_len f k hf ls
  have hik : i * k + k ≤ ls.length * k := by rw [← Nat.succ_mul]; exact Nat.mul_le_mul_right k hi
  obtain ⟨b, o, hA, hlt, _⟩ := h (i * k) (by omega)
  refine ⟨b, o, hA, hlt, fun j hj => ?_⟩
  obtain ⟨b', o', hA', _, hc⟩ := h (i * k + j) (by omega)
  rw [hA] at hA'
  injection hA' with hA'
  injection hA' with e1 e2
  subst e1 e2
  rw [Nat.add_assoc, hc, List.getD_eq_getElem?_getD, List.getD_eq_getElem?_getD, flatMap_get f k hf ls i j hi hj]
theorem cells_lamps {w : World} {A : Option Addr} {ls : List Lamp} (h : Cells w A (ls.flatMap lampCells)) : Lamps w A ls := by
  intro i hi
  obtain ⟨b, o, h1, h2, h3⟩ := cells_flat (k := 4) (fun x => rfl) h hi (by omega)
  refine ⟨b, o, h1, h2, fun j hj => ?_⟩
  have e : ls.getD i ⟨0, 0, 0, 0⟩ = ls[i] := by rw [List.getD_eq_getElem?_getD, List.getElem?_eq_getElem hi]; rfl
  rw [h3 j hj, e]
theorem Try.info59 : (Try.prog.info? 59).map (fun i => (i.zero, i.size, i.bytes)) = some (some (.agg #[.int .i64 0, .int .i64 0, .int .i64 0, .int .i64 0]), 4, 32) := by kernel_rfl
theorem lamp_one (l : Lamp) : ∀ u ∈ lampCells l, u.oneCell' = true := by
  intro u hu
  simp only [lampCells, List.mem_cons, List.not_mem_nil, or_false] at hu
  rcases hu with rfl | rfl | rfl | rfl <;> rfl

theorem choose_ref (k n : Int) (w : World) (hk : -9223372036854775808 ≤ k ∧ k ≤ 9223372036854775807) (hn : 1 ≤ n) (hn2 : n ≤ 9223372036854775807) :
    Calls Try.prog 26 #[.int .i64 k, .int .i64 n] w fun e w' => ∃ c : Int, (0 ≤ c ∧ c < n) ∧ e = .returned (.int .i64 c) ∧ w = w' := by
  have hn0 : ¬ n = 0 := by omega
  by_cases h : k < 0
  · have e1 : wrap64 (k + 1) = k + 1 := wrap64_of (by omega) (by omega)
    have e2 : wrap64 (-(k + 1)) = -(k + 1) := wrap64_of (by omega) (by omega)
    have e3 : wrap64 ((-(k + 1)).tmod n) = (-(k + 1)).tmod n := wrap64_of (by have := Int.tmod_nonneg n (show 0 ≤ -(k + 1) by omega); omega) (by have := Int.tmod_lt_of_pos (-(k + 1)) (show 0 < n by omega); omega)
    have r1 := Int.tmod_nonneg n (show 0 ≤ -(k + 1) by omega)
    have r2 := Int.tmod_lt_of_pos (-(k + 1)) (show 0 < n by omega)
    go_enter Try.func26, Try.ntmps26
    go_wp2
    go_ret
    refine ⟨_, ?_, rfl, rfl⟩
    rw [← Int.neg_tmod]; exact ⟨r1, r2⟩
  · have e3 : wrap64 (k.tmod n) = k.tmod n := wrap64_of (by have := Int.tmod_nonneg n (show 0 ≤ k by omega); omega) (by have := Int.tmod_lt_of_pos k (show 0 < n by omega); omega)
    have r1 := Int.tmod_nonneg n (show 0 ≤ k by omega)
    have r2 := Int.tmod_lt_of_pos k (show 0 < n by omega)
    go_enter Try.func26, Try.ntmps26
    go_wp2
    go_ret
    exact ⟨_, ⟨Int.emod_nonneg k hn0, Int.emod_lt_of_pos k (by omega)⟩, rfl, rfl⟩
end Go.Proofs.Ytibpmogmeoappaa
