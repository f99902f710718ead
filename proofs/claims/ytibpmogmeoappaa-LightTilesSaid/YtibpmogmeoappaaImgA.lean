/- Walks over small functions on images: within, at, ImageFine, Min, Max, Check. -/
import Derived.Test.YtibpmogmeoappaaProg
import Derived.Test.YtibpmogmeoappaaApp
namespace Go.Proofs.Ytibpmogmeoappaa
open Go.RowKit

def FineTo (P : List Int) (k : Nat) : Prop := ∀ i, i < k → ∀ x, P[i]? = some x → 0 ≤ x ∧ x ≤ 65535
theorem fineTo_succ {P : List Int} {k : Nat} {x : Int} (h : FineTo P k) (hx : P[k]? = some x) (h0 : 0 ≤ x) (h1 : x ≤ 65535) : FineTo P (k + 1) := by
  intro i hi y hy
  by_cases e : i = k
  · subst e; rw [hx] at hy; injection hy with hy; subst hy; exact ⟨h0, h1⟩
  · exact h i (by omega) y hy
theorem fine_mk {W H : Int} {P : List Int} {n : Nat} (hn : P.length = n) (h1 : 1 ≤ W) (h2 : W ≤ 16) (h3 : 1 ≤ H) (h4 : H ≤ 16) (hm : ((n : Int) != wrap64 (W * H)) = false) (h : FineTo P n) : Img.Fine ⟨W, H, P⟩ := by
  refine ⟨⟨h1, h2⟩, ⟨h3, h4⟩, ?_, ?_⟩
  · rw [wrap64_mul16 h1 h2 h3 h4] at hm; simp at hm; simpa [hn] using hm
  · intro x hx
    obtain ⟨i, hi, rfl⟩ := List.getElem_of_mem hx
    exact h i (by simp at hi; omega) _ (List.getElem?_eq_getElem hi)
theorem not_fine_len {W H : Int} {P : List Int} {n : Nat} (hn : P.length = n) (hm : ((n : Int) != wrap64 (W * H)) = true) : ¬ Img.Fine ⟨W, H, P⟩ := by
  rintro ⟨⟨h1, h2⟩, ⟨h3, h4⟩, h5, _⟩
  simp only at h1 h2 h3 h4 h5
  rw [wrap64_mul16 h1 h2 h3 h4] at hm
  simp at hm; omega
theorem not_fine_dim {W H : Int} {P : List Int} (h : ¬ (1 ≤ W ∧ W ≤ 16 ∧ 1 ≤ H ∧ H ≤ 16)) : ¬ Img.Fine ⟨W, H, P⟩ := by
  rintro ⟨⟨h1, h2⟩, ⟨h3, h4⟩, _⟩
  exact h ⟨h1, h2, h3, h4⟩
theorem not_fine_at {W H : Int} {P : List Int} {k : Nat} {x : Int} (hx : P[k]? = some x) (h : ¬ (0 ≤ x ∧ x ≤ 65535)) : ¬ Img.Fine ⟨W, H, P⟩ := by
  rintro ⟨_, _, _, h6⟩
  exact h (h6 x (List.mem_of_getElem? hx))

set_option maxHeartbeats 400000 in
theorem fine_any (W H : Int) (A : Option Addr) (n c : Nat) (P : List Int) (w : World) (hn : P.length = n) (hI : Ints w A P) (hl : n ≤ 9223372036854775807) :
    Calls Try.prog 18 #[.agg #[.int .i64 W, .int .i64 H, .slice A n c]] w fun e w' => e = .returned (.bool (decide (Img.Fine ⟨W, H, P⟩))) ∧ Below w.heap.size w w' := by
  have HN := hide hn
  clear hn
  go_enter Try.func18, Try.ntmps18
  go_wp2
  · go_ret; exact ⟨ret_bool (Eq.symm (decide_eq_false (not_fine_dim (by omega)))), (Below.refl _ _).alloc (Nat.le_refl _) _⟩
  · go_ret; exact ⟨ret_bool (Eq.symm (decide_eq_false (not_fine_dim (by omega)))), (Below.refl _ _).alloc (Nat.le_refl _) _⟩
  · go_ret; refine ⟨ret_bool (Eq.symm (decide_eq_false (not_fine_len HN.out (by assumption)))), (Below.refl _ _).alloc (Nat.le_refl _) _⟩
  · have hm : ((n : Int) != wrap64 (W * H)) = false := by assumption
    have Hm := hide hm
    clear hm
    go_loop [3] (fun i => ∃ k : Nat, k ≤ n ∧ i = .int .i64 k ∧ FineTo P k) (fun i => n - (intOf i).toNat)
    case atStart => exact ⟨0, Nat.zero_le _, rfl, by intro i hi; omega⟩
    case round =>
      obtain ⟨k, hk, rfl, hF⟩ := hrel
      have HF := hide hF
      clear hF
      by_cases hlt : k < n
      · obtain ⟨b, o, x, rfl, hb, hx, hc⟩ := hI.at_ k (by have := HN.out; omega)
        have HX := hide hx
        clear hx
        go_wp2
        · have h2 : ¬ (x ≤ 65535) := of_nd' (by assumption)
          go_ret
          refine ⟨ret_bool (Eq.symm (decide_eq_false (not_fine_at HX.out (by omega)))), (Below.refl _ _).alloc (Nat.le_refl _) _⟩
        · go_round
          case rel => exact ⟨k + 1, by omega, by go_num, fineTo_succ HF.out HX.out (by assumption) (of_nd (by assumption))⟩
          case measure => simp [intOf]; omega
        · go_ret
          refine ⟨ret_bool (Eq.symm (decide_eq_false (not_fine_at HX.out (by omega)))), (Below.refl _ _).alloc (Nat.le_refl _) _⟩
      · go_wp2
        go_ret
        obtain rfl : k = n := by omega
        refine ⟨ret_bool (Eq.symm (decide_eq_true (fine_mk HN.out (by assumption) (by assumption) (by assumption) (by assumption) Hm.out HF.out))), (Below.refl _ _).alloc (Nat.le_refl _) _⟩
  · go_ret; exact ⟨ret_bool (Eq.symm (decide_eq_false (not_fine_dim (by omega)))), (Below.refl _ _).alloc (Nat.le_refl _) _⟩
  · go_ret; exact ⟨ret_bool (Eq.symm (decide_eq_false (not_fine_dim (by omega)))), (Below.refl _ _).alloc (Nat.le_refl _) _⟩

def MinTo (P : List Int) (k : Nat) (m : Int) : Prop := (∃ j, j < k ∧ P[j]? = some m) ∧ ∀ j, j < k → ∀ x, P[j]? = some x → m ≤ x
def MaxTo (P : List Int) (k : Nat) (m : Int) : Prop := (∃ j, j < k ∧ P[j]? = some m) ∧ ∀ j, j < k → ∀ x, P[j]? = some x → x ≤ m
theorem minTo_succ {P : List Int} {k : Nat} {m x : Int} (h : MinTo P k m) (hx : P[k]? = some x) : MinTo P (k + 1) (min m x) := by
  obtain ⟨⟨j, hj, hm⟩, ha⟩ := h
  refine ⟨?_, ?_⟩
  · by_cases e : m ≤ x
    · exact ⟨j, by omega, by rw [Int.min_eq_left e]; exact hm⟩
    · exact ⟨k, by omega, by rw [Int.min_eq_right (by omega)]; exact hx⟩
  · intro i hi y hy
    by_cases e : i = k
    · subst e; rw [hx] at hy; injection hy with hy; omega
    · have := ha i (by omega) y hy; omega
theorem maxTo_succ {P : List Int} {k : Nat} {m x : Int} (h : MaxTo P k m) (hx : P[k]? = some x) : MaxTo P (k + 1) (max m x) := by
  obtain ⟨⟨j, hj, hm⟩, ha⟩ := h
  refine ⟨?_, ?_⟩
  · by_cases e : x ≤ m
    · exact ⟨j, by omega, by rw [Int.max_eq_left e]; exact hm⟩
    · exact ⟨k, by omega, by rw [Int.max_eq_right (by omega)]; exact hx⟩
  · intro i hi y hy
    by_cases e : i = k
    · subst e; rw [hx] at hy; injection hy with hy; omega
    · have := ha i (by omega) y hy; omega
theorem minTo_one {P : List Int} {x : Int} (hx : P[0]? = some x) : MinTo P 1 x := ⟨⟨0, by omega, hx⟩, fun j hj y hy => by
  obtain rfl : j = 0 := by omega
  rw [hx] at hy; injection hy with hy; omega⟩
theorem maxTo_one {P : List Int} {x : Int} (hx : P[0]? = some x) : MaxTo P 1 x := ⟨⟨0, by omega, hx⟩, fun j hj y hy => by
  obtain rfl : j = 0 := by omega
  rw [hx] at hy; injection hy with hy; omega⟩
def RetMin (P : List Int) (n : Nat) (w : World) (e : Ending) (w' : World) : Prop := ∃ m : Int, MinTo P n m ∧ e = .returned (.int .i64 m) ∧ w = w'
def RetMax (P : List Int) (n : Nat) (w : World) (e : Ending) (w' : World) : Prop := ∃ m : Int, MaxTo P n m ∧ e = .returned (.int .i64 m) ∧ w = w'

set_option maxHeartbeats 400000 in
theorem min_any (A : Option Addr) (n c : Nat) (P : List Int) (w : World) (hn : P.length = n) (h0 : 0 < n) (hI : Ints w A P) (hl : n ≤ 9223372036854775807) :
    Calls Try.prog 55 #[.slice A n c] w (RetMin P n w) := by
  obtain ⟨b, o, x, rfl, hb, hx, hc⟩ := hI.at_ 0 (by omega)
  have HN := hide hn
  have HX := hide hx
  rw [Nat.add_zero] at hc
  clear hn hx
  have h0' : ¬ ((n : Int) < 1) := by omega
  go_enter Try.func55, Try.ntmps55
  go_wp2
  go_loop [3, 4] (fun m i => ∃ (k : Nat) (v : Int), 1 ≤ k ∧ k ≤ n ∧ i = .int .i64 k ∧ m = .int .i64 v ∧ MinTo P k v) (fun _ i => n - (intOf i).toNat)
  case atStart => exact ⟨1, x, by omega, by omega, rfl, rfl, minTo_one HX.out⟩
  case round =>
    obtain ⟨k, v, hk1, hk, rfl, rfl, hM⟩ := hrel
    have HM := hide hM
    clear hM hc
    by_cases hlt : k < n
    · obtain ⟨b', o', y, hA, hb', hy, hc⟩ := hI.at_ k (by have := HN.out; omega)
      injection hA with hA; injection hA with hA1 hA2
      subst hA1 hA2
      have HY := hide hy
      clear hy
      go_wp2
      all_goals
        go_round
        case rel => exact ⟨k + 1, _, by omega, by omega, by go_num, rfl, by rw [ite_min]; exact minTo_succ HM.out HY.out⟩
        case measure => simp [intOf]; omega
    · go_wp2
      go_ret
      obtain rfl : k = n := by omega
      exact ⟨v, HM.out, rfl, rfl⟩

set_option maxHeartbeats 400000 in
theorem max_any (A : Option Addr) (n c : Nat) (P : List Int) (w : World) (hn : P.length = n) (h0 : 0 < n) (hI : Ints w A P) (hl : n ≤ 9223372036854775807) :
    Calls Try.prog 56 #[.slice A n c] w (RetMax P n w) := by
  obtain ⟨b, o, x, rfl, hb, hx, hc⟩ := hI.at_ 0 (by omega)
  have HN := hide hn
  have HX := hide hx
  rw [Nat.add_zero] at hc
  clear hn hx
  have h0' : ¬ ((n : Int) < 1) := by omega
  go_enter Try.func56, Try.ntmps56
  go_wp2
  go_loop [3, 4] (fun m i => ∃ (k : Nat) (v : Int), 1 ≤ k ∧ k ≤ n ∧ i = .int .i64 k ∧ m = .int .i64 v ∧ MaxTo P k v) (fun _ i => n - (intOf i).toNat)
  case atStart => exact ⟨1, x, by omega, by omega, rfl, rfl, maxTo_one HX.out⟩
  case round =>
    obtain ⟨k, v, hk1, hk, rfl, rfl, hM⟩ := hrel
    have HM := hide hM
    clear hM hc
    by_cases hlt : k < n
    · obtain ⟨b', o', y, hA, hb', hy, hc⟩ := hI.at_ k (by have := HN.out; omega)
      injection hA with hA; injection hA with hA1 hA2
      subst hA1 hA2
      have HY := hide hy
      clear hy
      go_wp2
      all_goals
        go_round
        case rel => exact ⟨k + 1, _, by omega, by omega, by go_num, rfl, by rw [ite_max]; exact maxTo_succ HM.out HY.out⟩
        case measure => simp [intOf]; omega
    · go_wp2
      go_ret
      obtain rfl : k = n := by omega
      exact ⟨v, HM.out, rfl, rfl⟩

theorem fine_of_minmax {W H : Int} {P : List Int} {n : Nat} {a b : Int} (hn : P.length = n) (h1 : 1 ≤ W) (h2 : W ≤ 16) (h3 : 1 ≤ H) (h4 : H ≤ 16) (hm : ((n : Int) != wrap64 (W * H)) = false)
    (ha : MinTo P n a) (hb : MaxTo P n b) (h5 : 0 ≤ a) (h6 : b ≤ 65535) : Img.Fine ⟨W, H, P⟩ :=
  fine_mk hn h1 h2 h3 h4 hm fun i hi x hx => ⟨by have := ha.2 i hi x hx; omega, by have := hb.2 i hi x hx; omega⟩
theorem not_fine_min {W H : Int} {P : List Int} {n : Nat} {a : Int} (ha : MinTo P n a) (h5 : a < 0) : ¬ Img.Fine ⟨W, H, P⟩ := by
  obtain ⟨⟨j, _, hj⟩, _⟩ := ha
  exact not_fine_at hj (by omega)
theorem not_fine_max {W H : Int} {P : List Int} {n : Nat} {a : Int} (ha : MaxTo P n a) (h5 : 65535 < a) : ¬ Img.Fine ⟨W, H, P⟩ := by
  obtain ⟨⟨j, _, hj⟩, _⟩ := ha
  exact not_fine_at hj (by omega)
def checkErr (a : Img) : Int := if a.Fine then 0 else 1
theorem checkErr_yes {a : Img} (h : a.Fine) : checkErr a = 0 := if_pos h
theorem checkErr_no {a : Img} (h : ¬ a.Fine) : checkErr a = 1 := if_neg h

set_option maxHeartbeats 1000000 in
theorem check_any (W H : Int) (A : Option Addr) (n c : Nat) (P : List Int) (w : World) (hn : P.length = n) (hI : Ints w A P) (hl : n ≤ 9223372036854775807) :
    Calls Try.prog 17 #[.agg #[.int .i64 W, .int .i64 H, .slice A n c]] w fun e w' => e = .returned (.int .i64 (checkErr ⟨W, H, P⟩)) ∧ Below w.heap.size w w' := by
  have HN := hide hn
  clear hn
  by_cases hd : 1 ≤ W ∧ W ≤ 16 ∧ 1 ≤ H ∧ H ≤ 16
  · obtain ⟨h1, h2, h3, h4⟩ := hd
    have hp := mul_bd h1 h2 h3 h4
    have hp1 : 1 ≤ W * H := hp.1
    have hp2 : W * H ≤ 256 := hp.2
    clear hp
    by_cases hm : (n : Int) = W * H
    · have hn0 : 0 < n := by omega
      have hmF : ((n : Int) != wrap64 (W * H)) = false := by rw [wrap64_mul16 h1 h2 h3 h4]; simpa using hm
      have Hm := hide hmF
      have hm' : ((n : Int) != W * H) = false := by simpa using hm
      clear hmF hm
      go_enter Try.func17, Try.ntmps17
      go_wp2_with (first | (go_at_call 55; refine (min_any A n c P _ HN.out hn0 (hI.keep ((Below.refl _ _).alloc (Nat.le_refl _) _)) hl).mono ?_; rintro e w1 ⟨m1, hM1, rfl, rfl⟩; have HM1 := hide hM1; clear hM1) | (go_at_call 56; refine (max_any A n c P _ HN.out hn0 (hI.keep ((Below.refl _ _).alloc (Nat.le_refl _) _)) hl).mono ?_; rintro e w1 ⟨m2, hM2, rfl, rfl⟩; have HM2 := hide hM2; clear hM2))
      · exfalso; omega
      · go_ret; exact ⟨ret_int (Eq.symm (checkErr_no (not_fine_min HM1.out (by assumption)))), (Below.refl _ _).alloc (Nat.le_refl _) _⟩
      · go_ret; exact ⟨ret_int (Eq.symm (checkErr_no (not_fine_max HM2.out (by assumption)))), (Below.refl _ _).alloc (Nat.le_refl _) _⟩
      · go_ret; exact ⟨ret_int (Eq.symm (checkErr_yes (fine_of_minmax HN.out h1 h2 h3 h4 Hm.out HM1.out HM2.out (by assumption) (by assumption)))), (Below.refl _ _).alloc (Nat.le_refl _) _⟩
    · have hmF : ((n : Int) != wrap64 (W * H)) = true := by rw [wrap64_mul16 h1 h2 h3 h4]; simpa using hm
      have Hm := hide hmF
      have hm' : ((n : Int) != W * H) = true := by simpa using hm
      clear hmF hm
      go_enter Try.func17, Try.ntmps17
      go_wp2_with fail
      all_goals first
        | (exfalso; omega)
        | (go_ret; exact ⟨ret_int (Eq.symm (checkErr_no (not_fine_len HN.out Hm.out))), (Below.refl _ _).alloc (Nat.le_refl _) _⟩)
  · go_enter Try.func17, Try.ntmps17
    go_wp2_with fail
    all_goals first
      | (exfalso; omega)
      | (go_ret; exact ⟨ret_int (Eq.symm (checkErr_no (not_fine_dim hd))), (Below.refl _ _).alloc (Nat.le_refl _) _⟩)

end Go.Proofs.Ytibpmogmeoappaa
