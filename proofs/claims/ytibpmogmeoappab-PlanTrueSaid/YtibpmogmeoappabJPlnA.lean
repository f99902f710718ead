/- Plans as plain Lean: in order, spans, what fits, peak and floor; no program in sight. -/
import Derived.Test.YtibpmogmeoappabJNeed
import Derived.Test.YtibpmogmeoappabJMem
import Derived.Test.YtibpmogmeoappabJFrmM
import Derived.Test.YtibpmogmeoappabJNeed2
import Derived.BigQuiet
namespace Go.Proofs.Ytibpmogmeoappab

structure Pln where
  Order : List Int
  Places : List Int
  deriving DecidableEq
structure Spn where
  First : Int
  Last : Int
  deriving DecidableEq

def stepFrom : List Int → Int → Int → Int
  | [], _, _ => -1
  | x :: xs, i, k => if x = k then i else stepFrom xs (i + 1) k
/-- the first place of k in a list; -1: none -/
def stepOf (l : List Int) (k : Int) : Int := stepFrom l 0 k
theorem stepFrom_cases (l : List Int) (b k : Int) : (stepFrom l b k = -1 ∧ k ∉ l) ∨ ∃ i : Nat, stepFrom l b k = b + i ∧ l[i]? = some k ∧ ∀ j, j < i → l[j]? ≠ some k := by
  induction l generalizing b with
  | nil => exact .inl ⟨rfl, by simp⟩
  | cons x xs ih =>
    by_cases e : x = k
    · refine .inr ⟨0, ?_, by simp [e], fun j hj => by omega⟩
      simp only [stepFrom]; rw [if_pos e]; simp
    · simp only [stepFrom]; rw [if_neg e]
      rcases ih (b + 1) with ⟨h1, h2⟩ | ⟨i, h1, h2, h3⟩
      · exact .inl ⟨h1, by simp only [List.mem_cons, not_or]; exact ⟨fun h => e h.symm, h2⟩⟩
      · refine .inr ⟨i + 1, by rw [h1]; omega, by simpa using h2, fun j hj => ?_⟩
        cases j with
        | zero => simpa using e
        | succ j => simpa using h3 j (by omega)
theorem stepOf_cases (l : List Int) (k : Int) : (stepOf l k = -1 ∧ k ∉ l) ∨ ∃ i : Nat, stepOf l k = i ∧ l[i]? = some k ∧ ∀ j, j < i → l[j]? ≠ some k := by
  rcases stepFrom_cases l 0 k with h | ⟨i, h1, h2, h3⟩
  · exact .inl h
  · exact .inr ⟨i, by unfold stepOf; rw [h1]; omega, h2, h3⟩
theorem stepOf_hit {l : List Int} {k : Int} {i : Nat} (hi : l[i]? = some k) (hn : ∀ j, j < i → l[j]? ≠ some k) : stepOf l k = i := by
  rcases stepOf_cases l k with ⟨_, h⟩ | ⟨m, h1, h2, h3⟩
  · exact absurd (List.mem_of_getElem? hi) h
  · rw [h1]
    have : ¬ m < i := fun h => hn m h h2
    have : ¬ i < m := fun h => h3 i h hi
    omega
theorem stepOf_none {l : List Int} {k : Int} (h : k ∉ l) : stepOf l k = -1 := by
  rcases stepOf_cases l k with ⟨h1, _⟩ | ⟨i, _, h2, _⟩
  · exact h1
  · exact absurd (List.mem_of_getElem? h2) h
theorem stepOf_mem {l : List Int} {k : Int} : 0 ≤ stepOf l k ↔ k ∈ l := by
  rcases stepOf_cases l k with ⟨h1, h2⟩ | ⟨i, h1, h2, _⟩
  · rw [h1]; constructor
    · intro h; omega
    · intro h; exact absurd h h2
  · rw [h1]; constructor
    · intro _; exact List.mem_of_getElem? h2
    · intro _; omega
theorem stepOf_bd (l : List Int) (k : Int) : -1 ≤ stepOf l k ∧ stepOf l k < max (l.length : Int) 1 := by
  rcases stepOf_cases l k with ⟨h1, _⟩ | ⟨i, h1, h2, _⟩
  · omega
  · have : i < l.length := by
      by_cases e : i < l.length
      · exact e
      · rw [List.getElem?_eq_none (by omega)] at h2; cases h2
    omega
theorem stepOf_neg {l : List Int} {k : Int} (h : ¬ 0 ≤ stepOf l k) : stepOf l k = -1 := by have := (stepOf_bd l k).1; omega

def Pln.ord (p : Pln) (i : Nat) : Int := p.Order.getD i 0
def Pln.pl (p : Pln) (k : Nat) : Int := p.Places.getD k 0
theorem Pln.ord_at {p : Pln} {i : Nat} (h : i < p.Order.length) : p.Order[i]? = some (p.ord i) := by
  unfold Pln.ord; rw [List.getD_eq_getElem?_getD, List.getElem?_eq_getElem h]; rfl
/-- step i is in order -/
def StepOk (f : Frm) (p : Pln) (i : Nat) : Prop := (0 ≤ p.ord i ∧ p.ord i ≤ (f.P.length : Int) - 1) ∧ stepOf p.Order (p.ord i) = i ∧ ∀ j ∈ srcs f (p.ord i).toNat, 0 ≤ stepOf p.Order j ∧ stepOf p.Order j < i
/-- pass k is done where it must be, and has a place if and only if it is done -/
def PlaceOk (f : Frm) (p : Pln) (k : Nat) : Prop := ((keptL f).getD k false = true → 0 ≤ stepOf p.Order k) ∧ (0 ≤ stepOf p.Order k → 0 ≤ p.pl k ∧ p.pl k ≤ 4096) ∧ (¬ 0 ≤ stepOf p.Order k → p.pl k = -1)
instance (f : Frm) (p : Pln) (i : Nat) : Decidable (StepOk f p i) := by unfold StepOk; exact inferInstance
instance (f : Frm) (p : Pln) (i : Nat) : Decidable (PlaceOk f p i) := by unfold PlaceOk; exact inferInstance
structure InOrder (f : Frm) (p : Pln) : Prop where
  places : p.Places.length = f.P.length
  len : p.Order.length ≤ f.P.length
  step : ∀ i, i < p.Order.length → StepOk f p i
  pass : ∀ k, k < f.P.length → PlaceOk f p k
instance (f : Frm) (p : Pln) : Decidable (InOrder f p) :=
  decidable_of_iff (p.Places.length = f.P.length ∧ p.Order.length ≤ f.P.length ∧ (∀ i, i < p.Order.length → StepOk f p i) ∧ ∀ k, k < f.P.length → PlaceOk f p k) ⟨fun ⟨a, b, c, d⟩ => ⟨a, b, c, d⟩, fun ⟨a, b, c, d⟩ => ⟨a, b, c, d⟩⟩

/-- at which of the first m steps pass k's image is taken for the last time -/
def lastUse (f : Frm) (p : Pln) (k : Int) : Nat → Int
  | 0 => stepOf p.Order k
  | m + 1 => if k ∈ srcs f (p.ord m).toNat then (m : Int) else lastUse f p k m
def spanOf (f : Frm) (p : Pln) (k : Nat) : Spn := ⟨stepOf p.Order k, if (k : Int) = frLast f then (p.Order.length : Int) - 1 else lastUse f p k p.Order.length⟩
def spansTo (f : Frm) (p : Pln) (k : Nat) : List Spn := (List.range k).map (spanOf f p)
theorem spansTo_succ (f : Frm) (p : Pln) (k : Nat) : spansTo f p (k + 1) = spansTo f p k ++ [spanOf f p k] := by simp [spansTo, List.range_succ]
def areaOf (f : Frm) (k : Nat) : Int := (frSize f k).W * (frSize f k).H
def meetB (a b : Spn) : Bool := decide (a.First ≤ b.Last ∧ b.First ≤ a.Last)
/-- two images lie over one another -/
def Clash (f : Frm) (p : Pln) (j k : Nat) : Prop := (meetB (spanOf f p j) (spanOf f p k) = true) ∧ p.pl j < p.pl k + areaOf f k ∧ p.pl k < p.pl j + areaOf f j
instance (f : Frm) (p : Pln) (j k : Nat) : Decidable (Clash f p j k) := by unfold Clash; exact inferInstance
theorem Clash.symm {f : Frm} {p : Pln} {j k : Nat} (h : Clash f p j k) : Clash f p k j := by
  unfold Clash meetB at *
  rw [decide_eq_true_iff] at *
  exact ⟨⟨h.1.2, h.1.1⟩, h.2.2, h.2.1⟩
/-- pass k's image fits, in so much room, beside the others ahead of it -/
def FitAt (f : Frm) (p : Pln) (room : Int) (k : Nat) : Prop := p.pl k = -1 ∨ ((0 ≤ p.pl k ∧ p.pl k ≤ room - areaOf f k) ∧ ∀ j, j < k → p.pl j = -1 ∨ ¬ Clash f p k j)
instance (f : Frm) (p : Pln) (room : Int) (k : Nat) : Decidable (FitAt f p room k) := by unfold FitAt; exact inferInstance
def Fits (f : Frm) (p : Pln) (room : Int) : Prop := ∀ k, k < f.P.length → FitAt f p room k
instance (f : Frm) (p : Pln) (room : Int) : Decidable (Fits f p room) := by unfold Fits; exact inferInstance
def planErr (f : Frm) (p : Pln) : Int := if frErr f ≠ 0 then frErr f else if InOrder f p then 0 else 1
def pckErr (f : Frm) (p : Pln) (room : Int) : Int := if frErr f ≠ 0 then frErr f else if ¬ (0 ≤ room ∧ room ≤ 4096) then 3 else if ¬ InOrder f p then 1 else if ¬ Fits f p room then 7 else 0
def peakTo (f : Frm) (p : Pln) : Nat → Int
  | 0 => 0
  | k + 1 => if p.pl k = -1 then peakTo f p k else max (peakTo f p k) (p.pl k + areaOf f k)
def peakOf (f : Frm) (p : Pln) : Int := peakTo f p f.P.length
/-- how much is needed at step i by the first k passes -/
def needTo (f : Frm) (p : Pln) (i : Int) : Nat → Int
  | 0 => 0
  | k + 1 => if p.pl k ≠ -1 ∧ meetB (spanOf f p k) ⟨i, i⟩ = true then needTo f p i k + areaOf f k else needTo f p i k
def floorTo (f : Frm) (p : Pln) : Nat → Int
  | 0 => 0
  | i + 1 => max (floorTo f p i) (needTo f p i f.P.length)
def floorOf (f : Frm) (p : Pln) : Int := floorTo f p p.Order.length
def spansAns (f : Frm) (p : Pln) : List Spn := if planErr f p = 0 then spansTo f p f.P.length else []
def peakAns (f : Frm) (p : Pln) : Int := if planErr f p = 0 then peakOf f p else 0
def floorAns (f : Frm) (p : Pln) : Int := if planErr f p = 0 then floorOf f p else 0

/-! ## how the program goes: along the order -/
/-- the first i steps are in order, as a map tells -/
structure OrdTo (f : Frm) (p : Pln) (i : Nat) : Prop where
  le : i ≤ p.Order.length
  rng : ∀ m, m < i → 0 ≤ p.ord m ∧ p.ord m < f.P.length
  uniq : ∀ m m', m < m' → m' < i → p.ord m ≠ p.ord m'
  srcs : ∀ m, m < i → ∀ j ∈ srcs f (p.ord m).toNat, ∃ m', m' < m ∧ p.ord m' = j
theorem OrdTo.step {f : Frm} {p : Pln} {i m : Nat} (h : OrdTo f p i) (hm : m < i) : stepOf p.Order (p.ord m) = m := by
  refine stepOf_hit (p.ord_at (by have := h.le; omega)) fun j hj => ?_
  rw [p.ord_at (by have := h.le; omega)]
  intro e
  injection e with e
  exact h.uniq j m hj hm e
theorem ordTo_of {f : Frm} {p : Pln} (h : InOrder f p) : OrdTo f p p.Order.length := by
  refine ⟨Nat.le_refl _, fun m hm => ?_, fun m m' h1 h2 e => ?_, fun m hm j hj => ?_⟩
  · have := (h.step m hm).1; omega
  · have a := (h.step m (by omega)).2.1
    have b := (h.step m' h2).2.1
    rw [e, b] at a
    omega
  · have hs := (h.step m hm).2.2 j hj
    rcases stepOf_cases p.Order j with ⟨h1, _⟩ | ⟨i, h1, h2, _⟩
    · omega
    · refine ⟨i, by omega, ?_⟩
      unfold Pln.ord; rw [List.getD_eq_getElem?_getD, h2]; rfl
/-- n different numbers below N are no more than N -/
theorem pigeon (N : Nat) : ∀ (g : Nat → Int) (n : Nat), (∀ m, m < n → 0 ≤ g m ∧ g m < N) → (∀ m m', m < m' → m' < n → g m ≠ g m') → n ≤ N := by
  induction N with
  | zero =>
    intro g n h _
    by_cases e : n = 0
    · omega
    · have := h 0 (by omega); omega
  | succ N ih =>
    intro g n h hu
    by_cases hm : ∃ m, m < n ∧ g m = N
    · obtain ⟨m, hm, e⟩ := hm
      have := ih (fun i => if i < m then g i else g (i + 1)) (n - 1) (fun i hi => ?_) (fun i i' h1 h2 => ?_)
      · omega
      · split
        · rename_i hlt
          have a := h i (by omega)
          have b := hu i m hlt hm
          omega
        · rename_i hlt
          have a := h (i + 1) (by omega)
          have b := hu m (i + 1) (by omega) (by omega)
          omega
      · split
        · split
          · exact hu i i' h1 (by omega)
          · exact hu i (i' + 1) (by omega) (by omega)
        · split
          · omega
          · exact hu (i + 1) (i' + 1) (by omega) (by omega)
    · have := ih g n (fun i hi => ?_) hu
      · omega
      · have a := h i hi
        have b : ¬ g i = N := fun e => hm ⟨i, hi, e⟩
        omega
/-- all steps are in order, all passes that must be are done, the places are right -/
theorem inOrder_of {f : Frm} {p : Pln} (ho : OrdTo f p p.Order.length) (hl : p.Places.length = f.P.length) (hp : ∀ k, k < f.P.length → PlaceOk f p k) : InOrder f p := by
  refine ⟨hl, pigeon _ p.ord _ ho.rng ho.uniq, fun i hi => ⟨by have := ho.rng i hi; omega, ho.step hi, fun j hj => ?_⟩, hp⟩
  obtain ⟨m, hm, e⟩ := ho.srcs i hi j hj
  rw [← e, ho.step (by omega)]
  omega
theorem ordTo_succ {f : Frm} {p : Pln} {i : Nat} (h : OrdTo f p i) (hi : i < p.Order.length) (hr : 0 ≤ p.ord i ∧ p.ord i < f.P.length) (hu : ∀ m, m < i → p.ord m ≠ p.ord i) (hs : ∀ j ∈ Go.Proofs.Ytibpmogmeoappab.srcs f (p.ord i).toNat, ∃ m', m' < i ∧ p.ord m' = j) : OrdTo f p (i + 1) := by
  refine ⟨hi, fun m hm => ?_, fun m m' h1 h2 => ?_, fun m hm => ?_⟩
  · by_cases e : m < i
    · exact h.rng m e
    · rw [show m = i by omega]; exact hr
  · by_cases e : m' < i
    · exact h.uniq m m' h1 e
    · rw [show m' = i by omega]; exact hu m (by omega)
  · by_cases e : m < i
    · exact h.srcs m e
    · rw [show m = i by omega]; exact hs
/-- pass k is one of the first i -/
def DoneTo (p : Pln) (i : Nat) (k : Int) : Prop := ∃ m, m < i ∧ p.ord m = k
theorem doneTo_all {p : Pln} {k : Int} : DoneTo p p.Order.length k ↔ 0 ≤ stepOf p.Order k := by
  rw [stepOf_mem]
  constructor
  · rintro ⟨m, hm, e⟩; rw [← e]; exact List.mem_of_getElem? (p.ord_at hm)
  · intro h
    obtain ⟨i, hi, e⟩ := List.getElem_of_mem h
    refine ⟨i, hi, ?_⟩
    unfold Pln.ord; rw [List.getD_eq_getElem?_getD, List.getElem?_eq_getElem hi, e]; rfl
end Go.Proofs.Ytibpmogmeoappab

/- Plans as plain Lean: along the order and along the passes it comes to the same; no plan that fits has a peak below its floor. -/
namespace Go.Proofs.Ytibpmogmeoappab

section
variable {f : Frm} {p : Pln}
theorem placed {k : Nat} (h : InOrder f p) (hk : k < f.P.length) : p.pl k ≠ -1 ↔ DoneTo p p.Order.length k := by
  have hp := h.pass k hk
  rw [doneTo_all]
  constructor
  · intro hn
    by_cases e : 0 ≤ stepOf p.Order k
    · exact e
    · exact absurd (hp.2.2 e) hn
  · intro e
    have := hp.2.1 e
    omega
/-- what a plan in order that fits is, along the order -/
def FitsOrd (f : Frm) (p : Pln) (room : Int) (i : Nat) : Prop := p.pl (p.ord i).toNat + areaOf f (p.ord i).toNat ≤ room ∧ ∀ j, j < i → ¬ Clash f p (p.ord j).toNat (p.ord i).toNat
theorem fits_ord {room : Int} (h : InOrder f p) : (∀ i, i < p.Order.length → FitsOrd f p room i) ↔ Fits f p room := by
  have ho := ordTo_of h
  constructor
  · intro hf k hk
    by_cases e : p.pl k = -1
    · exact .inl e
    · obtain ⟨m, hm, em⟩ := (placed h hk).1 e
      have em' : (p.ord m).toNat = k := by omega
      have h1 := hf m hm
      have h2 := (h.pass k hk).2.1 (doneTo_all.1 ⟨m, hm, em⟩)
      refine .inr ⟨⟨h2.1, by have := h1.1; rw [em'] at this; omega⟩, fun j hj => ?_⟩
      by_cases e2 : p.pl j = -1
      · exact .inl e2
      · right
        obtain ⟨m', hm', em2⟩ := (placed h (by omega : j < f.P.length)).1 e2
        have em2' : (p.ord m').toNat = j := by omega
        intro hc
        by_cases hlt : m' < m
        · have := h1.2 m' hlt
          rw [em', em2'] at this
          exact this hc.symm
        · by_cases hlt2 : m < m'
          · have := (hf m' hm').2 m hlt2
            rw [em', em2'] at this
            exact this hc
          · have : m = m' := by omega
            subst this
            omega
  · intro hf i hi
    have hr := ho.rng i hi
    have hk : (p.ord i).toNat < f.P.length := by omega
    have hd : DoneTo p p.Order.length ((p.ord i).toNat : Nat) := ⟨i, hi, by omega⟩
    have hn := (placed h hk).2 hd
    rcases hf _ hk with e | ⟨h1, h2⟩
    · exact absurd e hn
    · refine ⟨by omega, fun j hj hc => ?_⟩
      have hrj := ho.rng j (by omega)
      have hkj : (p.ord j).toNat < f.P.length := by omega
      have hnj := (placed h hkj).2 ⟨j, by omega, by omega⟩
      have hne := ho.uniq j i hj hi
      by_cases hlt : (p.ord j).toNat < (p.ord i).toNat
      · rcases h2 _ hlt with e | e
        · exact hnj e
        · exact e hc.symm
      · rcases hf _ hkj with e | ⟨_, h3⟩
        · exact hnj e
        · rcases h3 (p.ord i).toNat (by omega) with e | e
          · exact hn e
          · exact e hc
/-- the peak, along the order -/
def peakOrd (f : Frm) (p : Pln) : Nat → Int
  | 0 => 0
  | m + 1 => max (peakOrd f p m) (p.pl (p.ord m).toNat + areaOf f (p.ord m).toNat)
theorem peakOrd_le {m : Nat} {M : Int} : peakOrd f p m ≤ M ↔ 0 ≤ M ∧ ∀ i, i < m → p.pl (p.ord i).toNat + areaOf f (p.ord i).toNat ≤ M := by
  induction m with
  | zero => simp [peakOrd]
  | succ m ih =>
    simp only [peakOrd, Int.max_le, ih]
    constructor
    · rintro ⟨⟨h0, h1⟩, h2⟩
      refine ⟨h0, fun i hi => ?_⟩
      by_cases e : i < m
      · exact h1 i e
      · rw [show i = m by omega]; exact h2
    · rintro ⟨h0, h1⟩
      exact ⟨⟨h0, fun i hi => h1 i (by omega)⟩, h1 m (by omega)⟩
theorem peakTo_le {n : Nat} {M : Int} : peakTo f p n ≤ M ↔ 0 ≤ M ∧ ∀ k, k < n → p.pl k ≠ -1 → p.pl k + areaOf f k ≤ M := by
  induction n with
  | zero => simp [peakTo]
  | succ n ih =>
    simp only [peakTo]
    by_cases e : p.pl n = -1
    · rw [if_pos e, ih]
      constructor
      · rintro ⟨h0, h1⟩
        refine ⟨h0, fun k hk hn => ?_⟩
        by_cases e2 : k < n
        · exact h1 k e2 hn
        · rw [show k = n by omega] at hn; exact absurd e hn
      · rintro ⟨h0, h1⟩
        exact ⟨h0, fun k hk hn => h1 k (by omega) hn⟩
    · rw [if_neg e, Int.max_le, ih]
      constructor
      · rintro ⟨⟨h0, h1⟩, h2⟩
        refine ⟨h0, fun k hk hn => ?_⟩
        by_cases e2 : k < n
        · exact h1 k e2 hn
        · rw [show k = n by omega]; exact h2
      · rintro ⟨h0, h1⟩
        exact ⟨⟨h0, fun k hk hn => h1 k (by omega) hn⟩, h1 n (by omega) e⟩
theorem peak_ord (h : InOrder f p) : peakOrd f p p.Order.length = peakOf f p := by
  have ho := ordTo_of h
  apply Int.le_antisymm
  · rw [peakOrd_le]
    have := (peakTo_le (f := f) (p := p) (n := f.P.length) (M := peakOf f p)).1 (Int.le_refl _)
    refine ⟨this.1, fun i hi => ?_⟩
    have hr := ho.rng i hi
    exact this.2 _ (by omega) ((placed h (by omega)).2 ⟨i, hi, by omega⟩)
  · unfold peakOf
    rw [peakTo_le]
    have := (peakOrd_le (f := f) (p := p) (m := p.Order.length) (M := peakOrd f p p.Order.length)).1 (Int.le_refl _)
    refine ⟨this.1, fun k hk hn => ?_⟩
    obtain ⟨m, hm, em⟩ := (placed h hk).1 hn
    have := this.2 m hm
    rw [show (p.ord m).toNat = k by omega] at this
    exact this
/-- a sum over the numbers below n that are so -/
def sumIf (q : Nat → Bool) (g : Nat → Int) : Nat → Int
  | 0 => 0
  | n + 1 => if q n = true then sumIf q g n + g n else sumIf q g n
theorem sumIf_congr {q q' : Nat → Bool} {g : Nat → Int} {n : Nat} (h : ∀ k, k < n → q k = q' k) : sumIf q g n = sumIf q' g n := by
  induction n with
  | zero => rfl
  | succ n ih => simp only [sumIf, h n (by omega), ih (fun k hk => h k (by omega))]
theorem sumIf_insert {q : Nat → Bool} {g : Nat → Int} {n a : Nat} (ha : a < n) (hq : q a = false) : sumIf (fun k => q k || k == a) g n = sumIf q g n + g a := by
  induction n with
  | zero => omega
  | succ n ih =>
    by_cases e : a = n
    · subst e
      have hc : sumIf (fun k => q k || k == a) g a = sumIf q g a := sumIf_congr fun k hk => by
        have : (k == a) = false := by simp; omega
        simp [this]
      simp only [sumIf, hc, hq]
      simp
    · have h1 := ih (by omega)
      have : (n == a) = false := by simp; omega
      simp only [sumIf, this, Bool.or_false, h1]
      split <;> omega
/-- what is needed at a step, along the order -/
def needOrd (f : Frm) (p : Pln) (i : Int) : Nat → Int
  | 0 => 0
  | m + 1 => if (spanOf f p (p.ord m).toNat).First ≤ i ∧ i ≤ (spanOf f p (p.ord m).toNat).Last then needOrd f p i m + areaOf f (p.ord m).toNat else needOrd f p i m
def doneB (p : Pln) (m : Nat) (k : Nat) : Bool := (List.range m).any fun j => p.ord j == (k : Int)
theorem doneB_iff {m k : Nat} : doneB p m k = true ↔ DoneTo p m k := by
  unfold doneB DoneTo
  simp [List.any_eq_true]
def atB (f : Frm) (p : Pln) (i : Int) (k : Nat) : Bool := decide ((spanOf f p k).First ≤ i ∧ i ≤ (spanOf f p k).Last)
theorem needOrd_sum (ho : OrdTo f p p.Order.length) {i : Int} {m : Nat} (hm : m ≤ p.Order.length) : needOrd f p i m = sumIf (fun k => doneB p m k && atB f p i k) (areaOf f) f.P.length := by
  induction m with
  | zero =>
    have : ∀ n, sumIf (fun k => doneB p 0 k && atB f p i k) (areaOf f) n = 0 := by
      intro n
      induction n with
      | zero => rfl
      | succ n ih =>
        simp only [sumIf, ih]
        simp [doneB]
    rw [this]; rfl
  | succ m ih =>
    have ih := ih (by omega)
    have hr := ho.rng m (by omega)
    have hstep : ∀ k, doneB p (m + 1) k = (doneB p m k || k == (p.ord m).toNat) := by
      intro k
      unfold doneB
      rw [List.range_succ, List.any_append]
      congr 1
      simp only [List.any_cons, List.any_nil, Bool.or_false]
      rw [Bool.eq_iff_iff]
      simp only [beq_iff_eq]
      omega
    have hnew : doneB p m (p.ord m).toNat = false := by
      cases e : doneB p m (p.ord m).toNat with
      | false => rfl
      | true =>
        obtain ⟨j, hj, ej⟩ := doneB_iff.1 e
        exact absurd (by omega : p.ord j = p.ord m) (ho.uniq j m hj (by omega))
    simp only [needOrd]
    by_cases hat : (spanOf f p (p.ord m).toNat).First ≤ i ∧ i ≤ (spanOf f p (p.ord m).toNat).Last
    · rw [if_pos hat, ih, ← sumIf_insert (q := fun k => doneB p m k && atB f p i k) (n := f.P.length) (a := (p.ord m).toNat) (by omega) (by simp [hnew])]
      refine sumIf_congr fun k hk => ?_
      rw [hstep]
      by_cases e : k = (p.ord m).toNat
      · subst e
        have : atB f p i (p.ord m).toNat = true := by unfold atB; rw [decide_eq_true_iff]; exact hat
        simp [this]
      · have : (k == (p.ord m).toNat) = false := by simpa using e
        simp [this]
    · rw [if_neg hat, ih]
      refine sumIf_congr fun k hk => ?_
      rw [hstep]
      by_cases e : k = (p.ord m).toNat
      · subst e
        have : atB f p i (p.ord m).toNat = false := by unfold atB; rw [decide_eq_false_iff_not]; exact hat
        simp [this]
      · have : (k == (p.ord m).toNat) = false := by simpa using e
        simp [this]
theorem needTo_sum {i : Int} {n : Nat} : needTo f p i n = sumIf (fun k => (p.pl k != -1) && atB f p i k) (areaOf f) n := by
  induction n with
  | zero => rfl
  | succ n ih =>
    simp only [needTo, sumIf, ih]
    have : meetB (spanOf f p n) ⟨i, i⟩ = atB f p i n := rfl
    rw [this]
    by_cases h1 : p.pl n = -1
    · simp [h1]
    · by_cases h2 : atB f p i n = true
      · simp [h1, h2]
      · simp [h1, h2]
theorem need_ord (h : InOrder f p) (i : Int) : needOrd f p i p.Order.length = needTo f p i f.P.length := by
  rw [needOrd_sum (ordTo_of h) (Nat.le_refl _), needTo_sum]
  refine sumIf_congr fun k hk => ?_
  congr 1
  rw [Bool.eq_iff_iff, doneB_iff, ← placed h hk]
  simp
end
end Go.Proofs.Ytibpmogmeoappab

/- Plans as plain Lean: no plan that fits has a peak below its floor. -/
namespace Go.Proofs.Ytibpmogmeoappab

/-- a sum over the numbers below n -/
def sumN (g : Nat → Int) : Nat → Int
  | 0 => 0
  | n + 1 => sumN g n + g n
theorem sumN_add (g h : Nat → Int) (n : Nat) : sumN (fun i => g i + h i) n = sumN g n + sumN h n := by
  induction n with
  | zero => rfl
  | succ n ih => simp only [sumN, ih]; omega
theorem sumN_congr {g h : Nat → Int} {n : Nat} (e : ∀ i, i < n → g i = h i) : sumN g n = sumN h n := by
  induction n with
  | zero => rfl
  | succ n ih => simp only [sumN]; rw [ih (fun i hi => e i (by omega)), e n (by omega)]
theorem sumN_zero (n : Nat) : sumN (fun _ => 0) n = 0 := by
  induction n with
  | zero => rfl
  | succ n ih => simp [sumN, ih]
theorem sumN_swap (g : Nat → Nat → Int) (n m : Nat) : sumN (fun i => sumN (g i) m) n = sumN (fun j => sumN (fun i => g i j) n) m := by
  induction n with
  | zero => simp only [sumN]; rw [sumN_zero]
  | succ n ih => simp only [sumN]; rw [ih, ← sumN_add]
theorem sumN_le {g : Nat → Int} {n : Nat} (h : ∀ i, i < n → g i ≤ 1) : sumN g n ≤ n := by
  induction n with
  | zero => simp [sumN]
  | succ n ih => simp only [sumN]; have := ih (fun i hi => h i (by omega)); have := h n (by omega); omega
/-- numbers x with a ≤ x < b -/
def inside01 (a b : Int) (x : Nat) : Int := if a ≤ (x : Int) ∧ (x : Int) < b then 1 else 0
theorem sumN_inside {a b : Int} (h0 : 0 ≤ a) (n : Nat) : sumN (inside01 a b) n = max 0 (min b n - min a n) := by
  induction n with
  | zero => simp only [sumN]; omega
  | succ n ih =>
    simp only [sumN, ih, inside01]
    split <;> omega
theorem sum_one {g : Nat → Int} {n : Nat} (h1 : ∀ i, i < n → g i = 0 ∨ g i = 1) (h2 : ∀ i j, i < j → j < n → ¬ (g i = 1 ∧ g j = 1)) : 0 ≤ sumN g n ∧ sumN g n ≤ 1 ∧ (sumN g n = 1 → ∃ i, i < n ∧ g i = 1) := by
  induction n with
  | zero => simp [sumN]
  | succ n ih =>
    obtain ⟨a, b, c⟩ := ih (fun i hi => h1 i (by omega)) (fun i j h hj => h2 i j h (by omega))
    simp only [sumN]
    rcases h1 n (by omega) with e | e
    · rw [e]
      refine ⟨by omega, by omega, fun hs => ?_⟩
      obtain ⟨i, hi, ei⟩ := c (by omega)
      exact ⟨i, by omega, ei⟩
    · rw [e]
      have : ¬ sumN g n = 1 := by
        intro hs
        obtain ⟨i, hi, ei⟩ := c hs
        exact h2 i n hi (by omega) ⟨ei, e⟩
      exact ⟨by omega, by omega, fun _ => ⟨n, by omega, e⟩⟩
/-- parts of the numbers below M that do not lie over one another are no more than M together -/
theorem packing (q : Nat → Bool) (a g : Nat → Int) (n : Nat) (M : Int) (hM : 0 ≤ M) (h0 : ∀ k, k < n → q k = true → 0 ≤ a k ∧ 0 ≤ g k ∧ a k + g k ≤ M)
    (hd : ∀ j k, j < k → k < n → q j = true → q k = true → ¬ (a j < a k + g k ∧ a k < a j + g j)) : sumIf q g n ≤ M := by
  have e1 : sumIf q g n = sumN (fun k => sumN (fun x => if q k = true then inside01 (a k) (a k + g k) x else 0) M.toNat) n := by
    have : ∀ m, m ≤ n → sumIf q g m = sumN (fun k => sumN (fun x => if q k = true then inside01 (a k) (a k + g k) x else 0) M.toNat) m := by
      intro m hm
      induction m with
      | zero => rfl
      | succ m ih =>
        simp only [sumIf, sumN, ih (by omega)]
        by_cases hq : q m = true
        · have := h0 m (by omega) hq
          simp only [hq, if_true]
          rw [show (fun x => inside01 (a m) (a m + g m) x) = inside01 (a m) (a m + g m) from rfl, sumN_inside this.1]
          omega
        · simp only [hq]
          have : sumN (fun _ => (0 : Int)) M.toNat = 0 := sumN_zero _
          simp [this]
    exact this n (Nat.le_refl _)
  rw [e1, sumN_swap]
  have : sumN (fun x => sumN (fun k => if q k = true then inside01 (a k) (a k + g k) x else 0) n) M.toNat ≤ M.toNat := by
    refine sumN_le fun x _ => ?_
    refine (sum_one (fun i _ => ?_) (fun i j hij hj h => ?_)).2.1
    · split
      · unfold inside01; split <;> simp
      · simp
    · obtain ⟨h1, h2⟩ := h
      by_cases hq : q i = true
      · by_cases hq2 : q j = true
        · rw [if_pos hq] at h1
          rw [if_pos hq2] at h2
          unfold inside01 at h1 h2
          have c1 : a i ≤ (x : Int) ∧ (x : Int) < a i + g i := by
            by_cases e : a i ≤ (x : Int) ∧ (x : Int) < a i + g i
            · exact e
            · rw [if_neg e] at h1; omega
          have c2 : a j ≤ (x : Int) ∧ (x : Int) < a j + g j := by
            by_cases e : a j ≤ (x : Int) ∧ (x : Int) < a j + g j
            · exact e
            · rw [if_neg e] at h2; omega
          exact hd i j hij hj hq hq2 (by omega)
        · rw [if_neg hq2] at h2; omega
      · rw [if_neg hq] at h1; omega
  omega
section
variable {f : Frm} {p : Pln}
theorem area_bd (hf : FrmOk f) {k : Nat} (hk : k < f.P.length) : 1 ≤ areaOf f k ∧ areaOf f k ≤ 256 := by
  have ho := passSize_fine hf.bounds.1 hf.bounds.2.1 (frSt_fine hf.bounds (hf.err (Nat.le_of_lt hk))) (hf.pass hk)
  unfold areaOf frSize
  exact mul_bd ho.1.1 ho.1.2 ho.2.1 ho.2.2
theorem fits_peak {room : Int} (hf : FrmOk f) (hr : Fits f p room) (h0 : 0 ≤ room) : peakOf f p ≤ room := by
  unfold peakOf
  rw [peakTo_le]
  refine ⟨h0, fun k hk hn => ?_⟩
  rcases hr k hk with e | ⟨e, _⟩
  · exact absurd e hn
  · have := area_bd hf hk; omega
theorem fits_iff {room r : Int} (hf : FrmOk f) (hr : Fits f p room) (h0 : 0 ≤ r) : Fits f p r ↔ peakOf f p ≤ r := by
  constructor
  · intro h1; exact fits_peak hf h1 h0
  · intro hp k hk
    unfold peakOf at hp
    rw [peakTo_le] at hp
    by_cases e : p.pl k = -1
    · exact .inl e
    · rcases hr k hk with e2 | ⟨e2, e3⟩
      · exact absurd e2 e
      · have := hp.2 k hk e
        exact .inr ⟨by omega, e3⟩
theorem need_le {room : Int} (h : InOrder f p) (hf : FrmOk f) (hr : Fits f p room) (i : Int) : needTo f p i f.P.length ≤ peakOf f p := by
  have hp : 0 ≤ peakOf f p ∧ ∀ k, k < f.P.length → p.pl k ≠ -1 → p.pl k + areaOf f k ≤ peakOf f p := (peakTo_le (f := f) (p := p) (n := f.P.length)).1 (Int.le_refl _)
  rw [needTo_sum]
  refine packing _ (fun k => p.pl k) _ _ _ hp.1 (fun k hk hq => ?_) (fun j k hjk hk hqj hqk hc => ?_)
  · simp only [Bool.and_eq_true, bne_iff_ne, ne_eq] at hq
    have h1 := (h.pass k hk).2.1 (doneTo_all.1 ((placed h hk).1 hq.1))
    have h2 := area_bd hf hk
    exact ⟨h1.1, by omega, hp.2 k hk hq.1⟩
  · simp only [Bool.and_eq_true, bne_iff_ne, ne_eq, atB, decide_eq_true_iff] at hqj hqk
    rcases hr k hk with e | ⟨_, e⟩
    · exact hqk.1 e
    · rcases e j hjk with e | e
      · exact hqj.1 e
      · apply e
        unfold Clash meetB
        rw [decide_eq_true_iff]
        exact ⟨by omega, by omega, by omega⟩
theorem floor_le {room : Int} (h : InOrder f p) (hf : FrmOk f) (hr : Fits f p room) : floorOf f p ≤ peakOf f p := by
  have hp : 0 ≤ peakOf f p := ((peakTo_le (f := f) (p := p) (n := f.P.length)).1 (Int.le_refl _)).1
  unfold floorOf
  have : ∀ m, floorTo f p m ≤ peakOf f p := by
    intro m
    induction m with
    | zero => exact hp
    | succ m ih => simp only [floorTo]; have := need_le h hf hr m; omega
  exact this _
theorem pckErr_zero {room : Int} (h : pckErr f p room = 0) : FrmOk f ∧ (0 ≤ room ∧ room ≤ 4096) ∧ InOrder f p ∧ Fits f p room := by
  unfold pckErr at h
  by_cases h1 : frErr f = 0
  · rw [if_neg (by simpa using h1)] at h
    by_cases h2 : 0 ≤ room ∧ room ≤ 4096
    · rw [if_neg (by simpa using h2)] at h
      by_cases h3 : InOrder f p
      · rw [if_neg (by simpa using h3)] at h
        by_cases h4 : Fits f p room
        · exact ⟨frErr_zero.1 h1, h2, h3, h4⟩
        · rw [if_pos h4] at h; omega
      · rw [if_pos h3] at h; omega
    · rw [if_pos h2] at h; omega
  · rw [if_pos h1] at h; exact absurd h h1
theorem pckErr_of {room : Int} (h1 : FrmOk f) (h2 : 0 ≤ room ∧ room ≤ 4096) (h3 : InOrder f p) : pckErr f p room = if Fits f p room then 0 else 7 := by
  unfold pckErr
  rw [if_neg (by simpa using frErr_zero.2 h1), if_neg (by simpa using h2), if_neg (by simpa using h3)]
  by_cases h4 : Fits f p room
  · rw [if_pos h4, if_neg (by simpa using h4)]
  · rw [if_neg h4, if_pos h4]
/-- all that PlanTrue says of a plan that fits -/
theorem plan_true {room : Int} (h : pckErr f p room = 0) : planErr f p = 0 ∧ floorAns f p ≤ peakAns f p ∧ peakAns f p ≤ room ∧ pckErr f p (peakAns f p) = 0 ∧ pckErr f p (peakAns f p - 1) = 7 := by
  obtain ⟨h1, h2, h3, h4⟩ := pckErr_zero h
  have he : planErr f p = 0 := by unfold planErr; rw [if_neg (by simpa using frErr_zero.2 h1), if_pos h3]
  have hpk : peakAns f p = peakOf f p := by unfold peakAns; rw [if_pos he]
  have hfl : floorAns f p = floorOf f p := by unfold floorAns; rw [if_pos he]
  have hl := h1.last
  have hle := fits_peak h1 h4 h2.1
  have hlt : (frLast f).toNat < f.P.length := by omega
  have hk := (keptL_marks h1).last
  have hd := (h3.pass _ hlt).1 hk
  have hpos : 1 ≤ peakOf f p := by
    have h5 := (h3.pass _ hlt).2.1 hd
    have h6 := ((peakTo_le (f := f) (p := p) (n := f.P.length)).1 (Int.le_refl _)).2 _ hlt (by omega)
    have h7 := area_bd h1 hlt
    unfold peakOf
    omega
  rw [hpk, hfl]
  refine ⟨he, floor_le h3 h1 h4, hle, ?_, ?_⟩
  · rw [pckErr_of h1 (by omega) h3, if_pos ((fits_iff h1 h4 (by omega)).2 (Int.le_refl _))]
  · rw [pckErr_of h1 (by omega) h3, if_neg (fun h => by have := (fits_iff h1 h4 (by omega)).1 h; omega)]
end
end Go.Proofs.Ytibpmogmeoappab

/- Plans as plain Lean: the map of steps, and spans as they are set one behind the other. -/
namespace Go.Proofs.Ytibpmogmeoappab

section
variable {f : Frm} {p : Pln}
def stepsL (p : Pln) (i : Nat) : List (Int × Int) := (List.range i).map fun m => (p.ord m, (m : Int))
def findS (l : List (Int × Int)) (k : Int) : Option Int := (l.find? fun q => q.1 == k).map (·.2)
theorem stepsL_succ (p : Pln) (i : Nat) : stepsL p (i + 1) = stepsL p i ++ [(p.ord i, (i : Int))] := by simp [stepsL, List.range_succ]
theorem findS_none {i : Nat} {k : Int} (h : ¬ DoneTo p i k) : findS (stepsL p i) k = none := by
  unfold findS
  rw [List.find?_eq_none.2 (fun q hq => ?_)]
  · rfl
  · unfold stepsL at hq
    obtain ⟨m, hm, rfl⟩ := List.mem_map.1 hq
    simp only [beq_iff_eq]
    exact fun e => h ⟨m, List.mem_range.1 hm, e⟩
theorem findS_some : ∀ {i : Nat} {m : Nat}, (∀ a b, a < b → b < i → p.ord a ≠ p.ord b) → m < i → findS (stepsL p i) (p.ord m) = some (m : Int)
  | 0, m, _, hm => by omega
  | i + 1, m, hu, hm => by
    have hfa : ∀ (l : List (Int × Int)) (q : Int × Int) (k : Int), findS (l ++ [q]) k = (findS l k).or (if q.1 = k then some q.2 else none) := by
      intro l q k
      unfold findS
      rw [List.find?_append]
      cases e : l.find? (fun q => q.1 == k) with
      | some y => rfl
      | none =>
        by_cases e2 : q.1 = k
        · simp [e2]
        · simp [e2]
    rw [stepsL_succ, hfa]
    by_cases e : m < i
    · rw [findS_some (fun a b h1 h2 => hu a b h1 (by omega)) e]; rfl
    · obtain rfl : m = i := by omega
      rw [findS_none (fun ⟨a, ha, e⟩ => hu a m ha (by omega) e), if_pos rfl]; rfl
theorem findS_done {i : Nat} {k : Int} (hu : ∀ a b, a < b → b < i → p.ord a ≠ p.ord b) : (findS (stepsL p i) k).isSome = true ↔ DoneTo p i k := by
  constructor
  · intro h
    apply Classical.byContradiction
    intro hn
    rw [findS_none hn] at h
    cases h
  · rintro ⟨m, hm, rfl⟩
    rw [findS_some hu hm]; rfl
theorem findS_all (ho : OrdTo f p p.Order.length) (k : Int) : findS (stepsL p p.Order.length) k = if 0 ≤ stepOf p.Order k then some (stepOf p.Order k) else none := by
  by_cases h : DoneTo p p.Order.length k
  · rw [if_pos (doneTo_all.1 h)]
    obtain ⟨m, hm, rfl⟩ := h
    rw [findS_some ho.uniq hm, ho.step hm]
  · rw [if_neg (fun e => h (doneTo_all.2 e)), findS_none h]
instance (p : Pln) (i : Nat) (k : Int) : Decidable (DoneTo p i k) := decidable_of_iff (∃ m : Fin i, p.ord m = k) ⟨fun ⟨m, h⟩ => ⟨m, m.2, h⟩, fun ⟨m, h1, h2⟩ => ⟨⟨m, h1⟩, h2⟩⟩

/-- what order() finds -/
def OrderOk (f : Frm) (p : Pln) : Prop := OrdTo f p p.Order.length ∧ ∀ k, k < f.P.length → (keptL f).getD k false = true → DoneTo p p.Order.length k
/-- what places() finds -/
def PlaceIs (p : Pln) (k : Nat) : Prop := (DoneTo p p.Order.length k → 0 ≤ p.pl k ∧ p.pl k ≤ 4096) ∧ (¬ DoneTo p p.Order.length k → p.pl k = -1)
def PlacesOk (f : Frm) (p : Pln) : Prop := p.Places.length = f.P.length ∧ ∀ k, k < f.P.length → PlaceIs p k
theorem inOrder_iff : InOrder f p ↔ OrderOk f p ∧ PlacesOk f p := by
  constructor
  · intro h
    refine ⟨⟨ordTo_of h, fun k hk h1 => doneTo_all.2 ((h.pass k hk).1 h1)⟩, h.places, fun k hk => ⟨fun h1 => (h.pass k hk).2.1 (doneTo_all.1 h1), fun h1 => (h.pass k hk).2.2 (fun e => h1 (doneTo_all.2 e))⟩⟩
  · rintro ⟨⟨h1, h2⟩, h3, h4⟩
    exact inOrder_of h1 h3 fun k hk => ⟨fun e => doneTo_all.1 (h2 k hk e), fun e => (h4 k hk).1 (doneTo_all.2 e), fun e => (h4 k hk).2 (fun d => e (doneTo_all.1 d))⟩

/-- pass k's span while step i's sources are gone through, those of l being done -/
def spanPart (f : Frm) (p : Pln) (i : Nat) (l : List Int) (k : Nat) : Spn := ⟨stepOf p.Order k, if (k : Int) ∈ l then (i : Int) else lastUse f p k i⟩
theorem spanPart_snoc (i : Nat) (l : List Int) (j : Int) (k : Nat) : spanPart f p i (l ++ [j]) k = if (k : Int) = j then ⟨(spanPart f p i l k).First, i⟩ else spanPart f p i l k := by
  unfold spanPart
  by_cases e : (k : Int) = j
  · rw [if_pos e, if_pos (by simp [e])]
  · rw [if_neg e]
    simp [e]
theorem spanPart_next (i : Nat) (k : Nat) : spanPart f p i (srcs f (p.ord i).toNat) k = spanPart f p (i + 1) [] k := by
  unfold spanPart
  rw [if_neg (show ¬ (k : Int) ∈ ([] : List Int) by simp)]
  rfl
theorem spanPart_start (k : Nat) : spanPart f p 0 [] k = ⟨stepOf p.Order k, stepOf p.Order k⟩ := by unfold spanPart; rw [if_neg (by simp)]; rfl
theorem spanOf_part (k : Nat) : spanOf f p k = if (k : Int) = frLast f then ⟨(spanPart f p p.Order.length [] k).First, (p.Order.length : Int) - 1⟩ else spanPart f p p.Order.length [] k := by
  unfold spanPart spanOf
  by_cases e : (k : Int) = frLast f
  · rw [if_pos e, if_pos e]
  · rw [if_neg e, if_neg e, if_neg (by simp)]
theorem lastUse_bd (k : Int) : ∀ m, m ≤ p.Order.length → -1 ≤ lastUse f p k m ∧ lastUse f p k m < max (p.Order.length : Int) 1
  | 0, _ => stepOf_bd p.Order k
  | m + 1, hm => by
    have := lastUse_bd k m (by omega)
    simp only [lastUse]
    split <;> omega
theorem spanOf_bd (k : Nat) : (-1 ≤ (spanOf f p k).First ∧ (spanOf f p k).First < max (p.Order.length : Int) 1) ∧ -1 ≤ (spanOf f p k).Last ∧ (spanOf f p k).Last < max (p.Order.length : Int) 1 := by
  refine ⟨stepOf_bd _ _, ?_⟩
  unfold spanOf
  simp only
  split
  · omega
  · exact lastUse_bd _ _ (Nat.le_refl _)
end
end Go.Proofs.Ytibpmogmeoappab

/- Plans: the look in memory, the map of steps, what a store into a map leaves. -/
namespace Go.Proofs.Ytibpmogmeoappab
open Go.RowKit

theorem ne_map {w : World} {mb b o : Nat} {l : List (Int × Value)} {v : Value} (h : IMap w mb l) (hc : w.cell? ⟨b, o, none⟩ = some v) : b ≠ mb := by
  rintro rfl
  obtain ⟨es, clk, h, _⟩ := h
  simp [World.cell?, h] at hc
theorem grown_tr {a b c : World} {m : Option Nat} (h : a.grownBy b m) (k : b.grownBy c m) : a.grownBy c m :=
  ⟨k.os.trans h.os, k.tape.trans h.tape, k.output.trans h.output, Nat.le_trans h.size k.size, fun i hi hn => (k.block i (Nat.lt_of_lt_of_le hi h.size) hn).trans (h.block i hi hn)⟩
theorem grown_rfl (a : World) (m : Option Nat) : a.grownBy a m := ⟨rfl, rfl, rfl, Nat.le_refl _, fun _ _ _ => rfl⟩
theorem mapPut_grown (w : World) (b : Nat) (k : Int) (v : Value) : w.grownBy (World.mapPut w b k v) (some b) := by
  unfold World.mapPut
  split
  · refine ⟨rfl, rfl, rfl, by simp, fun i hi hn => ?_⟩
    simp only [Array.getElem?_setIfInBounds]
    rw [if_neg (fun e => hn (by rw [e]))]
  · exact grown_rfl _ _
section
variable {a w : World} {mb : Nat} {l : List (Int × Value)}
theorem grown_cell (hg : a.grownBy w (some mb)) (hm : IMap a mb l) {b o : Nat} {v : Value} (hc : a.cell? ⟨b, o, none⟩ = some v) : w.cell? ⟨b, o, none⟩ = some v := by
  have hn := ne_map hm hc
  exact (World.cell?_of_block (a := ⟨b, o, none⟩) (hg.block b (World.block_lt_of_cell? a ⟨b, o, none⟩ hc) (by simpa using hn))).trans hc
theorem grown_cells (hg : a.grownBy w (some mb)) (hm : IMap a mb l) {A : Option Addr} {cs : List Value} (hC : Cells a A cs) : Cells w A cs := by
  intro i hi
  obtain ⟨b, o, e, hlt, hc⟩ := hC i hi
  exact ⟨b, o, e, Nat.lt_of_lt_of_le hlt hg.size, grown_cell hg hm hc⟩
theorem grown_rows (hg : a.grownBy w (some mb)) (hm : IMap a mb l) {A : Option Addr} {L : List (List Int)} (hC : IntRows a A L) : IntRows w A L := by
  intro i x hi
  obtain ⟨b, o, B, m, d, e, hlt, hc, hl, hI⟩ := hC i x hi
  exact ⟨b, o, B, m, d, e, Nat.lt_of_lt_of_le hlt hg.size, grown_cell hg hm hc, hl, grown_cells hg hm hI⟩
theorem grown_blk (hg : a.grownBy w (some mb)) (hm : IMap a mb l) {g : Nat} {t : TypeId} {cs : List Value} (hB : Blk a g t cs) : Blk w g t cs := by
  have hn : g ≠ mb := by
    rintro rfl
    obtain ⟨es, clk, h, _⟩ := hm
    unfold Blk at hB
    rw [hB] at h
    cases h
  exact (hg.block g hB.lt (by simpa using hn)).trans hB
end

/-- a look's cells -/
def lookCells (OA : Option Addr) (on oc : Nat) (QA : Option Addr) (qn qc : Nat) (la : Int) (KA : Option Addr) (kn kc : Nat) (SA : Option Addr) (sn sc : Nat) (RA : Option Addr) (rn rc : Nat) (mb : Nat) (XA : Option Addr) (xn xc : Nat) : List Value :=
  [.slice OA on oc, .slice QA qn qc, .int .i64 la, .slice KA kn kc, .slice SA sn sc, .slice RA rn rc, .map (some mb), .slice XA xn xc]
abbrev LookBox (w : World) (g : Nat) (OA : Option Addr) (on oc : Nat) (QA : Option Addr) (qn qc : Nat) (la : Int) (KA : Option Addr) (kn kc : Nat) (SA : Option Addr) (sn sc : Nat) (RA : Option Addr) (rn rc : Nat) (mb : Nat) (XA : Option Addr) (xn xc : Nat) : Prop :=
  Blk w g 97 (lookCells OA on oc QA qn qc la KA kn kc SA sn sc RA rn rc mb XA xn xc)
theorem look_at {w : World} {g : Nat} {OA : Option Addr} {on oc : Nat} {QA : Option Addr} {qn qc : Nat} {la : Int} {KA : Option Addr} {kn kc : Nat} {SA : Option Addr} {sn sc : Nat} {RA : Option Addr} {rn rc : Nat} {mb : Nat} {XA : Option Addr} {xn xc : Nat} (h : LookBox w g OA on oc QA qn qc la KA kn kc SA sn sc RA rn rc mb XA xn xc) :
    g < w.heap.size ∧ w.cell? ⟨g, 0, none⟩ = some (.slice OA on oc) ∧ w.cell? ⟨g, 1, none⟩ = some (.slice QA qn qc) ∧ w.cell? ⟨g, 2, none⟩ = some (.int .i64 la) ∧ w.cell? ⟨g, 3, none⟩ = some (.slice KA kn kc) ∧ w.cell? ⟨g, 4, none⟩ = some (.slice SA sn sc) ∧ w.cell? ⟨g, 5, none⟩ = some (.slice RA rn rc) ∧ w.cell? ⟨g, 6, none⟩ = some (.map (some mb)) ∧ w.cell? ⟨g, 7, none⟩ = some (.slice XA xn xc) := by
  refine ⟨h.lt, ?_, ?_, ?_, ?_, ?_, ?_, ?_, ?_⟩ <;> (rw [Blk.cell h]; rfl)

/-- the map of the first i steps -/
def stepsM (p : Pln) (i : Nat) : List (Int × Value) := (stepsL p i).map fun q => (q.1, .int .i64 q.2)
theorem stepsM_succ (p : Pln) (i : Nat) : stepsM p (i + 1) = stepsM p i ++ [(p.ord i, .int .i64 (i : Int))] := by unfold stepsM; rw [stepsL_succ, List.map_append]; rfl
theorem lookI_map (l : List (Int × Int)) (k : Int) : lookI (l.map fun q => (q.1, Value.int .i64 q.2)) k = (findS l k).map (Value.int .i64) := by
  unfold lookI findS
  induction l with
  | nil => rfl
  | cons q l ih =>
    simp only [List.map_cons, List.find?_cons]
    cases e : q.1 == k with
    | true => simp
    | false => simpa using ih
theorem look_some {f : Frm} {p : Pln} {i m : Nat} (ho : OrdTo f p i) (hm : m < i) : lookI (stepsM p i) (p.ord m) = some (.int .i64 (m : Int)) := by
  unfold stepsM
  rw [lookI_map, findS_some ho.uniq hm]
  rfl
theorem look_none {p : Pln} {i : Nat} {k : Int} (h : ¬ DoneTo p i k) : lookI (stepsM p i) k = none := by
  unfold stepsM
  rw [lookI_map, findS_none h]
  rfl
theorem int_zero (w : World) : (zeroValue 3).run Try.prog w = .ok (.int .i64 0) w := by kernel_rfl
/-- a look-up in the map of steps: done or not -/
theorem run_done {f : Frm} {p : Pln} {i : Nat} (ho : OrdTo f p i) {w : World} {mb : Nat} (hM : IMap w mb (stepsM p i)) (k : Int) (hd : DoneTo p i k) :
    ∃ m : Nat, m < i ∧ p.ord m = k ∧ (Instr.lookup 95 (.map (some mb)) (.int .i64 k) true).run Try.prog w = .ok (.tuple #[.int .i64 (m : Int), .bool true]) w := by
  obtain ⟨m, hm, rfl⟩ := hd
  refine ⟨m, hm, rfl, ?_⟩
  have h := run_lookup_ints Try.underlying95 Try.underlying3 (int_zero w) hM (p.ord m)
  rw [look_some ho hm] at h
  exact h
theorem run_undone {p : Pln} {i : Nat} {w : World} {mb : Nat} (hM : IMap w mb (stepsM p i)) (k : Int) (hd : ¬ DoneTo p i k) :
    (Instr.lookup 95 (.map (some mb)) (.int .i64 k) true).run Try.prog w = .ok (.tuple #[.int .i64 0, .bool false]) w := by
  have h := run_lookup_ints Try.underlying95 Try.underlying3 (int_zero w) hM k
  rw [look_none hd] at h
  exact h
/-- what comes tells whether P holds -/
def RetTest (w : World) (P : Prop) (e : Ending) (w' : World) : Prop := ∃ b : Bool, e = .returned (.bool b) ∧ (b = true ↔ P) ∧ Below w.heap.size w w'
theorem retTest_no {w w' : World} {P : Prop} (h : ¬ P) (hb : Below w.heap.size w w') : RetTest w P (.returned (.bool false)) w' := ⟨false, rfl, ⟨fun e => (by cases e), fun e => absurd e h⟩, hb⟩
theorem retTest_yes {w w' : World} {P : Prop} (h : P) (hb : Below w.heap.size w w') : RetTest w P (.returned (.bool true)) w' := ⟨true, rfl, ⟨fun _ => h, fun _ => rfl⟩, hb⟩
/-- the same, of order(): the map is filled -/
def RetOrder (w : World) (mb : Nat) (f : Frm) (p : Pln) (e : Ending) (w' : World) : Prop :=
  ∃ b : Bool, e = .returned (.bool b) ∧ (b = true ↔ OrderOk f p) ∧ (b = true → IMap w' mb (stepsM p p.Order.length)) ∧ w.grownBy w' (some mb)
theorem retOrder_no {w w' : World} {mb : Nat} {f : Frm} {p : Pln} (h : ¬ OrderOk f p) (hb : w.grownBy w' (some mb)) : RetOrder w mb f p (.returned (.bool false)) w' := ⟨false, rfl, ⟨fun e => (by cases e), fun e => absurd e h⟩, (fun e => by cases e), hb⟩
theorem retOrder_yes {w w' : World} {mb : Nat} {f : Frm} {p : Pln} (h : OrderOk f p) (hm : IMap w' mb (stepsM p p.Order.length)) (hb : w.grownBy w' (some mb)) : RetOrder w mb f p (.returned (.bool true)) w' := ⟨true, rfl, ⟨fun _ => h, fun _ => rfl⟩, fun _ => hm, hb⟩
end Go.Proofs.Ytibpmogmeoappab

/- Walk: plan.look.order. -/
namespace Go.Proofs.Ytibpmogmeoappab
open Go.RowKit

set_option maxRecDepth 100000 in
set_option maxHeartbeats 4000000 in
theorem order_any (f : Frm) (p : Pln) (g mb : Nat) (OA : Option Addr) (on oc : Nat) (QA : Option Addr) (qn qc : Nat) (la : Int) (KA : Option Addr) (kn kc : Nat) (SA : Option Addr) (sn sc : Nat) (RA : Option Addr) (rn rc : Nat) (XA : Option Addr) (xn xc : Nat) (w : World)
    (hf : FrmOk f) (hL : LookBox w g OA on oc QA qn qc la KA kn kc SA sn sc RA rn rc mb XA xn xc) (hO : Ints w OA p.Order) (hon : p.Order.length = on) (hol : on ≤ 9223372036854775807)
    (hK : Cells w KA ((keptL f).map Value.bool)) (hkn : f.P.length = kn) (hR : IntRows w RA (frSources f)) (hrn : f.P.length = rn) (hM : IMap w mb []) :
    Calls Try.prog 86 #[.pointer (some ⟨g, 0, none⟩)] w (RetOrder w mb f p) := by
  have h12 := hf.many
  have hk12 : kn ≤ 12 := by omega
  have HF := hide hf
  have HL := hide hL
  have HO := hide hO
  have HK := hide hK
  have HR := hide hR
  have HM := hide hM
  have HON := hide hon
  have HKN := hide hkn
  have HRN := hide hrn
  obtain ⟨x, q0, q1, q2, q3, q4, q5, q6, q7⟩ := look_at hL
  clear hf hL hO hK hR hM hon hkn hrn
  go_enter Try.func86, Try.ntmps86
  go_wp2_with fail
  clear x q0 q1 q2 q3 q4 q5 q6 q7
  go_loopw [3, 4, 6, 7, 8, 9, 10, 21] (fun _ _ _ _ _ _ _ i wr => ∃ k : Nat, k ≤ on ∧ i = .int .i64 k ∧ Hid (OrdTo f p k) ∧ Hid (IMap wr mb (stepsM p k)) ∧ Hid (w.grownBy wr (some mb))) (fun _ _ _ _ _ _ _ i _ => on - (intOf i).toNat)
  case atStart => exact ⟨0, Nat.zero_le _, rfl, hide ⟨Nat.zero_le _, fun m hm => by omega, fun m m' h1 h2 => by omega, fun m hm => by omega⟩, HM, hide (grown_rfl _ _)⟩
  case round =>
    obtain ⟨k, hk, rfl, HOT, HMM, HG⟩ := hrel
    obtain ⟨x, q0, q1, q2, q3, q4, q5, q6, q7⟩ := look_at (grown_blk HG.out HM.out HL.out)
    by_cases hlt : k < on
    · have hk0 : (0 : Int) ≤ (k : Int) := by omega
      have hk1 : (k : Int) < (on : Int) := by omega
      obtain ⟨ob, oo, rfl, hob, co⟩ := (grown_cells HG.out HM.out HO.out) k (by rw [List.length_map, HON.out]; exact hlt)
      obtain ⟨v, hv⟩ : ∃ v, p.ord k = v := ⟨_, rfl⟩
      have ev : (p.Order.map (Value.int .i64)).getD k undef = .int .i64 v := by
        rw [← hv, List.getD_eq_getElem?_getD, List.getElem?_map, p.ord_at (by rw [HON.out]; exact hlt)]
        rfl
      rw [ev] at co
      have HV := hide hv
      clear ev hv
      by_cases hneg : v < 0
      · go_wp2_with fail
        go_ret
        refine retOrder_no (fun h => ?_) HG.out
        have h1 := h.1.rng k (by rw [HON.out]; exact hlt)
        rw [HV.out] at h1
        omega
      · by_cases hbig : (kn : Int) ≤ v
        · go_wp2_with fail
          go_ret
          refine retOrder_no (fun h => ?_) HG.out
          have h1 := h.1.rng k (by rw [HON.out]; exact hlt)
          rw [HV.out, HKN.out] at h1
          omega
        · obtain ⟨m, rfl⟩ : ∃ m : Nat, v = (m : Int) := ⟨v.toNat, by omega⟩
          have hm0 : (0 : Int) ≤ (m : Int) := by omega
          have hmk : m < kn := by omega
          have hmr : (m : Int) < (rn : Int) := by have h1 := HKN.out; have h2 := HRN.out; omega
          have hsr := frSources_at HF.out (k := m) (by rw [HKN.out]; exact hmk)
          obtain ⟨rb, ro, B, sm, sd, hRA, hrb, cr, hsm, hsI⟩ := grown_rows HG.out HM.out HR.out m (srcs f m) hsr
          obtain rfl := hRA
          have hs2 : sm ≤ 2 := by rw [← hsm]; exact srcs_le f m
          have HSM := hide hsm
          have HSI := hide hsI
          clear hsr hsm hsI hneg hbig
          go_wp2_with fail
          go_loop [6, 7, 8, 45] (fun _ _ _ t => ∃ j : Nat, j ≤ sm ∧ t = .int .i64 j ∧ Hid (∀ s ∈ (srcs f m).take j, DoneTo p k s)) (fun _ _ _ t => sm - (intOf t).toNat)
          case atStart => exact ⟨0, Nat.zero_le _, rfl, hide (fun s hs => by simp at hs)⟩
          case round =>
            obtain ⟨j, hj, rfl, HD⟩ := hrel
            by_cases hjl : j < sm
            · have hj0 : (0 : Int) ≤ (j : Int) := by omega
              have hj1 : (j : Int) < (sm : Int) := by omega
              have hjs : j < (srcs f m).length := by rw [HSM.out]; exact hjl
              obtain ⟨sb, so, hB, hsb, cs⟩ := HSI.out j (by rw [List.length_map]; exact hjs)
              obtain rfl := hB
              obtain ⟨s, hs⟩ : ∃ s, (srcs f m)[j] = s := ⟨_, rfl⟩
              have ev : ((srcs f m).map (Value.int .i64)).getD j undef = .int .i64 s := by
                rw [← hs, List.getD_eq_getElem?_getD, List.getElem?_map, List.getElem?_eq_getElem hjs]
                rfl
              rw [ev] at cs
              have HS := hide hs
              clear ev hs
              by_cases hd : DoneTo p k s
              · obtain ⟨mm, hmm, -, hlk⟩ := run_done HOT.out HMM.out s hd
                have HDD := hide hd
                clear hd
                go_wp2_with fail
                go_round
                case rel =>
                  refine ⟨j + 1, by omega, by go_num, hide (fun s' hs' => ?_)⟩
                  rw [List.take_add_one, List.getElem?_eq_getElem hjs] at hs'
                  rcases List.mem_append.1 hs' with h | h
                  · exact HD.out s' h
                  · simp only [Option.toList_some, List.mem_singleton] at h
                    rw [h, HS.out]; exact HDD.out
                case measure => simp [intOf]; omega
              · have hlk := run_undone HMM.out s hd
                have HDD := hide hd
                clear hd
                go_wp2_with fail
                go_ret
                refine retOrder_no (fun h => ?_) HG.out
                exact HDD.out (h.1.srcs k (by rw [HON.out]; exact hlt) s (by rw [HV.out, Int.toNat_natCast, ← HS.out]; exact List.getElem_mem hjs))
            · obtain rfl : j = sm := by omega
              by_cases hd : DoneTo p k (m : Int)
              · obtain ⟨mm, hmm, he, hlk⟩ := run_done HOT.out HMM.out (m : Int) hd
                have HE := hide he
                clear he hd
                go_wp2_with fail
                go_ret
                refine retOrder_no (fun h => ?_) HG.out
                exact h.1.uniq mm k hmm (by rw [HON.out]; exact hlt) (by rw [HE.out, HV.out])
              · have hlk := run_undone HMM.out (m : Int) hd
                have hup := run_mapUpdate_ints Try.underlying95 Try.underlying3 HMM.out (m : Int) (.int .i64 k) (look_none hd)
                have HDD := hide hd
                have hput := HMM.out.put (m : Int) (.int .i64 k)
                have HPUT := hide hput
                have HGP := hide (grown_tr HG.out (mapPut_grown _ mb (m : Int) (.int .i64 k)))
                clear hd hput
                go_wp2_with fail
                go_roundw
                case rel =>
                  refine ⟨k + 1, by omega, by go_num, hide (ordTo_succ HOT.out (by rw [HON.out]; exact hlt) ⟨by rw [HV.out]; omega, by rw [HV.out, HKN.out]; omega⟩ (fun a ha e => HDD.out ⟨a, ha, by rw [e, HV.out]⟩) (fun s hs => ?_)), hide ?_, HGP⟩
                  · rw [HV.out, Int.toNat_natCast] at hs
                    have h1 := HD.out s (by rw [List.take_of_length_le (by rw [HSM.out]; exact Nat.le_refl _)]; exact hs)
                    exact h1
                  · rw [stepsM_succ, HV.out]; exact HPUT.out
                case measure => simp [intOf]; omega
    · obtain rfl : k = on := by omega
      go_wp2_with fail
      go_loop [11, 12, 13, 14, 83] (fun _ _ _ _ i => ∃ j : Nat, j ≤ kn ∧ i = .int .i64 j ∧ Hid (∀ t, t < j → (keptL f).getD t false = true → DoneTo p k (t : Int))) (fun _ _ _ _ i => kn - (intOf i).toNat)
      case atStart => exact ⟨0, Nat.zero_le _, rfl, hide (fun t ht => by omega)⟩
      case round =>
        obtain ⟨j, hj, rfl, HD⟩ := hrel
        by_cases hjl : j < kn
        · have hj0 : (0 : Int) ≤ (j : Int) := by omega
          have hj1 : (j : Int) < (kn : Int) := by omega
          have hjk : j < (keptL f).length := by rw [keptL_len, HKN.out]; exact hjl
          obtain ⟨kb, ko, hKA, hkb, ck⟩ := (grown_cells HG.out HM.out HK.out) j (by rw [List.length_map]; exact hjk)
          obtain rfl := hKA
          obtain ⟨b, hb⟩ : ∃ b, (keptL f).getD j false = b := ⟨_, rfl⟩
          have ev : ((keptL f).map Value.bool).getD j undef = .bool b := by
            rw [← hb, List.getD_eq_getElem?_getD, List.getElem?_map, List.getD_eq_getElem?_getD, List.getElem?_eq_getElem hjk]
            rfl
          rw [ev] at ck
          have HBB := hide hb
          clear ev hb
          by_cases hd : DoneTo p k (j : Int)
          · obtain ⟨mm, hmm, -, hlk⟩ := run_done HOT.out HMM.out (j : Int) hd
            have HDD := hide hd
            clear hd
            have hnx := hide (show ∀ t, t < j + 1 → (keptL f).getD t false = true → DoneTo p k (t : Int) from fun t ht h => by
              by_cases htj : t < j
              · exact HD.out t htj h
              · obtain rfl : t = j := by omega
                exact HDD.out)
            cases b with
            | true =>
              go_wp2_with fail
              go_round
              case rel => exact ⟨j + 1, by omega, by go_num, hnx⟩
              case measure => simp [intOf]; omega
            | false =>
              go_wp2_with fail
              go_round
              case rel => exact ⟨j + 1, by omega, by go_num, hnx⟩
              case measure => simp [intOf]; omega
          · have hlk := run_undone HMM.out (j : Int) hd
            have HDD := hide hd
            clear hd
            cases b with
            | true =>
              go_wp2_with fail
              go_ret
              refine retOrder_no (fun h => ?_) HG.out
              have h1 := h.2 j (by rw [HKN.out]; exact hjl) HBB.out
              rw [HON.out] at h1
              exact HDD.out h1
            | false =>
              go_wp2_with fail
              go_round
              case rel =>
                refine ⟨j + 1, by omega, by go_num, hide (fun t ht h => ?_)⟩
                by_cases htj : t < j
                · exact HD.out t htj h
                · obtain rfl : t = j := by omega
                  rw [HBB.out] at h
                  cases h
              case measure => simp [intOf]; omega
        · obtain rfl : j = kn := by omega
          go_wp2_with fail
          go_ret
          exact retOrder_yes ⟨by rw [HON.out]; exact HOT.out, fun t ht h => by rw [HON.out]; exact HD.out t (by rw [HKN.out] at ht; exact ht) h⟩ (by rw [HON.out]; exact HMM.out) HG.out
end Go.Proofs.Ytibpmogmeoappab

/- Walk: plan.look.places. -/
namespace Go.Proofs.Ytibpmogmeoappab
open Go.RowKit

set_option maxRecDepth 100000 in
set_option maxHeartbeats 4000000 in
theorem places_any (f : Frm) (p : Pln) (g mb : Nat) (OA : Option Addr) (on oc : Nat) (QA : Option Addr) (qn qc : Nat) (la : Int) (KA : Option Addr) (kn kc : Nat) (SA : Option Addr) (sn sc : Nat) (RA : Option Addr) (rn rc : Nat) (XA : Option Addr) (xn xc : Nat) (w : World)
    (hkn : f.P.length = kn) (h12 : kn ≤ 12) (hL : LookBox w g OA on oc QA qn qc la KA kn kc SA sn sc RA rn rc mb XA xn xc) (hQ : Ints w QA p.Places) (hqn : p.Places.length = qn) (hql : qn ≤ 9223372036854775807)
    (ho : OrdTo f p p.Order.length) (hM : IMap w mb (stepsM p p.Order.length)) :
    Calls Try.prog 87 #[.pointer (some ⟨g, 0, none⟩)] w (RetTest w (PlacesOk f p)) := by
  have HL := hide hL
  have HQ := hide hQ
  have HM := hide hM
  have HOT := hide ho
  have HKN := hide hkn
  have HQN := hide hqn
  obtain ⟨x, q0, q1, q2, q3, q4, q5, q6, q7⟩ := look_at hL
  clear hL hQ hM ho hkn hqn
  by_cases hne : qn = kn
  · subst hne
    go_enter Try.func87, Try.ntmps87
    go_wp2_with fail
    go_quiet (fail)
    generalize hq : World.drewN w _ = w2
    have hb2 : Below w.heap.size w w2 := by rw [← hq]; exact below_drewN (Below.refl _ _) _
    have HB2 := hide hb2
    have HL2 := hide (Blk.keep HL.out hb2)
    have HQ2 := hide (HQ.out.keep hb2)
    have HM2 := hide (HM.out.keep hb2)
    clear hq hb2 HL HQ HM x q0 q1 q2 q3 q4 q5 q6 q7
    obtain ⟨x, q0, q1, q2, q3, q4, q5, q6, q7⟩ := look_at HL2.out
    go_wp2_with fail
    go_loop [3, 4, 5, 6, 25] (fun _ _ _ _ i => ∃ k : Nat, k ≤ qn ∧ i = .int .i64 k ∧ Hid (∀ j, j < k → PlaceIs p j)) (fun _ _ _ _ i => qn - (intOf i).toNat)
    case atStart => exact ⟨0, Nat.zero_le _, rfl, hide (fun j hj => by omega)⟩
    case round =>
      obtain ⟨k, hk, rfl, HI⟩ := hrel
      by_cases hlt : k < qn
      · have hk0 : (0 : Int) ≤ (k : Int) := by omega
        have hk1 : (k : Int) < (qn : Int) := by omega
        obtain ⟨pb, po, hQA, hpb, cp⟩ := HQ2.out k (by rw [List.length_map, HQN.out]; exact hlt)
        obtain rfl := hQA
        obtain ⟨v, hv⟩ : ∃ v, p.pl k = v := ⟨_, rfl⟩
        have ev : (p.Places.map (Value.int .i64)).getD k undef = .int .i64 v := by
          rw [← hv, List.getD_eq_getElem?_getD, List.getElem?_map]
          unfold Pln.pl
          rw [List.getD_eq_getElem?_getD, List.getElem?_eq_getElem (by rw [HQN.out]; exact hlt)]
          rfl
        rw [ev] at cp
        have HV := hide hv
        clear ev hv
        have hnot : ¬ PlaceIs p k → ¬ PlacesOk f p := fun h1 h2 => h1 (h2.2 k (by rw [HKN.out]; exact hlt))
        have HNOT := hide hnot
        clear hnot
        by_cases hd : DoneTo p p.Order.length (k : Int)
        · obtain ⟨mm, hmm, -, hlk⟩ := run_done HOT.out HM2.out (k : Int) hd
          have HD := hide hd
          clear hd
          by_cases h1 : v < 0
          · go_wp2_with fail
            go_ret
            refine retTest_no (fun h => ?_) (HB2.out)
            exact absurd h (HNOT.out (fun h2 => by have h3 := h2.1 HD.out; rw [HV.out] at h3; omega))
          · by_cases h2 : 4096 < v
            · go_wp2_with fail
              go_ret
              refine retTest_no (fun h => ?_) (HB2.out)
              exact absurd h (HNOT.out (fun h2 => by have h3 := h2.1 HD.out; rw [HV.out] at h3; omega))
            · go_wp2_with fail
              go_round
              case rel =>
                refine ⟨k + 1, by omega, by go_num, hide (fun j hj => ?_)⟩
                by_cases hjk : j < k
                · exact HI.out j hjk
                · obtain rfl : j = k := by omega
                  exact ⟨fun _ => by rw [HV.out]; omega, fun h => absurd HD.out h⟩
              case measure => simp [intOf]; omega
        · have hlk := run_undone HM2.out (k : Int) hd
          have HD := hide hd
          clear hd
          by_cases h1 : v = -1
          · subst h1
            go_wp2_with fail
            go_round
            case rel =>
              refine ⟨k + 1, by omega, by go_num, hide (fun j hj => ?_)⟩
              by_cases hjk : j < k
              · exact HI.out j hjk
              · obtain rfl : j = k := by omega
                exact ⟨fun h => absurd h HD.out, fun _ => HV.out⟩
            case measure => simp [intOf]; omega
          · have hb1 : (v == -1) = false := by simpa using h1
            have H1 := hide h1
            clear h1
            go_wp2_with fail
            go_ret
            refine retTest_no (fun h => ?_) (HB2.out)
            exact absurd h (HNOT.out (fun h2 => H1.out (by have h3 := h2.2 HD.out; rw [HV.out] at h3; exact h3)))
      · obtain rfl : k = qn := by omega
        go_wp2_with fail
        go_ret
        exact retTest_yes ⟨by rw [HQN.out, HKN.out], fun j hj => HI.out j (by rw [HKN.out] at hj; exact hj)⟩ HB2.out
  · have hn1 : ¬ ((qn : Int) = (kn : Int)) := by omega
    have hn2 : ((qn : Int) == (kn : Int)) = false := by simpa using hn1
    go_enter Try.func87, Try.ntmps87
    go_wp2_with fail
    go_quiet (fail)
    go_wp2_with fail
    go_ret
    refine retTest_no (fun h => ?_) (below_drewN (Below.refl _ _) _)
    have h1 := h.1
    rw [HQN.out, HKN.out] at h1
    exact absurd h1 hne
end Go.Proofs.Ytibpmogmeoappab

/- Walk: stepOf. -/
namespace Go.Proofs.Ytibpmogmeoappab
open Go.RowKit

set_option maxRecDepth 100000 in
theorem stepOf_ref (A : Option Addr) (n c : Nat) (l : List Int) (k : Int) (w : World) (hn : l.length = n) (hI : Ints w A l) (hl : n ≤ 9223372036854775807) :
    Calls Try.prog 60 #[.slice A n c, .int .i64 k] w fun e w' => e = .returned (.int .i64 (stepOf l k)) ∧ w = w' := by
  have HN := hide hn
  have HI := hide hI
  clear hn hI
  go_enter Try.func60, Try.ntmps60
  go_wp2_with fail
  go_loop [5] (fun i => ∃ j : Nat, j ≤ n ∧ i = .int .i64 j ∧ Hid (∀ t, t < j → l[t]? ≠ some k)) (fun i => n - (intOf i).toNat)
  case atStart => exact ⟨0, Nat.zero_le _, rfl, hide (fun t ht => by omega)⟩
  case round =>
    obtain ⟨j, hj, rfl, HJ⟩ := hrel
    by_cases hlt : j < n
    · have hj0 : (0 : Int) ≤ (j : Int) := by omega
      have hj1 : (j : Int) < (n : Int) := by omega
      have hjl : j < l.length := by rw [HN.out]; exact hlt
      obtain ⟨b, o, hA, hb, cv⟩ := HI.out j (by rw [List.length_map]; exact hjl)
      obtain rfl := hA
      obtain ⟨v, hv⟩ : ∃ v, l[j]? = some v := ⟨l[j], List.getElem?_eq_getElem hjl⟩
      have ev : (l.map (Value.int .i64)).getD j undef = .int .i64 v := by
        rw [List.getD_eq_getElem?_getD, List.getElem?_map, hv]
        rfl
      rw [ev] at cv
      have HV := hide hv
      clear ev hv
      by_cases he : v = k
      · subst he
        have HS := hide (stepOf_hit HV.out HJ.out)
        go_wp2_with fail
        go_ret
        exact ⟨ret_int HS.out.symm, rfl⟩
      · have hb1 : (v == k) = false := by simpa using he
        have HE := hide he
        clear he
        go_wp2_with fail
        go_round
        case rel =>
          refine ⟨j + 1, by omega, by go_num, hide (fun t ht => ?_)⟩
          by_cases htj : t < j
          · exact HJ.out t htj
          · obtain rfl : t = j := by omega
            rw [HV.out]
            exact fun e => HE.out (by injection e)
        case measure => simp [intOf]; omega
    · obtain rfl : j = n := by omega
      have HS := hide (stepOf_none (l := l) (k := k) (fun h => by
        obtain ⟨t, ht, e⟩ := List.getElem_of_mem h
        exact HJ.out t (by have := HN.out; omega) (by rw [List.getElem?_eq_getElem ht, e])))
      go_wp2_with fail
      go_ret
      exact ⟨ret_int HS.out.symm, rfl⟩
end Go.Proofs.Ytibpmogmeoappab
