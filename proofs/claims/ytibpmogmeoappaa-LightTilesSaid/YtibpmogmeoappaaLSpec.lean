/- Lights as plain Lean: what is right, what a light gives, who is near a part; no program in sight. -/
import Derived.Test.YtibpmogmeoappaaSpec
namespace Go.Proofs.Ytibpmogmeoappaa

structure Lamp where
  X : Int
  Y : Int
  R : Int
  K : Int
  deriving DecidableEq

def Lamp.Fine (l : Lamp) : Prop := (0 ≤ l.X ∧ l.X ≤ 15) ∧ (0 ≤ l.Y ∧ l.Y ≤ 15) ∧ (1 ≤ l.R ∧ l.R ≤ 32) ∧ (0 ≤ l.K ∧ l.K ≤ 65535)
instance (l : Lamp) : Decidable l.Fine := by unfold Lamp.Fine; exact inferInstance

def lampsErr (ls : List Lamp) : Int := if 8 < ls.length then 2 else if ∀ l ∈ ls, l.Fine then 0 else 3
theorem lampsErr_zero {ls : List Lamp} (h : lampsErr ls = 0) : ls.length ≤ 8 ∧ ∀ l ∈ ls, l.Fine := by
  unfold lampsErr at h
  split at h
  · omega
  · split at h
    · rename_i h1 h2; exact ⟨by omega, h2⟩
    · omega
theorem lampsErr_three {ls : List Lamp} {l : Lamp} (hn : ls.length ≤ 8) (hl : l ∈ ls) (h : ¬ l.Fine) : lampsErr ls = 3 := by
  unfold lampsErr
  rw [if_neg (by omega), if_neg (fun e => h (e l hl))]

/-- how far a place lies from a light -/
def Lamp.far (l : Lamp) (x y : Int) : Int := max (l.X - x) (-(l.X - x)) + max (l.Y - y) (-(l.Y - y))
/-- what a light gives to a place -/
def Lamp.gives (l : Lamp) (x y : Int) : Int := if l.far x y < l.R then l.K * (l.R - l.far x y) / l.R else 0
def lightAt (ls : List Lamp) (x y : Int) : Int := (ls.map fun l => l.gives x y).sum
theorem lightAt_snoc (ls : List Lamp) (l : Lamp) (x y : Int) : lightAt (ls ++ [l]) x y = lightAt ls x y + l.gives x y := by simp [lightAt]

theorem Lamp.far_nonneg (l : Lamp) (x y : Int) : 0 ≤ l.far x y := by unfold Lamp.far; omega
theorem Lamp.gives_bd {l : Lamp} (h : l.Fine) (x y : Int) : 0 ≤ l.gives x y ∧ l.gives x y ≤ 65535 := by
  obtain ⟨_, _, ⟨h5, h6⟩, ⟨h7, h8⟩⟩ := h
  have h0 := l.far_nonneg x y
  unfold Lamp.gives
  split
  · rename_i hlt
    have p0 : 0 ≤ l.K * (l.R - l.far x y) := Int.mul_nonneg h7 (by omega)
    have p1 : l.K * (l.R - l.far x y) ≤ l.K * l.R := Int.mul_le_mul_of_nonneg_left (by omega) h7
    refine ⟨Int.ediv_nonneg p0 (by omega), ?_⟩
    have : l.K * (l.R - l.far x y) / l.R ≤ l.K * l.R / l.R := Int.ediv_le_ediv (by omega) p1
    rw [Int.mul_ediv_cancel _ (by omega)] at this
    omega
  · omega
theorem lightAt_bd {ls : List Lamp} (h : ∀ l ∈ ls, l.Fine) (x y : Int) : 0 ≤ lightAt ls x y ∧ lightAt ls x y ≤ 65535 * (ls.length : Int) := by
  induction ls with
  | nil => simp [lightAt]
  | cons l ls ih =>
    have h1 := Lamp.gives_bd (h l (by simp)) x y
    have h2 := ih fun l hl => h l (by simp [hl])
    simp only [lightAt, List.map_cons, List.sum_cons, List.length_cons] at h2 ⊢
    omega

/-- how far a number lies outside of some -/
def outside (n lo count : Int) : Int := max (max (lo - n) (n - (lo + count - 1))) 0
def Lamp.nears (l : Lamp) (x y w h : Int) : Bool := decide (outside l.X x w + outside l.Y y h < l.R)
/-- which lights are near a part -/
def nearList (ls : List Lamp) (x y w h : Int) : List Int := (List.range ls.length).flatMap fun i => if (ls.getD i ⟨0, 0, 0, 0⟩).nears x y w h then [(i : Int)] else []
/-- a light is near a part if and only if it reaches a place of it -/
theorem Lamp.nears_iff (l : Lamp) {x y w h : Int} (hw : 1 ≤ w) (hh : 1 ≤ h) :
    l.nears x y w h = true ↔ ∃ u v : Int, (x ≤ u ∧ u < x + w) ∧ (y ≤ v ∧ v < y + h) ∧ l.far u v < l.R := by
  unfold Lamp.nears outside Lamp.far
  rw [decide_eq_true_iff]
  constructor
  · intro hd
    refine ⟨max x (min (x + w - 1) l.X), max y (min (y + h - 1) l.Y), by omega, by omega, by omega⟩
  · rintro ⟨u, v, hu, hv, hd⟩
    omega
/-- who is not near a part gives it nothing -/
theorem Lamp.not_near {l : Lamp} {x y w h u v : Int} (hw : 1 ≤ w) (hh : 1 ≤ h) (hn : l.nears x y w h = false) (hu : x ≤ u ∧ u < x + w) (hv : y ≤ v ∧ v < y + h) : l.gives u v = 0 := by
  unfold Lamp.gives
  rw [if_neg]
  intro hd
  have := (l.nears_iff hw hh).2 ⟨u, v, hu, hv, hd⟩
  rw [hn] at this
  cases this
end Go.Proofs.Ytibpmogmeoappaa
