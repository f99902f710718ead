/- The plain meaning of images: lists of numbers, no program in sight. -/
namespace Go.Proofs.Ytibpmogmeoappaa

/-- integers from lo to hi, both of them -/
def irange (lo hi : Int) : List Int := (List.range (hi + 1 - lo).toNat).map fun (i : Nat) => lo + (i : Int)

theorem irange_nil {lo hi : Int} (h : hi < lo) : irange lo hi = [] := by
  unfold irange; rw [show (hi + 1 - lo).toNat = 0 by omega]; rfl
theorem irange_snoc {lo hi : Int} (h : lo ≤ hi) : irange lo hi = irange lo (hi - 1) ++ [hi] := by
  unfold irange
  rw [show (hi + 1 - lo).toNat = (hi - 1 + 1 - lo).toNat + 1 by omega, List.range_succ, List.map_append]
  simp; omega
theorem mem_irange {lo hi x : Int} : x ∈ irange lo hi ↔ lo ≤ x ∧ x ≤ hi := by
  unfold irange
  simp only [List.mem_map, List.mem_range]
  constructor
  · rintro ⟨i, hi, rfl⟩; omega
  · intro h; exact ⟨(x - lo).toNat, by omega, by omega⟩
theorem irange_length (lo hi : Int) : (irange lo hi).length = (hi + 1 - lo).toNat := by simp [irange]
theorem irange_cons {lo hi : Int} (h : lo ≤ hi) : irange lo hi = lo :: irange (lo + 1) hi := by
  unfold irange
  rw [show (hi + 1 - lo).toNat = (hi + 1 - (lo + 1)).toNat + 1 by omega, List.range_succ_eq_map, List.map_cons, List.map_map]
  congr 1
  · simp
  · apply List.map_congr_left; intro i _; simp; omega

structure Img where
  W : Int
  H : Int
  P : List Int
  deriving DecidableEq

def Img.Fine (a : Img) : Prop := (1 ≤ a.W ∧ a.W ≤ 16) ∧ (1 ≤ a.H ∧ a.H ≤ 16) ∧ (a.P.length : Int) = a.W * a.H ∧ ∀ x ∈ a.P, 0 ≤ x ∧ x ≤ 65535
instance (a : Img) : Decidable a.Fine := by unfold Img.Fine; exact inferInstance
def Img.none : Img := ⟨0, 0, []⟩
def Img.at_ (a : Img) (x y : Int) : Int := a.P.getD (y * a.W + x).toNat 0

theorem mul_bd {W H : Int} (h1 : 1 ≤ W) (h2 : W ≤ 16) (h3 : 1 ≤ H) (h4 : H ≤ 16) : 1 ≤ W * H ∧ W * H ≤ 256 := by
  have a := Int.mul_le_mul h2 h4 (by omega) (by omega)
  have b := Int.mul_le_mul h1 h3 (by omega) (by omega)
  omega
/-- a place of an image lies inside -/
theorem place_bd {W H x y : Int} (hx : 0 ≤ x) (hx' : x < W) (hy : 0 ≤ y) (hy' : y < H) : 0 ≤ y * W + x ∧ y * W + x < W * H := by
  have a := Int.mul_nonneg hy (by omega : (0:Int) ≤ W)
  have b : (y + 1) * W ≤ H * W := Int.mul_le_mul_of_nonneg_right (by omega) (by omega)
  rw [Int.add_mul] at b
  rw [Int.mul_comm W H]
  omega
theorem Img.Fine.at_mem {a : Img} (h : a.Fine) {x y : Int} (hx : 0 ≤ x) (hx' : x < a.W) (hy : 0 ≤ y) (hy' : y < a.H) :
    (y * a.W + x).toNat < a.P.length ∧ a.at_ x y ∈ a.P := by
  have hb := place_bd hx hx' hy hy'
  have hl := h.2.2.1
  have hlt : (y * a.W + x).toNat < a.P.length := by omega
  refine ⟨hlt, ?_⟩
  unfold Img.at_
  rw [List.getD_eq_getElem?_getD, List.getElem?_eq_getElem hlt]
  simp
theorem Img.Fine.at_bd {a : Img} (h : a.Fine) {x y : Int} (hx : 0 ≤ x) (hx' : x < a.W) (hy : 0 ≤ y) (hy' : y < a.H) :
    0 ≤ a.at_ x y ∧ a.at_ x y ≤ 65535 := h.2.2.2 _ (h.at_mem hx hx' hy hy').2

/-- rows of a picture: h rows of w numbers -/
def grid (w h : Nat) (f : Int → Int → Int) : List Int := (List.range h).flatMap fun (y : Nat) => (List.range w).map fun (x : Nat) => f (x : Int) (y : Int)

theorem grid_length (w h : Nat) (f : Int → Int → Int) : (grid w h f).length = w * h := by
  unfold grid
  induction h with
  | zero => simp
  | succ h ih => rw [List.range_succ, List.flatMap_append, List.length_append, ih]; simp [Nat.mul_succ]
theorem grid_succ (w h : Nat) (f : Int → Int → Int) : grid w (h + 1) f = grid w h f ++ (List.range w).map fun (x : Nat) => f (x : Int) (h : Int) := by
  unfold grid
  rw [List.range_succ, List.flatMap_append]; simp
theorem grid_eq (w h : Nat) (hw : 0 < w) (f : Int → Int → Int) : grid w h f = (List.range (w * h)).map fun i => f ((i % w : Nat) : Int) ((i / w : Nat) : Int) := by
  induction h with
  | zero => simp [grid]
  | succ h ih =>
    rw [grid_succ, ih, Nat.mul_succ, List.range_add, List.map_append, List.map_map]
    congr 1
    apply List.map_congr_left
    intro x hx
    have hx' : x < w := by simpa using hx
    simp only [Function.comp]
    rw [Nat.mul_add_mod, Nat.mod_eq_of_lt hx', Nat.mul_add_div hw, Nat.div_eq_of_lt hx', Nat.add_zero]
theorem grid_congr (w h : Nat) (f g : Int → Int → Int) (hfg : ∀ x y : Int, 0 ≤ x → x < w → 0 ≤ y → y < h → f x y = g x y) : grid w h f = grid w h g := by
  unfold grid
  rw [List.flatMap_def, List.flatMap_def]
  congr 1
  apply List.map_congr_left
  intro y hy
  apply List.map_congr_left
  intro x hx
  have hx' : x < w := by simpa using hx
  have hy' : y < h := by simpa using hy
  exact hfg _ _ (by omega) (by omega) (by omega) (by omega)
theorem mem_grid {w h : Nat} {f : Int → Int → Int} {v : Int} : v ∈ grid w h f ↔ ∃ x y : Int, 0 ≤ x ∧ x < w ∧ 0 ≤ y ∧ y < h ∧ v = f x y := by
  unfold grid
  simp only [List.mem_flatMap, List.mem_map, List.mem_range]
  constructor
  · rintro ⟨y, hy, x, hx, rfl⟩; exact ⟨x, y, by omega, by omega, by omega, by omega, rfl⟩
  · rintro ⟨x, y, hx, hx', hy, hy', rfl⟩
    exact ⟨y.toNat, by omega, x.toNat, by omega, by rw [Int.toNat_of_nonneg hx, Int.toNat_of_nonneg hy]⟩
theorem grid_get (w h : Nat) (f : Int → Int → Int) {x y : Int} (hx : 0 ≤ x) (hx' : x < w) (hy : 0 ≤ y) (hy' : y < h) :
    (grid w h f).getD (y * w + x).toNat 0 = f x y := by
  obtain ⟨x, rfl⟩ := Int.eq_ofNat_of_zero_le hx
  obtain ⟨y, rfl⟩ := Int.eq_ofNat_of_zero_le hy
  have hx2 : x < w := by omega
  have hy2 : y < h := by omega
  have hw : 0 < w := by omega
  have hlt : w * y + x < w * h := by
    have : w * (y + 1) ≤ w * h := Nat.mul_le_mul_left _ hy2
    rw [Nat.mul_succ] at this; omega
  have e : ((y : Int) * (w : Int) + (x : Int)).toNat = w * y + x := by
    rw [← Int.natCast_mul, ← Int.natCast_add, Int.toNat_natCast, Nat.mul_comm]
  rw [e, grid_eq w h hw, List.getD_eq_getElem?_getD, List.getElem?_map, List.getElem?_range hlt]
  have e1 : (w * y + x) % w = x := by rw [Nat.mul_add_mod, Nat.mod_eq_of_lt hx2]
  have e2 : (w * y + x) / w = y := by rw [Nat.mul_add_div hw, Nat.div_eq_of_lt hx2, Nat.add_zero]
  simp only [Option.map_some, Option.getD_some, e1, e2]

/-- the image of w columns and h rows -/
def drawn (w h : Int) (f : Int → Int → Int) : Img := ⟨w, h, grid w.toNat h.toNat f⟩
theorem drawn_congr {w h : Int} {f g : Int → Int → Int} (hfg : ∀ x y : Int, 0 ≤ x → x < w → 0 ≤ y → y < h → f x y = g x y) : drawn w h f = drawn w h g := by
  unfold drawn
  rw [grid_congr w.toNat h.toNat f g (fun x y h1 h2 h3 h4 => hfg x y h1 (by omega) h3 (by omega))]
theorem drawn_at {w h x y : Int} (f : Int → Int → Int) (hx : 0 ≤ x) (hx' : x < w) (hy : 0 ≤ y) (hy' : y < h) : (drawn w h f).at_ x y = f x y := by
  unfold Img.at_ drawn
  have := grid_get w.toNat h.toNat f hx (by omega) hy (by omega)
  rw [Int.toNat_of_nonneg (by omega)] at this
  exact this
theorem drawn_fine {w h : Int} {f : Int → Int → Int} (hw : 1 ≤ w ∧ w ≤ 16) (hh : 1 ≤ h ∧ h ≤ 16) (hf : ∀ x y : Int, 0 ≤ x → x < w → 0 ≤ y → y < h → 0 ≤ f x y ∧ f x y ≤ 65535) : (drawn w h f).Fine := by
  refine ⟨hw, hh, ?_, ?_⟩
  · simp only [drawn, grid_length, Int.natCast_mul]; rw [Int.toNat_of_nonneg (by omega), Int.toNat_of_nonneg (by omega)]
  · intro v hv
    have hv' : v ∈ grid w.toNat h.toNat f := hv
    obtain ⟨x, y, h1, h2, h3, h4, rfl⟩ := mem_grid.1 hv'
    exact hf x y h1 (by omega) h3 (by omega)
theorem Img.Fine.eq_drawn {a : Img} (h : a.Fine) : a = drawn a.W a.H a.at_ := by
  obtain ⟨W, H, P⟩ := a
  unfold drawn
  congr 1
  obtain ⟨h1, h2, h3, h4⟩ := h
  simp only at h1 h2 h3 h4 ⊢
  have hw : 0 < W.toNat := by omega
  rw [grid_eq _ _ hw]
  apply List.ext_getElem
  · simp only [List.length_map, List.length_range]
    have : ((W.toNat * H.toNat : Nat) : Int) = W * H := by rw [Int.natCast_mul, Int.toNat_of_nonneg (by omega), Int.toNat_of_nonneg (by omega)]
    omega
  · intro i hi hi'
    simp only [List.getElem_map, List.getElem_range, Img.at_]
    have e : (((i / W.toNat : Nat) : Int) * W + ((i % W.toNat : Nat) : Int)).toNat = i := by
      have hd := Nat.div_add_mod i W.toNat
      have e2 : (((i / W.toNat : Nat) : Int) * W + ((i % W.toNat : Nat) : Int)) = ((W.toNat * (i / W.toNat) + i % W.toNat : Nat) : Int) := by
        rw [Int.natCast_add, Int.natCast_mul, Int.toNat_of_nonneg (by omega), Int.mul_comm]
      rw [e2, hd]; simp
    rw [e, List.getD_eq_getElem?_getD, List.getElem?_eq_getElem hi]; simp

/-! ## A2 to A4 -/
def makeErr (op w h k : Int) : Int :=
  if op ≠ 1 ∧ op ≠ 2 then 4 else if ¬ (1 ≤ w ∧ w ≤ 16) ∨ ¬ (1 ≤ h ∧ h ≤ 16) ∨ ¬ (0 ≤ k ∧ k ≤ 65535) then 3 else 0
def makePix (op k x y : Int) : Int := if op = 2 then (x * k + y) % 65536 else k
def makeImg (op w h k : Int) : Img := drawn w h (makePix op k)
def makeAns (op w h k : Int) : Img := if makeErr op w h k = 0 then makeImg op w h k else Img.none

def meanList (a : Img) (x y u v : Int) : List Int :=
  (irange (max y 0) (min v (a.H - 1))).flatMap fun j => (irange (max x 0) (min u (a.W - 1))).map fun i => a.at_ i j
def mean (a : Img) (x y u v : Int) : Int := (meanList a x y u v).sum / ((meanList a x y u v).length : Int)

def oneErr (op : Int) (a : Img) (k : Int) : Int :=
  if op = 3 ∨ op = 10 then 0
  else if op = 8 then (if 0 ≤ k ∧ k ≤ 65535 then 0 else 3)
  else if op = 9 then (if -16 ≤ k ∧ k ≤ 16 then 0 else 3)
  else if op = 11 then (if a.W % 2 = 1 ∨ a.H % 2 = 1 then 6 else 0)
  else if op = 12 then (if 16 < 2 * a.W ∨ 16 < 2 * a.H then 6 else 0)
  else 4
def sizeW (op w : Int) : Int := if op = 11 then w / 2 else if op = 12 then 2 * w else w
def onePix (op : Int) (a : Img) (k x y : Int) : Int :=
  if op = 3 then a.at_ x y
  else if op = 8 then (if k ≤ a.at_ x y then a.at_ x y else 0)
  else if op = 9 then a.at_ (max 0 (min (a.W - 1) (x - k))) y
  else if op = 10 then mean a (x - 1) (y - 1) (x + 1) (y + 1)
  else if op = 11 then mean a (2 * x) (2 * y) (2 * x + 1) (2 * y + 1)
  else if op = 12 then a.at_ (x / 2) (y / 2)
  else 0
def oneImg (op : Int) (a : Img) (k : Int) : Img := drawn (sizeW op a.W) (sizeW op a.H) (onePix op a k)
def oneErrAll (op : Int) (a : Img) (k : Int) : Int := if a.Fine then oneErr op a k else 1
def oneAns (op : Int) (a : Img) (k : Int) : Img := if oneErrAll op a k = 0 then oneImg op a k else Img.none

def twoNum (op x y : Int) : Int :=
  if op = 4 then min 65535 (x + y) else if op = 5 then max 0 (x - y) else if op = 6 then x * y / 65535 else if op = 7 then max x y else 0
def twoImg (op : Int) (a b : Img) : Img := ⟨a.W, a.H, (List.range a.P.length).map fun i => twoNum op (a.P.getD i 0) (b.P.getD i 0)⟩
def twoErr (op : Int) (a b : Img) : Int :=
  if ¬ a.Fine ∨ ¬ b.Fine then 1 else if ¬ (4 ≤ op ∧ op ≤ 7) then 4 else if a.W ≠ b.W ∨ a.H ≠ b.H then 6 else 0
def twoAns (op : Int) (a b : Img) : Img := if twoErr op a b = 0 then twoImg op a b else Img.none

end Go.Proofs.Ytibpmogmeoappaa
