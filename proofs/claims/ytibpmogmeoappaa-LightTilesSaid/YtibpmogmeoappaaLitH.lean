/- Lit, plain parts: a place of a picture is set; who is near gives all there is. -/
import Derived.Test.YtibpmogmeoappaaLitF
import Derived.Test.YtibpmogmeoappaaLitG
namespace Go.Proofs.Ytibpmogmeoappaa
open Go.RowKit

theorem grid_set (w h : Nat) (f : Int → Int → Int) {x y : Int} (hx : 0 ≤ x) (hx' : x < w) (hy : 0 ≤ y) (hy' : y < h) (z : Int) :
    (grid w h f).set (y * w + x).toNat z = grid w h (fun a b => if a = x ∧ b = y then z else f a b) := by
  obtain ⟨x, rfl⟩ := Int.eq_ofNat_of_zero_le hx
  obtain ⟨y, rfl⟩ := Int.eq_ofNat_of_zero_le hy
  have hw : 0 < w := by omega
  have e : ((y : Int) * (w : Int) + (x : Int)).toNat = w * y + x := by
    rw [← Int.natCast_mul, ← Int.natCast_add, Int.toNat_natCast, Nat.mul_comm]
  rw [e, grid_eq w h hw, grid_eq w h hw]
  apply List.ext_getElem
  · simp
  · intro i h1 h2
    simp only [List.getElem_set, List.getElem_map, List.getElem_range]
    by_cases hi : w * y + x = i
    · subst hi
      have hx2 : x < w := by omega
      have e1 : (w * y + x) % w = x := by rw [Nat.mul_add_mod, Nat.mod_eq_of_lt hx2]
      have e2 : (w * y + x) / w = y := by rw [Nat.mul_add_div hw, Nat.div_eq_of_lt hx2, Nat.add_zero]
      rw [if_pos rfl, e1, e2, if_pos ⟨rfl, rfl⟩]
    · rw [if_neg hi, if_neg]
      rintro ⟨a, b⟩
      have hd := Nat.div_add_mod i w
      have a' : i % w = x := by omega
      have b' : i / w = y := by omega
      rw [a', b'] at hd
      exact hi hd

/-- the pixels of the picture lie in block g -/
def PixBlk (w : World) (g : Nat) (W H : Int) (f : Int → Int → Int) (tail : List Value) : Prop := Blk w g 3 ((grid W.toNat H.toNat f).map (.int .i64) ++ tail)
section
variable {w w' : World} {g : Nat} {W H : Int} {f f' : Int → Int → Int} {tail : List Value}
theorem PixBlk.congr (h : PixBlk w g W H f tail) (hf : ∀ x y : Int, 0 ≤ x → x < W → 0 ≤ y → y < H → f x y = f' x y) : PixBlk w g W H f' tail := by
  unfold PixBlk at h ⊢
  rw [grid_congr W.toNat H.toNat f' f (fun x y h1 h2 h3 h4 => (hf x y h1 (by omega) h3 (by omega)).symm)]
  exact h
theorem pix_lt {x y : Int} (hx : 0 ≤ x) (hx' : x < W) (hy : 0 ≤ y) (hy' : y < H) : (y * W + x).toNat < (grid W.toNat H.toNat f).length := by
  rw [grid_length]
  have hb := place_bd hx hx' hy hy'
  have : ((W.toNat * H.toNat : Nat) : Int) = W * H := by rw [Int.natCast_mul, Int.toNat_of_nonneg (by omega), Int.toNat_of_nonneg (by omega)]
  omega
theorem PixBlk.cell (h : PixBlk w g W H f tail) {x y : Int} (hx : 0 ≤ x) (hx' : x < W) (hy : 0 ≤ y) (hy' : y < H) : w.cell? ⟨g, (y * W + x).toNat, none⟩ = some (.int .i64 (f x y)) := by
  have hlt := pix_lt (f := f) hx hx' hy hy'
  have hg := grid_get W.toNat H.toNat f hx (by omega) hy (by omega)
  rw [Int.toNat_of_nonneg (by omega)] at hg
  rw [Blk.cell h, List.getElem?_append_left (by simpa using hlt), List.getElem?_map, List.getElem?_eq_getElem hlt]
  rw [List.getD_eq_getElem?_getD, List.getElem?_eq_getElem hlt] at hg
  simp only [Option.getD_some] at hg
  simp only [Option.map_some, hg]
theorem PixBlk.free (h : PixBlk w g W H f tail) (i : Nat) : w.frozen? ⟨g, i, none⟩ = false := Blk.frozen h i
theorem PixBlk.put (h : PixBlk w g W H f tail) {x y z : Int} (hx : 0 ≤ x) (hx' : x < W) (hy : 0 ≤ y) (hy' : y < H) :
    PixBlk (w.setCell ⟨g, (y * W + x).toNat, none⟩ (.int .i64 z)) g W H (fun a b => if a = x ∧ b = y then z else f a b) tail := by
  have hlt := pix_lt (f := f) hx hx' hy hy'
  have hs := grid_set W.toNat H.toNat f hx (by omega) hy (by omega) z
  rw [Int.toNat_of_nonneg (by omega)] at hs
  have := Blk.set_ h (y * W + x).toNat (.int .i64 z)
  rw [List.set_append_left _ _ (by simpa using hlt), ← List.map_set, hs] at this
  exact this
theorem PixBlk.keep (h : PixBlk w g W H f tail) (hb : Below w.heap.size w w') : PixBlk w' g W H f tail := Blk.keep h hb
end

/-- what the first k near ones give to a place -/
def nearSum (ls : List Lamp) (L : List Int) (u v : Int) : Int := (L.map fun i => (ls.getD i.toNat ⟨0, 0, 0, 0⟩).gives u v).sum
theorem nearSum_snoc (ls : List Lamp) (L : List Int) (i u v : Int) : nearSum ls (L ++ [i]) u v = nearSum ls L u v + (ls.getD i.toNat ⟨0, 0, 0, 0⟩).gives u v := by
  unfold nearSum; simp [List.sum_append]
theorem nearTo_sum {ls : List Lamp} {x y cw ch u v : Int} (hw : 1 ≤ cw) (hh : 1 ≤ ch) (hu : x ≤ u ∧ u < x + cw) (hv : y ≤ v ∧ v < y + ch) (k : Nat) (hk : k ≤ ls.length) :
    nearSum ls (nearTo ls x y cw ch k) u v = lightAt (ls.take k) u v := by
  induction k with
  | zero => simp [nearSum, nearTo, lightAt]
  | succ k ih =>
    have hl : ls[k]? = some ls[k] := List.getElem?_eq_getElem (by omega)
    rw [nearTo_succ hl, lightAt_take hl]
    split
    · rw [nearSum_snoc, ih (by omega)]
      congr 1
      rw [Int.toNat_natCast, List.getD_eq_getElem?_getD, hl]
      rfl
    · rename_i hn
      rw [List.append_nil, ih (by omega), Lamp.not_near hw hh (by simpa using hn) hu hv, Int.add_zero]
theorem nearList_sum {ls : List Lamp} {x y cw ch u v : Int} (hw : 1 ≤ cw) (hh : 1 ≤ ch) (hu : x ≤ u ∧ u < x + cw) (hv : y ≤ v ∧ v < y + ch) :
    nearSum ls (nearList ls x y cw ch) u v = lightAt ls u v := by
  have e : nearList ls x y cw ch = nearTo ls x y cw ch ls.length := rfl
  rw [e, nearTo_sum hw hh hu hv ls.length (Nat.le_refl _), List.take_of_length_le (Nat.le_refl _)]
theorem nearList_mem {ls : List Lamp} {x y cw ch i : Int} (h : i ∈ nearList ls x y cw ch) : ∃ k : Nat, i = (k : Int) ∧ k < ls.length := by
  unfold nearList at h
  simp only [List.mem_flatMap, List.mem_range] at h
  obtain ⟨k, hk, hi⟩ := h
  split at hi
  · simp only [List.mem_singleton] at hi; exact ⟨k, hi, hk⟩
  · cases hi
theorem nearList_len (ls : List Lamp) (x y cw ch : Int) : (nearList ls x y cw ch).length ≤ ls.length := nearTo_len ls x y cw ch ls.length
theorem nearSum_bd {ls : List Lamp} (hF : ∀ l ∈ ls, l.Fine) (L : List Int) (hL : ∀ i ∈ L, ∃ k : Nat, i = (k : Int) ∧ k < ls.length) (u v : Int) : 0 ≤ nearSum ls L u v ∧ nearSum ls L u v ≤ 65535 * (L.length : Int) := by
  induction L with
  | nil => simp [nearSum]
  | cons i L ih =>
    obtain ⟨k, rfl, hk⟩ := hL i (by simp)
    have h1 := ih fun j hj => hL j (by simp [hj])
    have h2 : (ls.getD ((k : Int)).toNat ⟨0, 0, 0, 0⟩) = ls[k] := by rw [Int.toNat_natCast, List.getD_eq_getElem?_getD, List.getElem?_eq_getElem hk]; rfl
    have h3 := Lamp.gives_bd (hF ls[k] (List.getElem_mem hk)) u v
    unfold nearSum at h1 ⊢
    simp only [List.map_cons, List.sum_cons, List.length_cons, h2]
    omega

theorem grown_below {a w w' : World} {g : Nat} (h : a.grownBy w (some g)) (hb : Below w.heap.size w w') : a.grownBy w' (some g) :=
  ⟨hb.os.trans h.os, hb.tape.trans h.tape, hb.output.trans h.output, Nat.le_trans h.size hb.size, fun i hi hne => (hb.block i (Nat.lt_of_lt_of_le hi h.size)).trans (h.block i hi hne)⟩
theorem grown_set {a w : World} {g : Nat} (h : a.grownBy w (some g)) (o : Nat) (u : Value) : a.grownBy (w.setCell ⟨g, o, none⟩ u) (some g) :=
  ⟨h.os, h.tape, h.output, by simpa [World.setCell] using h.size, fun i hi hne => (Below.heap_setCell w ⟨g, o, none⟩ u i (by rintro rfl; exact hne rfl)).trans (h.block i hi hne)⟩
theorem Blk.grownAt {a w : World} {g g' : Nat} {t : TypeId} {cs : List Value} (h : Blk a g t cs) (hb : a.grownBy w (some g')) (hg : g ≠ g') : Blk w g t cs := (hb.block g h.lt (by simpa using hg)).trans h
theorem grown_trans1 {a b c : World} {g : Nat} (h : a.grownBy b (some g)) (k : b.grownBy c (some g)) : a.grownBy c (some g) :=
  ⟨k.os.trans h.os, k.tape.trans h.tape, k.output.trans h.output, Nat.le_trans h.size k.size, fun i hi hne => (k.block i (Nat.lt_of_lt_of_le hi h.size) hne).trans (h.block i hi hne)⟩
end Go.Proofs.Ytibpmogmeoappaa
