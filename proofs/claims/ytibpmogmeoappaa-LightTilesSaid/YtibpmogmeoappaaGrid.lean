/- A picture that is appended number by number: what a double loop keeps. -/
import Derived.Test.YtibpmogmeoappaaApp
namespace Go.Proofs.Ytibpmogmeoappaa
open Go.RowKit

def gridPart (W : Int) (f : Int → Int → Int) (y x : Int) : List Int := grid W.toNat y.toNat f ++ (List.range x.toNat).map fun (i : Nat) => f (i : Int) y
theorem gridPart_zero (W : Int) (f : Int → Int → Int) : gridPart W f 0 0 = [] := rfl
theorem gridPart_step (W : Int) (f : Int → Int → Int) {y x : Int} (hx : 0 ≤ x) : gridPart W f y (x + 1) = gridPart W f y x ++ [f x y] := by
  unfold gridPart
  rw [show (x + 1).toNat = x.toNat + 1 by omega, List.range_succ, List.map_append, ← List.append_assoc]
  simp [Int.toNat_of_nonneg hx]
theorem gridPart_row (W : Int) (f : Int → Int → Int) {y x : Int} (hy : 0 ≤ y) (hx : x = W) : gridPart W f y x = gridPart W f (y + 1) 0 := by
  subst hx
  unfold gridPart
  rw [show (y + 1).toNat = y.toNat + 1 by omega, grid_succ, Int.toNat_of_nonneg hy]
  simp
theorem gridPart_end (W H : Int) (f : Int → Int → Int) : Img.mk W H (gridPart W f H 0) = drawn W H f := by
  unfold gridPart drawn; simp
theorem gridPart_length (W : Int) (f : Int → Int → Int) (y x : Int) : (gridPart W f y x).length = W.toNat * y.toNat + x.toNat := by
  unfold gridPart; simp [grid_length]
theorem gridPart_le {W : Int} (f : Int → Int → Int) {y x : Int} (h1 : W ≤ 64) (h2 : y ≤ 64) (h3 : x ≤ 64) : (gridPart W f y x).length ≤ 65536 := by
  rw [gridPart_length]
  have := Nat.mul_le_mul (show W.toNat ≤ 64 by omega) (show y.toNat ≤ 64 by omega)
  omega

/-- the picture so far, in a row of its own; 'gout' holds the image's struct; 'os': other blocks that stay -/
structure GridRel (w : World) (W H : Int) (f : Int → Int → Int) (gout base : Nat) (os : List (Nat × TypeId × List Value)) (y x : Int) (A : Option Addr) (n c : Nat) (wr : World) : Prop where
  own : Own wr base 3 1 A n c ((gridPart W f y x).map (.int .i64))
  out : Blk wr gout 24 [.int .i64 W, .int .i64 H, .slice A n c]
  lt : gout < base
  new : w.heap.size ≤ gout
  size : base ≤ wr.heap.size
  others : ∀ b ∈ os, Blk wr b.1 b.2.1 b.2.2 ∧ b.1 < base ∧ b.1 ≠ gout
  below : Below w.heap.size w wr

section
variable {w : World} {W H : Int} {f : Int → Int → Int} {gout base : Nat} {os : List (Nat × TypeId × List Value)} {y x : Int} {A : Option Addr} {n c : Nat} {wr : World}
theorem GridRel.len (h : GridRel w W H f gout base os y x A n c wr) : n = (gridPart W f y x).length := by
  have := h.own.len; simpa using this.symm
theorem GridRel.keep (h : GridRel w W H f gout base os y x A n c wr) {w1 : World} (hb : Below wr.heap.size wr w1) : GridRel w W H f gout base os y x A n c w1 :=
  ⟨h.own.keep hb, h.out.keep hb, h.lt, h.new, Nat.le_trans h.size hb.size, fun b hb' => ⟨(h.others b hb').1.keep hb, (h.others b hb').2⟩, h.below.trans (hb.mono h.below.size)⟩
theorem GridRel.cells (h : GridRel w W H f gout base os y x A n c wr) :
    gout < wr.heap.size ∧ wr.cell? ⟨gout, 0, none⟩ = some (.int .i64 W) ∧ wr.cell? ⟨gout, 1, none⟩ = some (.int .i64 H) ∧ wr.cell? ⟨gout, 2, none⟩ = some (.slice A n c) ∧ wr.frozen? ⟨gout, 2, none⟩ = false :=
  ⟨h.out.lt, by rw [h.out.cell]; rfl, by rw [h.out.cell]; rfl, by rw [h.out.cell]; rfl, h.out.frozen 2⟩
/-- behind the append, ahead of the store -/
theorem GridRel.mid (h : GridRel w W H f gout base os y x A n c wr) {w1 : World} {o : Obj} (hg : (wr.alloc o).grownBy w1 (Value.slice A n c).ownBlock) :
    Blk w1 gout 24 [.int .i64 W, .int .i64 H, .slice A n c] ∧ (∀ b ∈ os, Blk w1 b.1 b.2.1 b.2.2 ∧ b.1 < base ∧ b.1 ≠ gout) ∧ Below w.heap.size w w1 :=
  ⟨(h.out.alloc o).grown (h.own.alloc o) hg h.lt, fun b hb => ⟨((h.others b hb).1.alloc o).grown (h.own.alloc o) hg (h.others b hb).2.1, (h.others b hb).2⟩,
    Below.grownOwn (h.below.alloc h.below.size o) (h.own.alloc o) hg (Nat.le_trans h.below.size (by simp)) (Nat.le_trans h.new (Nat.le_of_lt h.lt))⟩
theorem GridRel.midCells (h : GridRel w W H f gout base os y x A n c wr) {w1 : World} {o : Obj} (hg : (wr.alloc o).grownBy w1 (Value.slice A n c).ownBlock) :
    gout < w1.heap.size ∧ w1.cell? ⟨gout, 2, none⟩ = some (.slice A n c) ∧ w1.frozen? ⟨gout, 2, none⟩ = false := by
  have hm := (h.mid hg).1
  exact ⟨hm.lt, by rw [hm.cell]; rfl, hm.frozen 2⟩
theorem GridRel.step (h : GridRel w W H f gout base os y x A n c wr) {w1 : World} {o : Obj} {A1 : Option Addr} {c1 : Nat} (hx : 0 ≤ x) (hg : (wr.alloc o).grownBy w1 (Value.slice A n c).ownBlock)
    (ho : Own w1 base 3 1 A1 (n + 1) c1 ((gridPart W f y x).map (.int .i64) ++ [.int .i64 (f x y)])) : GridRel w W H f gout base os y (x + 1) A1 (n + 1) c1 (w1.setCell ⟨gout, 2, none⟩ (.slice A1 (n + 1) c1)) := by
  obtain ⟨m1, m2, m3⟩ := h.mid hg
  refine ⟨?_, m1.set_ 2 _, h.lt, h.new, ?_, fun b hb => ⟨(m2 b hb).1.far (fun e => (h.others b hb).2.2 e) _, (m2 b hb).2⟩, m3.setCell h.new _⟩
  · rw [gridPart_step W f hx, List.map_append]
    exact ho.far h.lt _
  · have := hg.size
    simp only [World.size_alloc] at this
    have hs := h.size
    simp only [World.setCell, Array.size_modify]
    omega
theorem GridRel.row (h : GridRel w W H f gout base os y x A n c wr) (hy : 0 ≤ y) (hx : x = W) : GridRel w W H f gout base os (y + 1) 0 A n c wr := by
  obtain ⟨h1, h2, h3, h4, h5, h6, h7⟩ := h
  rw [gridPart_row W f hy hx] at h1
  exact ⟨h1, h2, h3, h4, h5, h6, h7⟩
theorem GridRel.start (hout : Blk wr gout 24 [.int .i64 W, .int .i64 H, .slice none 0 0]) (h1 : gout < base) (h2 : w.heap.size ≤ gout) (h3 : base ≤ wr.heap.size) (hos : ∀ b ∈ os, Blk wr b.1 b.2.1 b.2.2 ∧ b.1 < base ∧ b.1 ≠ gout) (hb : Below w.heap.size w wr) :
    GridRel w W H f gout base os 0 0 none 0 0 wr := ⟨Own.nil _ _ _ _, hout, h1, h2, h3, hos, hb⟩
/-- the picture is whole; it is stored into the result's own block -/
theorem GridRel.done (h : GridRel w W H f gout base os H 0 A n c wr) {gres : Nat} {u : List Value} (hr : (gres, 24, u) ∈ os) (hw : w.heap.size ≤ gres) :
    RetImg w (drawn W H f) (.returned (.agg #[.int .i64 W, .int .i64 H, .slice A n c])) (((wr.setCell ⟨gres, 0, none⟩ (.int .i64 W)).setCell ⟨gres, 1, none⟩ (.int .i64 H)).setCell ⟨gres, 2, none⟩ (.slice A n c)) := by
  have hlt := (h.others _ hr).2.1
  simp only at hlt
  refine ⟨W, H, gridPart W f H 0, A, n, c, gridPart_end W H f, h.len.symm, rfl, ?_, (Mine.of_own (((h.own.far (p := ⟨gres, 0, none⟩) hlt _).far (p := ⟨gres, 1, none⟩) hlt _).far (p := ⟨gres, 2, none⟩) hlt _)).mono (Nat.le_trans h.new (Nat.le_of_lt h.lt)), ?_⟩
  · exact (((h.own.far (p := ⟨gres, 0, none⟩) hlt _).far (p := ⟨gres, 1, none⟩) hlt _).far (p := ⟨gres, 2, none⟩) hlt _).cells
  · exact ((h.below.setCell (p := ⟨gres, 0, none⟩) hw _).setCell (p := ⟨gres, 1, none⟩) hw _).setCell (p := ⟨gres, 2, none⟩) hw _
end
theorem one_int (x : Int) : ∀ u ∈ [Value.int .i64 x], u.oneCell' = true := by intro u hu; simp at hu; subst hu; rfl
end Go.Proofs.Ytibpmogmeoappaa
