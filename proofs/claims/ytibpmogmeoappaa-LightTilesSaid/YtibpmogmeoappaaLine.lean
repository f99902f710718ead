/- An image whose numbers are appended one by one, in whatever loop. -/
import Derived.Test.YtibpmogmeoappaaGrid
namespace Go.Proofs.Ytibpmogmeoappaa
open Go.RowKit

structure LineRel (w : World) (W H : Int) (gout base : Nat) (os : List (Nat × TypeId × List Value)) (L : List Int) (A : Option Addr) (n c : Nat) (wr : World) : Prop where
  own : Own wr base 3 1 A n c (L.map (.int .i64))
  out : Blk wr gout 24 [.int .i64 W, .int .i64 H, .slice A n c]
  lt : gout < base
  new : w.heap.size ≤ gout
  size : base ≤ wr.heap.size
  others : ∀ b ∈ os, Blk wr b.1 b.2.1 b.2.2 ∧ b.1 < base ∧ b.1 ≠ gout
  below : Below w.heap.size w wr

section
variable {w : World} {W H : Int} {L : List Int} {gout base : Nat} {os : List (Nat × TypeId × List Value)} {A : Option Addr} {n c : Nat} {wr : World}
theorem LineRel.len (h : LineRel w W H gout base os L A n c wr) : n = L.length := by
  have := h.own.len; simpa using this.symm
theorem LineRel.keep (h : LineRel w W H gout base os L A n c wr) {w1 : World} (hb : Below wr.heap.size wr w1) : LineRel w W H gout base os L A n c w1 :=
  ⟨h.own.keep hb, h.out.keep hb, h.lt, h.new, Nat.le_trans h.size hb.size, fun b hb' => ⟨(h.others b hb').1.keep hb, (h.others b hb').2⟩, h.below.trans (hb.mono h.below.size)⟩
theorem LineRel.cells (h : LineRel w W H gout base os L A n c wr) :
    gout < wr.heap.size ∧ wr.cell? ⟨gout, 0, none⟩ = some (.int .i64 W) ∧ wr.cell? ⟨gout, 1, none⟩ = some (.int .i64 H) ∧ wr.cell? ⟨gout, 2, none⟩ = some (.slice A n c) ∧ wr.frozen? ⟨gout, 2, none⟩ = false :=
  ⟨h.out.lt, by rw [h.out.cell]; rfl, by rw [h.out.cell]; rfl, by rw [h.out.cell]; rfl, h.out.frozen 2⟩
theorem LineRel.mid (h : LineRel w W H gout base os L A n c wr) {w1 : World} {o : Obj} (hg : (wr.alloc o).grownBy w1 (Value.slice A n c).ownBlock) :
    Blk w1 gout 24 [.int .i64 W, .int .i64 H, .slice A n c] ∧ (∀ b ∈ os, Blk w1 b.1 b.2.1 b.2.2 ∧ b.1 < base ∧ b.1 ≠ gout) ∧ Below w.heap.size w w1 :=
  ⟨(h.out.alloc o).grown (h.own.alloc o) hg h.lt, fun b hb => ⟨((h.others b hb).1.alloc o).grown (h.own.alloc o) hg (h.others b hb).2.1, (h.others b hb).2⟩,
    Below.grownOwn (h.below.alloc h.below.size o) (h.own.alloc o) hg (Nat.le_trans h.below.size (by simp)) (Nat.le_trans h.new (Nat.le_of_lt h.lt))⟩
theorem LineRel.midCells (h : LineRel w W H gout base os L A n c wr) {w1 : World} {o : Obj} (hg : (wr.alloc o).grownBy w1 (Value.slice A n c).ownBlock) :
    gout < w1.heap.size ∧ w1.cell? ⟨gout, 2, none⟩ = some (.slice A n c) ∧ w1.frozen? ⟨gout, 2, none⟩ = false := by
  have hm := (h.mid hg).1
  exact ⟨hm.lt, by rw [hm.cell]; rfl, hm.frozen 2⟩
theorem LineRel.step (h : LineRel w W H gout base os L A n c wr) {w1 : World} {o : Obj} {A1 : Option Addr} {c1 : Nat} {v : Int} (hg : (wr.alloc o).grownBy w1 (Value.slice A n c).ownBlock)
    (ho : Own w1 base 3 1 A1 (n + 1) c1 (L.map (.int .i64) ++ [.int .i64 v])) : LineRel w W H gout base os (L ++ [v]) A1 (n + 1) c1 (w1.setCell ⟨gout, 2, none⟩ (.slice A1 (n + 1) c1)) := by
  obtain ⟨m1, m2, m3⟩ := h.mid hg
  refine ⟨?_, m1.set_ 2 _, h.lt, h.new, ?_, fun b hb => ⟨(m2 b hb).1.far (fun e => (h.others b hb).2.2 e) _, (m2 b hb).2⟩, m3.setCell h.new _⟩
  · rw [List.map_append]
    exact ho.far h.lt _
  · have := hg.size
    simp only [World.size_alloc] at this
    have hs := h.size
    simp only [World.setCell, Array.size_modify]
    omega
theorem LineRel.start (hout : Blk wr gout 24 [.int .i64 W, .int .i64 H, .slice none 0 0]) (h1 : gout < base) (h2 : w.heap.size ≤ gout) (h3 : base ≤ wr.heap.size) (hos : ∀ b ∈ os, Blk wr b.1 b.2.1 b.2.2 ∧ b.1 < base ∧ b.1 ≠ gout) (hb : Below w.heap.size w wr) :
    LineRel w W H gout base os [] none 0 0 wr := ⟨Own.nil _ _ _ _, hout, h1, h2, h3, hos, hb⟩
theorem LineRel.done (h : LineRel w W H gout base os L A n c wr) {gres : Nat} {u : List Value} (hr : (gres, 24, u) ∈ os) (hw : w.heap.size ≤ gres) :
    RetImg w ⟨W, H, L⟩ (.returned (.agg #[.int .i64 W, .int .i64 H, .slice A n c])) (((wr.setCell ⟨gres, 0, none⟩ (.int .i64 W)).setCell ⟨gres, 1, none⟩ (.int .i64 H)).setCell ⟨gres, 2, none⟩ (.slice A n c)) := by
  have hlt := (h.others _ hr).2.1
  simp only at hlt
  refine ⟨W, H, L, A, n, c, rfl, h.len.symm, rfl, ?_, (Mine.of_own (((h.own.far (p := ⟨gres, 0, none⟩) hlt _).far (p := ⟨gres, 1, none⟩) hlt _).far (p := ⟨gres, 2, none⟩) hlt _)).mono (Nat.le_trans h.new (Nat.le_of_lt h.lt)), ?_⟩
  · exact (((h.own.far (p := ⟨gres, 0, none⟩) hlt _).far (p := ⟨gres, 1, none⟩) hlt _).far (p := ⟨gres, 2, none⟩) hlt _).cells
  · exact ((h.below.setCell (p := ⟨gres, 0, none⟩) hw _).setCell (p := ⟨gres, 1, none⟩) hw _).setCell (p := ⟨gres, 2, none⟩) hw _
end
end Go.Proofs.Ytibpmogmeoappaa
