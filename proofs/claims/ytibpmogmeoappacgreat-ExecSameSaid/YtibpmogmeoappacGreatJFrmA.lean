/- Frames in memory; walks of the small references: within, has, kFine. -/
import Derived.Test.YtibpmogmeoappacGreatJPlain
import Derived.Test.YtibpmogmeoappacGreatJLitA
import Derived.Test.YtibpmogmeoappacGreatJImgJ
import Derived.Laws.StructEq
namespace Go.Proofs.YtibpmogmeoappacGreat
open Go.RowKit

def passCells (p : Pas) (LA : Option Addr) (m d : Nat) : List Value := [.int .i64 p.Op, .int .i64 p.To, .int .i64 p.A, .int .i64 p.B, .int .i64 p.K, .slice LA m d]
/-- a slice of passes, each with its lights -/
def Passes (w : World) (A : Option Addr) (ps : List Pas) : Prop :=
  ∀ i, i < ps.length → ∃ b o LA m d, A = some ⟨b, o, none⟩ ∧ b < w.heap.size ∧ (∀ j, j < 6 → w.cell? ⟨b, o + i * 6 + j, none⟩ = some ((passCells (ps.getD i noPas) LA m d).getD j undef)) ∧
    (ps.getD i noPas).L.length = m ∧ Lamps w LA (ps.getD i noPas).L ∧ m ≤ 9223372036854775807
section
variable {w w' : World} {A : Option Addr} {ps : List Pas}
theorem Passes.keep (h : Passes w A ps) (hb : Below w.heap.size w w') : Passes w' A ps := by
  intro i hi
  obtain ⟨b, o, LA, m, d, hA, hlt, hc, hm, hL, hl⟩ := h i hi
  exact ⟨b, o, LA, m, d, hA, Nat.lt_of_lt_of_le hlt hb.size, fun j hj => by rw [(bcell hb).1 b _ hlt]; exact hc j hj, hm, hL.keep hb, hl⟩
theorem Keeps.lampsK {ls : List Lamp} (h : Lamps w A ls) : Keeps w (fun W => Lamps W A ls) := ⟨h, fun _ hb => h.keep hb⟩
theorem Keeps.passes (h : Passes w A ps) : Keeps w (fun W => Passes W A ps) := ⟨h, fun _ hb => h.keep hb⟩
theorem Passes.at_ (h : Passes w A ps) (i : Nat) (hi : i < ps.length) :
    ∃ b o LA m d p, A = some ⟨b, o, none⟩ ∧ b < w.heap.size ∧ ps.getD i noPas = p ∧ w.cell? ⟨b, o + i * 6, none⟩ = some (.int .i64 p.Op) ∧ w.cell? ⟨b, o + i * 6 + 1, none⟩ = some (.int .i64 p.To) ∧ w.cell? ⟨b, o + i * 6 + 2, none⟩ = some (.int .i64 p.A) ∧
      w.cell? ⟨b, o + i * 6 + 3, none⟩ = some (.int .i64 p.B) ∧ w.cell? ⟨b, o + i * 6 + 4, none⟩ = some (.int .i64 p.K) ∧ w.cell? ⟨b, o + i * 6 + 5, none⟩ = some (.slice LA m d) ∧ p.L.length = m ∧ Lamps w LA p.L ∧ m ≤ 9223372036854775807 := by
  obtain ⟨b, o, LA, m, d, hA, hlt, hc, hm, hL, hl⟩ := h i hi
  exact ⟨b, o, LA, m, d, _, hA, hlt, rfl, hc 0 (by omega), hc 1 (by omega), hc 2 (by omega), hc 3 (by omega), hc 4 (by omega), hc 5 (by omega), hm, hL, hl⟩
end
/-- a variable's block that holds a pass, a frame -/
def PasBox (w : World) (g : Nat) (p : Pas) (LA : Option Addr) (m d : Nat) : Prop := Blk w g 63 (passCells p LA m d)
theorem PasBox.cells {w : World} {g : Nat} {p : Pas} {LA : Option Addr} {m d : Nat} (h : PasBox w g p LA m d) :
    g < w.heap.size ∧ w.cell? ⟨g, 0, none⟩ = some (.int .i64 p.Op) ∧ w.cell? ⟨g, 1, none⟩ = some (.int .i64 p.To) ∧ w.cell? ⟨g, 2, none⟩ = some (.int .i64 p.A) ∧ w.cell? ⟨g, 3, none⟩ = some (.int .i64 p.B) ∧ w.cell? ⟨g, 4, none⟩ = some (.int .i64 p.K) ∧ w.cell? ⟨g, 5, none⟩ = some (.slice LA m d) :=
  ⟨h.lt, by rw [Blk.cell h]; rfl, by rw [Blk.cell h]; rfl, by rw [Blk.cell h]; rfl, by rw [Blk.cell h]; rfl, by rw [Blk.cell h]; rfl, by rw [Blk.cell h]; rfl⟩
def frmCells (W H S O : Int) (PA : Option Addr) (n c : Nat) : List Value := [.int .i64 W, .int .i64 H, .int .i64 S, .int .i64 O, .slice PA n c]
def FrmBox (w : World) (g : Nat) (W H S O : Int) (PA : Option Addr) (n c : Nat) : Prop := Blk w g 24 (frmCells W H S O PA n c)
theorem FrmBox.cells {w : World} {g : Nat} {W H S O : Int} {PA : Option Addr} {n c : Nat} (h : FrmBox w g W H S O PA n c) :
    g < w.heap.size ∧ w.cell? ⟨g, 0, none⟩ = some (.int .i64 W) ∧ w.cell? ⟨g, 1, none⟩ = some (.int .i64 H) ∧ w.cell? ⟨g, 2, none⟩ = some (.int .i64 S) ∧ w.cell? ⟨g, 3, none⟩ = some (.int .i64 O) ∧ w.cell? ⟨g, 4, none⟩ = some (.slice PA n c) :=
  ⟨h.lt, by rw [Blk.cell h]; rfl, by rw [Blk.cell h]; rfl, by rw [Blk.cell h]; rfl, by rw [Blk.cell h]; rfl, by rw [Blk.cell h]; rfl⟩
def szCells (s : Sz) : List Value := [.int .i64 s.W, .int .i64 s.H]
/-- a slice of sizes -/
def Sizes (w : World) (A : Option Addr) (st : List Sz) : Prop := Cells w A (st.flatMap szCells)
theorem Sizes.at_ {w : World} {A : Option Addr} {st : List Sz} (h : Sizes w A st) {i : Nat} (hi : i < st.length) :
    ∃ b o, A = some ⟨b, o, none⟩ ∧ b < w.heap.size ∧ w.cell? ⟨b, o + i * 2, none⟩ = some (.int .i64 (szAt st i).W) ∧ w.cell? ⟨b, o + i * 2 + 1, none⟩ = some (.int .i64 (szAt st i).H) := by
  obtain ⟨b, o, h1, h2, h3⟩ := cells_flat (k := 2) (fun x => rfl) h hi (by omega)
  have e : szAt st (i : Int) = st[i] := by unfold szAt; rw [Int.toNat_natCast, List.getD_eq_getElem?_getD, List.getElem?_eq_getElem hi]; rfl
  rw [e]
  exact ⟨b, o, h1, h2, h3 0 (by omega), h3 1 (by omega)⟩

def RetHas (op : Int) (w : World) (e : Ending) (w' : World) : Prop := e = .returned (.tuple #[.bool (hasA op), .bool (hasB op), .bool (hasK op), .bool (hasL op)]) ∧ w = w'
def RetK (op k : Int) (w : World) (e : Ending) (w' : World) : Prop := e = .returned (.bool (kFineB op k)) ∧ Below w.heap.size w w'
end Go.Proofs.YtibpmogmeoappacGreat

/- Walks: passError. (Printed by gen_passerr.py.) -/
namespace Go.Proofs.YtibpmogmeoappacGreat
open Go.RowKit

def RetE (w : World) (z : Int) (e : Ending) (w' : World) : Prop := e = .returned (.int .i64 z) ∧ Below w.heap.size w w'
/-- what passError keeps: the boxes of the frame and of the pass, lights, sizes -/
def PassMem (w : World) (W H S O : Int) (PA : Option Addr) (n c : Nat) (p : Pas) (LA : Option Addr) (m d : Nat) (SA : Option Addr) (st : List Sz) (W' : World) : Prop :=
  FrmBox W' w.heap.size W H S O PA n c ∧ PasBox W' (w.heap.size + 1) p LA m d ∧ Lamps W' LA p.L ∧ Sizes W' SA st ∧ Below w.heap.size w W'
theorem PassMem.keep {w : World} {W H S O : Int} {PA : Option Addr} {n c : Nat} {p : Pas} {LA : Option Addr} {m d : Nat} {SA : Option Addr} {st : List Sz} {w1 w2 : World} (h : PassMem w W H S O PA n c p LA m d SA st w1) (hb : Below w1.heap.size w1 w2) : PassMem w W H S O PA n c p LA m d SA st w2 :=
  ⟨Blk.keep h.1 hb, Blk.keep h.2.1 hb, h.2.2.1.keep hb, Cells.keep h.2.2.2.1 hb, h.2.2.2.2.trans (hb.mono h.2.2.2.2.size)⟩
theorem slot_bd {S x : Int} (h : slotIn S x = true) : 0 ≤ x ∧ x ≤ S - 1 := by unfold slotIn at h; exact inR_iff.1 h
theorem sizes_at {w : World} {SA : Option Addr} {st : List Sz} {N : Nat} {S x : Int} (h : Sizes w SA st) (hst : st.length = N) (hN : (N : Int) = S) (hx : slotIn S x = true) :
    ∃ b o, SA = some ⟨b, o, none⟩ ∧ b < w.heap.size ∧ w.cell? ⟨b, o + x.toNat * 2, none⟩ = some (.int .i64 (szAt st x).W) ∧ w.cell? ⟨b, o + x.toNat * 2 + 1, none⟩ = some (.int .i64 (szAt st x).H) := by
  obtain ⟨h1, h2⟩ := slot_bd hx
  obtain ⟨b, o, h3, h4, h5, h6⟩ := h.at_ (i := x.toNat) (by omega)
  rw [Int.toNat_of_nonneg h1] at h5 h6
  exact ⟨b, o, h3, h4, h5, h6⟩

end Go.Proofs.YtibpmogmeoappacGreat
