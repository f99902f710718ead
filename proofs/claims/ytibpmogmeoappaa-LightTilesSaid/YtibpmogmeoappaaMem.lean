/- Memory: a slice reads as cells, as integers; what is kept while memory grows. -/
import Derived.Test.YtibpmogmeoappaaSpec
import Derived.WalkKit
import Derived.WalkLawsBesides
import Derived.WalkSpells
import Derived.Deep.QuietTactic
import Derived.BigQuiet
import Derived.BigGuardPart
import Derived.Lib.Hide
import Derived.Deep.AppendLies
import Derived.Deep.LoopGhost
import Derived.Deep.RegionHeld3
import Derived.Deep.RegionLaw
import Derived.Deep.RegionWith
import Derived.StillTailTactics
import Derived.Deep.DeepMust
import Derived.Maps.AppendAt
import Derived.Shelf.Abstract
namespace Go.Proofs.Ytibpmogmeoappaa
open Go.RowKit

theorem hide {p : Prop} (h : p) : Hid p := h
theorem unhide {p : Prop} (h : Hid p) : p := h

/-- a slice whose first cells are cs -/
def Cells (w : World) (A : Option Addr) (cs : List Value) : Prop :=
  ∀ i, i < cs.length → ∃ b o, A = some ⟨b, o, none⟩ ∧ b < w.heap.size ∧ w.cell? ⟨b, o + i, none⟩ = some (cs.getD i undef)
/-- a slice lies in blocks from B on -/
def NewFrom (B : Nat) (A : Option Addr) : Prop := ∀ a, A = some a → B ≤ a.block
theorem NewFrom.mono {B B' : Nat} {A : Option Addr} (h : NewFrom B A) (hB : B' ≤ B) : NewFrom B' A := fun a e => Nat.le_trans hB (h a e)
theorem NewFrom.none_ (B : Nat) : NewFrom B none := fun a e => by cases e
theorem NewFrom.some_ {B g o : Nat} (h : B ≤ g) : NewFrom B (some ⟨g, o, none⟩) := fun a e => by injection e with e; subst e; exact h
def Ints (w : World) (A : Option Addr) (xs : List Int) : Prop := Cells w A (xs.map (.int .i64))

section
variable {w w' : World} {A : Option Addr} {cs : List Value} {xs : List Int}
theorem Cells.keep (h : Cells w A cs) (hb : Below w.heap.size w w') : Cells w' A cs := by
  intro i hi
  obtain ⟨b, o, hA, hlt, hc⟩ := h i hi
  exact ⟨b, o, hA, Nat.lt_of_lt_of_le hlt hb.size, (hb.cell (p := ⟨b, o + i, none⟩) hlt).trans hc⟩
theorem Cells.nil (w : World) (A : Option Addr) : Cells w A [] := by intro i hi; simp at hi
theorem Ints.nil (w : World) (A : Option Addr) : Ints w A [] := Cells.nil w A
theorem Ints.keep (h : Ints w A xs) (hb : Below w.heap.size w w') : Ints w' A xs := Cells.keep h hb
theorem Ints.at_ (h : Ints w A xs) (i : Nat) (hi : i < xs.length) :
    ∃ b o x, A = some ⟨b, o, none⟩ ∧ b < w.heap.size ∧ xs[i]? = some x ∧ w.cell? ⟨b, o + i, none⟩ = some (.int .i64 x) := by
  obtain ⟨b, o, hA, hlt, hc⟩ := h i (by simpa using hi)
  refine ⟨b, o, xs[i], hA, hlt, List.getElem?_eq_getElem hi, ?_⟩
  rw [hc]; simp [List.getD, hi]
theorem Cells.far (h : Cells w A cs) {B : Nat} (hA : NewFrom B A) {p : Addr} (hp : p.block < B) (u : Value) : Cells (w.setCell p u) A cs := by
  intro i hi
  obtain ⟨b, o, e, hlt, hc⟩ := h i hi
  have hB := hA _ e
  refine ⟨b, o, e, by simpa [World.setCell] using hlt, ?_⟩
  rw [World.cell?_setCell_other w p ⟨b, o + i, none⟩ u (fun e => by subst e; simp only at hp hB; omega)]
  exact hc
theorem Ints.far (h : Ints w A xs) {B : Nat} (hA : NewFrom B A) {p : Addr} (hp : p.block < B) (u : Value) : Ints (w.setCell p u) A xs := Cells.far h hA hp u
theorem Cells.of_own {base : Nat} {e : TypeId} {c n size : Nat} (h : w.ownsRow base e size (.slice A n c) n cs) (hn : cs.length = n * size) : Cells w A cs := by
  intro i hi
  have h0 : 0 < n := by
    rcases Nat.eq_zero_or_pos n with h0 | h0
    · subst h0; omega
    · exact h0
  obtain ⟨g, cap, hv, _, hlt⟩ := h.form h0
  injection hv with hA
  subst hA
  refine ⟨g, 0, rfl, hlt, ?_⟩
  have := h.cells (g := g) rfl i _ (List.getElem?_eq_getElem hi)
  rw [Addr.add_lit] at this
  rw [this]; simp [List.getD, hi]
end

/-- block g is just the cells cs of element type t, none of them frozen -/
def Blk (w : World) (g : Nat) (t : TypeId) (cs : List Value) : Prop := w.heap[g]? = some (.cells cs.toArray t (0, 0))
section
variable {w w' : World} {g : Nat} {t : TypeId} {cs : List Value}
theorem Blk.lt (h : Blk w g t cs) : g < w.heap.size := by
  unfold Blk at h
  exact (Array.getElem?_eq_some_iff.1 h).1
theorem Blk.cell (h : Blk w g t cs) (i : Nat) : w.cell? ⟨g, i, none⟩ = cs[i]? := by
  unfold Blk at h
  simp [World.cell?, h]
theorem Blk.frozen (h : Blk w g t cs) (i : Nat) : w.frozen? ⟨g, i, none⟩ = false := by
  unfold Blk at h
  simp [World.frozen?, h]
theorem Blk.new (w : World) (t : TypeId) (cs : List Value) : Blk (w.alloc (.cells cs.toArray t)) w.heap.size t cs := by
  unfold Blk
  show (w.heap.push _)[w.heap.size]? = _
  simp
theorem Blk.below {B : Nat} (h : Blk w g t cs) (hb : Below B w w') (hg : g < B) : Blk w' g t cs := (hb.block g hg).trans h
theorem Blk.keep (h : Blk w g t cs) (hb : Below w.heap.size w w') : Blk w' g t cs := h.below hb h.lt
theorem Blk.drew (h : Blk w g t cs) : Blk w.drew g t cs := h
theorem Blk.alloc (h : Blk w g t cs) (o : Obj) : Blk (w.alloc o) g t cs := h.keep ((Below.refl _ _).alloc (Nat.le_refl _) o)
theorem Blk.set_ (h : Blk w g t cs) (i : Nat) (u : Value) : Blk (w.setCell ⟨g, i, none⟩ u) g t (cs.set i u) := by
  unfold Blk at h ⊢
  simp [World.setCell, Array.getElem?_modify, h]
theorem Blk.far (h : Blk w g t cs) {p : Addr} (hp : g ≠ p.block) (u : Value) : Blk (w.setCell p u) g t cs := (Below.heap_setCell w p u g hp).trans h
theorem Blk.cells (h : Blk w g t cs) : Cells w (some ⟨g, 0, none⟩) cs := by
  intro i hi
  refine ⟨g, 0, rfl, h.lt, ?_⟩
  rw [Nat.zero_add, h.cell, List.getElem?_eq_getElem hi]
  simp [List.getD, hi]
end

theorem bcell {W w1 : World} (hb : Below W.heap.size W w1) : (∀ b o, b < W.heap.size → w1.cell? ⟨b, o, none⟩ = W.cell? ⟨b, o, none⟩) ∧ (∀ b o, b < W.heap.size → w1.frozen? ⟨b, o, none⟩ = W.frozen? ⟨b, o, none⟩) :=
  ⟨fun b o h => hb.cell (p := ⟨b, o, none⟩) h, fun b o h => hb.frozen (p := ⟨b, o, none⟩) h⟩

theorem ret_bool {a b : Bool} (h : a = b) : Ending.returned (.bool a) = .returned (.bool b) := by rw [h]
theorem ret_int {k : IntKind} {a b : Int} (h : a = b) : Ending.returned (.int k a) = .returned (.int k b) := by rw [h]
theorem wrap64_of {n : Int} (h1 : -9223372036854775808 ≤ n) (h2 : n ≤ 9223372036854775807) : wrap64 n = n := IntWalk.wrap64_in n ⟨h1, h2⟩
theorem wrap64_mul16 {W H : Int} (h1 : 1 ≤ W) (h2 : W ≤ 16) (h3 : 1 ≤ H) (h4 : H ≤ 16) : wrap64 (W * H) = W * H :=
  wrap64_of (by have := mul_bd h1 h2 h3 h4; omega) (by have := mul_bd h1 h2 h3 h4; omega)

theorem ite_min (x y : Int) : (if y < x then y else x) = min x y := by omega
theorem ite_max (x y : Int) : (if x < y then y else x) = max x y := by omega
theorem of_nd {p : Prop} [Decidable p] (h : (!decide p) = false) : p := by simpa using h
theorem of_nd' {p : Prop} [Decidable p] (h : (!decide p) = true) : ¬ p := by simpa using h

/-- make of a row of numbers, the length a plain integer -/
theorem run_make_ints {P : Program} (t e : TypeId) (i : TypeInfo) (ht : P.underlying t = some (.slice e)) (hi : P.info? e = some i) (hz : i.zero = some (.int .i64 0)) (hs : i.size = 1) (hb : i.bytes = 8)
    (n : Int) (N : Nat) (hN : n = (N : Int)) (h1 : N ≤ 16777216) (w : World) :
    (Instr.makeSlice t (.int .i64 n) (.int .i64 n)).run P w = .ok (.slice (some ⟨w.heap.size, 0, none⟩) N N) (w.alloc (.cells (List.replicate N (Value.int .i64 0)).toArray e)) := by
  have hr := run_make (P := P) w t e i (.int .i64 0) ht hi hz .i64 .i64 (N : Int) (N : Int) (by omega) (by omega) (by rw [hb]; omega) (by omega)
  simp only [Int.toNat_natCast] at hr
  rw [hN, hr, hs]
  have e1 : madeCells (Value.int .i64 0).cells (N * 1) = (List.replicate N (Value.int .i64 0)).toArray := by
    rw [Nat.mul_one]
    apply Array.ext'
    simp [madeCells, Value.cells, Nat.mod_one, List.map_const']
  rw [e1]

/-- a slice of the call's own: it lies at the head of a block of numbers from B on that may be written -/
def Mine (w : World) (B : Nat) (A : Option Addr) : Prop := ∀ a, A = some a → B ≤ a.block ∧ a = ⟨a.block, 0, none⟩ ∧ ∃ cs, Blk w a.block 3 cs
section
variable {w w' : World} {B B' g : Nat} {A : Option Addr} {cs : List Value}
theorem Mine.new (h : Mine w B A) : NewFrom B A := fun a e => (h a e).1
theorem Mine.none_ (w : World) (B : Nat) : Mine w B none := fun a e => by cases e
theorem Mine.some_ (h : B ≤ g) (hb : Blk w g 3 cs) : Mine w B (some ⟨g, 0, none⟩) := fun a e => by injection e with e; subst e; exact ⟨h, rfl, cs, hb⟩
theorem Mine.mono (h : Mine w B A) (hB : B' ≤ B) : Mine w B' A := fun a e => ⟨Nat.le_trans hB (h a e).1, (h a e).2⟩
theorem Mine.keep (h : Mine w B A) (hb : Below w.heap.size w w') : Mine w' B A := fun a e => by
  obtain ⟨h1, h2, cs, h3⟩ := h a e
  exact ⟨h1, h2, cs, h3.keep hb⟩
theorem Mine.far (h : Mine w B A) {p : Addr} (hp : p.block < B) (u : Value) : Mine (w.setCell p u) B A := fun a e => by
  obtain ⟨h1, h2, cs, h3⟩ := h a e
  exact ⟨h1, h2, cs, h3.far (by omega) u⟩
theorem Mine.of_own {base : Nat} {c n size : Nat} (h : w.ownsRow base 3 size (.slice A n c) n cs) : Mine w base A := by
  intro a ha
  subst ha
  rcases h.2 with ⟨h1, _⟩ | ⟨g, cap, cur, hv, hb, hh, _⟩
  · cases h1
  · injection hv with hv
    injection hv with hv
    subst hv
    refine ⟨hb, rfl, cur.toList, ?_⟩
    unfold Blk
    simpa using hh
end

/-- a closure hands back a number at each place of w columns and h rows -/
def Gives2 (P : Program) (g : FuncId) (lb : Array Value) (cw ch : Int) (f : Int → Int → Int) (w : World) : Prop :=
  ∀ (W : World) (x y : Int), Below w.heap.size w W → 0 ≤ x → x < cw → 0 ≤ y → y < ch →
    Calls P g (#[.int .i64 x, .int .i64 y] ++ lb) W fun e W' => e = .returned (.int .i64 (f x y)) ∧ Below W.heap.size W W'
theorem Gives2.later {P : Program} {g : FuncId} {lb : Array Value} {cw ch : Int} {f : Int → Int → Int} {w W : World} (h : Gives2 P g lb cw ch f w) (hb : Below w.heap.size w W) : Gives2 P g lb cw ch f W :=
  fun W' x y hb' => h W' x y (hb.trans (hb'.mono hb.size))

/-- what comes is the image r, in memory -/
def RetImg (w : World) (r : Img) (e : Ending) (w' : World) : Prop :=
  ∃ (W H : Int) (P : List Int) (A : Option Addr) (n c : Nat), Img.mk W H P = r ∧ P.length = n ∧ e = .returned (.agg #[.int .i64 W, .int .i64 H, .slice A n c]) ∧ Ints w' A P ∧ Mine w' w.heap.size A ∧ Below w.heap.size w w'
/-- what comes is the image r and an error's number -/
def RetImgErr (w : World) (r : Img) (x : Int) (e : Ending) (w' : World) : Prop :=
  ∃ (W H : Int) (P : List Int) (A : Option Addr) (n c : Nat), Img.mk W H P = r ∧ P.length = n ∧ e = .returned (.tuple #[.agg #[.int .i64 W, .int .i64 H, .slice A n c], .int .i64 x]) ∧ Ints w' A P ∧ Mine w' w.heap.size A ∧ Below w.heap.size w w'
end Go.Proofs.Ytibpmogmeoappaa
