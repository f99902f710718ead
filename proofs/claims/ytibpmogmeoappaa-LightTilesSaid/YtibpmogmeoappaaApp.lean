/- Append of one element to a row of the call's own; a row stays owned while other memory changes. -/
import Derived.Test.YtibpmogmeoappaaMem
namespace Go.Proofs.Ytibpmogmeoappaa
open Go.RowKit

/-- the slice owns the cells cs, in blocks from base on -/
def Own (w : World) (base : Nat) (e : TypeId) (size : Nat) (A : Option Addr) (n c : Nat) (cs : List Value) : Prop := w.ownsRow base e size (.slice A n c) n cs

section
variable {w w' : World} {base : Nat} {e : TypeId} {size : Nat} {A : Option Addr} {n c : Nat} {cs : List Value}
theorem Own.nil (w : World) (base : Nat) (e : TypeId) (size : Nat) : Own w base e size none 0 0 [] := World.ownsRow_nil _ _ _ _
theorem Own.alloc (h : Own w base e size A n c cs) (o : Obj) : Own (w.alloc o) base e size A n c cs := World.ownsRow.alloc h o
theorem Own.drew (h : Own w base e size A n c cs) : Own w.drew base e size A n c cs := h
theorem Own.keep (h : Own w base e size A n c cs) (hb : Below w.heap.size w w') : Own w' base e size A n c cs := by
  refine World.ownsRow.kept h (row := none) ⟨hb.os, hb.tape, hb.output, hb.size, fun k hk _ => hb.block k hk⟩ ?_
  cases hx : (Value.slice A n c).ownBlock with
  | none => exact .inl rfl
  | some k => exact .inr (by simp)
theorem Own.far (h : Own w base e size A n c cs) {p : Addr} (hp : p.block < base) (u : Value) : Own (w.setCell p u) base e size A n c cs := ownsRow_setCell_below h hp u
theorem Own.new (h : Own w base e size A n c cs) : NewFrom base A := by
  intro a ha
  subst ha
  exact (World.ownsRow.lt h a.block rfl).1
theorem Own.len (h : Own w base e size A n c cs) : cs.length = n * size := h.1
theorem Own.cells (h : Own w base e size A n c cs) : Cells w A cs := Cells.of_own h h.1
theorem Own.mono {base' : Nat} (h : Own w base e size A n c cs) (hB : base' ≤ base) : Own w base' e size A n c cs := by
  refine ⟨h.1, ?_⟩
  rcases h.2 with h2 | ⟨g, cap, cur, a, b, r⟩
  · exact .inl h2
  · exact .inr ⟨g, cap, cur, a, by omega, r⟩
/-- what append leaves of other blocks -/
theorem Blk.grown {g : Nat} {t : TypeId} {bs : List Value} (h : Blk w g t bs) (ho : Own w base e size A n c cs) (hg : w.grownBy w' (Value.slice A n c).ownBlock) (hlt : g < base) : Blk w' g t bs := by
  refine (hg.block g h.lt ?_).trans h
  intro he
  have := (World.ownsRow.lt ho g he.symm).1
  omega
theorem Below.grownOwn {a : World} {B : Nat} (h : Below B a w) (ho : Own w base e size A n c cs) (hg : w.grownBy w' (Value.slice A n c).ownBlock) (hB : B ≤ w.heap.size) (hb : B ≤ base) : Below B a w' :=
  h.grown hg hB fun k hk => Nat.le_trans hb (World.ownsRow.lt ho k hk).1
theorem Cells.grownOwn {A' : Option Addr} {ds : List Value} (h : Cells w A' ds) (ho : Own w base e size A n c cs) (hg : w.grownBy w' (Value.slice A n c).ownBlock) (hA : ∀ a, A' = some a → a.block < base) : Cells w' A' ds := by
  intro i hi
  obtain ⟨b, o, e1, hlt, hc⟩ := h i hi
  refine ⟨b, o, e1, Nat.lt_of_lt_of_le hlt hg.size, ?_⟩
  have := hA _ e1
  rw [World.cell?_of_block (w := w) (hg.block b hlt (fun he => by have := (World.ownsRow.lt ho b he.symm).1; simp only at *; omega))]
  exact hc
end

/-- append of one element, whose cells are news, laid by the statement itself -/
theorem wpList_app1 {P : Program} (w0 : World) {ops : Array Oper} {rest : List Oper} {o : Oper} {a : Act} {Q : Exit → Act → World → Prop} (hgd : o.guard = none) (s x : Operand) (t : TypeId)
    (ho : o.op = .call { callee := .builtin .append, args := #[s, x], argTypes := #[t, t] })
    (base : Nat) (e : TypeId) (i : TypeInfo) (z : Value) (size bytes : Nat) (ht : P.underlying t = some (.slice e)) (hi : P.info? e = some i) (hz : i.zero = some z)
    (hsize : i.size = size) (hby : i.bytes = bytes) (hzs : z.cells.size = size) (hsz : 0 < size)
    (A : Option Addr) (n c : Nat) (cs news : List Value) (hs : a.eval s = .slice A n c) (hown : Own w0 base e size A n c cs)
    (hx : a.eval x = .slice (some ⟨w0.heap.size, 0, none⟩) 1 1) (hl : news.length = size) (h1 : ∀ u ∈ news, u.oneCell' = true)
    (h63 : n ≤ 1073741824) (hbytes : bytes ≤ 65536) (hbase : base ≤ w0.heap.size)
    (h : ∀ A' c' w', Own w' base e size A' (n + 1) c' (cs ++ news) → (w0.alloc (.cells news.toArray e)).grownBy w' (Value.slice A n c).ownBlock → wpList P ops Q rest (a.put o.dst (.slice A' (n + 1) c')) w') :
    wpList P ops Q (o :: rest) a (w0.alloc (.cells news.toArray e)) := by
  refine wpList_append_own _ hgd s x t ho base e i z size bytes ht hi hz hsize hby hzs hsz (.slice A n c) n cs hs (hown.alloc _) ⟨w0.heap.size, 0, none⟩ 1 1 news hx (by omega) ?_ h1 (by unfold maxLen; omega) ?_ (by simp; omega) ?_
  · intro j u hu
    rw [Addr.add_lit, Nat.zero_add, (Blk.new w0 e news).cell]
    exact hu
  · have h2 : (n + 1) * bytes ≤ 1073741825 * 65536 := Nat.mul_le_mul (by omega) hbytes
    omega
  · intro v' w' hown' hg _
    have hform : ∃ A' c', v' = .slice A' (n + 1) c' := by
      rcases hown'.2 with ⟨_, h0⟩ | ⟨g, cap, cur, hv, _⟩
      · omega
      · exact ⟨_, _, hv⟩
    obtain ⟨A', c', rfl⟩ := hform
    exact h A' c' w' hown' hg
end Go.Proofs.Ytibpmogmeoappaa
