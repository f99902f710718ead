/- Facts that stay while memory grows, under one name; an append in a region that draws its order. -/
import Derived.Test.YtibpmogmeoappaaApp
namespace Go.Proofs.Ytibpmogmeoappaa
open Go.RowKit

/-- P holds in w, and in every later world that leaves w's blocks alone -/
structure Keeps (w : World) (P : World → Prop) : Prop where
  now : P w
  later : ∀ w', Below w.heap.size w w' → P w'
section
variable {w w' : World} {P Q : World → Prop}
theorem Keeps.move (h : Keeps w P) (hb : Below w.heap.size w w') : Keeps w' P := ⟨h.later _ hb, fun _ hb' => h.later _ (hb.trans (hb'.mono hb.size))⟩
theorem Keeps.and (h : Keeps w P) (k : Keeps w Q) : Keeps w (fun W => P W ∧ Q W) := ⟨⟨h.now, k.now⟩, fun _ hb => ⟨h.later _ hb, k.later _ hb⟩⟩
theorem Keeps.left (h : Keeps w (fun W => P W ∧ Q W)) : Keeps w P := ⟨h.now.1, fun _ hb => (h.later _ hb).1⟩
theorem Keeps.right (h : Keeps w (fun W => P W ∧ Q W)) : Keeps w Q := ⟨h.now.2, fun _ hb => (h.later _ hb).2⟩
theorem Keeps.ints {A : Option Addr} {xs : List Int} (h : Ints w A xs) : Keeps w (fun W => Ints W A xs) := ⟨h, fun _ hb => h.keep hb⟩
theorem Keeps.cells {A : Option Addr} {cs : List Value} (h : Cells w A cs) : Keeps w (fun W => Cells W A cs) := ⟨h, fun _ hb => h.keep hb⟩
theorem Keeps.blk {g : Nat} {t : TypeId} {cs : List Value} (h : Blk w g t cs) : Keeps w (fun W => Blk W g t cs) := ⟨h, fun _ hb => h.keep hb⟩
theorem Keeps.own {base : Nat} {e : TypeId} {size : Nat} {A : Option Addr} {n c : Nat} {cs : List Value} (h : Own w base e size A n c cs) : Keeps w (fun W => Own W base e size A n c cs) := ⟨h, fun _ hb => h.keep hb⟩
theorem Keeps.mine {B : Nat} {A : Option Addr} (h : Mine w B A) : Keeps w (fun W => Mine W B A) := ⟨h, fun _ hb => h.keep hb⟩
theorem Keeps.below {w0 : World} (h : Below w0.heap.size w0 w) : Keeps w (fun W => Below w0.heap.size w0 W) := ⟨h, fun _ hb => h.trans (hb.mono h.size)⟩
theorem Keeps.lt {g : Nat} (h : g < w.heap.size) : Keeps w (fun W => g < W.heap.size) := ⟨h, fun _ hb => Nat.lt_of_lt_of_le h hb.size⟩
theorem Keeps.cell {b o : Nat} {v : Value} (h : w.cell? ⟨b, o, none⟩ = some v) : Keeps w (fun W => W.cell? ⟨b, o, none⟩ = some v) :=
  ⟨h, fun _ hb => (hb.cell (p := ⟨b, o, none⟩) (World.block_lt_of_cell? w _ h)).trans h⟩
theorem Keeps.alloc (h : Keeps w P) (o : Obj) : Keeps (w.alloc o) P := h.move ((Below.refl _ _).alloc (Nat.le_refl _) o)
theorem Keeps.drew (h : Keeps w P) : Keeps w.drew P := h.move (Below.refl _ _).drew
theorem Keeps.drewN (h : Keeps w P) (k : Nat) : Keeps (w.drewN k) P := h.move (below_drewN (Below.refl _ _) k)
theorem Keeps.imp (h : Keeps w P) (hi : ∀ W, P W → Q W) : Keeps w Q := ⟨hi _ h.now, fun _ hb => hi _ (h.later _ hb)⟩
end

/-- append of one element, whose cells are news, in a region that draws its order -/
theorem step_app1 {P : Program} (w0 : World) {ops : Array Oper} {o : Oper} {a : Act} {K : Act → World → Prop} {Q : Exit → Act → World → Prop} {E : Prop} (hgd : o.guard = none) (s x : Operand) (t : TypeId)
    (ho : o.op = .call { callee := .builtin .append, args := #[s, x], argTypes := #[t, t] })
    (base : Nat) (e : TypeId) (i : TypeInfo) (z : Value) (size bytes : Nat) (ht : P.underlying t = some (.slice e)) (hi : P.info? e = some i) (hz : i.zero = some z)
    (hsize : i.size = size) (hby : i.bytes = bytes) (hzs : z.cells.size = size) (hsz : 0 < size)
    (A : Option Addr) (n c : Nat) (cs news : List Value) (hs : a.eval s = .slice A n c) (hown : Own w0 base e size A n c cs)
    (hx : a.eval x = .slice (some ⟨w0.heap.size, 0, none⟩) 1 1) (hl : news.length = size) (h1 : ∀ u ∈ news, u.oneCell' = true)
    (h63 : n ≤ 1073741824) (hbytes : bytes ≤ 65536) (hbase : base ≤ w0.heap.size)
    (h : ∀ A' c' w', Own w' base e size A' (n + 1) c' (cs ++ news) → (w0.alloc (.cells news.toArray e)).grownBy w' (Value.slice A n c).ownBlock → K (a.put o.dst (.slice A' (n + 1) c')) w') :
    if Region.wanted o (yielded ops a.tmps) = true then Oper.wp P o a (w0.alloc (.cells news.toArray e)) K Q else E := by
  refine step_append_lies _ hgd s x t ho base e i z size bytes ht hi hz hsize hby hzs hsz (.slice A n c) n cs hs (hown.alloc _) ⟨w0.heap.size, 0, none⟩ 1 1 news hx (by omega) ?_ h1 (by omega) (by unfold maxLen; omega) ?_ (by simp; omega) (w0.heap.size + 1) (by simp) ?_
  · intro j u hu
    rw [Addr.add_lit, Nat.zero_add, (Blk.new w0 e news).cell]
    exact hu
  · have h2 : (n + 1) * bytes ≤ 1073741825 * 65536 := Nat.mul_le_mul (by omega) hbytes
    omega
  · intro g cap w' hown' hg _ _
    exact h _ _ w' hown' hg
end Go.Proofs.Ytibpmogmeoappaa
