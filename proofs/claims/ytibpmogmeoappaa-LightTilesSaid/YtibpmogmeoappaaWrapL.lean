/- Lights that came in: a slice of structs reads as cells. -/
import Derived.Test.YtibpmogmeoappaaWrap
import Derived.Test.YtibpmogmeoappaaLitA
namespace Go.Proofs.Ytibpmogmeoappaa
open Go.ChangeShapes Go.WideShapes Go.ChangeAt Go.RowKit Go.Deep

section
variable {H : Type} {enc : TypeId × Value → H} {P : Program} {w : World} {base : Nat} {spare : Nat → Bool} {held : Bool}
/-- a struct whose fields take one cell each, laid at an address: each field's cell, with its reading -/
theorem struct_at {e : TypeId} {fs : Array Field} (he : P.underlying e = some (.struct fs)) (hone : oneCellFields P fs = true) {a : Addr} {n : Nat} {cs : List Value} {x : DataW H × List MemPlace}
    (hc : w.cells? base a (P.cellsOf e) = some cs) (ht : DataW.trod enc P w base spare held n e cs = some x) :
    ∃ m, ∀ (j : Nat) (f : Field), fs[j]? = some f → j < P.cellsOf e → ∃ v y, w.cell? (a.add j) = some v ∧ DataW.trod enc P w base spare held m f.type [v] = some y := by
  obtain ⟨ys, m, _, _, hlen, hyl, hf⟩ := DataW.trod_struct he ht
  obtain ⟨_, hcl, hat⟩ := World.cells?_some hc
  refine ⟨m, fun j f hj hjC => ?_⟩
  obtain ⟨ho, hk⟩ := hone_of hone j f hj
  have hjl : j < fs.size := (Array.getElem?_eq_some_iff.1 hj).1
  have hjc : j < cs.length := by omega
  have h1 := hf j f hj
  rw [ho, hk] at h1
  have e1 : (cs.drop j).take 1 = [cs[j]] := by rw [List.drop_eq_getElem_cons hjc]; rfl
  rw [e1, List.getElem?_eq_getElem (by omega)] at h1
  exact ⟨cs[j], _, by rw [hat j hjC, List.getElem?_eq_getElem hjc], h1⟩
end
/-- a cell lies in a block of cells -/
theorem spine_none {w : World} {a : Addr} {v : Value} (h : w.cell? a = some v) : a = ⟨a.block, a.off, none⟩ := by
  obtain ⟨b, o, s⟩ := a
  cases s with
  | none => rfl
  | some x =>
    exfalso
    unfold World.cell? at h
    split at h
    · simp at h
    · cases h

set_option maxRecDepth 100000 in
/-- a slice of lights that came in -/
theorem lamps_in {H : Type} {enc : TypeId × Value → H} {W : World} {base : Nat} {n : Nat} {v : Value} {y : DataW H × List MemPlace}
    (h : DataW.trod enc Try.prog W base (fun _ => true) true n 45 [v] = some y) : ∃ (A : Option Addr) (len cap : Nat) (ls : List Lamp), v = .slice A len cap ∧ ls.length = len ∧ Lamps W A ls ∧ len ≤ 9223372036854775807 := by
  rcases open_slice Try.underlying45 h with ⟨hcs, _⟩ | ⟨a, len, cap, m, n', D, Pl, hcs, _, hl, hm, hmm, _, hi⟩
  · injection hcs with hv
    exact ⟨none, 0, 0, [], hv, rfl, (by intro i hi; simp at hi), by omega⟩
  · injection hcs with hv
    have hC : Try.prog.cellsOf 59 = 4 := by kernel_rfl
    have hlm : len ≤ m := by rw [hmm]; simp only [if_true]; exact hl
    have hone : oneCellFields Try.prog (match Try.prog.underlying 59 with | some (.struct fs) => fs | _ => #[]) = true := by kernel_rfl
    have hsp : 0 < len → a = ⟨a.block, a.off, none⟩ := by
      intro h0
      obtain ⟨cs', h1, h2⟩ := hi 0 (by omega)
      obtain ⟨m', hf⟩ := struct_at Try.underlying59 hone h1 h2
      obtain ⟨v0, y0, c0, _⟩ := hf 0 _ rfl (by rw [hC]; omega)
      rw [add_add, Nat.zero_mul] at c0
      exact spine_none (a := a) (by simpa [Addr.add] using c0)
    have key : ∀ i, i < len → ∃ l : Lamp, a = ⟨a.block, a.off, none⟩ ∧ a.block < W.heap.size ∧ ∀ j, j < 4 → W.cell? ⟨a.block, a.off + i * 4 + j, none⟩ = some ((lampCells l).getD j undef) := by
      intro i hil
      obtain ⟨cs', h1, h2⟩ := hi i (by omega)
      obtain ⟨m', hf⟩ := struct_at Try.underlying59 hone h1 h2
      rw [hC] at hf
      obtain ⟨v0, y0, c0, t0⟩ := hf 0 _ rfl (by omega)
      obtain ⟨v1, y1, c1, t1⟩ := hf 1 _ rfl (by omega)
      obtain ⟨v2, y2, c2, t2⟩ := hf 2 _ rfl (by omega)
      obtain ⟨v3, y3, c3, t3⟩ := hf 3 _ rfl (by omega)
      obtain ⟨x0, e0, _, _⟩ := DataW.trod_int Try.underlying3 t0
      obtain ⟨x1, e1, _, _⟩ := DataW.trod_int Try.underlying3 t1
      obtain ⟨x2, e2, _, _⟩ := DataW.trod_int Try.underlying3 t2
      obtain ⟨x3, e3, _, _⟩ := DataW.trod_int Try.underlying3 t3
      injection e0 with e0
      injection e1 with e1
      injection e2 with e2
      injection e3 with e3
      subst e0 e1 e2 e3
      rw [add_add] at c0 c1 c2 c3
      have hsp := hsp (by omega)
      rw [hsp, Addr.add_lit] at c0 c1 c2 c3
      refine ⟨⟨x0, x1, x2, x3⟩, hsp, World.block_lt_of_cell? W ⟨a.block, _, none⟩ c0, fun j hj => ?_⟩
      rw [Nat.add_assoc]
      rcases j with _ | _ | _ | _ | j
      · exact c0
      · exact c1
      · exact c2
      · exact c3
      · omega
    obtain ⟨f, hf⟩ := @choose_lt Lamp ⟨⟨0, 0, 0, 0⟩⟩ len _ key
    refine ⟨some a, len, cap, (List.range len).map f, hv, by simp, ?_, ?_⟩
    · intro i hil
      have hil' : i < len := by simpa using hil
      obtain ⟨h1, h2, h3⟩ := hf i hil'
      refine ⟨a.block, a.off, by rw [← h1], h2, fun j hj => ?_⟩
      rw [h3 j hj]
      simp [List.getD, hil']
    · have : len ≤ maxLen := Nat.le_trans hl hm
      unfold maxLen at this
      exact this
set_option maxRecDepth 100000 in
theorem lamps_param {H : Type} {enc : TypeId × Value → H} {W : World} {r : Reach} {b0 : Nat} {v : Value} {d : DataW H} {p : List MemPlace}
    (hv : Value.okWide Try.prog W r b0 45 v) (h : DataW.Trod enc Try.prog W 0 (fun _ => true) true 45 v d p) :
    ∃ (A : Option Addr) (len cap : Nat) (ls : List Lamp), v = .slice A len cap ∧ ls.length = len ∧ Lamps W A ls ∧ len ≤ 9223372036854775807 := by
  obtain ⟨A, n, c, rfl⟩ := okWide_slice Try.underlying45 hv
  obtain ⟨k, hk⟩ := h
  exact lamps_in hk
end Go.Proofs.Ytibpmogmeoappaa
