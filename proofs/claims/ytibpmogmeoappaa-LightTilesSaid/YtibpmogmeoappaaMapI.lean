/- Maps with integer keys that the call itself makes: make, store of a new key, look-up with ok. -/
import Derived.Test.YtibpmogmeoappaaMem
namespace Go.Proofs.Ytibpmogmeoappaa
open Go.RowKit

/-- block b is a map with just these keys and values, in the order of their coming -/
def IMap (w : World) (b : Nat) (l : List (Int × Value)) : Prop :=
  ∃ es clk, w.heap[b]? = some (.map es clk) ∧ es.toList.map (fun e => (e.key, e.val)) = l.map fun p => (Value.int .i64 p.1, p.2)
theorem IMap.lt {w : World} {b : Nat} {l : List (Int × Value)} (h : IMap w b l) : b < w.heap.size := by
  obtain ⟨es, clk, h, _⟩ := h
  exact (Array.getElem?_eq_some_iff.1 h).1
theorem IMap.keep {w w' : World} {b : Nat} {l : List (Int × Value)} (h : IMap w b l) (hb : Below w.heap.size w w') : IMap w' b l := by
  have hl := h.lt
  obtain ⟨es, clk, h, h2⟩ := h
  exact ⟨es, clk, (hb.block b hl).trans h, h2⟩
theorem IMap.far {w : World} {b : Nat} {l : List (Int × Value)} (h : IMap w b l) {p : Addr} (hp : b ≠ p.block) (u : Value) : IMap (w.setCell p u) b l := by
  obtain ⟨es, clk, h, h2⟩ := h
  exact ⟨es, clk, (Below.heap_setCell w p u b hp).trans h, h2⟩

def lookI (l : List (Int × Value)) (k : Int) : Option Value := (l.find? fun p => p.1 == k).map (·.2)

theorem findNow_ints {k : Int} : ∀ (l : List (Int × Value)) (es : List MapEntry) (i : Nat), es.map (fun e => (e.key, e.val)) = l.map (fun p => (Value.int .i64 p.1, p.2)) →
    ∃ j, Instr.findNow (.int .i64) (.int .i64 k) es i = some ((lookI l k).map fun v => (j, v))
  | [], es, i, h => by
    have : es = [] := by simpa using h
    subst this
    exact ⟨0, rfl⟩
  | (a, v) :: l, [], i, h => by simp at h
  | (a, v) :: l, e :: es, i, h => by
    simp only [List.map_cons, List.cons.injEq, Prod.mk.injEq] at h
    obtain ⟨⟨h1, h2⟩, h3⟩ := h
    obtain ⟨j, hj⟩ := findNow_ints (k := k) l es (i + 1) h3
    by_cases hk : k = a
    · subst hk
      refine ⟨i, ?_⟩
      simp [Instr.findNow, Instr.sameNow, h1, h2, lookI]
    · refine ⟨j, ?_⟩
      have hk' : ¬ a = k := fun e => hk e.symm
      simp only [Instr.findNow, Instr.sameNow, h1]
      simp only [if_true, show (k == a) = false by simpa using hk]
      rw [hj]
      simp [lookI, show (a == k) = false by simpa using hk']

theorem run_findKey_ints {P : Program} {kt : TypeId} (hk : P.underlying kt = some (.int .i64)) {k : Int} {l : List (Int × Value)} {es : List MapEntry} (h : es.map (fun e => (e.key, e.val)) = l.map (fun p => (Value.int .i64 p.1, p.2))) (w : World) :
    ∃ j, (Instr.findKey kt (.int .i64 k) es).run P w = .ok ((lookI l k).map fun v => (j, v)) w := by
  obtain ⟨j, hj⟩ := findNow_ints (k := k) l es 0 h
  refine ⟨j, ?_⟩
  unfold Instr.findKey
  simp [run_underlying hk, hj]

theorem run_checkKey_int {P : Program} {kt : TypeId} (hk : P.underlying kt = some (.int .i64)) (b : Bool) (k : Int) (w : World) : (Instr.checkKey b 10000 kt (.int .i64 k)).run P w = .ok () w := by
  have h : ∀ n : Nat, (Instr.checkKey b (n + 1) kt (.int .i64 k)).run P w = .ok () w := by
    intro n
    unfold Instr.checkKey
    simp [run_underlying hk]
  exact h 9999

theorem run_lookup_ints {P : Program} {t kt et : TypeId} (ht : P.underlying t = some (.map kt et)) (hk : P.underlying kt = some (.int .i64)) {z : Value} {w : World} (hz : (zeroValue et).run P w = .ok z w) {b : Nat} {l : List (Int × Value)} (h : IMap w b l) (k : Int) :
    (Instr.lookup t (.map (some b)) (.int .i64 k) true).run P w = .ok (.tuple #[(lookI l k).getD z, .bool (lookI l k).isSome]) w := by
  obtain ⟨es, clk, h, h2⟩ := h
  obtain ⟨j, hj⟩ := run_findKey_ints (P := P) hk (k := k) h2 w
  unfold Instr.lookup
  cases hl : lookI l k with
  | none =>
    rw [hl] at hj
    simp [run_underlying ht, getObj, Sem.run, h, run_checkKey_int hk, hj, hz]
  | some v =>
    rw [hl] at hj
    simp [run_underlying ht, getObj, Sem.run, h, run_checkKey_int hk, hj]

/-- the world behind a store of a new key -/
def World.mapPut (w : World) (b : Nat) (k : Int) (v : Value) : World :=
  match w.heap[b]? with
  | some (.map es clk) => { w with heap := w.heap.setIfInBounds b (.map (es.push { key := .int .i64 k, val := v, born := clk }) (clk + 1)) }
  | _ => w
theorem run_mapUpdate_ints {P : Program} {t kt et : TypeId} (ht : P.underlying t = some (.map kt et)) (hk : P.underlying kt = some (.int .i64)) {w : World} {b : Nat} {l : List (Int × Value)} (h : IMap w b l) (k : Int) (v : Value) (hn : lookI l k = none) :
    (Instr.mapUpdate t (.map (some b)) (.int .i64 k) v).run P w = .ok () (World.mapPut w b k v) := by
  obtain ⟨es, clk, h, h2⟩ := h
  obtain ⟨j, hj⟩ := run_findKey_ints (P := P) hk (k := k) h2 w
  rw [hn] at hj
  unfold Instr.mapUpdate World.mapPut
  simp [run_underlying ht, getObj, setObj, Sem.run, h, run_checkKey_int hk, hj]
theorem IMap.put {w : World} {b : Nat} {l : List (Int × Value)} (h : IMap w b l) (k : Int) (v : Value) : IMap (World.mapPut w b k v) b (l ++ [(k, v)]) := by
  have hlt := h.lt
  obtain ⟨es, clk, h, h2⟩ := h
  refine ⟨es.push { key := .int .i64 k, val := v, born := clk }, clk + 1, ?_, ?_⟩
  · unfold World.mapPut
    rw [h]
    simp [hlt]
  · simp [h2]
theorem mapPut_size (w : World) (b : Nat) (k : Int) (v : Value) : (World.mapPut w b k v).heap.size = w.heap.size := by
  unfold World.mapPut
  split <;> simp
theorem Below.mapPut {B : Nat} {a w : World} (h : Below B a w) {b : Nat} (hb : B ≤ b) (k : Int) (v : Value) : Below B a (World.mapPut w b k v) := by
  refine h.trans ?_
  unfold World.mapPut
  split
  · exact ⟨rfl, rfl, rfl, by simp, fun i hi => by simp [Array.getElem?_setIfInBounds]; omega⟩
  · exact Below.refl _ _
theorem Blk.mapPut {w : World} {g : Nat} {t : TypeId} {cs : List Value} (h : Blk w g t cs) {b : Nat} (hb : g ≠ b) (k : Int) (v : Value) : Blk (World.mapPut w b k v) g t cs := by
  unfold Blk at h ⊢
  unfold World.mapPut
  split
  · simp only [Array.getElem?_setIfInBounds]
    rw [if_neg (by omega)]
    exact h
  · exact h
end Go.Proofs.Ytibpmogmeoappaa
