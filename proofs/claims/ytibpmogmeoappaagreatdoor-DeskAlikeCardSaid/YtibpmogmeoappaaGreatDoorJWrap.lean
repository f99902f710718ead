/- From a walk to the given statement: what is read before the call reads so behind it. -/
import Derived.Test.YtibpmogmeoappaaGreatDoorRows
import Derived.Test.YtibpmogmeoappaaGreatDoorJMem
import Derived.ProofKit
import Derived.OpenShut
import Derived.Lib.SmallJoins
import Derived.Deep.Slices
import Derived.Deep.Fields
set_option maxRecDepth 100000
namespace Go.Proofs.YtibpmogmeoappaaGreatDoor
open Go.ChangeShapes Go.WideShapes Go.ChangeAt Go.RowKit
theorem own_knob : ownKnob Tryz.prog.godebug = none := by kernel_rfl
theorem laid_out : laidOutB Tryz.prog = true := by kernel_rfl
section
variable {H : Type} {enc : TypeId × Value → H} {P : Program}
theorem trodAll_below (hl : laidOutB P = true) {W W' : World} (hb : Below W.heap.size W W') {sp : Nat → Bool} :
 ∀ {ts : List TypeId} {vs : List Value} {ds : List (DataW H)} {ps : List MemPlace}, (∀ t ∈ ts, P.readableRec t = true ∧ t < P.types.size) →
   DataW.TrodAll enc P W 0 (fun _ => true) true ts vs ds ps → (∀ p ∈ ps, p.block < W.heap.size) → (∀ p ∈ ps, sp p.block = true) → DataW.TrodAll enc P W' 0 sp true ts vs ds ps
 | [], vs, ds, ps, _, h, _, _ => by
   obtain ⟨rfl, rfl, rfl⟩ := trodAll_nil h;exact trodAll_mk0
 | t :: ts, vs, ds, ps, hr, h, hlt, hs => by
   obtain ⟨v, vs', d, ds', p, q, rfl, rfl, rfl, h1, h2⟩ := trodAll_cons h;have hr1 := hr t (by simp);refine trodAll_cons_mk (WideElems.Trod_stays hl hr1.1 hr1.2 h1 (fun x hx => hb.same (hlt x (by simp [hx]))) (fun x hx => hs x (by simp [hx]))) ?_;exact trodAll_below hl hb (fun t ht => hr t (by simp [ht])) h2 (fun x hx => hlt x (by simp [hx])) (fun x hx => hs x (by simp [hx]))
theorem law_post {f : Func} {s : ChangeSpec} {W W' : World} {args : Array Value} {ds gs : List (DataW H)} {before : List MemPlace} {tb : TypeId}
 (hl : laidOutB P = true) (hp : ∀ t ∈ f.params.toList, P.readableRec t = true ∧ t < P.types.size) (hbool : P.underlying tb = some .bool) (hrt : f.resultTypes = #[tb])
 (hW : DataW.Whole enc P f.params.toList s.vars false W args.toList ds gs before) (hvars : s.vars = []) (hb : Below W.heap.size W W')
 (hres : (s.fn H (ds ++ gs)).results = [.lit (.bool true)]) (hargs : (s.fn H (ds ++ gs)).args = ds) (hv : (s.fn H (ds ++ gs)).vars = []) :
 s.post enc P f false true false false W args (.bool true) W' := by
 have hW0 := hW;obtain ⟨p, q, hA, hV, rfl, hz, hn⟩ := hW;rw [hvars] at hV;obtain ⟨rfl, rfl⟩ := trodVars_none hV;have hlt := hW0.lt;simp only [List.append_nil] at hlt;refine ⟨ds, [], p ++ [], [], p, [], hW0, ?_, ?_, ?_, hb.frame _, fun h => by cases h⟩
 ·rw [hres, hrt]
  exact trodAll_mk1 (shut_bool hbool true)
 ·rw [hargs]
  exact trodAll_below hl hb hp hA hlt (fun x hx => by simpa using hlt x hx)
 ·rw [hv, hvars]
  rfl
end
theorem ints_in {H : Type} {enc : TypeId × Value → H} {W : World} {base : Nat} {n : Nat} {v : Value} {y : DataW H × List MemPlace}
 (h : DataW.trod enc Tryz.prog W base (fun _ => true) true n 22 [v] = some y) : ∃ (A : Option Addr) (len cap : Nat) (xs : List Int), v = .slice A len cap ∧ xs.length = len ∧ Ints W A xs ∧ len ≤ 9223372036854775807 := by
 rcases open_ints (k := .i64) Tryz.underlying22 Tryz.underlying3 (by kernel_rfl) h with ⟨hcs, _⟩ | ⟨a, len, cap, zs, hcs, _, hl, hm, hz, _, hc, _⟩
 ·injection hcs with hv
  exact ⟨none, 0, 0, [], hv, rfl, Ints.nil _ _, by omega⟩
 ·injection hcs with hv
  refine ⟨some a, len, cap, zs.take len, hv, ?_, ?_, ?_⟩
  ·simp only [if_true] at hz
   rw [List.length_take]; omega
  ·intro i hi
   simp only [List.length_map, List.length_take] at hi;have hi2 : i < zs.length := by omega
   have hcell := hc i hi2;have hb := World.block_lt_of_cell? W _ hcell;obtain ⟨ab, ao, asp⟩ := a
   have hsp : asp = none := by
    cases asp with
    | none => rfl
    | some x =>
      exfalso;have hcell0 := hc 0 (by omega);simp only [Addr.add] at hcell0;unfold World.cell? at hcell0;split at hcell0
      ·simp at hcell0
      ·cases hcell0
   subst hsp;rw [Addr.add_lit] at hcell hb;refine ⟨ab, ao, rfl, hb, ?_⟩;rw [hcell];simp only [List.getD_eq_getElem?_getD];rw [List.getElem?_map, List.getElem?_take, if_pos (by omega), List.getElem?_eq_getElem hi2];simp
  ·have : len ≤ maxLen := Nat.le_trans hl hm
   unfold maxLen at this;exact this
theorem image_in {H : Type} {enc : TypeId × Value → H} {W : World} {r : Reach} {b0 : Nat} {v : Value} {d : DataW H} {p : List MemPlace}
 (hv : Value.okWide Tryz.prog W r b0 24 v) (h : DataW.Trod enc Tryz.prog W 0 (fun _ => true) true 24 v d p) :
 ∃ (W0 H0 : Int) (A : Option Addr) (n c : Nat) (P : List Int), v = .agg #[.int .i64 W0, .int .i64 H0, .slice A n c] ∧ P.length = n ∧ Ints W A P ∧ n ≤ 9223372036854775807 := by
 obtain ⟨v0, v1, v2, y0, y1, y2, n, rfl, _, _, t0, t1, t2⟩ := Joins.open_agg3 Tryz.underlying24 (by kernel_rfl) (by kernel_rfl) hv h;obtain ⟨a, e0, _, _⟩ := DataW.trod_int Tryz.underlying3 t0;obtain ⟨b, e1, _, _⟩ := DataW.trod_int Tryz.underlying3 t1;simp at e0 e1
 subst e0 e1;obtain ⟨A, len, cap, xs, rfl, hx, hI, hl⟩ := ints_in t2;exact ⟨a, b, A, len, cap, xs, rfl, hx, hI, hl⟩
end Go.Proofs.YtibpmogmeoappaaGreatDoor
