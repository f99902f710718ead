/- Walk: slices.Clone of lights. -/
import Derived.Test.YtibpmogmeoappaaJNeed2
import Derived.Laws.Cover3
set_option maxRecDepth 100000
namespace Go.Proofs.Ytibpmogmeoappaa
open Go.RowKit
theorem wpList_copy {P : Program} (w : World) {ops : Array Oper} {rest : List Oper} {o : Oper} {a : Act} {Q : Exit → Act → World → Prop} (hgd : o.guard = none) (s x : Operand) (t : TypeId)
 (hop : o.op = Op.call { callee:=Callee.builtin Builtin.append,args:=#[s,x],argTypes:=#[t,t] })
 (e : TypeId) (i : TypeInfo) (z : Value) (size bytes : Nat) (h1 : P.underlying t = some (.slice e)) (h2 : P.info? e = some i) (h3 : i.zero = some z) (h4 : i.size = size) (h5 : i.bytes = bytes) (h6 : z.cells.size = size) (h7 : 0 < size)
 (b : Addr) (hs : a.eval s = .slice (some b) 0 0)
 (L : Option Addr) (m d : Nat) (news : List Value) (hx : a.eval x = .slice L m d) (hn : news.length = m * size) (hc : Cells w L news) (h1c : ∀ u ∈ news,u.oneCell' = true)
 (b1 : m ≤ maxLen) (b2 : m * bytes ≤ 140737488355328)
 (hK : ∀ A' c' w',Cells w' A' news → (news ≠ [] → NewFrom w.heap.size A') → Below w.heap.size w w' → wpList P ops Q rest (a.put o.dst (.slice A' m c')) w') :
 wpList P ops Q (o :: rest) a w:=by
 by_cases hm : m = 0
 ·subst hm
  obtain rfl : news = []:=List.eq_nil_of_length_eq_zero (by omega);refine wpList_plain hgd fun K hK'=>?_
  have hsrc : Src P i.size t (.slice L 0 d) 0 [] w:=by
   cases L with
   | none=>exact Src.ofNil w h1 d
   | some ad=>exact Src.ofSlice w h1 ad 0 d [] (by simp) (fun j u hu=>by simp at hu) (fun u hu=>by cases hu)
  have hrun:=run_append_nothing (P:=P) w t t o.type e i h1 h2 (some b) 0 0 (Nat.le_refl _) (.slice L 0 d) hsrc;unfold Oper.wp;simp [execOp,hop,resolve,invoke,builtin,hs,hx,hrun,Result.andThen]
  have:=hK (some b) 0 w (Cells.nil _ _) (fun h=>absurd rfl h) (Below.refl _ _);exact hK' _ _ this
 ·have hpos : 0 < news.length:=by rw [hn]; exact Nat.mul_pos (Nat.pos_of_ne_zero hm) h7
  obtain ⟨lb,lo,rfl,-,-⟩:=hc 0 hpos
  have hl : ∀ j u,news[j]? = some u → w.cell? ((⟨lb,lo,none⟩ : Addr).add j) = some u:=fun j u hu=>by
   obtain ⟨b',o',e',-,hcc⟩:=hc j (List.getElem?_eq_some_iff.1 hu).1;cases e';rw [Addr.add_lit,hcc,List.getD_eq_getElem?_getD,hu]; rfl
  refine wpList_append_grows w hgd s x t hop e i z size bytes h1 h2 h3 h4 h5 h6 h7 (some b) 0 0 [] hs (fun h=>by cases h) (by simp) (fun b' _ j u hu=>by simp at hu) ⟨lb,lo,none⟩ m d news hx hn hl h1c (by omega) (by omega) (by rw [Nat.zero_add]; exact b2) ?_;intro v' w' hown hg;rw [Nat.zero_add,List.nil_append] at hown;obtain ⟨-,⟨-,h0⟩ | ⟨g,cap,cur,rfl,k1,-⟩⟩:=id hown
  ·omega
  ·have hcl:=Cells.of_own hown hn
   have:=hK (some ⟨g,0,none⟩) cap w' hcl (fun _ a ha=>by cases ha; exact k1) (Below.grownNone (Below.refl _ _) hg (Nat.le_refl _))
   simpa using this
theorem lamps_one (ls : List Lamp) : ∀ u ∈ ls.flatMap lampCells,u.oneCell' = true:=by
 intro u hu;obtain ⟨x,-,hx⟩:=List.mem_flatMap.1 hu;simp only [lampCells,List.mem_cons,List.not_mem_nil,or_false] at hx;rcases hx with rfl | rfl | rfl | rfl <;> rfl
theorem flatMap_length4 (ls : List Lamp) : (ls.flatMap lampCells).length = ls.length * 4:=by
 induction ls with
 | nil=>rfl
 | cons l ls ih=>rw [List.flatMap_cons,List.length_append,ih,List.length_cons]; simp only [lampCells,List.length_cons,List.length_nil]; omega
def RetLamps (w : World) (ls : List Lamp) (e : Ending) (w' : World) : Prop :=
 ∃ (A : Option Addr) (d : Nat),e = .returned (.slice A ls.length d) ∧ Lamps w' A ls ∧ (ls.flatMap lampCells ≠ [] → NewFrom w.heap.size A) ∧ Below w.heap.size w w'
theorem lamps_cells {w : World} {A : Option Addr} {ls : List Lamp} (h : Lamps w A ls) : Cells w A (ls.flatMap lampCells):=by
 intro t ht;have hl4:=flatMap_length4 ls;rw [hl4] at ht;have hi : t / 4 < ls.length:=by omega
 obtain ⟨b,o,hA,hlt,hc⟩:=h (t / 4) hi;refine ⟨b,o,hA,hlt,?_⟩;have:=hc (t % 4) (by omega);rw [show o + t / 4 * 4 + t % 4 = o + t from by omega] at this;rw [this,List.getD_eq_getElem?_getD,List.getD_eq_getElem?_getD (l:=ls.flatMap lampCells)];have h2:=flatMap_get lampCells 4 (fun _=>rfl) ls (t / 4) (t % 4) hi (by omega);rw [show t / 4 * 4 + t % 4 = t from by omega] at h2;rw [h2,List.getD_eq_getElem?_getD,List.getElem?_eq_getElem hi];rfl
theorem run_eq_nilL (A : Option Addr) (n c : Nat) (w : World) : (binOp .eql 45 (.slice A n c) (.slice none 0 0)).run Try.prog w = .ok (.bool A.isNone) w:=by
 simp only [binOp];simp [run_equal_slice_nil w 45 59 A n c Try.underlying45]
theorem cloneLamps_any (LA : Option Addr) (m d : Nat) (ls : List Lamp) (w : World) (hm : ls.length = m) (hL : Lamps w LA ls) (hb : m ≤ 65536) :
 Calls Try.prog 87 #[.slice LA m d] w (RetLamps w ls):=by
 subst hm;have hnl:=run_eq_nilL
 cases LA with
 | none =>
   obtain rfl : ls = []:=by
    cases ls with
    | nil=>rfl
    | cons l ls=>obtain ⟨b,o,e,-⟩:=hL 0 (by simp); cases e
   go_enter Try.func87,Try.ntmps87
   go_wp2
   go_ret;exact ⟨none,_,rfl,fun i hi=>absurd hi (Nat.not_lt_zero i),fun h=>absurd rfl h,Below.refl _ _⟩
 | some ad =>
   obtain ⟨i0,hi0,hz0,hz1,hz2⟩:=info_parts Try.info59;have hal:=(Below.refl w.heap.size w).alloc (Nat.le_refl _) (.cells #[] 59);have HC:=hide (lamps_cells (hL.keep hal));have HN:=hide (flatMap_length4 ls);have HAL:=hide hal;clear hL hal;go_enter Try.func87,Try.ntmps87
   go_wp2_with (at_builtin; go_loud (refine wpList_copy (w.alloc (.cells #[] 59)) rfl _ _ 45 rfl 59 i0 _ 4 32 Try.underlying45 hi0 hz0 hz1 hz2 rfl (by omega) _ rfl (some ad) ls.length d (ls.flatMap lampCells) rfl HN.out HC.out (lamps_one ls) (by simp only [maxLen]; omega) (by omega) ?_; intro A9 c9 w9 hc9 hn9 hb9))
   go_ret;refine ⟨A9,c9,rfl,cells_lamps hc9,fun h=>(hn9 h).mono (by simp),HAL.out.trans (hb9.mono HAL.out.size)⟩
end Go.Proofs.Ytibpmogmeoappaa
