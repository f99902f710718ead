/- glow: a frame of five passes. -/
import Derived.Test.YtibpmogmeoappabGreatJFrmM
import Derived.Test.YtibpmogmeoappabGreatJFrmN
import Derived.Test.YtibpmogmeoappabGreatJMem
import Derived.Test.YtibpmogmeoappabGreatJPlain
import Derived.Test.YtibpmogmeoappabGreatJFrmA
set_option maxHeartbeats 1000000
namespace Go.Proofs.YtibpmogmeoappabGreat
open Go.RowKit
def glowF : Frm:=⟨4,2,3,1,[⟨2,0,0,0,100,[]⟩,⟨1,2,0,0,7,[]⟩,⟨10,1,0,0,0,[]⟩,⟨1,2,0,0,9,[]⟩,⟨4,1,0,2,0,[]⟩]⟩
def RetGlow (w : World) (e : Ending) (w' : World) : Prop:=∃ (A : Option Addr) (c : Nat),e = .returned (.agg #[.int .i64 4,.int .i64 2,.int .i64 3,.int .i64 1,.slice A 5 c]) ∧ Passes w' A glowF.P ∧ Below w.heap.size w w'
theorem passes_flat {w : World} {A : Option Addr} {ps : List Pas} (h : Cells w A (ps.flatMap (fun p=>passCells p none 0 0))) (hL : ∀ p ∈ ps,p.L = []) : Passes w A ps:=by
 intro i hi;obtain ⟨b,o,h1,h2,h3⟩:=cells_flat (k:=6) (fun x=>rfl) h hi (by omega);have e : ps.getD i noPas = ps[i]:=by rw [List.getD_eq_getElem?_getD,List.getElem?_eq_getElem hi]; rfl
 have hl:=hL _ (List.getElem_mem hi);rw [e];refine ⟨b,o,none,0,0,h1,h2,h3,by rw [hl]; rfl,?_,by omega⟩;rw [hl];intro j hj;simp at hj
theorem glow_any (w : World) : Calls Tryz.prog 19 #[] w (RetGlow w):=by
 go_enter Tryz.func19,Tryz.ntmps19
 go_wp2_with fail;refine bodyPost_ret (v:=.agg #[.int .i64 4,.int .i64 2,.int .i64 3,.int .i64 1,.slice (some ⟨w.heap.size + 1,0,none⟩) 5 5]) ?_ rfl ?_
 ·simp [results,Tryz.results19,go_sem]
 ·refine ⟨_,_,rfl,?_,?_⟩
  ·exact passes_flat (Blk.cells (Blk.newE (t:=72) (cs:=glowF.P.flatMap (fun p=>passCells p none 0 0)) (by simp))) (by decide)
  ·exact ((Below.refl _ _).alloc (Nat.le_refl _) _).alloc (by simp) _
end Go.Proofs.YtibpmogmeoappabGreat
namespace Go.Proofs.YtibpmogmeoappabGreat
open Go.RowKit
def otherP : Pln:=⟨[3,0,4],[8,-1,-1,0,20]⟩
def RetOther (w : World) (e : Ending) (w' : World) : Prop:=∃ (A B : Option Addr),e = .returned (.agg #[.slice A 3 3,.slice B 5 5]) ∧ Ints w' A otherP.Order ∧ Ints w' B otherP.Places ∧ Below w.heap.size w w'
theorem other_any (w : World) : Calls Tryz.prog 20 #[] w (RetOther w):=by
 go_enter Tryz.func20,Tryz.ntmps20
 go_wp2_with fail;refine bodyPost_ret (v:=.agg #[.slice (some ⟨w.heap.size + 1,0,none⟩) 3 3,.slice (some ⟨w.heap.size + 1 + 1,0,none⟩) 5 5]) ?_ rfl ?_
 ·simp [results,Tryz.results20,go_sem]
 ·refine ⟨_,_,rfl,?_,?_,?_⟩
  ·have h : Blk (((w.alloc (.cells #[.slice (some ⟨w.heap.size + 1,0,none⟩) 3 3,.slice (some ⟨w.heap.size + 1 + 1,0,none⟩) 5 5] 27)).alloc (.cells #[.int .i64 3,.int .i64 0,.int .i64 4] 3)).alloc (.cells #[.int .i64 8,.int .i64 (-1),.int .i64 (-1),.int .i64 0,.int .i64 20] 3)) (w.heap.size + 1) 3 [.int .i64 3,.int .i64 0,.int .i64 4]:=(Blk.newE (by simp)).alloc _
   exact h.cells
  ·exact Blk.cells (Blk.newE (t:=3) (cs:=[.int .i64 8,.int .i64 (-1),.int .i64 (-1),.int .i64 0,.int .i64 20]) (by simp))
  ·exact (((Below.refl _ _).alloc (Nat.le_refl _) _).alloc (by simp) _).alloc (by simp; omega) _
end Go.Proofs.YtibpmogmeoappabGreat
