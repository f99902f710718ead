/- Walks: the references of One: OneSize, OneOf. (The six cases are printed by gen_oneof.py.) -/
import Derived.Test.YtibpmogmeoappaaJImgA
set_option maxHeartbeats 400000
namespace Go.Proofs.Ytibpmogmeoappaa
open Go.RowKit
theorem oneSize_ref (op cw ch : Int) (w : World) (hw1 : 0 ≤ cw) (hw2 : cw ≤ 16) (hh1 : 0 ≤ ch) (hh2 : ch ≤ 16) :
 Calls Try.prog 64 #[.int .i64 op,.int .i64 cw,.int .i64 ch] w fun e w'=>e = .returned (.tuple #[.int .i64 (sizeW op cw),.int .i64 (sizeW op ch)]) ∧ w = w':=by
 by_cases h1 : op = 11
 ·subst h1
  go_enter Try.func64,Try.ntmps64
  go_wp2
  go_ret2;exact ⟨rfl,rfl⟩
 ·by_cases h2 : op = 12
  ·subst h2
   go_enter Try.func64,Try.ntmps64
   go_wp2
   go_ret2;exact ⟨rfl,rfl⟩
  ·have e1 : (op == 11) = false:=by simpa using h1
   have e2 : (op == 12) = false:=by simpa using h2
   have e3 : sizeW op cw = cw:=by unfold sizeW; rw [if_neg h1,if_neg h2]
   have e4 : sizeW op ch = ch:=by unfold sizeW; rw [if_neg h1,if_neg h2]
   rw [e3,e4];clear e3 e4;go_enter Try.func64,Try.ntmps64
   go_wp2
   go_ret2;exact ⟨rfl,rfl⟩
theorem oneOf_start (w : World) (W H SW SH : Int) (A : Option Addr) (n c : Nat) :
 (∀ b ∈ [(w.heap.size, 24, [Value.int .i64 W, .int .i64 H, .slice A n c]), (w.heap.size + 1, 24, [Value.int .i64 0, .int .i64 0, .slice none 0 0])],
   Blk (((w.alloc (.cells #[.int .i64 W,.int .i64 H,.slice A n c] 24)).alloc (.cells #[.int .i64 0,.int .i64 0,.slice none 0 0] 24)).alloc (.cells #[.int .i64 SW,.int .i64 SH,.slice none 0 0] 24)) b.1 b.2.1 b.2.2 ∧ b.1 < w.heap.size + 3 ∧ b.1 ≠ w.heap.size + 2) ∧
 Blk (((w.alloc (.cells #[.int .i64 W,.int .i64 H,.slice A n c] 24)).alloc (.cells #[.int .i64 0,.int .i64 0,.slice none 0 0] 24)).alloc (.cells #[.int .i64 SW,.int .i64 SH,.slice none 0 0] 24)) (w.heap.size + 2) 24 [.int .i64 SW,.int .i64 SH,.slice none 0 0] ∧
 Below w.heap.size w (((w.alloc (.cells #[.int .i64 W,.int .i64 H,.slice A n c] 24)).alloc (.cells #[.int .i64 0,.int .i64 0,.slice none 0 0] 24)).alloc (.cells #[.int .i64 SW,.int .i64 SH,.slice none 0 0] 24)):=by
 have b0:=Blk.new w 24 [Value.int .i64 W,.int .i64 H,.slice A n c];have b1:=Blk.new (w.alloc (.cells #[.int .i64 W,.int .i64 H,.slice A n c] 24)) 24 [Value.int .i64 0,.int .i64 0,.slice none 0 0];have b2:=Blk.new ((w.alloc (.cells #[.int .i64 W,.int .i64 H,.slice A n c] 24)).alloc (.cells #[.int .i64 0,.int .i64 0,.slice none 0 0] 24)) 24 [Value.int .i64 SW,.int .i64 SH,.slice none 0 0];simp only [World.size_alloc] at b1 b2;refine ⟨?_,b2,?_⟩
 ·intro b hb
  simp only [List.mem_cons,List.not_mem_nil,or_false] at hb;rcases hb with rfl | rfl
  ·exact ⟨(b0.alloc _).alloc _,by simp,by simp⟩
  ·exact ⟨b1.alloc _,by simp,by simp⟩
 ·exact ((((Below.refl _ _).alloc (Nat.le_refl _) _).alloc (by simp) _).alloc (by simp; omega) _)
end Go.Proofs.Ytibpmogmeoappaa
