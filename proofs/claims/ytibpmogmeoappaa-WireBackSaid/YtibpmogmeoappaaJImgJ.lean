/- Walks: the rules of two numbers, Two, and their reference. -/
import Derived.Test.YtibpmogmeoappaaJImgA
import Derived.Test.YtibpmogmeoappaaJMem
import Derived.Laws.EntriesVeiled
set_option maxHeartbeats 400000
namespace Go.Proofs.Ytibpmogmeoappaa
open Go.RowKit
def ruleMap : List (Int × Value):=[(4,.func (.func 91) #[] #[]),(5,.func (.func 92) #[] #[]),(6,.func (.func 93) #[] #[]),(7,.func (.func 94) #[] #[])]
end Go.Proofs.Ytibpmogmeoappaa
namespace Go.Proofs.Ytibpmogmeoappaa
open Go.RowKit
theorem isTwo_any (op : Int) (w : World) : Calls Try.prog 24 #[.int .i64 op] w fun e w'=>e = .returned (.bool (decide (4 ≤ op ∧ op ≤ 7))) ∧ w = w':=by
 by_cases h : 4 ≤ op
 ·go_enter Try.func24,Try.ntmps24
  go_wp2
  go_ret;exact ⟨ret_bool (by simp [h]),rfl⟩
 ·go_enter Try.func24,Try.ntmps24
  go_wp2
  go_ret;exact ⟨ret_bool (by simp; omega),rfl⟩
def pairList (op : Int) (P Q : List Int) (k : Nat) : List Int:=(List.range k).map fun i=>twoNum op (P.getD i 0) (Q.getD i 0)
end Go.Proofs.Ytibpmogmeoappaa
