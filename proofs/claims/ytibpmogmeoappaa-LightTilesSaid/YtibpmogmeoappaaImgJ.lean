/- Walks: the rules of two numbers, Two, and their reference. -/
import Derived.Test.YtibpmogmeoappaaImgE
import Derived.Test.YtibpmogmeoappaaMapI
import Derived.Laws.EntriesVeiled
namespace Go.Proofs.Ytibpmogmeoappaa
open Go.RowKit

def ruleMap : List (Int × Value) := [(4, .func (.func 91) #[] #[]), (5, .func (.func 92) #[] #[]), (6, .func (.func 93) #[] #[]), (7, .func (.func 94) #[] #[])]
theorem imap_new (w : World) : IMap (w.alloc (.map #[] 0)) w.heap.size [] := ⟨#[], 0, by show (w.heap.push _)[w.heap.size]? = _; simp, rfl⟩

set_option maxHeartbeats 400000 in
theorem rules_any (w : World) :
    Calls Try.prog 67 #[] w fun e w' => e = .returned (.map (some w.heap.size)) ∧ IMap w' w.heap.size ruleMap ∧ Below w.heap.size w w' := by
  have hmm := @run_makeMap Try.prog
  have m0 := imap_new w
  have u1 := run_mapUpdate_ints Try.underlying95 Try.underlying3 m0 4 (.func (.func 91) #[] #[]) rfl
  have m1 := m0.put 4 (.func (.func 91) #[] #[])
  have u2 := run_mapUpdate_ints Try.underlying95 Try.underlying3 m1 5 (.func (.func 92) #[] #[]) rfl
  have m2 := m1.put 5 (.func (.func 92) #[] #[])
  have u3 := run_mapUpdate_ints Try.underlying95 Try.underlying3 m2 6 (.func (.func 93) #[] #[]) rfl
  have m3 := m2.put 6 (.func (.func 93) #[] #[])
  have u4 := run_mapUpdate_ints Try.underlying95 Try.underlying3 m3 7 (.func (.func 94) #[] #[]) rfl
  have m4 := m3.put 7 (.func (.func 94) #[] #[])
  have hb0 : Below w.heap.size w (w.alloc (.map #[] 0)) := (Below.refl w.heap.size w).alloc (Nat.le_refl _) _
  have HB := hide (Below.mapPut (Below.mapPut (Below.mapPut (Below.mapPut hb0 (Nat.le_refl _) 4 (.func (.func 91) #[] #[])) (Nat.le_refl _) 5 (.func (.func 92) #[] #[])) (Nat.le_refl _) 6 (.func (.func 93) #[] #[])) (Nat.le_refl _) 7 (.func (.func 94) #[] #[]))
  clear hb0
  have M4 := hide m4
  clear m0 m1 m2 m3 m4
  go_enter Try.func67, Try.ntmps67
  go_wp2_with fail
  go_ret
  exact ⟨rfl, M4.out, HB.out⟩

theorem rule_of {op : Int} (h : 4 ≤ op ∧ op ≤ 7) : ∃ g : FuncId, lookI ruleMap op = some (.func (.func g) #[] #[]) ∧
    (∀ args w, (callFunc g args).run Try.prog w = .ok (.enter g args) w) ∧
    ∀ (x y : Int) (w : World), 0 ≤ x → x ≤ 65535 → 0 ≤ y → y ≤ 65535 → Calls Try.prog g #[.int .i64 x, .int .i64 y] w fun e w' => e = .returned (.int .i64 (twoNum op x y)) ∧ w = w' := by
  obtain h | h | h | h : op = 4 ∨ op = 5 ∨ op = 6 ∨ op = 7 := by omega
  · subst h
    refine ⟨_, rfl, enters_of Try.func91 (by kernel_rfl) rfl, ?_⟩
    intro x y w h1 h2 h3 h4
    have hm : (if 65535 < x + y then (65535 : Int) else x + y) = min 65535 (x + y) := by omega
    go_enter Try.func91, Try.ntmps91
    go_wp2_with fail
    go_ret
    exact ⟨ret_int rfl, rfl⟩
  · subst h
    refine ⟨_, rfl, enters_of Try.func92 (by kernel_rfl) rfl, ?_⟩
    intro x y w h1 h2 h3 h4
    have hm : (if x - y < 0 then (0 : Int) else x - y) = max 0 (x - y) := by omega
    go_enter Try.func92, Try.ntmps92
    go_wp2_with fail
    go_ret
    exact ⟨ret_int rfl, rfl⟩
  · subst h
    refine ⟨_, rfl, enters_of Try.func93 (by kernel_rfl) rfl, ?_⟩
    intro x y w h1 h2 h3 h4
    have hm0 := Int.mul_nonneg h1 h3
    have hm1 : x * y ≤ 65535 * 65535 := Int.mul_le_mul h2 h4 h3 (by omega)
    have hd1 : x * y / 65535 ≤ x * y := Int.ediv_le_self _ hm0
    go_enter Try.func93, Try.ntmps93
    go_wp2_with fail
    go_ret
    exact ⟨ret_int rfl, rfl⟩
  · subst h
    refine ⟨_, rfl, enters_of Try.func94 (by kernel_rfl) rfl, ?_⟩
    intro x y w h1 h2 h3 h4
    have hm : (if x < y then y else x) = max x y := by omega
    go_enter Try.func94, Try.ntmps94
    go_wp2_with fail
    go_ret
    exact ⟨ret_int rfl, rfl⟩
end Go.Proofs.Ytibpmogmeoappaa
