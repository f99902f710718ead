/- Walks over lights: light.Near. -/
import Derived.Test.YtibpmogmeoappaaLitD
namespace Go.Proofs.Ytibpmogmeoappaa
open Go.RowKit

def NearIn (x y cw ch : Int) : Prop := Inside x y ∧ (1 ≤ cw ∧ cw ≤ 16 - x) ∧ (1 ≤ ch ∧ ch ≤ 16 - y)
instance (x y cw ch : Int) : Decidable (NearIn x y cw ch) := by unfold NearIn; exact inferInstance
def lampNearErr (ls : List Lamp) (x y cw ch : Int) : Int := if lampsErr ls = 0 then (if NearIn x y cw ch then 0 else 3) else lampsErr ls
def lampNearAns (ls : List Lamp) (x y cw ch : Int) : List Int := if lampNearErr ls x y cw ch = 0 then nearList ls x y cw ch else []
def RetIntsErr (w : World) (L : List Int) (z : Int) (e : Ending) (w' : World) : Prop := ∃ (A : Option Addr) (n c : Nat), e = .returned (.tuple #[.slice A n c, .int .i64 z]) ∧ L.length = n ∧ Ints w' A L ∧ Mine w' w.heap.size A ∧ Below w.heap.size w w'

set_option maxRecDepth 100000 in
set_option maxHeartbeats 1000000 in
theorem lampNear_any (A : Option Addr) (n c : Nat) (ls : List Lamp) (x y cw ch : Int) (w : World) (hn : ls.length = n) (hL : Lamps w A ls) (hl : n ≤ 9223372036854775807) :
    Calls Try.prog 28 #[.slice A n c, .int .i64 x, .int .i64 y, .int .i64 cw, .int .i64 ch] w (RetIntsErr w (lampNearAns ls x y cw ch) (lampNearErr ls x y cw ch)) := by
  have HCH := hide (checkLights_any A n c ls w hn hL hl)
  have HN := hide hn
  have HL := hide hL
  clear hn hL
  by_cases hE : lampsErr ls = 0
  · by_cases hi : NearIn x y cw ch
    · have r1 : lampNearErr ls x y cw ch = 0 := by unfold lampNearErr; rw [if_pos hE, if_pos hi]
      have r2 : lampNearAns ls x y cw ch = nearList ls x y cw ch := if_pos r1
      rw [r1, r2]
      obtain ⟨⟨hx, hy⟩, hw, hh⟩ := hi
      have HE := hide hE
      clear r1 r2 hE
      go_enter Try.func28, Try.ntmps28
      go_wp2_with fail
      refine Calls.mono (unhide HCH) ?_
      rintro e w0 ⟨rfl, hE0⟩
      rw [HE.out]
      have HB0 := hide hE0
      clear hE0
      go_wp2_with fail
      refine Calls.mono (side_any x _) ?_
      rintro e w9 ⟨rfl, he9⟩
      subst he9
      rw [decide_eq_true hx]
      go_wp2_with fail
      refine Calls.mono (side_any y _) ?_
      rintro e w9 ⟨rfl, he9⟩
      subst he9
      rw [decide_eq_true hy]
      go_wp2_with fail
      all_goals try (exfalso; omega)
      refine Calls.mono (near_any A n c ls x y cw ch _ HN.out (HL.out.keep HB0.out) HE.out (by omega) (by omega) (by omega) (by omega)) ?_
      rintro e w1 ⟨A1, n1, c1, rfl, h1, h2, h3, h4⟩
      have H1 := hide h1
      clear h1
      go_wp2_with fail
      refine bodyPost_ret (v := .tuple #[.slice A1 n1 c1, .int .i64 0]) (by simp [results, Try.results28, go_sem]) rfl ?_
      exact ⟨A1, n1, c1, rfl, H1.out, h2, h3.mono HB0.out.size, HB0.out.trans (h4.mono HB0.out.size)⟩
    · have r1 : lampNearErr ls x y cw ch = 3 := by unfold lampNearErr; rw [if_pos hE, if_neg hi]
      have r2 : lampNearAns ls x y cw ch = [] := if_neg (by omega)
      rw [r1, r2]
      have HE := hide hE
      have HI := hide hi
      clear r1 r2 hE hi
      go_enter Try.func28, Try.ntmps28
      go_wp2_with fail
      refine Calls.mono (unhide HCH) ?_
      rintro e w0 ⟨rfl, hE0⟩
      rw [HE.out]
      have HB0 := hide hE0
      clear hE0
      have HR := hide (show RetIntsErr w [] 3 (.returned (.tuple #[.slice none 0 0, .int .i64 3])) w0 from ⟨none, 0, 0, rfl, rfl, Ints.nil _ _, Mine.none_ _ _, HB0.out⟩)
      go_wp2_with fail
      refine Calls.mono (side_any x _) ?_
      rintro e w9 ⟨rfl, he9⟩
      subst he9
      by_cases hx : 0 ≤ x ∧ x ≤ 15
      · rw [decide_eq_true hx]
        go_wp2_with fail
        refine Calls.mono (side_any y _) ?_
        rintro e w9 ⟨rfl, he9⟩
        subst he9
        by_cases hy : 0 ≤ y ∧ y ≤ 15
        · rw [decide_eq_true hy]
          go_wp2_with fail
          all_goals first
            | (exfalso; exact HI.out ⟨⟨hx, hy⟩, ⟨by omega, by omega⟩, ⟨by omega, by omega⟩⟩)
            | (refine bodyPost_ret (v := .tuple #[.slice none 0 0, .int .i64 3]) (by simp [results, Try.results28, go_sem]) rfl ?_; exact HR.out)
        · rw [decide_eq_false hy]
          go_wp2_with fail
          refine bodyPost_ret (v := .tuple #[.slice none 0 0, .int .i64 3]) (by simp [results, Try.results28, go_sem]) rfl ?_
          exact HR.out
      · rw [decide_eq_false hx]
        go_wp2_with fail
        refine bodyPost_ret (v := .tuple #[.slice none 0 0, .int .i64 3]) (by simp [results, Try.results28, go_sem]) rfl ?_
        exact HR.out
  · have r1 : lampNearErr ls x y cw ch = lampsErr ls := if_neg hE
    have r2 : lampNearAns ls x y cw ch = [] := if_neg (by rw [r1]; exact hE)
    rw [r1, r2]
    generalize lampsErr ls = z at *
    have hz : (z != 0) = true := by simpa using hE
    clear r1 r2 hE
    go_enter Try.func28, Try.ntmps28
    go_wp2_with fail
    refine Calls.mono (unhide HCH) ?_
    rintro e w0 ⟨rfl, hE0⟩
    have HR := hide (show RetIntsErr w [] z (.returned (.tuple #[.slice none 0 0, .int .i64 z])) w0 from ⟨none, 0, 0, rfl, rfl, Ints.nil _ _, Mine.none_ _ _, hE0⟩)
    clear hE0
    go_wp2_with fail
    refine bodyPost_ret (v := .tuple #[.slice none 0 0, .int .i64 z]) (by simp [results, Try.results28, go_sem]) rfl ?_
    exact HR.out
end Go.Proofs.Ytibpmogmeoappaa
