/- Lit: tiles, and the loop over them. -/
import Derived.Test.YtibpmogmeoappaaLitI
import Derived.Test.YtibpmogmeoappaaImgD
namespace Go.Proofs.Ytibpmogmeoappaa
open Go.RowKit

theorem tiles_any (W H : Int) (A : Option Addr) (n c : Nat) (sz : Int) (w : World) :
    Calls Try.prog 74 #[.agg #[.int .i64 W, .int .i64 H, .slice A n c], .int .i64 sz] w fun e w' => e = .returned (.func (.func 97) #[] #[.pointer (some ⟨w.heap.size, 0, none⟩), .pointer (some ⟨w.heap.size + 1, 0, none⟩)]) ∧
      (w.alloc (.cells #[.int .i64 W, .int .i64 H, .slice A n c] 24)).alloc (.cells #[.int .i64 sz] 3) = w' := by
  go_enter Try.func74, Try.ntmps74
  go_wp2_with fail
  go_ret
  exact ⟨rfl, rfl⟩

def RetTiles (H : Int) (J : Int → Int → World → Prop) (e : Ending) (w' : World) : Prop := e = .returned (.tuple #[]) ∧ ∃ y : Int, H ≤ y ∧ J y 0 w'

set_option maxRecDepth 100000 in
set_option maxHeartbeats 1000000 in
theorem tiles1_any (g : FuncId) (lb : Array Value) (ga gs : Nat) (W H sz : Int) (A : Option Addr) (n c : Nat) (J : Int → Int → World → Prop) (w : World)
    (eg : ∀ args w, (callFunc g args).run Try.prog w = .ok (.enter g args) w) (hW : 1 ≤ W ∧ W ≤ 16) (hH : 1 ≤ H ∧ H ≤ 16) (hs : 1 ≤ sz ∧ sz ≤ 16)
    (hB : ∀ y x W', J y x W' → ImgBox W' ga W H A n c ∧ VarBox W' gs 3 (.int .i64 sz))
    (hY : ∀ (y x cw ch : Int) (W' : World), 0 ≤ x → x < W → 0 ≤ y → y < H → cw = min sz (W - x) → ch = min sz (H - y) → J y x W' → Calls Try.prog g (#[.int .i64 x, .int .i64 y, .int .i64 cw, .int .i64 ch] ++ lb) W' fun e W'' => e = .returned (.bool true) ∧ J y (x + sz) W'')
    (hR : ∀ y x W', W ≤ x → J y x W' → J (y + sz) 0 W') (h0 : J 0 0 w) :
    Calls Try.prog 97 #[.func (.func g) #[] lb, .pointer (some ⟨ga, 0, none⟩), .pointer (some ⟨gs, 0, none⟩)] w (RetTiles H J) := by
  have HB := hide hB
  have HY := hide hY
  have HR := hide hR
  have H0 := hide h0
  clear hB hY hR h0
  go_enter Try.func97, Try.ntmps97
  go_wp2_with fail
  go_loopw [4] (fun yy wr => ∃ y : Int, 0 ≤ y ∧ y ≤ 32 ∧ yy = .int .i64 y ∧ J y 0 wr) (fun yy _ => (H - intOf yy).toNat)
  case atStart => exact ⟨0, by omega, by omega, rfl, H0.out⟩
  case round =>
    obtain ⟨y, hy1, hy2, rfl, hJ⟩ := hrel
    have HJ := hide hJ
    obtain ⟨b1, b2⟩ := HB.out _ _ _ hJ
    obtain ⟨q0, q1, q2, q3⟩ := b1.cells
    obtain ⟨q4, q5⟩ := b2.cell0
    clear hJ b1 b2
    by_cases hyl : y < H
    · go_wp2_with fail
      obtain ⟨wo, rfl⟩ : ∃ wo : World, wo = wr := ⟨_, rfl⟩
      go_loopw [5] (fun xx wr => ∃ x : Int, 0 ≤ x ∧ x ≤ 32 ∧ xx = .int .i64 x ∧ J y x wr) (fun xx _ => (W - intOf xx).toNat)
      case atStart => exact ⟨0, by omega, by omega, rfl, HJ.out⟩
      case round =>
        obtain ⟨x, hx1, hx2, rfl, hJ⟩ := hrel
        have HJ1 := hide hJ
        clear q0 q1 q2 q3 q4 q5
        obtain ⟨b1, b2⟩ := HB.out _ _ _ hJ
        obtain ⟨q0, q1, q2, q3⟩ := b1.cells
        obtain ⟨q4, q5⟩ := b2.cell0
        clear hJ b1 b2
        by_cases hxl : x < W
        · go_wp2_with fail
          all_goals
            refine Calls.mono ((unhide HY) y x _ _ _ hx1 hxl hy1 hyl (by omega) (by omega) HJ1.out) ?_
            rintro e w1 ⟨rfl, hJ2⟩
            have HJ2 := hide hJ2
            obtain ⟨b1, b2⟩ := HB.out _ _ _ hJ2
            clear q0 q1 q2 q3 q4 q5 hJ2
            obtain ⟨q0, q1, q2, q3⟩ := b1.cells
            obtain ⟨q4, q5⟩ := b2.cell0
            clear b1 b2
            go_wp2_with fail
            go_roundw
            case rel => exact ⟨x + sz, by omega, by omega, by go_num, HJ2.out⟩
            case measure => simp [intOf]; omega
        · go_wp2_with fail
          go_roundw
          case rel => exact ⟨y + sz, by omega, by omega, by go_num, HR.out _ _ _ (by omega) HJ1.out⟩
          case measure => simp [intOf]; omega
    · go_wp2_with fail
      go_end0
      exact ⟨rfl, y, by omega, HJ.out⟩
end Go.Proofs.Ytibpmogmeoappaa
