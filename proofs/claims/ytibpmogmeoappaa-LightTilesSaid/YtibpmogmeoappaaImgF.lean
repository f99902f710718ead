/- Walks: the references that draw an image: MakeOf, OneOf. -/
import Derived.Test.YtibpmogmeoappaaGrid
import Derived.Test.YtibpmogmeoappaaImgC
namespace Go.Proofs.Ytibpmogmeoappaa
open Go.RowKit

set_option maxRecDepth 100000 in
set_option maxHeartbeats 1000000 in
theorem makeOf_any (op cw ch k : Int) (w : World) (hop : op = 1 ∨ op = 2) (r1 : 1 ≤ cw) (r2 : cw ≤ 16) (r3 : 1 ≤ ch) (r4 : ch ≤ 16) (r5 : 0 ≤ k) (r6 : k ≤ 65535) :
    Calls Try.prog 15 #[.int .i64 op, .int .i64 cw, .int .i64 ch, .int .i64 k] w (RetImg w (drawn cw ch (makePix op k))) := by
  obtain ⟨i0, hi0, hz0, hz1, hz2⟩ := info_parts Try.info3
  have HOP := hide hop
  clear hop
  go_enter Try.func15, Try.ntmps15
  go_wp2_with fail
  go_loopw [10] (fun j wr => ∃ (y : Int) (A : Option Addr) (n c : Nat), 0 ≤ y ∧ y ≤ ch ∧ j = .int .i64 y ∧ GridRel w cw ch (makePix op k) (w.heap.size + 1) (w.heap.size + 2) [(w.heap.size, 24, [.int .i64 0, .int .i64 0, .slice none 0 0])] y 0 A n c wr)
    (fun j _ => (ch - intOf j).toNat)
  case atStart =>
    refine ⟨0, none, 0, 0, by omega, by omega, rfl, GridRel.start ?_ (by omega) (by omega) (by simp) ?_ ?_⟩
    · have := Blk.new (w.alloc (.cells #[.int .i64 0, .int .i64 0, .slice none 0 0] 24)) 24 [.int .i64 cw, .int .i64 ch, .slice none 0 0]
      simp only [World.size_alloc] at this
      exact this
    · intro b hb
      simp only [List.mem_singleton] at hb
      subst hb
      exact ⟨(Blk.new w 24 _).alloc _, by simp, by simp⟩
    · exact ((Below.refl _ _).alloc (Nat.le_refl _) _).alloc (by simp) _
  case round =>
    obtain ⟨y, A, n, c, hy0, hy1, rfl, hG⟩ := hrel
    have HG := hide hG
    clear hG
    by_cases hlt : y < ch
    · go_wp2_with fail
      obtain ⟨wo, rfl⟩ : ∃ wo : World, wo = wr := ⟨_, rfl⟩
      go_loopw [11] (fun i wr => ∃ (x : Int) (A : Option Addr) (n c : Nat), 0 ≤ x ∧ x ≤ cw ∧ i = .int .i64 x ∧ GridRel w cw ch (makePix op k) (w.heap.size + 1) (w.heap.size + 2) [(w.heap.size, 24, [.int .i64 0, .int .i64 0, .slice none 0 0])] y x A n c wr)
        (fun i _ => (cw - intOf i).toNat)
      case atStart => exact ⟨0, A, n, c, by omega, by omega, rfl, HG.out⟩
      case round =>
        obtain ⟨x, A, n, c, hx0, hx1, rfl, hG⟩ := hrel
        clear HG
        have HG := hide hG
        have hle := gridPart_le (W := cw) (makePix op k) (y := y) (x := x) (by omega) (by omega) (by omega)
        have hn : n ≤ 1073741824 := by rw [hG.len]; omega
        have hs := hG.size
        obtain ⟨q0, q1, q2, q3, q4⟩ := hG.cells
        clear hG hle
        by_cases hli : x < cw
        · have hb0 := Int.mul_nonneg hx0 r5
          have hb1 : x * k ≤ 16 * 65535 := Int.mul_le_mul (by omega) r6 r5 (by omega)
          rcases HOP.out with h | h
          · have hf : (op == 2) = false := by subst h; rfl
            have hpix : makePix op k x y = k := by subst h; rfl
            have HP := hide hpix
            clear h hpix
            go_wp2_with (at_builtin; refine wpList_app1 wr rfl _ _ 22 rfl (w.heap.size + 2) 3 i0 _ 1 8 Try.underlying22 hi0 hz0 hz1 hz2 rfl (by omega) A n c _ [.int .i64 k] rfl HG.out.own rfl rfl (one_int _) hn (by omega) hs ?_; intro A1 c1 w1 hown1 hg1; obtain ⟨p0, p1, p2⟩ := HG.out.midCells hg1)
            go_roundw
            case rel => exact ⟨x + 1, A1, n + 1, c1, by omega, by omega, by go_num, HG.out.step hx0 hg1 (by rw [HP.out]; exact hown1)⟩
            case measure => simp [intOf]; omega
          · have hf : (op == 2) = true := by subst h; rfl
            have hpix : makePix op k x y = (x * k + y) % 65536 := by subst h; rfl
            have HP := hide hpix
            clear h hpix
            go_wp2_with (at_builtin; refine wpList_app1 wr rfl _ _ 22 rfl (w.heap.size + 2) 3 i0 _ 1 8 Try.underlying22 hi0 hz0 hz1 hz2 rfl (by omega) A n c _ [.int .i64 ((x * k + y) % 65536)] rfl HG.out.own rfl rfl (one_int _) hn (by omega) hs ?_; intro A1 c1 w1 hown1 hg1; obtain ⟨p0, p1, p2⟩ := HG.out.midCells hg1)
            go_roundw
            case rel => exact ⟨x + 1, A1, n + 1, c1, by omega, by omega, by go_num, HG.out.step hx0 hg1 (by rw [HP.out]; exact hown1)⟩
            case measure => simp [intOf]; omega
        · go_wp2_with fail
          go_roundw
          case rel => exact ⟨y + 1, A, n, c, by omega, by omega, by go_num, HG.out.row hy0 (by omega)⟩
          case measure => simp [intOf]; omega
    · obtain rfl : y = ch := by omega
      obtain ⟨q0, q1, q2, q3, q4⟩ := HG.out.cells
      have hR := (HG.out.others _ (List.mem_singleton.2 rfl)).1
      have r0 : wr.cell? ⟨w.heap.size, 0, none⟩ = some (.int .i64 0) := by rw [hR.cell]; rfl
      have r1' : wr.cell? ⟨w.heap.size, 1, none⟩ = some (.int .i64 0) := by rw [hR.cell]; rfl
      have r2' : wr.cell? ⟨w.heap.size, 2, none⟩ = some (.slice none 0 0) := by rw [hR.cell]; rfl
      have f0 := hR.frozen 0
      have f1 := hR.frozen 1
      have f2 := hR.frozen 2
      simp only at f0 f1 f2
      clear hR
      go_wp2_with fail
      refine bodyPost_ret (v := .agg #[.int .i64 cw, .int .i64 y, .slice A n c]) (by simp [results, Try.results15, go_sem, r0, r1', r2']) rfl ?_
      exact HG.out.done (List.mem_singleton.2 rfl) (Nat.le_refl _)
end Go.Proofs.Ytibpmogmeoappaa
