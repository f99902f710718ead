/- Walks: TwoOf. -/
import Derived.Test.YtibpmogmeoappaaImgK
namespace Go.Proofs.Ytibpmogmeoappaa
open Go.RowKit

theorem twoOf_start (w : World) (W H : Int) (A : Option Addr) (n c : Nat) (W' H' : Int) (B : Option Addr) (m d : Nat) :
    (∀ b ∈ [(w.heap.size, 24, [Value.int .i64 W, .int .i64 H, .slice A n c]), (w.heap.size + 1, 24, [Value.int .i64 W', .int .i64 H', .slice B m d]), (w.heap.size + 2, 24, [Value.int .i64 0, .int .i64 0, .slice none 0 0])],
      Blk ((((w.alloc (.cells #[.int .i64 W, .int .i64 H, .slice A n c] 24)).alloc (.cells #[.int .i64 W', .int .i64 H', .slice B m d] 24)).alloc (.cells #[.int .i64 0, .int .i64 0, .slice none 0 0] 24)).alloc (.cells #[.int .i64 W, .int .i64 H, .slice none 0 0] 24)) b.1 b.2.1 b.2.2 ∧ b.1 < w.heap.size + 4 ∧ b.1 ≠ w.heap.size + 3) ∧
    Blk ((((w.alloc (.cells #[.int .i64 W, .int .i64 H, .slice A n c] 24)).alloc (.cells #[.int .i64 W', .int .i64 H', .slice B m d] 24)).alloc (.cells #[.int .i64 0, .int .i64 0, .slice none 0 0] 24)).alloc (.cells #[.int .i64 W, .int .i64 H, .slice none 0 0] 24)) (w.heap.size + 3) 24 [.int .i64 W, .int .i64 H, .slice none 0 0] ∧
    Below w.heap.size w ((((w.alloc (.cells #[.int .i64 W, .int .i64 H, .slice A n c] 24)).alloc (.cells #[.int .i64 W', .int .i64 H', .slice B m d] 24)).alloc (.cells #[.int .i64 0, .int .i64 0, .slice none 0 0] 24)).alloc (.cells #[.int .i64 W, .int .i64 H, .slice none 0 0] 24)) := by
  have b0 := Blk.new w 24 [Value.int .i64 W, .int .i64 H, .slice A n c]
  have b1 := Blk.new (w.alloc (.cells #[.int .i64 W, .int .i64 H, .slice A n c] 24)) 24 [Value.int .i64 W', .int .i64 H', .slice B m d]
  have b2 := Blk.new ((w.alloc (.cells #[.int .i64 W, .int .i64 H, .slice A n c] 24)).alloc (.cells #[.int .i64 W', .int .i64 H', .slice B m d] 24)) 24 [Value.int .i64 0, .int .i64 0, .slice none 0 0]
  have b3 := Blk.new (((w.alloc (.cells #[.int .i64 W, .int .i64 H, .slice A n c] 24)).alloc (.cells #[.int .i64 W', .int .i64 H', .slice B m d] 24)).alloc (.cells #[.int .i64 0, .int .i64 0, .slice none 0 0] 24)) 24 [Value.int .i64 W, .int .i64 H, .slice none 0 0]
  simp only [World.size_alloc] at b1 b2 b3
  refine ⟨?_, b3, ?_⟩
  · intro b hb
    simp only [List.mem_cons, List.not_mem_nil, or_false] at hb
    rcases hb with rfl | rfl | rfl
    · exact ⟨((b0.alloc _).alloc _).alloc _, by simp, by simp⟩
    · exact ⟨(b1.alloc _).alloc _, by simp, by simp⟩
    · exact ⟨b2.alloc _, by simp, by simp⟩
  · exact ((((Below.refl _ _).alloc (Nat.le_refl _) _).alloc (by simp) _).alloc (by simp; omega) _).alloc (by simp; omega) _

set_option maxRecDepth 100000 in
set_option maxHeartbeats 1600000 in
theorem twoOf_any (op : Int) (W H : Int) (A : Option Addr) (n c : Nat) (P : List Int) (W' H' : Int) (B : Option Addr) (m d : Nat) (Q : List Int) (w : World) (hop : 4 ≤ op ∧ op ≤ 7)
    (hF : Img.Fine ⟨W, H, P⟩) (hn : P.length = n) (hI : Ints w A P) (hF' : Img.Fine ⟨W', H', Q⟩) (hm : Q.length = m) (hI' : Ints w B Q) (hW : W = W') (hH : H = H') :
    Calls Try.prog 25 #[.int .i64 op, .agg #[.int .i64 W, .int .i64 H, .slice A n c], .agg #[.int .i64 W', .int .i64 H', .slice B m d]] w (RetImg w (twoImg op ⟨W, H, P⟩ ⟨W', H', Q⟩)) := by
  obtain ⟨i0, hi0, hz0, hz1, hz2⟩ := info_parts Try.info3
  have hnm : n = m := by
    have h1 := hF.2.2.1
    have h2 := hF'.2.2.1
    simp only at h1 h2
    rw [hW, hH] at h1
    omega
  have hn256 : n ≤ 256 := by
    have h1 := hF.2.2.1
    have h2 := mul_bd hF.1.1 hF.1.2 hF.2.1.1 hF.2.1.2
    simp only at h1 h2
    omega
  have HF := hide hF
  have HF2 := hide hF'
  have HN := hide hn
  have HM := hide hm
  have HI := hide hI
  have HI' := hide hI'
  have HOP := hide hop
  subst hnm
  clear hF hF' hn hm hI hI' hop hW hH
  go_enter Try.func25, Try.ntmps25
  go_wp2_with fail
  go_loopw [8] (fun i wr => ∃ (k : Nat) (A' : Option Addr) (c' : Nat), k ≤ n ∧ i = .int .i64 k ∧ LineRel w W H (w.heap.size + 3) (w.heap.size + 4) [(w.heap.size, 24, [.int .i64 W, .int .i64 H, .slice A n c]), (w.heap.size + 1, 24, [.int .i64 W', .int .i64 H', .slice B n d]), (w.heap.size + 2, 24, [.int .i64 0, .int .i64 0, .slice none 0 0])] (pairList op P Q k) A' k c' wr)
    (fun i _ => n - (intOf i).toNat)
  case atStart =>
    have HB := twoOf_start w W H A n c W' H' B n d
    exact ⟨0, none, 0, by omega, rfl, LineRel.start HB.2.1 (by omega) (by omega) (by simp) HB.1 HB.2.2⟩
  case round =>
    obtain ⟨k, A', c', hk, rfl, hG⟩ := hrel
    have HG := hide hG
    have hs := hG.size
    have hk30 : k ≤ 1073741824 := by omega
    obtain ⟨t0, t1, t2, t3, t4⟩ := hG.cells
    have hba := hG.others (w.heap.size, 24, [.int .i64 W, .int .i64 H, .slice A n c]) (by simp)
    have hbb := hG.others (w.heap.size + 1, 24, [.int .i64 W', .int .i64 H', .slice B n d]) (by simp)
    have q2 : wr.cell? ⟨w.heap.size, 2, none⟩ = some (.slice A n c) := by rw [hba.1.cell]; rfl
    have q3 : wr.cell? ⟨w.heap.size + 1, 2, none⟩ = some (.slice B n d) := by rw [hbb.1.cell]; rfl
    clear hG hba hbb
    by_cases hlt : k < n
    · obtain ⟨b, o, x, hA, hb, hx, hc⟩ := (HI.out.keep HG.out.below).at_ k (by have := HN.out; omega)
      obtain ⟨b2, o2, y, hB, hb2, hy, hc2⟩ := (HI'.out.keep HG.out.below).at_ k (by have := HM.out; omega)
      have hvx := HF.out.2.2.2 x (List.mem_of_getElem? hx)
      have hvy := HF2.out.2.2.2 y (List.mem_of_getElem? hy)
      have HST := hide (pairList_succ op P Q k hx hy)
      have hk0 : (0 : Int) ≤ (k : Int) := by omega
      have hk1 : (k : Int) < (n : Int) := by omega
      obtain ⟨x0, x1⟩ := hvx
      obtain ⟨y0, y1⟩ := hvy
      have hm0 := Int.mul_nonneg x0 y0
      have hm1 : x * y ≤ 65535 * 65535 := Int.mul_le_mul x1 y1 y0 (by omega)
      have hd1 : x * y / 65535 ≤ x * y := Int.ediv_le_self _ hm0
      have hd0 : 0 ≤ x * y / 65535 := Int.ediv_nonneg hm0 (by omega)
      have e1 : IntKind.i64.wrap (x + y) = x + y := IntWalk.i64_in _ (by omega)
      have e2 : IntKind.i64.wrap (x - y) = x - y := IntWalk.i64_in _ (by omega)
      have e3 : IntKind.i64.wrap (x * y) = x * y := IntWalk.i64_in _ (by omega)
      have e4 : (x * y).tdiv 65535 = x * y / 65535 := Int.tdiv_eq_ediv_of_nonneg hm0
      have e5 : IntKind.i64.wrap (x * y / 65535) = x * y / 65535 := IntWalk.i64_in _ (by omega)
      subst hA hB
      clear hx hy
      have hopc := HOP.out
      obtain h | h | h | h : op = 4 ∨ op = 5 ∨ op = 6 ∨ op = 7 := by omega
      · subst h
        have hmin : (if x + y < 65535 then x + y else 65535) = min 65535 (x + y) := by omega
        go_wp2_with fail
        go_quiet (fail)
        have HG1 := hide (HG.out.keep (below_drewN (Below.refl _ _) nq))
        have hs1 : w.heap.size + 4 ≤ (wr.drewN nq).heap.size := hs
        go_wp2_with (at_builtin; refine wpList_app1 (wr.drewN nq) rfl _ _ 22 rfl (w.heap.size + 4) 3 i0 _ 1 8 Try.underlying22 hi0 hz0 hz1 hz2 rfl (by omega) A' k c' _ [.int .i64 (min 65535 (x + y))] rfl HG1.out.own rfl rfl (one_int _) hk30 (by omega) hs1 ?_; intro A1 c1 w1 hown1 hg1; obtain ⟨p0, p1, p2⟩ := HG1.out.midCells hg1)
        go_roundw
        case rel => exact ⟨k + 1, A1, c1, by omega, by go_num, by rw [HST.out]; exact HG1.out.step hg1 hown1⟩
        case measure => simp [intOf]; omega
      · subst h
        have hmin : (if y < x then x - y else 0) = max 0 (x - y) := by omega
        go_wp2_with fail
        go_quiet (fail)
        have HG1 := hide (HG.out.keep (below_drewN (Below.refl _ _) nq))
        have hs1 : w.heap.size + 4 ≤ (wr.drewN nq).heap.size := hs
        go_wp2_with (at_builtin; refine wpList_app1 (wr.drewN nq) rfl _ _ 22 rfl (w.heap.size + 4) 3 i0 _ 1 8 Try.underlying22 hi0 hz0 hz1 hz2 rfl (by omega) A' k c' _ [.int .i64 (max 0 (x - y))] rfl HG1.out.own rfl rfl (one_int _) hk30 (by omega) hs1 ?_; intro A1 c1 w1 hown1 hg1; obtain ⟨p0, p1, p2⟩ := HG1.out.midCells hg1)
        go_roundw
        case rel => exact ⟨k + 1, A1, c1, by omega, by go_num, by rw [HST.out]; exact HG1.out.step hg1 hown1⟩
        case measure => simp [intOf]; omega
      · subst h
        go_wp2_with fail
        go_quiet (fail)
        have HG1 := hide (HG.out.keep (below_drewN (Below.refl _ _) nq))
        have hs1 : w.heap.size + 4 ≤ (wr.drewN nq).heap.size := hs
        go_wp2_with (at_builtin; refine wpList_app1 (wr.drewN nq) rfl _ _ 22 rfl (w.heap.size + 4) 3 i0 _ 1 8 Try.underlying22 hi0 hz0 hz1 hz2 rfl (by omega) A' k c' _ [.int .i64 (x * y / 65535)] rfl HG1.out.own rfl rfl (one_int _) hk30 (by omega) hs1 ?_; intro A1 c1 w1 hown1 hg1; obtain ⟨p0, p1, p2⟩ := HG1.out.midCells hg1)
        go_roundw
        case rel => exact ⟨k + 1, A1, c1, by omega, by go_num, by rw [HST.out]; exact HG1.out.step hg1 hown1⟩
        case measure => simp [intOf]; omega
      · subst h
        have hmin : (if x < y then y else x) = max x y := by omega
        go_wp2_with fail
        go_quiet (fail)
        have HG1 := hide (HG.out.keep (below_drewN (Below.refl _ _) nq))
        have hs1 : w.heap.size + 4 ≤ (wr.drewN nq).heap.size := hs
        go_wp2_with (at_builtin; refine wpList_app1 (wr.drewN nq) rfl _ _ 22 rfl (w.heap.size + 4) 3 i0 _ 1 8 Try.underlying22 hi0 hz0 hz1 hz2 rfl (by omega) A' k c' _ [.int .i64 (max x y)] rfl HG1.out.own rfl rfl (one_int _) hk30 (by omega) hs1 ?_; intro A1 c1 w1 hown1 hg1; obtain ⟨p0, p1, p2⟩ := HG1.out.midCells hg1)
        go_roundw
        case rel => exact ⟨k + 1, A1, c1, by omega, by go_num, by rw [HST.out]; exact HG1.out.step hg1 hown1⟩
        case measure => simp [intOf]; omega
    · have hkn : k = n := by omega
      have hR := (HG.out.others (w.heap.size + 2, 24, [.int .i64 0, .int .i64 0, .slice none 0 0]) (by simp)).1
      have r0 : wr.cell? ⟨w.heap.size + 1 + 1, 0, none⟩ = some (.int .i64 0) := by rw [hR.cell]; rfl
      have r1' : wr.cell? ⟨w.heap.size + 1 + 1, 1, none⟩ = some (.int .i64 0) := by rw [hR.cell]; rfl
      have r2' : wr.cell? ⟨w.heap.size + 1 + 1, 2, none⟩ = some (.slice none 0 0) := by rw [hR.cell]; rfl
      have f0 : wr.frozen? ⟨w.heap.size + 1 + 1, 0, none⟩ = false := hR.frozen 0
      have f1 : wr.frozen? ⟨w.heap.size + 1 + 1, 1, none⟩ = false := hR.frozen 1
      have f2 : wr.frozen? ⟨w.heap.size + 1 + 1, 2, none⟩ = false := hR.frozen 2
      have HKN := hide hkn
      clear hR hkn
      go_wp2_with fail
      refine bodyPost_ret (v := .agg #[.int .i64 W, .int .i64 H, .slice A' k c']) (by simp [results, Try.results25, go_sem, r0, r1', r2']) rfl ?_
      have e : twoImg op ⟨W, H, P⟩ ⟨W', H', Q⟩ = ⟨W, H, pairList op P Q k⟩ := by
        unfold twoImg pairList; simp only; rw [HN.out, HKN.out]
      rw [e]
      exact HG.out.done (gres := w.heap.size + 2) (u := [.int .i64 0, .int .i64 0, .slice none 0 0]) (by simp) (by omega)
end Go.Proofs.Ytibpmogmeoappaa
