/- Walks: One, Make; what the references say of them. -/
import Derived.Test.YtibpmogmeoappaaImgD
namespace Go.Proofs.Ytibpmogmeoappaa
open Go.RowKit

theorem enters_Make1 : ∀ args w, (callFunc 52 args).run Try.prog w = .ok (.enter 52 args) w := enters_of Try.func52 (by kernel_rfl) rfl

/-! ## Make -/
set_option maxHeartbeats 400000 in
theorem make1_any (g gk : Nat) (op k x y : Int) (w : World) (ho : VarBox w g 3 (.int .i64 op)) (hk : VarBox w gk 3 (.int .i64 k)) (hop : op = 1 ∨ op = 2) (hk0 : 0 ≤ k) (hk1 : k ≤ 65535) (hx : 0 ≤ x) (hx' : x < 16) (hy : 0 ≤ y) (hy' : y < 16) :
    Calls Try.prog 52 #[.int .i64 x, .int .i64 y, .pointer (some ⟨g, 0, none⟩), .pointer (some ⟨gk, 0, none⟩)] w fun e w' => e = .returned (.int .i64 (makePix op k x y)) ∧ w = w' := by
  obtain ⟨l1, c1⟩ := ho.cell0
  obtain ⟨l2, c2⟩ := hk.cell0
  clear ho hk
  have hb0 := Int.mul_nonneg hx hk0
  have hb1 : x * k ≤ 16 * 65535 := Int.mul_le_mul (by omega) hk1 hk0 (by omega)
  have hand : bits .and .i64 (x * k + y) 65535 = (x * k + y) % 65536 := by
    obtain ⟨z, hz⟩ := Int.eq_ofNat_of_zero_le (show 0 ≤ x * k + y by omega)
    rw [hz]
    show IntKind.i64.wrap ((BitVec.ofInt 64 (z : Int) &&& BitVec.ofInt 64 (65535 : Int)).toNat : Int) = _
    have e1 : (BitVec.ofInt 64 (z : Int)).toNat = z := by
      rw [BitVec.ofInt_natCast, BitVec.toNat_ofNat]; exact Nat.mod_eq_of_lt (by omega)
    have e2 : (BitVec.ofInt 64 (65535 : Int)).toNat = 2 ^ 16 - 1 := by rfl
    rw [BitVec.toNat_and, e1, e2, Nat.and_two_pow_sub_one_eq_mod, IntKind.wrap_i64]
    omega
  rcases hop with rfl | rfl
  · go_enter Try.func52, Try.ntmps52
    go_wp2_with fail
    go_ret
    exact ⟨ret_int rfl, rfl⟩
  · go_enter Try.func52, Try.ntmps52
    go_wp2_with fail
    go_ret
    exact ⟨ret_int rfl, rfl⟩

/-- an image of nothing comes, with an error -/
theorem retNone {w w' : World} {x : Int} (hb : Below w.heap.size w w') : RetImgErr w Img.none x (.returned (.tuple #[.agg #[.int .i64 0, .int .i64 0, .slice none 0 0], .int .i64 x])) w' :=
  ⟨0, 0, [], none, 0, 0, rfl, rfl, rfl, Ints.nil _ _, Mine.none_ _ _, hb⟩
/-- the result's own block is written behind a call -/
theorem retBox {w w1 : World} {g B : Nat} {r : Img} {W H : Int} {P : List Int} {A : Option Addr} {n c : Nat} {x : Int} {u v z : Value} (hr : Img.mk W H P = r) (hn : P.length = n) (hI : Ints w1 A P) (hA : Mine w1 B A) (hg : g < B) (hw : w.heap.size ≤ g) (hb : Below w.heap.size w w1) :
    RetImgErr w r x (.returned (.tuple #[.agg #[.int .i64 W, .int .i64 H, .slice A n c], .int .i64 x])) (((w1.setCell ⟨g, 0, none⟩ u).setCell ⟨g, 1, none⟩ v).setCell ⟨g, 2, none⟩ z) :=
  ⟨W, H, P, A, n, c, hr, hn, rfl, ((hI.far hA.new (p := ⟨g, 0, none⟩) hg u).far hA.new (p := ⟨g, 1, none⟩) hg v).far hA.new (p := ⟨g, 2, none⟩) hg z, (((hA.far (p := ⟨g, 0, none⟩) hg u).far (p := ⟨g, 1, none⟩) hg v).far (p := ⟨g, 2, none⟩) hg z).mono (by omega),
    ((hb.setCell (p := ⟨g, 0, none⟩) hw u).setCell (p := ⟨g, 1, none⟩) hw v).setCell (p := ⟨g, 2, none⟩) hw z⟩

set_option maxRecDepth 100000 in
set_option maxHeartbeats 1000000 in
theorem make_yes1 (cw ch k : Int) (w : World) (r1 : 1 ≤ cw) (r2 : cw ≤ 16) (r3 : 1 ≤ ch) (r4 : ch ≤ 16) (r5 : 0 ≤ k) (r6 : k ≤ 65535) :
    Calls Try.prog 13 #[.int .i64 1, .int .i64 cw, .int .i64 ch, .int .i64 k] w (RetImgErr w (drawn cw ch (makePix 1 k)) 0) := by
  have hdr : ∀ W : World, VarBox W w.heap.size 3 (.int .i64 1) → VarBox W (w.heap.size + 1) 3 (.int .i64 k) → Calls Try.prog 51 #[.int .i64 cw, .int .i64 ch, .func (.func 52) #[] #[.pointer (some ⟨w.heap.size, 0, none⟩), .pointer (some ⟨w.heap.size + 1, 0, none⟩)]] W (RetImg W (drawn cw ch (makePix 1 k))) := by
    intro W h1 h2
    refine draw_any _ _ cw ch r1 r2 r3 r4 _ W enters_Make1 ?_
    intro W' x y hb hx hx' hy hy'
    exact (make1_any w.heap.size (w.heap.size + 1) 1 k x y W' (h1.keep hb) (h2.keep hb) (by omega) r5 r6 hx (by omega) hy (by omega)).mono fun _ _ ⟨a, b⟩ => ⟨a, b ▸ Below.refl _ _⟩
  have HD := hide hdr
  clear hdr
  go_enter Try.func13, Try.ntmps13
  go_wp2_with fail
  all_goals try (exfalso; omega)
  refine ((unhide HD) _ (((Blk.new w 3 [_]).alloc _).alloc _) ?_).mono ?_
  · have := (Blk.new (w.alloc (.cells #[.int .i64 1] 3)) 3 [.int .i64 k]).alloc (.cells #[.int .i64 0, .int .i64 0, .slice none 0 0] 24)
    simp only [World.size_alloc] at this
    exact this
  rintro e w1 ⟨W1, H1, P1, A1, n1, c1, hr, hn, rfl, hI, hA, hb⟩
  have HR := hide hr
  have HN := hide hn
  have HB := hide hb
  have HA := hide hA
  obtain ⟨hc, hf⟩ := bcell hb
  have hz := hb.size
  simp only [World.size_alloc] at hz
  clear hr hn hb hA
  go_wp2_with fail
  have hc0 : w1.cell? ⟨w.heap.size + 1 + 1, 0, none⟩ = some (.int .i64 0) := by rw [hc (w.heap.size + 1 + 1) 0 (by simp)]; go_simp
  have hc1 : w1.cell? ⟨w.heap.size + 1 + 1, 1, none⟩ = some (.int .i64 0) := by rw [hc (w.heap.size + 1 + 1) 1 (by simp)]; go_simp
  have hc2 : w1.cell? ⟨w.heap.size + 1 + 1, 2, none⟩ = some (.slice none 0 0) := by rw [hc (w.heap.size + 1 + 1) 2 (by simp)]; go_simp
  refine bodyPost_ret (v := .tuple #[.agg #[.int .i64 W1, .int .i64 H1, .slice A1 n1 c1], .int .i64 0]) (by simp [results, Try.results13, go_sem, hc0, hc1, hc2]) rfl ?_
  exact retBox HR.out HN.out hI HA.out (by simp) (by omega) ((((Below.refl _ _).alloc (Nat.le_refl _) _).alloc (by simp) _).alloc (by simp; omega) _ |>.trans (HB.out.mono (by simp; omega)))

set_option maxRecDepth 100000 in
set_option maxHeartbeats 1000000 in
theorem make_yes2 (cw ch k : Int) (w : World) (r1 : 1 ≤ cw) (r2 : cw ≤ 16) (r3 : 1 ≤ ch) (r4 : ch ≤ 16) (r5 : 0 ≤ k) (r6 : k ≤ 65535) :
    Calls Try.prog 13 #[.int .i64 2, .int .i64 cw, .int .i64 ch, .int .i64 k] w (RetImgErr w (drawn cw ch (makePix 2 k)) 0) := by
  have hdr : ∀ W : World, VarBox W w.heap.size 3 (.int .i64 2) → VarBox W (w.heap.size + 1) 3 (.int .i64 k) → Calls Try.prog 51 #[.int .i64 cw, .int .i64 ch, .func (.func 52) #[] #[.pointer (some ⟨w.heap.size, 0, none⟩), .pointer (some ⟨w.heap.size + 1, 0, none⟩)]] W (RetImg W (drawn cw ch (makePix 2 k))) := by
    intro W h1 h2
    refine draw_any _ _ cw ch r1 r2 r3 r4 _ W enters_Make1 ?_
    intro W' x y hb hx hx' hy hy'
    exact (make1_any w.heap.size (w.heap.size + 1) 2 k x y W' (h1.keep hb) (h2.keep hb) (by omega) r5 r6 hx (by omega) hy (by omega)).mono fun _ _ ⟨a, b⟩ => ⟨a, b ▸ Below.refl _ _⟩
  have HD := hide hdr
  clear hdr
  go_enter Try.func13, Try.ntmps13
  go_wp2_with fail
  all_goals try (exfalso; omega)
  refine ((unhide HD) _ (((Blk.new w 3 [_]).alloc _).alloc _) ?_).mono ?_
  · have := (Blk.new (w.alloc (.cells #[.int .i64 2] 3)) 3 [.int .i64 k]).alloc (.cells #[.int .i64 0, .int .i64 0, .slice none 0 0] 24)
    simp only [World.size_alloc] at this
    exact this
  rintro e w1 ⟨W1, H1, P1, A1, n1, c1, hr, hn, rfl, hI, hA, hb⟩
  have HR := hide hr
  have HN := hide hn
  have HB := hide hb
  have HA := hide hA
  obtain ⟨hc, hf⟩ := bcell hb
  have hz := hb.size
  simp only [World.size_alloc] at hz
  clear hr hn hb hA
  go_wp2_with fail
  have hc0 : w1.cell? ⟨w.heap.size + 1 + 1, 0, none⟩ = some (.int .i64 0) := by rw [hc (w.heap.size + 1 + 1) 0 (by simp)]; go_simp
  have hc1 : w1.cell? ⟨w.heap.size + 1 + 1, 1, none⟩ = some (.int .i64 0) := by rw [hc (w.heap.size + 1 + 1) 1 (by simp)]; go_simp
  have hc2 : w1.cell? ⟨w.heap.size + 1 + 1, 2, none⟩ = some (.slice none 0 0) := by rw [hc (w.heap.size + 1 + 1) 2 (by simp)]; go_simp
  refine bodyPost_ret (v := .tuple #[.agg #[.int .i64 W1, .int .i64 H1, .slice A1 n1 c1], .int .i64 0]) (by simp [results, Try.results13, go_sem, hc0, hc1, hc2]) rfl ?_
  exact retBox HR.out HN.out hI HA.out (by simp) (by omega) ((((Below.refl _ _).alloc (Nat.le_refl _) _).alloc (by simp) _).alloc (by simp; omega) _ |>.trans (HB.out.mono (by simp; omega)))

set_option maxHeartbeats 1000000 in
theorem make_kind (op cw ch k : Int) (w : World) (hop : ¬ (op = 1 ∨ op = 2)) :
    Calls Try.prog 13 #[.int .i64 op, .int .i64 cw, .int .i64 ch, .int .i64 k] w (RetImgErr w Img.none 4) := by
  have h1 : (op != 1) = true := by simp; omega
  have h2 : (op != 2) = true := by simp; omega
  clear hop
  go_enter Try.func13, Try.ntmps13
  go_wp2_with fail
  refine bodyPost_ret (v := .tuple #[.agg #[.int .i64 0, .int .i64 0, .slice none 0 0], .int .i64 4]) (by simp [results, Try.results13, go_sem]) rfl ?_
  exact retNone ((((Below.refl _ _).alloc (Nat.le_refl _) _).alloc (by simp) _).alloc (by simp; omega) _)

set_option maxHeartbeats 1000000 in
theorem make_range (op cw ch k : Int) (w : World) (hop : op = 1 ∨ op = 2) (hr : ¬ (1 ≤ cw ∧ cw ≤ 16 ∧ 1 ≤ ch ∧ ch ≤ 16 ∧ 0 ≤ k ∧ k ≤ 65535)) :
    Calls Try.prog 13 #[.int .i64 op, .int .i64 cw, .int .i64 ch, .int .i64 k] w (RetImgErr w Img.none 3) := by
  rcases hop with rfl | rfl
  · go_enter Try.func13, Try.ntmps13
    go_wp2_with fail
    all_goals try (exfalso; omega)
    all_goals
      refine bodyPost_ret (v := .tuple #[.agg #[.int .i64 0, .int .i64 0, .slice none 0 0], .int .i64 3]) (by simp [results, Try.results13, go_sem]) rfl ?_
      exact retNone ((((Below.refl _ _).alloc (Nat.le_refl _) _).alloc (by simp) _).alloc (by simp; omega) _)
  · go_enter Try.func13, Try.ntmps13
    go_wp2_with fail
    all_goals try (exfalso; omega)
    all_goals
      refine bodyPost_ret (v := .tuple #[.agg #[.int .i64 0, .int .i64 0, .slice none 0 0], .int .i64 3]) (by simp [results, Try.results13, go_sem]) rfl ?_
      exact retNone ((((Below.refl _ _).alloc (Nat.le_refl _) _).alloc (by simp) _).alloc (by simp; omega) _)

theorem make_any (op cw ch k : Int) (w : World) :
    Calls Try.prog 13 #[.int .i64 op, .int .i64 cw, .int .i64 ch, .int .i64 k] w (RetImgErr w (makeAns op cw ch k) (makeErr op cw ch k)) := by
  by_cases hop : op = 1 ∨ op = 2
  · by_cases hr : 1 ≤ cw ∧ cw ≤ 16 ∧ 1 ≤ ch ∧ ch ≤ 16 ∧ 0 ≤ k ∧ k ≤ 65535
    · have hE : makeErr op cw ch k = 0 := by unfold makeErr; rw [if_neg (by omega), if_neg (by omega)]
      have hA : makeAns op cw ch k = drawn cw ch (makePix op k) := by unfold makeAns; rw [if_pos hE]; rfl
      rw [hE, hA]
      obtain ⟨r1, r2, r3, r4, r5, r6⟩ := hr
      rcases hop with rfl | rfl
      · exact make_yes1 cw ch k w r1 r2 r3 r4 r5 r6
      · exact make_yes2 cw ch k w r1 r2 r3 r4 r5 r6
    · have hE : makeErr op cw ch k = 3 := by unfold makeErr; rw [if_neg (by omega), if_pos (by omega)]
      have hA : makeAns op cw ch k = Img.none := by unfold makeAns; rw [if_neg (by omega)]
      rw [hE, hA]
      exact make_range op cw ch k w hop hr
  · have hE : makeErr op cw ch k = 4 := by unfold makeErr; rw [if_pos (by omega)]
    have hA : makeAns op cw ch k = Img.none := by unfold makeAns; rw [if_neg (by omega)]
    rw [hE, hA]
    exact make_kind op cw ch k w hop

end Go.Proofs.Ytibpmogmeoappaa
