/- Walks: the closures of One. -/
import Derived.Test.YtibpmogmeoappaaImgC
namespace Go.Proofs.Ytibpmogmeoappaa
open Go.RowKit

/-- a variable's block of one cell -/
def VarBox (w : World) (g : Nat) (t : TypeId) (v : Value) : Prop := Blk w g t [v]
theorem VarBox.cell0 {w : World} {g : Nat} {t : TypeId} {v : Value} (h : VarBox w g t v) : g < w.heap.size ∧ w.cell? ⟨g, 0, none⟩ = some v := ⟨h.lt, by rw [h.cell]; rfl⟩
/-- the closure 'at' over the image in block g -/
def atFn (g : Nat) : Value := .func (.func 57) #[] #[.pointer (some ⟨g, 0, none⟩)]

theorem enters_One1 : ∀ args w, (callFunc 57 args).run Try.prog w = .ok (.enter 57 args) w := enters_of Try.func57 (by kernel_rfl) rfl
theorem enters_One2 : ∀ args w, (callFunc 58 args).run Try.prog w = .ok (.enter 58 args) w := enters_of Try.func58 (by kernel_rfl) rfl
theorem enters_One3 : ∀ args w, (callFunc 59 args).run Try.prog w = .ok (.enter 59 args) w := enters_of Try.func59 (by kernel_rfl) rfl
theorem enters_One4 : ∀ args w, (callFunc 60 args).run Try.prog w = .ok (.enter 60 args) w := enters_of Try.func60 (by kernel_rfl) rfl
theorem enters_One5 : ∀ args w, (callFunc 62 args).run Try.prog w = .ok (.enter 62 args) w := enters_of Try.func62 (by kernel_rfl) rfl
theorem enters_One6 : ∀ args w, (callFunc 63 args).run Try.prog w = .ok (.enter 63 args) w := enters_of Try.func63 (by kernel_rfl) rfl

section
variable (g ga gk : Nat) (W H : Int) (A : Option Addr) (n c : Nat) (P : List Int) (x y k : Int) (w : World)

set_option maxHeartbeats 400000 in
theorem one2_any (hF : Img.Fine ⟨W, H, P⟩) (hn : P.length = n) (hI : Ints w A P) (hB : ImgBox w g W H A n c) (hA : VarBox w ga 43 (atFn g)) (hK : VarBox w gk 3 (.int .i64 k)) (hx : 0 ≤ x) (hx' : x < W) (hy : 0 ≤ y) (hy' : y < H) :
    Calls Try.prog 58 #[.int .i64 x, .int .i64 y, .pointer (some ⟨ga, 0, none⟩), .pointer (some ⟨gk, 0, none⟩)] w fun e w' => e = .returned (.int .i64 (onePix 8 ⟨W, H, P⟩ k x y)) ∧ w = w' := by
  obtain ⟨l1, c1⟩ := hA.cell0
  obtain ⟨l2, c2⟩ := hK.cell0
  unfold atFn at c1
  have hcall := one1_any g W H A n c P x y w hF hn hI hB hx hx' hy hy'
  have hfin : onePix 8 ⟨W, H, P⟩ k x y = if k ≤ Img.at_ ⟨W, H, P⟩ x y then Img.at_ ⟨W, H, P⟩ x y else 0 := rfl
  generalize Img.at_ ⟨W, H, P⟩ x y = v at *
  have HC := hide hcall
  have HFin := hide hfin
  clear hcall hfin hF hn hI hB hA hK hx hx' hy hy'
  by_cases hk : k ≤ v
  all_goals
    go_enter Try.func58, Try.ntmps58
    go_wp2_with (go_at_call 57; refine (unhide HC).mono ?_; rintro e w1 ⟨rfl, rfl⟩)
    go_ret
    exact ⟨ret_int (by rw [HFin.out]; first | rw [if_pos (by omega)] | rw [if_neg (by omega)]), rfl⟩

set_option maxHeartbeats 400000 in
theorem one3_any (hF : Img.Fine ⟨W, H, P⟩) (hn : P.length = n) (hI : Ints w A P) (hB : ImgBox w g W H A n c) (hA : VarBox w ga 43 (atFn g)) (hK : VarBox w gk 3 (.int .i64 k)) (hk1 : -16 ≤ k) (hk2 : k ≤ 16) (hx : 0 ≤ x) (hx' : x < W) (hy : 0 ≤ y) (hy' : y < H) :
    Calls Try.prog 59 #[.int .i64 x, .int .i64 y, .pointer (some ⟨ga, 0, none⟩), .pointer (some ⟨gk, 0, none⟩), .pointer (some ⟨g, 0, none⟩)] w fun e w' => e = .returned (.int .i64 (onePix 9 ⟨W, H, P⟩ k x y)) ∧ w = w' := by
  obtain ⟨l1, c1⟩ := hA.cell0
  obtain ⟨l2, c2⟩ := hK.cell0
  obtain ⟨q0, q1, q2, q3⟩ := hB.cells
  unfold atFn at c1
  have hW2 := hF.1.2
  simp only at hW2
  obtain ⟨u, hu⟩ : ∃ u, u = min (max (x - k) 0) (W - 1) := ⟨_, rfl⟩
  have hu0 : 0 ≤ u := by omega
  have hu1 : u < W := by omega
  have hcall := one1_any g W H A n c P u y w hF hn hI hB hu0 hu1 hy hy'
  have hfin : onePix 9 ⟨W, H, P⟩ k x y = Img.at_ ⟨W, H, P⟩ u y := by
    show Img.at_ ⟨W, H, P⟩ (max 0 (min (W - 1) (x - k))) y = _
    rw [show max 0 (min (W - 1) (x - k)) = u by omega]
  generalize Img.at_ ⟨W, H, P⟩ u y = v at *
  have HC := hide hcall
  have HFin := hide hfin
  have HU := hide hu
  clear hcall hfin hF hn hI hB hA hK hu
  by_cases h1 : x - k < 0
  · have e : (0 : Int) = u := by have := HU.out; omega
    have HE := hide e
    clear e
    have h2 : ¬ (W - 1 < 0) := by omega
    go_enter Try.func59, Try.ntmps59
    go_wp2_with fail
    rw [HE.out]
    refine (unhide HC).mono ?_
    rintro e w1 ⟨rfl, rfl⟩
    go_wp2_with fail
    go_ret
    exact ⟨ret_int (by rw [HFin.out]), rfl⟩
  · by_cases h2 : W - 1 < x - k
    · have e : W - 1 = u := by have := HU.out; omega
      have HE := hide e
      clear e
      go_enter Try.func59, Try.ntmps59
      go_wp2_with fail
      rw [HE.out]
      refine (unhide HC).mono ?_
      rintro e w1 ⟨rfl, rfl⟩
      go_wp2_with fail
      go_ret
      exact ⟨ret_int (by rw [HFin.out]), rfl⟩
    · have e : x - k = u := by have := HU.out; omega
      have HE := hide e
      clear e
      go_enter Try.func59, Try.ntmps59
      go_wp2_with fail
      rw [HE.out]
      refine (unhide HC).mono ?_
      rintro e w1 ⟨rfl, rfl⟩
      go_wp2_with fail
      go_ret
      exact ⟨ret_int (by rw [HFin.out]), rfl⟩

set_option maxHeartbeats 400000 in
theorem one4_any (hF : Img.Fine ⟨W, H, P⟩) (hn : P.length = n) (hI : Ints w A P) (hB : ImgBox w g W H A n c) (hx : 0 ≤ x) (hx' : x < W) (hy : 0 ≤ y) (hy' : y < H) :
    Calls Try.prog 60 #[.int .i64 x, .int .i64 y, .pointer (some ⟨g, 0, none⟩)] w fun e w' => e = .returned (.int .i64 (onePix 10 ⟨W, H, P⟩ k x y)) ∧ Below w.heap.size w w' := by
  obtain ⟨q0, q1, q2, q3⟩ := hB.cells
  have hcall := blur_any W H A n c P x y w hF hn hI hx hx' hy hy'
  have hfin : onePix 10 ⟨W, H, P⟩ k x y = mean ⟨W, H, P⟩ (x - 1) (y - 1) (x + 1) (y + 1) := rfl
  generalize mean ⟨W, H, P⟩ (x - 1) (y - 1) (x + 1) (y + 1) = v at *
  have HC := hide hcall
  have HFin := hide hfin
  clear hcall hfin hF hn hI hB hx hx' hy hy'
  go_enter Try.func60, Try.ntmps60
  go_wp2_with (go_at_call 61; refine (unhide HC).mono ?_; rintro e w1 ⟨rfl, hE⟩)
  go_ret
  exact ⟨ret_int (by rw [HFin.out]), hE⟩

theorem mean_down {a : Img} (hx : 0 ≤ x) (hx' : 2 * x + 1 < a.W) (hy : 0 ≤ y) (hy' : 2 * y + 1 < a.H) :
    mean a (2 * x) (2 * y) (2 * x + 1) (2 * y + 1) = (a.at_ (2 * x) (2 * y) + a.at_ (2 * x + 1) (2 * y) + a.at_ (2 * x) (2 * y + 1) + a.at_ (2 * x + 1) (2 * y + 1)) / 4 := by
  have e : meanList a (2 * x) (2 * y) (2 * x + 1) (2 * y + 1) = [a.at_ (2 * x) (2 * y), a.at_ (2 * x + 1) (2 * y), a.at_ (2 * x) (2 * y + 1), a.at_ (2 * x + 1) (2 * y + 1)] := by
    have e2 : ∀ z : Int, irange z (z + 1) = [z, z + 1] := fun z => by rw [irange_cons (by omega), irange_cons (by omega), irange_nil (by omega)]
    unfold meanList
    rw [show max (2 * x) 0 = 2 * x by omega, show min (2 * x + 1) (a.W - 1) = 2 * x + 1 by omega, show max (2 * y) 0 = 2 * y by omega, show min (2 * y + 1) (a.H - 1) = 2 * y + 1 by omega, e2, e2]
    rfl
  unfold mean
  rw [e]
  simp only [List.sum_cons, List.sum_nil, List.length_cons, List.length_nil]
  rw [show a.at_ (2 * x) (2 * y) + (a.at_ (2 * x + 1) (2 * y) + (a.at_ (2 * x) (2 * y + 1) + (a.at_ (2 * x + 1) (2 * y + 1) + 0))) = a.at_ (2 * x) (2 * y) + a.at_ (2 * x + 1) (2 * y) + a.at_ (2 * x) (2 * y + 1) + a.at_ (2 * x + 1) (2 * y + 1) by omega]
  rfl

theorem one1_quiet (hF : Img.Fine ⟨W, H, P⟩) (hn : P.length = n) (hI : Ints w A P) (hB : ImgBox w g W H A n c) (m : Nat) (hx : 0 ≤ x) (hx' : x < W) (hy : 0 ≤ y) (hy' : y < H) :
    Calls Try.prog 57 #[.int .i64 x, .int .i64 y, .pointer (some ⟨g, 0, none⟩)] (w.drewN m) fun e w' => e = .returned (.int .i64 (Img.at_ ⟨W, H, P⟩ x y)) ∧ ∃ q, w' = w.drewN q :=
  (one1_any g W H A n c P x y (w.drewN m) hF hn hI hB hx hx' hy hy').mono fun _ _ ⟨h1, h2⟩ => ⟨h1, m, h2.symm⟩

set_option maxHeartbeats 1000000 in
theorem one5_any (hF : Img.Fine ⟨W, H, P⟩) (hn : P.length = n) (hI : Ints w A P) (hB : ImgBox w g W H A n c) (hA : VarBox w ga 43 (atFn g)) (hx : 0 ≤ x) (hx' : 2 * x + 1 < W) (hy : 0 ≤ y) (hy' : 2 * y + 1 < H) :
    Calls Try.prog 62 #[.int .i64 x, .int .i64 y, .pointer (some ⟨ga, 0, none⟩)] w fun e w' => e = .returned (.int .i64 (onePix 11 ⟨W, H, P⟩ k x y)) ∧ Below w.heap.size w w' := by
  obtain ⟨l1, c1⟩ := hA.cell0
  unfold atFn at c1
  have hW2 := hF.1.2
  have hH2 := hF.2.1.2
  simp only at hW2 hH2
  have v1 := hF.at_bd (x := 2 * x) (y := 2 * y) (by omega) (by simp only; omega) (by omega) (by simp only; omega)
  have v2 := hF.at_bd (x := 2 * x + 1) (y := 2 * y) (by omega) (by simp only; omega) (by omega) (by simp only; omega)
  have v3 := hF.at_bd (x := 2 * x) (y := 2 * y + 1) (by omega) (by simp only; omega) (by omega) (by simp only; omega)
  have v4 := hF.at_bd (x := 2 * x + 1) (y := 2 * y + 1) (by omega) (by simp only; omega) (by omega) (by simp only; omega)
  have k1 := fun m => one1_quiet g W H A n c P (2 * x) (2 * y) w hF hn hI hB m (by omega) (by omega) (by omega) (by omega)
  have k2 := fun m => one1_quiet g W H A n c P (2 * x + 1) (2 * y) w hF hn hI hB m (by omega) (by omega) (by omega) (by omega)
  have k3 := fun m => one1_quiet g W H A n c P (2 * x) (2 * y + 1) w hF hn hI hB m (by omega) (by omega) (by omega) (by omega)
  have k4 := fun m => one1_quiet g W H A n c P (2 * x + 1) (2 * y + 1) w hF hn hI hB m (by omega) (by omega) (by omega) (by omega)
  have hfin : onePix 11 ⟨W, H, P⟩ k x y = (Img.at_ ⟨W, H, P⟩ (2 * x) (2 * y) + Img.at_ ⟨W, H, P⟩ (2 * x + 1) (2 * y) + Img.at_ ⟨W, H, P⟩ (2 * x) (2 * y + 1) + Img.at_ ⟨W, H, P⟩ (2 * x + 1) (2 * y + 1)) / 4 :=
    mean_down x y (a := ⟨W, H, P⟩) hx hx' hy hy'
  generalize Img.at_ ⟨W, H, P⟩ (2 * x) (2 * y) = a1 at *
  generalize Img.at_ ⟨W, H, P⟩ (2 * x + 1) (2 * y) = a2 at *
  generalize Img.at_ ⟨W, H, P⟩ (2 * x) (2 * y + 1) = a3 at *
  generalize Img.at_ ⟨W, H, P⟩ (2 * x + 1) (2 * y + 1) = a4 at *
  obtain ⟨v1, v1'⟩ := v1
  obtain ⟨v2, v2'⟩ := v2
  obtain ⟨v3, v3'⟩ := v3
  obtain ⟨v4, v4'⟩ := v4
  have b1 : 0 ≤ 2 * x := by omega
  have b2 : 2 * x ≤ 16 := by omega
  have b3 : 0 ≤ 2 * y := by omega
  have b4 : 2 * y ≤ 16 := by omega
  have e1 : IntKind.i64.wrap (2 * x) = 2 * x := IntWalk.i64_in _ (by omega)
  have e2 : IntKind.i64.wrap (2 * x + 1) = 2 * x + 1 := IntWalk.i64_in _ (by omega)
  have e3 : IntKind.i64.wrap (2 * y) = 2 * y := IntWalk.i64_in _ (by omega)
  have e4 : IntKind.i64.wrap (2 * y + 1) = 2 * y + 1 := IntWalk.i64_in _ (by omega)
  have e5 : IntKind.i64.wrap (a1 + a2) = a1 + a2 := IntWalk.i64_in _ (by omega)
  have e6 : IntKind.i64.wrap (a1 + a2 + a3) = a1 + a2 + a3 := IntWalk.i64_in _ (by omega)
  have e7 : IntKind.i64.wrap (a1 + a2 + a3 + a4) = a1 + a2 + a3 + a4 := IntWalk.i64_in _ (by omega)
  have HFin := hide hfin
  have K1 := hide k1
  have K2 := hide k2
  have K3 := hide k3
  have K4 := hide k4
  clear hfin hF hn hI hB hA k1 k2 k3 k4
  go_enter Try.func62, Try.ntmps62
  go_wp2_with fail
  go_quiet ((go_at_call 57; first | (with_reducible exact (unhide K1) _) | (with_reducible exact (unhide K2) _) | (with_reducible exact (unhide K3) _) | (with_reducible exact (unhide K4) _)))
  go_wp2_with fail
  go_ret
  refine ⟨ret_int ?_, ?_⟩
  · rw [HFin.out]
  · exact below_drewN (Below.refl _ _) _

set_option maxHeartbeats 400000 in
theorem one6_any (hF : Img.Fine ⟨W, H, P⟩) (hn : P.length = n) (hI : Ints w A P) (hB : ImgBox w g W H A n c) (hA : VarBox w ga 43 (atFn g)) (hx : 0 ≤ x) (hx' : x < 2 * W) (hy : 0 ≤ y) (hy' : y < 2 * H) :
    Calls Try.prog 63 #[.int .i64 x, .int .i64 y, .pointer (some ⟨ga, 0, none⟩)] w fun e w' => e = .returned (.int .i64 (onePix 12 ⟨W, H, P⟩ k x y)) ∧ w = w' := by
  obtain ⟨l1, c1⟩ := hA.cell0
  unfold atFn at c1
  have hcall := one1_any g W H A n c P (x / 2) (y / 2) w hF hn hI hB (by omega) (by omega) (by omega) (by omega)
  have hfin : onePix 12 ⟨W, H, P⟩ k x y = Img.at_ ⟨W, H, P⟩ (x / 2) (y / 2) := rfl
  generalize Img.at_ ⟨W, H, P⟩ (x / 2) (y / 2) = v at *
  have HC := hide hcall
  have HFin := hide hfin
  clear hcall hfin hF hn hI hB hA
  go_enter Try.func63, Try.ntmps63
  go_wp2_with fail
  refine (unhide HC).mono ?_
  rintro e w1 ⟨rfl, rfl⟩
  go_wp2_with fail
  go_ret
  exact ⟨ret_int (by rw [HFin.out]), rfl⟩
end
end Go.Proofs.Ytibpmogmeoappaa
