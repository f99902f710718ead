/- Walks: fit.Compile (all ways), SamePlans, fitBegun. -/
import Derived.Test.YtibpmogmeoappabJFitI
import Derived.Test.YtibpmogmeoappabJFitF
import Derived.Test.YtibpmogmeoappabJGlow
import Derived.Test.YtibpmogmeoappabJImgH
namespace Go.Proofs.Ytibpmogmeoappab
open Go.RowKit

set_option maxRecDepth 100000 in
set_option maxHeartbeats 4000000 in
theorem compile_bad (W H S O : Int) (PA : Option Addr) (n c : Nat) (ps : List Pas) (w : World) (hn : ps.length = n) (hP : Passes w PA ps) (he : frErr ⟨W, H, S, O, ps⟩ ≠ 0) :
    Calls Try.prog 50 #[.agg #[.int .i64 W, .int .i64 H, .int .i64 S, .int .i64 O, .slice PA n c]] w (RetPlnE w ⟨[], []⟩ (frErr ⟨W, H, S, O, ps⟩)) := by
  have hb := ((Below.refl w.heap.size w).alloc (Nat.le_refl _) (.cells #[.int .i64 W, .int .i64 H, .int .i64 S, .int .i64 O, .slice PA n c] 24)).alloc (by simp) (.cells #[.slice none 0 0, .slice none 0 0] 27)
  have hrx : Blk ((w.alloc (.cells #[.int .i64 W, .int .i64 H, .int .i64 S, .int .i64 O, .slice PA n c] 24)).alloc (.cells #[.slice none 0 0, .slice none 0 0] 27)) (w.heap.size + 1) 27 [.slice none 0 0, .slice none 0 0] := Blk.newE (by simp)
  have hkp := kept_any W H S O PA n c ps _ hn (hP.keep hb)
  obtain ⟨er, her⟩ : ∃ er, frErr ⟨W, H, S, O, ps⟩ = er := ⟨_, rfl⟩
  rw [her] at hkp he ⊢
  obtain ⟨w1, hw1⟩ : ∃ w1, (w.alloc (.cells #[.int .i64 W, .int .i64 H, .int .i64 S, .int .i64 O, .slice PA n c] 24)).alloc (.cells #[.slice none 0 0, .slice none 0 0] 27) = w1 := ⟨_, rfl⟩
  rw [hw1] at hb hrx hkp
  have HB := hide hb
  have HRX := hide hrx
  have HKP := hide hkp
  have hz2 : (er != 0) = true := by simpa using he
  have hbx : FrmBox w1 w.heap.size W H S O PA n c := by
    rw [← hw1]
    exact (show FrmBox (w.alloc (.cells #[.int .i64 W, .int .i64 H, .int .i64 S, .int .i64 O, .slice PA n c] 24)) w.heap.size W H S O PA n c from Blk.new w 24 (frmCells W H S O PA n c)).alloc _
  obtain ⟨x, q0, q1, q2, q3, q4⟩ := FrmBox.cells hbx
  clear hn hP hb hrx hkp her he hbx
  go_enter Try.func50, Try.ntmps50
  go_wp2_with fail
  refine (unhide HKP).mono ?_
  rintro e w2 ⟨KA, kn, kc, rfl, -, -, hE2⟩
  have hr2 := HRX.out.keep hE2
  obtain ⟨v, r0, r1⟩ := plan_box hr2
  have f0 := hr2.frozen 0
  have f1 := hr2.frozen 1
  have HR2 := hide hr2
  have HB2 := hide (HB.out.trans (hE2.mono HB.out.size))
  clear hr2 hE2 hw1 x q0 q1 q2 q3 q4
  go_wp2_with fail
  have hr3 := (HR2.out.set_ 0 (.slice none 0 0)).set_ 1 (.slice none 0 0)
  obtain ⟨v9, t0, t1⟩ := plan_box hr3
  refine bodyPost_ret (v := .tuple #[.agg #[.slice none 0 0, .slice none 0 0], .int .i64 er]) ?_ rfl ?_
  · simp [results, Try.results50, go_sem, t0, t1]
  · exact ⟨none, 0, 0, none, 0, 0, rfl, rfl, rfl, Ints.nil _ _, Ints.nil _ _, Nat.le_refl _, Nat.le_refl _, Mine.none_ _ _, NewFrom.none_ _, (HB2.out.setCell (p := ⟨w.heap.size + 1, 0, none⟩) (by simp) _).setCell (p := ⟨w.heap.size + 1, 1, none⟩) (by simp) _⟩
theorem compile_any (W H S O : Int) (PA : Option Addr) (n c : Nat) (ps : List Pas) (w : World) (hn : ps.length = n) (hP : Passes w PA ps) :
    Calls Try.prog 50 #[.agg #[.int .i64 W, .int .i64 H, .int .i64 S, .int .i64 O, .slice PA n c]] w (RetPlnE w (compAns ⟨W, H, S, O, ps⟩) (frErr ⟨W, H, S, O, ps⟩)) := by
  by_cases h : frErr ⟨W, H, S, O, ps⟩ = 0
  · have e : compAns ⟨W, H, S, O, ps⟩ = comp ⟨W, H, S, O, ps⟩ := if_pos h
    rw [e, h]
    exact compile_ok W H S O PA n c ps w hn hP (frErr_zero.1 h)
  · have e : compAns ⟨W, H, S, O, ps⟩ = ⟨[], []⟩ := if_neg h
    rw [e]
    exact compile_bad W H S O PA n c ps w hn hP h
set_option maxRecDepth 100000 in
set_option maxHeartbeats 4000000 in
theorem samePlans_any (A1 A2 B1 B2 : Option Addr) (n1 c1 n2 c2 m1 d1 m2 d2 : Nat) (p q : Pln) (w : World) (h1 : p.Order.length = n1) (h2 : p.Places.length = n2) (h3 : q.Order.length = m1) (h4 : q.Places.length = m2) (i1 : Ints w A1 p.Order) (i2 : Ints w A2 p.Places) (i3 : Ints w B1 q.Order) (i4 : Ints w B2 q.Places) (hl1 : n1 ≤ 9223372036854775807) (hl2 : n2 ≤ 9223372036854775807) :
    Calls Try.prog 52 #[.agg #[.slice A1 n1 c1, .slice A2 n2 c2], .agg #[.slice B1 m1 d1, .slice B2 m2 d2]] w fun e w' => e = .returned (.bool (decide (p = q))) ∧ Below w.heap.size w w' := by
  have hb := ((Below.refl w.heap.size w).alloc (Nat.le_refl _) (.cells #[.slice A1 n1 c1, .slice A2 n2 c2] 27)).alloc (by simp) (.cells #[.slice B1 m1 d1, .slice B2 m2 d2] 27)
  have hx1 := (Blk.new w 27 [.slice A1 n1 c1, .slice A2 n2 c2]).alloc (.cells #[.slice B1 m1 d1, .slice B2 m2 d2] 27)
  have hx2 : Blk ((w.alloc (.cells #[.slice A1 n1 c1, .slice A2 n2 c2] 27)).alloc (.cells #[.slice B1 m1 d1, .slice B2 m2 d2] 27)) (w.heap.size + 1) 27 [.slice B1 m1 d1, .slice B2 m2 d2] := Blk.newE (by simp)
  have j1 := i1.keep hb
  have j2 := i2.keep hb
  have j3 := i3.keep hb
  have j4 := i4.keep hb
  obtain ⟨w1, hw1⟩ : ∃ w1, (w.alloc (.cells #[.slice A1 n1 c1, .slice A2 n2 c2] 27)).alloc (.cells #[.slice B1 m1 d1, .slice B2 m2 d2] 27) = w1 := ⟨_, rfl⟩
  rw [hw1] at hb hx1 hx2 j1 j2 j3 j4
  have HB := hide hb
  have HX := hide ((Keeps.blk hx1).and (Keeps.blk hx2))
  have HS1 := hide (sameInts_any A1 B1 n1 c1 m1 d1 p.Order q.Order w1 h1 h3 j1 j3 hl1)
  have HS2 := hide (fun (W9 : World) (hb : Below w1.heap.size w1 W9) => sameInts_any A2 B2 n2 c2 m2 d2 p.Places q.Places W9 h2 h4 (j2.keep hb) (j4.keep hb) hl2)
  obtain ⟨x, q0, q1⟩ := plan_box hx1
  obtain ⟨y, r0, r1⟩ := plan_box hx2
  obtain ⟨b1, hb1⟩ : ∃ b1, decide (p.Order = q.Order) = b1 := ⟨_, rfl⟩
  obtain ⟨b2, hb2⟩ : ∃ b2, decide (p.Places = q.Places) = b2 := ⟨_, rfl⟩
  have hpq : decide (p = q) = (b1 && b2) := by
    rw [← hb1, ← hb2]
    obtain ⟨p1, p2⟩ := p
    obtain ⟨q1, q2⟩ := q
    simp
  rw [hb1] at HS1
  rw [hb2] at HS2
  have HPQ := hide hpq
  clear h1 h2 h3 h4 i1 i2 i3 i4 hl1 hl2 hb hx1 hx2 j1 j2 j3 j4 hb1 hb2 hpq
  cases b1 with
  | false =>
    go_enter Try.func52, Try.ntmps52
    go_wp2_with fail
    refine (unhide HS1).mono ?_
    rintro e w2 ⟨rfl, hE2⟩
    have HE2 := hide (HB.out.trans (hE2.mono HB.out.size))
    clear hE2 x q0 q1 y r0 r1 hw1
    go_wp2_with fail
    go_ret
    exact ⟨ret_bool (by rw [HPQ.out]; rfl), HE2.out⟩
  | true =>
    go_enter Try.func52, Try.ntmps52
    go_wp2_with fail
    refine (unhide HS1).mono ?_
    rintro e w2 ⟨rfl, hE2⟩
    have HE2 := hide (HB.out.trans (hE2.mono HB.out.size))
    have HS3 := hide ((unhide HS2) w2 hE2)
    obtain ⟨k1, k2⟩ := HX.out.later _ hE2
    clear hE2 x q0 q1 y r0 r1 hw1
    obtain ⟨x, q0, q1⟩ := plan_box k1
    obtain ⟨y, r0, r1⟩ := plan_box k2
    clear k1 k2
    go_wp2_with fail
    refine (unhide HS3).mono ?_
    rintro e w3 ⟨rfl, hE3⟩
    have HE3 := hide (HE2.out.trans (hE3.mono HE2.out.size))
    clear hE3 HS3
    go_wp2_with fail
    go_ret
    exact ⟨ret_bool (by rw [HPQ.out]; rfl), HE3.out⟩
theorem gp1 : placeAns [⟨0, 3⟩, ⟨6, 9⟩] 2 = 4 ∧ placeErr [⟨0, 3⟩, ⟨6, 9⟩] 2 = 0 ∧ placeAns [⟨0, 3⟩, ⟨6, 9⟩] 3 = 10 ∧ placeErr [⟨0, 3⟩, ⟨6, 9⟩] 3 = 0 := by decide +kernel
theorem gp2 : compAns glowF = ⟨[0, 3, 4], [0, -1, -1, 8, 16]⟩ := by decide +kernel
set_option maxRecDepth 100000 in
set_option maxHeartbeats 4000000 in
theorem fitBegun_any (w : World) : Calls Try.prog 49 #[] w fun e w' => e = .returned (.bool true) ∧ Below w.heap.size w w' := by
  have HPL := hide (fun (size v z : Int) (h1 : placeAns [⟨0, 3⟩, ⟨6, 9⟩] size = v) (h2 : placeErr [⟨0, 3⟩, ⟨6, 9⟩] size = z) (b : Nat) (W0 : World) (h : Spns W0 (some ⟨b, 0, none⟩) [⟨0, 3⟩, ⟨6, 9⟩]) => (show Calls Try.prog 46 #[.slice (some ⟨b, 0, none⟩) 2 2, .int .i64 size] W0 (RetIE W0 v z) from by
    rw [← h1, ← h2]; exact fitPlace_any (some ⟨b, 0, none⟩) 2 2 _ size W0 rfl (by omega) h))
  have HCM := hide (fun (A : Option Addr) (c : Nat) (W0 : World) (h1 : Passes W0 A glowF.P) => (show Calls Try.prog 50 #[.agg #[.int .i64 4, .int .i64 2, .int .i64 3, .int .i64 1, .slice A 5 c]] W0 (RetPlnE W0 ⟨[0, 3, 4], [0, -1, -1, 8, 16]⟩ 0) from by
    have h := compile_any 4 2 3 1 A 5 c glowF.P W0 rfl h1
    have e : (⟨4, 2, 3, 1, glowF.P⟩ : Frm) = glowF := rfl
    rw [e, gp2, gf1] at h
    exact h))
  go_enter Try.func49, Try.ntmps49
  go_wp2_with fail
  have hal : Below w.heap.size w (w.alloc (.cells #[.int .i64 0, .int .i64 3, .int .i64 6, .int .i64 9] 41)) := (Below.refl _ _).alloc (Nat.le_refl _) _
  refine ((unhide HPL) 2 4 0 gp1.1 gp1.2.1 _ _ (Blk.cells (Blk.new w 41 [.int .i64 0, .int .i64 3, .int .i64 6, .int .i64 9]))).mono ?_
  rintro e w1 ⟨rfl, hE1⟩
  have HB1 := hide (hal.trans (hE1.mono hal.size))
  clear hE1 hal
  go_wp2_with fail
  have hal : Below w1.heap.size w1 (w1.alloc (.cells #[.int .i64 0, .int .i64 3, .int .i64 6, .int .i64 9] 41)) := (Below.refl _ _).alloc (Nat.le_refl _) _
  refine ((unhide HPL) 3 10 0 gp1.2.2.1 gp1.2.2.2 _ _ (Blk.cells (Blk.new w1 41 [.int .i64 0, .int .i64 3, .int .i64 6, .int .i64 9]))).mono ?_
  rintro e w2 ⟨rfl, hE2⟩
  have HB2 := hide (HB1.out.trans ((hal.trans (hE2.mono hal.size)).mono HB1.out.size))
  clear hE2 hal HB1
  go_wp2_with fail
  refine (glow_any _).mono ?_
  rintro e w3 ⟨A3, c3, rfl, hP3, hE3⟩
  have HB3 := hide (HB2.out.trans (hE3.mono HB2.out.size))
  have HP3 := hide hP3
  clear hE3 hP3 HB2
  go_wp2_with fail
  refine ((unhide HCM) A3 c3 _ HP3.out).mono ?_
  rintro e w4 ⟨OA, on, oc, QA, qn, qc, rfl, hon, hqn, hO, hQ, -, -, -, -, hE4⟩
  obtain rfl : on = 3 := hon.symm
  obtain rfl : qn = 5 := hqn.symm
  have HB4 := hide (HB3.out.trans (hE4.mono HB3.out.size))
  have HO4 := hide (Keeps.ints hO)
  have HQ4 := hide (Keeps.ints hQ)
  clear hE4 HB3 HP3 hO hQ hon hqn
  have hpx := Blk.new w4 27 [.slice OA 3 oc, .slice QA 5 qc]
  obtain ⟨x, q0, q1⟩ := plan_box hpx
  have hal : Below w4.heap.size w4 (((w4.alloc (.cells #[.slice OA 3 oc, .slice QA 5 qc] 27)).alloc (.cells #[.int .i64 0, .int .i64 3, .int .i64 4] 3)).alloc (.cells #[.int .i64 0, .int .i64 (-1), .int .i64 (-1), .int .i64 8, .int .i64 16] 3)) := (((Below.refl _ _).alloc (Nat.le_refl _) _).alloc (by simp) _).alloc (by simp; omega) _
  have hl1 : Blk (((w4.alloc (.cells #[.slice OA 3 oc, .slice QA 5 qc] 27)).alloc (.cells #[.int .i64 0, .int .i64 3, .int .i64 4] 3)).alloc (.cells #[.int .i64 0, .int .i64 (-1), .int .i64 (-1), .int .i64 8, .int .i64 16] 3)) (w4.heap.size + 1) 3 [.int .i64 0, .int .i64 3, .int .i64 4] := (Blk.newE (by simp)).alloc _
  have hl2 : Blk (((w4.alloc (.cells #[.slice OA 3 oc, .slice QA 5 qc] 27)).alloc (.cells #[.int .i64 0, .int .i64 3, .int .i64 4] 3)).alloc (.cells #[.int .i64 0, .int .i64 (-1), .int .i64 (-1), .int .i64 8, .int .i64 16] 3)) (w4.heap.size + 1 + 1) 3 [.int .i64 0, .int .i64 (-1), .int .i64 (-1), .int .i64 8, .int .i64 16] := Blk.newE (by simp)
  have HSP := hide (samePlans_any OA QA (some ⟨w4.heap.size + 1, 0, none⟩) (some ⟨w4.heap.size + 1 + 1, 0, none⟩) 3 oc 5 qc 3 3 5 5 ⟨[0, 3, 4], [0, -1, -1, 8, 16]⟩ ⟨[0, 3, 4], [0, -1, -1, 8, 16]⟩ _ rfl rfl rfl rfl (HO4.out.later _ hal) (HQ4.out.later _ hal) (Blk.cells hl1) (Blk.cells hl2) (by omega) (by omega))
  have HAL := hide hal
  clear hal hl1 hl2 hpx
  go_wp2_with fail
  refine (unhide HSP).mono ?_
  rintro e w5 ⟨rfl, hE5⟩
  have HB5 := hide (HB4.out.trans ((HAL.out.trans (hE5.mono HAL.out.size)).mono HB4.out.size))
  clear hE5 HAL HSP HB4
  go_wp2_with fail
  go_ret
  exact ⟨rfl, HB5.out⟩
end Go.Proofs.Ytibpmogmeoappab
