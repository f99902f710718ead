/- Walk: the law FitCompiles. -/
import Derived.Test.YtibpmogmeoappabJFitJ
import Derived.Test.YtibpmogmeoappabJFitK
namespace Go.Proofs.Ytibpmogmeoappab
open Go.RowKit

theorem ints_off {w : World} {A : Option Addr} {l : List Int} {g : Nat} {t : TypeId} {a b : Option Addr} {i j k m : Nat} (h : Ints w A l) (hb : Blk w g t [.slice a i j, .slice b k m]) : l ≠ [] → ∀ x, A = some x → x.block ≠ g := by
  intro hl x hx e
  have h0 : 0 < l.length := by cases l with
    | nil => exact absurd rfl hl
    | cons y ys => simp
  obtain ⟨b9, o, y, e1, _, _, hc⟩ := h.at_ 0 h0
  rw [hx] at e1
  injection e1 with e1
  subst e1
  simp only at e
  subst e
  rw [hb.cell] at hc
  match o, hc with
  | 0, hc => simp at hc
  | 1, hc => simp at hc
  | o + 2, hc => simp at hc
set_option maxRecDepth 100000 in
set_option maxHeartbeats 8000000 in
theorem fitCompiles_any (W H S O : Int) (PA : Option Addr) (n c : Nat) (ps : List Pas) (w : World) (hn : ps.length = n) (hP : Passes w PA ps) (hl : n ≤ 9223372036854775807) :
    Calls Try.prog 12 #[.agg #[.int .i64 W, .int .i64 H, .int .i64 S, .int .i64 O, .slice PA n c]] w fun e w' => e = .returned (.bool true) ∧ Below w.heap.size w w' := by
  have hb := (Below.refl w.heap.size w).alloc (Nat.le_refl _) (.cells #[.int .i64 W, .int .i64 H, .int .i64 S, .int .i64 O, .slice PA n c] 24)
  have hbx := (show FrmBox (w.alloc (.cells #[.int .i64 W, .int .i64 H, .int .i64 S, .int .i64 O, .slice PA n c] 24)) w.heap.size W H S O PA n c from Blk.new w 24 (frmCells W H S O PA n c))
  have hpp := hP.keep hb
  obtain ⟨w1, hw1⟩ : ∃ w1, w.alloc (.cells #[.int .i64 W, .int .i64 H, .int .i64 S, .int .i64 O, .slice PA n c] 24) = w1 := ⟨_, rfl⟩
  rw [hw1] at hb hbx hpp
  obtain ⟨f, hf⟩ : ∃ f : Frm, f = ⟨W, H, S, O, ps⟩ := ⟨_, rfl⟩
  have hcm := fun (W0 : World) (h1 : Passes W0 PA ps) => compile_any W H S O PA n c ps W0 hn h1
  have hcf := fun (W0 : World) (h1 : Passes W0 PA ps) => checkFrame_ref W H S O PA n c ps W0 hn h1 hl
  rw [← hf] at hcm hcf
  have HBX := hide (Keeps.blk hbx)
  have HB := hide hb
  have HP := hide (Keeps.passes hpp)
  by_cases hz : frErr f = 0
  · have hok := frErr_zero.1 hz
    have hca : compAns f = comp f := if_pos hz
    have hco := fun (W0 : World) (h1 : Passes W0 PA ps) => compileOf_ref W H S O PA n c ps W0 hn h1 (by rw [← hf]; exact hok)
    rw [hca, hz] at hcm
    rw [hz] at hcf
    rw [← hf] at hco
    obtain ⟨q, hq⟩ : ∃ q, comp f = q := ⟨_, rfl⟩
    have hql : q.Order.length ≤ 12 ∧ q.Places.length ≤ 12 := by
      have h1 := compO_len hok
      have h2 := hok.many
      rw [← hq]
      refine ⟨h1, ?_⟩
      show (placesTo f (List.replicate f.P.length (-1)) (compO f).length).length ≤ 12
      rw [placesTo_len, List.length_replicate]
      exact h2.2
    rw [hq] at hcm hco
    have HCM := hide hcm
    have HCF := hide hcf
    have HCO := hide hco
    clear hcm hcf hco hq hca hok hz hf hn hP hb hbx hpp hl
    obtain ⟨x, q0, q1, q2, q3, q4⟩ := FrmBox.cells (show FrmBox _ _ W H S O PA n c from HBX.out.now)
    go_enter Try.func12, Try.ntmps12
    go_wp2_with fail
    refine ((unhide HCM) _ HP.out.now).mono ?_
    rintro e w2 ⟨OA, on, oc, QA, qn, qc, rfl, hon, hqn, hO, hQ, -, -, -, -, hE2⟩
    have hal : Below w2.heap.size w2 (w2.alloc (.cells #[.slice OA on oc, .slice QA qn qc] 27)) := (Below.refl _ _).alloc (Nat.le_refl _) _
    have hpx := Blk.new w2 27 [.slice OA on oc, .slice QA qn qc]
    have hO2 := hO.keep hal
    have hQ2 := hQ.keep hal
    have hE2a := hE2.trans (hal.mono hE2.size)
    have HB2 := hide (HB.out.trans (hE2a.mono HB.out.size))
    have HBX2 := hide (HBX.out.move hE2a)
    have HP2 := hide (HP.out.move hE2a)
    have HPX2 := hide (((Keeps.blk hpx).and (Keeps.ints hO2)).and (Keeps.ints hQ2))
    clear hal hpx hO2 hQ2 hE2a hE2 hO hQ HB HBX HP HCM hw1 x q0 q1 q2 q3 q4
    obtain ⟨x, q0, q1, q2, q3, q4⟩ := FrmBox.cells (show FrmBox _ _ W H S O PA n c from HBX2.out.now)
    go_wp2_with fail
    refine ((unhide HCF) _ HP2.out.now).mono ?_
    rintro e w3 ⟨SA, sn, sc, rfl, -, -, hE3⟩
    have hal : Below w3.heap.size w3 (w3.alloc (.cells #[.slice none 0 0, .slice none 0 0] 27)) := (Below.refl _ _).alloc (Nat.le_refl _) _
    have hvx := Blk.new w3 27 [.slice none 0 0, .slice none 0 0]
    have hE3a := hE3.trans (hal.mono hE3.size)
    have HB3 := hide (HB2.out.trans (hE3a.mono HB2.out.size))
    have HBX3 := hide (HBX2.out.move hE3a)
    have HP3 := hide (HP2.out.move hE3a)
    have HPX3 := hide (HPX2.out.move hE3)
    have HVX3 := hide (Keeps.blk hvx)
    have HS3 := hide (show w.heap.size ≤ w3.heap.size from by have h1 := HB2.out.size; have h2 := hE3.size; omega)
    have HS2 := hide (show w2.heap.size < w3.heap.size from by have h2 := hE3.size; simp only [World.size_alloc] at h2; omega)
    clear hal hvx hE3a hE3 HB2 HBX2 HP2 HCF HPX2 x q0 q1 q2 q3 q4
    obtain ⟨x, q0, q1, q2, q3, q4⟩ := FrmBox.cells (show FrmBox _ _ W H S O PA n c from HBX3.out.now)
    go_wp2_with fail
    refine ((unhide HCO) _ HP3.out.now).mono ?_
    rintro e w4 ⟨OB, bn, bc, QB, m, d, rfl, hbn, hm, hO4, hQ4, -, -, hE4⟩
    have hvx4 := HVX3.out.later _ hE4
    have f0 := hvx4.frozen 0
    have f1 := hvx4.frozen 1
    obtain ⟨y, r0, r1⟩ := plan_box hvx4
    have hal : Below w3.heap.size w3 (w3.alloc (.cells #[.slice none 0 0, .slice none 0 0] 27)) := (Below.refl _ _).alloc (Nat.le_refl _) _
    have hb5 := ((hal.trans (hE4.mono hal.size)).setCell (p := ⟨w3.heap.size, 0, none⟩) (Nat.le_refl _) (.slice OB bn bc)).setCell (p := ⟨w3.heap.size, 1, none⟩) (Nat.le_refl _) (.slice QB m d)
    have hg5 := grown_trB (grown_put w4 ⟨w3.heap.size, 0, none⟩ (.slice OB bn bc)) (grown_put _ ⟨w3.heap.size, 1, none⟩ (.slice QB m d))
    have hO5 := Ints.but hO4 hg5 (ints_off hO4 hvx4)
    have hQ5 := Ints.but hQ4 hg5 (ints_off hQ4 hvx4)
    have hV5 := (hvx4.set_ 0 (.slice OB bn bc)).set_ 1 (.slice QB m d)
    have hp5 := HPX3.out.later _ hb5
    have hbe := ((HB3.out.trans (hE4.mono HB3.out.size)).setCell (p := ⟨w3.heap.size, 0, none⟩) HS3.out (.slice OB bn bc)).setCell (p := ⟨w3.heap.size, 1, none⟩) HS3.out (.slice QB m d)
    have HK5 := hide ((((Keeps.blk hV5).and (Keeps.ints hO5)).and (Keeps.ints hQ5)))
    have HP5 := hide (show Keeps ((w4.setCell ⟨w3.heap.size, 0, none⟩ (.slice OB bn bc)).setCell ⟨w3.heap.size, 1, none⟩ (.slice QB m d)) (fun W9 => (Blk W9 w2.heap.size 27 [.slice OA on oc, .slice QA qn qc] ∧ Ints W9 OA q.Order) ∧ Ints W9 QA q.Places) from ⟨hp5, fun _ hb => ⟨⟨hp5.1.1.keep hb, hp5.1.2.keep hb⟩, hp5.2.keep hb⟩⟩)
    have HBE := hide hbe
    clear hal hb5 hg5 hO5 hQ5 hV5 hp5 hbe hO4 hQ4 hvx4 hE4 HPX3 HVX3 HB3 HBX3 HP3 HCO x q0 q1 q2 q3 q4
    go_wp2_with fail
    refine (fitBegun_any _).mono ?_
    rintro e w6 ⟨rfl, hE6⟩
    have HB6 := hide (HBE.out.trans (hE6.mono HBE.out.size))
    obtain ⟨⟨hpx, hA4⟩, hA5⟩ := HP5.out.later _ hE6
    obtain ⟨⟨hvx, hA6⟩, hA7⟩ := HK5.out.later _ hE6
    have HSP := hide (samePlans_any OA QA OB QB on oc qn qc bn bc m d q q w6 hon hqn hbn hm hA4 hA5 hA6 hA7 (by omega) (by omega))
    clear y r0 r1 f0 f1 HP5 HK5 HBE hA4 hA5 hA6 hA7 hE6
    obtain ⟨y, r0, r1⟩ := plan_box hpx
    obtain ⟨z, s0, s1⟩ := plan_box hvx
    clear hpx hvx
    go_wp2_with fail
    refine (unhide HSP).mono ?_
    rintro e w7 ⟨rfl, hE7⟩
    have HB7 := hide (HB6.out.trans (hE7.mono HB6.out.size))
    clear hE7 HSP HB6
    go_wp2_with fail
    go_ret
    exact ⟨ret_bool (by simp), HB7.out⟩
  · have hca : compAns f = ⟨[], []⟩ := if_neg hz
    rw [hca] at hcm
    obtain ⟨er, her⟩ : ∃ er, frErr f = er := ⟨_, rfl⟩
    rw [her] at hcm hcf hz
    have hz2 : (er == 0) = false := by simpa using hz
    have HCM := hide hcm
    have HCF := hide hcf
    clear hcm hcf hca her hz hf hn hP hb hbx hpp hl
    obtain ⟨x, q0, q1, q2, q3, q4⟩ := FrmBox.cells (show FrmBox _ _ W H S O PA n c from HBX.out.now)
    go_enter Try.func12, Try.ntmps12
    go_wp2_with fail
    refine ((unhide HCM) _ HP.out.now).mono ?_
    rintro e w2 ⟨OA, on, oc, QA, qn, qc, rfl, hon, hqn, hO, hQ, -, -, -, -, hE2⟩
    obtain rfl : on = 0 := hon.symm
    obtain rfl : qn = 0 := hqn.symm
    have hal : Below w2.heap.size w2 (w2.alloc (.cells #[.slice OA 0 oc, .slice QA 0 qc] 27)) := (Below.refl _ _).alloc (Nat.le_refl _) _
    have hpx := Blk.new w2 27 [.slice OA 0 oc, .slice QA 0 qc]
    have hE2a := hE2.trans (hal.mono hE2.size)
    have HB2 := hide (HB.out.trans (hE2a.mono HB.out.size))
    have HBX2 := hide (HBX.out.move hE2a)
    have HP2 := hide (HP.out.move hE2a)
    have HPX2 := hide (Keeps.blk hpx)
    clear hal hpx hE2a hE2 hO hQ HB HBX HP HCM hw1 x q0 q1 q2 q3 q4 hon hqn
    obtain ⟨x, q0, q1, q2, q3, q4⟩ := FrmBox.cells (show FrmBox _ _ W H S O PA n c from HBX2.out.now)
    go_wp2_with fail
    refine ((unhide HCF) _ HP2.out.now).mono ?_
    rintro e w3 ⟨SA, sn, sc, rfl, -, -, hE3⟩
    have hal : Below w3.heap.size w3 (w3.alloc (.cells #[.slice none 0 0, .slice none 0 0] 27)) := (Below.refl _ _).alloc (Nat.le_refl _) _
    have hvx := Blk.new w3 27 [.slice none 0 0, .slice none 0 0]
    have hE3a := hE3.trans (hal.mono hE3.size)
    have HB3 := hide (HB2.out.trans (hE3a.mono HB2.out.size))
    have HPX3 := hide (HPX2.out.move hE3a)
    have HVX3 := hide (Keeps.blk hvx)
    clear hal hvx hE3a hE3 HB2 HBX2 HP2 HCF HPX2 x q0 q1 q2 q3 q4
    go_wp2_with fail
    refine (fitBegun_any _).mono ?_
    rintro e w6 ⟨rfl, hE6⟩
    have HB6 := hide (HB3.out.trans (hE6.mono HB3.out.size))
    have hpx := HPX3.out.later _ hE6
    have hvx := HVX3.out.later _ hE6
    have HSP := hide (samePlans_any OA QA none none 0 oc 0 qc 0 0 0 0 ⟨[], []⟩ ⟨[], []⟩ w6 rfl rfl rfl rfl (Ints.nil _ _) (Ints.nil _ _) (Ints.nil _ _) (Ints.nil _ _) (by omega) (by omega))
    obtain ⟨y, r0, r1⟩ := plan_box hpx
    obtain ⟨z, s0, s1⟩ := plan_box hvx
    clear hpx hvx hE6 HB3 HPX3 HVX3
    go_wp2_with fail
    refine (unhide HSP).mono ?_
    rintro e w7 ⟨rfl, hE7⟩
    have HB7 := hide (HB6.out.trans (hE7.mono HB6.out.size))
    clear hE7 HSP HB6
    go_wp2_with fail
    go_ret
    exact ⟨rfl, HB7.out⟩
end Go.Proofs.Ytibpmogmeoappab
