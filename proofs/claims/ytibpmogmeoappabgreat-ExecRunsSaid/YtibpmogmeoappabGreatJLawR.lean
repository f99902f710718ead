/- Walk: the law ExecRuns. -/
import Derived.Test.YtibpmogmeoappabGreatJExcD
import Derived.Test.YtibpmogmeoappabGreatJExcK
import Derived.Test.YtibpmogmeoappabGreatJExcH
namespace Go.Proofs.YtibpmogmeoappabGreat
open Go.RowKit

set_option maxRecDepth 100000 in
set_option maxHeartbeats 8000000 in
theorem execRuns_any (W H S O : Int) (PA : Option Addr) (n c : Nat) (ps : List Pas) (OA : Option Addr) (on oc : Nat) (Od : List Int) (QA : Option Addr) (qn qc : Nat) (Pl : List Int) (GA : Option Addr) (gn gc : Nat) (l : List Int) (w : World) (hn : ps.length = n) (hP : Passes w PA ps) (hl : n ≤ 9223372036854775807)
    (hon : Od.length = on) (hO : Ints w OA Od) (hol : on ≤ 9223372036854775807) (hoc : on ≤ oc) (hqn : Pl.length = qn) (hQ : Ints w QA Pl) (hql : qn ≤ 9223372036854775807) (hgn : l.length = gn) (hG : Ints w GA l) (hgl : gn ≤ 9223372036854775807) (hgc : gn ≤ gc) :
    Calls Tryz.prog 3 #[.agg #[.int .i64 W, .int .i64 H, .int .i64 S, .int .i64 O, .slice PA n c], .agg #[.slice OA on oc, .slice QA qn qc], .slice GA gn gc] w fun e w' => e = .returned (.bool true) ∧ Below w.heap.size w w' := by
  have hb := ((Below.refl w.heap.size w).alloc (Nat.le_refl _) (.cells #[.int .i64 W, .int .i64 H, .int .i64 S, .int .i64 O, .slice PA n c] 24)).alloc (by simp) (.cells #[.slice OA on oc, .slice QA qn qc] 27)
  have hbx := (show FrmBox (w.alloc (.cells #[.int .i64 W, .int .i64 H, .int .i64 S, .int .i64 O, .slice PA n c] 24)) w.heap.size W H S O PA n c from Blk.new w 24 (frmCells W H S O PA n c)).alloc (.cells #[.slice OA on oc, .slice QA qn qc] 27)
  have hpx : Blk ((w.alloc (.cells #[.int .i64 W, .int .i64 H, .int .i64 S, .int .i64 O, .slice PA n c] 24)).alloc (.cells #[.slice OA on oc, .slice QA qn qc] 27)) (w.heap.size + 1) 27 [.slice OA on oc, .slice QA qn qc] := Blk.newE (by simp)
  obtain ⟨p, hp⟩ : ∃ p : Pln, p = ⟨Od, Pl⟩ := ⟨_, rfl⟩
  have hop : p.Order = Od := by rw [hp]
  have hqp : p.Places = Pl := by rw [hp]
  rw [← hop] at hon hO
  rw [← hqp] at hqn hQ
  have hst := execRun_any W H S O PA n c ps OA on oc QA qn qc p GA gn gc l _ hn (hP.keep hb) (hO.keep hb) hon hol hoc (hQ.keep hb) hqn hql (hG.keep hb) hgn hgl
  have her := fun (W0 : World) (h1 : Passes W0 PA ps) (h2 : Ints W0 OA p.Order) (h3 : Ints W0 QA p.Places) (h4 : Ints W0 GA l) => execError_ref W H S O PA n c ps OA on oc QA qn qc p GA gn gc l W0 hn h1 hl h2 hon hol h3 hqn hql h4 hgn hgl
  have hsr := fun (g s : Nat) (h : GA = some ⟨g, s, none⟩) (W0 : World) (h1 : Passes W0 PA ps) (h2 : Ints W0 OA p.Order) (h3 : Ints W0 QA p.Places) (h4 : Ints W0 GA l) (hok : ArOk ⟨W, H, S, O, ps⟩ p l) => (show Calls Tryz.prog 6 #[.agg #[.int .i64 W, .int .i64 H, .int .i64 S, .int .i64 O, .slice PA n c], .agg #[.slice OA on oc, .slice QA qn qc], .slice GA gn gc] W0 (RetImg W0 (runImg ⟨W, H, S, O, ps⟩ p l)) from by
    subst h; exact runOf_ref W H S O PA n c ps OA on oc QA qn qc p g s gn gc l W0 hn h1 hl h2 hon h3 hqn h4 hgn hgc hok)
  have hio := hO.keep hb
  have hiq := hQ.keep hb
  have hig := hG.keep hb
  have hpa := hP.keep hb
  obtain ⟨f, hf⟩ : ∃ f : Frm, f = ⟨W, H, S, O, ps⟩ := ⟨_, rfl⟩
  rw [← hf] at hst her hsr
  obtain ⟨w1, hw1⟩ : ∃ w1, ((w.alloc (.cells #[.int .i64 W, .int .i64 H, .int .i64 S, .int .i64 O, .slice PA n c] 24)).alloc (.cells #[.slice OA on oc, .slice QA qn qc] 27)) = w1 := ⟨_, rfl⟩
  rw [hw1] at hb hbx hpx hio hiq hig hpa hst
  have HB := hide hb
  have HBX := hide (Keeps.blk hbx)
  have HPX := hide (Keeps.blk hpx)
  have HIO := hide (Keeps.ints hio)
  have HIQ := hide (Keeps.ints hiq)
  have HIG := hide (Keeps.ints hig)
  have HP := hide (Keeps.passes hpa)
  have HSR := hide hsr
  obtain ⟨z, hz⟩ : ∃ z, execErr f p l = z := ⟨_, rfl⟩
  obtain ⟨J, hJ⟩ : ∃ J, runAns f p l = J := ⟨_, rfl⟩
  rw [hz, hJ] at hst
  rw [hz] at her
  have HST := hide hst
  have HER := hide her
  have HZ := hide hz
  have HJ := hide hJ
  obtain ⟨x, q0, q1, q2, q3, q4⟩ := FrmBox.cells (show FrmBox _ _ W H S O PA n c from hbx)
  obtain ⟨y, r0, r1⟩ := plan_box hpx
  clear hn hP hl hon hO hol hoc hqn hQ hql hgn hG hgl hgc hb hbx hpx hio hiq hig hpa hp hop hqp hf hst her hsr hz hJ
  go_enter Tryz.func3, Tryz.ntmps3
  go_wp2_with fail
  refine (unhide HST).mono ?_
  rintro e w2 ⟨U2, V2, P2, A2, n2, c2, hr2, hn2, rfl, hI2, hM2, hE2⟩
  have hal2 : Below w2.heap.size w2 (w2.alloc (.cells #[.int .i64 U2, .int .i64 V2, .slice A2 n2 c2] 29)) := (Below.refl _ _).alloc (Nat.le_refl _) _
  have HE2 := hide (hE2.trans (hal2.mono hE2.size))
  have HK2 := hide (((Keeps.ints hI2).move hal2).and (Keeps.blk (Blk.new w2 29 [.int .i64 U2, .int .i64 V2, .slice A2 n2 c2])))
  have HR2 := hide hr2
  have HN2 := hide hn2
  clear hw1 x q0 q1 q2 q3 q4 y r0 r1 hn2 hI2 hM2 hE2 hal2 hr2 HST
  obtain ⟨x, q0, q1, q2, q3, q4⟩ := FrmBox.cells (show FrmBox _ _ W H S O PA n c from HBX.out.later _ HE2.out)
  obtain ⟨y, r0, r1⟩ := plan_box (HPX.out.later _ HE2.out)
  go_wp2_with fail
  refine ((unhide HER) _ (HP.out.later _ HE2.out) (HIO.out.later _ HE2.out) (HIQ.out.later _ HE2.out) (HIG.out.later _ HE2.out)).mono ?_
  rintro e w3 ⟨rfl, hE3⟩
  have hal3 : Below w3.heap.size w3 (w3.alloc (.cells #[.int .i64 0, .int .i64 0, .slice none 0 0] 29)) := (Below.refl _ _).alloc (Nat.le_refl _) _
  have HXA := hide (hE3.trans (hal3.mono hE3.size))
  have HE3 := hide (HE2.out.trans (HXA.out.mono HE2.out.size))
  have HEA := hide HE2.out
  have hs23 := hE3.size
  simp only [World.size_alloc] at hs23
  have HW3 := hide (Blk.new w3 29 [.int .i64 0, .int .i64 0, .slice none 0 0])
  clear x q0 q1 q2 q3 q4 y r0 r1 hE3 hal3 HE2 HER
  obtain ⟨x, q0, q1, q2, q3, q4⟩ := FrmBox.cells (show FrmBox _ _ W H S O PA n c from HBX.out.later _ HE3.out)
  obtain ⟨y, r0, r1⟩ := plan_box (HPX.out.later _ HE3.out)
  by_cases h0 : z = 0
  · have hok := execErr_zero.1 (HZ.out.trans h0)
    have hJ0 : runImg f p l = J := by rw [← HJ.out]; unfold runAns; rw [if_pos (HZ.out.trans h0)]
    subst h0
    obtain ⟨gb, go, gv, hGA, _, _, _⟩ := (HIG.out.later _ HE3.out).at_ 0 hok.pos
    have hsr := (unhide HSR) gb go hGA _ (HP.out.later _ HE3.out) (HIO.out.later _ HE3.out) (HIQ.out.later _ HE3.out) (HIG.out.later _ HE3.out) hok
    rw [hJ0] at hsr
    have HS3 := hide hsr
    have hn9 : n2 ≤ 9223372036854775807 := by
      have h1 : P2 = (runImg f p l).P := by rw [hJ0, ← HR2.out]
      have h2 := (runTo_ok hok (Nat.le_refl _)).2
      have h3 := hok.room
      rw [← HN2.out, h1]
      unfold runImg lieAt
      simp only [List.length_take, List.length_drop]
      omega
    clear hok hsr hGA HSR hJ0
    go_wp2_with fail
    refine (unhide HS3).mono ?_
    rintro e w4 ⟨U4, V4, P4, A4, n4, c4, hr4, hn4, rfl, hI4, hM4, hE4⟩
    have hr24 := HR2.out.trans hr4.symm
    injection hr24 with x1 x2 x3
    subst x1 x2 x3
    obtain rfl : n2 = n4 := HN2.out.symm.trans hn4
    obtain ⟨t0, t1, t2, t3, t4, t5, t6⟩ := resKeep hE4 HW3.out
    have hx4 := HXA.out.trans (hE4.mono HXA.out.size)
    have hr3 : w2.heap.size + 1 ≤ w3.heap.size := by omega
    have HXW := hide (((hx4.setCell (p := ⟨w3.heap.size, 0, none⟩) (by simpa using hr3) (.int .i64 U2)).setCell (p := ⟨w3.heap.size, 1, none⟩) (by simpa using hr3) (.int .i64 V2)).setCell (p := ⟨w3.heap.size, 2, none⟩) (by simpa using hr3) (.slice A4 n2 c4))
    have HBW := hide (show Blk (((w4.setCell ⟨w3.heap.size, 0, none⟩ (.int .i64 U2)).setCell ⟨w3.heap.size, 1, none⟩ (.int .i64 V2)).setCell ⟨w3.heap.size, 2, none⟩ (.slice A4 n2 c4)) w3.heap.size 29 [.int .i64 U2, .int .i64 V2, .slice A4 n2 c4] from (((HW3.out.keep hE4).set_ 0 (.int .i64 U2)).set_ 1 (.int .i64 V2)).set_ 2 (.slice A4 n2 c4))
    have hlt : w3.heap.size < (w3.alloc (.cells #[.int .i64 0, .int .i64 0, .slice none 0 0] 29)).heap.size := by simp
    have HIW := hide (((hI4.far hM4.new (p := ⟨w3.heap.size, 0, none⟩) hlt (.int .i64 U2)).far hM4.new (p := ⟨w3.heap.size, 1, none⟩) hlt (.int .i64 V2)).far hM4.new (p := ⟨w3.heap.size, 2, none⟩) hlt (.slice A4 n2 c4))
    have HB1 := hide (show Below w1.heap.size w1 _ from (show Below w1.heap.size w1 (w2.alloc (.cells #[.int .i64 U2, .int .i64 V2, .slice A2 n2 c2] 29)) from HEA.out).trans (HXW.out.mono HEA.out.size))
    clear x q0 q1 q2 q3 q4 y r0 r1 hx4 hI4 hM4 hE4 hn4 hr4 HS3 HXA HE3 HW3 hlt
    go_wp2_with fail
    refine (execBegun_any _).mono ?_
    rintro e w5 ⟨rfl, hE5⟩
    obtain ⟨hi2, hk2⟩ := HK2.out.later _ (HXW.out.trans (hE5.mono HXW.out.size))
    have k0 : w5.cell? ⟨w2.heap.size, 0, none⟩ = some (.int .i64 U2) := (hk2.cell 0).trans rfl
    have k1 : w5.cell? ⟨w2.heap.size, 1, none⟩ = some (.int .i64 V2) := (hk2.cell 1).trans rfl
    have k2 : w5.cell? ⟨w2.heap.size, 2, none⟩ = some (.slice A2 n2 c2) := (hk2.cell 2).trans rfl
    have hb5 := HBW.out.keep hE5
    have k3 : w5.cell? ⟨w3.heap.size, 0, none⟩ = some (.int .i64 U2) := (hb5.cell 0).trans rfl
    have k4 : w5.cell? ⟨w3.heap.size, 1, none⟩ = some (.int .i64 V2) := (hb5.cell 1).trans rfl
    have k5 : w5.cell? ⟨w3.heap.size, 2, none⟩ = some (.slice A4 n2 c4) := (hb5.cell 2).trans rfl
    have HSI := hide (sameImages_any U2 V2 U2 V2 A2 A4 n2 c2 n2 c4 P2 P2 w5 HN2.out HN2.out hi2 (HIW.out.keep hE5) hn9)
    have HB5 := hide (HB1.out.trans (hE5.mono HB1.out.size))
    rw [show decide ((⟨U2, V2, P2⟩ : Img) = ⟨U2, V2, P2⟩) = true from decide_eq_true rfl] at HSI
    clear hi2 hk2 hb5 hE5 HXW HBW HIW HB1 HK2 t0 t1 t2 t3 t4 t5 t6
    go_wp2_with fail
    refine (unhide HSI).mono ?_
    rintro e w6 ⟨rfl, hE6⟩
    have HB6 := hide (HB5.out.trans (hE6.mono HB5.out.size))
    clear hE6 HSI
    go_wp2_with fail
    go_ret
    exact ⟨rfl, HB.out.trans (HB6.out.mono HB.out.size)⟩
  · have hj0 : J = Img.none := by rw [← HJ.out]; exact if_neg (by rw [HZ.out]; exact h0)
    have hr2 := HR2.out.trans hj0
    injection hr2 with x1 x2 x3
    subst x1 x2 x3
    obtain rfl : n2 = 0 := HN2.out.symm
    have hz2 : (z == 0) = false := by simpa using h0
    clear h0 hj0
    clear x q0 q1 q2 q3 q4 y r0 r1 HSR
    go_wp2_with fail
    refine (execBegun_any _).mono ?_
    rintro e w5 ⟨rfl, hE5⟩
    obtain ⟨hi2, hk2⟩ := HK2.out.later _ (HXA.out.trans (hE5.mono HXA.out.size))
    have k0 : w5.cell? ⟨w2.heap.size, 0, none⟩ = some (.int .i64 0) := (hk2.cell 0).trans rfl
    have k1 : w5.cell? ⟨w2.heap.size, 1, none⟩ = some (.int .i64 0) := (hk2.cell 1).trans rfl
    have k2 : w5.cell? ⟨w2.heap.size, 2, none⟩ = some (.slice A2 0 c2) := (hk2.cell 2).trans rfl
    have hb5 := HW3.out.keep hE5
    have k3 : w5.cell? ⟨w3.heap.size, 0, none⟩ = some (.int .i64 0) := (hb5.cell 0).trans rfl
    have k4 : w5.cell? ⟨w3.heap.size, 1, none⟩ = some (.int .i64 0) := (hb5.cell 1).trans rfl
    have k5 : w5.cell? ⟨w3.heap.size, 2, none⟩ = some (.slice none 0 0) := (hb5.cell 2).trans rfl
    have HSI := hide (sameImages_any 0 0 0 0 A2 none 0 c2 0 0 [] [] w5 rfl rfl hi2 (Ints.nil _ _) (by omega))
    have HB5 := hide (HE3.out.trans (hE5.mono HE3.out.size))
    rw [show decide ((⟨0, 0, []⟩ : Img) = ⟨0, 0, []⟩) = true from decide_eq_true rfl] at HSI
    clear hi2 hk2 hb5 hE5 HXA HE3 HK2 HW3
    go_wp2_with fail
    refine (unhide HSI).mono ?_
    rintro e w6 ⟨rfl, hE6⟩
    have HB6 := hide (HB5.out.trans (hE6.mono HB5.out.size))
    clear hE6 HSI
    go_wp2_with fail
    go_ret
    exact ⟨rfl, HB.out.trans (HB6.out.mono HB.out.size)⟩
end Go.Proofs.YtibpmogmeoappabGreat
