/- Walk of the law LightTells. (Printed by gen_lightlaw.py.) -/
import Derived.Test.YtibpmogmeoappaaLitM
namespace Go.Proofs.Ytibpmogmeoappaa
open Go.RowKit

def SaysTrue (w : World) (e : Ending) (w' : World) : Prop := e = .returned (.bool true) ∧ Below w.heap.size w w'

set_option maxRecDepth 100000 in
set_option maxHeartbeats 2000000 in
theorem lightTells_bad (A : Option Addr) (n c : Nat) (ls : List Lamp) (x y cw ch : Int) (w : World) (hn : ls.length = n) (hL : Lamps w A ls) (hl : n ≤ 9223372036854775807) (hz : lampsErr ls ≠ 0) :
    Calls Try.prog 7 #[.slice A n c, .int .i64 x, .int .i64 y, .int .i64 cw, .int .i64 ch] w (SaysTrue w) := by
  have r1 : lampAtErr ls x y = lampsErr ls := if_neg hz
  have r2 : lampAtAns ls x y = 0 := if_neg (by rw [r1]; exact hz)
  have r3 : lampNearErr ls x y cw ch = lampsErr ls := if_neg hz
  have r4 : lampNearAns ls x y cw ch = [] := if_neg (by rw [r3]; exact hz)
  have HAT := hide (fun (W0 : World) (h : Lamps W0 A ls) => lampAt_any A n c ls x y W0 hn h hl)
  have HNR := hide (fun (W0 : World) (h : Lamps W0 A ls) => lampNear_any A n c ls x y cw ch W0 hn h hl)
  have HCK := hide (fun (W0 : World) (h : Lamps W0 A ls) => checkLights_any A n c ls W0 hn h hl)
  have HCR := hide (fun (W0 : World) (h : Lamps W0 A ls) => checkLights_ref A n c ls W0 hn h hl)
  rw [r2, r1] at HAT
  rw [r4, r3] at HNR
  have hnl : List.length (α := Int) ([]) ≤ 9223372036854775807 := by
    simp
  have HNL := hide hnl
  have HK0 := hide (Keeps.lamps hL)
  have HB0 := hide (Below.refl w.heap.size w)
  clear hn hL r1 r2 r3 r4 hnl
  generalize lampsErr ls = z at *
  have hz1 : (z == 0) = false := by simpa using hz
  clear hz
  go_enter Try.func7, Try.ntmps7
  go_wp2_with fail
  refine ((unhide HAT) _ HK0.out.now).mono ?_
  rintro e w1 ⟨rfl, hE1⟩
  have HB1 := hide (HB0.out.trans (hE1.mono HB0.out.size))
  have HK1 := hide (HK0.out.move hE1)
  clear HB0 HK0 hE1
  go_wp2_with fail
  refine ((unhide HNR) _ HK1.out.now).mono ?_
  rintro e w2 ⟨A2, n2, c2, rfl, hn2, hI2, _, hE2⟩
  have HN2 := hide hn2
  have HB2 := hide (HB1.out.trans (hE2.mono HB1.out.size))
  have HK2 := hide ((HK1.out.move hE2).and (Keeps.ints hI2))
  clear HB1 HK1 hE2 hI2 hn2
  go_wp2_with fail
  refine ((unhide HCR) _ HK2.out.now.1).mono ?_
  rintro e w3 ⟨rfl, he3⟩
  subst he3
  go_wp2_with fail
  all_goals try (exfalso; omega)
  all_goals try (exfalso; simp only [Bool.not_eq_true', Bool.not_eq_false', decide_eq_true_eq, decide_eq_false_iff_not] at *; omega)
  all_goals
    refine (lightBegun_any _).mono ?_
    rintro e w6 ⟨rfl, hE6⟩
    have HB6 := hide (HB2.out.trans (hE6.mono HB2.out.size))
    have HK6 := hide (HK2.out.move hE6)
    clear HB2 HK2 hE6
    go_wp2_with fail
    refine ((unhide HCK) _ HK6.out.now.1).mono ?_
    rintro e w7 ⟨rfl, hE7⟩
    have HB7 := hide (HB6.out.trans (hE7.mono HB6.out.size))
    have HK7 := hide (HK6.out.move hE7)
    clear HB6 HK6 hE7
    go_wp2_with fail
    refine ((unhide HCR) _ HK7.out.now.1).mono ?_
    rintro e w8 ⟨rfl, he8⟩
    subst he8
    go_wp2_with fail
    refine (sameInts_any A2 none n2 c2 0 0 ([]) ([]) _ HN2.out rfl HK7.out.now.2 (Ints.nil _ _) (by have h1 := HNL.out; have h2 := HN2.out; omega)).mono ?_
    rintro e w9 ⟨he9, hE9⟩
    rw [decide_eq_true rfl] at he9
    subst he9
    have HB9 := hide (HB7.out.trans (hE9.mono HB7.out.size))
    clear HB7 HK7 hE9
    go_wp2_with fail
    go_ret
    exact ⟨by simp, HB9.out⟩

set_option maxRecDepth 100000 in
set_option maxHeartbeats 2000000 in
theorem lightTells_out (A : Option Addr) (n c : Nat) (ls : List Lamp) (x y cw ch : Int) (w : World) (hn : ls.length = n) (hL : Lamps w A ls) (hl : n ≤ 9223372036854775807) (hz : lampsErr ls = 0) (hi : x < 0 ∨ (0 ≤ x ∧ 16 ≤ x) ∨ (0 ≤ x ∧ x < 16 ∧ y < 0) ∨ (0 ≤ x ∧ x < 16 ∧ 0 ≤ y ∧ 16 ≤ y)) :
    Calls Try.prog 7 #[.slice A n c, .int .i64 x, .int .i64 y, .int .i64 cw, .int .i64 ch] w (SaysTrue w) := by
  have hno : ¬ Inside x y := by unfold Inside; omega
  have r1 : lampAtErr ls x y = 3 := by unfold lampAtErr; rw [if_pos hz, if_neg hno]
  have r2 : lampAtAns ls x y = 0 := if_neg (by omega)
  have r3 : lampNearErr ls x y cw ch = 3 := by unfold lampNearErr; rw [if_pos hz, if_neg (fun h => hno h.1)]
  have r4 : lampNearAns ls x y cw ch = [] := if_neg (by omega)
  clear hno
  have HAT := hide (fun (W0 : World) (h : Lamps W0 A ls) => lampAt_any A n c ls x y W0 hn h hl)
  have HNR := hide (fun (W0 : World) (h : Lamps W0 A ls) => lampNear_any A n c ls x y cw ch W0 hn h hl)
  have HCK := hide (fun (W0 : World) (h : Lamps W0 A ls) => checkLights_any A n c ls W0 hn h hl)
  have HCR := hide (fun (W0 : World) (h : Lamps W0 A ls) => checkLights_ref A n c ls W0 hn h hl)
  rw [r2, r1] at HAT
  rw [r4, r3] at HNR
  rw [hz] at HCK HCR
  have hnl : List.length (α := Int) ([]) ≤ 9223372036854775807 := by
    simp
  have HNL := hide hnl
  have HK0 := hide (Keeps.lamps hL)
  have HB0 := hide (Below.refl w.heap.size w)
  clear hn hL r1 r2 r3 r4 hnl
  skip
  clear hz
  rcases hi with h1 | ⟨h1, h2⟩ | ⟨h1, h2, h3⟩ | ⟨h1, h2, h3, h4⟩
  all_goals
    go_enter Try.func7, Try.ntmps7
    go_wp2_with fail
    refine ((unhide HAT) _ HK0.out.now).mono ?_
    rintro e w1 ⟨rfl, hE1⟩
    have HB1 := hide (HB0.out.trans (hE1.mono HB0.out.size))
    have HK1 := hide (HK0.out.move hE1)
    clear HB0 HK0 hE1
    go_wp2_with fail
    refine ((unhide HNR) _ HK1.out.now).mono ?_
    rintro e w2 ⟨A2, n2, c2, rfl, hn2, hI2, _, hE2⟩
    have HN2 := hide hn2
    have HB2 := hide (HB1.out.trans (hE2.mono HB1.out.size))
    have HK2 := hide ((HK1.out.move hE2).and (Keeps.ints hI2))
    clear HB1 HK1 hE2 hI2 hn2
    go_wp2_with fail
    refine ((unhide HCR) _ HK2.out.now.1).mono ?_
    rintro e w3 ⟨rfl, he3⟩
    subst he3
    go_wp2_with fail
    all_goals try (exfalso; omega)
    all_goals try (exfalso; simp only [Bool.not_eq_true', Bool.not_eq_false', decide_eq_true_eq, decide_eq_false_iff_not] at *; omega)
    all_goals
      refine (lightBegun_any _).mono ?_
      rintro e w6 ⟨rfl, hE6⟩
      have HB6 := hide (HB2.out.trans (hE6.mono HB2.out.size))
      have HK6 := hide (HK2.out.move hE6)
      clear HB2 HK2 hE6
      go_wp2_with fail
      refine ((unhide HCK) _ HK6.out.now.1).mono ?_
      rintro e w7 ⟨rfl, hE7⟩
      have HB7 := hide (HB6.out.trans (hE7.mono HB6.out.size))
      have HK7 := hide (HK6.out.move hE7)
      clear HB6 HK6 hE7
      go_wp2_with fail
      refine ((unhide HCR) _ HK7.out.now.1).mono ?_
      rintro e w8 ⟨rfl, he8⟩
      subst he8
      go_wp2_with fail
      refine (sameInts_any A2 none n2 c2 0 0 ([]) ([]) _ HN2.out rfl HK7.out.now.2 (Ints.nil _ _) (by have h1 := HNL.out; have h2 := HN2.out; omega)).mono ?_
      rintro e w9 ⟨he9, hE9⟩
      rw [decide_eq_true rfl] at he9
      subst he9
      have HB9 := hide (HB7.out.trans (hE9.mono HB7.out.size))
      clear HB7 HK7 hE9
      go_wp2_with fail
      go_ret
      exact ⟨by simp, HB9.out⟩

set_option maxRecDepth 100000 in
set_option maxHeartbeats 2000000 in
theorem lightTells_near (A : Option Addr) (n c : Nat) (ls : List Lamp) (x y cw ch : Int) (w : World) (hn : ls.length = n) (hL : Lamps w A ls) (hl : n ≤ 9223372036854775807) (hz : lampsErr ls = 0) (hx : 0 ≤ x ∧ x < 16) (hy : 0 ≤ y ∧ y < 16) (hi : cw < 1 ∨ (1 ≤ cw ∧ ch < 1) ∨ (1 ≤ cw ∧ 1 ≤ ch ∧ 16 - x < cw) ∨ (1 ≤ cw ∧ 1 ≤ ch ∧ cw ≤ 16 - x ∧ 16 - y < ch)) :
    Calls Try.prog 7 #[.slice A n c, .int .i64 x, .int .i64 y, .int .i64 cw, .int .i64 ch] w (SaysTrue w) := by
  have hin : Inside x y := ⟨by omega, by omega⟩
  have hno : ¬ NearIn x y cw ch := by unfold NearIn; omega
  have r1 : lampAtErr ls x y = 0 := by unfold lampAtErr; rw [if_pos hz, if_pos hin]
  have r2 : lampAtAns ls x y = lightAt ls x y := if_pos r1
  have r3 : lampNearErr ls x y cw ch = 3 := by unfold lampNearErr; rw [if_pos hz, if_neg hno]
  have r4 : lampNearAns ls x y cw ch = [] := if_neg (by omega)
  clear hno hin
  have HAT := hide (fun (W0 : World) (h : Lamps W0 A ls) => lampAt_any A n c ls x y W0 hn h hl)
  have HNR := hide (fun (W0 : World) (h : Lamps W0 A ls) => lampNear_any A n c ls x y cw ch W0 hn h hl)
  have HCK := hide (fun (W0 : World) (h : Lamps W0 A ls) => checkLights_any A n c ls W0 hn h hl)
  have HCR := hide (fun (W0 : World) (h : Lamps W0 A ls) => checkLights_ref A n c ls W0 hn h hl)
  rw [r2, r1] at HAT
  rw [r4, r3] at HNR
  have HAR := hide (fun (W0 : World) (h : Lamps W0 A ls) => lightAt_ref A n c ls x y W0 hn h hz (by omega) (by omega))
  rw [hz] at HCK HCR
  have hnl : List.length (α := Int) ([]) ≤ 9223372036854775807 := by
    simp
  have HNL := hide hnl
  have HK0 := hide (Keeps.lamps hL)
  have HB0 := hide (Below.refl w.heap.size w)
  clear hn hL r1 r2 r3 r4 hnl
  generalize hhat : lightAt ls x y = la at *
  have HHAT := hide hhat
  clear hhat
  clear hz
  obtain ⟨hx1, hx2⟩ := hx
  obtain ⟨hy1, hy2⟩ := hy
  rcases hi with h1 | ⟨h1, h2⟩ | ⟨h1, h2, h3⟩ | ⟨h1, h2, h3, h4⟩
  all_goals
    go_enter Try.func7, Try.ntmps7
    go_wp2_with fail
    refine ((unhide HAT) _ HK0.out.now).mono ?_
    rintro e w1 ⟨rfl, hE1⟩
    have HB1 := hide (HB0.out.trans (hE1.mono HB0.out.size))
    have HK1 := hide (HK0.out.move hE1)
    clear HB0 HK0 hE1
    go_wp2_with fail
    refine ((unhide HNR) _ HK1.out.now).mono ?_
    rintro e w2 ⟨A2, n2, c2, rfl, hn2, hI2, _, hE2⟩
    have HN2 := hide hn2
    have HB2 := hide (HB1.out.trans (hE2.mono HB1.out.size))
    have HK2 := hide ((HK1.out.move hE2).and (Keeps.ints hI2))
    clear HB1 HK1 hE2 hI2 hn2
    go_wp2_with fail
    refine ((unhide HCR) _ HK2.out.now.1).mono ?_
    rintro e w3 ⟨rfl, he3⟩
    subst he3
    go_wp2_with fail
    all_goals try (exfalso; omega)
    all_goals try (exfalso; simp only [Bool.not_eq_true', Bool.not_eq_false', decide_eq_true_eq, decide_eq_false_iff_not] at *; omega)
    all_goals
      refine ((unhide HAR) _ HK2.out.now.1).mono ?_
      rintro e w4 ⟨rfl, hE4⟩
      have HB4 := hide (HB2.out.trans (hE4.mono HB2.out.size))
      have HK4 := hide (HK2.out.move hE4)
      clear HB2 HK2 hE4
      go_wp2_with fail
      refine (lightBegun_any _).mono ?_
      rintro e w6 ⟨rfl, hE6⟩
      have HB6 := hide (HB4.out.trans (hE6.mono HB4.out.size))
      have HK6 := hide (HK4.out.move hE6)
      clear HB4 HK4 hE6
      go_wp2_with fail
      refine ((unhide HCK) _ HK6.out.now.1).mono ?_
      rintro e w7 ⟨rfl, hE7⟩
      have HB7 := hide (HB6.out.trans (hE7.mono HB6.out.size))
      have HK7 := hide (HK6.out.move hE7)
      clear HB6 HK6 hE7
      go_wp2_with fail
      refine ((unhide HCR) _ HK7.out.now.1).mono ?_
      rintro e w8 ⟨rfl, he8⟩
      subst he8
      go_wp2_with fail
      refine (sameInts_any A2 none n2 c2 0 0 ([]) ([]) _ HN2.out rfl HK7.out.now.2 (Ints.nil _ _) (by have h1 := HNL.out; have h2 := HN2.out; omega)).mono ?_
      rintro e w9 ⟨he9, hE9⟩
      rw [decide_eq_true rfl] at he9
      subst he9
      have HB9 := hide (HB7.out.trans (hE9.mono HB7.out.size))
      clear HB7 HK7 hE9
      go_wp2_with fail
      go_ret
      exact ⟨by simp, HB9.out⟩

set_option maxRecDepth 100000 in
set_option maxHeartbeats 2000000 in
theorem lightTells_in (A : Option Addr) (n c : Nat) (ls : List Lamp) (x y cw ch : Int) (w : World) (hn : ls.length = n) (hL : Lamps w A ls) (hl : n ≤ 9223372036854775807) (hz : lampsErr ls = 0) (hx : 0 ≤ x ∧ x < 16) (hy : 0 ≤ y ∧ y < 16) (hw : 1 ≤ cw ∧ cw ≤ 16 - x) (hh : 1 ≤ ch ∧ ch ≤ 16 - y) :
    Calls Try.prog 7 #[.slice A n c, .int .i64 x, .int .i64 y, .int .i64 cw, .int .i64 ch] w (SaysTrue w) := by
  have hin : Inside x y := ⟨by omega, by omega⟩
  have hnr : NearIn x y cw ch := ⟨hin, by omega, by omega⟩
  have r1 : lampAtErr ls x y = 0 := by unfold lampAtErr; rw [if_pos hz, if_pos hin]
  have r2 : lampAtAns ls x y = lightAt ls x y := if_pos r1
  have r3 : lampNearErr ls x y cw ch = 0 := by unfold lampNearErr; rw [if_pos hz, if_pos hnr]
  have r4 : lampNearAns ls x y cw ch = nearList ls x y cw ch := if_pos r3
  clear hnr hin
  have HAT := hide (fun (W0 : World) (h : Lamps W0 A ls) => lampAt_any A n c ls x y W0 hn h hl)
  have HNR := hide (fun (W0 : World) (h : Lamps W0 A ls) => lampNear_any A n c ls x y cw ch W0 hn h hl)
  have HCK := hide (fun (W0 : World) (h : Lamps W0 A ls) => checkLights_any A n c ls W0 hn h hl)
  have HCR := hide (fun (W0 : World) (h : Lamps W0 A ls) => checkLights_ref A n c ls W0 hn h hl)
  rw [r2, r1] at HAT
  rw [r4, r3] at HNR
  have HAR := hide (fun (W0 : World) (h : Lamps W0 A ls) => lightAt_ref A n c ls x y W0 hn h hz (by omega) (by omega))
  have HNF := hide (fun (W0 : World) (h : Lamps W0 A ls) => nearOf_ref A n c ls x y cw ch W0 hn h hz (by omega) (by omega) (by omega) (by omega))
  rw [hz] at HCK HCR
  have hnl : List.length (α := Int) (nearList ls x y cw ch) ≤ 9223372036854775807 := by
    have := nearList_len ls x y cw ch; have := (lampsErr_zero hz).1; omega
  have HNL := hide hnl
  have HK0 := hide (Keeps.lamps hL)
  have HB0 := hide (Below.refl w.heap.size w)
  clear hn hL r1 r2 r3 r4 hnl
  generalize hhat : lightAt ls x y = la at *
  have HHAT := hide hhat
  clear hhat
  clear hz
  obtain ⟨hx1, hx2⟩ := hx
  obtain ⟨hy1, hy2⟩ := hy
  obtain ⟨hw1, hw2⟩ := hw
  obtain ⟨hh1, hh2⟩ := hh
  go_enter Try.func7, Try.ntmps7
  go_wp2_with fail
  refine ((unhide HAT) _ HK0.out.now).mono ?_
  rintro e w1 ⟨rfl, hE1⟩
  have HB1 := hide (HB0.out.trans (hE1.mono HB0.out.size))
  have HK1 := hide (HK0.out.move hE1)
  clear HB0 HK0 hE1
  go_wp2_with fail
  refine ((unhide HNR) _ HK1.out.now).mono ?_
  rintro e w2 ⟨A2, n2, c2, rfl, hn2, hI2, _, hE2⟩
  have HN2 := hide hn2
  have HB2 := hide (HB1.out.trans (hE2.mono HB1.out.size))
  have HK2 := hide ((HK1.out.move hE2).and (Keeps.ints hI2))
  clear HB1 HK1 hE2 hI2 hn2
  go_wp2_with fail
  refine ((unhide HCR) _ HK2.out.now.1).mono ?_
  rintro e w3 ⟨rfl, he3⟩
  subst he3
  go_wp2_with fail
  all_goals try (exfalso; omega)
  all_goals try (exfalso; simp only [Bool.not_eq_true', Bool.not_eq_false', decide_eq_true_eq, decide_eq_false_iff_not] at *; omega)
  all_goals
    refine ((unhide HAR) _ HK2.out.now.1).mono ?_
    rintro e w4 ⟨rfl, hE4⟩
    have HB4 := hide (HB2.out.trans (hE4.mono HB2.out.size))
    have HK4 := hide (HK2.out.move hE4)
    clear HB2 HK2 hE4
    go_wp2_with fail
    refine ((unhide HNF) _ HK4.out.now.1).mono ?_
    rintro e w5 ⟨A5, n5, c5, rfl, hn5, hI5, _, hE5⟩
    have HN5 := hide hn5
    have HB5 := hide (HB4.out.trans (hE5.mono HB4.out.size))
    have HK5 := hide ((HK4.out.move hE5).and (Keeps.ints hI5))
    clear HB4 HK4 hE5 hI5 hn5
    go_wp2_with fail
    refine (lightBegun_any _).mono ?_
    rintro e w6 ⟨rfl, hE6⟩
    have HB6 := hide (HB5.out.trans (hE6.mono HB5.out.size))
    have HK6 := hide (HK5.out.move hE6)
    clear HB5 HK5 hE6
    go_wp2_with fail
    refine ((unhide HCK) _ HK6.out.now.1.1).mono ?_
    rintro e w7 ⟨rfl, hE7⟩
    have HB7 := hide (HB6.out.trans (hE7.mono HB6.out.size))
    have HK7 := hide (HK6.out.move hE7)
    clear HB6 HK6 hE7
    go_wp2_with fail
    refine ((unhide HCR) _ HK7.out.now.1.1).mono ?_
    rintro e w8 ⟨rfl, he8⟩
    subst he8
    go_wp2_with fail
    refine (sameInts_any A2 A5 n2 c2 n5 c5 (nearList ls x y cw ch) (nearList ls x y cw ch) _ HN2.out HN5.out HK7.out.now.1.2 HK7.out.now.2 (by have h1 := HNL.out; have h2 := HN2.out; omega)).mono ?_
    rintro e w9 ⟨he9, hE9⟩
    rw [decide_eq_true rfl] at he9
    subst he9
    have HB9 := hide (HB7.out.trans (hE9.mono HB7.out.size))
    clear HB7 HK7 hE9
    go_wp2_with fail
    go_ret
    exact ⟨by simp, HB9.out⟩

theorem lightTells_any (A : Option Addr) (n c : Nat) (ls : List Lamp) (x y cw ch : Int) (w : World) (hn : ls.length = n) (hL : Lamps w A ls) (hl : n ≤ 9223372036854775807) :
    Calls Try.prog 7 #[.slice A n c, .int .i64 x, .int .i64 y, .int .i64 cw, .int .i64 ch] w fun e w' => e = .returned (.bool true) ∧ Below w.heap.size w w' := by
  by_cases hz : lampsErr ls = 0
  · by_cases hi : x < 0 ∨ (0 ≤ x ∧ 16 ≤ x) ∨ (0 ≤ x ∧ x < 16 ∧ y < 0) ∨ (0 ≤ x ∧ x < 16 ∧ 0 ≤ y ∧ 16 ≤ y)
    · exact lightTells_out A n c ls x y cw ch w hn hL hl hz hi
    · by_cases hj : cw < 1 ∨ (1 ≤ cw ∧ ch < 1) ∨ (1 ≤ cw ∧ 1 ≤ ch ∧ 16 - x < cw) ∨ (1 ≤ cw ∧ 1 ≤ ch ∧ cw ≤ 16 - x ∧ 16 - y < ch)
      · exact lightTells_near A n c ls x y cw ch w hn hL hl hz (by omega) (by omega) hj
      · exact lightTells_in A n c ls x y cw ch w hn hL hl hz (by omega) (by omega) (by omega) (by omega)
  · exact lightTells_bad A n c ls x y cw ch w hn hL hl hz
end Go.Proofs.Ytibpmogmeoappaa
