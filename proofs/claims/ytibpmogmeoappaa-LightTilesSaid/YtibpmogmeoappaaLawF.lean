/- Walk of the law LightLits. (Printed by gen_litlaw.py.) -/
import Derived.Test.YtibpmogmeoappaaLawE
import Derived.Test.YtibpmogmeoappaaLawA
namespace Go.Proofs.Ytibpmogmeoappaa
open Go.RowKit

theorem litAns_len {a : Img} {ls : List Lamp} {tile : Int} {W H : Int} {P : List Int} (h : Img.mk W H P = litAns a ls tile) : P.length ≤ 256 := by
  unfold litAns at h
  split at h
  · rename_i h0
    have hF : a.Fine := by
      unfold litErr at h0
      split at h0
      · assumption
      · omega
    obtain ⟨h1, h2, _⟩ := hF
    have h3 := congrArg (fun i => i.P.length) h
    simp only [litImg, drawn, grid_length] at h3
    rw [h3]
    have := Nat.mul_le_mul (show a.W.toNat ≤ 16 by omega) (show a.H.toNat ≤ 16 by omega)
    omega
  · injection h with _ _ h3
    subst h3; simp
theorem keeps_box {w : World} (cs : List Value) (t : TypeId) : Keeps (w.alloc (.cells cs.toArray t)) (fun W => Blk W w.heap.size t cs) := Keeps.blk (Blk.new w t cs)

set_option maxRecDepth 100000 in
set_option maxHeartbeats 2000000 in
theorem lightLits_form (W H : Int) (A : Option Addr) (n c : Nat) (P : List Int) (B : Option Addr) (m d : Nat) (ls : List Lamp) (tile : Int) (w : World) (hn : P.length = n) (hI : Ints w A P) (hl : n ≤ 9223372036854775807) (hm : ls.length = m) (hL : Lamps w B ls) (hl2 : m ≤ 9223372036854775807) (hF : ¬ Img.Fine ⟨W, H, P⟩) :
    Calls Try.prog 8 #[.agg #[.int .i64 W, .int .i64 H, .slice A n c], .slice B m d, .int .i64 tile] w (SaysTrue w) := by
  have he : litErr ⟨W, H, P⟩ ls tile = 1 := if_neg hF
  have ha : litAns ⟨W, H, P⟩ ls tile = Img.none := if_neg (by omega)
  have HLI := hide (fun (W0 : World) (h1 : Ints W0 A P) (h2 : Lamps W0 B ls) => lit_any W H A n c P B m d ls tile W0 hn h1 hl hm h2 hl2)
  have HCR := hide (fun (W0 : World) (h : Lamps W0 B ls) => checkLights_ref B m d ls W0 hm h hl2)
  have HFI := hide (fun (W0 : World) (h : Ints W0 A P) => fine_any W H A n c P W0 hn h hl)
  have HLN := hide (fun (W1 H1 : Int) (P1 : List Int) (h : Img.mk W1 H1 P1 = litAns ⟨W, H, P⟩ ls tile) => litAns_len h)
  rw [he, ha] at HLI
  rw [ha] at HLN
  rw [decide_eq_false hF] at HFI
  have HK0 := hide (((Keeps.ints hI).and (Keeps.lamps hL)).and (Keeps.below (Below.refl w.heap.size w)))
  clear hn hI hm hL he ha hF
  generalize lampsErr ls = z at *
  go_enter Try.func8, Try.ntmps8
  go_wp2_with fail
  have HK1 := hide ((HK0.out.alloc (.cells #[.int .i64 W, .int .i64 H, .slice A n c] 24)).and (Keeps.blk (Blk.new w 24 [.int .i64 W, .int .i64 H, .slice A n c])))
  clear HK0
  refine ((unhide HLI) _ HK1.out.now.1.1.1 HK1.out.now.1.1.2).mono ?_
  rintro e w1 ⟨W1, H1, P1, A1, n1, c1, hr1, hn1, rfl, hI1, hA1, hE1⟩
  have HN1 := hide hn1
  have HR1 := hide hr1
  have HK2 := hide ((((HK1.out.move hE1).and (Keeps.ints hI1)).alloc (.cells #[.int .i64 W1, .int .i64 H1, .slice A1 n1 c1] 24)).and (Keeps.blk (Blk.new w1 24 [.int .i64 W1, .int .i64 H1, .slice A1 n1 c1])))
  clear HK1 hE1 hI1 hA1 hn1 hr1
  obtain ⟨p0, p1, p2, p3⟩ := ImgBox.cells HK2.out.now.1.1.2
  obtain ⟨q0, q1, q2, q3⟩ := ImgBox.cells HK2.out.now.2
  go_wp2_with fail
  refine ((unhide HCR) _ HK2.out.now.1.1.1.1.2).mono ?_
  rintro e w2 ⟨rfl, he2⟩
  subst he2
  go_wp2_with fail
  refine ((unhide HFI) _ HK2.out.now.1.1.1.1.1).mono ?_
  rintro e w2 ⟨rfl, hE2f⟩
  have HK2f := HK2
  clear HK2 p0 p1 p2 p3 q0 q1 q2 q3
  have HK2 := hide (HK2f.out.move hE2f)
  clear HK2f hE2f
  obtain ⟨p0, p1, p2, p3⟩ := ImgBox.cells HK2.out.now.1.1.2
  obtain ⟨q0, q1, q2, q3⟩ := ImgBox.cells HK2.out.now.2
  go_wp2_with fail
  all_goals try (exfalso; omega)
  all_goals try (exfalso; simp only [Bool.not_eq_true', Bool.not_eq_false', decide_eq_true_eq, decide_eq_false_iff_not] at *; omega)
  all_goals
    have HK3 := hide ((HK2.out.alloc (.cells #[.int .i64 0, .int .i64 0, .slice none 0 0] 24)).and (Keeps.blk (Blk.new w2 24 [.int .i64 0, .int .i64 0, .slice none 0 0])))
    clear HK2 p0 p1 p2 p3 q0 q1 q2 q3
    refine (lightBegun_any _).mono ?_
    rintro e w4 ⟨rfl, hE4⟩
    have HK4 := hide (HK3.out.move hE4)
    clear HK3 hE4
    obtain ⟨p, p0, p1, p2⟩ := ImgBox.cells HK4.out.now.1.2
    have hbx := HK4.out.now.2
    skip
    obtain ⟨q, q0, q1, q2⟩ := ImgBox.cells hbx
    clear hbx
    go_wp2_with fail
    refine (sameImg_true W1 H1 0 0 A1 none n1 c1 0 0 P1 [] _ HR1.out HN1.out rfl (HK4.out.now.1.1.2) (Ints.nil _ _) (by have := HLN.out W1 H1 P1 HR1.out; have := HN1.out; omega)).mono ?_
    rintro e w5 ⟨rfl, hE5⟩
    clear p p0 p1 p2 q q0 q1 q2
    go_wp2_with fail
    go_ret
    exact ⟨rfl, (HK4.out.now.1.1.1.1.2).trans (hE5.mono (HK4.out.now.1.1.1.1.2).size)⟩

set_option maxRecDepth 100000 in
set_option maxHeartbeats 2000000 in
theorem lightLits_lamps (W H : Int) (A : Option Addr) (n c : Nat) (P : List Int) (B : Option Addr) (m d : Nat) (ls : List Lamp) (tile : Int) (w : World) (hn : P.length = n) (hI : Ints w A P) (hl : n ≤ 9223372036854775807) (hm : ls.length = m) (hL : Lamps w B ls) (hl2 : m ≤ 9223372036854775807) (hF : Img.Fine ⟨W, H, P⟩) (hz : lampsErr ls ≠ 0) :
    Calls Try.prog 8 #[.agg #[.int .i64 W, .int .i64 H, .slice A n c], .slice B m d, .int .i64 tile] w (SaysTrue w) := by
  have he : litErr ⟨W, H, P⟩ ls tile = lampsErr ls := by unfold litErr; rw [if_pos hF, if_neg hz]
  have ha : litAns ⟨W, H, P⟩ ls tile = Img.none := if_neg (by omega)
  have HLI := hide (fun (W0 : World) (h1 : Ints W0 A P) (h2 : Lamps W0 B ls) => lit_any W H A n c P B m d ls tile W0 hn h1 hl hm h2 hl2)
  have HCR := hide (fun (W0 : World) (h : Lamps W0 B ls) => checkLights_ref B m d ls W0 hm h hl2)
  have HFI := hide (fun (W0 : World) (h : Ints W0 A P) => fine_any W H A n c P W0 hn h hl)
  have HLN := hide (fun (W1 H1 : Int) (P1 : List Int) (h : Img.mk W1 H1 P1 = litAns ⟨W, H, P⟩ ls tile) => litAns_len h)
  rw [he, ha] at HLI
  rw [ha] at HLN
  rw [decide_eq_true hF] at HFI
  have HK0 := hide (((Keeps.ints hI).and (Keeps.lamps hL)).and (Keeps.below (Below.refl w.heap.size w)))
  clear hn hI hm hL he ha hF
  generalize lampsErr ls = z at *
  have hz1 : (z == 0) = false := by simpa using hz
  clear hz
  go_enter Try.func8, Try.ntmps8
  go_wp2_with fail
  have HK1 := hide ((HK0.out.alloc (.cells #[.int .i64 W, .int .i64 H, .slice A n c] 24)).and (Keeps.blk (Blk.new w 24 [.int .i64 W, .int .i64 H, .slice A n c])))
  clear HK0
  refine ((unhide HLI) _ HK1.out.now.1.1.1 HK1.out.now.1.1.2).mono ?_
  rintro e w1 ⟨W1, H1, P1, A1, n1, c1, hr1, hn1, rfl, hI1, hA1, hE1⟩
  have HN1 := hide hn1
  have HR1 := hide hr1
  have HK2 := hide ((((HK1.out.move hE1).and (Keeps.ints hI1)).alloc (.cells #[.int .i64 W1, .int .i64 H1, .slice A1 n1 c1] 24)).and (Keeps.blk (Blk.new w1 24 [.int .i64 W1, .int .i64 H1, .slice A1 n1 c1])))
  clear HK1 hE1 hI1 hA1 hn1 hr1
  obtain ⟨p0, p1, p2, p3⟩ := ImgBox.cells HK2.out.now.1.1.2
  obtain ⟨q0, q1, q2, q3⟩ := ImgBox.cells HK2.out.now.2
  go_wp2_with fail
  refine ((unhide HCR) _ HK2.out.now.1.1.1.1.2).mono ?_
  rintro e w2 ⟨rfl, he2⟩
  subst he2
  go_wp2_with fail
  refine ((unhide HFI) _ HK2.out.now.1.1.1.1.1).mono ?_
  rintro e w2 ⟨rfl, hE2f⟩
  have HK2f := HK2
  clear HK2 p0 p1 p2 p3 q0 q1 q2 q3
  have HK2 := hide (HK2f.out.move hE2f)
  clear HK2f hE2f
  obtain ⟨p0, p1, p2, p3⟩ := ImgBox.cells HK2.out.now.1.1.2
  obtain ⟨q0, q1, q2, q3⟩ := ImgBox.cells HK2.out.now.2
  go_wp2_with fail
  all_goals try (exfalso; omega)
  all_goals try (exfalso; simp only [Bool.not_eq_true', Bool.not_eq_false', decide_eq_true_eq, decide_eq_false_iff_not] at *; omega)
  all_goals
    have HK3 := hide ((HK2.out.alloc (.cells #[.int .i64 0, .int .i64 0, .slice none 0 0] 24)).and (Keeps.blk (Blk.new w2 24 [.int .i64 0, .int .i64 0, .slice none 0 0])))
    clear HK2 p0 p1 p2 p3 q0 q1 q2 q3
    refine (lightBegun_any _).mono ?_
    rintro e w4 ⟨rfl, hE4⟩
    have HK4 := hide (HK3.out.move hE4)
    clear HK3 hE4
    obtain ⟨p, p0, p1, p2⟩ := ImgBox.cells HK4.out.now.1.2
    have hbx := HK4.out.now.2
    skip
    obtain ⟨q, q0, q1, q2⟩ := ImgBox.cells hbx
    clear hbx
    go_wp2_with fail
    refine (sameImg_true W1 H1 0 0 A1 none n1 c1 0 0 P1 [] _ HR1.out HN1.out rfl (HK4.out.now.1.1.2) (Ints.nil _ _) (by have := HLN.out W1 H1 P1 HR1.out; have := HN1.out; omega)).mono ?_
    rintro e w5 ⟨rfl, hE5⟩
    clear p p0 p1 p2 q q0 q1 q2
    go_wp2_with fail
    go_ret
    exact ⟨rfl, (HK4.out.now.1.1.1.1.2).trans (hE5.mono (HK4.out.now.1.1.1.1.2).size)⟩

set_option maxRecDepth 100000 in
set_option maxHeartbeats 2000000 in
theorem lightLits_range (W H : Int) (A : Option Addr) (n c : Nat) (P : List Int) (B : Option Addr) (m d : Nat) (ls : List Lamp) (tile : Int) (w : World) (hn : P.length = n) (hI : Ints w A P) (hl : n ≤ 9223372036854775807) (hm : ls.length = m) (hL : Lamps w B ls) (hl2 : m ≤ 9223372036854775807) (hF : Img.Fine ⟨W, H, P⟩) (hz : lampsErr ls = 0) (ht : tile < 1 ∨ (1 ≤ tile ∧ 16 < tile)) :
    Calls Try.prog 8 #[.agg #[.int .i64 W, .int .i64 H, .slice A n c], .slice B m d, .int .i64 tile] w (SaysTrue w) := by
  have he : litErr ⟨W, H, P⟩ ls tile = 3 := by unfold litErr; rw [if_pos hF, if_pos hz, if_neg (by omega)]
  have ha : litAns ⟨W, H, P⟩ ls tile = Img.none := if_neg (by omega)
  have HLI := hide (fun (W0 : World) (h1 : Ints W0 A P) (h2 : Lamps W0 B ls) => lit_any W H A n c P B m d ls tile W0 hn h1 hl hm h2 hl2)
  have HCR := hide (fun (W0 : World) (h : Lamps W0 B ls) => checkLights_ref B m d ls W0 hm h hl2)
  have HFI := hide (fun (W0 : World) (h : Ints W0 A P) => fine_any W H A n c P W0 hn h hl)
  have HLN := hide (fun (W1 H1 : Int) (P1 : List Int) (h : Img.mk W1 H1 P1 = litAns ⟨W, H, P⟩ ls tile) => litAns_len h)
  rw [he, ha] at HLI
  rw [ha] at HLN
  rw [decide_eq_true hF] at HFI
  rw [hz] at HCR
  have HK0 := hide (((Keeps.ints hI).and (Keeps.lamps hL)).and (Keeps.below (Below.refl w.heap.size w)))
  clear hn hI hm hL he ha hF
  clear hz
  rcases ht with ht | ⟨ht1, ht2⟩
  all_goals
    go_enter Try.func8, Try.ntmps8
    go_wp2_with fail
    have HK1 := hide ((HK0.out.alloc (.cells #[.int .i64 W, .int .i64 H, .slice A n c] 24)).and (Keeps.blk (Blk.new w 24 [.int .i64 W, .int .i64 H, .slice A n c])))
    clear HK0
    refine ((unhide HLI) _ HK1.out.now.1.1.1 HK1.out.now.1.1.2).mono ?_
    rintro e w1 ⟨W1, H1, P1, A1, n1, c1, hr1, hn1, rfl, hI1, hA1, hE1⟩
    have HN1 := hide hn1
    have HR1 := hide hr1
    have HK2 := hide ((((HK1.out.move hE1).and (Keeps.ints hI1)).alloc (.cells #[.int .i64 W1, .int .i64 H1, .slice A1 n1 c1] 24)).and (Keeps.blk (Blk.new w1 24 [.int .i64 W1, .int .i64 H1, .slice A1 n1 c1])))
    clear HK1 hE1 hI1 hA1 hn1 hr1
    obtain ⟨p0, p1, p2, p3⟩ := ImgBox.cells HK2.out.now.1.1.2
    obtain ⟨q0, q1, q2, q3⟩ := ImgBox.cells HK2.out.now.2
    go_wp2_with fail
    refine ((unhide HCR) _ HK2.out.now.1.1.1.1.2).mono ?_
    rintro e w2 ⟨rfl, he2⟩
    subst he2
    go_wp2_with fail
    refine ((unhide HFI) _ HK2.out.now.1.1.1.1.1).mono ?_
    rintro e w2 ⟨rfl, hE2f⟩
    have HK2f := HK2
    clear HK2 p0 p1 p2 p3 q0 q1 q2 q3
    have HK2 := hide (HK2f.out.move hE2f)
    clear HK2f hE2f
    obtain ⟨p0, p1, p2, p3⟩ := ImgBox.cells HK2.out.now.1.1.2
    obtain ⟨q0, q1, q2, q3⟩ := ImgBox.cells HK2.out.now.2
    go_wp2_with fail
    all_goals try (exfalso; omega)
    all_goals try (exfalso; simp only [Bool.not_eq_true', Bool.not_eq_false', decide_eq_true_eq, decide_eq_false_iff_not] at *; omega)
    all_goals
      have HK3 := hide ((HK2.out.alloc (.cells #[.int .i64 0, .int .i64 0, .slice none 0 0] 24)).and (Keeps.blk (Blk.new w2 24 [.int .i64 0, .int .i64 0, .slice none 0 0])))
      clear HK2 p0 p1 p2 p3 q0 q1 q2 q3
      refine (lightBegun_any _).mono ?_
      rintro e w4 ⟨rfl, hE4⟩
      have HK4 := hide (HK3.out.move hE4)
      clear HK3 hE4
      obtain ⟨p, p0, p1, p2⟩ := ImgBox.cells HK4.out.now.1.2
      have hbx := HK4.out.now.2
      skip
      obtain ⟨q, q0, q1, q2⟩ := ImgBox.cells hbx
      clear hbx
      go_wp2_with fail
      refine (sameImg_true W1 H1 0 0 A1 none n1 c1 0 0 P1 [] _ HR1.out HN1.out rfl (HK4.out.now.1.1.2) (Ints.nil _ _) (by have := HLN.out W1 H1 P1 HR1.out; have := HN1.out; omega)).mono ?_
      rintro e w5 ⟨rfl, hE5⟩
      clear p p0 p1 p2 q q0 q1 q2
      go_wp2_with fail
      go_ret
      exact ⟨rfl, (HK4.out.now.1.1.1.1.2).trans (hE5.mono (HK4.out.now.1.1.1.1.2).size)⟩

set_option maxRecDepth 100000 in
set_option maxHeartbeats 2000000 in
theorem lightLits_yes (W H : Int) (A : Option Addr) (n c : Nat) (P : List Int) (B : Option Addr) (m d : Nat) (ls : List Lamp) (tile : Int) (w : World) (hn : P.length = n) (hI : Ints w A P) (hl : n ≤ 9223372036854775807) (hm : ls.length = m) (hL : Lamps w B ls) (hl2 : m ≤ 9223372036854775807) (hF : Img.Fine ⟨W, H, P⟩) (hz : lampsErr ls = 0) (ht1 : 1 ≤ tile) (ht2 : tile ≤ 16) :
    Calls Try.prog 8 #[.agg #[.int .i64 W, .int .i64 H, .slice A n c], .slice B m d, .int .i64 tile] w (SaysTrue w) := by
  have he : litErr ⟨W, H, P⟩ ls tile = 0 := by unfold litErr; rw [if_pos hF, if_pos hz, if_pos ⟨ht1, ht2⟩]
  have ha : litAns ⟨W, H, P⟩ ls tile = litImg ⟨W, H, P⟩ ls := if_pos he
  have HLI := hide (fun (W0 : World) (h1 : Ints W0 A P) (h2 : Lamps W0 B ls) => lit_any W H A n c P B m d ls tile W0 hn h1 hl hm h2 hl2)
  have HCR := hide (fun (W0 : World) (h : Lamps W0 B ls) => checkLights_ref B m d ls W0 hm h hl2)
  have HFI := hide (fun (W0 : World) (h : Ints W0 A P) => fine_any W H A n c P W0 hn h hl)
  have HLN := hide (fun (W1 H1 : Int) (P1 : List Int) (h : Img.mk W1 H1 P1 = litAns ⟨W, H, P⟩ ls tile) => litAns_len h)
  rw [he, ha] at HLI
  rw [ha] at HLN
  rw [decide_eq_true hF] at HFI
  have HOF := hide (fun (W0 : World) (h1 : Ints W0 A P) (h2 : Lamps W0 B ls) => litOf_ref W H A n c P B m d ls W0 hF hn h1 hm h2 hz)
  rw [hz] at HCR
  have HK0 := hide (((Keeps.ints hI).and (Keeps.lamps hL)).and (Keeps.below (Below.refl w.heap.size w)))
  clear hn hI hm hL he ha hF
  clear hz
  go_enter Try.func8, Try.ntmps8
  go_wp2_with fail
  have HK1 := hide ((HK0.out.alloc (.cells #[.int .i64 W, .int .i64 H, .slice A n c] 24)).and (Keeps.blk (Blk.new w 24 [.int .i64 W, .int .i64 H, .slice A n c])))
  clear HK0
  refine ((unhide HLI) _ HK1.out.now.1.1.1 HK1.out.now.1.1.2).mono ?_
  rintro e w1 ⟨W1, H1, P1, A1, n1, c1, hr1, hn1, rfl, hI1, hA1, hE1⟩
  have HN1 := hide hn1
  have HR1 := hide hr1
  have HK2 := hide ((((HK1.out.move hE1).and (Keeps.ints hI1)).alloc (.cells #[.int .i64 W1, .int .i64 H1, .slice A1 n1 c1] 24)).and (Keeps.blk (Blk.new w1 24 [.int .i64 W1, .int .i64 H1, .slice A1 n1 c1])))
  clear HK1 hE1 hI1 hA1 hn1 hr1
  obtain ⟨p0, p1, p2, p3⟩ := ImgBox.cells HK2.out.now.1.1.2
  obtain ⟨q0, q1, q2, q3⟩ := ImgBox.cells HK2.out.now.2
  go_wp2_with fail
  refine ((unhide HCR) _ HK2.out.now.1.1.1.1.2).mono ?_
  rintro e w2 ⟨rfl, he2⟩
  subst he2
  go_wp2_with fail
  refine ((unhide HFI) _ HK2.out.now.1.1.1.1.1).mono ?_
  rintro e w2 ⟨rfl, hE2f⟩
  have HK2f := HK2
  clear HK2 p0 p1 p2 p3 q0 q1 q2 q3
  have HK2 := hide (HK2f.out.move hE2f)
  clear HK2f hE2f
  obtain ⟨p0, p1, p2, p3⟩ := ImgBox.cells HK2.out.now.1.1.2
  obtain ⟨q0, q1, q2, q3⟩ := ImgBox.cells HK2.out.now.2
  go_wp2_with fail
  all_goals try (exfalso; omega)
  all_goals try (exfalso; simp only [Bool.not_eq_true', Bool.not_eq_false', decide_eq_true_eq, decide_eq_false_iff_not] at *; omega)
  all_goals
    refine ((unhide HOF) _ (HK2.out.alloc (.cells #[.int .i64 0, .int .i64 0, .slice none 0 0] 24)).now.1.1.1.1.1 (HK2.out.alloc (.cells #[.int .i64 0, .int .i64 0, .slice none 0 0] 24)).now.1.1.1.1.2).mono ?_
    rintro e w3 ⟨W2, H2, P2, A2, n2, c2, hr2, hn2, rfl, hI2, hA2, hE2⟩
    have HN2 := hide hn2
    have HR2 := hide hr2
    have hb2 := (Blk.new w2 24 [.int .i64 0, .int .i64 0, .slice none 0 0]).keep hE2
    skip
    obtain ⟨s, s0, s1, s2⟩ := ImgBox.cells hb2
    have s4 := hb2.frozen 0
    have s5 := hb2.frozen 1
    have s6 := hb2.frozen 2
    have hb3 := put3_below (w := w2) (g := w2.heap.size) (a := .int .i64 W2) (b := .int .i64 H2) (c := .slice A2 n2 c2) (((Below.refl _ _).alloc (Nat.le_refl _) (.cells #[.int .i64 0, .int .i64 0, .slice none 0 0] 24)).trans (hE2.mono (by simp))) (Nat.le_refl _)
    have HK3 := hide (((HK2.out.move hb3).and (Keeps.blk (put3_box (a := .int .i64 W2) (b := .int .i64 H2) (c := .slice A2 n2 c2) hb2))).and (Keeps.ints (put3_ints (g := w2.heap.size) (a := .int .i64 W2) (b := .int .i64 H2) (c := .slice A2 n2 c2) hI2 hA2.new (by simp))))
    clear HK2 p0 p1 p2 p3 q0 q1 q2 q3 hb2 hb3 hE2 hI2 hA2 hn2 hr2
    go_wp2_with fail
    clear s s0 s1 s2 s4 s5 s6
    refine (lightBegun_any _).mono ?_
    rintro e w4 ⟨rfl, hE4⟩
    have HK4 := hide (HK3.out.move hE4)
    clear HK3 hE4
    obtain ⟨p, p0, p1, p2⟩ := ImgBox.cells HK4.out.now.1.1.2
    have hbx := HK4.out.now.1.2
    skip
    obtain ⟨q, q0, q1, q2⟩ := ImgBox.cells hbx
    clear hbx
    go_wp2_with fail
    refine (sameImg_true W1 H1 W2 H2 A1 A2 n1 c1 n2 c2 P1 P2 _ (HR1.out.trans HR2.out.symm) HN1.out HN2.out (HK4.out.now.1.1.1.2) (HK4.out.now.2) (by have := HLN.out W1 H1 P1 HR1.out; have := HN1.out; omega)).mono ?_
    rintro e w5 ⟨rfl, hE5⟩
    clear p p0 p1 p2 q q0 q1 q2
    go_wp2_with fail
    go_ret
    exact ⟨rfl, (HK4.out.now.1.1.1.1.1.2).trans (hE5.mono (HK4.out.now.1.1.1.1.1.2).size)⟩

theorem lightLits_any (W H : Int) (A : Option Addr) (n c : Nat) (P : List Int) (B : Option Addr) (m d : Nat) (ls : List Lamp) (tile : Int) (w : World) (hn : P.length = n) (hI : Ints w A P) (hl : n ≤ 9223372036854775807) (hm : ls.length = m) (hL : Lamps w B ls) (hl2 : m ≤ 9223372036854775807) :
    Calls Try.prog 8 #[.agg #[.int .i64 W, .int .i64 H, .slice A n c], .slice B m d, .int .i64 tile] w fun e w' => e = .returned (.bool true) ∧ Below w.heap.size w w' := by
  by_cases hF : Img.Fine ⟨W, H, P⟩
  · by_cases hz : lampsErr ls = 0
    · by_cases ht : tile < 1 ∨ (1 ≤ tile ∧ 16 < tile)
      · exact lightLits_range W H A n c P B m d ls tile w hn hI hl hm hL hl2 hF hz ht
      · exact lightLits_yes W H A n c P B m d ls tile w hn hI hl hm hL hl2 hF hz (by omega) (by omega)
    · exact lightLits_lamps W H A n c P B m d ls tile w hn hI hl hm hL hl2 hF hz
  · exact lightLits_form W H A n c P B m d ls tile w hn hI hl hm hL hl2 hF
end Go.Proofs.Ytibpmogmeoappaa
