/- Walks of the law ImageTwos. (Printed by gen_lawc.py.) -/
import Derived.Test.YtibpmogmeoappaaLawB
namespace Go.Proofs.Ytibpmogmeoappaa
open Go.RowKit

theorem twoAns_len (op : Int) (W H : Int) (P : List Int) (b : Img) {W1 H1 : Int} {P1 : List Int} (h : Img.mk W1 H1 P1 = twoAns op ⟨W, H, P⟩ b) : P1.length ≤ P.length := by
  unfold twoAns at h
  split at h
  · unfold twoImg at h
    injection h with h1 h2 h3
    rw [h3]; simp
  · injection h with h1 h2 h3
    subst h3; simp

set_option maxRecDepth 100000 in
set_option maxHeartbeats 1000000 in
theorem imageTwos_A (op : Int) (W H : Int) (A : Option Addr) (n c : Nat) (P : List Int) (W' H' : Int) (B : Option Addr) (m d : Nat) (Q : List Int) (w : World) (hn : P.length = n) (hI : Ints w A P) (hl : n ≤ 9223372036854775807) (hm : Q.length = m) (hJ : Ints w B Q) (hl' : m ≤ 9223372036854775807) (h1 : ¬ Img.Fine ⟨W, H, P⟩) :
    Calls Try.prog 5 #[.int .i64 op, .agg #[.int .i64 W, .int .i64 H, .slice A n c], .agg #[.int .i64 W', .int .i64 H', .slice B m d]] w fun e w' => e = .returned (.bool true) ∧ Below w.heap.size w w' := by
  have HAll : Hid (twoErr op ⟨W, H, P⟩ ⟨W', H', Q⟩ = 1) := hide (if_pos (Or.inl h1))
  have HV0 := hide (show ImgVars w [] from fun v hv => by simp at hv)
  have HB0 := hide (Below.refl w.heap.size w)
  have hv1 := HV0.out.add (A := A) (W := W) (H := H) (n := n) (c := c) hI
  try simp only [World.size_alloc] at hv1
  have HV1 := hide hv1
  have HB1 := hide (HB0.out.alloc HB0.out.size (.cells #[.int .i64 W, .int .i64 H, .slice A n c] 24))
  clear HV0 HB0 hv1
  have hv2 := HV1.out.add (A := B) (W := W') (H := H') (n := m) (c := d) (hJ.keep (HB1.out))
  try simp only [World.size_alloc] at hv2
  have HV2 := hide hv2
  have HB2 := hide (HB1.out.alloc HB1.out.size (.cells #[.int .i64 W', .int .i64 H', .slice B m d] 24))
  clear HV1 HB1 hv2
  have HN := hide hn
  have HTWO := hide (fun (W0 : World) (hI0 : Ints W0 A P) (hJ0 : Ints W0 B Q) => two_any op W H A n c P W' H' B m d Q W0 hn hI0 hl hm hJ0 hl')
  have HFA := hide (fun (W0 : World) (hI0 : Ints W0 A P) => fine_any W H A n c P W0 hn hI0 hl)
  have HFB := hide (fun (W0 : World) (hI0 : Ints W0 B Q) => fine_any W' H' B m d Q W0 hm hI0 hl')
  have HNO : Hid (twoAns op ⟨W, H, P⟩ ⟨W', H', Q⟩ = Img.none) := hide (by unfold twoAns; rw [HAll.out]; rfl)
  have H1 := hide h1
  clear hn hI hm hJ h1
  go_enter Try.func5, Try.ntmps5
  go_wp2_with fail
  obtain ⟨a0, a1, a2, a3⟩ := ImgBox.cells (HV2.out (w.heap.size, W, H, A, n, c, P) (by simp)).1
  simp only at a0 a1 a2 a3
  obtain ⟨b0, b1, b2, b3⟩ := ImgBox.cells (HV2.out (w.heap.size + 1, W', H', B, m, d, Q) (by simp)).1
  simp only at b0 b1 b2 b3
  go_wp2_with fail
  refine Calls.mono ((unhide HTWO) _ (HV2.out (w.heap.size, W, H, A, n, c, P) (by simp)).2 (HV2.out (w.heap.size + 1, W', H', B, m, d, Q) (by simp)).2) ?_
  rintro e w1 ⟨W1, H1', P1, A1, n1, c1, hr1, hn1, rfl, hI1, hA1, hE1⟩
  have HV3 := hide (HV2.out.keep hE1)
  have HB3 := hide (HB2.out.trans (hE1.mono HB2.out.size))
  clear HV2 HB2
  clear hE1
  have HR1 := hide hr1
  have HN1 := hide hn1
  clear hr1 hn1 hA1
  rw [HAll.out]
  have hv4 := HV3.out.add (A := A1) (W := W1) (H := H1') (n := n1) (c := c1) hI1
  try simp only [World.size_alloc] at hv4
  have HV4 := hide hv4
  have HB4 := hide (HB3.out.alloc HB3.out.size (.cells #[.int .i64 W1, .int .i64 H1', .slice A1 n1 c1] 24))
  clear HV3 HB3 hv4
  clear hI1
  obtain ⟨a0, a1, a2, a3⟩ := ImgBox.cells (HV4.out (w.heap.size, W, H, A, n, c, P) (by simp)).1
  simp only at a0 a1 a2 a3
  obtain ⟨b0, b1, b2, b3⟩ := ImgBox.cells (HV4.out (w.heap.size + 1, W', H', B, m, d, Q) (by simp)).1
  simp only at b0 b1 b2 b3
  have hv5 := HV4.out.add (A := none) (W := 0) (H := 0) (n := 0) (c := 0) (Ints.nil _ _)
  try simp only [World.size_alloc] at hv5
  have HV5 := hide hv5
  have HB5 := hide (HB4.out.alloc HB4.out.size (.cells #[.int .i64 0, .int .i64 0, .slice none 0 0] 24))
  clear HV4 HB4 hv5
  obtain ⟨a0, a1, a2, a3⟩ := ImgBox.cells (HV5.out (w.heap.size, W, H, A, n, c, P) (by simp)).1
  simp only at a0 a1 a2 a3
  obtain ⟨b0, b1, b2, b3⟩ := ImgBox.cells (HV5.out (w.heap.size + 1, W', H', B, m, d, Q) (by simp)).1
  simp only at b0 b1 b2 b3
  go_wp2_with fail
  refine Calls.mono ((unhide HFA) _ (HV5.out (w.heap.size, W, H, A, n, c, P) (by simp)).2) ?_
  rintro e w2 ⟨rfl, hE2⟩
  have HV6 := hide (HV5.out.keep hE2)
  have HB6 := hide (HB5.out.trans (hE2.mono HB5.out.size))
  clear HV5 HB5
  clear hE2
  rw [decide_eq_false H1.out]
  obtain ⟨a0, a1, a2, a3⟩ := ImgBox.cells (HV6.out (w.heap.size, W, H, A, n, c, P) (by simp)).1
  simp only at a0 a1 a2 a3
  obtain ⟨b0, b1, b2, b3⟩ := ImgBox.cells (HV6.out (w.heap.size + 1, W', H', B, m, d, Q) (by simp)).1
  simp only at b0 b1 b2 b3
  go_wp2_with fail
  refine Calls.mono (imageBegun_any _) ?_
  rintro e wz ⟨rfl, hEz⟩
  have HV7 := hide (HV6.out.keep hEz)
  have HB7 := hide (HB6.out.trans (hEz.mono HB6.out.size))
  clear HV6 HB6
  clear hEz
  obtain ⟨b0, b1, b2, b3⟩ := ImgBox.cells (HV7.out (w1.heap.size, W1, H1', A1, n1, c1, P1) (by simp)).1
  simp only at b0 b1 b2 b3
  obtain ⟨d0, d1, d2, d3⟩ := ImgBox.cells (HV7.out (w1.heap.size + 1, 0, 0, none, 0, 0, []) (by simp)).1
  simp only at d0 d1 d2 d3
  go_wp2_with fail
  refine Calls.mono (sameImg_true W1 H1' 0 0 A1 none n1 c1 0 0 P1 [] _ (HR1.out.trans HNO.out) HN1.out rfl (HV7.out (w1.heap.size, W1, H1', A1, n1, c1, P1) (by simp)).2 (HV7.out (w1.heap.size + 1, 0, 0, none, 0, 0, []) (by simp)).2 (by have := mkLen (HR1.out.trans HNO.out) HN1.out; omega)) ?_
  rintro e wy ⟨rfl, hEy⟩
  have HV8 := hide (HV7.out.keep hEy)
  have HB8 := hide (HB7.out.trans (hEy.mono HB7.out.size))
  clear HV7 HB7
  clear hEy
  go_wp2_with fail
  go_ret
  exact ⟨rfl, HB8.out⟩

set_option maxRecDepth 100000 in
set_option maxHeartbeats 1000000 in
theorem imageTwos_B (op : Int) (W H : Int) (A : Option Addr) (n c : Nat) (P : List Int) (W' H' : Int) (B : Option Addr) (m d : Nat) (Q : List Int) (w : World) (hn : P.length = n) (hI : Ints w A P) (hl : n ≤ 9223372036854775807) (hm : Q.length = m) (hJ : Ints w B Q) (hl' : m ≤ 9223372036854775807) (h1 : Img.Fine ⟨W, H, P⟩) (h2 : ¬ Img.Fine ⟨W', H', Q⟩) :
    Calls Try.prog 5 #[.int .i64 op, .agg #[.int .i64 W, .int .i64 H, .slice A n c], .agg #[.int .i64 W', .int .i64 H', .slice B m d]] w fun e w' => e = .returned (.bool true) ∧ Below w.heap.size w w' := by
  have HAll : Hid (twoErr op ⟨W, H, P⟩ ⟨W', H', Q⟩ = 1) := hide (if_pos (Or.inr h2))
  have HV0 := hide (show ImgVars w [] from fun v hv => by simp at hv)
  have HB0 := hide (Below.refl w.heap.size w)
  have hv1 := HV0.out.add (A := A) (W := W) (H := H) (n := n) (c := c) hI
  try simp only [World.size_alloc] at hv1
  have HV1 := hide hv1
  have HB1 := hide (HB0.out.alloc HB0.out.size (.cells #[.int .i64 W, .int .i64 H, .slice A n c] 24))
  clear HV0 HB0 hv1
  have hv2 := HV1.out.add (A := B) (W := W') (H := H') (n := m) (c := d) (hJ.keep (HB1.out))
  try simp only [World.size_alloc] at hv2
  have HV2 := hide hv2
  have HB2 := hide (HB1.out.alloc HB1.out.size (.cells #[.int .i64 W', .int .i64 H', .slice B m d] 24))
  clear HV1 HB1 hv2
  have HN := hide hn
  have HTWO := hide (fun (W0 : World) (hI0 : Ints W0 A P) (hJ0 : Ints W0 B Q) => two_any op W H A n c P W' H' B m d Q W0 hn hI0 hl hm hJ0 hl')
  have HFA := hide (fun (W0 : World) (hI0 : Ints W0 A P) => fine_any W H A n c P W0 hn hI0 hl)
  have HFB := hide (fun (W0 : World) (hI0 : Ints W0 B Q) => fine_any W' H' B m d Q W0 hm hI0 hl')
  have HNO : Hid (twoAns op ⟨W, H, P⟩ ⟨W', H', Q⟩ = Img.none) := hide (by unfold twoAns; rw [HAll.out]; rfl)
  have H1 := hide h1
  have H2 := hide h2
  clear hn hI hm hJ h1 h2
  go_enter Try.func5, Try.ntmps5
  go_wp2_with fail
  obtain ⟨a0, a1, a2, a3⟩ := ImgBox.cells (HV2.out (w.heap.size, W, H, A, n, c, P) (by simp)).1
  simp only at a0 a1 a2 a3
  obtain ⟨b0, b1, b2, b3⟩ := ImgBox.cells (HV2.out (w.heap.size + 1, W', H', B, m, d, Q) (by simp)).1
  simp only at b0 b1 b2 b3
  go_wp2_with fail
  refine Calls.mono ((unhide HTWO) _ (HV2.out (w.heap.size, W, H, A, n, c, P) (by simp)).2 (HV2.out (w.heap.size + 1, W', H', B, m, d, Q) (by simp)).2) ?_
  rintro e w1 ⟨W1, H1', P1, A1, n1, c1, hr1, hn1, rfl, hI1, hA1, hE1⟩
  have HV3 := hide (HV2.out.keep hE1)
  have HB3 := hide (HB2.out.trans (hE1.mono HB2.out.size))
  clear HV2 HB2
  clear hE1
  have HR1 := hide hr1
  have HN1 := hide hn1
  clear hr1 hn1 hA1
  rw [HAll.out]
  have hv4 := HV3.out.add (A := A1) (W := W1) (H := H1') (n := n1) (c := c1) hI1
  try simp only [World.size_alloc] at hv4
  have HV4 := hide hv4
  have HB4 := hide (HB3.out.alloc HB3.out.size (.cells #[.int .i64 W1, .int .i64 H1', .slice A1 n1 c1] 24))
  clear HV3 HB3 hv4
  clear hI1
  obtain ⟨a0, a1, a2, a3⟩ := ImgBox.cells (HV4.out (w.heap.size, W, H, A, n, c, P) (by simp)).1
  simp only at a0 a1 a2 a3
  obtain ⟨b0, b1, b2, b3⟩ := ImgBox.cells (HV4.out (w.heap.size + 1, W', H', B, m, d, Q) (by simp)).1
  simp only at b0 b1 b2 b3
  have hv5 := HV4.out.add (A := none) (W := 0) (H := 0) (n := 0) (c := 0) (Ints.nil _ _)
  try simp only [World.size_alloc] at hv5
  have HV5 := hide hv5
  have HB5 := hide (HB4.out.alloc HB4.out.size (.cells #[.int .i64 0, .int .i64 0, .slice none 0 0] 24))
  clear HV4 HB4 hv5
  obtain ⟨a0, a1, a2, a3⟩ := ImgBox.cells (HV5.out (w.heap.size, W, H, A, n, c, P) (by simp)).1
  simp only at a0 a1 a2 a3
  obtain ⟨b0, b1, b2, b3⟩ := ImgBox.cells (HV5.out (w.heap.size + 1, W', H', B, m, d, Q) (by simp)).1
  simp only at b0 b1 b2 b3
  go_wp2_with fail
  refine Calls.mono ((unhide HFA) _ (HV5.out (w.heap.size, W, H, A, n, c, P) (by simp)).2) ?_
  rintro e w2 ⟨rfl, hE2⟩
  have HV6 := hide (HV5.out.keep hE2)
  have HB6 := hide (HB5.out.trans (hE2.mono HB5.out.size))
  clear HV5 HB5
  clear hE2
  rw [decide_eq_true H1.out]
  obtain ⟨a0, a1, a2, a3⟩ := ImgBox.cells (HV6.out (w.heap.size, W, H, A, n, c, P) (by simp)).1
  simp only at a0 a1 a2 a3
  obtain ⟨b0, b1, b2, b3⟩ := ImgBox.cells (HV6.out (w.heap.size + 1, W', H', B, m, d, Q) (by simp)).1
  simp only at b0 b1 b2 b3
  go_wp2_with fail
  refine Calls.mono ((unhide HFB) _ (HV6.out (w.heap.size + 1, W', H', B, m, d, Q) (by simp)).2) ?_
  rintro e w3 ⟨rfl, hE3⟩
  have HV7 := hide (HV6.out.keep hE3)
  have HB7 := hide (HB6.out.trans (hE3.mono HB6.out.size))
  clear HV6 HB6
  clear hE3
  rw [decide_eq_false H2.out]
  obtain ⟨a0, a1, a2, a3⟩ := ImgBox.cells (HV7.out (w.heap.size, W, H, A, n, c, P) (by simp)).1
  simp only at a0 a1 a2 a3
  obtain ⟨b0, b1, b2, b3⟩ := ImgBox.cells (HV7.out (w.heap.size + 1, W', H', B, m, d, Q) (by simp)).1
  simp only at b0 b1 b2 b3
  go_wp2_with fail
  refine Calls.mono (imageBegun_any _) ?_
  rintro e wz ⟨rfl, hEz⟩
  have HV8 := hide (HV7.out.keep hEz)
  have HB8 := hide (HB7.out.trans (hEz.mono HB7.out.size))
  clear HV7 HB7
  clear hEz
  obtain ⟨b0, b1, b2, b3⟩ := ImgBox.cells (HV8.out (w1.heap.size, W1, H1', A1, n1, c1, P1) (by simp)).1
  simp only at b0 b1 b2 b3
  obtain ⟨d0, d1, d2, d3⟩ := ImgBox.cells (HV8.out (w1.heap.size + 1, 0, 0, none, 0, 0, []) (by simp)).1
  simp only at d0 d1 d2 d3
  go_wp2_with fail
  refine Calls.mono (sameImg_true W1 H1' 0 0 A1 none n1 c1 0 0 P1 [] _ (HR1.out.trans HNO.out) HN1.out rfl (HV8.out (w1.heap.size, W1, H1', A1, n1, c1, P1) (by simp)).2 (HV8.out (w1.heap.size + 1, 0, 0, none, 0, 0, []) (by simp)).2 (by have := mkLen (HR1.out.trans HNO.out) HN1.out; omega)) ?_
  rintro e wy ⟨rfl, hEy⟩
  have HV9 := hide (HV8.out.keep hEy)
  have HB9 := hide (HB8.out.trans (hEy.mono HB8.out.size))
  clear HV8 HB8
  clear hEy
  go_wp2_with fail
  go_ret
  exact ⟨rfl, HB9.out⟩

set_option maxRecDepth 100000 in
set_option maxHeartbeats 1000000 in
theorem imageTwos_C (op : Int) (W H : Int) (A : Option Addr) (n c : Nat) (P : List Int) (W' H' : Int) (B : Option Addr) (m d : Nat) (Q : List Int) (w : World) (hn : P.length = n) (hI : Ints w A P) (hl : n ≤ 9223372036854775807) (hm : Q.length = m) (hJ : Ints w B Q) (hl' : m ≤ 9223372036854775807) (h1 : Img.Fine ⟨W, H, P⟩) (h2 : Img.Fine ⟨W', H', Q⟩) (h3 : ¬ (4 ≤ op ∧ op ≤ 7)) :
    Calls Try.prog 5 #[.int .i64 op, .agg #[.int .i64 W, .int .i64 H, .slice A n c], .agg #[.int .i64 W', .int .i64 H', .slice B m d]] w fun e w' => e = .returned (.bool true) ∧ Below w.heap.size w w' := by
  have HAll : Hid (twoErr op ⟨W, H, P⟩ ⟨W', H', Q⟩ = 4) := hide (by unfold twoErr; rw [if_neg (fun h => h.elim (fun x => x h1) (fun x => x h2)), if_pos h3])
  have HV0 := hide (show ImgVars w [] from fun v hv => by simp at hv)
  have HB0 := hide (Below.refl w.heap.size w)
  have hv1 := HV0.out.add (A := A) (W := W) (H := H) (n := n) (c := c) hI
  try simp only [World.size_alloc] at hv1
  have HV1 := hide hv1
  have HB1 := hide (HB0.out.alloc HB0.out.size (.cells #[.int .i64 W, .int .i64 H, .slice A n c] 24))
  clear HV0 HB0 hv1
  have hv2 := HV1.out.add (A := B) (W := W') (H := H') (n := m) (c := d) (hJ.keep (HB1.out))
  try simp only [World.size_alloc] at hv2
  have HV2 := hide hv2
  have HB2 := hide (HB1.out.alloc HB1.out.size (.cells #[.int .i64 W', .int .i64 H', .slice B m d] 24))
  clear HV1 HB1 hv2
  have HN := hide hn
  have HTWO := hide (fun (W0 : World) (hI0 : Ints W0 A P) (hJ0 : Ints W0 B Q) => two_any op W H A n c P W' H' B m d Q W0 hn hI0 hl hm hJ0 hl')
  have HFA := hide (fun (W0 : World) (hI0 : Ints W0 A P) => fine_any W H A n c P W0 hn hI0 hl)
  have HFB := hide (fun (W0 : World) (hI0 : Ints W0 B Q) => fine_any W' H' B m d Q W0 hm hI0 hl')
  have HNO : Hid (twoAns op ⟨W, H, P⟩ ⟨W', H', Q⟩ = Img.none) := hide (by unfold twoAns; rw [HAll.out]; rfl)
  have H1 := hide h1
  have H2 := hide h2
  have H3 := hide h3
  clear h3
  clear hn hI hm hJ h1 h2
  go_enter Try.func5, Try.ntmps5
  go_wp2_with fail
  obtain ⟨a0, a1, a2, a3⟩ := ImgBox.cells (HV2.out (w.heap.size, W, H, A, n, c, P) (by simp)).1
  simp only at a0 a1 a2 a3
  obtain ⟨b0, b1, b2, b3⟩ := ImgBox.cells (HV2.out (w.heap.size + 1, W', H', B, m, d, Q) (by simp)).1
  simp only at b0 b1 b2 b3
  go_wp2_with fail
  refine Calls.mono ((unhide HTWO) _ (HV2.out (w.heap.size, W, H, A, n, c, P) (by simp)).2 (HV2.out (w.heap.size + 1, W', H', B, m, d, Q) (by simp)).2) ?_
  rintro e w1 ⟨W1, H1', P1, A1, n1, c1, hr1, hn1, rfl, hI1, hA1, hE1⟩
  have HV3 := hide (HV2.out.keep hE1)
  have HB3 := hide (HB2.out.trans (hE1.mono HB2.out.size))
  clear HV2 HB2
  clear hE1
  have HR1 := hide hr1
  have HN1 := hide hn1
  clear hr1 hn1 hA1
  rw [HAll.out]
  have hv4 := HV3.out.add (A := A1) (W := W1) (H := H1') (n := n1) (c := c1) hI1
  try simp only [World.size_alloc] at hv4
  have HV4 := hide hv4
  have HB4 := hide (HB3.out.alloc HB3.out.size (.cells #[.int .i64 W1, .int .i64 H1', .slice A1 n1 c1] 24))
  clear HV3 HB3 hv4
  clear hI1
  obtain ⟨a0, a1, a2, a3⟩ := ImgBox.cells (HV4.out (w.heap.size, W, H, A, n, c, P) (by simp)).1
  simp only at a0 a1 a2 a3
  obtain ⟨b0, b1, b2, b3⟩ := ImgBox.cells (HV4.out (w.heap.size + 1, W', H', B, m, d, Q) (by simp)).1
  simp only at b0 b1 b2 b3
  have hv5 := HV4.out.add (A := none) (W := 0) (H := 0) (n := 0) (c := 0) (Ints.nil _ _)
  try simp only [World.size_alloc] at hv5
  have HV5 := hide hv5
  have HB5 := hide (HB4.out.alloc HB4.out.size (.cells #[.int .i64 0, .int .i64 0, .slice none 0 0] 24))
  clear HV4 HB4 hv5
  obtain ⟨a0, a1, a2, a3⟩ := ImgBox.cells (HV5.out (w.heap.size, W, H, A, n, c, P) (by simp)).1
  simp only at a0 a1 a2 a3
  obtain ⟨b0, b1, b2, b3⟩ := ImgBox.cells (HV5.out (w.heap.size + 1, W', H', B, m, d, Q) (by simp)).1
  simp only at b0 b1 b2 b3
  go_wp2_with fail
  refine Calls.mono ((unhide HFA) _ (HV5.out (w.heap.size, W, H, A, n, c, P) (by simp)).2) ?_
  rintro e w2 ⟨rfl, hE2⟩
  have HV6 := hide (HV5.out.keep hE2)
  have HB6 := hide (HB5.out.trans (hE2.mono HB5.out.size))
  clear HV5 HB5
  clear hE2
  rw [decide_eq_true H1.out]
  obtain ⟨a0, a1, a2, a3⟩ := ImgBox.cells (HV6.out (w.heap.size, W, H, A, n, c, P) (by simp)).1
  simp only at a0 a1 a2 a3
  obtain ⟨b0, b1, b2, b3⟩ := ImgBox.cells (HV6.out (w.heap.size + 1, W', H', B, m, d, Q) (by simp)).1
  simp only at b0 b1 b2 b3
  go_wp2_with fail
  refine Calls.mono ((unhide HFB) _ (HV6.out (w.heap.size + 1, W', H', B, m, d, Q) (by simp)).2) ?_
  rintro e w3 ⟨rfl, hE3⟩
  have HV7 := hide (HV6.out.keep hE3)
  have HB7 := hide (HB6.out.trans (hE3.mono HB6.out.size))
  clear HV6 HB6
  clear hE3
  rw [decide_eq_true H2.out]
  obtain ⟨a0, a1, a2, a3⟩ := ImgBox.cells (HV7.out (w.heap.size, W, H, A, n, c, P) (by simp)).1
  simp only at a0 a1 a2 a3
  obtain ⟨b0, b1, b2, b3⟩ := ImgBox.cells (HV7.out (w.heap.size + 1, W', H', B, m, d, Q) (by simp)).1
  simp only at b0 b1 b2 b3
  go_wp2_with fail
  refine Calls.mono (isTwo_any op _) ?_
  rintro e w5 ⟨rfl, he5⟩
  subst he5
  rw [decide_eq_false H3.out]
  go_wp2_with fail
  refine Calls.mono (imageBegun_any _) ?_
  rintro e wz ⟨rfl, hEz⟩
  have HV8 := hide (HV7.out.keep hEz)
  have HB8 := hide (HB7.out.trans (hEz.mono HB7.out.size))
  clear HV7 HB7
  clear hEz
  obtain ⟨b0, b1, b2, b3⟩ := ImgBox.cells (HV8.out (w1.heap.size, W1, H1', A1, n1, c1, P1) (by simp)).1
  simp only at b0 b1 b2 b3
  obtain ⟨d0, d1, d2, d3⟩ := ImgBox.cells (HV8.out (w1.heap.size + 1, 0, 0, none, 0, 0, []) (by simp)).1
  simp only at d0 d1 d2 d3
  go_wp2_with fail
  refine Calls.mono (sameImg_true W1 H1' 0 0 A1 none n1 c1 0 0 P1 [] _ (HR1.out.trans HNO.out) HN1.out rfl (HV8.out (w1.heap.size, W1, H1', A1, n1, c1, P1) (by simp)).2 (HV8.out (w1.heap.size + 1, 0, 0, none, 0, 0, []) (by simp)).2 (by have := mkLen (HR1.out.trans HNO.out) HN1.out; omega)) ?_
  rintro e wy ⟨rfl, hEy⟩
  have HV9 := hide (HV8.out.keep hEy)
  have HB9 := hide (HB8.out.trans (hEy.mono HB8.out.size))
  clear HV8 HB8
  clear hEy
  go_wp2_with fail
  go_ret
  exact ⟨rfl, HB9.out⟩

set_option maxRecDepth 100000 in
set_option maxHeartbeats 1000000 in
theorem imageTwos_D (op : Int) (W H : Int) (A : Option Addr) (n c : Nat) (P : List Int) (W' H' : Int) (B : Option Addr) (m d : Nat) (Q : List Int) (w : World) (hn : P.length = n) (hI : Ints w A P) (hl : n ≤ 9223372036854775807) (hm : Q.length = m) (hJ : Ints w B Q) (hl' : m ≤ 9223372036854775807) (h1 : Img.Fine ⟨W, H, P⟩) (h2 : Img.Fine ⟨W', H', Q⟩) (h3 : 4 ≤ op ∧ op ≤ 7) (h4 : ¬ W = W') :
    Calls Try.prog 5 #[.int .i64 op, .agg #[.int .i64 W, .int .i64 H, .slice A n c], .agg #[.int .i64 W', .int .i64 H', .slice B m d]] w fun e w' => e = .returned (.bool true) ∧ Below w.heap.size w w' := by
  have HAll : Hid (twoErr op ⟨W, H, P⟩ ⟨W', H', Q⟩ = 6) := hide (by unfold twoErr; rw [if_neg (fun h => h.elim (fun x => x h1) (fun x => x h2)), if_neg (fun h => h h3), if_pos (Or.inl h4)])
  have HV0 := hide (show ImgVars w [] from fun v hv => by simp at hv)
  have HB0 := hide (Below.refl w.heap.size w)
  have hv1 := HV0.out.add (A := A) (W := W) (H := H) (n := n) (c := c) hI
  try simp only [World.size_alloc] at hv1
  have HV1 := hide hv1
  have HB1 := hide (HB0.out.alloc HB0.out.size (.cells #[.int .i64 W, .int .i64 H, .slice A n c] 24))
  clear HV0 HB0 hv1
  have hv2 := HV1.out.add (A := B) (W := W') (H := H') (n := m) (c := d) (hJ.keep (HB1.out))
  try simp only [World.size_alloc] at hv2
  have HV2 := hide hv2
  have HB2 := hide (HB1.out.alloc HB1.out.size (.cells #[.int .i64 W', .int .i64 H', .slice B m d] 24))
  clear HV1 HB1 hv2
  have HN := hide hn
  have HTWO := hide (fun (W0 : World) (hI0 : Ints W0 A P) (hJ0 : Ints W0 B Q) => two_any op W H A n c P W' H' B m d Q W0 hn hI0 hl hm hJ0 hl')
  have HFA := hide (fun (W0 : World) (hI0 : Ints W0 A P) => fine_any W H A n c P W0 hn hI0 hl)
  have HFB := hide (fun (W0 : World) (hI0 : Ints W0 B Q) => fine_any W' H' B m d Q W0 hm hI0 hl')
  have HNO : Hid (twoAns op ⟨W, H, P⟩ ⟨W', H', Q⟩ = Img.none) := hide (by unfold twoAns; rw [HAll.out]; rfl)
  have H1 := hide h1
  have H2 := hide h2
  have H3 := hide h3
  clear hn hI hm hJ h1 h2
  go_enter Try.func5, Try.ntmps5
  go_wp2_with fail
  obtain ⟨a0, a1, a2, a3⟩ := ImgBox.cells (HV2.out (w.heap.size, W, H, A, n, c, P) (by simp)).1
  simp only at a0 a1 a2 a3
  obtain ⟨b0, b1, b2, b3⟩ := ImgBox.cells (HV2.out (w.heap.size + 1, W', H', B, m, d, Q) (by simp)).1
  simp only at b0 b1 b2 b3
  go_wp2_with fail
  refine Calls.mono ((unhide HTWO) _ (HV2.out (w.heap.size, W, H, A, n, c, P) (by simp)).2 (HV2.out (w.heap.size + 1, W', H', B, m, d, Q) (by simp)).2) ?_
  rintro e w1 ⟨W1, H1', P1, A1, n1, c1, hr1, hn1, rfl, hI1, hA1, hE1⟩
  have HV3 := hide (HV2.out.keep hE1)
  have HB3 := hide (HB2.out.trans (hE1.mono HB2.out.size))
  clear HV2 HB2
  clear hE1
  have HR1 := hide hr1
  have HN1 := hide hn1
  clear hr1 hn1 hA1
  rw [HAll.out]
  have hv4 := HV3.out.add (A := A1) (W := W1) (H := H1') (n := n1) (c := c1) hI1
  try simp only [World.size_alloc] at hv4
  have HV4 := hide hv4
  have HB4 := hide (HB3.out.alloc HB3.out.size (.cells #[.int .i64 W1, .int .i64 H1', .slice A1 n1 c1] 24))
  clear HV3 HB3 hv4
  clear hI1
  obtain ⟨a0, a1, a2, a3⟩ := ImgBox.cells (HV4.out (w.heap.size, W, H, A, n, c, P) (by simp)).1
  simp only at a0 a1 a2 a3
  obtain ⟨b0, b1, b2, b3⟩ := ImgBox.cells (HV4.out (w.heap.size + 1, W', H', B, m, d, Q) (by simp)).1
  simp only at b0 b1 b2 b3
  have hv5 := HV4.out.add (A := none) (W := 0) (H := 0) (n := 0) (c := 0) (Ints.nil _ _)
  try simp only [World.size_alloc] at hv5
  have HV5 := hide hv5
  have HB5 := hide (HB4.out.alloc HB4.out.size (.cells #[.int .i64 0, .int .i64 0, .slice none 0 0] 24))
  clear HV4 HB4 hv5
  obtain ⟨a0, a1, a2, a3⟩ := ImgBox.cells (HV5.out (w.heap.size, W, H, A, n, c, P) (by simp)).1
  simp only at a0 a1 a2 a3
  obtain ⟨b0, b1, b2, b3⟩ := ImgBox.cells (HV5.out (w.heap.size + 1, W', H', B, m, d, Q) (by simp)).1
  simp only at b0 b1 b2 b3
  go_wp2_with fail
  refine Calls.mono ((unhide HFA) _ (HV5.out (w.heap.size, W, H, A, n, c, P) (by simp)).2) ?_
  rintro e w2 ⟨rfl, hE2⟩
  have HV6 := hide (HV5.out.keep hE2)
  have HB6 := hide (HB5.out.trans (hE2.mono HB5.out.size))
  clear HV5 HB5
  clear hE2
  rw [decide_eq_true H1.out]
  obtain ⟨a0, a1, a2, a3⟩ := ImgBox.cells (HV6.out (w.heap.size, W, H, A, n, c, P) (by simp)).1
  simp only at a0 a1 a2 a3
  obtain ⟨b0, b1, b2, b3⟩ := ImgBox.cells (HV6.out (w.heap.size + 1, W', H', B, m, d, Q) (by simp)).1
  simp only at b0 b1 b2 b3
  go_wp2_with fail
  refine Calls.mono ((unhide HFB) _ (HV6.out (w.heap.size + 1, W', H', B, m, d, Q) (by simp)).2) ?_
  rintro e w3 ⟨rfl, hE3⟩
  have HV7 := hide (HV6.out.keep hE3)
  have HB7 := hide (HB6.out.trans (hE3.mono HB6.out.size))
  clear HV6 HB6
  clear hE3
  rw [decide_eq_true H2.out]
  obtain ⟨a0, a1, a2, a3⟩ := ImgBox.cells (HV7.out (w.heap.size, W, H, A, n, c, P) (by simp)).1
  simp only at a0 a1 a2 a3
  obtain ⟨b0, b1, b2, b3⟩ := ImgBox.cells (HV7.out (w.heap.size + 1, W', H', B, m, d, Q) (by simp)).1
  simp only at b0 b1 b2 b3
  go_wp2_with fail
  refine Calls.mono (isTwo_any op _) ?_
  rintro e w5 ⟨rfl, he5⟩
  subst he5
  rw [decide_eq_true H3.out]
  go_wp2_with fail
  all_goals try (exfalso; omega)
  refine Calls.mono (imageBegun_any _) ?_
  rintro e wz ⟨rfl, hEz⟩
  have HV8 := hide (HV7.out.keep hEz)
  have HB8 := hide (HB7.out.trans (hEz.mono HB7.out.size))
  clear HV7 HB7
  clear hEz
  obtain ⟨b0, b1, b2, b3⟩ := ImgBox.cells (HV8.out (w1.heap.size, W1, H1', A1, n1, c1, P1) (by simp)).1
  simp only at b0 b1 b2 b3
  obtain ⟨d0, d1, d2, d3⟩ := ImgBox.cells (HV8.out (w1.heap.size + 1, 0, 0, none, 0, 0, []) (by simp)).1
  simp only at d0 d1 d2 d3
  go_wp2_with fail
  refine Calls.mono (sameImg_true W1 H1' 0 0 A1 none n1 c1 0 0 P1 [] _ (HR1.out.trans HNO.out) HN1.out rfl (HV8.out (w1.heap.size, W1, H1', A1, n1, c1, P1) (by simp)).2 (HV8.out (w1.heap.size + 1, 0, 0, none, 0, 0, []) (by simp)).2 (by have := mkLen (HR1.out.trans HNO.out) HN1.out; omega)) ?_
  rintro e wy ⟨rfl, hEy⟩
  have HV9 := hide (HV8.out.keep hEy)
  have HB9 := hide (HB8.out.trans (hEy.mono HB8.out.size))
  clear HV8 HB8
  clear hEy
  go_wp2_with fail
  go_ret
  exact ⟨rfl, HB9.out⟩

set_option maxRecDepth 100000 in
set_option maxHeartbeats 1000000 in
theorem imageTwos_E (op : Int) (W H : Int) (A : Option Addr) (n c : Nat) (P : List Int) (W' H' : Int) (B : Option Addr) (m d : Nat) (Q : List Int) (w : World) (hn : P.length = n) (hI : Ints w A P) (hl : n ≤ 9223372036854775807) (hm : Q.length = m) (hJ : Ints w B Q) (hl' : m ≤ 9223372036854775807) (h1 : Img.Fine ⟨W, H, P⟩) (h2 : Img.Fine ⟨W', H', Q⟩) (h3 : 4 ≤ op ∧ op ≤ 7) (h4 : W = W') (h5 : ¬ H = H') :
    Calls Try.prog 5 #[.int .i64 op, .agg #[.int .i64 W, .int .i64 H, .slice A n c], .agg #[.int .i64 W', .int .i64 H', .slice B m d]] w fun e w' => e = .returned (.bool true) ∧ Below w.heap.size w w' := by
  subst h4
  have h4 : W = W := rfl
  have HAll : Hid (twoErr op ⟨W, H, P⟩ ⟨W, H', Q⟩ = 6) := hide (by unfold twoErr; rw [if_neg (fun h => h.elim (fun x => x h1) (fun x => x h2)), if_neg (fun h => h h3), if_pos (Or.inr h5)])
  have HV0 := hide (show ImgVars w [] from fun v hv => by simp at hv)
  have HB0 := hide (Below.refl w.heap.size w)
  have hv1 := HV0.out.add (A := A) (W := W) (H := H) (n := n) (c := c) hI
  try simp only [World.size_alloc] at hv1
  have HV1 := hide hv1
  have HB1 := hide (HB0.out.alloc HB0.out.size (.cells #[.int .i64 W, .int .i64 H, .slice A n c] 24))
  clear HV0 HB0 hv1
  have hv2 := HV1.out.add (A := B) (W := W) (H := H') (n := m) (c := d) (hJ.keep (HB1.out))
  try simp only [World.size_alloc] at hv2
  have HV2 := hide hv2
  have HB2 := hide (HB1.out.alloc HB1.out.size (.cells #[.int .i64 W, .int .i64 H', .slice B m d] 24))
  clear HV1 HB1 hv2
  have HN := hide hn
  have HTWO := hide (fun (W0 : World) (hI0 : Ints W0 A P) (hJ0 : Ints W0 B Q) => two_any op W H A n c P W H' B m d Q W0 hn hI0 hl hm hJ0 hl')
  have HFA := hide (fun (W0 : World) (hI0 : Ints W0 A P) => fine_any W H A n c P W0 hn hI0 hl)
  have HFB := hide (fun (W0 : World) (hI0 : Ints W0 B Q) => fine_any W H' B m d Q W0 hm hI0 hl')
  have HNO : Hid (twoAns op ⟨W, H, P⟩ ⟨W, H', Q⟩ = Img.none) := hide (by unfold twoAns; rw [HAll.out]; rfl)
  have H1 := hide h1
  have H2 := hide h2
  have H3 := hide h3
  clear hn hI hm hJ h1 h2 h4
  go_enter Try.func5, Try.ntmps5
  go_wp2_with fail
  obtain ⟨a0, a1, a2, a3⟩ := ImgBox.cells (HV2.out (w.heap.size, W, H, A, n, c, P) (by simp)).1
  simp only at a0 a1 a2 a3
  obtain ⟨b0, b1, b2, b3⟩ := ImgBox.cells (HV2.out (w.heap.size + 1, W, H', B, m, d, Q) (by simp)).1
  simp only at b0 b1 b2 b3
  go_wp2_with fail
  refine Calls.mono ((unhide HTWO) _ (HV2.out (w.heap.size, W, H, A, n, c, P) (by simp)).2 (HV2.out (w.heap.size + 1, W, H', B, m, d, Q) (by simp)).2) ?_
  rintro e w1 ⟨W1, H1', P1, A1, n1, c1, hr1, hn1, rfl, hI1, hA1, hE1⟩
  have HV3 := hide (HV2.out.keep hE1)
  have HB3 := hide (HB2.out.trans (hE1.mono HB2.out.size))
  clear HV2 HB2
  clear hE1
  have HR1 := hide hr1
  have HN1 := hide hn1
  clear hr1 hn1 hA1
  rw [HAll.out]
  have hv4 := HV3.out.add (A := A1) (W := W1) (H := H1') (n := n1) (c := c1) hI1
  try simp only [World.size_alloc] at hv4
  have HV4 := hide hv4
  have HB4 := hide (HB3.out.alloc HB3.out.size (.cells #[.int .i64 W1, .int .i64 H1', .slice A1 n1 c1] 24))
  clear HV3 HB3 hv4
  clear hI1
  obtain ⟨a0, a1, a2, a3⟩ := ImgBox.cells (HV4.out (w.heap.size, W, H, A, n, c, P) (by simp)).1
  simp only at a0 a1 a2 a3
  obtain ⟨b0, b1, b2, b3⟩ := ImgBox.cells (HV4.out (w.heap.size + 1, W, H', B, m, d, Q) (by simp)).1
  simp only at b0 b1 b2 b3
  have hv5 := HV4.out.add (A := none) (W := 0) (H := 0) (n := 0) (c := 0) (Ints.nil _ _)
  try simp only [World.size_alloc] at hv5
  have HV5 := hide hv5
  have HB5 := hide (HB4.out.alloc HB4.out.size (.cells #[.int .i64 0, .int .i64 0, .slice none 0 0] 24))
  clear HV4 HB4 hv5
  obtain ⟨a0, a1, a2, a3⟩ := ImgBox.cells (HV5.out (w.heap.size, W, H, A, n, c, P) (by simp)).1
  simp only at a0 a1 a2 a3
  obtain ⟨b0, b1, b2, b3⟩ := ImgBox.cells (HV5.out (w.heap.size + 1, W, H', B, m, d, Q) (by simp)).1
  simp only at b0 b1 b2 b3
  go_wp2_with fail
  refine Calls.mono ((unhide HFA) _ (HV5.out (w.heap.size, W, H, A, n, c, P) (by simp)).2) ?_
  rintro e w2 ⟨rfl, hE2⟩
  have HV6 := hide (HV5.out.keep hE2)
  have HB6 := hide (HB5.out.trans (hE2.mono HB5.out.size))
  clear HV5 HB5
  clear hE2
  rw [decide_eq_true H1.out]
  obtain ⟨a0, a1, a2, a3⟩ := ImgBox.cells (HV6.out (w.heap.size, W, H, A, n, c, P) (by simp)).1
  simp only at a0 a1 a2 a3
  obtain ⟨b0, b1, b2, b3⟩ := ImgBox.cells (HV6.out (w.heap.size + 1, W, H', B, m, d, Q) (by simp)).1
  simp only at b0 b1 b2 b3
  go_wp2_with fail
  refine Calls.mono ((unhide HFB) _ (HV6.out (w.heap.size + 1, W, H', B, m, d, Q) (by simp)).2) ?_
  rintro e w3 ⟨rfl, hE3⟩
  have HV7 := hide (HV6.out.keep hE3)
  have HB7 := hide (HB6.out.trans (hE3.mono HB6.out.size))
  clear HV6 HB6
  clear hE3
  rw [decide_eq_true H2.out]
  obtain ⟨a0, a1, a2, a3⟩ := ImgBox.cells (HV7.out (w.heap.size, W, H, A, n, c, P) (by simp)).1
  simp only at a0 a1 a2 a3
  obtain ⟨b0, b1, b2, b3⟩ := ImgBox.cells (HV7.out (w.heap.size + 1, W, H', B, m, d, Q) (by simp)).1
  simp only at b0 b1 b2 b3
  go_wp2_with fail
  refine Calls.mono (isTwo_any op _) ?_
  rintro e w5 ⟨rfl, he5⟩
  subst he5
  rw [decide_eq_true H3.out]
  go_wp2_with fail
  all_goals try (exfalso; omega)
  refine Calls.mono (imageBegun_any _) ?_
  rintro e wz ⟨rfl, hEz⟩
  have HV8 := hide (HV7.out.keep hEz)
  have HB8 := hide (HB7.out.trans (hEz.mono HB7.out.size))
  clear HV7 HB7
  clear hEz
  obtain ⟨b0, b1, b2, b3⟩ := ImgBox.cells (HV8.out (w1.heap.size, W1, H1', A1, n1, c1, P1) (by simp)).1
  simp only at b0 b1 b2 b3
  obtain ⟨d0, d1, d2, d3⟩ := ImgBox.cells (HV8.out (w1.heap.size + 1, 0, 0, none, 0, 0, []) (by simp)).1
  simp only at d0 d1 d2 d3
  go_wp2_with fail
  refine Calls.mono (sameImg_true W1 H1' 0 0 A1 none n1 c1 0 0 P1 [] _ (HR1.out.trans HNO.out) HN1.out rfl (HV8.out (w1.heap.size, W1, H1', A1, n1, c1, P1) (by simp)).2 (HV8.out (w1.heap.size + 1, 0, 0, none, 0, 0, []) (by simp)).2 (by have := mkLen (HR1.out.trans HNO.out) HN1.out; omega)) ?_
  rintro e wy ⟨rfl, hEy⟩
  have HV9 := hide (HV8.out.keep hEy)
  have HB9 := hide (HB8.out.trans (hEy.mono HB8.out.size))
  clear HV8 HB8
  clear hEy
  go_wp2_with fail
  go_ret
  exact ⟨rfl, HB9.out⟩

set_option maxRecDepth 100000 in
set_option maxHeartbeats 1000000 in
theorem imageTwos_F (op : Int) (W H : Int) (A : Option Addr) (n c : Nat) (P : List Int) (W' H' : Int) (B : Option Addr) (m d : Nat) (Q : List Int) (w : World) (hn : P.length = n) (hI : Ints w A P) (hl : n ≤ 9223372036854775807) (hm : Q.length = m) (hJ : Ints w B Q) (hl' : m ≤ 9223372036854775807) (h1 : Img.Fine ⟨W, H, P⟩) (h2 : Img.Fine ⟨W', H', Q⟩) (h3 : 4 ≤ op ∧ op ≤ 7) (h4 : W = W') (h5 : H = H') :
    Calls Try.prog 5 #[.int .i64 op, .agg #[.int .i64 W, .int .i64 H, .slice A n c], .agg #[.int .i64 W', .int .i64 H', .slice B m d]] w fun e w' => e = .returned (.bool true) ∧ Below w.heap.size w w' := by
  subst h4
  have h4 : W = W := rfl
  subst h5
  have h5 : H = H := rfl
  have HAll : Hid (twoErr op ⟨W, H, P⟩ ⟨W, H, Q⟩ = 0) := hide (by unfold twoErr; rw [if_neg (fun h => h.elim (fun x => x h1) (fun x => x h2)), if_neg (fun h => h h3), if_neg (fun h => h.elim (fun x => x h4) (fun x => x h5))])
  have HV0 := hide (show ImgVars w [] from fun v hv => by simp at hv)
  have HB0 := hide (Below.refl w.heap.size w)
  have hv1 := HV0.out.add (A := A) (W := W) (H := H) (n := n) (c := c) hI
  try simp only [World.size_alloc] at hv1
  have HV1 := hide hv1
  have HB1 := hide (HB0.out.alloc HB0.out.size (.cells #[.int .i64 W, .int .i64 H, .slice A n c] 24))
  clear HV0 HB0 hv1
  have hv2 := HV1.out.add (A := B) (W := W) (H := H) (n := m) (c := d) (hJ.keep (HB1.out))
  try simp only [World.size_alloc] at hv2
  have HV2 := hide hv2
  have HB2 := hide (HB1.out.alloc HB1.out.size (.cells #[.int .i64 W, .int .i64 H, .slice B m d] 24))
  clear HV1 HB1 hv2
  have HN := hide hn
  have HTWO := hide (fun (W0 : World) (hI0 : Ints W0 A P) (hJ0 : Ints W0 B Q) => two_any op W H A n c P W H B m d Q W0 hn hI0 hl hm hJ0 hl')
  have HFA := hide (fun (W0 : World) (hI0 : Ints W0 A P) => fine_any W H A n c P W0 hn hI0 hl)
  have HFB := hide (fun (W0 : World) (hI0 : Ints W0 B Q) => fine_any W H B m d Q W0 hm hI0 hl')
  have HOF := hide (fun (W0 : World) (hI0 : Ints W0 A P) (hJ0 : Ints W0 B Q) => twoOf_ref op W H A n c P W H B m d Q W0 HAll.out hn hI0 hm hJ0)
  have H1 := hide h1
  have H2 := hide h2
  have H3 := hide h3
  clear hn hI hm hJ h1 h2 h4 h5
  go_enter Try.func5, Try.ntmps5
  go_wp2_with fail
  obtain ⟨a0, a1, a2, a3⟩ := ImgBox.cells (HV2.out (w.heap.size, W, H, A, n, c, P) (by simp)).1
  simp only at a0 a1 a2 a3
  obtain ⟨b0, b1, b2, b3⟩ := ImgBox.cells (HV2.out (w.heap.size + 1, W, H, B, m, d, Q) (by simp)).1
  simp only at b0 b1 b2 b3
  go_wp2_with fail
  refine Calls.mono ((unhide HTWO) _ (HV2.out (w.heap.size, W, H, A, n, c, P) (by simp)).2 (HV2.out (w.heap.size + 1, W, H, B, m, d, Q) (by simp)).2) ?_
  rintro e w1 ⟨W1, H1', P1, A1, n1, c1, hr1, hn1, rfl, hI1, hA1, hE1⟩
  have HV3 := hide (HV2.out.keep hE1)
  have HB3 := hide (HB2.out.trans (hE1.mono HB2.out.size))
  clear HV2 HB2
  clear hE1
  have HR1 := hide hr1
  have HN1 := hide hn1
  clear hr1 hn1 hA1
  rw [HAll.out]
  have hv4 := HV3.out.add (A := A1) (W := W1) (H := H1') (n := n1) (c := c1) hI1
  try simp only [World.size_alloc] at hv4
  have HV4 := hide hv4
  have HB4 := hide (HB3.out.alloc HB3.out.size (.cells #[.int .i64 W1, .int .i64 H1', .slice A1 n1 c1] 24))
  clear HV3 HB3 hv4
  clear hI1
  obtain ⟨a0, a1, a2, a3⟩ := ImgBox.cells (HV4.out (w.heap.size, W, H, A, n, c, P) (by simp)).1
  simp only at a0 a1 a2 a3
  obtain ⟨b0, b1, b2, b3⟩ := ImgBox.cells (HV4.out (w.heap.size + 1, W, H, B, m, d, Q) (by simp)).1
  simp only at b0 b1 b2 b3
  have HV4k := HV4
  have HB4k := HB4
  have hv5 := HV4.out.add (A := none) (W := 0) (H := 0) (n := 0) (c := 0) (Ints.nil _ _)
  try simp only [World.size_alloc] at hv5
  have HV5 := hide hv5
  have HB5 := hide (HB4.out.alloc HB4.out.size (.cells #[.int .i64 0, .int .i64 0, .slice none 0 0] 24))
  clear HV4 HB4 hv5
  obtain ⟨a0, a1, a2, a3⟩ := ImgBox.cells (HV5.out (w.heap.size, W, H, A, n, c, P) (by simp)).1
  simp only at a0 a1 a2 a3
  obtain ⟨b0, b1, b2, b3⟩ := ImgBox.cells (HV5.out (w.heap.size + 1, W, H, B, m, d, Q) (by simp)).1
  simp only at b0 b1 b2 b3
  go_wp2_with fail
  refine Calls.mono ((unhide HFA) _ (HV5.out (w.heap.size, W, H, A, n, c, P) (by simp)).2) ?_
  rintro e w2 ⟨rfl, hE2⟩
  have HV6 := hide (HV5.out.keep hE2)
  have HB6 := hide (HB5.out.trans (hE2.mono HB5.out.size))
  clear HV5 HB5
  rw [decide_eq_true H1.out]
  obtain ⟨a0, a1, a2, a3⟩ := ImgBox.cells (HV6.out (w.heap.size, W, H, A, n, c, P) (by simp)).1
  simp only at a0 a1 a2 a3
  obtain ⟨b0, b1, b2, b3⟩ := ImgBox.cells (HV6.out (w.heap.size + 1, W, H, B, m, d, Q) (by simp)).1
  simp only at b0 b1 b2 b3
  go_wp2_with fail
  refine Calls.mono ((unhide HFB) _ (HV6.out (w.heap.size + 1, W, H, B, m, d, Q) (by simp)).2) ?_
  rintro e w3 ⟨rfl, hE3⟩
  have HV7 := hide (HV6.out.keep hE3)
  have HB7 := hide (HB6.out.trans (hE3.mono HB6.out.size))
  clear HV6 HB6
  rw [decide_eq_true H2.out]
  obtain ⟨a0, a1, a2, a3⟩ := ImgBox.cells (HV7.out (w.heap.size, W, H, A, n, c, P) (by simp)).1
  simp only at a0 a1 a2 a3
  obtain ⟨b0, b1, b2, b3⟩ := ImgBox.cells (HV7.out (w.heap.size + 1, W, H, B, m, d, Q) (by simp)).1
  simp only at b0 b1 b2 b3
  go_wp2_with fail
  refine Calls.mono (isTwo_any op _) ?_
  rintro e w5 ⟨rfl, he5⟩
  subst he5
  rw [decide_eq_true H3.out]
  go_wp2_with fail
  all_goals try (exfalso; omega)
  refine Calls.mono ((unhide HOF) _ (HV7.out (w.heap.size, W, H, A, n, c, P) (by simp)).2 (HV7.out (w.heap.size + 1, W, H, B, m, d, Q) (by simp)).2) ?_
  rintro e w4 ⟨W4, H4, P4, A4, n4, c4, hr4, hn4, rfl, hI4, hA4, hE4⟩
  have HR4 := hide hr4
  have HN4 := hide hn4
  have hEE : Below ((w1.alloc (.cells #[.int .i64 W1, .int .i64 H1', .slice A1 n1 c1] 24)).alloc (.cells #[.int .i64 0, .int .i64 0, .slice none 0 0] 24)).heap.size ((w1.alloc (.cells #[.int .i64 W1, .int .i64 H1', .slice A1 n1 c1] 24)).alloc (.cells #[.int .i64 0, .int .i64 0, .slice none 0 0] 24)) w4 := (hE2.trans (hE3.mono hE2.size)).trans (hE4.mono (Nat.le_trans hE2.size hE3.size))
  have hst := HV4k.out.store (W := W4) (H := H4) (n := n4) (c := c4) hEE hI4 (hA4.mono (Nat.le_trans hE2.size hE3.size))
  have hsb := store_below (a := .int .i64 W4) (b := .int .i64 H4) (c := .slice A4 n4 c4) HB4k.out hEE
  obtain ⟨x0, x1, x2, x3, x4, x5, x6⟩ := store_cells hEE
  simp only [World.size_alloc] at hst hsb x0 x1 x2 x3 x4 x5 x6
  have HV8 := hide hst
  have HB8 := hide hsb
  clear hst hsb hEE hE2 hE3 hE4 hI4 hA4 hr4 hn4 HV4k HB4k HV7 HB7
  go_wp2_with fail
  refine Calls.mono (imageBegun_any _) ?_
  rintro e wz ⟨rfl, hEz⟩
  have HV9 := hide (HV8.out.keep hEz)
  have HB9 := hide (HB8.out.trans (hEz.mono HB8.out.size))
  clear HV8 HB8
  clear hEz
  obtain ⟨b0, b1, b2, b3⟩ := ImgBox.cells (HV9.out (w1.heap.size, W1, H1', A1, n1, c1, P1) (by simp)).1
  simp only at b0 b1 b2 b3
  obtain ⟨d0, d1, d2, d3⟩ := ImgBox.cells (HV9.out (w1.heap.size + 1, W4, H4, A4, n4, c4, P4) (by simp)).1
  simp only at d0 d1 d2 d3
  go_wp2_with fail
  refine Calls.mono (sameImg_true W1 H1' W4 H4 A1 A4 n1 c1 n4 c4 P1 P4 _ (HR1.out.trans HR4.out.symm) HN1.out HN4.out (HV9.out (w1.heap.size, W1, H1', A1, n1, c1, P1) (by simp)).2 (HV9.out (w1.heap.size + 1, W4, H4, A4, n4, c4, P4) (by simp)).2 (by have := twoAns_len op W H P _ HR1.out; have := HN1.out; have := HN.out; omega)) ?_
  rintro e wy ⟨rfl, hEy⟩
  have HV10 := hide (HV9.out.keep hEy)
  have HB10 := hide (HB9.out.trans (hEy.mono HB9.out.size))
  clear HV9 HB9
  clear hEy
  go_wp2_with fail
  go_ret
  exact ⟨rfl, HB10.out⟩

theorem imageTwos_any (op : Int) (W H : Int) (A : Option Addr) (n c : Nat) (P : List Int) (W' H' : Int) (B : Option Addr) (m d : Nat) (Q : List Int) (w : World) (hn : P.length = n) (hI : Ints w A P) (hl : n ≤ 9223372036854775807) (hm : Q.length = m) (hJ : Ints w B Q) (hl' : m ≤ 9223372036854775807) :
    Calls Try.prog 5 #[.int .i64 op, .agg #[.int .i64 W, .int .i64 H, .slice A n c], .agg #[.int .i64 W', .int .i64 H', .slice B m d]] w fun e w' => e = .returned (.bool true) ∧ Below w.heap.size w w' := by
  by_cases h1 : Img.Fine ⟨W, H, P⟩
  · by_cases h2 : Img.Fine ⟨W', H', Q⟩
    · by_cases h3 : 4 ≤ op ∧ op ≤ 7
      · by_cases h4 : W = W'
        · by_cases h5 : H = H'
          · exact imageTwos_F op W H A n c P W' H' B m d Q w hn hI hl hm hJ hl' h1 h2 h3 h4 h5
          · exact imageTwos_E op W H A n c P W' H' B m d Q w hn hI hl hm hJ hl' h1 h2 h3 h4 h5
        · exact imageTwos_D op W H A n c P W' H' B m d Q w hn hI hl hm hJ hl' h1 h2 h3 h4
      · exact imageTwos_C op W H A n c P W' H' B m d Q w hn hI hl hm hJ hl' h1 h2 h3
    · exact imageTwos_B op W H A n c P W' H' B m d Q w hn hI hl hm hJ hl' h1 h2
  · exact imageTwos_A op W H A n c P W' H' B m d Q w hn hI hl hm hJ hl' h1
end Go.Proofs.Ytibpmogmeoappaa
