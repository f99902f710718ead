/- Walks of the laws ImageOnes and ImageTwos. (Printed by gen_lawb.py.) -/
import Derived.Test.YtibpmogmeoappaaLawA
namespace Go.Proofs.Ytibpmogmeoappaa
open Go.RowKit

/-- the image in the last variable is replaced; that variable was laid ahead of the call whose image comes -/
theorem ImgVars.store {w0 w : World} {l : List (Nat × Int × Int × Option Addr × Nat × Nat × List Int)} (h : ImgVars w0 l) {a0 b0 c0 : Value} (hb : Below (w0.alloc (.cells #[a0, b0, c0] 24)).heap.size (w0.alloc (.cells #[a0, b0, c0] 24)) w)
    {W H : Int} {A : Option Addr} {n c : Nat} {P : List Int} (hI : Ints w A P) (hA : NewFrom (w0.alloc (.cells #[a0, b0, c0] 24)).heap.size A) :
    ImgVars (((w.setCell ⟨w0.heap.size, 0, none⟩ (.int .i64 W)).setCell ⟨w0.heap.size, 1, none⟩ (.int .i64 H)).setCell ⟨w0.heap.size, 2, none⟩ (.slice A n c)) (l ++ [(w0.heap.size, W, H, A, n, c, P)]) := by
  intro v hv
  rw [List.mem_append] at hv
  have hb0 : Below w0.heap.size w0 w := ((Below.refl _ _).alloc (Nat.le_refl _) _).trans (hb.mono (by simp))
  rcases hv with hv | hv
  · obtain ⟨h1, h2⟩ := h v hv
    have hlt : v.1 < w0.heap.size := Blk.lt h1
    exact ⟨put3_far (Blk.keep h1 hb0) (by omega), put3_older h2 hb0 (Nat.le_refl _)⟩
  · simp only [List.mem_singleton] at hv
    subst hv
    exact ⟨put3_box ((Blk.new w0 24 [a0, b0, c0]).keep hb), put3_ints hI hA (by simp)⟩
theorem store_below {w w0 w1 : World} {a0 b0 c0 a b c : Value} (h : Below w.heap.size w w0) (hb : Below (w0.alloc (.cells #[a0, b0, c0] 24)).heap.size (w0.alloc (.cells #[a0, b0, c0] 24)) w1) :
    Below w.heap.size w (((w1.setCell ⟨w0.heap.size, 0, none⟩ a).setCell ⟨w0.heap.size, 1, none⟩ b).setCell ⟨w0.heap.size, 2, none⟩ c) :=
  put3_below ((h.alloc h.size _).trans (hb.mono (Nat.le_trans h.size (by simp)))) h.size
theorem store_cells {w0 w1 : World} {a0 b0 c0 : Value} (hb : Below (w0.alloc (.cells #[a0, b0, c0] 24)).heap.size (w0.alloc (.cells #[a0, b0, c0] 24)) w1) :
    w0.heap.size < w1.heap.size ∧ w1.cell? ⟨w0.heap.size, 0, none⟩ = some a0 ∧ w1.cell? ⟨w0.heap.size, 1, none⟩ = some b0 ∧ w1.cell? ⟨w0.heap.size, 2, none⟩ = some c0 ∧ w1.frozen? ⟨w0.heap.size, 0, none⟩ = false ∧ w1.frozen? ⟨w0.heap.size, 1, none⟩ = false ∧ w1.frozen? ⟨w0.heap.size, 2, none⟩ = false := by
  have h := (Blk.new w0 24 [a0, b0, c0]).keep hb
  exact ⟨h.lt, by rw [h.cell]; rfl, by rw [h.cell]; rfl, by rw [h.cell]; rfl, h.frozen 0, h.frozen 1, h.frozen 2⟩
theorem oneOf_ref (op : Int) (W H : Int) (A : Option Addr) (n c : Nat) (P : List Int) (k : Int) (w : World) (hF : Img.Fine ⟨W, H, P⟩) (hn : P.length = n) (hI : Ints w A P) (hE : oneErr op ⟨W, H, P⟩ k = 0) :
    Calls Try.prog 22 #[.int .i64 op, .agg #[.int .i64 W, .int .i64 H, .slice A n c], .int .i64 k] w (RetImg w (oneAns op ⟨W, H, P⟩ k)) := by
  have hAll : oneErrAll op ⟨W, H, P⟩ k = oneErr op ⟨W, H, P⟩ k := if_pos hF
  have : oneAns op ⟨W, H, P⟩ k = oneImg op ⟨W, H, P⟩ k := by unfold oneAns; rw [hAll, hE]; rfl
  rw [this]
  exact oneOf_any op W H A n c P k w hF hn hI hE
theorem mkLen {W H : Int} {P : List Int} {n : Nat} (h : Img.mk W H P = Img.none) (hn : P.length = n) : n = 0 := by
  injection h with _ _ h3
  subst h3
  exact hn.symm
theorem twoOf_ref (op : Int) (W H : Int) (A : Option Addr) (n c : Nat) (P : List Int) (W' H' : Int) (B : Option Addr) (m d : Nat) (Q : List Int) (w : World)
    (hE : twoErr op ⟨W, H, P⟩ ⟨W', H', Q⟩ = 0) (hn : P.length = n) (hI : Ints w A P) (hm : Q.length = m) (hI' : Ints w B Q) :
    Calls Try.prog 25 #[.int .i64 op, .agg #[.int .i64 W, .int .i64 H, .slice A n c], .agg #[.int .i64 W', .int .i64 H', .slice B m d]] w (RetImg w (twoAns op ⟨W, H, P⟩ ⟨W', H', Q⟩)) := by
  have : twoAns op ⟨W, H, P⟩ ⟨W', H', Q⟩ = twoImg op ⟨W, H, P⟩ ⟨W', H', Q⟩ := if_pos hE
  rw [this]
  unfold twoErr at hE
  split at hE
  · omega
  · rename_i h1
    split at hE
    · omega
    · rename_i h2
      split at hE
      · omega
      · rename_i h3
        simp only at h3
        by_cases hF : Img.Fine ⟨W, H, P⟩
        · by_cases hF' : Img.Fine ⟨W', H', Q⟩
          · exact twoOf_any op W H A n c P W' H' B m d Q w (by omega) hF hn hI hF' hm hI' (by omega) (by omega)
          · exact absurd (Or.inr hF') h1
        · exact absurd (Or.inl hF) h1
theorem oneAns_len (op W H : Int) (P : List Int) (k : Int) {W1 H1 : Int} {P1 : List Int} (h : Img.mk W1 H1 P1 = oneAns op ⟨W, H, P⟩ k) : P1.length ≤ 65536 := by
  unfold oneAns at h
  split at h
  · rename_i h0
    unfold oneErrAll at h0
    split at h0
    · rename_i hF
      unfold oneImg drawn at h
      injection h with h1 h2 h3
      rw [h3, grid_length]
      obtain ⟨⟨d1, d2⟩, ⟨d3, d4⟩, _⟩ := hF
      simp only at d1 d2 d3 d4 ⊢
      have e : ∀ z : Int, z ≤ 16 → 1 ≤ z → (sizeW op z).toNat ≤ 32 := fun z hz hz1 => by
        unfold sizeW; split
        · omega
        · split <;> omega
      have := Nat.mul_le_mul (e W d2 d1) (e H d4 d3)
      omega
    · omega
  · injection h with h1 h2 h3
    subst h3; simp

set_option maxRecDepth 100000 in
set_option maxHeartbeats 1000000 in
theorem imageOnes_yes (op : Int) (W H : Int) (A : Option Addr) (n c : Nat) (P : List Int) (k : Int) (w : World) (hn : P.length = n) (hI : Ints w A P) (hl : n ≤ 9223372036854775807) (hF : Img.Fine ⟨W, H, P⟩) (hE : oneErr op ⟨W, H, P⟩ k = 0) :
    Calls Try.prog 4 #[.int .i64 op, .agg #[.int .i64 W, .int .i64 H, .slice A n c], .int .i64 k] w fun e w' => e = .returned (.bool true) ∧ Below w.heap.size w w' := by
  have HV0 := hide (show ImgVars w [] from fun v hv => by simp at hv)
  have HB0 := hide (Below.refl w.heap.size w)
  have hv1 := HV0.out.add (A := A) (W := W) (H := H) (n := n) (c := c) hI
  try simp only [World.size_alloc] at hv1
  have HV1 := hide hv1
  have HB1 := hide (HB0.out.alloc HB0.out.size (.cells #[.int .i64 W, .int .i64 H, .slice A n c] 24))
  clear HV0 HB0 hv1
  have HN := hide hn
  have HF := hide hF
  have HE := hide hE
  have HONE := hide (fun (W0 : World) (hI0 : Ints W0 A P) => one_any op W H A n c P k W0 hn hI0 hl)
  have HFN := hide (fun (W0 : World) (hI0 : Ints W0 A P) => fine_any W H A n c P W0 hn hI0 hl)
  obtain ⟨⟨d1, d2⟩, ⟨d3, d4⟩, _⟩ := id hF
  simp only at d1 d2 d3 d4
  have HERR := hide (fun (W0 : World) => oneErr_ref op W H A n c P k W0 d1 d2 d3 d4)
  have HAll : Hid (oneErrAll op ⟨W, H, P⟩ k = oneErr op ⟨W, H, P⟩ k) := if_pos hF
  have HOF := hide (fun (W0 : World) (hI0 : Ints W0 A P) => oneOf_ref op W H A n c P k W0 hF hn hI0 hE)
  clear hn hF hI hE
  go_enter Try.func4, Try.ntmps4
  go_wp2_with fail
  refine Calls.mono ((unhide HONE) _ (HV1.out (w.heap.size, W, H, A, n, c, P) (by simp)).2) ?_
  rintro e w1 ⟨W1, H1, P1, A1, n1, c1, hr1, hn1, rfl, hI1, hA1, hE1⟩
  have HV2 := hide (HV1.out.keep hE1)
  have HB2 := hide (HB1.out.trans (hE1.mono HB1.out.size))
  clear HV1 HB1
  clear hE1
  have HR1 := hide hr1
  have HN1 := hide hn1
  clear hr1 hn1 hA1
  rw [HAll.out]
  generalize hx : oneErr op ⟨W, H, P⟩ k = x at *
  have HX := hide hx
  clear hx
  have hx0 : x = 0 := HE.out
  subst hx0
  have hv3 := HV2.out.add (A := A1) (W := W1) (H := H1) (n := n1) (c := c1) hI1
  try simp only [World.size_alloc] at hv3
  have HV3 := hide hv3
  have HB3 := hide (HB2.out.alloc HB2.out.size (.cells #[.int .i64 W1, .int .i64 H1, .slice A1 n1 c1] 24))
  clear HV2 HB2 hv3
  clear hI1
  obtain ⟨a0, a1, a2, a3⟩ := ImgBox.cells (HV3.out (w.heap.size, W, H, A, n, c, P) (by simp)).1
  simp only at a0 a1 a2 a3
  have HV3k := HV3
  have HB3k := HB3
  have hv4 := HV3.out.add (A := none) (W := 0) (H := 0) (n := 0) (c := 0) (Ints.nil _ _)
  try simp only [World.size_alloc] at hv4
  have HV4 := hide hv4
  have HB4 := hide (HB3.out.alloc HB3.out.size (.cells #[.int .i64 0, .int .i64 0, .slice none 0 0] 24))
  clear HV3 HB3 hv4
  obtain ⟨a0, a1, a2, a3⟩ := ImgBox.cells (HV4.out (w.heap.size, W, H, A, n, c, P) (by simp)).1
  simp only at a0 a1 a2 a3
  go_wp2_with fail
  refine Calls.mono ((unhide HFN) _ (HV4.out (w.heap.size, W, H, A, n, c, P) (by simp)).2) ?_
  rintro e w2 ⟨rfl, hE2⟩
  have HV5 := hide (HV4.out.keep hE2)
  have HB5 := hide (HB4.out.trans (hE2.mono HB4.out.size))
  clear HV4 HB4
  rw [decide_eq_true HF.out]
  obtain ⟨a0, a1, a2, a3⟩ := ImgBox.cells (HV5.out (w.heap.size, W, H, A, n, c, P) (by simp)).1
  simp only at a0 a1 a2 a3
  go_wp2_with fail
  refine Calls.mono ((unhide HERR) _) ?_
  rintro e w3 ⟨rfl, hE3⟩
  have HV6 := hide (HV5.out.keep hE3)
  have HB6 := hide (HB5.out.trans (hE3.mono HB5.out.size))
  clear HV5 HB5
  obtain ⟨a0, a1, a2, a3⟩ := ImgBox.cells (HV6.out (w.heap.size, W, H, A, n, c, P) (by simp)).1
  simp only at a0 a1 a2 a3
  go_wp2_with fail
  refine Calls.mono ((unhide HOF) _ (HV6.out (w.heap.size, W, H, A, n, c, P) (by simp)).2) ?_
  rintro e w4 ⟨W4, H4, P4, A4, n4, c4, hr4, hn4, rfl, hI4, hA4, hE4⟩
  have HR4 := hide hr4
  have HN4 := hide hn4
  have hEE : Below ((w1.alloc (.cells #[.int .i64 W1, .int .i64 H1, .slice A1 n1 c1] 24)).alloc (.cells #[.int .i64 0, .int .i64 0, .slice none 0 0] 24)).heap.size ((w1.alloc (.cells #[.int .i64 W1, .int .i64 H1, .slice A1 n1 c1] 24)).alloc (.cells #[.int .i64 0, .int .i64 0, .slice none 0 0] 24)) w4 := (hE2.trans (hE3.mono hE2.size)).trans (hE4.mono (Nat.le_trans hE2.size hE3.size))
  have hst := HV3k.out.store (W := W4) (H := H4) (n := n4) (c := c4) hEE hI4 (hA4.mono (Nat.le_trans hE2.size hE3.size))
  have hsb := store_below (a := .int .i64 W4) (b := .int .i64 H4) (c := .slice A4 n4 c4) HB3k.out hEE
  obtain ⟨x0, x1, x2, x3, x4, x5, x6⟩ := store_cells hEE
  simp only [World.size_alloc] at hst hsb x0 x1 x2 x3 x4 x5 x6
  have HV7 := hide hst
  have HB7 := hide hsb
  clear hst hsb hEE hE2 hE3 hE4 hI4 hA4 hr4 hn4 HV3k HB3k HV6 HB6
  go_wp2_with fail
  refine Calls.mono (imageBegun_any _) ?_
  rintro e wz ⟨rfl, hEz⟩
  have HV8 := hide (HV7.out.keep hEz)
  have HB8 := hide (HB7.out.trans (hEz.mono HB7.out.size))
  clear HV7 HB7
  clear hEz
  obtain ⟨b0, b1, b2, b3⟩ := ImgBox.cells (HV8.out (w1.heap.size, W1, H1, A1, n1, c1, P1) (by simp)).1
  simp only at b0 b1 b2 b3
  obtain ⟨d0, d1, d2, d3⟩ := ImgBox.cells (HV8.out (w1.heap.size + 1, W4, H4, A4, n4, c4, P4) (by simp)).1
  simp only at d0 d1 d2 d3
  go_wp2_with fail
  refine Calls.mono (sameImg_true W1 H1 W4 H4 A1 A4 n1 c1 n4 c4 P1 P4 _ (HR1.out.trans HR4.out.symm) HN1.out HN4.out (HV8.out (w1.heap.size, W1, H1, A1, n1, c1, P1) (by simp)).2 (HV8.out (w1.heap.size + 1, W4, H4, A4, n4, c4, P4) (by simp)).2 (by have := oneAns_len op W H P k HR1.out; have := HN1.out; omega)) ?_
  rintro e wy ⟨rfl, hEy⟩
  have HV9 := hide (HV8.out.keep hEy)
  have HB9 := hide (HB8.out.trans (hEy.mono HB8.out.size))
  clear HV8 HB8
  clear hEy
  go_wp2_with fail
  go_ret
  exact ⟨rfl, HB9.out⟩

set_option maxRecDepth 100000 in
set_option maxHeartbeats 1000000 in
theorem imageOnes_err (op : Int) (W H : Int) (A : Option Addr) (n c : Nat) (P : List Int) (k : Int) (w : World) (hn : P.length = n) (hI : Ints w A P) (hl : n ≤ 9223372036854775807) (hF : Img.Fine ⟨W, H, P⟩) (hE : ¬ oneErr op ⟨W, H, P⟩ k = 0) :
    Calls Try.prog 4 #[.int .i64 op, .agg #[.int .i64 W, .int .i64 H, .slice A n c], .int .i64 k] w fun e w' => e = .returned (.bool true) ∧ Below w.heap.size w w' := by
  have HV0 := hide (show ImgVars w [] from fun v hv => by simp at hv)
  have HB0 := hide (Below.refl w.heap.size w)
  have hv1 := HV0.out.add (A := A) (W := W) (H := H) (n := n) (c := c) hI
  try simp only [World.size_alloc] at hv1
  have HV1 := hide hv1
  have HB1 := hide (HB0.out.alloc HB0.out.size (.cells #[.int .i64 W, .int .i64 H, .slice A n c] 24))
  clear HV0 HB0 hv1
  have HN := hide hn
  have HF := hide hF
  have HE := hide hE
  have HONE := hide (fun (W0 : World) (hI0 : Ints W0 A P) => one_any op W H A n c P k W0 hn hI0 hl)
  have HFN := hide (fun (W0 : World) (hI0 : Ints W0 A P) => fine_any W H A n c P W0 hn hI0 hl)
  obtain ⟨⟨d1, d2⟩, ⟨d3, d4⟩, _⟩ := id hF
  simp only at d1 d2 d3 d4
  have HERR := hide (fun (W0 : World) => oneErr_ref op W H A n c P k W0 d1 d2 d3 d4)
  have HAll : Hid (oneErrAll op ⟨W, H, P⟩ k = oneErr op ⟨W, H, P⟩ k) := if_pos hF
  have HNO : Hid (oneAns op ⟨W, H, P⟩ k = Img.none) := hide (by unfold oneAns; rw [HAll.out]; exact if_neg hE)
  clear hn hF hI hE
  go_enter Try.func4, Try.ntmps4
  go_wp2_with fail
  refine Calls.mono ((unhide HONE) _ (HV1.out (w.heap.size, W, H, A, n, c, P) (by simp)).2) ?_
  rintro e w1 ⟨W1, H1, P1, A1, n1, c1, hr1, hn1, rfl, hI1, hA1, hE1⟩
  have HV2 := hide (HV1.out.keep hE1)
  have HB2 := hide (HB1.out.trans (hE1.mono HB1.out.size))
  clear HV1 HB1
  clear hE1
  have HR1 := hide hr1
  have HN1 := hide hn1
  clear hr1 hn1 hA1
  rw [HAll.out]
  generalize hx : oneErr op ⟨W, H, P⟩ k = x at *
  have HX := hide hx
  clear hx
  have hx1 : (x == 0) = false := by have := HE.out; simpa using this
  have hv3 := HV2.out.add (A := A1) (W := W1) (H := H1) (n := n1) (c := c1) hI1
  try simp only [World.size_alloc] at hv3
  have HV3 := hide hv3
  have HB3 := hide (HB2.out.alloc HB2.out.size (.cells #[.int .i64 W1, .int .i64 H1, .slice A1 n1 c1] 24))
  clear HV2 HB2 hv3
  clear hI1
  obtain ⟨a0, a1, a2, a3⟩ := ImgBox.cells (HV3.out (w.heap.size, W, H, A, n, c, P) (by simp)).1
  simp only at a0 a1 a2 a3
  have hv4 := HV3.out.add (A := none) (W := 0) (H := 0) (n := 0) (c := 0) (Ints.nil _ _)
  try simp only [World.size_alloc] at hv4
  have HV4 := hide hv4
  have HB4 := hide (HB3.out.alloc HB3.out.size (.cells #[.int .i64 0, .int .i64 0, .slice none 0 0] 24))
  clear HV3 HB3 hv4
  obtain ⟨a0, a1, a2, a3⟩ := ImgBox.cells (HV4.out (w.heap.size, W, H, A, n, c, P) (by simp)).1
  simp only at a0 a1 a2 a3
  go_wp2_with fail
  refine Calls.mono ((unhide HFN) _ (HV4.out (w.heap.size, W, H, A, n, c, P) (by simp)).2) ?_
  rintro e w2 ⟨rfl, hE2⟩
  have HV5 := hide (HV4.out.keep hE2)
  have HB5 := hide (HB4.out.trans (hE2.mono HB4.out.size))
  clear HV4 HB4
  clear hE2
  rw [decide_eq_true HF.out]
  obtain ⟨a0, a1, a2, a3⟩ := ImgBox.cells (HV5.out (w.heap.size, W, H, A, n, c, P) (by simp)).1
  simp only at a0 a1 a2 a3
  go_wp2_with fail
  refine Calls.mono ((unhide HERR) _) ?_
  rintro e w3 ⟨rfl, hE3⟩
  have HV6 := hide (HV5.out.keep hE3)
  have HB6 := hide (HB5.out.trans (hE3.mono HB5.out.size))
  clear HV5 HB5
  clear hE3
  obtain ⟨a0, a1, a2, a3⟩ := ImgBox.cells (HV6.out (w.heap.size, W, H, A, n, c, P) (by simp)).1
  simp only at a0 a1 a2 a3
  go_wp2_with fail
  refine Calls.mono (imageBegun_any _) ?_
  rintro e wz ⟨rfl, hEz⟩
  have HV7 := hide (HV6.out.keep hEz)
  have HB7 := hide (HB6.out.trans (hEz.mono HB6.out.size))
  clear HV6 HB6
  clear hEz
  obtain ⟨b0, b1, b2, b3⟩ := ImgBox.cells (HV7.out (w1.heap.size, W1, H1, A1, n1, c1, P1) (by simp)).1
  simp only at b0 b1 b2 b3
  obtain ⟨d0, d1, d2, d3⟩ := ImgBox.cells (HV7.out (w1.heap.size + 1, 0, 0, none, 0, 0, []) (by simp)).1
  simp only at d0 d1 d2 d3
  go_wp2_with fail
  refine Calls.mono (sameImg_true W1 H1 0 0 A1 none n1 c1 0 0 P1 [] _ (HR1.out.trans HNO.out) HN1.out rfl (HV7.out (w1.heap.size, W1, H1, A1, n1, c1, P1) (by simp)).2 (HV7.out (w1.heap.size + 1, 0, 0, none, 0, 0, []) (by simp)).2 (by have := mkLen (HR1.out.trans HNO.out) HN1.out; omega)) ?_
  rintro e wy ⟨rfl, hEy⟩
  have HV8 := hide (HV7.out.keep hEy)
  have HB8 := hide (HB7.out.trans (hEy.mono HB7.out.size))
  clear HV7 HB7
  clear hEy
  go_wp2_with fail
  go_ret
  exact ⟨rfl, HB8.out⟩

set_option maxRecDepth 100000 in
set_option maxHeartbeats 1000000 in
theorem imageOnes_bad (op : Int) (W H : Int) (A : Option Addr) (n c : Nat) (P : List Int) (k : Int) (w : World) (hn : P.length = n) (hI : Ints w A P) (hl : n ≤ 9223372036854775807) (hF : ¬ Img.Fine ⟨W, H, P⟩) :
    Calls Try.prog 4 #[.int .i64 op, .agg #[.int .i64 W, .int .i64 H, .slice A n c], .int .i64 k] w fun e w' => e = .returned (.bool true) ∧ Below w.heap.size w w' := by
  have HV0 := hide (show ImgVars w [] from fun v hv => by simp at hv)
  have HB0 := hide (Below.refl w.heap.size w)
  have hv1 := HV0.out.add (A := A) (W := W) (H := H) (n := n) (c := c) hI
  try simp only [World.size_alloc] at hv1
  have HV1 := hide hv1
  have HB1 := hide (HB0.out.alloc HB0.out.size (.cells #[.int .i64 W, .int .i64 H, .slice A n c] 24))
  clear HV0 HB0 hv1
  have HN := hide hn
  have HF := hide hF
  have HONE := hide (fun (W0 : World) (hI0 : Ints W0 A P) => one_any op W H A n c P k W0 hn hI0 hl)
  have HFN := hide (fun (W0 : World) (hI0 : Ints W0 A P) => fine_any W H A n c P W0 hn hI0 hl)
  have HAll : Hid (oneErrAll op ⟨W, H, P⟩ k = 1) := if_neg hF
  have HNO : Hid (oneAns op ⟨W, H, P⟩ k = Img.none) := hide (by unfold oneAns; rw [HAll.out]; rfl)
  clear hn hF hI
  go_enter Try.func4, Try.ntmps4
  go_wp2_with fail
  refine Calls.mono ((unhide HONE) _ (HV1.out (w.heap.size, W, H, A, n, c, P) (by simp)).2) ?_
  rintro e w1 ⟨W1, H1, P1, A1, n1, c1, hr1, hn1, rfl, hI1, hA1, hE1⟩
  have HV2 := hide (HV1.out.keep hE1)
  have HB2 := hide (HB1.out.trans (hE1.mono HB1.out.size))
  clear HV1 HB1
  clear hE1
  have HR1 := hide hr1
  have HN1 := hide hn1
  clear hr1 hn1 hA1
  rw [HAll.out]
  have hv3 := HV2.out.add (A := A1) (W := W1) (H := H1) (n := n1) (c := c1) hI1
  try simp only [World.size_alloc] at hv3
  have HV3 := hide hv3
  have HB3 := hide (HB2.out.alloc HB2.out.size (.cells #[.int .i64 W1, .int .i64 H1, .slice A1 n1 c1] 24))
  clear HV2 HB2 hv3
  clear hI1
  obtain ⟨a0, a1, a2, a3⟩ := ImgBox.cells (HV3.out (w.heap.size, W, H, A, n, c, P) (by simp)).1
  simp only at a0 a1 a2 a3
  have hv4 := HV3.out.add (A := none) (W := 0) (H := 0) (n := 0) (c := 0) (Ints.nil _ _)
  try simp only [World.size_alloc] at hv4
  have HV4 := hide hv4
  have HB4 := hide (HB3.out.alloc HB3.out.size (.cells #[.int .i64 0, .int .i64 0, .slice none 0 0] 24))
  clear HV3 HB3 hv4
  obtain ⟨a0, a1, a2, a3⟩ := ImgBox.cells (HV4.out (w.heap.size, W, H, A, n, c, P) (by simp)).1
  simp only at a0 a1 a2 a3
  go_wp2_with fail
  refine Calls.mono ((unhide HFN) _ (HV4.out (w.heap.size, W, H, A, n, c, P) (by simp)).2) ?_
  rintro e w2 ⟨rfl, hE2⟩
  have HV5 := hide (HV4.out.keep hE2)
  have HB5 := hide (HB4.out.trans (hE2.mono HB4.out.size))
  clear HV4 HB4
  clear hE2
  rw [decide_eq_false HF.out]
  obtain ⟨a0, a1, a2, a3⟩ := ImgBox.cells (HV5.out (w.heap.size, W, H, A, n, c, P) (by simp)).1
  simp only at a0 a1 a2 a3
  go_wp2_with fail
  refine Calls.mono (imageBegun_any _) ?_
  rintro e wz ⟨rfl, hEz⟩
  have HV6 := hide (HV5.out.keep hEz)
  have HB6 := hide (HB5.out.trans (hEz.mono HB5.out.size))
  clear HV5 HB5
  clear hEz
  obtain ⟨b0, b1, b2, b3⟩ := ImgBox.cells (HV6.out (w1.heap.size, W1, H1, A1, n1, c1, P1) (by simp)).1
  simp only at b0 b1 b2 b3
  obtain ⟨d0, d1, d2, d3⟩ := ImgBox.cells (HV6.out (w1.heap.size + 1, 0, 0, none, 0, 0, []) (by simp)).1
  simp only at d0 d1 d2 d3
  go_wp2_with fail
  refine Calls.mono (sameImg_true W1 H1 0 0 A1 none n1 c1 0 0 P1 [] _ (HR1.out.trans HNO.out) HN1.out rfl (HV6.out (w1.heap.size, W1, H1, A1, n1, c1, P1) (by simp)).2 (HV6.out (w1.heap.size + 1, 0, 0, none, 0, 0, []) (by simp)).2 (by have := mkLen (HR1.out.trans HNO.out) HN1.out; omega)) ?_
  rintro e wy ⟨rfl, hEy⟩
  have HV7 := hide (HV6.out.keep hEy)
  have HB7 := hide (HB6.out.trans (hEy.mono HB6.out.size))
  clear HV6 HB6
  clear hEy
  go_wp2_with fail
  go_ret
  exact ⟨rfl, HB7.out⟩

theorem imageOnes_any (op : Int) (W H : Int) (A : Option Addr) (n c : Nat) (P : List Int) (k : Int) (w : World) (hn : P.length = n) (hI : Ints w A P) (hl : n ≤ 9223372036854775807) :
    Calls Try.prog 4 #[.int .i64 op, .agg #[.int .i64 W, .int .i64 H, .slice A n c], .int .i64 k] w fun e w' => e = .returned (.bool true) ∧ Below w.heap.size w w' := by
  by_cases hF : Img.Fine ⟨W, H, P⟩
  · by_cases hE : oneErr op ⟨W, H, P⟩ k = 0
    · exact imageOnes_yes op W H A n c P k w hn hI hl hF hE
    · exact imageOnes_err op W H A n c P k w hn hI hl hF hE
  · exact imageOnes_bad op W H A n c P k w hn hI hl hF
end Go.Proofs.Ytibpmogmeoappaa
