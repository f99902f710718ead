/- Walk of the law FrameRenders. -/
import Derived.Test.YtibpmogmeoappabJFrmU
namespace Go.Proofs.Ytibpmogmeoappab
open Go.RowKit

theorem sameIm (W H W' H' : Int) (A B : Option Addr) (n c m d : Nat) (P Q : List Int) (w : World) (he : Img.mk W H P = Img.mk W' H' Q) (hn : P.length = n) (hm : Q.length = m) (hP : Ints w A P) (hQ : Ints w B Q) (hl : n ≤ 9223372036854775807) :
    Calls Try.prog 33 #[.agg #[.int .i64 W, .int .i64 H, .slice A n c], .agg #[.int .i64 W', .int .i64 H', .slice B m d]] w fun e w' => e = .returned (.bool true) ∧ Below w.heap.size w w' :=
  (sameImages_any W H W' H' A B n c m d P Q w hn hm hP hQ hl).mono fun _ _ ⟨h1, h2⟩ => ⟨by rw [h1, decide_eq_true he], h2⟩
theorem frAns_len (f : Frm) : (frAns f).P.length ≤ 65536 := by
  unfold frAns
  split
  · rename_i h; exact fine_small (frShown_fine (frErr_zero.1 h)).1
  · exact Nat.zero_le _

set_option maxRecDepth 100000 in
set_option maxHeartbeats 4000000 in
theorem frameRenders_any (W H S O : Int) (PA : Option Addr) (n c : Nat) (ps : List Pas) (w : World) (hn : ps.length = n) (hP : Passes w PA ps) (hl : n ≤ 9223372036854775807) :
    Calls Try.prog 7 #[.agg #[.int .i64 W, .int .i64 H, .int .i64 S, .int .i64 O, .slice PA n c]] w fun e w' => e = .returned (.bool true) ∧ Below w.heap.size w w' := by
  have hb := (Below.refl w.heap.size w).alloc (Nat.le_refl _) (.cells #[.int .i64 W, .int .i64 H, .int .i64 S, .int .i64 O, .slice PA n c] 24)
  have HBX := hide (show FrmBox (w.alloc (.cells #[.int .i64 W, .int .i64 H, .int .i64 S, .int .i64 O, .slice PA n c] 24)) w.heap.size W H S O PA n c from Blk.new w 24 (frmCells W H S O PA n c))
  have HR := hide (fun (W0 : World) (h1 : Passes W0 PA ps) => render_any W H S O PA n c ps W0 hn h1)
  have HC := hide (fun (W0 : World) (h1 : Passes W0 PA ps) => checkFrame_ref W H S O PA n c ps W0 hn h1 hl)
  have HO := hide (fun (W0 : World) (h1 : Passes W0 PA ps) (h2 : FrmOk ⟨W, H, S, O, ps⟩) => renderOf_ref W H S O PA n c ps W0 hn h1 h2)
  have HLN := hide (frAns_len ⟨W, H, S, O, ps⟩)
  have HB0 := hide hb
  have HP := hide (Keeps.passes hP)
  have hzz : frErr ⟨W, H, S, O, ps⟩ = 0 ∨ frErr ⟨W, H, S, O, ps⟩ ≠ 0 := by omega
  obtain ⟨f, hf⟩ : ∃ f : Frm, f = ⟨W, H, S, O, ps⟩ := ⟨_, rfl⟩
  rw [← hf] at HR HC HO HLN hzz
  clear hn hP hl hb hf
  go_enter Try.func7, Try.ntmps7
  go_wp2_with fail
  refine ((unhide HR) _ (HP.out.later _ HB0.out)).mono ?_
  rintro e w1 ⟨W1, H1, P1, A1, n1, c1, hr, hn1, rfl, hI1, hE1⟩
  have hba := HB0.out.trans (hE1.mono HB0.out.size)
  have HB1 := hide (hba.alloc hba.size (.cells #[.int .i64 W1, .int .i64 H1, .slice A1 n1 c1] 56))
  have HX1 := hide (Blk.alloc (Blk.keep HBX.out hE1) (.cells #[.int .i64 W1, .int .i64 H1, .slice A1 n1 c1] 56))
  have HK1 := hide (((Keeps.ints hI1).alloc (.cells #[.int .i64 W1, .int .i64 H1, .slice A1 n1 c1] 56)).and (Keeps.blk (Blk.new w1 56 [.int .i64 W1, .int .i64 H1, .slice A1 n1 c1])))
  have HN1 := hide hn1
  have HR1 := hide hr
  have hw1 := hE1.size
  simp only [World.size_alloc] at hw1
  obtain ⟨x, q0, q1, q2, q3, q4⟩ := FrmBox.cells HX1.out
  clear HB0 HBX hE1 hI1 hn1 hr hba HR
  go_wp2_with fail
  refine ((unhide HC) _ (HP.out.later _ HB1.out)).mono ?_
  rintro e w2 ⟨A2, n2, c2, rfl, _, _, hE2⟩
  have HB2 := hide (HB1.out.trans (hE2.mono HB1.out.size))
  have HX2 := hide (Blk.keep HX1.out hE2)
  have HK2 := hide (HK1.out.move hE2)
  have hw2 := hE2.size
  simp only [World.size_alloc] at hw2
  have halw : Below w2.heap.size w2 (w2.alloc (.cells #[.int .i64 0, .int .i64 0, .slice none 0 0] 56)) := (Below.refl _ _).alloc (Nat.le_refl _) _
  have HB3 := hide (HB2.out.trans (halw.mono HB2.out.size))
  have HX3 := hide (Blk.keep HX2.out halw)
  have HK3 := hide (HK2.out.move halw)
  have HW3 := hide (Blk.new w2 56 [.int .i64 0, .int .i64 0, .slice none 0 0])
  have HBA := hide (hE2.trans (halw.mono hE2.size))
  clear q0 q1 q2 q3 q4 x HB1 HX1 hE2 HB2 HX2 HK2 halw HC
  obtain ⟨x, q0, q1, q2, q3, q4⟩ := FrmBox.cells HX3.out
  rcases hzz with hz | hz
  · have hans : frAns f = frShown f := if_pos hz
    have HZ := hide hz
    have HOK := hide (frErr_zero.1 hz)
    rw [hz]
    clear hz
    have HAN := hide hans
    clear hans
    go_wp2_with fail
    refine ((unhide HO) _ (HP.out.later _ HB3.out) HOK.out).mono ?_
    rintro e w3 ⟨W3, H3, P3, A3, n3, c3, hr3, hn3, rfl, hI3, hN3, hE3⟩
    have hw3 := hE3.size
    simp only [World.size_alloc] at hw3
    have HW4 := hide (((HW3.out.keep hE3).set_ 0 (.int .i64 W3)).set_ 1 (.int .i64 H3) |>.set_ 2 (.slice A3 n3 c3))
    obtain ⟨v0, v1, v2, v3, v4, v5, v6⟩ := resKeep (Below.refl _ _) (HW3.out.keep hE3)
    have hb4 : Below (w1.alloc (.cells #[.int .i64 W1, .int .i64 H1, .slice A1 n1 c1] 56)).heap.size (w1.alloc (.cells #[.int .i64 W1, .int .i64 H1, .slice A1 n1 c1] 56)) (((w3.setCell ⟨w2.heap.size, 0, none⟩ (.int .i64 W3)).setCell ⟨w2.heap.size, 1, none⟩ (.int .i64 H3)).setCell ⟨w2.heap.size, 2, none⟩ (.slice A3 n3 c3)) := by
      have h := HBA.out.trans (hE3.mono HBA.out.size)
      exact ((h.setCell (p := ⟨w2.heap.size, 0, none⟩) (by simp only [World.size_alloc]; omega) _).setCell (p := ⟨w2.heap.size, 1, none⟩) (by simp only [World.size_alloc]; omega) _).setCell (p := ⟨w2.heap.size, 2, none⟩) (by simp only [World.size_alloc]; omega) _
    have HI4 : Hid (Ints (((w3.setCell ⟨w2.heap.size, 0, none⟩ (.int .i64 W3)).setCell ⟨w2.heap.size, 1, none⟩ (.int .i64 H3)).setCell ⟨w2.heap.size, 2, none⟩ (.slice A3 n3 c3)) A3 P3) := hide (intsFar3 hI3 (fun h => hN3 h) (by simp only [World.size_alloc]; omega) _ _ _)
    have hbw := HB3.out.trans (hE3.mono HB3.out.size)
    have HB4 := hide (((hbw.setCell (p := ⟨w2.heap.size, 0, none⟩) (by simp only; omega) (.int .i64 W3)).setCell (p := ⟨w2.heap.size, 1, none⟩) (by simp only; omega) (.int .i64 H3)).setCell (p := ⟨w2.heap.size, 2, none⟩) (by simp only; omega) (.slice A3 n3 c3))
    have HK4 := hide (HK1.out.later _ hb4)
    have HN3 := hide hn3
    have HR3 := hide hr3
    clear hb4 hI3 hN3 hE3 hbw hn3 hr3 q0 q1 q2 q3 q4 x HW3 HB3 HX3 HBA HK1
    go_wp2_with fail
    refine (frameBegun_any _).mono ?_
    rintro e w4 ⟨rfl, hE4⟩
    have HB5 := hide (HB4.out.trans (hE4.mono HB4.out.size))
    have hI1 := HK4.out.1.keep hE4
    have hX1 := HK4.out.2.keep hE4
    have hW4 := Blk.keep HW4.out hE4
    obtain ⟨p0, p1, p2, p3⟩ := ImgBox.cells hX1
    obtain ⟨s0, s1, s2, s3⟩ := ImgBox.cells (show ImgBox w4 w2.heap.size W3 H3 A3 n3 c3 from hW4)
    have HI1 := hide hI1
    have HI3 := hide (HI4.out.keep hE4)
    clear hI1 hX1 hW4 hE4 HI4 HK4 HB4 HW4 v0 v1 v2 v3 v4 v5 v6
    go_wp2_with fail
    refine (sameIm W1 H1 W3 H3 A1 A3 n1 c1 n3 c3 P1 P3 w4 (HR1.out.trans (HAN.out.trans HR3.out.symm)) HN1.out HN3.out HI1.out HI3.out (by have h1 := HLN.out; rw [← HR1.out] at h1; have h2 := HN1.out; simp only at h1; omega)).mono ?_
    rintro e w5 ⟨rfl, hE5⟩
    have HB6 := hide (HB5.out.trans (hE5.mono HB5.out.size))
    clear hE5 HB5
    go_wp2_with fail
    go_ret
    exact ⟨rfl, HB6.out⟩
  · have hans : frAns f = Img.none := if_neg hz
    have HAN := hide hans
    obtain ⟨z, hze⟩ : ∃ z, z = frErr f := ⟨_, rfl⟩
    rw [← hze]
    have hz2 : (z == 0) = false := by rw [hze]; simpa using hz
    clear hz hans hze
    go_wp2_with fail
    refine (frameBegun_any _).mono ?_
    rintro e w4 ⟨rfl, hE4⟩
    have HB5 := hide (HB3.out.trans (hE4.mono HB3.out.size))
    have hK4 := HK3.out.later _ hE4
    have hW4 := HW3.out.keep hE4
    obtain ⟨p0, p1, p2, p3⟩ := ImgBox.cells hK4.2
    obtain ⟨s0, s1, s2, s3⟩ := ImgBox.cells (show ImgBox w4 w2.heap.size 0 0 none 0 0 from hW4)
    have HI1 := hide hK4.1
    clear hK4 hW4 hE4 HB3 HW3 HK3 q0 q1 q2 q3 q4 x HX3 HBA HK1
    go_wp2_with fail
    refine (sameIm W1 H1 0 0 A1 none n1 c1 0 0 P1 [] w4 (HR1.out.trans HAN.out) HN1.out rfl HI1.out (Ints.nil _ _) (by have h1 := HLN.out; rw [← HR1.out] at h1; have h2 := HN1.out; simp only at h1; omega)).mono ?_
    rintro e w5 ⟨rfl, hE5⟩
    have HB6 := hide (HB5.out.trans (hE5.mono HB5.out.size))
    clear hE5 HB5
    go_wp2_with fail
    go_ret
    exact ⟨rfl, HB6.out⟩
end Go.Proofs.Ytibpmogmeoappab
