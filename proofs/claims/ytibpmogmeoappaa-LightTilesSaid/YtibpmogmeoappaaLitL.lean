/- Walks over lights: Lit, the way to the end. -/
import Derived.Test.YtibpmogmeoappaaLitK
namespace Go.Proofs.Ytibpmogmeoappaa
open Go.RowKit

/-- what the loop over tiles keeps -/
def LitJ (w2 : World) (gp : Nat) (W H sz : Int) (ls : List Lamp) (o : Int → Int → Int) (tail : List Value) (y x : Int) (W' : World) : Prop :=
  w2.grownBy W' (some gp) ∧ PixBlk W' gp W H (tilesF ls sz o y x) tail
theorem below_grown {w w2 W' : World} {gp : Nat} (h : Below w.heap.size w w2) (hg : w2.grownBy W' (some gp)) (hgp : w.heap.size ≤ gp) : Below w.heap.size w W' :=
  h.grown hg h.size fun k hk => by injection hk with hk; omega

set_option maxRecDepth 100000 in
set_option maxHeartbeats 2000000 in
theorem lit_yes (W H : Int) (A : Option Addr) (n c : Nat) (P : List Int) (B : Option Addr) (m d : Nat) (ls : List Lamp) (tile : Int) (w : World) (hF : Img.Fine ⟨W, H, P⟩) (hn : P.length = n) (hI : Ints w A P) (hl : n ≤ 9223372036854775807) (hm : ls.length = m) (hL : Lamps w B ls) (hl2 : m ≤ 9223372036854775807) (hz : lampsErr ls = 0) (ht : 1 ≤ tile ∧ tile ≤ 16) :
    Calls Try.prog 35 #[.agg #[.int .i64 W, .int .i64 H, .slice A n c], .slice B m d, .int .i64 tile] w (RetImgErr w (litImg ⟨W, H, P⟩ ls) 0) := by
  have HC := hide (fun (W0 : World) (hb : Ints W0 A P) => checkErr_yes hF ▸ check_any W H A n c P W0 hn hb hl)
  have HC2 := hide (fun (W0 : World) (hb : Lamps W0 B ls) => hz ▸ checkLights_any B m d ls W0 hm hb hl2)
  have HC3 := hide (fun (W0 : World) (hb : Ints W0 A P) => one_any 3 W H A n c P 0 W0 hn hb hl)
  have hans : oneAns 3 ⟨W, H, P⟩ 0 = ⟨W, H, P⟩ := by
    have e1 : oneErrAll 3 ⟨W, H, P⟩ 0 = 0 := by unfold oneErrAll; rw [if_pos hF]; rfl
    unfold oneAns
    rw [if_pos e1]
    exact hF.eq_drawn.symm
  have HANS := hide hans
  have HS := hide (litBoxes_start hI hL W H n c m d)
  have HF := hide hF
  have HN := hide hn
  have HM := hide hm
  have HZ := hide hz
  have HLW := hide hL
  obtain ⟨⟨d1, d2⟩, ⟨d3, d4⟩, d5, _⟩ := hF
  simp only at d1 d2 d3 d4 d5
  have HD5 := hide d5
  clear hn hI hL hm hz hans d5
  go_enter Try.func35, Try.ntmps35
  go_wp2_with fail
  refine ((unhide HC) _ HS.out.2.2.2.2.1).mono ?_
  rintro e w1 ⟨rfl, hE⟩
  have HB := hide (HS.out.keep hE)
  obtain ⟨q0, q1, q2, q3, q4, q5, q6, q7, q8, q9, q10⟩ := HB.out.cells
  clear hE HS
  go_wp2_with fail
  refine ((unhide HC2) _ HB.out.2.2.2.2.2).mono ?_
  rintro e w2 ⟨rfl, hE⟩
  have HB1 := hide (HB.out.keep hE)
  clear q0 q1 q2 q3 q4 q5 q6 q7 q8 q9 q10 hE HB
  obtain ⟨q0, q1, q2, q3, q4, q5, q6, q7, q8, q9, q10⟩ := HB1.out.cells
  go_wp2_with fail
  all_goals try (exfalso; omega)
  refine ((unhide HC3) _ HB1.out.2.2.2.2.1).mono ?_
  rintro e w3 ⟨W1, H1, P1, A1, n1, c1, hr, hn1, rfl, hI1, hA1, hE⟩
  rw [HANS.out] at hr
  injection hr with r1 r2 r3
  subst r1 r2 r3
  obtain ⟨gp, tail, rfl, hgp, hP⟩ := mine_pix HF.out hI1 hA1
  have hnn : n1 = n := hn1.symm.trans HN.out
  subst hnn
  have HB2 := hide (HB1.out.keep hE)
  have hP' := Blk.lt hP
  have HP := hide hP
  have hgs : w.heap.size + 1 + 1 < gp := by omega
  clear q0 q1 q2 q3 q4 q5 q6 q7 q8 q9 q10 hE HB1 hI1 hA1 hP hn1
  obtain ⟨q0, q1, q2, q3, q4, q5, q6, q7, q8, q9, q10⟩ := HB2.out.cells
  have z0 : w.heap.size < w3.heap.size := by omega
  have z1 : w.heap.size + 1 < w3.heap.size := by omega
  have z2 : ¬ w.heap.size = w3.heap.size := by omega
  have z3 : ¬ w.heap.size + 1 = w3.heap.size := by omega
  have z4 : ¬ w.heap.size + 1 + 1 = w3.heap.size := by omega
  go_wp2_with fail
  refine (tiles_any W1 H1 A n1 c tile _).mono ?_
  rintro e w4 ⟨rfl, he4⟩
  have HE4 := hide he4
  have k1 : Below w3.heap.size w3 w4 := by
    rw [← he4]
    exact (((Below.refl _ _).alloc (Nat.le_refl _) _).alloc (by simp) _).alloc (by simp; omega) _
  have HB3 := hide (HB2.out.keep k1)
  have HP1 := hide (HP.out.keep k1)
  have HGO : Hid (ImgBox w4 w3.heap.size W1 H1 (some ⟨gp, 0, none⟩) n1 c1) := hide (by
    rw [← he4]
    exact ((Blk.new w3 24 [.int .i64 W1, .int .i64 H1, .slice (some ⟨gp, 0, none⟩) n1 c1]).alloc _).alloc _)
  have HGA : Hid (ImgBox w4 (w3.heap.size + 1) W1 H1 A n1 c) := hide (by
    rw [← he4]
    have h := (Blk.new (w3.alloc (.cells #[.int .i64 W1, .int .i64 H1, .slice (some ⟨gp, 0, none⟩) n1 c1] 24)) 24 [.int .i64 W1, .int .i64 H1, .slice A n1 c]).alloc (.cells #[.int .i64 tile] 3)
    simp only [World.size_alloc] at h
    exact h)
  have HGS : Hid (VarBox w4 (w3.heap.size + 1 + 1) 3 (.int .i64 tile)) := hide (by
    rw [← he4]
    have h := Blk.new ((w3.alloc (.cells #[.int .i64 W1, .int .i64 H1, .slice (some ⟨gp, 0, none⟩) n1 c1] 24)).alloc (.cells #[.int .i64 W1, .int .i64 H1, .slice A n1 c] 24)) 3 [.int .i64 tile]
    simp only [World.size_alloc] at h
    exact h)
  clear z0 z1 z2 z3 z4 k1 he4 q0 q1 q2 q3 q4 q5 q6 q7 q8 q9 q10 HB2 HP HE4
  obtain ⟨q0, q1, q2, q3, q4, q5, q6, q7, q8, q9, q10⟩ := HB3.out.cells
  simp only [World.size_alloc]
  go_wp2_with fail
  refine (tiles1_any 75 #[.pointer (some ⟨w.heap.size + 1, 0, none⟩), .pointer (some ⟨w3.heap.size, 0, none⟩), .pointer (some ⟨w.heap.size, 0, none⟩)] (w3.heap.size + 1) (w3.heap.size + 1 + 1) W1 H1 tile A n1 c
    (LitJ w4 gp W1 H1 tile ls (Img.at_ ⟨W1, H1, P1⟩) tail) _ enters_Lit1 ⟨d1, d2⟩ ⟨d3, d4⟩ ht ?_ ?_ ?_ ?_).mono ?_
  · intro y x W' hJ
    exact ⟨Blk.grownAt HGA.out hJ.1 (by omega), Blk.grownAt HGS.out hJ.1 (by omega)⟩
  · intro y x cw ch W' hx0 hx1 hy0 hy1 hcw hch hJ
    have hb := hJ.1
    refine (lit1_any (w.heap.size + 1) w3.heap.size w.heap.size gp W1 H1 x y cw ch n1 c1 n1 c m d A B ls (Img.at_ ⟨W1, H1, P1⟩) (tilesF ls tile (Img.at_ ⟨W1, H1, P1⟩) y x) tail W' ⟨d1, d2⟩ ⟨d3, d4⟩ (by omega) (by omega) (by omega) (by omega)
      (Blk.grownAt HB3.out.2.1 hb (by omega)) (Blk.grownAt HGO.out hb (by omega)) (Blk.grownAt HB3.out.1 hb (by omega)) (by have := HD5.out; have := HN.out; omega) (by omega) (by omega) (by omega) HM.out HZ.out ?_ ?_ hJ.2).mono ?_
    · intro W2 hg
      exact HLW.out.keep (below_grown HB3.out.2.2.2.1 (grown_trans1 hb hg) (by omega))
    · intro a b ha0 ha1 hb0 hb1
      have := Img.Fine.at_bd HF.out (x := a) (y := b) (by omega) (by simp only; omega) (by omega) (by simp only; omega)
      refine ⟨?_, this⟩
      unfold tilesF; rw [if_neg (by omega)]
    · rintro e W2 ⟨he, hg, hp⟩
      exact ⟨he, grown_trans1 hb hg, hp.congr fun a b ha0 ha1 hb0 hb1 => tilesF_step hcw hch a b ha0 ha1 hb1 hy0⟩
  · intro y x W' hx hJ
    exact ⟨hJ.1, hJ.2.congr fun a b ha0 ha1 hb0 hb1 => tilesF_row hx ht.1 a b ha0 ha1⟩
  · refine ⟨World.grownBy.refl _ _, HP1.out.congr fun a b ha0 ha1 hb0 hb1 => ?_⟩
    unfold tilesF; rw [if_neg (by omega)]
  · rintro e w5 ⟨rfl, y, hy, hJ⟩
    have hP2 : PixBlk w5 gp W1 H1 (litPix ⟨W1, H1, P1⟩ ls) tail := hJ.2.congr fun a b ha0 ha1 hb0 hb1 => by unfold tilesF litPix; rw [if_pos (by omega)]
    have HP2 := hide hP2
    have HJ1 := hide hJ.1
    have HBW := hide (below_grown HB3.out.2.2.2.1 hJ.1 (by omega))
    obtain ⟨s0, s1, s2, s3⟩ := ImgBox.cells (Blk.grownAt HGO.out hJ.1 (by omega))
    have hR := Blk.grownAt HB3.out.2.2.1 hJ.1 (by omega)
    have t0 : w5.cell? ⟨w.heap.size + 1 + 1, 0, none⟩ = some (.int .i64 0) := by rw [hR.cell]; rfl
    have t1 : w5.cell? ⟨w.heap.size + 1 + 1, 1, none⟩ = some (.int .i64 0) := by rw [hR.cell]; rfl
    have t2 : w5.cell? ⟨w.heap.size + 1 + 1, 2, none⟩ = some (.slice none 0 0) := by rw [hR.cell]; rfl
    have f0 := hR.frozen 0
    have f1 := hR.frozen 1
    have f2 := hR.frozen 2
    clear hP2 hJ hR q0 q1 q2 q3 q4 q5 q6 q7 q8 q9 q10
    go_wp2_with fail
    refine bodyPost_ret (v := .tuple #[.agg #[.int .i64 W1, .int .i64 H1, .slice (some ⟨gp, 0, none⟩) n1 c1], .int .i64 0]) (by simp [results, Try.results35, go_sem, t0, t1, t2]) rfl ?_
    refine retBox (P := grid W1.toNat H1.toNat (litPix ⟨W1, H1, P1⟩ ls)) (B := gp) rfl ?_ HP2.out.ints (Mine.some_ (Nat.le_refl _) HP2.out) hgs (by omega) HBW.out
    rw [grid_length]
    have h1 := HN.out
    have h2 := HD5.out
    have : ((W1.toNat * H1.toNat : Nat) : Int) = W1 * H1 := by rw [Int.natCast_mul, Int.toNat_of_nonneg (by omega), Int.toNat_of_nonneg (by omega)]
    omega

theorem lit_any (W H : Int) (A : Option Addr) (n c : Nat) (P : List Int) (B : Option Addr) (m d : Nat) (ls : List Lamp) (tile : Int) (w : World) (hn : P.length = n) (hI : Ints w A P) (hl : n ≤ 9223372036854775807) (hm : ls.length = m) (hL : Lamps w B ls) (hl2 : m ≤ 9223372036854775807) :
    Calls Try.prog 35 #[.agg #[.int .i64 W, .int .i64 H, .slice A n c], .slice B m d, .int .i64 tile] w (RetImgErr w (litAns ⟨W, H, P⟩ ls tile) (litErr ⟨W, H, P⟩ ls tile)) := by
  by_cases hF : Img.Fine ⟨W, H, P⟩
  · by_cases hz : lampsErr ls = 0
    · by_cases ht : 1 ≤ tile ∧ tile ≤ 16
      · have e : litErr ⟨W, H, P⟩ ls tile = 0 := by unfold litErr; rw [if_pos hF, if_pos hz, if_pos ht]
        have a : litAns ⟨W, H, P⟩ ls tile = litImg ⟨W, H, P⟩ ls := if_pos e
        rw [e, a]
        exact lit_yes W H A n c P B m d ls tile w hF hn hI hl hm hL hl2 hz ht
      · have e : litErr ⟨W, H, P⟩ ls tile = 3 := by unfold litErr; rw [if_pos hF, if_pos hz, if_neg ht]
        have a : litAns ⟨W, H, P⟩ ls tile = Img.none := if_neg (by omega)
        rw [e, a]
        exact lit_range W H A n c P B m d ls tile w hF hn hI hl hm hL hl2 hz ht
    · have e : litErr ⟨W, H, P⟩ ls tile = lampsErr ls := by unfold litErr; rw [if_pos hF, if_neg hz]
      have a : litAns ⟨W, H, P⟩ ls tile = Img.none := if_neg (by omega)
      rw [e, a]
      exact lit_lamps W H A n c P B m d ls tile w hF hn hI hl hm hL hl2 hz
  · have e : litErr ⟨W, H, P⟩ ls tile = 1 := by unfold litErr; rw [if_neg hF]
    have a : litAns ⟨W, H, P⟩ ls tile = Img.none := if_neg (by omega)
    rw [e, a]
    exact lit_form W H A n c P B m d ls tile w hF hn hI hl hL
end Go.Proofs.Ytibpmogmeoappaa
