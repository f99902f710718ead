/- Walks over lights: LitOf. -/
import Derived.Test.YtibpmogmeoappaaLitE
import Derived.Test.YtibpmogmeoappaaKeep
import Derived.Test.YtibpmogmeoappaaImgG
namespace Go.Proofs.Ytibpmogmeoappaa
open Go.RowKit

def litPix (a : Img) (ls : List Lamp) (x y : Int) : Int := min 65535 (a.at_ x y + lightAt ls x y)
def litImg (a : Img) (ls : List Lamp) : Img := drawn a.W a.H (litPix a ls)

/-- the image that came in stays through an append -/
theorem boxGrown {w wr w1 : World} {W H : Int} {f : Int → Int → Int} {A A' : Option Addr} {n c n' c' : Nat} {y x : Int} {o : Obj}
    (h : GridRel w W H f (w.heap.size + 2) (w.heap.size + 3) [(w.heap.size, 24, [.int .i64 W, .int .i64 H, .slice A n c]), (w.heap.size + 1, 24, [.int .i64 0, .int .i64 0, .slice none 0 0])] y x A' n' c' wr)
    (hg : (wr.alloc o).grownBy w1 (Value.slice A' n' c').ownBlock) :
    w1.cell? ⟨w.heap.size, 0, none⟩ = some (.int .i64 W) ∧ w1.cell? ⟨w.heap.size, 1, none⟩ = some (.int .i64 H) ∧ w1.cell? ⟨w.heap.size, 2, none⟩ = some (.slice A n c) :=
  (ImgBox.cells ((h.mid hg).2.1 (w.heap.size, 24, [.int .i64 W, .int .i64 H, .slice A n c]) (by simp)).1).2

set_option maxRecDepth 100000 in
set_option maxHeartbeats 1000000 in
theorem litOf_ref (W H : Int) (A : Option Addr) (n c : Nat) (P : List Int) (B : Option Addr) (m d : Nat) (ls : List Lamp) (w : World) (hF : Img.Fine ⟨W, H, P⟩) (hn : P.length = n) (hI : Ints w A P) (hm : ls.length = m) (hL : Lamps w B ls) (hE : lampsErr ls = 0) :
    Calls Try.prog 36 #[.agg #[.int .i64 W, .int .i64 H, .slice A n c], .slice B m d] w (RetImg w (litImg ⟨W, H, P⟩ ls)) := by
  show Calls _ _ _ _ (RetImg w (drawn W H (litPix ⟨W, H, P⟩ ls)))
  obtain ⟨i0, hi0, hz0, hz1, hz2⟩ := info_parts Try.info3
  obtain ⟨⟨d1, d2⟩, ⟨d3, d4⟩, _⟩ := id hF
  simp only at d1 d2 d3 d4
  have HF := hide hF
  have HN := hide hn
  have HM := hide hm
  have HE := hide hE
  have HIL := hide ((Keeps.ints hI).and ⟨hL, fun _ hb => hL.keep hb⟩)
  have HBD := hide (fun x y => lightAt_bd (ls := ls) (lampsErr_zero hE).2 x y)
  have h8 : ls.length ≤ 8 := (lampsErr_zero hE).1
  clear hF hn hI hm hL hE
  go_enter Try.func36, Try.ntmps36
  go_wp2_with fail
  go_loopw [6] (fun j wr => ∃ (y : Int) (A' : Option Addr) (n' c' : Nat), 0 ≤ y ∧ y ≤ H ∧ j = .int .i64 y ∧ GridRel w W H (litPix ⟨W, H, P⟩ ls) (w.heap.size + 2) (w.heap.size + 3) [(w.heap.size, 24, [.int .i64 W, .int .i64 H, .slice A n c]), (w.heap.size + 1, 24, [.int .i64 0, .int .i64 0, .slice none 0 0])] y 0 A' n' c' wr)
    (fun j _ => (H - intOf j).toNat)
  case atStart =>
    have HB := oneOf_start w W H W H A n c
    exact ⟨0, none, 0, 0, by omega, by omega, rfl, GridRel.start HB.2.1 (by omega) (by omega) (by simp) HB.1 HB.2.2⟩
  case round =>
    obtain ⟨y, A', n', c', hy0, hy1, rfl, hG⟩ := hrel
    obtain ⟨t0, t1, t2, t3, t4⟩ := hG.cells
    have hba := hG.others (w.heap.size, 24, [.int .i64 W, .int .i64 H, .slice A n c]) (by simp)
    obtain ⟨q0, q1, q2, q3⟩ := ImgBox.cells hba.1
    simp only at q0 q1 q2 q3
    have HG := hide hG
    clear hG hba
    by_cases hlt : y < H
    · go_wp2_with fail
      obtain ⟨wo, rfl⟩ : ∃ wo : World, wo = wr := ⟨_, rfl⟩
      go_loopw [7] (fun i wr => ∃ (x : Int) (A' : Option Addr) (n' c' : Nat), 0 ≤ x ∧ x ≤ W ∧ i = .int .i64 x ∧ GridRel w W H (litPix ⟨W, H, P⟩ ls) (w.heap.size + 2) (w.heap.size + 3) [(w.heap.size, 24, [.int .i64 W, .int .i64 H, .slice A n c]), (w.heap.size + 1, 24, [.int .i64 0, .int .i64 0, .slice none 0 0])] y x A' n' c' wr)
        (fun i _ => (W - intOf i).toNat)
      case atStart => exact ⟨0, A', n', c', by omega, by omega, rfl, HG.out⟩
      case round =>
        obtain ⟨x, A', n', c', hx0, hx1, rfl, hG⟩ := hrel
        clear HG t0 t1 t2 t3 t4 q0 q1 q2 q3
        have HG := hide hG
        have hle := gridPart_le (W := W) (litPix ⟨W, H, P⟩ ls) (y := y) (x := x) (by omega) (by omega) (by omega)
        have hn : n' ≤ 1073741824 := by rw [hG.len]; omega
        have hs := hG.size
        have HW0 := hide hG.below
        obtain ⟨t0, t1, t2, t3, t4⟩ := hG.cells
        have hba := hG.others (w.heap.size, 24, [.int .i64 W, .int .i64 H, .slice A n c]) (by simp)
        obtain ⟨q0, q1, q2, q3⟩ := ImgBox.cells hba.1
        simp only at q0 q1 q2 q3
        clear hG hle hba
        by_cases hli : x < W
        · have HC := hide (fun (W0 : World) (hb : Below w.heap.size w W0) => at_ref W H A n c P x y W0 HF.out HN.out (HIL.out.later _ hb).1 (by omega) (by omega) (by omega) (by omega))
          have HC2 := hide (fun (W0 : World) (hb : Below w.heap.size w W0) => lightAt_ref B m d ls x y W0 HM.out (HIL.out.later _ hb).2 HE.out (by omega) (by omega))
          obtain ⟨p1, p2⟩ := Img.Fine.at_bd HF.out hx0 hli hy0 hlt
          obtain ⟨p3, p4⟩ := HBD.out x y
          have hpix : litPix ⟨W, H, P⟩ ls x y = min 65535 (Img.at_ ⟨W, H, P⟩ x y + lightAt ls x y) := rfl
          generalize Img.at_ ⟨W, H, P⟩ x y = v at *
          generalize lightAt ls x y = u at *
          have HP := hide (hpix.trans (show min 65535 (v + u) = (if v + u < 65535 then v + u else 65535) by omega))
          have e3 : IntKind.i64.wrap (v + u) = v + u := IntWalk.i64_in _ (by omega)
          clear hpix
          have HG1 := hide (HG.out.keep (Below.refl _ _).drew)
          have HW1 := hide HG1.out.below
          go_wp2_with fail
          go_region_law
            (first
              | (refine step_app1 w2 (by rfl) _ _ 22 (by rfl) (w.heap.size + 3) 3 i0 _ 1 8 Try.underlying22 hi0 hz0 hz1 hz2 rfl (by omega) A' n' c' _ [.int .i64 (if v + u < 65535 then v + u else 65535)] (by rfl) HG3.out.own (by rfl) rfl (one_int _) hn (by omega) hs3 ?_; intro A1 c1 w3 hown3 hg3; obtain ⟨u0, u1, u2⟩ := boxGrown HG3.out hg3; obtain ⟨p0, u3, u4⟩ := HG3.out.midCells hg3)
              | (go_simp; go_at_call 65; refine ((unhide HC) _ HW1.out).mono ?_; rintro e w1 ⟨rfl, hE1⟩; have r0 := keepCel hE1 q1; have r1 := keepCel hE1 q2; have r2 := keepCel hE1 q3; have r3 := keepCel hE1 t3; have HG2 := hide (HG1.out.keep hE1); have HW2 := hide HG2.out.below; clear hE1)
              | (go_simp; go_at_call 30; refine ((unhide HC2) _ HW2.out).mono ?_; rintro e w2 ⟨rfl, hE2⟩; have s0 := keepCel hE2 r0; have s1 := keepCel hE2 r1; have s2 := keepCel hE2 r2; have s3 := keepCel hE2 r3; have HG3 := hide (HG2.out.keep hE2); have hs3 := HG3.out.size; have ls3 := HG3.out.cells.1; clear hE2))
          all_goals
            go_wp2_with fail
            go_roundw
            case rel => exact ⟨x + 1, A1, n' + 1, c1, by omega, by omega, by go_num, HG3.out.step hx0 hg3 (by rw [HP.out]; exact hown3)⟩
            case measure => simp [intOf]; omega
        · go_wp2_with fail
          go_roundw
          case rel => exact ⟨y + 1, A', n', c', by omega, by omega, by go_num, HG.out.row hy0 (by omega)⟩
          case measure => simp [intOf]; omega
    · have hy : y = H := by omega
      have hGE := HG.out
      rw [hy] at hGE
      have HGE := hide hGE
      clear hGE hy
      have hR := (HG.out.others (w.heap.size + 1, 24, [.int .i64 0, .int .i64 0, .slice none 0 0]) (by simp)).1
      have r0 : wr.cell? ⟨w.heap.size + 1, 0, none⟩ = some (.int .i64 0) := by rw [hR.cell]; rfl
      have r1' : wr.cell? ⟨w.heap.size + 1, 1, none⟩ = some (.int .i64 0) := by rw [hR.cell]; rfl
      have r2' : wr.cell? ⟨w.heap.size + 1, 2, none⟩ = some (.slice none 0 0) := by rw [hR.cell]; rfl
      have f0 := hR.frozen 0
      have f1 := hR.frozen 1
      have f2 := hR.frozen 2
      simp only at f0 f1 f2
      clear hR
      go_wp2_with fail
      refine bodyPost_ret (v := .agg #[.int .i64 W, .int .i64 H, .slice A' n' c']) (by simp [results, Try.results36, go_sem, r0, r1', r2']) rfl ?_
      exact HGE.out.done (u := [.int .i64 0, .int .i64 0, .slice none 0 0]) (by simp) (by omega)
end Go.Proofs.Ytibpmogmeoappaa
