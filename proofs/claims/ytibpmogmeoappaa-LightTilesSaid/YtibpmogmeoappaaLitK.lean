/- Walks over lights: Lit. -/
import Derived.Test.YtibpmogmeoappaaLitJ
import Derived.Test.YtibpmogmeoappaaImgI
namespace Go.Proofs.Ytibpmogmeoappaa
open Go.RowKit

/-- the three blocks that Lit lays first -/
def LitBoxes (w : World) (W H : Int) (A : Option Addr) (n c : Nat) (P : List Int) (B : Option Addr) (m d : Nat) (ls : List Lamp) (w1 : World) : Prop :=
  ImgBox w1 w.heap.size W H A n c ∧ Blk w1 (w.heap.size + 1) 45 [.slice B m d] ∧ Blk w1 (w.heap.size + 1 + 1) 24 [.int .i64 0, .int .i64 0, .slice none 0 0] ∧ Below w.heap.size w w1 ∧ Ints w1 A P ∧ Lamps w1 B ls
section
variable {w w1 w2 : World} {W H : Int} {A : Option Addr} {n c : Nat} {P : List Int} {B : Option Addr} {m d : Nat} {ls : List Lamp}
theorem LitBoxes.keep (h : LitBoxes w W H A n c P B m d ls w1) (hb : Below w1.heap.size w1 w2) : LitBoxes w W H A n c P B m d ls w2 :=
  ⟨Blk.keep h.1 hb, Blk.keep h.2.1 hb, h.2.2.1.keep hb, h.2.2.2.1.trans (hb.mono h.2.2.2.1.size), h.2.2.2.2.1.keep hb, h.2.2.2.2.2.keep hb⟩
theorem litBoxes_start (hI : Ints w A P) (hL : Lamps w B ls) (W H : Int) (n c m d : Nat) :
    LitBoxes w W H A n c P B m d ls (((w.alloc (.cells #[.int .i64 W, .int .i64 H, .slice A n c] 24)).alloc (.cells #[.slice B m d] 45)).alloc (.cells #[.int .i64 0, .int .i64 0, .slice none 0 0] 24)) := by
  have b0 := Blk.new w 24 [Value.int .i64 W, .int .i64 H, .slice A n c]
  have b1 := Blk.new (w.alloc (.cells #[.int .i64 W, .int .i64 H, .slice A n c] 24)) 45 [Value.slice B m d]
  have b2 := Blk.new ((w.alloc (.cells #[.int .i64 W, .int .i64 H, .slice A n c] 24)).alloc (.cells #[.slice B m d] 45)) 24 [Value.int .i64 0, .int .i64 0, .slice none 0 0]
  simp only [World.size_alloc] at b1 b2
  have hb : Below w.heap.size w (((w.alloc (.cells #[.int .i64 W, .int .i64 H, .slice A n c] 24)).alloc (.cells #[.slice B m d] 45)).alloc (.cells #[.int .i64 0, .int .i64 0, .slice none 0 0] 24)) := (((Below.refl _ _).alloc (Nat.le_refl _) _).alloc (by simp) _).alloc (by simp; omega) _
  exact ⟨(b0.alloc _).alloc _, b1.alloc _, b2, hb, hI.keep hb, hL.keep hb⟩
theorem LitBoxes.cells (h : LitBoxes w W H A n c P B m d ls w1) :
    w.heap.size + 1 + 1 < w1.heap.size ∧ w1.cell? ⟨w.heap.size, 0, none⟩ = some (.int .i64 W) ∧ w1.cell? ⟨w.heap.size, 1, none⟩ = some (.int .i64 H) ∧ w1.cell? ⟨w.heap.size, 2, none⟩ = some (.slice A n c) ∧
    w1.cell? ⟨w.heap.size + 1, 0, none⟩ = some (.slice B m d) ∧ w1.cell? ⟨w.heap.size + 1 + 1, 0, none⟩ = some (.int .i64 0) ∧ w1.cell? ⟨w.heap.size + 1 + 1, 1, none⟩ = some (.int .i64 0) ∧ w1.cell? ⟨w.heap.size + 1 + 1, 2, none⟩ = some (.slice none 0 0) ∧
    w1.frozen? ⟨w.heap.size + 1 + 1, 0, none⟩ = false ∧ w1.frozen? ⟨w.heap.size + 1 + 1, 1, none⟩ = false ∧ w1.frozen? ⟨w.heap.size + 1 + 1, 2, none⟩ = false :=
  ⟨h.2.2.1.lt, by rw [Blk.cell h.1]; rfl, by rw [Blk.cell h.1]; rfl, by rw [Blk.cell h.1]; rfl, by rw [Blk.cell h.2.1]; rfl, by rw [h.2.2.1.cell]; rfl, by rw [h.2.2.1.cell]; rfl, by rw [h.2.2.1.cell]; rfl, h.2.2.1.frozen 0, h.2.2.1.frozen 1, h.2.2.1.frozen 2⟩
end

def litErr (a : Img) (ls : List Lamp) (tile : Int) : Int := if a.Fine then (if lampsErr ls = 0 then (if 1 ≤ tile ∧ tile ≤ 16 then 0 else 3) else lampsErr ls) else 1
def litAns (a : Img) (ls : List Lamp) (tile : Int) : Img := if litErr a ls tile = 0 then litImg a ls else Img.none

/-- the picture ahead of the tile (x, y): what lies above, and in the tiles to the left, is lit -/
def tilesF (ls : List Lamp) (sz : Int) (o : Int → Int → Int) (y x a b : Int) : Int := if b < y ∨ (b < y + sz ∧ a < x) then min 65535 (o a b + lightAt ls a b) else o a b
theorem tilesF_step {ls : List Lamp} {sz W H x y cw ch : Int} {o : Int → Int → Int} (hcw : cw = min sz (W - x)) (hch : ch = min sz (H - y)) (a b : Int) (_ha0 : 0 ≤ a) (ha : a < W) (hb : b < H) (_hy : 0 ≤ y) :
    tileDone ls x y cw ch o (tilesF ls sz o y x) a b = tilesF ls sz o y (x + sz) a b := by
  unfold tileDone tilesF
  by_cases h : y ≤ b ∧ b < y + ch ∧ x ≤ a ∧ a < x + cw
  · rw [if_pos h, if_pos (by omega)]
  · rw [if_neg h]
    by_cases h1 : b < y ∨ (b < y + sz ∧ a < x)
    · rw [if_pos h1, if_pos (by omega)]
    · rw [if_neg h1, if_neg (by omega)]
theorem tilesF_row {ls : List Lamp} {sz W x y : Int} {o : Int → Int → Int} (hx : W ≤ x) (hs : 1 ≤ sz) (a b : Int) (_ha0 : 0 ≤ a) (ha : a < W) : tilesF ls sz o y x a b = tilesF ls sz o (y + sz) 0 a b := by
  unfold tilesF
  by_cases h1 : b < y ∨ (b < y + sz ∧ a < x)
  · rw [if_pos h1, if_pos (by omega)]
  · rw [if_neg h1, if_neg (by omega)]
theorem mine_pix {w : World} {W H : Int} {A : Option Addr} {B : Nat} {P : List Int} (hF : Img.Fine ⟨W, H, P⟩) (hI : Ints w A P) (hA : Mine w B A) :
    ∃ (g : Nat) (tail : List Value), A = some ⟨g, 0, none⟩ ∧ B ≤ g ∧ PixBlk w g W H (Img.at_ ⟨W, H, P⟩) tail := by
  have h1 := hF.2.2.1
  have h2 := mul_bd hF.1.1 hF.1.2 hF.2.1.1 hF.2.1.2
  simp only at h1 h2
  have h0 : 0 < P.length := by omega
  obtain ⟨b, o, x, hA1, hlt, _, _⟩ := hI.at_ 0 h0
  obtain ⟨h3, h4, cs, h5⟩ := hA _ hA1
  simp only at h3 h4 h5
  injection h4 with _ h4
  subst h4
  refine ⟨b, cs.drop P.length, hA1, h3, ?_⟩
  have hd := congrArg Img.P hF.eq_drawn
  simp only [drawn] at hd
  unfold PixBlk
  rw [← hd]
  have e : cs = P.map (.int .i64) ++ cs.drop P.length := by
    have hc : ∀ i, i < P.length → cs[i]? = (P.map (Value.int .i64))[i]? := by
      intro i hi
      obtain ⟨b', o', x, hA2, _, hx, hc⟩ := hI.at_ i hi
      rw [hA1] at hA2
      injection hA2 with hA2
      injection hA2 with e1 e2
      subst e1 e2
      rw [Nat.zero_add, h5.cell] at hc
      rw [hc, List.getElem?_map, hx]; rfl
    have ht : cs.take P.length = P.map (.int .i64) := by
      apply List.ext_getElem?
      intro i
      rw [List.getElem?_take]
      split
      · rename_i hi; exact hc i hi
      · rename_i hi; rw [List.getElem?_eq_none (by simpa using hi)]
    rw [← ht, List.take_append_drop]
  rw [← e]
  exact h5
theorem PixBlk.ints {w : World} {g : Nat} {W H : Int} {f : Int → Int → Int} {tail : List Value} (h : PixBlk w g W H f tail) : Ints w (some ⟨g, 0, none⟩) (grid W.toNat H.toNat f) := by
  intro i hi
  refine ⟨g, 0, rfl, Blk.lt h, ?_⟩
  rw [Nat.zero_add, Blk.cell h, List.getElem?_append_left hi, List.getElem?_eq_getElem hi]
  rw [List.getD_eq_getElem?_getD, List.getElem?_eq_getElem hi]; rfl
theorem enters_Lit1 : ∀ args w, (callFunc 75 args).run Try.prog w = .ok (.enter 75 args) w := enters_of Try.func75 (by kernel_rfl) rfl

set_option maxRecDepth 100000 in
set_option maxHeartbeats 1000000 in
theorem lit_form (W H : Int) (A : Option Addr) (n c : Nat) (P : List Int) (B : Option Addr) (m d : Nat) (ls : List Lamp) (tile : Int) (w : World) (hF : ¬ Img.Fine ⟨W, H, P⟩) (hn : P.length = n) (hI : Ints w A P) (hl : n ≤ 9223372036854775807) (hL : Lamps w B ls) :
    Calls Try.prog 35 #[.agg #[.int .i64 W, .int .i64 H, .slice A n c], .slice B m d, .int .i64 tile] w (RetImgErr w Img.none 1) := by
  have HC := hide (fun (W0 : World) (hb : Ints W0 A P) => checkErr_no hF ▸ check_any W H A n c P W0 hn hb hl)
  have HS := hide (litBoxes_start hI hL W H n c m d)
  clear hn hI hF hL
  go_enter Try.func35, Try.ntmps35
  go_wp2_with fail
  refine ((unhide HC) _ HS.out.2.2.2.2.1).mono ?_
  rintro e w1 ⟨rfl, hE⟩
  have HB := hide (HS.out.keep hE)
  obtain ⟨q0, q1, q2, q3, q4, q5, q6, q7, q8, q9, q10⟩ := HB.out.cells
  clear hE HS
  go_wp2_with fail
  refine bodyPost_ret (v := .tuple #[.agg #[.int .i64 0, .int .i64 0, .slice none 0 0], .int .i64 1]) (by simp [results, Try.results35, go_sem, q5, q6, q7]) rfl ?_
  exact retBoxNone (by omega) HB.out.2.2.2.1

set_option maxRecDepth 100000 in
set_option maxHeartbeats 1000000 in
theorem lit_lamps (W H : Int) (A : Option Addr) (n c : Nat) (P : List Int) (B : Option Addr) (m d : Nat) (ls : List Lamp) (tile : Int) (w : World) (hF : Img.Fine ⟨W, H, P⟩) (hn : P.length = n) (hI : Ints w A P) (hl : n ≤ 9223372036854775807) (hm : ls.length = m) (hL : Lamps w B ls) (hl2 : m ≤ 9223372036854775807) (hz : lampsErr ls ≠ 0) :
    Calls Try.prog 35 #[.agg #[.int .i64 W, .int .i64 H, .slice A n c], .slice B m d, .int .i64 tile] w (RetImgErr w Img.none (lampsErr ls)) := by
  have HC := hide (fun (W0 : World) (hb : Ints W0 A P) => checkErr_yes hF ▸ check_any W H A n c P W0 hn hb hl)
  have HC2 := hide (fun (W0 : World) (hb : Lamps W0 B ls) => checkLights_any B m d ls W0 hm hb hl2)
  have HS := hide (litBoxes_start hI hL W H n c m d)
  generalize lampsErr ls = z at *
  have hz1 : (z != 0) = true := by simpa using hz
  clear hn hI hF hL hm hz
  go_enter Try.func35, Try.ntmps35
  go_wp2_with fail
  refine ((unhide HC) _ HS.out.2.2.2.2.1).mono ?_
  rintro e w1 ⟨rfl, hE⟩
  have HB := hide (HS.out.keep hE)
  obtain ⟨q0, q1, q2, q3, q4, q5, q6, q7, q8, q9, q10⟩ := HB.out.cells
  clear hE HS
  go_wp2_with fail
  refine ((unhide HC2) _ HB.out.2.2.2.2.2).mono ?_
  rintro e w2 ⟨rfl, hE⟩
  have HB1 := hide (HB.out.keep hE)
  clear q0 q1 q2 q3 q4 q5 q6 q7 q8 q9 q10 hE HB
  obtain ⟨q0, q1, q2, q3, q4, q5, q6, q7, q8, q9, q10⟩ := HB1.out.cells
  go_wp2_with fail
  refine bodyPost_ret (v := .tuple #[.agg #[.int .i64 0, .int .i64 0, .slice none 0 0], .int .i64 z]) (by simp [results, Try.results35, go_sem, q5, q6, q7]) rfl ?_
  exact retBoxNone (by omega) HB1.out.2.2.2.1

set_option maxRecDepth 100000 in
set_option maxHeartbeats 1000000 in
theorem lit_range (W H : Int) (A : Option Addr) (n c : Nat) (P : List Int) (B : Option Addr) (m d : Nat) (ls : List Lamp) (tile : Int) (w : World) (hF : Img.Fine ⟨W, H, P⟩) (hn : P.length = n) (hI : Ints w A P) (hl : n ≤ 9223372036854775807) (hm : ls.length = m) (hL : Lamps w B ls) (hl2 : m ≤ 9223372036854775807) (hz : lampsErr ls = 0) (ht : ¬ (1 ≤ tile ∧ tile ≤ 16)) :
    Calls Try.prog 35 #[.agg #[.int .i64 W, .int .i64 H, .slice A n c], .slice B m d, .int .i64 tile] w (RetImgErr w Img.none 3) := by
  have HC := hide (fun (W0 : World) (hb : Ints W0 A P) => checkErr_yes hF ▸ check_any W H A n c P W0 hn hb hl)
  have HC2 := hide (fun (W0 : World) (hb : Lamps W0 B ls) => hz ▸ checkLights_any B m d ls W0 hm hb hl2)
  have HS := hide (litBoxes_start hI hL W H n c m d)
  clear hn hI hF hL hm hz
  go_enter Try.func35, Try.ntmps35
  go_wp2_with fail
  refine ((unhide HC) _ HS.out.2.2.2.2.1).mono ?_
  rintro e w1 ⟨rfl, hE⟩
  have HB := hide (HS.out.keep hE)
  obtain ⟨q0, q1, q2, q3, q4, q5, q6, q7, q8, q9, q10⟩ := HB.out.cells
  clear hE HS
  go_wp2_with fail
  refine ((unhide HC2) _ HB.out.2.2.2.2.2).mono ?_
  rintro e w2 ⟨rfl, hE⟩
  have HB1 := hide (HB.out.keep hE)
  clear q0 q1 q2 q3 q4 q5 q6 q7 q8 q9 q10 hE HB
  obtain ⟨q0, q1, q2, q3, q4, q5, q6, q7, q8, q9, q10⟩ := HB1.out.cells
  go_wp2_with fail
  all_goals try (exfalso; omega)
  all_goals
    refine bodyPost_ret (v := .tuple #[.agg #[.int .i64 0, .int .i64 0, .slice none 0 0], .int .i64 3]) (by simp [results, Try.results35, go_sem, q5, q6, q7]) rfl ?_
    exact retBoxNone (by omega) HB1.out.2.2.2.1
end Go.Proofs.Ytibpmogmeoappaa
