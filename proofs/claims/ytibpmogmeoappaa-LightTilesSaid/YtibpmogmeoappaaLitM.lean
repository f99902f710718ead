/- Walks: lamp, lightBegun. -/
import Derived.Test.YtibpmogmeoappaaLitL
import Derived.Test.YtibpmogmeoappaaImgN
namespace Go.Proofs.Ytibpmogmeoappaa
open Go.RowKit

def lampL : List Lamp := [⟨1, 1, 2, 1000⟩]
def RetLamp (w : World) (e : Ending) (w' : World) : Prop := ∃ (A : Option Addr) (c : Nat), e = .returned (.slice A 1 c) ∧ Lamps w' A lampL ∧ Below w.heap.size w w'
theorem lamp_any (w : World) : Calls Try.prog 73 #[] w (RetLamp w) := by
  go_enter Try.func73, Try.ntmps73
  go_wp2_with fail
  go_ret
  refine ⟨_, _, rfl, ?_, (Below.refl _ _).alloc (Nat.le_refl _) _⟩
  have hb := Blk.new w 59 (lampCells ⟨1, 1, 2, 1000⟩)
  intro i hi
  have hi0 : i = 0 := by simp only [lampL, List.length_singleton] at hi; omega
  subst hi0
  refine ⟨w.heap.size, 0, rfl, hb.lt, fun j hj => ?_⟩
  have := hb.cell j
  rw [show 0 + 0 * 4 + j = j by omega]
  refine Eq.trans this ?_
  have hj2 : j < (lampCells ⟨1, 1, 2, 1000⟩).length := hj
  simp only [lampL, List.getD_cons_zero]
  rw [List.getElem?_eq_getElem hj2, List.getD_eq_getElem?_getD, List.getElem?_eq_getElem hj2]
  rfl
theorem Keeps.lamps {w : World} {A : Option Addr} {ls : List Lamp} (h : Lamps w A ls) : Keeps w (fun W => Lamps W A ls) := ⟨h, fun _ hb => h.keep hb⟩

theorem lb1 : lampAtAns lampL 1 0 = 500 ∧ lampAtErr lampL 1 0 = 0 := by decide +kernel
theorem lb2 : lampNearAns lampL 3 0 2 2 = [] ∧ lampNearErr lampL 3 0 2 2 = 0 := by decide +kernel
theorem lb3 : lampNearAns lampL 2 0 2 2 = [0] ∧ lampNearErr lampL 2 0 2 2 = 0 := by decide +kernel
theorem lb4 : litAns ⟨2, 2, fourL⟩ lampL 1 = ⟨2, 2, [4, 508, 65535, 1000]⟩ ∧ litErr ⟨2, 2, fourL⟩ lampL 1 = 0 := by decide +kernel
theorem lb5 : lampsErr lampL = 0 := by decide +kernel
def RetIntsLit (w : World) (L : List Int) (n : Nat) (z : Int) (e : Ending) (w' : World) : Prop := ∃ (A : Option Addr) (c : Nat), e = .returned (.tuple #[.slice A n c, .int .i64 z]) ∧ Ints w' A L ∧ Below w.heap.size w w'
theorem retIntsLit {w : World} {L L' : List Int} {z z' : Int} {n : Nat} (hL : L = L') (hz : z = z') (hn : L'.length = n) {e : Ending} {w' : World} (h : RetIntsErr w L z e w') : RetIntsLit w L' n z' e w' := by
  obtain ⟨A, m, c, rfl, h1, h2, _, h3⟩ := h
  subst hL hz
  exact ⟨A, c, by rw [← h1, hn], h2, h3⟩

set_option maxRecDepth 100000 in
set_option maxHeartbeats 2000000 in
theorem lightBegun_any (w : World) : Calls Try.prog 32 #[] w fun e w' => e = .returned (.bool true) ∧ Below w.heap.size w w' := by
  have HB0 := hide (Below.refl w.heap.size w)
  go_enter Try.func32, Try.ntmps32
  go_wp2_with fail
  refine (lamp_any _).mono ?_
  rintro e w1 ⟨A1, c1, rfl, hL1, hE1⟩
  have HB1 := hide (HB0.out.trans (hE1.mono HB0.out.size))
  clear HB0 hE1
  go_wp2_with fail
  refine (lampAt_any A1 1 c1 lampL 1 0 _ rfl hL1 (by omega)).mono ?_
  rw [lb1.1, lb1.2]
  rintro e w2 ⟨rfl, hE2⟩
  have HB2 := hide (HB1.out.trans (hE2.mono HB1.out.size))
  clear HB1 hE2 hL1
  go_wp2_with fail
  refine (lamp_any _).mono ?_
  rintro e w3 ⟨A3, c3, rfl, hL3, hE3⟩
  have HB3 := hide (HB2.out.trans (hE3.mono HB2.out.size))
  clear HB2 hE3
  go_wp2_with fail
  refine (lampNear_any A3 1 c3 lampL 3 0 2 2 _ rfl hL3 (by omega)).mono ?_
  rintro e w4 h4
  obtain ⟨A4, c4, rfl, _, hE4⟩ := retIntsLit (n := 0) lb2.1 lb2.2 rfl h4
  have HB4 := hide (HB3.out.trans (hE4.mono HB3.out.size))
  clear HB3 hE4 hL3 h4
  go_wp2_with fail
  refine (lamp_any _).mono ?_
  rintro e w5 ⟨A5, c5, rfl, hL5, hE5⟩
  have HB5 := hide (HB4.out.trans (hE5.mono HB4.out.size))
  clear HB4 hE5
  go_wp2_with fail
  refine (lampNear_any A5 1 c5 lampL 2 0 2 2 _ rfl hL5 (by omega)).mono ?_
  rintro e w6 h6
  obtain ⟨A6, c6, rfl, hI6, hE6⟩ := retIntsLit (n := 1) lb3.1 lb3.2 rfl h6
  have HB6 := hide (HB5.out.trans (hE6.mono HB5.out.size))
  have HK6 := hide (Keeps.ints hI6)
  clear HB5 hE6 hL5 h6 hI6
  go_wp2_with fail
  refine (four_any _).mono ?_
  rintro e w7 ⟨A7, c7, rfl, hI7, hE7⟩
  have HB7 := hide (HB6.out.trans (hE7.mono HB6.out.size))
  have HK7 := hide ((HK6.out.move hE7).and (Keeps.ints hI7))
  clear HB6 HK6 hE7 hI7
  go_wp2_with fail
  refine (lamp_any _).mono ?_
  rintro e w8 ⟨A8, c8, rfl, hL8, hE8⟩
  have HB8 := hide (HB7.out.trans (hE8.mono HB7.out.size))
  have HK8 := hide (HK7.out.move hE8)
  clear HB7 HK7 hE8
  go_wp2_with fail
  refine (lit_any 2 2 A7 4 c7 fourL A8 1 c8 lampL 1 _ rfl HK8.out.now.2 (by omega) rfl hL8 (by omega)).mono ?_
  rintro e w9 h9
  obtain ⟨A9, c9, rfl, hI9, hE9⟩ := retLit (W := 2) (H := 2) (P := [4, 508, 65535, 1000]) (n := 4) lb4.1 lb4.2 rfl h9
  have hba := HB8.out.trans (hE9.mono HB8.out.size)
  have HB9 := hide (hba.alloc hba.size (.cells #[.int .i64 2, .int .i64 2, .slice A9 4 c9] 24))
  have HK9 := hide ((((HK8.out.left.move hE9).and (Keeps.ints hI9)).alloc (.cells #[.int .i64 2, .int .i64 2, .slice A9 4 c9] 24)).and (Keeps.blk (Blk.new w9 24 [.int .i64 2, .int .i64 2, .slice A9 4 c9])))
  clear HB8 HK8 hE9 hL8 h9 hI9 hba
  go_wp2_with fail
  refine (lamp_any _).mono ?_
  rintro e w10 ⟨A10, c10, rfl, hL10, hE10⟩
  have HB10 := hide (HB9.out.trans (hE10.mono HB9.out.size))
  have HK10 := hide (HK9.out.move hE10)
  clear HB9 HK9 hE10
  go_wp2_with fail
  refine (checkLights_any A10 1 c10 lampL _ rfl hL10 (by omega)).mono ?_
  rw [lb5]
  rintro e w11 ⟨rfl, hE11⟩
  have HB11 := hide (HB10.out.trans (hE11.mono HB10.out.size))
  have HK11 := hide (HK10.out.move hE11)
  clear HB10 HK10 hE11 hL10
  go_wp2_with fail
  have hb0 : Below w11.heap.size w11 (w11.alloc (.cells ([0].map (Value.int .i64)).toArray 3)) := (Below.refl _ _).alloc (Nat.le_refl _) _
  have HB12 := hide (HB11.out.trans (hb0.mono HB11.out.size))
  have HK12 := hide (HK11.out.move hb0)
  clear HB11 HK11 hb0
  refine (sameLit A6 (some ⟨w11.heap.size, 0, none⟩) 1 c6 1 [0] (w11.alloc (.cells ([0].map (Value.int .i64)).toArray 3)) rfl HK12.out.now.1.1 (ints_new _ _) (by omega)).mono ?_
  rintro e w13 ⟨rfl, hE13⟩
  have HB13 := hide (HB12.out.trans (hE13.mono HB12.out.size))
  have HK13 := hide (HK12.out.move hE13)
  clear HB12 HK12 hE13
  obtain ⟨p0, p1, p2, p3⟩ := ImgBox.cells HK13.out.now.2
  go_wp2_with fail
  have hb1 : Below w13.heap.size w13 (w13.alloc (.cells ([4, 508, 65535, 1000].map (Value.int .i64)).toArray 3)) := (Below.refl _ _).alloc (Nat.le_refl _) _
  have HB14 := hide (HB13.out.trans (hb1.mono HB13.out.size))
  have HK14 := hide (HK13.out.move hb1)
  clear HB13 HK13 hb1 p0 p1 p2 p3
  refine (sameLit A9 (some ⟨w13.heap.size, 0, none⟩) 4 c9 4 [4, 508, 65535, 1000] (w13.alloc (.cells ([4, 508, 65535, 1000].map (Value.int .i64)).toArray 3)) rfl HK14.out.now.1.2 (ints_new _ _) (by omega)).mono ?_
  rintro e w15 ⟨rfl, hE15⟩
  have HB15 := hide (HB14.out.trans (hE15.mono HB14.out.size))
  clear HB14 HK14 hE15
  go_wp2_with fail
  go_ret
  exact ⟨rfl, HB15.out⟩
end Go.Proofs.Ytibpmogmeoappaa
