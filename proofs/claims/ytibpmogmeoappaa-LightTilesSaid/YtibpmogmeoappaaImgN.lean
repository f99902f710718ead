/- Walks: four, imageBegun. (Printed by gen_begun.py.) -/
import Derived.Test.YtibpmogmeoappaaImgI
import Derived.Test.YtibpmogmeoappaaImgL
import Derived.Test.YtibpmogmeoappaaImgH
namespace Go.Proofs.Ytibpmogmeoappaa
open Go.RowKit

def fourL : List Int := [4, 8, 65535, 0]
/-- a known image comes, and an error's number -/
def RetLit (w : World) (W H : Int) (P : List Int) (n : Nat) (x : Int) (e : Ending) (w' : World) : Prop :=
  ∃ (A : Option Addr) (c : Nat), e = .returned (.tuple #[.agg #[.int .i64 W, .int .i64 H, .slice A n c], .int .i64 x]) ∧ Ints w' A P ∧ Below w.heap.size w w'
theorem retLit {w : World} {r : Img} {y W H : Int} {P : List Int} {n : Nat} {x : Int} (hr : r = ⟨W, H, P⟩) (hy : y = x) (hn : P.length = n) {e : Ending} {w' : World} (h : RetImgErr w r y e w') : RetLit w W H P n x e w' := by
  obtain ⟨W1, H1, P1, A, n1, c, h1, h2, rfl, hI, _, hb⟩ := h
  rw [hr] at h1
  injection h1 with a1 a2 a3
  subst a1 a2 a3 hy
  exact ⟨A, c, by rw [← h2, hn], hI, hb⟩

/-- variables that hold known images -/
def ImgVars (w : World) (l : List (Nat × Int × Int × Option Addr × Nat × Nat × List Int)) : Prop :=
  ∀ v ∈ l, ImgBox w v.1 v.2.1 v.2.2.1 v.2.2.2.1 v.2.2.2.2.1 v.2.2.2.2.2.1 ∧ Ints w v.2.2.2.1 v.2.2.2.2.2.2
theorem ImgVars.keep {w w' : World} {l : List (Nat × Int × Int × Option Addr × Nat × Nat × List Int)} (h : ImgVars w l) (hb : Below w.heap.size w w') : ImgVars w' l :=
  fun v hv => ⟨Blk.keep (h v hv).1 hb, (h v hv).2.keep hb⟩
theorem ImgVars.add {w : World} {l : List (Nat × Int × Int × Option Addr × Nat × Nat × List Int)} (h : ImgVars w l) {W H : Int} {A : Option Addr} {n c : Nat} {P : List Int} (hI : Ints w A P) :
    ImgVars (w.alloc (.cells #[.int .i64 W, .int .i64 H, .slice A n c] 24)) (l ++ [(w.heap.size, W, H, A, n, c, P)]) := by
  intro v hv
  rw [List.mem_append] at hv
  have hb : Below w.heap.size w (w.alloc (.cells #[.int .i64 W, .int .i64 H, .slice A n c] 24)) := (Below.refl _ _).alloc (Nat.le_refl _) _
  rcases hv with hv | hv
  · exact h.keep hb v hv
  · simp only [List.mem_singleton] at hv
    subst hv
    exact ⟨Blk.new w 24 [.int .i64 W, .int .i64 H, .slice A n c], hI.keep hb⟩
theorem ints_new (w : World) (P : List Int) : Ints (w.alloc (.cells (P.map (Value.int .i64)).toArray 3)) (some ⟨w.heap.size, 0, none⟩) P := (Blk.new w 3 (P.map (.int .i64))).cells

def RetFour (w : World) (e : Ending) (w' : World) : Prop := ∃ (A : Option Addr) (c : Nat), e = .returned (.agg #[.int .i64 2, .int .i64 2, .slice A 4 c]) ∧ Ints w' A fourL ∧ Below w.heap.size w w'
set_option maxHeartbeats 400000 in
theorem four_any (w : World) : Calls Try.prog 54 #[] w (RetFour w) := by
  go_enter Try.func54, Try.ntmps54
  go_wp2_with fail
  refine bodyPost_ret (v := .agg #[.int .i64 2, .int .i64 2, .slice (some ⟨w.heap.size + 1, 0, none⟩) 4 4]) (by simp [results, Try.results54, go_sem]) rfl ?_
  refine ⟨_, _, rfl, ?_, ?_⟩
  · have h := ints_new (w.alloc (.cells #[.int .i64 2, .int .i64 2, .slice (some ⟨w.heap.size + 1, 0, none⟩) 4 4] 24)) fourL
    simp only [World.size_alloc] at h
    exact h
  · exact ((Below.refl _ _).alloc (Nat.le_refl _) _).alloc (by simp) _

theorem begun1 : makeAns 2 3 1 40000 = ⟨3, 1, [0, 40000, 14464]⟩ ∧ makeErr 2 3 1 40000 = 0 := by decide +kernel
theorem begun2 : oneAns 9 ⟨2, 2, fourL⟩ 1 = ⟨2, 2, [4, 4, 65535, 65535]⟩ ∧ oneErrAll 9 ⟨2, 2, fourL⟩ 1 = 0 := by decide +kernel
theorem begun3 : oneAns 11 ⟨2, 2, fourL⟩ 0 = ⟨1, 1, [16386]⟩ ∧ oneErrAll 11 ⟨2, 2, fourL⟩ 0 = 0 := by decide +kernel
theorem begun4 : twoAns 4 ⟨2, 2, fourL⟩ ⟨2, 2, fourL⟩ = ⟨2, 2, [8, 16, 65535, 0]⟩ ∧ twoErr 4 ⟨2, 2, fourL⟩ ⟨2, 2, fourL⟩ = 0 := by decide +kernel
theorem begun5 : oneAns 12 ⟨1, 1, [16386]⟩ 0 = ⟨2, 2, [16386, 16386, 16386, 16386]⟩ ∧ oneErrAll 12 ⟨1, 1, [16386]⟩ 0 = 0 := by decide +kernel
theorem begun6 : checkErr ⟨2, 2, fourL⟩ = 0 := by decide +kernel
theorem sameLit (A B : Option Addr) (n c d : Nat) (P : List Int) (w : World) (hn : P.length = n) (hP : Ints w A P) (hQ : Ints w B P) (hl : n ≤ 9223372036854775807) :
    Calls Try.prog 34 #[.slice A n c, .slice B n d] w fun e w' => e = .returned (.bool true) ∧ Below w.heap.size w w' :=
  (sameInts_any A B n c n d P P w hn hn hP hQ hl).mono fun _ _ ⟨h1, h2⟩ => ⟨by rw [h1]; simp, h2⟩

set_option maxRecDepth 100000 in
set_option maxHeartbeats 4000000 in
theorem imageBegun_any (w : World) : Calls Try.prog 16 #[] w fun e w' => e = .returned (.bool true) ∧ Below w.heap.size w w' := by
  have HV0 := hide (show ImgVars w [] from fun v hv => by simp at hv)
  have HB0 := hide (Below.refl w.heap.size w)
  go_enter Try.func16, Try.ntmps16
  go_wp2_with fail
  refine Calls.mono (make_any 2 3 1 40000 _) ?_
  rintro e w1 h1
  obtain ⟨A1, c1, rfl, hI1, hE1⟩ := retLit (W := 3) (H := 1) (P := [0, 40000, 14464]) (n := 3) begun1.1 begun1.2 rfl h1
  clear h1
  have HV1 := hide (HV0.out.keep hE1)
  have HB1 := hide (HB0.out.trans (hE1.mono HB0.out.size))
  clear HV0 HB0 hE1
  have HV2 := hide (HV1.out.add (W := 3) (H := 1) (n := 3) (c := c1) hI1)
  have HB2 := hide (HB1.out.alloc HB1.out.size (.cells #[.int .i64 3, .int .i64 1, .slice A1 3 c1] 24))
  clear HV1 HB1 hI1
  go_wp2_with fail
  refine Calls.mono (four_any _) ?_
  rintro e wf1 ⟨Af1, cf1, rfl, hIf1, hEf1⟩
  have HV3 := hide (HV2.out.keep hEf1)
  have HB3 := hide (HB2.out.trans (hEf1.mono HB2.out.size))
  clear HV2 HB2 hEf1
  go_wp2_with fail
  refine Calls.mono (one_any 9 2 2 Af1 4 cf1 fourL 1 _ rfl hIf1 (by omega)) ?_
  rintro e w2 h2
  obtain ⟨A2, c2, rfl, hI2, hE2⟩ := retLit (W := 2) (H := 2) (P := [4, 4, 65535, 65535]) (n := 4) begun2.1 begun2.2 rfl h2
  clear h2 hIf1
  have HV4 := hide (HV3.out.keep hE2)
  have HB4 := hide (HB3.out.trans (hE2.mono HB3.out.size))
  clear HV3 HB3 hE2
  have HV5 := hide (HV4.out.add (W := 2) (H := 2) (n := 4) (c := c2) hI2)
  have HB5 := hide (HB4.out.alloc HB4.out.size (.cells #[.int .i64 2, .int .i64 2, .slice A2 4 c2] 24))
  clear HV4 HB4 hI2
  go_wp2_with fail
  refine Calls.mono (four_any _) ?_
  rintro e wf2 ⟨Af2, cf2, rfl, hIf2, hEf2⟩
  have HV6 := hide (HV5.out.keep hEf2)
  have HB6 := hide (HB5.out.trans (hEf2.mono HB5.out.size))
  clear HV5 HB5 hEf2
  go_wp2_with fail
  refine Calls.mono (one_any 11 2 2 Af2 4 cf2 fourL 0 _ rfl hIf2 (by omega)) ?_
  rintro e w3 h3
  obtain ⟨A3, c3, rfl, hI3, hE3⟩ := retLit (W := 1) (H := 1) (P := [16386]) (n := 1) begun3.1 begun3.2 rfl h3
  clear h3 hIf2
  have HV7 := hide (HV6.out.keep hE3)
  have HB7 := hide (HB6.out.trans (hE3.mono HB6.out.size))
  clear HV6 HB6 hE3
  have HV8 := hide (HV7.out.add (W := 1) (H := 1) (n := 1) (c := c3) hI3)
  have HB8 := hide (HB7.out.alloc HB7.out.size (.cells #[.int .i64 1, .int .i64 1, .slice A3 1 c3] 24))
  clear HV7 HB7 hI3
  go_wp2_with fail
  refine Calls.mono (four_any _) ?_
  rintro e wf3 ⟨Af3, cf3, rfl, hIf3, hEf3⟩
  have HV9 := hide (HV8.out.keep hEf3)
  have HB9 := hide (HB8.out.trans (hEf3.mono HB8.out.size))
  clear HV8 HB8 hEf3
  go_wp2_with fail
  have hIf3' := hIf3
  refine Calls.mono (four_any _) ?_
  rintro e wf4 ⟨Af4, cf4, rfl, hIf4, hEf4⟩
  replace hIf3 := hIf3.keep hEf4
  clear hIf3'
  have HV10 := hide (HV9.out.keep hEf4)
  have HB10 := hide (HB9.out.trans (hEf4.mono HB9.out.size))
  clear HV9 HB9 hEf4
  go_wp2_with fail
  refine Calls.mono (two_any 4 2 2 Af3 4 cf3 fourL 2 2 Af4 4 cf4 fourL _ rfl hIf3 (by omega) rfl hIf4 (by omega)) ?_
  rintro e w4 h4
  obtain ⟨A4, c4, rfl, hI4, hE4⟩ := retLit (W := 2) (H := 2) (P := [8, 16, 65535, 0]) (n := 4) begun4.1 begun4.2 rfl h4
  clear h4 hIf3 hIf4
  have HV11 := hide (HV10.out.keep hE4)
  have HB11 := hide (HB10.out.trans (hE4.mono HB10.out.size))
  clear HV10 HB10 hE4
  have HV12 := hide (HV11.out.add (W := 2) (H := 2) (n := 4) (c := c4) hI4)
  have HB12 := hide (HB11.out.alloc HB11.out.size (.cells #[.int .i64 2, .int .i64 2, .slice A4 4 c4] 24))
  clear HV11 HB11 hI4
  obtain ⟨p0, p1, p2, p3⟩ := ImgBox.cells (HV12.out (w3.heap.size, 1, 1, A3, 1, c3, [16386]) (by simp)).1
  simp only at p0 p1 p2 p3
  go_wp2_with fail
  refine Calls.mono (one_any 12 1 1 A3 1 c3 [16386] 0 _ rfl (HV12.out (w3.heap.size, 1, 1, A3, 1, c3, [16386]) (by simp)).2 (by omega)) ?_
  rintro e w5 h5
  obtain ⟨A5, c5, rfl, hI5, hE5⟩ := retLit (W := 2) (H := 2) (P := [16386, 16386, 16386, 16386]) (n := 4) begun5.1 begun5.2 rfl h5
  clear h5 p0 p1 p2 p3
  have HV13 := hide (HV12.out.keep hE5)
  have HB13 := hide (HB12.out.trans (hE5.mono HB12.out.size))
  clear HV12 HB12 hE5
  have HV14 := hide (HV13.out.add (W := 2) (H := 2) (n := 4) (c := c5) hI5)
  have HB14 := hide (HB13.out.alloc HB13.out.size (.cells #[.int .i64 2, .int .i64 2, .slice A5 4 c5] 24))
  clear HV13 HB13 hI5
  go_wp2_with fail
  refine Calls.mono (four_any _) ?_
  rintro e wf5 ⟨Af5, cf5, rfl, hIf5, hEf5⟩
  have HV15 := hide (HV14.out.keep hEf5)
  have HB15 := hide (HB14.out.trans (hEf5.mono HB14.out.size))
  clear HV14 HB14 hEf5
  go_wp2_with fail
  refine Calls.mono (check_any 2 2 Af5 4 cf5 fourL _ rfl hIf5 (by omega)) ?_
  rw [begun6]
  rintro e w6 ⟨rfl, hE6⟩
  clear hIf5
  have HV16 := hide (HV15.out.keep hE6)
  have HB16 := hide (HB15.out.trans (hE6.mono HB15.out.size))
  clear HV15 HB15 hE6
  obtain ⟨p0, p1, p2, p3⟩ := ImgBox.cells (HV16.out (w1.heap.size, 3, 1, A1, 3, c1, [0, 40000, 14464]) (by simp)).1
  simp only at p0 p1 p2 p3
  go_wp2_with fail
  have hb0 : Below w6.heap.size w6 (w6.alloc (.cells ([0, 40000, 14464].map (Value.int .i64)).toArray 3)) := (Below.refl _ _).alloc (Nat.le_refl _) _
  have HV17 := hide (HV16.out.keep hb0)
  have HB17 := hide (HB16.out.trans (hb0.mono HB16.out.size))
  clear HV16 HB16 hb0 p0 p1 p2 p3
  refine Calls.mono (sameLit A1 (some ⟨w6.heap.size, 0, none⟩) 3 c1 3 [0, 40000, 14464] (w6.alloc (.cells ([0, 40000, 14464].map (Value.int .i64)).toArray 3)) rfl (HV17.out (w1.heap.size, 3, 1, A1, 3, c1, [0, 40000, 14464]) (by simp)).2 (ints_new _ _) (by omega)) ?_
  rintro e w7 ⟨rfl, hE7⟩
  have HV18 := hide (HV17.out.keep hE7)
  have HB18 := hide (HB17.out.trans (hE7.mono HB17.out.size))
  clear HV17 HB17 hE7
  obtain ⟨p0, p1, p2, p3⟩ := ImgBox.cells (HV18.out (w2.heap.size, 2, 2, A2, 4, c2, [4, 4, 65535, 65535]) (by simp)).1
  simp only at p0 p1 p2 p3
  go_wp2_with fail
  have hb1 : Below w7.heap.size w7 (w7.alloc (.cells ([4, 4, 65535, 65535].map (Value.int .i64)).toArray 3)) := (Below.refl _ _).alloc (Nat.le_refl _) _
  have HV19 := hide (HV18.out.keep hb1)
  have HB19 := hide (HB18.out.trans (hb1.mono HB18.out.size))
  clear HV18 HB18 hb1 p0 p1 p2 p3
  refine Calls.mono (sameLit A2 (some ⟨w7.heap.size, 0, none⟩) 4 c2 4 [4, 4, 65535, 65535] (w7.alloc (.cells ([4, 4, 65535, 65535].map (Value.int .i64)).toArray 3)) rfl (HV19.out (w2.heap.size, 2, 2, A2, 4, c2, [4, 4, 65535, 65535]) (by simp)).2 (ints_new _ _) (by omega)) ?_
  rintro e w8 ⟨rfl, hE8⟩
  have HV20 := hide (HV19.out.keep hE8)
  have HB20 := hide (HB19.out.trans (hE8.mono HB19.out.size))
  clear HV19 HB19 hE8
  obtain ⟨p0, p1, p2, p3⟩ := ImgBox.cells (HV20.out (w3.heap.size, 1, 1, A3, 1, c3, [16386]) (by simp)).1
  simp only at p0 p1 p2 p3
  go_wp2_with fail
  have hb2 : Below w8.heap.size w8 (w8.alloc (.cells ([16386].map (Value.int .i64)).toArray 3)) := (Below.refl _ _).alloc (Nat.le_refl _) _
  have HV21 := hide (HV20.out.keep hb2)
  have HB21 := hide (HB20.out.trans (hb2.mono HB20.out.size))
  clear HV20 HB20 hb2 p0 p1 p2 p3
  refine Calls.mono (sameLit A3 (some ⟨w8.heap.size, 0, none⟩) 1 c3 1 [16386] (w8.alloc (.cells ([16386].map (Value.int .i64)).toArray 3)) rfl (HV21.out (w3.heap.size, 1, 1, A3, 1, c3, [16386]) (by simp)).2 (ints_new _ _) (by omega)) ?_
  rintro e w9 ⟨rfl, hE9⟩
  have HV22 := hide (HV21.out.keep hE9)
  have HB22 := hide (HB21.out.trans (hE9.mono HB21.out.size))
  clear HV21 HB21 hE9
  obtain ⟨p0, p1, p2, p3⟩ := ImgBox.cells (HV22.out (w4.heap.size, 2, 2, A4, 4, c4, [8, 16, 65535, 0]) (by simp)).1
  simp only at p0 p1 p2 p3
  go_wp2_with fail
  have hb3 : Below w9.heap.size w9 (w9.alloc (.cells ([8, 16, 65535, 0].map (Value.int .i64)).toArray 3)) := (Below.refl _ _).alloc (Nat.le_refl _) _
  have HV23 := hide (HV22.out.keep hb3)
  have HB23 := hide (HB22.out.trans (hb3.mono HB22.out.size))
  clear HV22 HB22 hb3 p0 p1 p2 p3
  refine Calls.mono (sameLit A4 (some ⟨w9.heap.size, 0, none⟩) 4 c4 4 [8, 16, 65535, 0] (w9.alloc (.cells ([8, 16, 65535, 0].map (Value.int .i64)).toArray 3)) rfl (HV23.out (w4.heap.size, 2, 2, A4, 4, c4, [8, 16, 65535, 0]) (by simp)).2 (ints_new _ _) (by omega)) ?_
  rintro e w10 ⟨rfl, hE10⟩
  have HV24 := hide (HV23.out.keep hE10)
  have HB24 := hide (HB23.out.trans (hE10.mono HB23.out.size))
  clear HV23 HB23 hE10
  obtain ⟨p0, p1, p2, p3⟩ := ImgBox.cells (HV24.out (w5.heap.size, 2, 2, A5, 4, c5, [16386, 16386, 16386, 16386]) (by simp)).1
  simp only at p0 p1 p2 p3
  go_wp2_with fail
  have hb4 : Below w10.heap.size w10 (w10.alloc (.cells ([16386, 16386, 16386, 16386].map (Value.int .i64)).toArray 3)) := (Below.refl _ _).alloc (Nat.le_refl _) _
  have HV25 := hide (HV24.out.keep hb4)
  have HB25 := hide (HB24.out.trans (hb4.mono HB24.out.size))
  clear HV24 HB24 hb4 p0 p1 p2 p3
  refine Calls.mono (sameLit A5 (some ⟨w10.heap.size, 0, none⟩) 4 c5 4 [16386, 16386, 16386, 16386] (w10.alloc (.cells ([16386, 16386, 16386, 16386].map (Value.int .i64)).toArray 3)) rfl (HV25.out (w5.heap.size, 2, 2, A5, 4, c5, [16386, 16386, 16386, 16386]) (by simp)).2 (ints_new _ _) (by omega)) ?_
  rintro e w11 ⟨rfl, hE11⟩
  have HV26 := hide (HV25.out.keep hE11)
  have HB26 := hide (HB25.out.trans (hE11.mono HB25.out.size))
  clear HV25 HB25 hE11
  go_wp2_with fail
  go_ret
  exact ⟨rfl, HB26.out⟩
end Go.Proofs.Ytibpmogmeoappaa
