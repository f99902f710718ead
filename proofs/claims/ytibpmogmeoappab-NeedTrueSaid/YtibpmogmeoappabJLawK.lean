/- Walk of the law NeedTrue. -/
import Derived.Test.YtibpmogmeoappabJNeedL
import Derived.Test.YtibpmogmeoappabJLit
namespace Go.Proofs.Ytibpmogmeoappab
open Go.RowKit

set_option maxRecDepth 100000 in
set_option maxHeartbeats 4000000 in
theorem needTrue_any (W H S O : Int) (PA : Option Addr) (n c : Nat) (ps : List Pas) (nn kk : Int) (w : World) (hn : ps.length = n) (hP : Passes w PA ps) (_hl : n ≤ 9223372036854775807) (hnn : -9223372036854775808 ≤ nn ∧ nn ≤ 9223372036854775807) :
    Calls Try.prog 9 #[.agg #[.int .i64 W, .int .i64 H, .int .i64 S, .int .i64 O, .slice PA n c], .int .i64 nn, .int .i64 kk] w fun e w' => e = .returned (.bool true) ∧ Below w.heap.size w w' := by
  have hb := (Below.refl w.heap.size w).alloc (Nat.le_refl _) (.cells #[.int .i64 W, .int .i64 H, .int .i64 S, .int .i64 O, .slice PA n c] 24)
  have HBX := hide (show FrmBox (w.alloc (.cells #[.int .i64 W, .int .i64 H, .int .i64 S, .int .i64 O, .slice PA n c] 24)) w.heap.size W H S O PA n c from Blk.new w 24 (frmCells W H S O PA n c))
  have HB0 := hide hb
  have HP := hide (Keeps.passes hP)
  have HNN := hide hnn
  by_cases he : frErr ⟨W, H, S, O, ps⟩ = 0
  · obtain ⟨cl, an, kl, hT⟩ := needT W H S O PA n c ps kk hn he
    have HT := hide hT
    have HN := hide hn
    have h12 := hT.many
    clear hn hP hb hnn he hT
    go_enter Try.func9, Try.ntmps9
    go_wp2_with fail
    refine (HT.out.rend _ (HP.out.later _ HB0.out)).mono ?_
    rintro e w1 ⟨W1, H1, P1, A1, n1, c1, hr1, hn1, rfl, hI1, hE1⟩
    have hba := HB0.out.trans (hE1.mono HB0.out.size)
    have HB1 := hide (hba.alloc hba.size (.cells #[.int .i64 W1, .int .i64 H1, .slice A1 n1 c1] 56))
    have HX1 := hide (Blk.alloc (Blk.keep HBX.out hE1) (.cells #[.int .i64 W1, .int .i64 H1, .slice A1 n1 c1] 56))
    have HK1 := hide (((Keeps.ints hI1).alloc (.cells #[.int .i64 W1, .int .i64 H1, .slice A1 n1 c1] 56)).and (Keeps.blk (Blk.new w1 56 [.int .i64 W1, .int .i64 H1, .slice A1 n1 c1])))
    have HR1 := hide hr1
    have HN1 := hide hn1
    obtain ⟨x, q0, q1, q2, q3, q4⟩ := FrmBox.cells HX1.out
    clear HB0 HBX hE1 hI1 hn1 hba hr1
    go_wp2_with fail
    refine (HT.out.cull _ (HP.out.later _ HB1.out)).mono ?_
    rintro e w2 ⟨A2, n2, c2, rfl, hn2, hP2, hE2⟩
    have hba := HB1.out.trans (hE2.mono HB1.out.size)
    have hal : Below w2.heap.size w2 (w2.alloc (.cells #[.int .i64 W, .int .i64 H, .int .i64 S, .int .i64 O, .slice A2 n2 c2] 24)) := (Below.refl _ _).alloc (Nat.le_refl _) _
    have HB2 := hide (hba.alloc hba.size (.cells #[.int .i64 W, .int .i64 H, .int .i64 S, .int .i64 O, .slice A2 n2 c2] 24))
    have HX2 := hide (Blk.keep (Blk.keep HX1.out hE2) hal)
    have HK2 := hide (((HK1.out.move hE2).move hal).and (((Keeps.passes hP2).move hal).and (Keeps.blk (Blk.new w2 24 (frmCells W H S O A2 n2 c2)))))
    have HN2 := hide hn2
    obtain ⟨y, r0, r1, r2, r3, r4⟩ := FrmBox.cells (show FrmBox _ _ W H S O A2 n2 c2 from HK2.out.now.2.2)
    clear x q0 q1 q2 q3 q4 HB1 HX1 HK1 hE2 hP2 hn2 hba hal
    go_wp2_with fail
    refine (HT.out.rendC A2 n2 c2 _ HN2.out HK2.out.now.2.1).mono ?_
    rintro e w3 ⟨W3, H3, P3, A3, n3, c3, hr3, hn3, rfl, hI3, hE3⟩
    have hba := HB2.out.trans (hE3.mono HB2.out.size)
    have hal : Below w3.heap.size w3 (w3.alloc (.cells #[.int .i64 W3, .int .i64 H3, .slice A3 n3 c3] 56)) := (Below.refl _ _).alloc (Nat.le_refl _) _
    have HB3 := hide (hba.alloc hba.size (.cells #[.int .i64 W3, .int .i64 H3, .slice A3 n3 c3] 56))
    have HX3 := hide (Blk.keep (Blk.keep HX2.out hE3) hal)
    have HK3 := hide (((HK2.out.move hE3).move hal).and (((Keeps.ints hI3).move hal).and (Keeps.blk (Blk.new w3 56 [.int .i64 W3, .int .i64 H3, .slice A3 n3 c3]))))
    have HR3 := hide hr3
    have HN3 := hide hn3
    obtain ⟨x, q0, q1, q2, q3, q4⟩ := FrmBox.cells (show FrmBox _ _ W H S O A2 n2 c2 from HK3.out.now.1.2.2)
    clear y r0 r1 r2 r3 r4 HB2 HX2 HK2 hE3 hI3 hn3 hr3 hba hal
    go_wp2_with fail
    refine (HT.out.cullC A2 n2 c2 _ HN2.out HK3.out.now.1.2.1).mono ?_
    rintro e w4 ⟨A4, n4, c4, rfl, hn4, hP4, hE4⟩
    obtain rfl : n2 = n4 := by have h := HN2.out; simp only at hn4; omega
    have hba := HB3.out.trans (hE4.mono HB3.out.size)
    have hal : Below w4.heap.size w4 (w4.alloc (.cells #[.int .i64 W, .int .i64 H, .int .i64 S, .int .i64 O, .slice A4 n2 c4] 24)) := (Below.refl _ _).alloc (Nat.le_refl _) _
    have HB4 := hide (hba.alloc hba.size (.cells #[.int .i64 W, .int .i64 H, .int .i64 S, .int .i64 O, .slice A4 n2 c4] 24))
    have HX4 := hide (Blk.keep (Blk.keep HX3.out hE4) hal)
    have HK4 := hide (((HK3.out.move hE4).move hal).and (((Keeps.passes hP4).move hal).and (Keeps.blk (Blk.new w4 24 (frmCells W H S O A4 n2 c4)))))
    obtain ⟨y, r0, r1, r2, r3, r4⟩ := FrmBox.cells HX4.out
    clear x q0 q1 q2 q3 q4 HB3 HX3 HK3 hE4 hP4 hn4 hba hal
    go_wp2_with fail
    refine (HT.out.kept _ (HP.out.later _ HB4.out)).mono ?_
    rintro e w5 ⟨A5, n5, c5, rfl, hn5, hC5, hE5⟩
    obtain rfl : n = n5 := by have h := HT.out.klen; omega
    have HB5 := hide (HB4.out.trans (hE5.mono HB4.out.size))
    have HX5 := hide (Blk.keep HX4.out hE5)
    have HK5 := hide ((HK4.out.move hE5).and (Keeps.cells hC5))
    clear y r0 r1 r2 r3 r4 HB4 HX4 HK4 hE5 hn5 hC5
    obtain ⟨x, q0, q1, q2, q3, q4⟩ := FrmBox.cells HX5.out
    obtain ⟨i1, i2, i3, i4⟩ := ImgBox.cells HK5.out.now.1.1.1.1.2
    obtain ⟨j1, j2, j3, j4⟩ := ImgBox.cells HK5.out.now.1.1.2.2
    go_wp2_with fail
    refine (sameIm W1 H1 W3 H3 A1 A3 n1 c1 n3 c3 P1 P3 w5 (HR1.out.trans HR3.out.symm) HN1.out HN3.out HK5.out.now.1.1.1.1.1 HK5.out.now.1.1.2.1 (by have h1 := HT.out.alen; rw [← HR1.out] at h1; have h2 := HN1.out; simp only at h1; omega)).mono ?_
    rintro e w6 ⟨rfl, hE6⟩
    have HB6 := hide (HB5.out.trans (hE6.mono HB5.out.size))
    have HX6 := hide (Blk.keep HX5.out hE6)
    have HK6 := hide (HK5.out.move hE6)
    clear x q0 q1 q2 q3 q4 i1 i2 i3 i4 j1 j2 j3 j4 HB5 HX5 HK5 hE6
    obtain ⟨x, q0, q1, q2, q3, q4⟩ := FrmBox.cells (show FrmBox _ _ W H S O A2 n2 c2 from HK6.out.now.1.1.1.2.2)
    obtain ⟨y, r0, r1, r2, r3, r4⟩ := FrmBox.cells (show FrmBox _ _ W H S O A4 n2 c4 from HK6.out.now.1.2.2)
    go_wp2_with fail
    refine (sameFrames_any W H S O A2 A4 n2 c2 c4 cl w6 HN2.out HK6.out.now.1.1.1.2.1 HK6.out.now.1.2.1 (by have h1 := HT.out.clen; have h2 : cl.length = n2 := HN2.out; omega)).mono ?_
    rintro e w7 ⟨rfl, hE7⟩
    have HB7 := hide (HB6.out.trans (hE7.mono HB6.out.size))
    have HX7 := hide (Blk.keep HX6.out hE7)
    have HK7 := hide (HK6.out.move hE7)
    clear x q0 q1 q2 q3 q4 y r0 r1 r2 r3 r4 HB6 HX6 HK6 hE7
    go_wp2_with fail
    refine (choose_ref nn n w7 HNN.out (by omega) (by omega)).mono ?_
    rintro e w8 ⟨xx, ⟨hx0, hx1⟩, rfl, rfl⟩
    obtain ⟨j, rfl⟩ : ∃ j : Nat, xx = (j : Int) := ⟨xx.toNat, by omega⟩
    have hjn : j < n := by omega
    have hklj : j < kl.length := by rw [HT.out.klen]; exact hjn
    obtain ⟨kb, ko, hA5, hkb, ckb⟩ := HK7.out.now.2 j (by rw [List.length_map]; exact hklj)
    have hkv : (List.map Value.bool kl).getD j undef = Value.bool (kl.getD j false) := by
      rw [List.getD_eq_getElem?_getD, List.getElem?_map, List.getD_eq_getElem?_getD, List.getElem?_eq_getElem hklj]
      rfl
    rw [hkv] at ckb
    obtain rfl := hA5
    clear hkv
    cases hkj : kl.getD j false with
    | true =>
      rw [hkj] at ckb
      go_wp2_with fail
      refine (needBegun_any _).mono ?_
      rintro e w9 ⟨rfl, hE9⟩
      have HB9 := hide (HB7.out.trans (hE9.mono HB7.out.size))
      clear hE9
      go_wp2_with fail
      go_ret
      exact ⟨rfl, HB9.out⟩
    | false =>
      rw [hkj] at ckb
      have HKJ := hide hkj
      clear hkj
      obtain ⟨x, q0, q1, q2, q3, q4⟩ := FrmBox.cells HX7.out
      go_wp2_with fail
      refine (HT.out.own _ (HP.out.later _ HB7.out)).mono ?_
      rintro e w9 ⟨A9, n9, c9, es, rfl, hn9, hrow, -, hE9⟩
      obtain rfl : n = n9 := by have h := HN.out; simp only at hn9; omega
      obtain ⟨g, v, hA9, hg0, hgl, hgc0, hgf0, hPs0⟩ := passes_setK hrow (x := j) (by simp only [HN.out]; exact hjn) kk
      obtain rfl := hA9
      have hal0 : Below w9.heap.size w9 (w9.alloc (.cells #[.int .i64 W, .int .i64 H, .int .i64 S, .int .i64 O, .slice (some ⟨g, 0, none⟩) n c9] 24)) := (Below.refl _ _).alloc (Nat.le_refl _) _
      have hgc := keepC hal0 hgc0
      have hgf : (w9.alloc (.cells #[.int .i64 W, .int .i64 H, .int .i64 S, .int .i64 O, .slice (some ⟨g, 0, none⟩) n c9] 24)).frozen? ⟨g, j * 6 + 4, none⟩ = false := (World.frozen?_of_block (a := ⟨g, j * 6 + 4, none⟩) (hal0.block g hgl)).trans hgf0
      have hPs := hPs0.keep ((Below.refl _ _).alloc (Nat.le_refl _) (.cells #[.int .i64 W, .int .i64 H, .int .i64 S, .int .i64 O, .slice (some ⟨g, 0, none⟩) n c9] 24))
      have hbs := HB7.out.size
      have hse : Below w7.heap.size w7 (w9.setCell ⟨g, j * 6 + 4, none⟩ (.int .i64 kk)) := hE9.setCell (p := ⟨g, j * 6 + 4, none⟩) (by simp only; omega) (.int .i64 kk)
      have hst : Below w7.heap.size w7 ((w9.setCell ⟨g, j * 6 + 4, none⟩ (.int .i64 kk)).alloc (.cells #[.int .i64 W, .int .i64 H, .int .i64 S, .int .i64 O, .slice (some ⟨g, 0, none⟩) n c9] 24)) := hse.alloc hse.size _
      have HB9 := hide (HB7.out.trans (hst.mono HB7.out.size))
      have HK9 := hide (HK7.out.move hst)
      have hbo : Blk (w9.alloc (.cells #[.int .i64 W, .int .i64 H, .int .i64 S, .int .i64 O, .slice (some ⟨g, 0, none⟩) n c9] 24)) w9.heap.size 24 (frmCells W H S O (some ⟨g, 0, none⟩) n c9) := Blk.new w9 _ _
      have hbp : Blk ((w9.setCell ⟨g, j * 6 + 4, none⟩ (.int .i64 kk)).alloc (.cells #[.int .i64 W, .int .i64 H, .int .i64 S, .int .i64 O, .slice (some ⟨g, 0, none⟩) n c9] 24)) w9.heap.size 24 (frmCells W H S O (some ⟨g, 0, none⟩) n c9) := Blk.newE (cs := frmCells W H S O (some ⟨g, 0, none⟩) n c9) (by simp [World.setCell])
      obtain ⟨y, r0, r1, r2, r3, r4⟩ := FrmBox.cells (show FrmBox _ w9.heap.size W H S O (some ⟨g, 0, none⟩) n c9 from hbo)
      obtain ⟨z, s0, s1, s2, s3, s4⟩ := FrmBox.cells (show FrmBox _ w9.heap.size W H S O (some ⟨g, 0, none⟩) n c9 from hbp)
      have HPS := hide hPs
      clear x q0 q1 q2 q3 q4 HB7 HX7 HK7 hE9 hrow hn9 hal0 hse hst hbo hbp hPs hPs0
      go_wp2_with fail
      refine (HT.out.rendK j hjn HKJ.out (some ⟨g, 0, none⟩) n c9 _ HN.out HPS.out).mono ?_
      rintro e w11 ⟨W5, H5, P5, A11, n11, c11, z5, hz5, hl5, hn11, rfl, hI11, hE11⟩
      have hba := HB9.out.trans (hE11.mono HB9.out.size)
      have hal : Below w11.heap.size w11 (w11.alloc (.cells #[.int .i64 W5, .int .i64 H5, .slice A11 n11 c11] 56)) := (Below.refl _ _).alloc (Nat.le_refl _) _
      have HB11 := hide (hba.alloc hba.size (.cells #[.int .i64 W5, .int .i64 H5, .slice A11 n11 c11] 56))
      have HK11 := hide (((HK9.out.move hE11).move hal).and (((Keeps.ints hI11).move hal).and (Keeps.blk (Blk.new w11 56 [.int .i64 W5, .int .i64 H5, .slice A11 n11 c11]))))
      have HZ5 := hide hz5
      have HL5 := hide hl5
      have HN11 := hide hn11
      clear y r0 r1 r2 r3 r4 z s0 s1 s2 s3 s4 HB9 HK9 hE11 hI11 hn11 hz5 hl5 hba hal HPS hgc hgf hgc0 hgf0
      go_wp2_with fail
      refine (needBegun_any _).mono ?_
      rintro e w12 ⟨rfl, hE12⟩
      have HB12 := hide (HB11.out.trans (hE12.mono HB11.out.size))
      have HK12 := hide (HK11.out.move hE12)
      clear HB11 HK11 hE12
      by_cases hz : z5 = 0
      · subst hz
        obtain ⟨i1, i2, i3, i4⟩ := ImgBox.cells HK12.out.now.1.1.1.1.1.2
        obtain ⟨j1, j2, j3, j4⟩ := ImgBox.cells HK12.out.now.2.2
        go_wp2_with fail
        refine (sameIm W5 H5 W1 H1 A11 A1 n11 c11 n1 c1 P5 P1 w12 ((HZ5.out (by first | rfl | trivial)).trans HR1.out.symm) HN11.out HN1.out HK12.out.now.2.1 HK12.out.now.1.1.1.1.1.1 (by have h1 := HL5.out; have h2 := HN11.out; omega)).mono ?_
        rintro e w13 ⟨rfl, hE13⟩
        have HB13 := hide (HB12.out.trans (hE13.mono HB12.out.size))
        clear hE13 HB12
        go_wp2_with fail
        go_ret
        exact ⟨rfl, HB13.out⟩
      · have hz2 : (z5 == 0) = false := by simpa using hz
        clear HZ5
        go_wp2_with fail
        go_ret
        exact ⟨rfl, HB12.out⟩
  · obtain ⟨z, hze⟩ : ∃ z, z = frErr ⟨W, H, S, O, ps⟩ := ⟨_, rfl⟩
    have HR := hide (fun (W0 : World) (h1 : Passes W0 PA ps) => render_any W H S O PA n c ps W0 hn h1)
    rw [← hze] at HR he
    have hz2 : (z == 0) = false := by simpa using he
    clear he hn hP hb hnn hze
    go_enter Try.func9, Try.ntmps9
    go_wp2_with fail
    refine ((unhide HR) _ (HP.out.later _ HB0.out)).mono ?_
    rintro e w1 ⟨W1, H1, P1, A1, n1, c1, -, -, rfl, -, hE1⟩
    have hba := HB0.out.trans (hE1.mono HB0.out.size)
    have HB1 := hide (hba.alloc hba.size (.cells #[.int .i64 W1, .int .i64 H1, .slice A1 n1 c1] 56))
    clear HB0 HBX hE1 hba HR
    go_wp2_with fail
    refine (needBegun_any _).mono ?_
    rintro e w4 ⟨rfl, hE4⟩
    have HB5 := hide (HB1.out.trans (hE4.mono HB1.out.size))
    clear hE4
    go_wp2_with fail
    go_ret
    exact ⟨rfl, HB5.out⟩
end Go.Proofs.Ytibpmogmeoappab
