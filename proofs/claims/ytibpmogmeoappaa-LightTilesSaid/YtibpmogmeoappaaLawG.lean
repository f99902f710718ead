/- Walk of the law LightTiles. (Printed by gen_tiles.py.) -/
import Derived.Test.YtibpmogmeoappaaLawF
import Derived.Test.YtibpmogmeoappaaLitT
namespace Go.Proofs.Ytibpmogmeoappaa
open Go.RowKit

theorem tdiv_bd {a : Int} (h : -9223372036854775808 ≤ a ∧ a ≤ 9223372036854775807) : -9223372036854775808 ≤ a.tdiv 16 ∧ a.tdiv 16 ≤ 9223372036854775807 := by
  by_cases h0 : 0 ≤ a
  · rw [Int.tdiv_eq_ediv_of_nonneg h0]; omega
  · have e : a.tdiv 16 = -((-a).tdiv 16) := by rw [Int.neg_tdiv]; omega
    rw [e, Int.tdiv_eq_ediv_of_nonneg (by omega)]; omega

set_option maxRecDepth 100000 in
set_option maxHeartbeats 4000000 in
theorem tiles_yy (W H : Int) (A : Option Addr) (n c : Nat) (P : List Int) (B : Option Addr) (m d : Nat) (ls : List Lamp) (one two x y cw ch at' : Int) (w : World) (hn : P.length = n) (hI : Ints w A P) (hl : n ≤ 9223372036854775807) (hm : ls.length = m) (hL : Lamps w B ls) (hl2 : m ≤ 9223372036854775807) (hat : -9223372036854775808 ≤ at' ∧ at' ≤ 9223372036854775807) (hb1 : litErr ⟨W, H, P⟩ ls one = 0) (hb2 : litErr ⟨W, H, P⟩ ls two = 0) (hnr : lampNearErr ls x y cw ch = 0) :
    Calls Try.prog 9 #[.agg #[.int .i64 W, .int .i64 H, .slice A n c], .slice B m d, .int .i64 one, .int .i64 two, .int .i64 x, .int .i64 y, .int .i64 cw, .int .i64 ch, .int .i64 at'] w (SaysTrue w) := by
  have HLI := hide (fun (t : Int) (W0 : World) (h1 : Ints W0 A P) (h2 : Lamps W0 B ls) => lit_any W H A n c P B m d ls t W0 hn h1 hl hm h2 hl2)
  have HLN := hide (fun (W1 H1 : Int) (P1 : List Int) (t : Int) (h : Img.mk W1 H1 P1 = litAns ⟨W, H, P⟩ ls t) => litAns_len h)
  have HNR := hide (fun (W0 : World) (h : Lamps W0 B ls) => lampNear_any B m d ls x y cw ch W0 hm h hl2)
  have HAT := hide (fun (u v : Int) (W0 : World) (h : Lamps W0 B ls) => lampAt_any B m d ls u v W0 hm h hl2)
  obtain ⟨hF, hz, ha1⟩ := litErr_zero hb1
  have ha2 := (litErr_zero hb2).2.2
  have HA1 := hide ha1
  have HA2 := hide ha2
  have HB1 := hide hb1
  have HB2 := hide hb2
  have HF := hide hF
  have HZ := hide hz
  clear hF hz ha1 ha2 hb1 hb2
  obtain ⟨hz', ⟨⟨hx0, hx1⟩, ⟨hy0, hy1⟩⟩, ⟨hw0, hw1⟩, ⟨hh0, hh1⟩⟩ := near_in hnr
  have HNE := hide hnr
  have HNA : Hid (lampNearAns ls x y cw ch = nearList ls x y cw ch) := hide (if_pos hnr)
  have HZ' := hide hz'
  clear hnr hz'
  have HN := hide hn
  have HM := hide hm
  have HK0 := hide (((Keeps.ints hI).and (Keeps.lamps hL)).and (Keeps.below (Below.refl w.heap.size w)))
  clear hn hI hm hL
  go_enter Try.func9, Try.ntmps9
  go_wp2_with fail
  have HK1 := hide ((HK0.out.alloc (.cells #[.int .i64 W, .int .i64 H, .slice A n c] 24)).and (Keeps.blk (Blk.new w 24 [.int .i64 W, .int .i64 H, .slice A n c])))
  clear HK0
  refine ((unhide HLI) one _ HK1.out.now.1.1.1 HK1.out.now.1.1.2).mono ?_
  rintro e w1 ⟨W1, H1, P1, A1, n1, c1, hr1, hn1, rfl, hI1, hA1, hE1⟩
  rw [HB1.out]
  rw [HA1.out] at hr1
  have HN1 := hide hn1
  have HR1 := hide hr1
  have HK2 := hide ((((HK1.out.move hE1).and (Keeps.ints hI1)).alloc (.cells #[.int .i64 W1, .int .i64 H1, .slice A1 n1 c1] 24)).and (Keeps.blk (Blk.new w1 24 [.int .i64 W1, .int .i64 H1, .slice A1 n1 c1])))
  clear HK1 hE1 hI1 hA1 hn1 hr1
  obtain ⟨p0, p1, p2, p3⟩ := ImgBox.cells HK2.out.now.1.1.2
  go_wp2_with fail
  refine ((unhide HLI) two _ HK2.out.now.1.1.1.1.1 HK2.out.now.1.1.1.1.2).mono ?_
  rintro e w2 ⟨W2, H2, P2, A2, n2, c2, hr2, hn2, rfl, hI2, hA2, hE2⟩
  rw [HB2.out]
  rw [HA2.out] at hr2
  have HN2 := hide hn2
  have HR2 := hide hr2
  have HK3 := hide ((((HK2.out.move hE2).and (Keeps.ints hI2)).alloc (.cells #[.int .i64 W2, .int .i64 H2, .slice A2 n2 c2] 24)).and (Keeps.blk (Blk.new w2 24 [.int .i64 W2, .int .i64 H2, .slice A2 n2 c2])))
  clear HK2 hE2 hI2 hA2 hn2 hr2 p0 p1 p2 p3
  obtain ⟨p0, p1, p2, p3⟩ := ImgBox.cells HK3.out.now.1.1.1.1.2
  obtain ⟨q0, q1, q2, q3⟩ := ImgBox.cells HK3.out.now.1.1.2
  obtain ⟨r0, r1, r2, r3⟩ := ImgBox.cells HK3.out.now.2
  go_wp2_with fail
  refine (sameImg_true W1 H1 W2 H2 A1 A2 n1 c1 n2 c2 P1 P2 _ (HR1.out.trans HR2.out.symm) HN1.out HN2.out HK3.out.now.1.1.1.2 HK3.out.now.1.2 (by have := HLN.out W1 H1 P1 one (HR1.out.trans HA1.out.symm); have := HN1.out; omega)).mono ?_
  rintro e w3 ⟨rfl, hE3⟩
  have HK4 := hide (HK3.out.move hE3)
  clear HK3 hE3 p0 p1 p2 p3 q0 q1 q2 q3 r0 r1 r2 r3
  have hP1 : P1 = (litImg ⟨W, H, P⟩ ls).P := congrArg Img.P HR1.out
  obtain rfl : n1 = n := by have h1 := HN1.out; have h2 := HN.out; have h3 := litImg_len (ls := ls) HF.out; simp only at h3; rw [hP1] at h1; omega
  have HP1 := hide hP1
  clear hP1
  have hnn : ((n1 : Int) != (n1 : Int)) = false := by simp
  obtain ⟨p0, p1, p2, p3⟩ := ImgBox.cells HK4.out.now.1.1.1.1.2
  obtain ⟨q0, q1, q2, q3⟩ := ImgBox.cells HK4.out.now.1.1.2
  go_wp2_with fail
  go_loopw [23] (fun ii wr => ∃ k : Nat, k ≤ n1 ∧ ii = .int .i64 k ∧ Below w3.heap.size w3 wr) (fun ii _ => n1 - (intOf ii).toNat)
  case atStart => exact ⟨0, Nat.zero_le _, rfl, Below.refl _ _⟩
  case round =>
    obtain ⟨k, hk, rfl, hB⟩ := hrel
    have HB := hide hB
    have HK5 := hide (HK4.out.move hB)
    clear hB p0 p1 p2 p3 q0 q1 q2 q3
    obtain ⟨p0, p1, p2, p3⟩ := ImgBox.cells HK5.out.now.1.1.1.1.2
    obtain ⟨q0, q1, q2, q3⟩ := ImgBox.cells HK5.out.now.1.1.2
    by_cases hkl : k < n1
    · have hk0 : (0 : Int) ≤ (k : Int) := by omega
      have hk1 : (k : Int) < (n1 : Int) := by omega
      obtain ⟨b1, o1, v1, rfl, hb1, hv1, d1⟩ := HK5.out.now.1.1.1.2.at_ k (by have := HN1.out; omega)
      obtain ⟨b2, o2, v2, rfl, hb2, hv2, d2⟩ := HK5.out.now.1.1.1.1.1.1.1.at_ k (by have := HN.out; omega)
      rw [HP1.out] at hv1
      have hge : ¬ v1 < v2 := by have := lit_ge HF.out HZ.out hv1 hv2; omega
      clear hv1 hv2
      go_wp2_with fail
      go_quiet (fail)
      go_wp2_with fail
      go_roundw
      case rel => exact ⟨k + 1, by omega, by go_num, below_drewN HB.out _⟩
      case measure => simp [intOf]; omega
    · have HK6 := HK5
      clear HK5
      go_wp2_with fail
      clear p0 p1 p2 p3 q0 q1 q2 q3
      refine ((unhide HNR) _ HK6.out.now.1.1.1.1.1.1.2).mono ?_
      rintro e w5 ⟨A5, n5, c5, rfl, hn5, hI5, _, hE5⟩
      rw [HNE.out]
      rw [HNA.out] at hn5 hI5
      have HN5 := hide hn5
      have HK7 := hide ((HK6.out.move hE5).and (Keeps.ints hI5))
      clear HK6 hE5 hI5 hn5
      go_wp2_with fail
      have hn8 : n5 ≤ 8 := by have h1 := nearList_len ls x y cw ch; have h2 := (lampsErr_zero HZ'.out).1; have h3 := HN5.out; omega
      obtain ⟨i0, hi0, hz0, hz1, hz2⟩ := info_parts Try.info59
      have HI0 := hide hi0
      have HZ0 := hide hz0
      have HZ1 := hide hz1
      have HZ2 := hide hz2
      clear hi0 hz0 hz1 hz2
      go_loopw [26, 27] (fun ss ii wr => ∃ (k : Nat) (A' : Option Addr) (d' : Nat), k ≤ n5 ∧ ii = .int .i64 k ∧ ss = .slice A' k d' ∧ Own wr w5.heap.size 59 4 A' k d' ((pickL ls ((nearList ls x y cw ch).take k)).flatMap lampCells) ∧ Below w5.heap.size w5 wr) (fun _ ii _ => n5 - (intOf ii).toNat)
      case atStart => exact ⟨0, none, 0, Nat.zero_le _, rfl, rfl, Own.nil _ _ _ _, Below.refl _ _⟩
      case round =>
        obtain ⟨k, A', d', hk', rfl, rfl, hO, hB'⟩ := hrel
        have HO := hide hO
        have HB' := hide hB'
        have HK8 := hide (HK7.out.move hB')
        have hbs := hB'.size
        clear hO hB'
        by_cases hkn : k < n5
        · have hk0' : (0 : Int) ≤ (k : Int) := by omega
          have hk1' : (k : Int) < (n5 : Int) := by omega
          obtain ⟨b3, o3, i, rfl, hb3, hi, d3⟩ := HK8.out.now.2.at_ k (by have := HN5.out; omega)
          obtain ⟨i, rfl, hil⟩ := nearList_mem (List.mem_of_getElem? hi)
          obtain ⟨b4, o4, l, rfl, hb4, hll, f0, f1, f2, f3⟩ := HK8.out.now.1.1.1.1.1.1.1.2.at_ i hil
          have hil' : (i : Int) < (m : Int) := by have := HM.out; omega
          have hi0' : (0 : Int) ≤ (i : Int) := by omega
          have HT := hide (pick_take hi hll)
          clear hi hll hil
          have hi0 := HI0.out
          have hz0 := HZ0.out
          have hz1 := HZ1.out
          have hz2 := HZ2.out
          have hk8 : k ≤ 1073741824 := by omega
          go_wp2_with (at_builtin; refine wpList_app1 wr rfl _ _ 45 rfl w5.heap.size 59 i0 _ 4 32 Try.underlying45 hi0 hz0 hz1 hz2 rfl (by omega) A' k d' _ (lampCells l) rfl HO.out rfl rfl (lamp_one l) hk8 (by omega) hbs ?_; intro A9 c9 w9 hown9 hg9)
          go_roundw
          case rel => exact ⟨k + 1, A9, c9, by omega, by go_num, rfl, by rw [HT.out, List.flatMap_append]; simpa using hown9, Below.grownOwn (HB'.out.alloc HB'.out.size _) (HO.out.alloc _) hg9 (Nat.le_trans hbs (by simp)) (Nat.le_refl _)⟩
          case measure => simp [intOf]; omega
        · obtain rfl : k = n5 := by omega
          have HLS : Hid (Keeps wr (fun W' => Lamps W' A' (pickL ls (nearList ls x y cw ch)))) := hide (Keeps.lamps (by have := cells_lamps HO.out.cells; rw [List.take_of_length_le (by have := HN5.out; omega)] at this; exact this))
          have HPL : Hid ((pickL ls (nearList ls x y cw ch)).length = k) := hide (by unfold pickL; rw [List.length_map]; exact HN5.out)
          have HK9 := hide (HK8.out.and HLS.out)
          clear HK8 HLS HO HB'
          go_wp2_with fail
          all_goals try (exfalso; omega)
          all_goals
            refine (choose_ref _ _ _ (by omega) (by omega) (by omega)).mono ?_
            rintro e w6 ⟨u, hu, rfl, he6⟩
            subst he6
            obtain ⟨hu0, hu1⟩ := hu
            go_wp2_with fail
            all_goals try (exfalso; omega)
            all_goals
              refine (choose_ref _ _ _ (tdiv_bd hat) (by omega) (by omega)).mono ?_
              rintro e w6 ⟨v, hv, rfl, he6⟩
              subst he6
              obtain ⟨hv0, hv1⟩ := hv
              have hin : Inside (x + u) (y + v) := ⟨by omega, by omega⟩
              have HPE := hide (pick_fine HZ'.out (by have := HN5.out; omega) fun i hi => nearList_mem (x := x) (y := y) (cw := cw) (ch := ch) hi)
              have hA1 := at_in HZ'.out hin
              have hA2 := at_in HPE.out hin
              rw [pick_at, nearList_sum hw0 hh0 (by omega) (by omega)] at hA2
              have HA1' := hide hA1
              have HA2' := hide hA2
              clear hA1 hA2 hin
              go_wp2_with fail
              refine ((unhide HAT) _ _ _ HK9.out.now.1.1.1.1.1.1.1.1.2).mono ?_
              rw [HA1'.out.1, HA1'.out.2]
              rintro e w6 ⟨rfl, hE6⟩
              have HK10 := hide (HK9.out.move hE6)
              clear HK9 hE6
              go_wp2_with fail
              refine (lampAt_any A' k d' (pickL ls (nearList ls x y cw ch)) _ _ _ HPL.out HK10.out.now.2 (by omega)).mono ?_
              rw [HA2'.out.1, HA2'.out.2]
              rintro e w7 ⟨rfl, hE7⟩
              have HK11 := hide (HK10.out.move hE7)
              clear HK10 hE7
              go_wp2_with fail
              refine (lightBegun_any _).mono ?_
              rintro e w8 ⟨rfl, hE8⟩
              go_wp2_with fail
              go_ret
              exact ⟨by simp, (HK11.out.now.1.1.1.1.1.1.1.2).trans (hE8.mono (HK11.out.now.1.1.1.1.1.1.1.2).size)⟩

set_option maxRecDepth 100000 in
set_option maxHeartbeats 4000000 in
theorem tiles_yn (W H : Int) (A : Option Addr) (n c : Nat) (P : List Int) (B : Option Addr) (m d : Nat) (ls : List Lamp) (one two x y cw ch at' : Int) (w : World) (hn : P.length = n) (hI : Ints w A P) (hl : n ≤ 9223372036854775807) (hm : ls.length = m) (hL : Lamps w B ls) (hl2 : m ≤ 9223372036854775807) (_hat : -9223372036854775808 ≤ at' ∧ at' ≤ 9223372036854775807) (hb1 : litErr ⟨W, H, P⟩ ls one = 0) (hb2 : litErr ⟨W, H, P⟩ ls two = 0) (hnr : lampNearErr ls x y cw ch ≠ 0) :
    Calls Try.prog 9 #[.agg #[.int .i64 W, .int .i64 H, .slice A n c], .slice B m d, .int .i64 one, .int .i64 two, .int .i64 x, .int .i64 y, .int .i64 cw, .int .i64 ch, .int .i64 at'] w (SaysTrue w) := by
  have HLI := hide (fun (t : Int) (W0 : World) (h1 : Ints W0 A P) (h2 : Lamps W0 B ls) => lit_any W H A n c P B m d ls t W0 hn h1 hl hm h2 hl2)
  have HLN := hide (fun (W1 H1 : Int) (P1 : List Int) (t : Int) (h : Img.mk W1 H1 P1 = litAns ⟨W, H, P⟩ ls t) => litAns_len h)
  have HNR := hide (fun (W0 : World) (h : Lamps W0 B ls) => lampNear_any B m d ls x y cw ch W0 hm h hl2)
  have HAT := hide (fun (u v : Int) (W0 : World) (h : Lamps W0 B ls) => lampAt_any B m d ls u v W0 hm h hl2)
  obtain ⟨hF, hz, ha1⟩ := litErr_zero hb1
  have ha2 := (litErr_zero hb2).2.2
  have HA1 := hide ha1
  have HA2 := hide ha2
  have HB1 := hide hb1
  have HB2 := hide hb2
  have HF := hide hF
  have HZ := hide hz
  clear hF hz ha1 ha2 hb1 hb2
  generalize lampNearErr ls x y cw ch = en at *
  have hen : (en != 0) = true := by simpa using hnr
  clear hnr
  have HN := hide hn
  have HM := hide hm
  have HK0 := hide (((Keeps.ints hI).and (Keeps.lamps hL)).and (Keeps.below (Below.refl w.heap.size w)))
  clear hn hI hm hL
  go_enter Try.func9, Try.ntmps9
  go_wp2_with fail
  have HK1 := hide ((HK0.out.alloc (.cells #[.int .i64 W, .int .i64 H, .slice A n c] 24)).and (Keeps.blk (Blk.new w 24 [.int .i64 W, .int .i64 H, .slice A n c])))
  clear HK0
  refine ((unhide HLI) one _ HK1.out.now.1.1.1 HK1.out.now.1.1.2).mono ?_
  rintro e w1 ⟨W1, H1, P1, A1, n1, c1, hr1, hn1, rfl, hI1, hA1, hE1⟩
  rw [HB1.out]
  rw [HA1.out] at hr1
  have HN1 := hide hn1
  have HR1 := hide hr1
  have HK2 := hide ((((HK1.out.move hE1).and (Keeps.ints hI1)).alloc (.cells #[.int .i64 W1, .int .i64 H1, .slice A1 n1 c1] 24)).and (Keeps.blk (Blk.new w1 24 [.int .i64 W1, .int .i64 H1, .slice A1 n1 c1])))
  clear HK1 hE1 hI1 hA1 hn1 hr1
  obtain ⟨p0, p1, p2, p3⟩ := ImgBox.cells HK2.out.now.1.1.2
  go_wp2_with fail
  refine ((unhide HLI) two _ HK2.out.now.1.1.1.1.1 HK2.out.now.1.1.1.1.2).mono ?_
  rintro e w2 ⟨W2, H2, P2, A2, n2, c2, hr2, hn2, rfl, hI2, hA2, hE2⟩
  rw [HB2.out]
  rw [HA2.out] at hr2
  have HN2 := hide hn2
  have HR2 := hide hr2
  have HK3 := hide ((((HK2.out.move hE2).and (Keeps.ints hI2)).alloc (.cells #[.int .i64 W2, .int .i64 H2, .slice A2 n2 c2] 24)).and (Keeps.blk (Blk.new w2 24 [.int .i64 W2, .int .i64 H2, .slice A2 n2 c2])))
  clear HK2 hE2 hI2 hA2 hn2 hr2 p0 p1 p2 p3
  obtain ⟨p0, p1, p2, p3⟩ := ImgBox.cells HK3.out.now.1.1.1.1.2
  obtain ⟨q0, q1, q2, q3⟩ := ImgBox.cells HK3.out.now.1.1.2
  obtain ⟨r0, r1, r2, r3⟩ := ImgBox.cells HK3.out.now.2
  go_wp2_with fail
  refine (sameImg_true W1 H1 W2 H2 A1 A2 n1 c1 n2 c2 P1 P2 _ (HR1.out.trans HR2.out.symm) HN1.out HN2.out HK3.out.now.1.1.1.2 HK3.out.now.1.2 (by have := HLN.out W1 H1 P1 one (HR1.out.trans HA1.out.symm); have := HN1.out; omega)).mono ?_
  rintro e w3 ⟨rfl, hE3⟩
  have HK4 := hide (HK3.out.move hE3)
  clear HK3 hE3 p0 p1 p2 p3 q0 q1 q2 q3 r0 r1 r2 r3
  have hP1 : P1 = (litImg ⟨W, H, P⟩ ls).P := congrArg Img.P HR1.out
  obtain rfl : n1 = n := by have h1 := HN1.out; have h2 := HN.out; have h3 := litImg_len (ls := ls) HF.out; simp only at h3; rw [hP1] at h1; omega
  have HP1 := hide hP1
  clear hP1
  have hnn : ((n1 : Int) != (n1 : Int)) = false := by simp
  obtain ⟨p0, p1, p2, p3⟩ := ImgBox.cells HK4.out.now.1.1.1.1.2
  obtain ⟨q0, q1, q2, q3⟩ := ImgBox.cells HK4.out.now.1.1.2
  go_wp2_with fail
  go_loopw [23] (fun ii wr => ∃ k : Nat, k ≤ n1 ∧ ii = .int .i64 k ∧ Below w3.heap.size w3 wr) (fun ii _ => n1 - (intOf ii).toNat)
  case atStart => exact ⟨0, Nat.zero_le _, rfl, Below.refl _ _⟩
  case round =>
    obtain ⟨k, hk, rfl, hB⟩ := hrel
    have HB := hide hB
    have HK5 := hide (HK4.out.move hB)
    clear hB p0 p1 p2 p3 q0 q1 q2 q3
    obtain ⟨p0, p1, p2, p3⟩ := ImgBox.cells HK5.out.now.1.1.1.1.2
    obtain ⟨q0, q1, q2, q3⟩ := ImgBox.cells HK5.out.now.1.1.2
    by_cases hkl : k < n1
    · have hk0 : (0 : Int) ≤ (k : Int) := by omega
      have hk1 : (k : Int) < (n1 : Int) := by omega
      obtain ⟨b1, o1, v1, rfl, hb1, hv1, d1⟩ := HK5.out.now.1.1.1.2.at_ k (by have := HN1.out; omega)
      obtain ⟨b2, o2, v2, rfl, hb2, hv2, d2⟩ := HK5.out.now.1.1.1.1.1.1.1.at_ k (by have := HN.out; omega)
      rw [HP1.out] at hv1
      have hge : ¬ v1 < v2 := by have := lit_ge HF.out HZ.out hv1 hv2; omega
      clear hv1 hv2
      go_wp2_with fail
      go_quiet (fail)
      go_wp2_with fail
      go_roundw
      case rel => exact ⟨k + 1, by omega, by go_num, below_drewN HB.out _⟩
      case measure => simp [intOf]; omega
    · have HK6 := HK5
      clear HK5
      go_wp2_with fail
      clear p0 p1 p2 p3 q0 q1 q2 q3
      refine ((unhide HNR) _ HK6.out.now.1.1.1.1.1.1.2).mono ?_
      rintro e w5 ⟨A5, n5, c5, rfl, hn5, hI5, _, hE5⟩
      have HN5 := hide hn5
      have HK7 := hide ((HK6.out.move hE5).and (Keeps.ints hI5))
      clear HK6 hE5 hI5 hn5
      go_wp2_with fail
      refine (lightBegun_any _).mono ?_
      rintro e w6 ⟨rfl, hE6⟩
      go_wp2_with fail
      go_ret
      exact ⟨rfl, (HK7.out.now.1.1.1.1.1.1.2).trans (hE6.mono (HK7.out.now.1.1.1.1.1.1.2).size)⟩

set_option maxRecDepth 100000 in
set_option maxHeartbeats 4000000 in
theorem tiles_ny (W H : Int) (A : Option Addr) (n c : Nat) (P : List Int) (B : Option Addr) (m d : Nat) (ls : List Lamp) (one two x y cw ch at' : Int) (w : World) (hn : P.length = n) (hI : Ints w A P) (hl : n ≤ 9223372036854775807) (hm : ls.length = m) (hL : Lamps w B ls) (hl2 : m ≤ 9223372036854775807) (hat : -9223372036854775808 ≤ at' ∧ at' ≤ 9223372036854775807) (hbo : litErr ⟨W, H, P⟩ ls one ≠ 0 ∨ (litErr ⟨W, H, P⟩ ls one = 0 ∧ litErr ⟨W, H, P⟩ ls two ≠ 0)) (hnr : lampNearErr ls x y cw ch = 0) :
    Calls Try.prog 9 #[.agg #[.int .i64 W, .int .i64 H, .slice A n c], .slice B m d, .int .i64 one, .int .i64 two, .int .i64 x, .int .i64 y, .int .i64 cw, .int .i64 ch, .int .i64 at'] w (SaysTrue w) := by
  have HLI := hide (fun (t : Int) (W0 : World) (h1 : Ints W0 A P) (h2 : Lamps W0 B ls) => lit_any W H A n c P B m d ls t W0 hn h1 hl hm h2 hl2)
  have HLN := hide (fun (W1 H1 : Int) (P1 : List Int) (t : Int) (h : Img.mk W1 H1 P1 = litAns ⟨W, H, P⟩ ls t) => litAns_len h)
  have HNR := hide (fun (W0 : World) (h : Lamps W0 B ls) => lampNear_any B m d ls x y cw ch W0 hm h hl2)
  have HAT := hide (fun (u v : Int) (W0 : World) (h : Lamps W0 B ls) => lampAt_any B m d ls u v W0 hm h hl2)
  have HLI1 := hide (unhide HLI one)
  have HLI2 := hide (unhide HLI two)
  have HLN1 := hide (fun W1 H1 P1 => HLN.out W1 H1 P1 one)
  have HLN2 := hide (fun W1 H1 P1 => HLN.out W1 H1 P1 two)
  generalize litErr ⟨W, H, P⟩ ls one = e1 at *
  generalize litErr ⟨W, H, P⟩ ls two = e2 at *
  obtain ⟨hz', ⟨⟨hx0, hx1⟩, ⟨hy0, hy1⟩⟩, ⟨hw0, hw1⟩, ⟨hh0, hh1⟩⟩ := near_in hnr
  have HNE := hide hnr
  have HNA : Hid (lampNearAns ls x y cw ch = nearList ls x y cw ch) := hide (if_pos hnr)
  have HZ' := hide hz'
  clear hnr hz'
  have HN := hide hn
  have HM := hide hm
  have HK0 := hide (((Keeps.ints hI).and (Keeps.lamps hL)).and (Keeps.below (Below.refl w.heap.size w)))
  clear hn hI hm hL
  rcases hbo with hb | ⟨hb, hb2⟩
  · have hb1 : (e1 == 0) = false := by simpa using hb
    clear hb
    go_enter Try.func9, Try.ntmps9
    go_wp2_with fail
    have HK1 := hide ((HK0.out.alloc (.cells #[.int .i64 W, .int .i64 H, .slice A n c] 24)).and (Keeps.blk (Blk.new w 24 [.int .i64 W, .int .i64 H, .slice A n c])))
    clear HK0
    refine ((unhide HLI1) _ HK1.out.now.1.1.1 HK1.out.now.1.1.2).mono ?_
    rintro e w1 ⟨W1, H1, P1, A1, n1, c1, hr1, hn1, rfl, hI1, hA1, hE1⟩
    have HN1 := hide hn1
    have HR1 := hide hr1
    have HK2 := hide ((((HK1.out.move hE1).and (Keeps.ints hI1)).alloc (.cells #[.int .i64 W1, .int .i64 H1, .slice A1 n1 c1] 24)).and (Keeps.blk (Blk.new w1 24 [.int .i64 W1, .int .i64 H1, .slice A1 n1 c1])))
    clear HK1 hE1 hI1 hA1 hn1 hr1
    obtain ⟨p0, p1, p2, p3⟩ := ImgBox.cells HK2.out.now.1.1.2
    go_wp2_with fail
    refine ((unhide HLI2) _ HK2.out.now.1.1.1.1.1 HK2.out.now.1.1.1.1.2).mono ?_
    rintro e w2 ⟨W2, H2, P2, A2, n2, c2, hr2, hn2, rfl, hI2, hA2, hE2⟩
    have HN2 := hide hn2
    have HR2 := hide hr2
    have HK3 := hide ((((HK2.out.move hE2).and (Keeps.ints hI2)).alloc (.cells #[.int .i64 W2, .int .i64 H2, .slice A2 n2 c2] 24)).and (Keeps.blk (Blk.new w2 24 [.int .i64 W2, .int .i64 H2, .slice A2 n2 c2])))
    clear HK2 hE2 hI2 hA2 hn2 hr2 p0 p1 p2 p3
    obtain ⟨p0, p1, p2, p3⟩ := ImgBox.cells HK3.out.now.1.1.1.1.2
    obtain ⟨q0, q1, q2, q3⟩ := ImgBox.cells HK3.out.now.1.1.2
    obtain ⟨r0, r1, r2, r3⟩ := ImgBox.cells HK3.out.now.2
    go_wp2_with fail
    have HK6 := HK3
    clear HK3 p0 p1 p2 p3 q0 q1 q2 q3 r0 r1 r2 r3
    skip
    refine ((unhide HNR) _ HK6.out.now.1.1.1.1.1.1.2).mono ?_
    rintro e w5 ⟨A5, n5, c5, rfl, hn5, hI5, _, hE5⟩
    rw [HNE.out]
    rw [HNA.out] at hn5 hI5
    have HN5 := hide hn5
    have HK7 := hide ((HK6.out.move hE5).and (Keeps.ints hI5))
    clear HK6 hE5 hI5 hn5
    go_wp2_with fail
    have hn8 : n5 ≤ 8 := by have h1 := nearList_len ls x y cw ch; have h2 := (lampsErr_zero HZ'.out).1; have h3 := HN5.out; omega
    obtain ⟨i0, hi0, hz0, hz1, hz2⟩ := info_parts Try.info59
    have HI0 := hide hi0
    have HZ0 := hide hz0
    have HZ1 := hide hz1
    have HZ2 := hide hz2
    clear hi0 hz0 hz1 hz2
    go_loopw [26, 27] (fun ss ii wr => ∃ (k : Nat) (A' : Option Addr) (d' : Nat), k ≤ n5 ∧ ii = .int .i64 k ∧ ss = .slice A' k d' ∧ Own wr w5.heap.size 59 4 A' k d' ((pickL ls ((nearList ls x y cw ch).take k)).flatMap lampCells) ∧ Below w5.heap.size w5 wr) (fun _ ii _ => n5 - (intOf ii).toNat)
    case atStart => exact ⟨0, none, 0, Nat.zero_le _, rfl, rfl, Own.nil _ _ _ _, Below.refl _ _⟩
    case round =>
      obtain ⟨k, A', d', hk', rfl, rfl, hO, hB'⟩ := hrel
      have HO := hide hO
      have HB' := hide hB'
      have HK8 := hide (HK7.out.move hB')
      have hbs := hB'.size
      clear hO hB'
      by_cases hkn : k < n5
      · have hk0' : (0 : Int) ≤ (k : Int) := by omega
        have hk1' : (k : Int) < (n5 : Int) := by omega
        obtain ⟨b3, o3, i, rfl, hb3, hi, d3⟩ := HK8.out.now.2.at_ k (by have := HN5.out; omega)
        obtain ⟨i, rfl, hil⟩ := nearList_mem (List.mem_of_getElem? hi)
        obtain ⟨b4, o4, l, rfl, hb4, hll, f0, f1, f2, f3⟩ := HK8.out.now.1.1.1.1.1.1.1.2.at_ i hil
        have hil' : (i : Int) < (m : Int) := by have := HM.out; omega
        have hi0' : (0 : Int) ≤ (i : Int) := by omega
        have HT := hide (pick_take hi hll)
        clear hi hll hil
        have hi0 := HI0.out
        have hz0 := HZ0.out
        have hz1 := HZ1.out
        have hz2 := HZ2.out
        have hk8 : k ≤ 1073741824 := by omega
        go_wp2_with (at_builtin; refine wpList_app1 wr rfl _ _ 45 rfl w5.heap.size 59 i0 _ 4 32 Try.underlying45 hi0 hz0 hz1 hz2 rfl (by omega) A' k d' _ (lampCells l) rfl HO.out rfl rfl (lamp_one l) hk8 (by omega) hbs ?_; intro A9 c9 w9 hown9 hg9)
        go_roundw
        case rel => exact ⟨k + 1, A9, c9, by omega, by go_num, rfl, by rw [HT.out, List.flatMap_append]; simpa using hown9, Below.grownOwn (HB'.out.alloc HB'.out.size _) (HO.out.alloc _) hg9 (Nat.le_trans hbs (by simp)) (Nat.le_refl _)⟩
        case measure => simp [intOf]; omega
      · obtain rfl : k = n5 := by omega
        have HLS : Hid (Keeps wr (fun W' => Lamps W' A' (pickL ls (nearList ls x y cw ch)))) := hide (Keeps.lamps (by have := cells_lamps HO.out.cells; rw [List.take_of_length_le (by have := HN5.out; omega)] at this; exact this))
        have HPL : Hid ((pickL ls (nearList ls x y cw ch)).length = k) := hide (by unfold pickL; rw [List.length_map]; exact HN5.out)
        have HK9 := hide (HK8.out.and HLS.out)
        clear HK8 HLS HO HB'
        go_wp2_with fail
        all_goals try (exfalso; omega)
        all_goals
          refine (choose_ref _ _ _ (by omega) (by omega) (by omega)).mono ?_
          rintro e w6 ⟨u, hu, rfl, he6⟩
          subst he6
          obtain ⟨hu0, hu1⟩ := hu
          go_wp2_with fail
          all_goals try (exfalso; omega)
          all_goals
            refine (choose_ref _ _ _ (tdiv_bd hat) (by omega) (by omega)).mono ?_
            rintro e w6 ⟨v, hv, rfl, he6⟩
            subst he6
            obtain ⟨hv0, hv1⟩ := hv
            have hin : Inside (x + u) (y + v) := ⟨by omega, by omega⟩
            have HPE := hide (pick_fine HZ'.out (by have := HN5.out; omega) fun i hi => nearList_mem (x := x) (y := y) (cw := cw) (ch := ch) hi)
            have hA1 := at_in HZ'.out hin
            have hA2 := at_in HPE.out hin
            rw [pick_at, nearList_sum hw0 hh0 (by omega) (by omega)] at hA2
            have HA1' := hide hA1
            have HA2' := hide hA2
            clear hA1 hA2 hin
            go_wp2_with fail
            refine ((unhide HAT) _ _ _ HK9.out.now.1.1.1.1.1.1.1.1.2).mono ?_
            rw [HA1'.out.1, HA1'.out.2]
            rintro e w6 ⟨rfl, hE6⟩
            have HK10 := hide (HK9.out.move hE6)
            clear HK9 hE6
            go_wp2_with fail
            refine (lampAt_any A' k d' (pickL ls (nearList ls x y cw ch)) _ _ _ HPL.out HK10.out.now.2 (by omega)).mono ?_
            rw [HA2'.out.1, HA2'.out.2]
            rintro e w7 ⟨rfl, hE7⟩
            have HK11 := hide (HK10.out.move hE7)
            clear HK10 hE7
            go_wp2_with fail
            refine (lightBegun_any _).mono ?_
            rintro e w8 ⟨rfl, hE8⟩
            go_wp2_with fail
            go_ret
            exact ⟨by simp, (HK11.out.now.1.1.1.1.1.1.1.2).trans (hE8.mono (HK11.out.now.1.1.1.1.1.1.1.2).size)⟩
  · obtain rfl : e1 = 0 := hb
    have hb1 : (e2 == 0) = false := by simpa using hb2
    clear hb2
    go_enter Try.func9, Try.ntmps9
    go_wp2_with fail
    have HK1 := hide ((HK0.out.alloc (.cells #[.int .i64 W, .int .i64 H, .slice A n c] 24)).and (Keeps.blk (Blk.new w 24 [.int .i64 W, .int .i64 H, .slice A n c])))
    clear HK0
    refine ((unhide HLI1) _ HK1.out.now.1.1.1 HK1.out.now.1.1.2).mono ?_
    rintro e w1 ⟨W1, H1, P1, A1, n1, c1, hr1, hn1, rfl, hI1, hA1, hE1⟩
    have HN1 := hide hn1
    have HR1 := hide hr1
    have HK2 := hide ((((HK1.out.move hE1).and (Keeps.ints hI1)).alloc (.cells #[.int .i64 W1, .int .i64 H1, .slice A1 n1 c1] 24)).and (Keeps.blk (Blk.new w1 24 [.int .i64 W1, .int .i64 H1, .slice A1 n1 c1])))
    clear HK1 hE1 hI1 hA1 hn1 hr1
    obtain ⟨p0, p1, p2, p3⟩ := ImgBox.cells HK2.out.now.1.1.2
    go_wp2_with fail
    refine ((unhide HLI2) _ HK2.out.now.1.1.1.1.1 HK2.out.now.1.1.1.1.2).mono ?_
    rintro e w2 ⟨W2, H2, P2, A2, n2, c2, hr2, hn2, rfl, hI2, hA2, hE2⟩
    have HN2 := hide hn2
    have HR2 := hide hr2
    have HK3 := hide ((((HK2.out.move hE2).and (Keeps.ints hI2)).alloc (.cells #[.int .i64 W2, .int .i64 H2, .slice A2 n2 c2] 24)).and (Keeps.blk (Blk.new w2 24 [.int .i64 W2, .int .i64 H2, .slice A2 n2 c2])))
    clear HK2 hE2 hI2 hA2 hn2 hr2 p0 p1 p2 p3
    obtain ⟨p0, p1, p2, p3⟩ := ImgBox.cells HK3.out.now.1.1.1.1.2
    obtain ⟨q0, q1, q2, q3⟩ := ImgBox.cells HK3.out.now.1.1.2
    obtain ⟨r0, r1, r2, r3⟩ := ImgBox.cells HK3.out.now.2
    go_wp2_with fail
    have HK6 := HK3
    clear HK3 p0 p1 p2 p3 q0 q1 q2 q3 r0 r1 r2 r3
    skip
    refine ((unhide HNR) _ HK6.out.now.1.1.1.1.1.1.2).mono ?_
    rintro e w5 ⟨A5, n5, c5, rfl, hn5, hI5, _, hE5⟩
    rw [HNE.out]
    rw [HNA.out] at hn5 hI5
    have HN5 := hide hn5
    have HK7 := hide ((HK6.out.move hE5).and (Keeps.ints hI5))
    clear HK6 hE5 hI5 hn5
    go_wp2_with fail
    have hn8 : n5 ≤ 8 := by have h1 := nearList_len ls x y cw ch; have h2 := (lampsErr_zero HZ'.out).1; have h3 := HN5.out; omega
    obtain ⟨i0, hi0, hz0, hz1, hz2⟩ := info_parts Try.info59
    have HI0 := hide hi0
    have HZ0 := hide hz0
    have HZ1 := hide hz1
    have HZ2 := hide hz2
    clear hi0 hz0 hz1 hz2
    go_loopw [26, 27] (fun ss ii wr => ∃ (k : Nat) (A' : Option Addr) (d' : Nat), k ≤ n5 ∧ ii = .int .i64 k ∧ ss = .slice A' k d' ∧ Own wr w5.heap.size 59 4 A' k d' ((pickL ls ((nearList ls x y cw ch).take k)).flatMap lampCells) ∧ Below w5.heap.size w5 wr) (fun _ ii _ => n5 - (intOf ii).toNat)
    case atStart => exact ⟨0, none, 0, Nat.zero_le _, rfl, rfl, Own.nil _ _ _ _, Below.refl _ _⟩
    case round =>
      obtain ⟨k, A', d', hk', rfl, rfl, hO, hB'⟩ := hrel
      have HO := hide hO
      have HB' := hide hB'
      have HK8 := hide (HK7.out.move hB')
      have hbs := hB'.size
      clear hO hB'
      by_cases hkn : k < n5
      · have hk0' : (0 : Int) ≤ (k : Int) := by omega
        have hk1' : (k : Int) < (n5 : Int) := by omega
        obtain ⟨b3, o3, i, rfl, hb3, hi, d3⟩ := HK8.out.now.2.at_ k (by have := HN5.out; omega)
        obtain ⟨i, rfl, hil⟩ := nearList_mem (List.mem_of_getElem? hi)
        obtain ⟨b4, o4, l, rfl, hb4, hll, f0, f1, f2, f3⟩ := HK8.out.now.1.1.1.1.1.1.1.2.at_ i hil
        have hil' : (i : Int) < (m : Int) := by have := HM.out; omega
        have hi0' : (0 : Int) ≤ (i : Int) := by omega
        have HT := hide (pick_take hi hll)
        clear hi hll hil
        have hi0 := HI0.out
        have hz0 := HZ0.out
        have hz1 := HZ1.out
        have hz2 := HZ2.out
        have hk8 : k ≤ 1073741824 := by omega
        go_wp2_with (at_builtin; refine wpList_app1 wr rfl _ _ 45 rfl w5.heap.size 59 i0 _ 4 32 Try.underlying45 hi0 hz0 hz1 hz2 rfl (by omega) A' k d' _ (lampCells l) rfl HO.out rfl rfl (lamp_one l) hk8 (by omega) hbs ?_; intro A9 c9 w9 hown9 hg9)
        go_roundw
        case rel => exact ⟨k + 1, A9, c9, by omega, by go_num, rfl, by rw [HT.out, List.flatMap_append]; simpa using hown9, Below.grownOwn (HB'.out.alloc HB'.out.size _) (HO.out.alloc _) hg9 (Nat.le_trans hbs (by simp)) (Nat.le_refl _)⟩
        case measure => simp [intOf]; omega
      · obtain rfl : k = n5 := by omega
        have HLS : Hid (Keeps wr (fun W' => Lamps W' A' (pickL ls (nearList ls x y cw ch)))) := hide (Keeps.lamps (by have := cells_lamps HO.out.cells; rw [List.take_of_length_le (by have := HN5.out; omega)] at this; exact this))
        have HPL : Hid ((pickL ls (nearList ls x y cw ch)).length = k) := hide (by unfold pickL; rw [List.length_map]; exact HN5.out)
        have HK9 := hide (HK8.out.and HLS.out)
        clear HK8 HLS HO HB'
        go_wp2_with fail
        all_goals try (exfalso; omega)
        all_goals
          refine (choose_ref _ _ _ (by omega) (by omega) (by omega)).mono ?_
          rintro e w6 ⟨u, hu, rfl, he6⟩
          subst he6
          obtain ⟨hu0, hu1⟩ := hu
          go_wp2_with fail
          all_goals try (exfalso; omega)
          all_goals
            refine (choose_ref _ _ _ (tdiv_bd hat) (by omega) (by omega)).mono ?_
            rintro e w6 ⟨v, hv, rfl, he6⟩
            subst he6
            obtain ⟨hv0, hv1⟩ := hv
            have hin : Inside (x + u) (y + v) := ⟨by omega, by omega⟩
            have HPE := hide (pick_fine HZ'.out (by have := HN5.out; omega) fun i hi => nearList_mem (x := x) (y := y) (cw := cw) (ch := ch) hi)
            have hA1 := at_in HZ'.out hin
            have hA2 := at_in HPE.out hin
            rw [pick_at, nearList_sum hw0 hh0 (by omega) (by omega)] at hA2
            have HA1' := hide hA1
            have HA2' := hide hA2
            clear hA1 hA2 hin
            go_wp2_with fail
            refine ((unhide HAT) _ _ _ HK9.out.now.1.1.1.1.1.1.1.1.2).mono ?_
            rw [HA1'.out.1, HA1'.out.2]
            rintro e w6 ⟨rfl, hE6⟩
            have HK10 := hide (HK9.out.move hE6)
            clear HK9 hE6
            go_wp2_with fail
            refine (lampAt_any A' k d' (pickL ls (nearList ls x y cw ch)) _ _ _ HPL.out HK10.out.now.2 (by omega)).mono ?_
            rw [HA2'.out.1, HA2'.out.2]
            rintro e w7 ⟨rfl, hE7⟩
            have HK11 := hide (HK10.out.move hE7)
            clear HK10 hE7
            go_wp2_with fail
            refine (lightBegun_any _).mono ?_
            rintro e w8 ⟨rfl, hE8⟩
            go_wp2_with fail
            go_ret
            exact ⟨by simp, (HK11.out.now.1.1.1.1.1.1.1.2).trans (hE8.mono (HK11.out.now.1.1.1.1.1.1.1.2).size)⟩

set_option maxRecDepth 100000 in
set_option maxHeartbeats 4000000 in
theorem tiles_nn (W H : Int) (A : Option Addr) (n c : Nat) (P : List Int) (B : Option Addr) (m d : Nat) (ls : List Lamp) (one two x y cw ch at' : Int) (w : World) (hn : P.length = n) (hI : Ints w A P) (hl : n ≤ 9223372036854775807) (hm : ls.length = m) (hL : Lamps w B ls) (hl2 : m ≤ 9223372036854775807) (_hat : -9223372036854775808 ≤ at' ∧ at' ≤ 9223372036854775807) (hbo : litErr ⟨W, H, P⟩ ls one ≠ 0 ∨ (litErr ⟨W, H, P⟩ ls one = 0 ∧ litErr ⟨W, H, P⟩ ls two ≠ 0)) (hnr : lampNearErr ls x y cw ch ≠ 0) :
    Calls Try.prog 9 #[.agg #[.int .i64 W, .int .i64 H, .slice A n c], .slice B m d, .int .i64 one, .int .i64 two, .int .i64 x, .int .i64 y, .int .i64 cw, .int .i64 ch, .int .i64 at'] w (SaysTrue w) := by
  have HLI := hide (fun (t : Int) (W0 : World) (h1 : Ints W0 A P) (h2 : Lamps W0 B ls) => lit_any W H A n c P B m d ls t W0 hn h1 hl hm h2 hl2)
  have HLN := hide (fun (W1 H1 : Int) (P1 : List Int) (t : Int) (h : Img.mk W1 H1 P1 = litAns ⟨W, H, P⟩ ls t) => litAns_len h)
  have HNR := hide (fun (W0 : World) (h : Lamps W0 B ls) => lampNear_any B m d ls x y cw ch W0 hm h hl2)
  have HAT := hide (fun (u v : Int) (W0 : World) (h : Lamps W0 B ls) => lampAt_any B m d ls u v W0 hm h hl2)
  have HLI1 := hide (unhide HLI one)
  have HLI2 := hide (unhide HLI two)
  have HLN1 := hide (fun W1 H1 P1 => HLN.out W1 H1 P1 one)
  have HLN2 := hide (fun W1 H1 P1 => HLN.out W1 H1 P1 two)
  generalize litErr ⟨W, H, P⟩ ls one = e1 at *
  generalize litErr ⟨W, H, P⟩ ls two = e2 at *
  generalize lampNearErr ls x y cw ch = en at *
  have hen : (en != 0) = true := by simpa using hnr
  clear hnr
  have HN := hide hn
  have HM := hide hm
  have HK0 := hide (((Keeps.ints hI).and (Keeps.lamps hL)).and (Keeps.below (Below.refl w.heap.size w)))
  clear hn hI hm hL
  rcases hbo with hb | ⟨hb, hb2⟩
  · have hb1 : (e1 == 0) = false := by simpa using hb
    clear hb
    go_enter Try.func9, Try.ntmps9
    go_wp2_with fail
    have HK1 := hide ((HK0.out.alloc (.cells #[.int .i64 W, .int .i64 H, .slice A n c] 24)).and (Keeps.blk (Blk.new w 24 [.int .i64 W, .int .i64 H, .slice A n c])))
    clear HK0
    refine ((unhide HLI1) _ HK1.out.now.1.1.1 HK1.out.now.1.1.2).mono ?_
    rintro e w1 ⟨W1, H1, P1, A1, n1, c1, hr1, hn1, rfl, hI1, hA1, hE1⟩
    have HN1 := hide hn1
    have HR1 := hide hr1
    have HK2 := hide ((((HK1.out.move hE1).and (Keeps.ints hI1)).alloc (.cells #[.int .i64 W1, .int .i64 H1, .slice A1 n1 c1] 24)).and (Keeps.blk (Blk.new w1 24 [.int .i64 W1, .int .i64 H1, .slice A1 n1 c1])))
    clear HK1 hE1 hI1 hA1 hn1 hr1
    obtain ⟨p0, p1, p2, p3⟩ := ImgBox.cells HK2.out.now.1.1.2
    go_wp2_with fail
    refine ((unhide HLI2) _ HK2.out.now.1.1.1.1.1 HK2.out.now.1.1.1.1.2).mono ?_
    rintro e w2 ⟨W2, H2, P2, A2, n2, c2, hr2, hn2, rfl, hI2, hA2, hE2⟩
    have HN2 := hide hn2
    have HR2 := hide hr2
    have HK3 := hide ((((HK2.out.move hE2).and (Keeps.ints hI2)).alloc (.cells #[.int .i64 W2, .int .i64 H2, .slice A2 n2 c2] 24)).and (Keeps.blk (Blk.new w2 24 [.int .i64 W2, .int .i64 H2, .slice A2 n2 c2])))
    clear HK2 hE2 hI2 hA2 hn2 hr2 p0 p1 p2 p3
    obtain ⟨p0, p1, p2, p3⟩ := ImgBox.cells HK3.out.now.1.1.1.1.2
    obtain ⟨q0, q1, q2, q3⟩ := ImgBox.cells HK3.out.now.1.1.2
    obtain ⟨r0, r1, r2, r3⟩ := ImgBox.cells HK3.out.now.2
    go_wp2_with fail
    have HK6 := HK3
    clear HK3 p0 p1 p2 p3 q0 q1 q2 q3 r0 r1 r2 r3
    skip
    refine ((unhide HNR) _ HK6.out.now.1.1.1.1.1.1.2).mono ?_
    rintro e w5 ⟨A5, n5, c5, rfl, hn5, hI5, _, hE5⟩
    have HN5 := hide hn5
    have HK7 := hide ((HK6.out.move hE5).and (Keeps.ints hI5))
    clear HK6 hE5 hI5 hn5
    go_wp2_with fail
    refine (lightBegun_any _).mono ?_
    rintro e w6 ⟨rfl, hE6⟩
    go_wp2_with fail
    go_ret
    exact ⟨rfl, (HK7.out.now.1.1.1.1.1.1.2).trans (hE6.mono (HK7.out.now.1.1.1.1.1.1.2).size)⟩
  · obtain rfl : e1 = 0 := hb
    have hb1 : (e2 == 0) = false := by simpa using hb2
    clear hb2
    go_enter Try.func9, Try.ntmps9
    go_wp2_with fail
    have HK1 := hide ((HK0.out.alloc (.cells #[.int .i64 W, .int .i64 H, .slice A n c] 24)).and (Keeps.blk (Blk.new w 24 [.int .i64 W, .int .i64 H, .slice A n c])))
    clear HK0
    refine ((unhide HLI1) _ HK1.out.now.1.1.1 HK1.out.now.1.1.2).mono ?_
    rintro e w1 ⟨W1, H1, P1, A1, n1, c1, hr1, hn1, rfl, hI1, hA1, hE1⟩
    have HN1 := hide hn1
    have HR1 := hide hr1
    have HK2 := hide ((((HK1.out.move hE1).and (Keeps.ints hI1)).alloc (.cells #[.int .i64 W1, .int .i64 H1, .slice A1 n1 c1] 24)).and (Keeps.blk (Blk.new w1 24 [.int .i64 W1, .int .i64 H1, .slice A1 n1 c1])))
    clear HK1 hE1 hI1 hA1 hn1 hr1
    obtain ⟨p0, p1, p2, p3⟩ := ImgBox.cells HK2.out.now.1.1.2
    go_wp2_with fail
    refine ((unhide HLI2) _ HK2.out.now.1.1.1.1.1 HK2.out.now.1.1.1.1.2).mono ?_
    rintro e w2 ⟨W2, H2, P2, A2, n2, c2, hr2, hn2, rfl, hI2, hA2, hE2⟩
    have HN2 := hide hn2
    have HR2 := hide hr2
    have HK3 := hide ((((HK2.out.move hE2).and (Keeps.ints hI2)).alloc (.cells #[.int .i64 W2, .int .i64 H2, .slice A2 n2 c2] 24)).and (Keeps.blk (Blk.new w2 24 [.int .i64 W2, .int .i64 H2, .slice A2 n2 c2])))
    clear HK2 hE2 hI2 hA2 hn2 hr2 p0 p1 p2 p3
    obtain ⟨p0, p1, p2, p3⟩ := ImgBox.cells HK3.out.now.1.1.1.1.2
    obtain ⟨q0, q1, q2, q3⟩ := ImgBox.cells HK3.out.now.1.1.2
    obtain ⟨r0, r1, r2, r3⟩ := ImgBox.cells HK3.out.now.2
    go_wp2_with fail
    have HK6 := HK3
    clear HK3 p0 p1 p2 p3 q0 q1 q2 q3 r0 r1 r2 r3
    skip
    refine ((unhide HNR) _ HK6.out.now.1.1.1.1.1.1.2).mono ?_
    rintro e w5 ⟨A5, n5, c5, rfl, hn5, hI5, _, hE5⟩
    have HN5 := hide hn5
    have HK7 := hide ((HK6.out.move hE5).and (Keeps.ints hI5))
    clear HK6 hE5 hI5 hn5
    go_wp2_with fail
    refine (lightBegun_any _).mono ?_
    rintro e w6 ⟨rfl, hE6⟩
    go_wp2_with fail
    go_ret
    exact ⟨rfl, (HK7.out.now.1.1.1.1.1.1.2).trans (hE6.mono (HK7.out.now.1.1.1.1.1.1.2).size)⟩

theorem lightTiles_any (W H : Int) (A : Option Addr) (n c : Nat) (P : List Int) (B : Option Addr) (m d : Nat) (ls : List Lamp) (one two x y cw ch at' : Int) (w : World) (hn : P.length = n) (hI : Ints w A P) (hl : n ≤ 9223372036854775807) (hm : ls.length = m) (hL : Lamps w B ls) (hl2 : m ≤ 9223372036854775807) (hat : -9223372036854775808 ≤ at' ∧ at' ≤ 9223372036854775807) :
    Calls Try.prog 9 #[.agg #[.int .i64 W, .int .i64 H, .slice A n c], .slice B m d, .int .i64 one, .int .i64 two, .int .i64 x, .int .i64 y, .int .i64 cw, .int .i64 ch, .int .i64 at'] w fun e w' => e = .returned (.bool true) ∧ Below w.heap.size w w' := by
  by_cases hnr : lampNearErr ls x y cw ch = 0
  · by_cases h1 : litErr ⟨W, H, P⟩ ls one = 0
    · by_cases h2 : litErr ⟨W, H, P⟩ ls two = 0
      · exact tiles_yy W H A n c P B m d ls one two x y cw ch at' w hn hI hl hm hL hl2 hat h1 h2 hnr
      · exact tiles_ny W H A n c P B m d ls one two x y cw ch at' w hn hI hl hm hL hl2 hat (.inr ⟨h1, h2⟩) hnr
    · exact tiles_ny W H A n c P B m d ls one two x y cw ch at' w hn hI hl hm hL hl2 hat (.inl h1) hnr
  · by_cases h1 : litErr ⟨W, H, P⟩ ls one = 0
    · by_cases h2 : litErr ⟨W, H, P⟩ ls two = 0
      · exact tiles_yn W H A n c P B m d ls one two x y cw ch at' w hn hI hl hm hL hl2 hat h1 h2 hnr
      · exact tiles_nn W H A n c P B m d ls one two x y cw ch at' w hn hI hl hm hL hl2 hat (.inr ⟨h1, h2⟩) hnr
    · exact tiles_nn W H A n c P B m d ls one two x y cw ch at' w hn hI hl hm hL hl2 hat (.inl h1) hnr
end Go.Proofs.Ytibpmogmeoappaa
