/- Walks: PeakOf, FloorOf. -/
import Derived.Test.YtibpmogmeoappabJPlnH
namespace Go.Proofs.Ytibpmogmeoappab
open Go.RowKit

theorem peakTo_bd {f : Frm} {p : Pln} (hf : FrmOk f) (h : InOrder f p) : ∀ k, k ≤ f.P.length → 0 ≤ peakTo f p k ∧ peakTo f p k ≤ 4352
  | 0, _ => by simp [peakTo]
  | k + 1, hk => by
    have h1 := peakTo_bd hf h k (by omega)
    have h2 := place_of h (k := k) (by omega)
    have h3 := area_bd hf (k := k) (by omega)
    simp only [peakTo]
    split <;> omega

set_option maxRecDepth 100000 in
set_option maxHeartbeats 8000000 in
theorem peakOf_ref (W H S O : Int) (PA : Option Addr) (n c : Nat) (ps : List Pas) (OA : Option Addr) (on oc : Nat) (QA : Option Addr) (qn qc : Nat) (p : Pln) (w : World) (hn : ps.length = n) (hP : Passes w PA ps)
    (hO : Ints w OA p.Order) (hon : p.Order.length = on) (hol : on ≤ 9223372036854775807) (hQ : Ints w QA p.Places) (hqn : p.Places.length = qn) (hok : FrmOk ⟨W, H, S, O, ps⟩) (hin : InOrder ⟨W, H, S, O, ps⟩ p) :
    Calls Try.prog 22 #[.agg #[.int .i64 W, .int .i64 H, .int .i64 S, .int .i64 O, .slice PA n c], .agg #[.slice OA on oc, .slice QA qn qc]] w (RetE w (peakOf ⟨W, H, S, O, ps⟩ p)) := by
  have hb := ((Below.refl w.heap.size w).alloc (Nat.le_refl _) (.cells #[.int .i64 W, .int .i64 H, .int .i64 S, .int .i64 O, .slice PA n c] 24)).alloc (by simp) (.cells #[.slice OA on oc, .slice QA qn qc] 27)
  have hbx := (show FrmBox (w.alloc (.cells #[.int .i64 W, .int .i64 H, .int .i64 S, .int .i64 O, .slice PA n c] 24)) w.heap.size W H S O PA n c from Blk.new w 24 (frmCells W H S O PA n c)).alloc (.cells #[.slice OA on oc, .slice QA qn qc] 27)
  have hpx : Blk ((w.alloc (.cells #[.int .i64 W, .int .i64 H, .int .i64 S, .int .i64 O, .slice PA n c] 24)).alloc (.cells #[.slice OA on oc, .slice QA qn qc] 27)) (w.heap.size + 1) 27 [.slice OA on oc, .slice QA qn qc] := Blk.newE (by simp)
  have h12 := hok.many
  have hpl := hin.places
  have hle := hin.len
  have hCF := fun (W0 : World) (h1 : Passes W0 PA ps) => checkFrame_ref W H S O PA n c ps W0 hn h1 (by have := hok.many.2; simp only at this; omega)
  have hSP := fun (W0 : World) (h1 : Passes W0 PA ps) (h2 : Ints W0 OA p.Order) => spansOf_ref W H S O PA n c ps OA on oc QA qn qc p W0 hn h1 h2 hon hol hok hin
  have HP := hide (Keeps.passes (hP.keep hb))
  have hio := hO.keep hb
  have hiq := hQ.keep hb
  obtain ⟨f, hf⟩ : ∃ f : Frm, f = ⟨W, H, S, O, ps⟩ := ⟨_, rfl⟩
  have HFN := hide (show f.P.length = n from by rw [hf]; exact hn)
  rw [← hf] at hok hin hCF hSP h12 hpl hle ⊢
  rw [HFN.out] at h12 hpl hle
  rw [hon] at hle
  rw [hqn] at hpl
  obtain rfl : n = qn := hpl.symm
  rw [frErr_zero.2 hok] at hCF
  obtain ⟨w1, hw1⟩ : ∃ w1, (w.alloc (.cells #[.int .i64 W, .int .i64 H, .int .i64 S, .int .i64 O, .slice PA n c] 24)).alloc (.cells #[.slice OA on oc, .slice QA n qc] 27) = w1 := ⟨_, rfl⟩
  rw [hw1] at hb hbx hpx HP hio hiq
  have HB := hide hb
  have HBX := hide (Keeps.blk hbx)
  have HPX := hide (Keeps.blk hpx)
  have HIO := hide (Keeps.ints hio)
  have HIQ := hide (Keeps.ints hiq)
  have HCF := hide hCF
  have HSP := hide hSP
  have HOK := hide hok
  have HIN := hide hin
  have HON := hide hon
  have HQN := hide hqn
  obtain ⟨x, q0, q1, q2, q3, q4⟩ := FrmBox.cells (show FrmBox _ _ W H S O PA n c from hbx)
  obtain ⟨y, r0, r1⟩ := plan_box hpx
  clear hn hP hO hQ hbx hpx hb hio hiq hCF hSP hok hf hon hqn hin hpl
  go_enter Try.func22, Try.ntmps22
  go_wp2_with fail
  refine ((unhide HCF) _ HP.out.now).mono ?_
  rintro e w2 ⟨ZA, zn, zc, rfl, hzn, hZ, hE2⟩
  obtain rfl : n = zn := by rw [← hzn, sizes_len HOK.out]; exact HFN.out.symm
  have HB2 := hide (HB.out.trans (hE2.mono HB.out.size))
  have HBX2 := hide (HBX.out.move hE2)
  have HPX2 := hide (HPX.out.move hE2)
  have HIO2 := hide (HIO.out.move hE2)
  have HIQ2 := hide (HIQ.out.move hE2)
  have HP2 := hide (HP.out.move hE2)
  have HZ2 := hide (show Keeps w2 (fun W' => Sizes W' ZA (frSizes f)) from ⟨hZ, fun _ hb => Cells.keep hZ hb⟩)
  clear hw1 hE2 hZ hzn x q0 q1 q2 q3 q4 y r0 r1 HB HBX HPX HIO HIQ HP HCF
  go_wp2_with fail
  go_loopw [7, 8] (fun a s wr => ∃ k : Nat, k ≤ n ∧ s = .int .i64 k ∧ a = .int .i64 (peakTo f p k) ∧ Hid (Below w2.heap.size w2 wr)) (fun _ s _ => n - (intOf s).toNat)
  case atStart => exact ⟨0, Nat.zero_le _, rfl, rfl, hide (Below.refl _ _)⟩
  case round =>
    obtain ⟨k, hk, rfl, rfl, HBW⟩ := hrel
    obtain ⟨y, r0, r1⟩ := plan_box (HPX2.out.later _ HBW.out)
    by_cases hlt : k < n
    · have hk0 : (0 : Int) ≤ (k : Int) := by omega
      have hk1 : (k : Int) < (n : Int) := by omega
      have hkf : k < f.P.length := by rw [HFN.out]; exact hlt
      obtain ⟨pb, po, hQA, hpb, cp⟩ := ints_at (HIQ2.out.later _ HBW.out) (k := k) (by rw [HQN.out]; exact hlt)
      obtain rfl := hQA
      have hpl := place_of HIN.out hkf
      have hpe := peakTo_bd HOK.out HIN.out k (by omega)
      have hsuc : peakTo f p (k + 1) = if p.pl k = -1 then peakTo f p k else max (peakTo f p k) (p.pl k + areaOf f k) := rfl
      obtain ⟨pk, hpk⟩ : ∃ v, p.pl k = v := ⟨_, rfl⟩
      obtain ⟨ak, hak⟩ : ∃ a, areaOf f k = a := ⟨_, rfl⟩
      obtain ⟨pe, hpee⟩ : ∃ a, peakTo f p k = a := ⟨_, rfl⟩
      have hab := area_bd HOK.out hkf
      rw [show p.Places.getD k 0 = p.pl k from rfl, hpk] at cp
      rw [hpk, hak, hpee] at hsuc
      rw [hpk] at hpl
      rw [hak] at hab
      rw [hpee] at hpe
      rw [hpee]
      by_cases hm1 : pk = -1
      · have hb1 : (pk == -1) = true := by simpa using hm1
        have HSU := hide (show peakTo f p (k + 1) = pe from by rw [hsuc, if_pos hm1])
        clear hm1 hpk hak hpee hsuc hpl hab
        go_wp2_with fail
        go_roundw
        case rel => exact ⟨k + 1, by omega, by go_num, by rw [HSU.out], HBW⟩
        case measure => simp [intOf]; omega
      · have hb1 : (pk == -1) = false := by simpa using hm1
        have hpl2 : 0 ≤ pk ∧ pk ≤ 4096 := by omega
        have HSU := hide (show peakTo f p (k + 1) = max pe (pk + ak) from by rw [hsuc, if_neg hm1])
        obtain ⟨zb, zo, hZA, hzb, z0, z1⟩ := size_cells HOK.out (HZ2.out.later _ HBW.out) hkf
        obtain rfl := hZA
        obtain ⟨sw, hsw⟩ : ∃ a, (frSize f k).W = a := ⟨_, rfl⟩
        obtain ⟨sh, hsh⟩ : ∃ a, (frSize f k).H = a := ⟨_, rfl⟩
        rw [hsw] at z0
        rw [hsh] at z1
        have HAR := hide (area_is (W := sw) (H := sh) (a := ak) (by rw [← hsw, ← hsh, ← hak]; rfl) (by omega))
        have hwr : IntKind.i64.wrap (pk + ak) = pk + ak := IntWalk.i64_in _ (by omega)
        have HKS := hide (show Keeps wr (fun w' => w'.cell? ⟨w.heap.size + 1, 1, none⟩ = some (.slice (some ⟨pb, po, none⟩) n qc) ∧ w'.cell? ⟨pb, po + k, none⟩ = some (.int .i64 pk) ∧ w'.cell? ⟨zb, zo + k * 2, none⟩ = some (.int .i64 sw) ∧ w'.cell? ⟨zb, zo + k * 2 + 1, none⟩ = some (.int .i64 sh)) from ⟨⟨r1, cp, z0, z1⟩, fun _ hb => ⟨keepC hb r1, keepC hb cp, keepC hb z0, keepC hb z1⟩⟩)
        clear hm1 hpk hak hpee hsuc hpl hsw hsh
        go_upto_region 7 with fail
        go_region_held3 (fun w' => w'.cell? ⟨w.heap.size + 1, 1, none⟩ = some (.slice (some ⟨pb, po, none⟩) n qc) ∧ w'.cell? ⟨pb, po + k, none⟩ = some (.int .i64 pk) ∧ w'.cell? ⟨zb, zo + k * 2, none⟩ = some (.int .i64 sw) ∧ w'.cell? ⟨zb, zo + k * 2 + 1, none⟩ = some (.int .i64 sh))
          (first | exact HKS.out.later _ hB5 | exact HKS.out.later _ (Below.refl _ _).drew)
          (first
            | (go_simp; go_at_call 62; refine ((unhide HAR) _).mono ?_; rintro e w5 ⟨rfl, hE5⟩; have hB5 : Below wr.heap.size wr w5 := (Below.refl _ _).drew.trans hE5))
        go_wp2_with fail
        go_roundw
        case rel => exact ⟨k + 1, by omega, by go_num, by rw [HSU.out]; congr 1; (first | rfl | omega), hide (HBW.out.trans (hB5.mono HBW.out.size))⟩
        case measure => simp [intOf]; omega
    · obtain rfl : k = n := by omega
      go_wp2_with fail
      go_ret
      exact ⟨ret_int (by unfold peakOf; rw [HFN.out]), HB2.out.trans (HBW.out.mono HB2.out.size)⟩

theorem needTo_bd {f : Frm} {p : Pln} (hf : FrmOk f) (i : Int) : ∀ k, k ≤ f.P.length → 0 ≤ needTo f p i k ∧ needTo f p i k ≤ 256 * (k : Int)
  | 0, _ => by simp [needTo]
  | k + 1, hk => by
    have h1 := needTo_bd hf (p := p) i k (by omega)
    have h3 := area_bd hf (k := k) (by omega)
    simp only [needTo]
    split <;> omega
theorem floorTo_bd {f : Frm} {p : Pln} (hf : FrmOk f) : ∀ i : Nat, 0 ≤ floorTo f p i ∧ floorTo f p i ≤ 3072
  | 0 => by simp [floorTo]
  | i + 1 => by
    have h1 := floorTo_bd hf (p := p) i
    have h2 := needTo_bd hf (p := p) i f.P.length (Nat.le_refl _)
    have h3 := hf.many
    simp only [floorTo]
    omega

set_option maxRecDepth 100000 in
set_option maxHeartbeats 8000000 in
theorem floorOf_ref (W H S O : Int) (PA : Option Addr) (n c : Nat) (ps : List Pas) (OA : Option Addr) (on oc : Nat) (QA : Option Addr) (qn qc : Nat) (p : Pln) (w : World) (hn : ps.length = n) (hP : Passes w PA ps)
    (hO : Ints w OA p.Order) (hon : p.Order.length = on) (hol : on ≤ 9223372036854775807) (hQ : Ints w QA p.Places) (hqn : p.Places.length = qn) (hok : FrmOk ⟨W, H, S, O, ps⟩) (hin : InOrder ⟨W, H, S, O, ps⟩ p) :
    Calls Try.prog 23 #[.agg #[.int .i64 W, .int .i64 H, .int .i64 S, .int .i64 O, .slice PA n c], .agg #[.slice OA on oc, .slice QA qn qc]] w (RetE w (floorOf ⟨W, H, S, O, ps⟩ p)) := by
  have hb := ((Below.refl w.heap.size w).alloc (Nat.le_refl _) (.cells #[.int .i64 W, .int .i64 H, .int .i64 S, .int .i64 O, .slice PA n c] 24)).alloc (by simp) (.cells #[.slice OA on oc, .slice QA qn qc] 27)
  have hbx := (show FrmBox (w.alloc (.cells #[.int .i64 W, .int .i64 H, .int .i64 S, .int .i64 O, .slice PA n c] 24)) w.heap.size W H S O PA n c from Blk.new w 24 (frmCells W H S O PA n c)).alloc (.cells #[.slice OA on oc, .slice QA qn qc] 27)
  have hpx : Blk ((w.alloc (.cells #[.int .i64 W, .int .i64 H, .int .i64 S, .int .i64 O, .slice PA n c] 24)).alloc (.cells #[.slice OA on oc, .slice QA qn qc] 27)) (w.heap.size + 1) 27 [.slice OA on oc, .slice QA qn qc] := Blk.newE (by simp)
  have h12 := hok.many
  have hpl := hin.places
  have hle := hin.len
  have hCF := fun (W0 : World) (h1 : Passes W0 PA ps) => checkFrame_ref W H S O PA n c ps W0 hn h1 (by have := hok.many.2; simp only at this; omega)
  have hSP := fun (W0 : World) (h1 : Passes W0 PA ps) (h2 : Ints W0 OA p.Order) => spansOf_ref W H S O PA n c ps OA on oc QA qn qc p W0 hn h1 h2 hon hol hok hin
  have HP := hide (Keeps.passes (hP.keep hb))
  have hio := hO.keep hb
  have hiq := hQ.keep hb
  obtain ⟨f, hf⟩ : ∃ f : Frm, f = ⟨W, H, S, O, ps⟩ := ⟨_, rfl⟩
  have HFN := hide (show f.P.length = n from by rw [hf]; exact hn)
  rw [← hf] at hok hin hCF hSP h12 hpl hle ⊢
  rw [HFN.out] at h12 hpl hle
  rw [hon] at hle
  rw [hqn] at hpl
  obtain rfl : n = qn := hpl.symm
  rw [frErr_zero.2 hok] at hCF
  obtain ⟨w1, hw1⟩ : ∃ w1, (w.alloc (.cells #[.int .i64 W, .int .i64 H, .int .i64 S, .int .i64 O, .slice PA n c] 24)).alloc (.cells #[.slice OA on oc, .slice QA n qc] 27) = w1 := ⟨_, rfl⟩
  rw [hw1] at hb hbx hpx HP hio hiq
  have HB := hide hb
  have HBX := hide (Keeps.blk hbx)
  have HPX := hide (Keeps.blk hpx)
  have HIO := hide (Keeps.ints hio)
  have HIQ := hide (Keeps.ints hiq)
  have HCF := hide hCF
  have HSP := hide hSP
  have HOK := hide hok
  have HIN := hide hin
  have HON := hide hon
  have HQN := hide hqn
  obtain ⟨x, q0, q1, q2, q3, q4⟩ := FrmBox.cells (show FrmBox _ _ W H S O PA n c from hbx)
  obtain ⟨y, r0, r1⟩ := plan_box hpx
  clear hn hP hO hQ hbx hpx hb hio hiq hCF hSP hok hf hon hqn hin hpl
  go_enter Try.func23, Try.ntmps23
  go_wp2_with fail
  refine ((unhide HCF) _ HP.out.now).mono ?_
  rintro e w2 ⟨ZA, zn, zc, rfl, hzn, hZ, hE2⟩
  obtain rfl : n = zn := by rw [← hzn, sizes_len HOK.out]; exact HFN.out.symm
  have HB2 := hide (HB.out.trans (hE2.mono HB.out.size))
  have HBX2 := hide (HBX.out.move hE2)
  have HPX2 := hide (HPX.out.move hE2)
  have HIO2 := hide (HIO.out.move hE2)
  have HIQ2 := hide (HIQ.out.move hE2)
  have HP2 := hide (HP.out.move hE2)
  have HZ2 := hide (show Keeps w2 (fun W' => Sizes W' ZA (frSizes f)) from ⟨hZ, fun _ hb => Cells.keep hZ hb⟩)
  clear hw1 hE2 hZ hzn x q0 q1 q2 q3 q4 y r0 r1 HB HBX HPX HIO HIQ HP HCF
  obtain ⟨x, q0, q1, q2, q3, q4⟩ := FrmBox.cells (show FrmBox _ _ W H S O PA n c from HBX2.out.now)
  obtain ⟨y, r0, r1⟩ := plan_box HPX2.out.now
  go_wp2_with fail
  refine ((unhide HSP) _ HP2.out.now HIO2.out.now).mono ?_
  rintro e w3 ⟨XA, xn, xc, rfl, hxn, hX, hE3⟩
  obtain rfl : n = xn := by rw [← hxn]; simp [spansTo]
  have HB3 := hide (HB2.out.trans (hE3.mono HB2.out.size))
  have HPX3 := hide (HPX2.out.move hE3)
  have HIO3 := hide (HIO2.out.move hE3)
  have HIQ3 := hide (HIQ2.out.move hE3)
  have HZ3 := hide (HZ2.out.move hE3)
  have HX3 := hide (show Keeps w3 (fun W' => Spns W' XA (spansTo f p n)) from ⟨hX, fun _ hb => Cells.keep hX hb⟩)
  clear hE3 hX hxn x q0 q1 q2 q3 q4 y r0 r1 HB2 HPX2 HIO2 HIQ2 HZ2 HP2 HBX2 HSP
  go_wp2_with fail
  go_loopw [8, 9, 10, 11] (fun a s _ _ wr => ∃ i : Nat, i ≤ on ∧ s = .int .i64 i ∧ a = .int .i64 (floorTo f p i) ∧ Hid (Below w3.heap.size w3 wr)) (fun _ s _ _ _ => on - (intOf s).toNat)
  case atStart => exact ⟨0, Nat.zero_le _, rfl, rfl, hide (Below.refl _ _)⟩
  case round =>
    obtain ⟨i, hi, rfl, rfl, HBW⟩ := hrel
    obtain ⟨y, r0, r1⟩ := plan_box (HPX3.out.later _ HBW.out)
    have hfl := floorTo_bd HOK.out (p := p) i
    have hsu : floorTo f p (i + 1) = max (floorTo f p i) (needTo f p (i : Int) n) := by rw [← HFN.out]; rfl
    obtain ⟨fl, hfle⟩ : ∃ a, floorTo f p i = a := ⟨_, rfl⟩
    rw [hfle] at hfl hsu
    rw [hfle]
    have HSU := hide hsu
    have HFL := hide hfle
    clear hfle hsu
    by_cases hil : i < on
    · have hi0 : (0 : Int) ≤ (i : Int) := by omega
      have hi1 : (i : Int) < (on : Int) := by omega
      go_wp2_with fail
      clear y r0 r1
      go_loopw [10, 11] (fun b s wz => ∃ k : Nat, k ≤ n ∧ s = .int .i64 k ∧ b = .int .i64 (needTo f p (i : Int) k) ∧ Hid (Below w3.heap.size w3 wz)) (fun _ s _ => n - (intOf s).toNat)
      case atStart => exact ⟨0, Nat.zero_le _, rfl, rfl, HBW⟩
      case round =>
        obtain ⟨k, hk, rfl, rfl, HBZ⟩ := hrel
        have hne := needTo_bd HOK.out (p := p) (i : Int) k (by rw [HFN.out]; exact hk)
        by_cases hlt : k < n
        · have hk0 : (0 : Int) ≤ (k : Int) := by omega
          have hk1 : (k : Int) < (n : Int) := by omega
          have hkf : k < f.P.length := by rw [HFN.out]; exact hlt
          obtain ⟨y, -, r1⟩ := plan_box (HPX3.out.later _ HBZ.out)
          obtain ⟨pb, po, hQA, hpb, cp⟩ := ints_at (HIQ3.out.later _ HBZ.out) (k := k) (by rw [HQN.out]; exact hlt)
          obtain rfl := hQA
          obtain ⟨zb, zo, hZA, hzb, z0, z1⟩ := size_cells HOK.out (HZ3.out.later _ HBZ.out) hkf
          obtain rfl := hZA
          obtain ⟨xb, xo, hXA, hxb, x0, x1⟩ := spns_at (HX3.out.later _ HBZ.out) hlt
          obtain rfl := hXA
          have hsuc : needTo f p (i : Int) (k + 1) = if p.pl k ≠ -1 ∧ meetB (spanOf f p k) ⟨i, i⟩ = true then needTo f p (i : Int) k + areaOf f k else needTo f p (i : Int) k := rfl
          obtain ⟨pk, hpk⟩ : ∃ v, p.pl k = v := ⟨_, rfl⟩
          obtain ⟨ak, hak⟩ : ∃ a, areaOf f k = a := ⟨_, rfl⟩
          obtain ⟨ne, hnee⟩ : ∃ a, needTo f p (i : Int) k = a := ⟨_, rfl⟩
          obtain ⟨sk, hsk⟩ : ∃ s, spanOf f p k = s := ⟨_, rfl⟩
          obtain ⟨mt, hmt⟩ : ∃ b, meetB sk ⟨i, i⟩ = b := ⟨_, rfl⟩
          obtain ⟨sw, hsw⟩ : ∃ a, (frSize f k).W = a := ⟨_, rfl⟩
          obtain ⟨sh, hsh⟩ : ∃ a, (frSize f k).H = a := ⟨_, rfl⟩
          have hab := area_bd HOK.out hkf
          rw [show p.Places.getD k 0 = p.pl k from rfl, hpk] at cp
          rw [hpk, hak, hnee, hsk, hmt] at hsuc
          rw [hak] at hab
          rw [hnee] at hne
          rw [hsk] at x0 x1
          rw [hsw] at z0
          rw [hsh] at z1
          rw [hnee]
          have HAR := hide (area_is (W := sw) (H := sh) (a := ak) (by rw [← hsw, ← hsh, ← hak]; rfl) (by omega))
          have HME := hide (meet_is (a := sk) (b := ⟨i, i⟩) hmt)
          have hwr : IntKind.i64.wrap (ne + ak) = ne + ak := IntWalk.i64_in _ (by omega)
          have HKZ := hide (show Keeps wr (fun w' => w'.cell? ⟨zb, zo + k * 2, none⟩ = some (.int .i64 sw) ∧ w'.cell? ⟨zb, zo + k * 2 + 1, none⟩ = some (.int .i64 sh)) from ⟨⟨z0, z1⟩, fun _ hb => ⟨keepC hb z0, keepC hb z1⟩⟩)
          clear hak hnee hsk hmt hsw hsh hpk
          by_cases hm1 : pk = -1
          · have HSUC := hide (show needTo f p (i : Int) (k + 1) = ne from by rw [hsuc, if_neg (fun h => h.1 hm1)])
            clear hsuc
            subst hm1
            go_wp2_with fail
            go_roundw
            case rel => exact ⟨k + 1, by omega, by go_num, by rw [HSUC.out], HBZ⟩
            case measure => simp [intOf]; omega
          · have hb1 : (pk == -1) = false := by simpa using hm1
            cases mt with
            | false =>
              have HSUC := hide (show needTo f p (i : Int) (k + 1) = ne from by rw [hsuc, if_neg (fun h => by cases h.2)])
              clear hsuc
              go_wp2_with (go_at_call 63; refine ((unhide HME) _).mono ?_; rintro e w5 ⟨rfl, hE5⟩; have HB5 := hide (HBZ.out.trans (hE5.mono HBZ.out.size)); clear hE5)
              all_goals try (exfalso; omega)
              go_roundw
              case rel => exact ⟨k + 1, by omega, by go_num, by rw [HSUC.out], HB5⟩
              case measure => simp [intOf]; omega
            | true =>
              have HSUC := hide (show needTo f p (i : Int) (k + 1) = ne + ak from by rw [hsuc, if_pos ⟨hm1, rfl⟩])
              clear hsuc
              go_wp2_with (first
                | (go_at_call 63; refine ((unhide HME) _).mono ?_; rintro e w5 ⟨rfl, hE5⟩; have HB5 := hide (HBZ.out.trans (hE5.mono HBZ.out.size)); obtain ⟨z0', z1'⟩ := HKZ.out.later _ hE5; clear hE5)
                | (go_at_call 62; refine ((unhide HAR) _).mono ?_; rintro e w6 ⟨rfl, hE6⟩; have HB6 := hide (HB5.out.trans (hE6.mono HB5.out.size)); clear hE6))
              all_goals try (exfalso; omega)
              go_roundw
              case rel => exact ⟨k + 1, by omega, by go_num, by rw [HSUC.out], HB6⟩
              case measure => simp [intOf]; omega
        · obtain rfl : k = n := by omega
          obtain ⟨ne, hnee⟩ : ∃ a, needTo f p (i : Int) k = a := ⟨_, rfl⟩
          have HSUF := hide (show floorTo f p (i + 1) = max fl ne from by rw [HSU.out, hnee])
          rw [hnee] at hne
          rw [hnee]
          clear hnee
          go_wp2_with fail
          go_roundw
          case rel => exact ⟨i + 1, by omega, by go_num, by rw [HSUF.out]; congr 1; (first | rfl | omega), HBZ⟩
          case measure => simp [intOf]; omega
    · obtain rfl : i = on := by omega
      go_wp2_with fail
      go_ret
      exact ⟨ret_int (by unfold floorOf; rw [HON.out, HFL.out]), HB3.out.trans (HBW.out.mono HB3.out.size)⟩
end Go.Proofs.Ytibpmogmeoappab
