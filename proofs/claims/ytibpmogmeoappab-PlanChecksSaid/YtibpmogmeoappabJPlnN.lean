/- Walks: plan.Spans, plan.Peak, plan.Floor. -/
import Derived.Test.YtibpmogmeoappabJPlnN0
import Derived.Test.YtibpmogmeoappabJPlnK
namespace Go.Proofs.Ytibpmogmeoappab
open Go.RowKit

/-- what comes is a list of spans and an error's number -/
def RetSpE (w : World) (L : List Spn) (z : Int) (e : Ending) (w' : World) : Prop :=
  ∃ (A : Option Addr) (n c : Nat), e = .returned (.tuple #[.slice A n c, .int .i64 z]) ∧ L.length = n ∧ Spns w' A L ∧ Below w.heap.size w w'
theorem spansAns_no {f : Frm} {p : Pln} (h : planErr f p ≠ 0) : spansAns f p = [] := if_neg h

set_option maxRecDepth 100000 in
set_option maxHeartbeats 8000000 in
theorem planSpans_any (W H S O : Int) (PA : Option Addr) (n c : Nat) (ps : List Pas) (OA : Option Addr) (on oc : Nat) (QA : Option Addr) (qn qc : Nat) (p : Pln) (w : World) (hn : ps.length = n) (hP : Passes w PA ps)
    (hO : Ints w OA p.Order) (hon : p.Order.length = on) (hol : on ≤ 9223372036854775807) (hQ : Ints w QA p.Places) (hqn : p.Places.length = qn) (hql : qn ≤ 9223372036854775807) :
    Calls Try.prog 17 #[.agg #[.int .i64 W, .int .i64 H, .int .i64 S, .int .i64 O, .slice PA n c], .agg #[.slice OA on oc, .slice QA qn qc]] w (RetSpE w (spansAns ⟨W, H, S, O, ps⟩ p) (planErr ⟨W, H, S, O, ps⟩ p)) := by
  have hb := ((Below.refl w.heap.size w).alloc (Nat.le_refl _) (.cells #[.int .i64 W, .int .i64 H, .int .i64 S, .int .i64 O, .slice PA n c] 24)).alloc (by simp) (.cells #[.slice OA on oc, .slice QA qn qc] 27)
  have hbx := (show FrmBox (w.alloc (.cells #[.int .i64 W, .int .i64 H, .int .i64 S, .int .i64 O, .slice PA n c] 24)) w.heap.size W H S O PA n c from Blk.new w 24 (frmCells W H S O PA n c)).alloc (.cells #[.slice OA on oc, .slice QA qn qc] 27)
  have hpx : Blk ((w.alloc (.cells #[.int .i64 W, .int .i64 H, .int .i64 S, .int .i64 O, .slice PA n c] 24)).alloc (.cells #[.slice OA on oc, .slice QA qn qc] 27)) (w.heap.size + 1) 27 [.slice OA on oc, .slice QA qn qc] := Blk.newE (by simp)
  have hbg := begin_any W H S O PA n c ps OA on oc QA qn qc p _ hn (hP.keep hb) (hO.keep hb) hon hol (hQ.keep hb) hqn hql
  have hio := hO.keep hb
  have hiq := hQ.keep hb
  obtain ⟨f, hf⟩ : ∃ f : Frm, f = ⟨W, H, S, O, ps⟩ := ⟨_, rfl⟩
  rw [← hf] at hbg ⊢
  obtain ⟨w1, hw1⟩ : ∃ w1, (w.alloc (.cells #[.int .i64 W, .int .i64 H, .int .i64 S, .int .i64 O, .slice PA n c] 24)).alloc (.cells #[.slice OA on oc, .slice QA qn qc] 27) = w1 := ⟨_, rfl⟩
  rw [hw1] at hb hbx hpx hbg hio hiq
  have HB := hide hb
  have HPX := hide (Keeps.blk hpx)
  have HIO := hide (Keeps.ints hio)
  have HIQ := hide (Keeps.ints hiq)
  have HBG := hide hbg
  have HON := hide hon
  have HQN := hide hqn
  obtain ⟨x, q0, q1, q2, q3, q4⟩ := FrmBox.cells (show FrmBox _ _ W H S O PA n c from hbx)
  obtain ⟨y, r0, r1⟩ := plan_box hpx
  clear hn hP hO hQ hbx hpx hb hio hiq hbg hf hon hqn
  go_enter Try.func17, Try.ntmps17
  go_wp2_with fail
  refine (unhide HBG).mono ?_
  rintro e w2 ⟨hE2, ⟨hne, rfl⟩ | ⟨hz, g, ⟨hni, rfl⟩ | ⟨hin, rfl, hLk⟩⟩⟩
  · have HB2 := hide (HB.out.trans (hE2.mono HB.out.size))
    have hpe := planErr_frm (p := p) hne
    have HSA := hide (spansAns_no (f := f) (p := p) (by rw [hpe]; exact hne))
    obtain ⟨z, hz⟩ : ∃ z, frErr f = z := ⟨_, rfl⟩
    rw [hz] at hpe hne ⊢
    have HPE := hide hpe
    have hz2 : (z == 0) = false := by simpa using hne
    clear hE2 hne hz hpe hw1 HBG x q0 q1 q2 q3 q4 y r0 r1
    go_wp2_with fail
    go_ret2
    rw [HSA.out, HPE.out]
    exact ⟨none, 0, 0, rfl, rfl, Cells.nil _ _, HB2.out⟩
  · have HB2 := hide (HB.out.trans (hE2.mono HB.out.size))
    have HPE := hide (planErr_form hz hni)
    have HSA := hide (spansAns_no (f := f) (p := p) (by rw [HPE.out]; omega))
    clear hE2 hz hni hw1 HBG x q0 q1 q2 q3 q4 y r0 r1
    go_wp2_with fail
    go_ret2
    rw [HSA.out, HPE.out]
    exact ⟨none, 0, 0, rfl, rfl, Cells.nil _ _, HB2.out⟩
  · have HB2 := hide (HB.out.trans (hE2.mono HB.out.size))
    have HPE := hide (planErr_ok hz hin)
    have HSA := hide (show spansAns f p = spansTo f p f.P.length from if_pos HPE.out)
    obtain ⟨la, KA, kn, kc, SA, sc, RA, rn, rc, mb, XA, xc, hLB, -, hXA⟩ := hLk
    obtain ⟨v, v0, v1, v2, v3, v4, v5, v6, v7⟩ := look_at hLB
    have HXA := hide hXA
    clear hE2 hz hin hLB hXA hw1 HBG x q0 q1 q2 q3 q4 y r0 r1
    go_wp2_with fail
    go_ret2
    rw [HSA.out, HPE.out]
    exact ⟨XA, f.P.length, xc, rfl, by simp [spansTo], HXA.out, HB2.out⟩

theorem peakOrd_bd {f : Frm} {p : Pln} (hf : FrmOk f) (h : InOrder f p) : ∀ m, m ≤ p.Order.length → 0 ≤ peakOrd f p m ∧ peakOrd f p m ≤ 4352
  | 0, _ => by simp [peakOrd]
  | m + 1, hm => by
    have h1 := peakOrd_bd hf h m (by omega)
    obtain ⟨k, hk, hkf, h2, h3⟩ := ord_in h (i := m) (by omega)
    have h4 := area_bd hf hkf
    simp only [peakOrd]
    rw [hk, Int.toNat_natCast]
    omega
theorem needOrd_bd {f : Frm} {p : Pln} (hf : FrmOk f) (h : InOrder f p) (i : Int) : ∀ m, m ≤ p.Order.length → 0 ≤ needOrd f p i m ∧ needOrd f p i m ≤ 256 * (m : Int)
  | 0, _ => by simp [needOrd]
  | m + 1, hm => by
    have h1 := needOrd_bd hf h i m (by omega)
    obtain ⟨k, hk, hkf, h2, h3⟩ := ord_in h (i := m) (by omega)
    have h4 := area_bd hf hkf
    simp only [needOrd]
    rw [hk, Int.toNat_natCast]
    split <;> omega

set_option maxRecDepth 100000 in
set_option maxHeartbeats 8000000 in
theorem planPeak_any (W H S O : Int) (PA : Option Addr) (n c : Nat) (ps : List Pas) (OA : Option Addr) (on oc : Nat) (QA : Option Addr) (qn qc : Nat) (p : Pln) (w : World) (hn : ps.length = n) (hP : Passes w PA ps)
    (hO : Ints w OA p.Order) (hon : p.Order.length = on) (hol : on ≤ 9223372036854775807) (hQ : Ints w QA p.Places) (hqn : p.Places.length = qn) (hql : qn ≤ 9223372036854775807) :
    Calls Try.prog 18 #[.agg #[.int .i64 W, .int .i64 H, .int .i64 S, .int .i64 O, .slice PA n c], .agg #[.slice OA on oc, .slice QA qn qc]] w (RetIE w (peakAns ⟨W, H, S, O, ps⟩ p) (planErr ⟨W, H, S, O, ps⟩ p)) := by
  have hb := ((Below.refl w.heap.size w).alloc (Nat.le_refl _) (.cells #[.int .i64 W, .int .i64 H, .int .i64 S, .int .i64 O, .slice PA n c] 24)).alloc (by simp) (.cells #[.slice OA on oc, .slice QA qn qc] 27)
  have hbx := (show FrmBox (w.alloc (.cells #[.int .i64 W, .int .i64 H, .int .i64 S, .int .i64 O, .slice PA n c] 24)) w.heap.size W H S O PA n c from Blk.new w 24 (frmCells W H S O PA n c)).alloc (.cells #[.slice OA on oc, .slice QA qn qc] 27)
  have hpx : Blk ((w.alloc (.cells #[.int .i64 W, .int .i64 H, .int .i64 S, .int .i64 O, .slice PA n c] 24)).alloc (.cells #[.slice OA on oc, .slice QA qn qc] 27)) (w.heap.size + 1) 27 [.slice OA on oc, .slice QA qn qc] := Blk.newE (by simp)
  have hbg := begin_any W H S O PA n c ps OA on oc QA qn qc p _ hn (hP.keep hb) (hO.keep hb) hon hol (hQ.keep hb) hqn hql
  have hio := hO.keep hb
  have hiq := hQ.keep hb
  obtain ⟨f, hf⟩ : ∃ f : Frm, f = ⟨W, H, S, O, ps⟩ := ⟨_, rfl⟩
  rw [← hf] at hbg ⊢
  obtain ⟨w1, hw1⟩ : ∃ w1, (w.alloc (.cells #[.int .i64 W, .int .i64 H, .int .i64 S, .int .i64 O, .slice PA n c] 24)).alloc (.cells #[.slice OA on oc, .slice QA qn qc] 27) = w1 := ⟨_, rfl⟩
  rw [hw1] at hb hbx hpx hbg hio hiq
  have HB := hide hb
  have HPX := hide (Keeps.blk hpx)
  have HIO := hide (Keeps.ints hio)
  have HIQ := hide (Keeps.ints hiq)
  have HBG := hide hbg
  have HON := hide hon
  have HQN := hide hqn
  obtain ⟨x, q0, q1, q2, q3, q4⟩ := FrmBox.cells (show FrmBox _ _ W H S O PA n c from hbx)
  obtain ⟨y, r0, r1⟩ := plan_box hpx
  clear hn hP hO hQ hbx hpx hb hio hiq hbg hf hon hqn
  go_enter Try.func18, Try.ntmps18
  go_wp2_with fail
  refine (unhide HBG).mono ?_
  rintro e w2 ⟨hE2, ⟨hne, rfl⟩ | ⟨hz, g, ⟨hni, rfl⟩ | ⟨hin, rfl, hLk⟩⟩⟩
  · have HB2 := hide (HB.out.trans (hE2.mono HB.out.size))
    have hpe := planErr_frm (p := p) hne
    have HSA := hide (show peakAns f p = 0 from if_neg (by rw [hpe]; exact hne))
    obtain ⟨z, hz⟩ : ∃ z, frErr f = z := ⟨_, rfl⟩
    rw [hz] at hpe hne ⊢
    have HPE := hide hpe
    have hz2 : (z == 0) = false := by simpa using hne
    clear hE2 hne hz hpe hw1 HBG x q0 q1 q2 q3 q4 y r0 r1
    go_wp2_with fail
    go_ret2
    rw [HSA.out, HPE.out]
    exact ⟨rfl, HB2.out⟩
  · have HB2 := hide (HB.out.trans (hE2.mono HB.out.size))
    have HPE := hide (planErr_form hz hni)
    have HSA := hide (show peakAns f p = 0 from if_neg (by rw [HPE.out]; omega))
    clear hE2 hz hni hw1 HBG x q0 q1 q2 q3 q4 y r0 r1
    go_wp2_with fail
    go_ret2
    rw [HSA.out, HPE.out]
    exact ⟨rfl, HB2.out⟩
  · have HB2 := hide (HB.out.trans (hE2.mono HB.out.size))
    have HOK := hide (frErr_zero.1 hz)
    have HIN := hide hin
    have HPE := hide (planErr_ok hz hin)
    have HSA := hide (show peakAns f p = peakOf f p from if_pos HPE.out)
    have hpn := hin.places
    have hle := hin.len
    have h12 := HOK.out.many
    obtain ⟨la, KA, kn, kc, SA, sc, RA, rn, rc, mb, XA, xc, hLB, hSA, -⟩ := hLk
    obtain ⟨N, hN⟩ : ∃ N, f.P.length = N := ⟨_, rfl⟩
    rw [hN] at hLB hSA hpn hle h12
    have HNN := hide hN
    rw [HON.out] at hle
    rw [HQN.out] at hpn
    obtain rfl : qn = N := hpn
    have HLB := hide (Keeps.blk hLB)
    have HSR := hide (Keeps.ints hSA)
    have HPX2 := hide (HPX.out.move hE2)
    have HIO2 := hide (HIO.out.move hE2)
    have HIQ2 := hide (HIQ.out.move hE2)
    obtain ⟨y', r0', r1'⟩ := plan_box HPX2.out.now
    clear hE2 hz hin hLB hSA hN hw1 HBG x q0 q1 q2 q3 q4 y r0 r1
    go_wp2_with fail
    clear y' r0' r1'
    go_loopw [8, 10, 23] (fun a _ s wr => ∃ i : Nat, i ≤ on ∧ s = .int .i64 i ∧ a = .int .i64 (peakOrd f p i) ∧ Hid (Below w2.heap.size w2 wr)) (fun _ _ s _ => on - (intOf s).toNat)
    case atStart => exact ⟨0, Nat.zero_le _, rfl, rfl, hide (Below.refl _ _)⟩
    case round =>
      obtain ⟨i, hi, rfl, rfl, HBW⟩ := hrel
      by_cases hil : i < on
      · have hi0 : (0 : Int) ≤ (i : Int) := by omega
        have hi1 : (i : Int) < (on : Int) := by omega
        obtain ⟨m, hm, hmf, hp0, hp1⟩ := ord_in HIN.out (i := i) (by rw [HON.out]; exact hil)
        obtain ⟨y, r0, r1⟩ := plan_box (HPX2.out.later _ HBW.out)
        obtain ⟨v, v0, v1, v2, v3, v4, v5, v6, v7⟩ := look_at (HLB.out.later _ HBW.out)
        obtain ⟨ob, oo, hOA, hob, co⟩ := ints_at (HIO2.out.later _ HBW.out) (k := i) (by rw [HON.out]; exact hil)
        obtain rfl := hOA
        rw [show p.Order.getD i 0 = p.ord i from rfl, hm] at co
        have hmq : m < qn := by rw [← HNN.out]; exact hmf
        obtain ⟨pb, po, hQA, hpb, cp⟩ := ints_at (HIQ2.out.later _ HBW.out) (k := m) (by rw [HQN.out]; exact hmq)
        obtain rfl := hQA
        rw [show p.Places.getD m 0 = p.pl m from rfl] at cp
        obtain ⟨sb, so, hSB, hsb, cs⟩ := areas_at (HSR.out.later _ HBW.out) hmq
        obtain rfl := hSB
        have hab := area_bd HOK.out hmf
        have hpk := peakOrd_bd HOK.out HIN.out i (by rw [HON.out]; exact hi)
        have hsuc : peakOrd f p (i + 1) = max (peakOrd f p i) (p.pl m + areaOf f m) := by
          simp only [peakOrd]
          rw [hm, Int.toNat_natCast]
        obtain ⟨pm, hpm⟩ : ∃ v, p.pl m = v := ⟨_, rfl⟩
        obtain ⟨am, ham⟩ : ∃ v, areaOf f m = v := ⟨_, rfl⟩
        obtain ⟨pe, hpe⟩ : ∃ v, peakOrd f p i = v := ⟨_, rfl⟩
        rw [hpm] at hp0 hp1 cp hsuc
        rw [ham] at hab cs hsuc
        rw [hpe] at hpk hsuc
        rw [hpe]
        have HSU := hide hsuc
        have hwr : IntKind.i64.wrap (pm + am) = pm + am := IntWalk.i64_in _ (by omega)
        have hm0 : (0 : Int) ≤ (m : Int) := by omega
        have hm1 : (m : Int) < (qn : Int) := by omega
        clear hm hmf hpm ham hpe hsuc
        go_wp2_with fail
        go_quiet (fail)
        go_wp2_with fail
        refine ⟨⟨i + 1, by omega, by simp, by rw [HSU.out]; congr 1; (first | rfl | omega), hide (below_drewN HBW.out _)⟩, by simp [intOf]; omega⟩
      · obtain rfl : i = on := by omega
        have HPK := hide (show peakOrd f p i = peakOf f p from by rw [← HON.out]; exact peak_ord HIN.out)
        go_wp2_with fail
        go_ret2
        rw [HSA.out, HPE.out]
        exact ⟨by rw [← HPK.out]; rfl, HB2.out.trans (HBW.out.mono HB2.out.size)⟩

set_option maxRecDepth 100000 in
set_option maxHeartbeats 8000000 in
theorem planFloor_any (W H S O : Int) (PA : Option Addr) (n c : Nat) (ps : List Pas) (OA : Option Addr) (on oc : Nat) (QA : Option Addr) (qn qc : Nat) (p : Pln) (w : World) (hn : ps.length = n) (hP : Passes w PA ps)
    (hO : Ints w OA p.Order) (hon : p.Order.length = on) (hol : on ≤ 9223372036854775807) (hQ : Ints w QA p.Places) (hqn : p.Places.length = qn) (hql : qn ≤ 9223372036854775807) :
    Calls Try.prog 19 #[.agg #[.int .i64 W, .int .i64 H, .int .i64 S, .int .i64 O, .slice PA n c], .agg #[.slice OA on oc, .slice QA qn qc]] w (RetIE w (floorAns ⟨W, H, S, O, ps⟩ p) (planErr ⟨W, H, S, O, ps⟩ p)) := by
  have hb := ((Below.refl w.heap.size w).alloc (Nat.le_refl _) (.cells #[.int .i64 W, .int .i64 H, .int .i64 S, .int .i64 O, .slice PA n c] 24)).alloc (by simp) (.cells #[.slice OA on oc, .slice QA qn qc] 27)
  have hbx := (show FrmBox (w.alloc (.cells #[.int .i64 W, .int .i64 H, .int .i64 S, .int .i64 O, .slice PA n c] 24)) w.heap.size W H S O PA n c from Blk.new w 24 (frmCells W H S O PA n c)).alloc (.cells #[.slice OA on oc, .slice QA qn qc] 27)
  have hpx : Blk ((w.alloc (.cells #[.int .i64 W, .int .i64 H, .int .i64 S, .int .i64 O, .slice PA n c] 24)).alloc (.cells #[.slice OA on oc, .slice QA qn qc] 27)) (w.heap.size + 1) 27 [.slice OA on oc, .slice QA qn qc] := Blk.newE (by simp)
  have hbg := begin_any W H S O PA n c ps OA on oc QA qn qc p _ hn (hP.keep hb) (hO.keep hb) hon hol (hQ.keep hb) hqn hql
  have hio := hO.keep hb
  have hiq := hQ.keep hb
  obtain ⟨f, hf⟩ : ∃ f : Frm, f = ⟨W, H, S, O, ps⟩ := ⟨_, rfl⟩
  rw [← hf] at hbg ⊢
  obtain ⟨w1, hw1⟩ : ∃ w1, (w.alloc (.cells #[.int .i64 W, .int .i64 H, .int .i64 S, .int .i64 O, .slice PA n c] 24)).alloc (.cells #[.slice OA on oc, .slice QA qn qc] 27) = w1 := ⟨_, rfl⟩
  rw [hw1] at hb hbx hpx hbg hio hiq
  have HB := hide hb
  have HPX := hide (Keeps.blk hpx)
  have HIO := hide (Keeps.ints hio)
  have HIQ := hide (Keeps.ints hiq)
  have HBG := hide hbg
  have HON := hide hon
  have HQN := hide hqn
  obtain ⟨x, q0, q1, q2, q3, q4⟩ := FrmBox.cells (show FrmBox _ _ W H S O PA n c from hbx)
  obtain ⟨y, r0, r1⟩ := plan_box hpx
  clear hn hP hO hQ hbx hpx hb hio hiq hbg hf hon hqn
  go_enter Try.func19, Try.ntmps19
  go_wp2_with fail
  refine (unhide HBG).mono ?_
  rintro e w2 ⟨hE2, ⟨hne, rfl⟩ | ⟨hz, g, ⟨hni, rfl⟩ | ⟨hin, rfl, hLk⟩⟩⟩
  · have HB2 := hide (HB.out.trans (hE2.mono HB.out.size))
    have hpe := planErr_frm (p := p) hne
    have HSA := hide (show floorAns f p = 0 from if_neg (by rw [hpe]; exact hne))
    obtain ⟨z, hz⟩ : ∃ z, frErr f = z := ⟨_, rfl⟩
    rw [hz] at hpe hne ⊢
    have HPE := hide hpe
    have hz2 : (z == 0) = false := by simpa using hne
    clear hE2 hne hz hpe hw1 HBG x q0 q1 q2 q3 q4 y r0 r1
    go_wp2_with fail
    go_ret2
    rw [HSA.out, HPE.out]
    exact ⟨rfl, HB2.out⟩
  · have HB2 := hide (HB.out.trans (hE2.mono HB.out.size))
    have HPE := hide (planErr_form hz hni)
    have HSA := hide (show floorAns f p = 0 from if_neg (by rw [HPE.out]; omega))
    clear hE2 hz hni hw1 HBG x q0 q1 q2 q3 q4 y r0 r1
    go_wp2_with fail
    go_ret2
    rw [HSA.out, HPE.out]
    exact ⟨rfl, HB2.out⟩
  · have HB2 := hide (HB.out.trans (hE2.mono HB.out.size))
    have HOK := hide (frErr_zero.1 hz)
    have HIN := hide hin
    have HPE := hide (planErr_ok hz hin)
    have HSA := hide (show floorAns f p = floorOf f p from if_pos HPE.out)
    have hle := hin.len
    have h12 := HOK.out.many
    obtain ⟨la, KA, kn, kc, SA, sc, RA, rn, rc, mb, XA, xc, hLB, hSA, hXA⟩ := hLk
    obtain ⟨N, hN⟩ : ∃ N, f.P.length = N := ⟨_, rfl⟩
    rw [hN] at hLB hSA hXA hle h12
    have HNN := hide hN
    rw [HON.out] at hle
    have HLB := hide (Keeps.blk hLB)
    have HSR := hide (Keeps.ints hSA)
    have HXR := hide (show Keeps w2 (fun W' => Spns W' XA (spansTo f p N)) from ⟨hXA, fun _ hb => Cells.keep hXA hb⟩)
    have HPX2 := hide (HPX.out.move hE2)
    have HIO2 := hide (HIO.out.move hE2)
    obtain ⟨y', r0', r1'⟩ := plan_box HPX2.out.now
    clear hE2 hz hin hLB hSA hXA hN hw1 HBG x q0 q1 q2 q3 q4 y r0 r1
    go_wp2_with fail
    clear y' r0' r1'
    go_loop [8, 9, 10, 12, 25] (fun a _ _ _ s => ∃ i : Nat, i ≤ on ∧ s = .int .i64 i ∧ a = .int .i64 (floorTo f p i)) (fun _ _ _ _ s => on - (intOf s).toNat)
    case atStart => exact ⟨0, Nat.zero_le _, rfl, rfl⟩
    case round =>
      obtain ⟨i, hi, rfl, rfl⟩ := hrel
      obtain ⟨y, r0, r1⟩ := plan_box HPX2.out.now
      have hfl := floorTo_bd HOK.out (p := p) i
      have hsu : floorTo f p (i + 1) = max (floorTo f p i) (needOrd f p (i : Int) on) := by
        rw [← HON.out, need_ord HIN.out]
        rfl
      obtain ⟨fl, hfle⟩ : ∃ a, floorTo f p i = a := ⟨_, rfl⟩
      rw [hfle] at hfl hsu
      rw [hfle]
      have HSU := hide hsu
      have HFL := hide hfle
      clear hfle hsu
      by_cases hil : i < on
      · have hi0 : (0 : Int) ≤ (i : Int) := by omega
        have hi1 : (i : Int) < (on : Int) := by omega
        go_wp2_with fail
        clear y r0 r1
        go_loop [10, 12, 31] (fun b _ s => ∃ j : Nat, j ≤ on ∧ s = .int .i64 j ∧ b = .int .i64 (needOrd f p (i : Int) j)) (fun _ _ s => on - (intOf s).toNat)
        case atStart => exact ⟨0, Nat.zero_le _, rfl, rfl⟩
        case round =>
          obtain ⟨j, hj, rfl, rfl⟩ := hrel
          have hne := needOrd_bd HOK.out HIN.out (i : Int) j (by rw [HON.out]; exact hj)
          by_cases hjl : j < on
          · have hj0 : (0 : Int) ≤ (j : Int) := by omega
            have hj1 : (j : Int) < (on : Int) := by omega
            obtain ⟨m, hm, hmf, hp0, hp1⟩ := ord_in HIN.out (i := j) (by rw [HON.out]; exact hjl)
            obtain ⟨v, v0, v1, v2, v3, v4, v5, v6, v7⟩ := look_at HLB.out.now
            obtain ⟨ob, oo, hOA, hob, co⟩ := ints_at HIO2.out.now (k := j) (by rw [HON.out]; exact hjl)
            obtain rfl := hOA
            rw [show p.Order.getD j 0 = p.ord j from rfl, hm] at co
            have hmq : m < N := by rw [← HNN.out]; exact hmf
            obtain ⟨sb, so, hSB, hsb, cs⟩ := areas_at HSR.out.now hmq
            obtain rfl := hSB
            obtain ⟨xb, xo, hXB, hxb, x0, x1⟩ := spns_at HXR.out.now hmq
            obtain rfl := hXB
            have hab := area_bd HOK.out hmf
            have hsuc : needOrd f p (i : Int) (j + 1) = if (spanOf f p m).First ≤ (i : Int) ∧ (i : Int) ≤ (spanOf f p m).Last then needOrd f p (i : Int) j + areaOf f m else needOrd f p (i : Int) j := by
              simp only [needOrd]
              rw [hm, Int.toNat_natCast]
            obtain ⟨am, ham⟩ : ∃ v, areaOf f m = v := ⟨_, rfl⟩
            obtain ⟨ne, hnee⟩ : ∃ v, needOrd f p (i : Int) j = v := ⟨_, rfl⟩
            obtain ⟨sf, hsf⟩ : ∃ v, (spanOf f p m).First = v := ⟨_, rfl⟩
            obtain ⟨sl, hsl⟩ : ∃ v, (spanOf f p m).Last = v := ⟨_, rfl⟩
            rw [ham, hnee, hsf, hsl] at hsuc
            rw [ham] at hab cs
            rw [hsf] at x0
            rw [hsl] at x1
            rw [hnee] at hne
            rw [hnee]
            have hwr : IntKind.i64.wrap (ne + am) = ne + am := IntWalk.i64_in _ (by omega)
            have hm0 : (0 : Int) ≤ (m : Int) := by omega
            have hm1 : (m : Int) < (N : Int) := by omega
            clear hm hmf ham hnee hsf hsl hp0 hp1
            by_cases c1 : sf ≤ (i : Int)
            · by_cases c2 : (i : Int) ≤ sl
              · have HSUC := hide (show needOrd f p (i : Int) (j + 1) = ne + am from by rw [hsuc, if_pos ⟨c1, c2⟩])
                clear hsuc
                go_wp2_with fail
                go_round
                case rel => exact ⟨j + 1, by omega, by go_num, by rw [HSUC.out]⟩
                case measure => simp [intOf]; omega
              · have HSUC := hide (show needOrd f p (i : Int) (j + 1) = ne from by rw [hsuc, if_neg (fun h => c2 h.2)])
                clear hsuc
                go_wp2_with fail
                go_round
                case rel => exact ⟨j + 1, by omega, by go_num, by rw [HSUC.out]⟩
                case measure => simp [intOf]; omega
            · have HSUC := hide (show needOrd f p (i : Int) (j + 1) = ne from by rw [hsuc, if_neg (fun h => c1 h.1)])
              clear hsuc
              go_wp2_with fail
              go_round
              case rel => exact ⟨j + 1, by omega, by go_num, by rw [HSUC.out]⟩
              case measure => simp [intOf]; omega
          · obtain rfl : j = on := by omega
            obtain ⟨ne, hnee⟩ : ∃ a, needOrd f p (i : Int) j = a := ⟨_, rfl⟩
            have HSUF := hide (show floorTo f p (i + 1) = max fl ne from by rw [HSU.out, hnee])
            rw [hnee] at hne
            rw [hnee]
            clear hnee
            go_wp2_with fail
            go_round
            case rel => exact ⟨i + 1, by omega, by go_num, by rw [HSUF.out]; congr 1; (first | rfl | omega)⟩
            case measure => simp [intOf]; omega
      · obtain rfl : i = on := by omega
        have HFF := hide (show fl = floorOf f p from by unfold floorOf; rw [← HFL.out, HON.out])
        go_wp2_with fail
        go_ret2
        rw [HSA.out, HPE.out]
        exact ⟨by rw [← HFF.out]; rfl, HB2.out⟩
end Go.Proofs.Ytibpmogmeoappab
