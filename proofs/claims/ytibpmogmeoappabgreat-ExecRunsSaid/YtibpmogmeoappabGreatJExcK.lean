/- Walk: RunOf (of the reference). -/
import Derived.Test.YtibpmogmeoappabGreatJExcF
import Derived.Test.YtibpmogmeoappabGreatJFrmC
namespace Go.Proofs.YtibpmogmeoappabGreat
open Go.RowKit

set_option maxRecDepth 100000 in
set_option maxHeartbeats 16000000 in
theorem runOf_ref (W H S O : Int) (PA : Option Addr) (n c : Nat) (pss : List Pas) (OA : Option Addr) (on oc : Nat) (QA : Option Addr) (qn qc : Nat) (p : Pln) (g s m d : Nat) (l : List Int) (w : World) (hn : pss.length = n) (hP : Passes w PA pss) (hl : n ≤ 9223372036854775807)
    (hO : Ints w OA p.Order) (hon : p.Order.length = on) (hQ : Ints w QA p.Places) (hqn : p.Places.length = qn) (hI : Ints w (some ⟨g, s, none⟩) l) (hm : l.length = m) (hmd : m ≤ d) (hok : ArOk ⟨W, H, S, O, pss⟩ p l) :
    Calls Tryz.prog 6 #[.agg #[.int .i64 W, .int .i64 H, .int .i64 S, .int .i64 O, .slice PA n c], .agg #[.slice OA on oc, .slice QA qn qc], .slice (some ⟨g, s, none⟩) m d] w (RetImg w (runImg ⟨W, H, S, O, pss⟩ p l)) := by
  have hb := (((Below.refl w.heap.size w).alloc (Nat.le_refl _) (.cells #[.int .i64 W, .int .i64 H, .int .i64 S, .int .i64 O, .slice PA n c] 24)).alloc (by simp) (.cells #[.slice OA on oc, .slice QA qn qc] 27)).alloc (by simp only [World.size_alloc]; omega) (.cells #[.int .i64 0, .int .i64 0, .slice none 0 0] 29)
  have hbx := ((show FrmBox (w.alloc (.cells #[.int .i64 W, .int .i64 H, .int .i64 S, .int .i64 O, .slice PA n c] 24)) w.heap.size W H S O PA n c from Blk.new w 24 (frmCells W H S O PA n c)).alloc (.cells #[.slice OA on oc, .slice QA qn qc] 27)).alloc (.cells #[.int .i64 0, .int .i64 0, .slice none 0 0] 29)
  have hpx : Blk (((w.alloc (.cells #[.int .i64 W, .int .i64 H, .int .i64 S, .int .i64 O, .slice PA n c] 24)).alloc (.cells #[.slice OA on oc, .slice QA qn qc] 27)).alloc (.cells #[.int .i64 0, .int .i64 0, .slice none 0 0] 29)) (w.heap.size + 1) 27 [.slice OA on oc, .slice QA qn qc] := (show Blk ((w.alloc (.cells #[.int .i64 W, .int .i64 H, .int .i64 S, .int .i64 O, .slice PA n c] 24)).alloc (.cells #[.slice OA on oc, .slice QA qn qc] 27)) (w.heap.size + 1) 27 [.slice OA on oc, .slice QA qn qc] from Blk.newE (by simp)).alloc _
  have hrx : Blk (((w.alloc (.cells #[.int .i64 W, .int .i64 H, .int .i64 S, .int .i64 O, .slice PA n c] 24)).alloc (.cells #[.slice OA on oc, .slice QA qn qc] 27)).alloc (.cells #[.int .i64 0, .int .i64 0, .slice none 0 0] 29)) (w.heap.size + 2) 29 [.int .i64 0, .int .i64 0, .slice none 0 0] := Blk.newE (by simp)
  have hcf := fun (W0 : World) (h1 : Passes W0 PA pss) => checkFrame_ref W H S O PA n c pss W0 hn h1 hl
  have hla := fun (W0 : World) (h1 : Passes W0 PA pss) => lastOf_ref W H S O PA n c pss W0 hn h1 hl
  have hst := fun (g' s' d' i : Nat) (l' : List Int) (W0 : World) (h1 : Passes W0 PA pss) (h2 : Ints W0 OA p.Order) (h3 : Ints W0 QA p.Places) (h4 : Ints W0 (some ⟨g', s', none⟩) l') (h5 : l'.length = m) (h6 : m ≤ d') (h7 : ArOk ⟨W, H, S, O, pss⟩ p l') (h8 : i < on) => stepOf_run W H S O PA n c pss OA on oc QA qn qc p g' s' m d' l' i W0 hn h1 hl h2 hon h3 hqn h4 h5 h6 h7 h8
  have hio := hO.keep hb
  have hiq := hQ.keep hb
  have hig := hI.keep hb
  have hpp := hP.keep hb
  obtain ⟨f, hf⟩ : ∃ f : Frm, f = ⟨W, H, S, O, pss⟩ := ⟨_, rfl⟩
  have hfn : f.P.length = n := by rw [hf]; exact hn
  rw [← hf] at hcf hla hst hok ⊢
  have hfe := frErr_zero.2 hok.frm
  rw [hfe] at hcf
  obtain ⟨w1, hw1⟩ : ∃ w1, ((w.alloc (.cells #[.int .i64 W, .int .i64 H, .int .i64 S, .int .i64 O, .slice PA n c] 24)).alloc (.cells #[.slice OA on oc, .slice QA qn qc] 27)).alloc (.cells #[.int .i64 0, .int .i64 0, .slice none 0 0] 29) = w1 := ⟨_, rfl⟩
  rw [hw1] at hb hbx hpx hrx hio hiq hig hpp
  have hqf : p.Places.length = f.P.length := hok.ord.places
  have hl9 := hok.last
  obtain ⟨qb, qo, rfl, hqb⟩ := places_addr hQ (by omega)
  have HB := hide hb
  have HBX := hide (Keeps.blk hbx)
  have HPX := hide (Keeps.blk hpx)
  have HRX := hide hrx
  have HIO := hide (Keeps.ints hio)
  have HIQ := hide (Keeps.ints hiq)
  have HIG := hide (Keeps.ints hig)
  have HP := hide (Keeps.passes hpp)
  have HCF := hide hcf
  have HLA := hide hla
  have HST := hide hst
  have HOK := hide hok
  have HON := hide hon
  have hon12 : on ≤ 12 := by have := hok.ord.len; have := hok.frm.many; omega
  have HQN := hide hqn
  have HFN := hide hfn
  have HMM := hide (show l.length = m ∧ m ≤ d ∧ m ≤ 4096 from ⟨hm, hmd, by have := hok.room; omega⟩)
  have hs1 : w.heap.size + 3 ≤ w1.heap.size := by have := hrx.lt; omega
  obtain ⟨x, q0, q1, q2, q3, q4⟩ := FrmBox.cells (show FrmBox _ _ W H S O PA n c from hbx)
  obtain ⟨y, r0, r1⟩ := plan_box hpx
  clear hn hP hO hQ hI hm hmd hok hbx hpx hrx hb hio hiq hig hpp hcf hla hst hf hfn hon hqn hl hqf hfe
  go_enter Tryz.func6, Tryz.ntmps6
  go_wp2_with fail
  go_loopw [2, 7] (fun s2 i7 wr => ∃ (i g' s' d' : Nat), i ≤ on ∧ i7 = .int .i64 i ∧ s2 = .slice (some ⟨g', s', none⟩) m d' ∧ Hid (Ints wr (some ⟨g', s', none⟩) (runTo f p l i)) ∧ Hid (m ≤ d') ∧ Hid (Below w1.heap.size w1 wr)) (fun _ i7 _ => on - (intOf i7).toNat)
  case atStart => exact ⟨0, g, s, d, Nat.zero_le _, rfl, rfl, hide HIG.out.now, hide HMM.out.2.1, hide (Below.refl _ _)⟩
  case round =>
    obtain ⟨i, g', s', d', hi, rfl, rfl, HAR, HMD, HBW⟩ := hrel
    clear q0 q1 q2 q3 q4 r0 r1 y x
    obtain ⟨x, q0, q1, q2, q3, q4⟩ := FrmBox.cells (show FrmBox _ _ W H S O PA n c from HBX.out.later _ HBW.out)
    obtain ⟨y, r0, r1⟩ := plan_box (HPX.out.later _ HBW.out)
    have hRO := runTo_ok HOK.out (i := i) (by rw [HON.out]; exact hi)
    by_cases hlt : i < on
    · have hi0 : (0 : Int) ≤ (i : Int) := by omega
      have hi1 : (i : Int) < (on : Int) := by omega
      have HSP := hide ((unhide HST) g' s' d' i (runTo f p l i) wr (HP.out.later _ HBW.out) (HIO.out.later _ HBW.out) (HIQ.out.later _ HBW.out) HAR.out (hRO.2.trans HMM.out.1) HMD.out hRO.1 hlt)
      have HL2 := hide ((runTo_ok HOK.out (i := i + 1) (by rw [HON.out]; omega)).2.trans HMM.out.1)
      have hnx : stepAr f p (runTo f p l i) (p.ord i).toNat = runTo f p l (i + 1) := rfl
      rw [hnx] at HSP
      clear hRO hnx
      go_wp2_with fail
      refine (unhide HSP).mono ?_
      rintro e w2 ⟨g2, d2, rfl, hd2, hI2, hg2, hE2⟩
      have hlen := HL2.out
      rw [hlen] at hd2
      rw [hlen]
      have HI2 := hide hI2
      have HD2 := hide hd2
      have HB2 := hide (HBW.out.trans (hE2.mono HBW.out.size))
      clear hI2 hd2 hg2 hE2 HSP q0 q1 q2 q3 q4 r0 r1 hlen
      go_wp2_with fail
      go_roundw
      case rel => exact ⟨i + 1, g2, 0, d2, by omega, by go_num, rfl, HI2, HD2, HB2⟩
      case measure => simp [intOf]; omega
    · obtain rfl : i = on := by omega
      obtain ⟨⟨l0, l1⟩, l2⟩ := hl9
      obtain ⟨k, hk⟩ : ∃ k : Nat, frLast f = (k : Int) := ⟨(frLast f).toNat, by omega⟩
      rw [hk, Int.toNat_natCast] at l2
      have hrun : runImg f p l = lieAt (runTo f p l i) f p k := by unfold runImg; rw [HON.out, hk, Int.toNat_natCast]
      have HRO := hide hRO.1
      have hrl := hRO.2
      have HLC := hide (fun (W0 : World) (h1 : Passes W0 PA pss) => (show Calls Tryz.prog 18 #[.agg #[.int .i64 W, .int .i64 H, .int .i64 S, .int .i64 O, .slice PA n c]] W0 (fun e w' => e = .returned (.int .i64 (k : Int)) ∧ Below W0.heap.size W0 w') from by rw [← hk]; exact (unhide HLA) W0 h1))
      have hkn : k < n := by have := HFN.out; omega
      have hkf : k < f.P.length := by rw [HFN.out]; exact hkn
      have HL2 := hide l2
      have HRUN := hide hrun
      have HRL := hide hrl
      have HKF := hide hkf
      have HCF2 := hide ((unhide HCF) wr (HP.out.later _ HBW.out))
      clear hRO l0 l1 l2 hk hrun hrl hkf HLA HCF HST
      go_wp2_with fail
      refine (unhide HCF2).mono ?_
      rintro e w5 ⟨ZA, zn, zc, rfl, hzn, hZ, hE5⟩
      have hz5 := HOK.out.frm
      obtain ⟨zb, zo, rfl, hzb, cz0, cz1⟩ := Sizes.at_ hZ (i := k) (by rw [sizes_len HOK.out.frm]; exact HKF.out)
      rw [size_at HOK.out.frm HKF.out] at cz0 cz1
      have hpl := HRO.out.place HKF.out HL2.out
      have hsz := frSize_bd HOK.out.frm HKF.out
      have hB5 := HBW.out.trans (hE5.mono HBW.out.size)
      have cq := places_at (HIQ.out.later _ hB5) (x := k) (by rw [HOK.out.ord.places]; exact HKF.out) rfl
      obtain ⟨y, r0, r1⟩ := plan_box (HPX.out.later _ hB5)
      obtain ⟨x, q0, q1, q2, q3, q4⟩ := FrmBox.cells (show FrmBox _ _ W H S O PA n c from HBX.out.later _ hB5)
      obtain ⟨sw, hsw⟩ : ∃ sw, (frSize f k).W = sw := ⟨_, rfl⟩
      obtain ⟨sh, hsh⟩ : ∃ sh, (frSize f k).H = sh := ⟨_, rfl⟩
      obtain ⟨pk, hpk⟩ : ∃ pk, p.pl k = pk := ⟨_, rfl⟩
      obtain ⟨a, ha⟩ : ∃ a : Nat, areaOf f k = (a : Int) := ⟨(areaOf f k).toNat, by omega⟩
      obtain ⟨o, ho⟩ : ∃ o : Nat, pk = (o : Int) := ⟨pk.toNat, by omega⟩
      have har : sw * sh = (a : Int) := by rw [← ha]; unfold areaOf; rw [hsw, hsh]
      have hlie : lieAt (runTo f p l i) f p k = ⟨sw, sh, ((runTo f p l i).drop o).take a⟩ := by unfold lieAt; rw [hsw, hsh, hpk, ho, ha]; rfl
      rw [hsw] at cz0
      rw [hsh] at cz1
      rw [hpk] at cq
      rw [hpk, ho, ha] at hpl
      rw [ha] at hsz
      have hrl := HRL.out
      have hmm := HMM.out
      have HLR := hide (fun (W0 : World) (h : Ints W0 (some ⟨g', s', none⟩) (runTo f p l i)) => lies_ref g' s' m d' (runTo f p l i) sw sh pk o a W0 h (by omega) HMD.out ho har (by omega) (by omega) (by omega) hmm.2.2)
      rw [← hlie, ← HRUN.out] at HLR
      have HAR5 := hide (Keeps.ints (HAR.out.keep hE5))
      have HRX5 := hide (HRX.out.keep hB5)
      have HB5 := hide hB5
      have hz9 : (k : Int) < (zn : Int) := by have := sizes_len HOK.out.frm; have := HFN.out; omega
      have hq9 : (k : Int) < (qn : Int) := by have := HQN.out; have := HOK.out.ord.places; have := HFN.out; omega
      have hk0 : (0 : Int) ≤ (k : Int) := by omega
      have HCS := hide (show Keeps w5 (fun w' : World => w'.cell? ⟨w.heap.size, 0, none⟩ = some (.int .i64 W) ∧ w'.cell? ⟨w.heap.size, 1, none⟩ = some (.int .i64 H) ∧ w'.cell? ⟨w.heap.size, 2, none⟩ = some (.int .i64 S) ∧ w'.cell? ⟨w.heap.size, 3, none⟩ = some (.int .i64 O) ∧ w'.cell? ⟨w.heap.size, 4, none⟩ = some (.slice PA n c) ∧ w'.cell? ⟨w.heap.size + 1, 1, none⟩ = some (.slice (some ⟨qb, qo, none⟩) qn qc) ∧ w'.cell? ⟨zb, zo + k * 2, none⟩ = some (.int .i64 sw) ∧ w'.cell? ⟨zb, zo + k * 2 + 1, none⟩ = some (.int .i64 sh) ∧ w'.cell? ⟨qb, qo + k, none⟩ = some (.int .i64 pk)) from ⟨⟨q0, q1, q2, q3, q4, r1, cz0, cz1, cq⟩, fun _ hb => ⟨keepC hb q0, keepC hb q1, keepC hb q2, keepC hb q3, keepC hb q4, keepC hb r1, keepC hb cz0, keepC hb cz1, keepC hb cq⟩⟩)
      have hzlt : zb < w5.heap.size := World.block_lt_of_cell? w5 _ cz0
      have HP5 := hide (HP.out.move hB5)
      have hnz : zb ≠ w.heap.size + 2 := by
        intro e
        subst e
        rw [HRX5.out.cell] at cz0
        have h1 := hsz.1.1.1
        rw [hsw] at h1
        generalize zo + k * 2 = j at cz0
        rcases j with _ | _ | _ | j <;> simp at cz0 <;> omega
      have hnq : qb ≠ w.heap.size + 2 := by omega
      have HS3 := hide (fun (w9 : World) (hb : Below w5.heap.size w5 w9) (u0 u1 u2 : Value) => (show (fun w' : World => w'.cell? ⟨w.heap.size, 0, none⟩ = some (.int .i64 W) ∧ w'.cell? ⟨w.heap.size, 1, none⟩ = some (.int .i64 H) ∧ w'.cell? ⟨w.heap.size, 2, none⟩ = some (.int .i64 S) ∧ w'.cell? ⟨w.heap.size, 3, none⟩ = some (.int .i64 O) ∧ w'.cell? ⟨w.heap.size, 4, none⟩ = some (.slice PA n c) ∧ w'.cell? ⟨w.heap.size + 1, 1, none⟩ = some (.slice (some ⟨qb, qo, none⟩) qn qc) ∧ w'.cell? ⟨zb, zo + k * 2, none⟩ = some (.int .i64 sw) ∧ w'.cell? ⟨zb, zo + k * 2 + 1, none⟩ = some (.int .i64 sh) ∧ w'.cell? ⟨qb, qo + k, none⟩ = some (.int .i64 pk)) (((w9.setCell ⟨w.heap.size + 2, 0, none⟩ u0).setCell ⟨w.heap.size + 2, 1, none⟩ u1).setCell ⟨w.heap.size + 2, 2, none⟩ u2) from by
        obtain ⟨e0, e1, e2, e3, e4, e5, e6, e7, e8⟩ := HCS.out.later _ hb
        refine ⟨?_, ?_, ?_, ?_, ?_, ?_, ?_, ?_, ?_⟩
        all_goals first | exact cellFar (cellFar (cellFar e0 (by simp)) (by simp)) (by simp) | exact cellFar (cellFar (cellFar e1 (by simp)) (by simp)) (by simp) | exact cellFar (cellFar (cellFar e2 (by simp)) (by simp)) (by simp) | exact cellFar (cellFar (cellFar e3 (by simp)) (by simp)) (by simp) | exact cellFar (cellFar (cellFar e4 (by simp)) (by simp)) (by simp) | exact cellFar (cellFar (cellFar e5 (by simp)) (by simp)) (by simp) | exact cellFar (cellFar (cellFar e6 hnz) hnz) hnz | exact cellFar (cellFar (cellFar e7 hnz) hnz) hnz | exact cellFar (cellFar (cellFar e8 hnq) hnq) hnq))
      clear hzn hZ hE5 hz5 cz0 cz1 hpl hsz hB5 cq r0 r1 q0 q1 q2 q3 q4 x y hsw hsh hpk ha har hlie hrl hmm HCF2 ho
      go_wp2_with fail
      go_region_held3 (fun w' : World => w'.cell? ⟨w.heap.size, 0, none⟩ = some (.int .i64 W) ∧ w'.cell? ⟨w.heap.size, 1, none⟩ = some (.int .i64 H) ∧ w'.cell? ⟨w.heap.size, 2, none⟩ = some (.int .i64 S) ∧ w'.cell? ⟨w.heap.size, 3, none⟩ = some (.int .i64 O) ∧ w'.cell? ⟨w.heap.size, 4, none⟩ = some (.slice PA n c) ∧ w'.cell? ⟨w.heap.size + 1, 1, none⟩ = some (.slice (some ⟨qb, qo, none⟩) qn qc) ∧ w'.cell? ⟨zb, zo + k * 2, none⟩ = some (.int .i64 sw) ∧ w'.cell? ⟨zb, zo + k * 2 + 1, none⟩ = some (.int .i64 sh) ∧ w'.cell? ⟨qb, qo + k, none⟩ = some (.int .i64 pk))
        (first | exact hS9 _ _ _ | exact HCS.out.later _ hB4 | exact HCS.out.later _ hB3 | exact HCS.out.later _ hB2 | exact HCS.out.later _ (Below.refl _ _).drew)
        (first
          | (go_simp; go_at_call 18; refine ((unhide HLC) _ (HP5.out.later _ hB2)).mono ?_; rintro e w3 ⟨rfl, hE3⟩; have hB3 : Below w5.heap.size w5 w3 := hB2.trans (hE3.mono hB2.size))
          | (go_simp; go_at_call 18; refine ((unhide HLC) _ (HP5.out.later _ (Below.refl _ _).drew)).mono ?_; rintro e w2 ⟨rfl, hE2⟩; have hB2 : Below w5.heap.size w5 w2 := (Below.refl _ _).drew.trans hE2)
          | (go_simp; go_at_call 17; refine ((unhide HLR) _ (HAR5.out.later _ hB3)).mono ?_; rintro e w4 ⟨U1, H1, P1, A1, n1, c1, hr, hn1, rfl, hI1, hA1, hE4⟩; have hB4 : Below w5.heap.size w5 w4 := hB3.trans (hE4.mono hB3.size); obtain ⟨t0, t1, t2, t3, t4, t5, t6⟩ := resKeep hB4 HRX5.out; have hS9 := (unhide HS3) _ hB4))
      all_goals
        go_wp2_with fail
        refine bodyPost_ret (v := .agg #[.int .i64 U1, .int .i64 H1, .slice A1 n1 c1]) ?_ rfl ?_
        · simp [results, Tryz.results6, go_sem, t1, t2, t3]
        · exact retPut (w0 := w3) hr hn1 hI1 hA1 (by have := hB3.size; have := HB5.out.size; omega) (by omega) (HB.out.trans ((HB5.out.trans (hB4.mono HB5.out.size)).mono HB.out.size)) _ _ _
end Go.Proofs.YtibpmogmeoappabGreat
