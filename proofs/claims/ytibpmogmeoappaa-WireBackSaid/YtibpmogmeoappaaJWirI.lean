/- Walk: FrameFrom (of the reference). -/
import Derived.Test.YtibpmogmeoappaaJWirG
namespace Go.Proofs.Ytibpmogmeoappaa
open Go.RowKit

theorem lamp_bytes (l : Lamp) : Bytes (lampBytes l) := by rw [lamp_low]; exact low_bytes _
theorem Bytes.app {a b : List Int} (ha : Bytes a) (hb : Bytes b) : Bytes (a ++ b) := fun x hx => (List.mem_append.1 hx).elim (ha x) (hb x)
theorem pas_bytes (p : Pas) : Bytes (pasBytes p) := by
  rw [pas_low]
  refine (low_bytes _).app fun x hx => ?_
  obtain ⟨l, _, hx⟩ := List.mem_flatMap.1 hx
  exact lamp_bytes l x hx
theorem frm_bytes (f : Frm) : Bytes (frmBytes f) := by
  rw [frm_low]
  refine (low_bytes _).app fun x hx => ?_
  obtain ⟨p, _, hx⟩ := List.mem_flatMap.1 hx
  exact pas_bytes p x hx
/-- what comes is a frame, and whether there is one -/
def RetFrom (w : World) (s : List Int) (e : Ending) (w' : World) : Prop :=
  ∃ (A : Option Addr) (n c : Nat), e = .returned (.tuple #[.agg #[.int .i64 ((fromFrm s).getD noFrm).W, .int .i64 ((fromFrm s).getD noFrm).H, .int .i64 ((fromFrm s).getD noFrm).S, .int .i64 ((fromFrm s).getD noFrm).O, .slice A n c], .bool (fromFrm s).isSome]) ∧ ((fromFrm s).getD noFrm).P.length = n ∧ Passes w' A ((fromFrm s).getD noFrm).P ∧ Below w.heap.size w w'
theorem lxPs_snoc {m : Nat} {u : List Int} {ps : List Pas} {N : Nat} {t : List Int} (h : lxPs N t = (ps ++ (lxPs (m + 1) u).1, (lxPs (m + 1) u).2)) : lxPs N t = ((ps ++ [(lxPas u).1]) ++ (lxPs m (lxPas u).2).1, (lxPs m (lxPas u).2).2) := by
  rw [h]; simp [lxPs]
theorem lxLamps_snoc {m : Nat} {u : List Int} {ls : List Lamp} {N : Nat} {t : List Int} (h : lxLamps N t = (ls ++ (lxLamps (m + 1) u).1, (lxLamps (m + 1) u).2)) : lxLamps N t = ((ls ++ [(lxLamp u).1]) ++ (lxLamps m (lxLamp u).2).1, (lxLamps m (lxLamp u).2).2) := by
  rw [h]; simp [lxLamps]
theorem read_results2 (tmps : Array Value) (fb : Nat) (b : Bool) (h2 : tmps.getD 2 undef = .pointer (some ⟨fb, 0, none⟩)) (h3 : tmps.getD 3 undef = .bool b) (W H S O : Int) (A : Option Addr) (n c : Nat) (w : World) (hF : Blk w fb 63 (frmCells W H S O A n c)) :
    (results Try.f43 tmps).run Try.prog w = .ok (.tuple #[.agg #[.int .i64 W, .int .i64 H, .int .i64 S, .int .i64 O, .slice A n c], .bool b]) w := by
  obtain ⟨x, q0, q1, q2, q3, q4⟩ := FrmBox.cells (show FrmBox _ _ W H S O A n c from hF)
  have k2 : tmps[2]?.getD undef = .pointer (some ⟨fb, 0, none⟩) := by rw [← h2]; simp
  have k3 : tmps[3]?.getD undef = .bool b := by rw [← h3]; simp
  simp [results, Try.results43, k2, k3, go_sem, q0, q1, q2, q3, q4]
set_option maxRecDepth 100000 in
set_option maxHeartbeats 16000000 in
theorem from_any (z : ByteArray) (w : World) : Calls Try.prog 43 #[.string z] w (RetFrom w (strL z)) := by
  obtain ⟨p0i, hpi, pz0, pz1, pz2⟩ := info_parts Try.infoPas
  obtain ⟨l0i, hli, lz0, lz1, lz2⟩ := info_parts Try.info59
  have hby := strL_bytes z
  obtain ⟨s, hs⟩ : ∃ s, strL z = s := ⟨_, rfl⟩
  rw [hs] at hby ⊢
  obtain ⟨B, hB⟩ : ∃ B, B = w.heap.size := ⟨_, rfl⟩
  have HS := hide hs
  have HY := hide hby
  clear hs hby
  go_enter Try.func43, Try.ntmps43
  go_wp2_with fail
  obtain ⟨W0, hW0⟩ : ∃ W0, (w.alloc (.cells #[.int .i64 0, .int .i64 0, .int .i64 0, .int .i64 0, .slice none 0 0] 63)).alloc (.cells #[.string z] 125) = W0 := ⟨_, rfl⟩
  have hF0 : Blk W0 B 63 (frmCells 0 0 0 0 none 0 0) := by
    subst hB hW0
    exact (Blk.new w 63 (frmCells 0 0 0 0 none 0 0)).alloc _
  have hG0 : EyeAt W0 (B + 1) s := by
    subst hB hW0
    exact ⟨z, HS.out, Blk.newE (cs := [.string z]) (by simp)⟩
  have hB0 : Below B w W0 := by
    subst hB hW0
    exact ((Below.refl _ _).alloc (Nat.le_refl _) _).alloc (by simp) _
  have hs0 : W0.heap.size = B + 2 := by
    subst hB hW0
    simp
  rw [hW0, ← hB]
  have HB0 := hide hB0
  have HF0 := hide hF0
  have HBQ := hide hB
  clear hF0 hW0 hB0 hB
  refine (byte_at (B + 1) 0 s W0 hG0).mono ?_
  rintro e w1 ⟨rfl, hg1, hr1, hz1⟩
  go_wp2_with fail
  refine (byte_at (B + 1) 1 s w1 hg1).mono ?_
  rintro e w2 ⟨rfl, hg2, hr2, hz2⟩
  go_wp2_with fail
  refine (byte_at (B + 1) 2 s w2 hg2).mono ?_
  rintro e w3 ⟨rfl, hg3, hr3, hz3⟩
  go_wp2_with fail
  refine (byte_at (B + 1) 3 s w3 hg3).mono ?_
  rintro e w4 ⟨rfl, hg4, hr4, hz4⟩
  have hr04 := grown_trB (grown_trB (grown_trB hr1 hr2) hr3) hr4
  obtain ⟨W, hW⟩ : ∃ W, byN s 0 = W := ⟨_, rfl⟩
  obtain ⟨H, hH⟩ : ∃ H, byN s 1 = H := ⟨_, rfl⟩
  obtain ⟨S, hS⟩ : ∃ S, byN s 2 = S := ⟨_, rfl⟩
  obtain ⟨O, hO⟩ : ∃ O, byN s 3 = O := ⟨_, rfl⟩
  have hlx : lxFrm s = (⟨W, H, S, O, (lxPs (byN s 4).toNat (s.drop 5)).1⟩, (lxPs (byN s 4).toNat (s.drop 5)).2) := by rw [← hW, ← hH, ← hS, ← hO]; rfl
  rw [hW, hH, hS, hO]
  have HG4 := hide hg4
  have HR4 := hide hr04
  have HLX := hide hlx
  clear hg1 hg2 hg3 hg4 hr1 hr2 hr3 hr4 hr04 hW hH hS hO hlx hG0
  have hs4 : w4.heap.size = B + 2 := by omega
  clear hz1 hz2 hz3 hz4
  go_wp2_with fail
  have hF4 : Blk (w4.alloc (.cells #[.int .i64 W, .int .i64 H, .int .i64 S, .int .i64 O, .slice none 0 0] 63)) (B + 2) 63 (frmCells W H S O none 0 0) := Blk.newE (cs := frmCells W H S O none 0 0) hs4
  have hres4 : Blk w4 B 63 (frmCells 0 0 0 0 none 0 0) := HF0.out.other HR4.out (by omega)
  have hbel4 : Below B w w4 := HB0.out.trans (below_of_grown HR4.out (by omega) (by omega))
  refine (byte_at (B + 1) 4 s _ (HG4.out.keep ((Below.refl _ _).alloc (Nat.le_refl _) _))).mono ?_
  rintro e w5 ⟨rfl, hg5, hr5, hz5⟩
  have hR5 : RdX w B W H S O [] [] none 0 0 (s.drop 5) w5 := ⟨hF4.other hr5 (by omega), (hres4.alloc _).other hr5 (by omega), hg5, GRow.nil _ _ _ _ _, (fun e he => by cases he), (hbel4.alloc (by omega) _).trans (below_of_grown hr5 (by simp; omega) (by omega)), rfl⟩
  have HR5 := hide hR5
  obtain ⟨N, hN⟩ : ∃ N : Nat, byN s 4 = (N : Int) := ⟨(byN s 4).toNat, by have := byte_bd HY.out 4; omega⟩
  have hN9 : N ≤ 255 := by have := byte_bd HY.out 4; omega
  obtain ⟨t, ht⟩ : ∃ t, s.drop 5 = t := ⟨_, rfl⟩
  have HLF := hide (show lxFrm s = (⟨W, H, S, O, (lxPs N t).1⟩, (lxPs N t).2) from by rw [HLX.out, hN, ht]; rfl)
  have HYT := hide (show Bytes t from by rw [← ht]; exact HY.out.drop 5)
  rw [hN]
  rw [ht] at HR5
  clear hF4 hres4 hbel4 hg5 hr5 hz5 hR5 hN ht HG4 HR4 HLX hs0 hs4 HF0 HB0
  go_wp2_with fail
  go_loopw [6, 7, 8, 9] (fun s6 _ _ _ wr => ∃ (m i : Nat) (ps : List Pas) (es : List (List Value × Option Addr × List Value)) (A : Option Addr) (c : Nat) (u : List Int), i + m = N ∧ s6 = .int .i64 (m : Int) ∧ Hid (RdX w B W H S O ps es A i c u wr) ∧ Hid (lxPs N t = (ps ++ (lxPs m u).1, (lxPs m u).2)) ∧ Hid (Bytes u)) (fun s6 _ _ _ _ => (intOf s6).toNat)
  case atStart => exact ⟨N, 0, [], [], none, 0, t, by omega, rfl, HR5, hide (by simp), HYT⟩
  case round =>
    obtain ⟨m, i, ps, es, A, c, u, him, rfl, HR, HQ, HYU⟩ := hrel
    obtain ⟨wo, rfl⟩ : ∃ wo : World, wo = wr := ⟨_, rfl⟩
    by_cases hm0 : m = 0
    · subst hm0
      have hlxf : lxFrm s = (⟨W, H, S, O, ps⟩, u) := by rw [HLF.out, HQ.out]; simp [lxPs]
      have HLXF := hide hlxf
      obtain ⟨x, q0, q1, q2, q3, q4⟩ := FrmBox.cells (show FrmBox _ _ W H S O A i c from HR.out.out)
      have HCF := hide (checkFrame_ref W H S O A i c ps wo HR.out.len HR.out.row.passesW (by omega))
      clear hlxf HLF
      go_wp2_with fail
      refine (unhide HCF).mono ?_
      rintro e w5 ⟨ZA, zn, zc, rfl, -, -, hE5⟩
      have hr5 := HR.out.grow (grown_ofB hE5 _) (HR.out.eye.keep hE5)
      obtain ⟨x', p0, p1, p2, p3, p4⟩ := FrmBox.cells (show FrmBox _ _ W H S O A i c from hr5.out)
      have hres := hr5.res
      obtain ⟨x'', r0, r1, r2, r3, r4⟩ := FrmBox.cells (show FrmBox _ _ 0 0 0 0 none 0 0 from hr5.res)
      have s0 := Blk.frozen hr5.res 0
      have s1 := Blk.frozen hr5.res 1
      have s2 := Blk.frozen hr5.res 2
      have s3 := Blk.frozen hr5.res 3
      have s4 := Blk.frozen hr5.res 4
      have HR5 := hide hr5
      obtain ⟨er, her⟩ : ∃ er, frErr ⟨W, H, S, O, ps⟩ = er := ⟨_, rfl⟩
      rw [her]
      clear hE5 hr5 hres x q0 q1 q2 q3 q4
      by_cases hz : er = 0
      · subst hz
        have HFB := hide (frameBytes_ref W H S O A i c ps w5 HR5.out.len HR5.out.row.passesW (frErr_zero.1 her))
        have HER := hide her
        clear her
        go_wp2_with fail
        refine (unhide HFB).mono ?_
        rintro e w6 ⟨rfl, hE6⟩
        have hr6 := HR5.out.grow (grown_ofB hE6 _) (HR5.out.eye.keep hE6)
        obtain ⟨y', z0, z1, z2, z3, z4⟩ := FrmBox.cells (show FrmBox _ _ W H S O A i c from hr6.out)
        obtain ⟨y'', t0, t1, t2, t3, t4⟩ := FrmBox.cells (show FrmBox _ _ 0 0 0 0 none 0 0 from hr6.res)
        have u0 := Blk.frozen hr6.res 0
        have u1 := Blk.frozen hr6.res 1
        have u2 := Blk.frozen hr6.res 2
        have u3 := Blk.frozen hr6.res 3
        have u4 := Blk.frozen hr6.res 4
        have HR6 := hide hr6
        clear hE6 hr6 p0 p1 p2 p3 p4 r0 r1 r2 r3 r4 s0 s1 s2 s3 s4
        obtain ⟨bs, hbs⟩ : ∃ bs, frmBytes ⟨W, H, S, O, ps⟩ = bs := ⟨_, rfl⟩
        have hbb : Bytes bs := by rw [← hbs]; exact frm_bytes _
        have hbq := strL_beq (mkS bs) z
        rw [strL_mk hbb, HS.out] at hbq
        rw [hbs]
        by_cases hfs : bs = s
        · rw [decide_eq_true hfs] at hbq
          have hbn : ((mkS bs).toList != z.toList) = false := by rw [bne, hbq]; rfl
          have hrf : fromFrm s = some ⟨W, H, S, O, ps⟩ := by
            unfold fromFrm
            rw [HLXF.out]
            simp only
            rw [if_pos ⟨HER.out, by rw [hbs]; exact hfs⟩]
          have HRF := hide hrf
          clear hrf hfs hbb hbs
          go_wp2_with fail
          have hF : Blk (((((w6.setCell ⟨B, 0, none⟩ (.int .i64 W)).setCell ⟨B, 1, none⟩ (.int .i64 H)).setCell ⟨B, 2, none⟩ (.int .i64 S)).setCell ⟨B, 3, none⟩ (.int .i64 O)).setCell ⟨B, 4, none⟩ (.slice A i c)) B 63 (frmCells W H S O A i c) := ((((HR6.out.res.set_ 0 (.int .i64 W)).set_ 1 (.int .i64 H)).set_ 2 (.int .i64 S)).set_ 3 (.int .i64 O)).set_ 4 (.slice A i c)
          have hbw := ((((HR6.out.below.setCell (p := ⟨B, 0, none⟩) (Nat.le_refl _) (.int .i64 W)).setCell (p := ⟨B, 1, none⟩) (Nat.le_refl _) (.int .i64 H)).setCell (p := ⟨B, 2, none⟩) (Nat.le_refl _) (.int .i64 S)).setCell (p := ⟨B, 3, none⟩) (Nat.le_refl _) (.int .i64 O)).setCell (p := ⟨B, 4, none⟩) (Nat.le_refl _) (.slice A i c)
          have hrow := ((((HR6.out.row.farW HR6.out.new (p := ⟨B, 0, none⟩) (by simp only; omega) (.int .i64 W)).farW HR6.out.new (p := ⟨B, 1, none⟩) (by simp only; omega) (.int .i64 H)).farW HR6.out.new (p := ⟨B, 2, none⟩) (by simp only; omega) (.int .i64 S)).farW HR6.out.new (p := ⟨B, 3, none⟩) (by simp only; omega) (.int .i64 O)).farW HR6.out.new (p := ⟨B, 4, none⟩) (by simp only; omega) (.slice A i c)
          refine bodyPost_ret (read_results2 _ B true rfl rfl W H S O A i c _ hF) rfl ?_
          unfold RetFrom
          rw [HRF.out]
          exact ⟨A, i, c, rfl, HR6.out.len, hrow.passesW, by rw [← HBQ.out]; exact hbw⟩
        · rw [decide_eq_false hfs] at hbq
          have hbn : ((mkS bs).toList != z.toList) = true := by rw [bne, hbq]; rfl
          have hrf : fromFrm s = none := by
            unfold fromFrm
            rw [HLXF.out]
            simp only
            rw [if_neg (fun h => hfs (by rw [← hbs]; exact h.2))]
          have HRF := hide hrf
          clear hrf hfs hbb hbs
          go_wp2_with fail
          have hF : Blk (((((w6.setCell ⟨B, 0, none⟩ (.int .i64 0)).setCell ⟨B, 1, none⟩ (.int .i64 0)).setCell ⟨B, 2, none⟩ (.int .i64 0)).setCell ⟨B, 3, none⟩ (.int .i64 0)).setCell ⟨B, 4, none⟩ (.slice none 0 0)) B 63 (frmCells 0 0 0 0 none 0 0) := ((((HR6.out.res.set_ 0 (.int .i64 0)).set_ 1 (.int .i64 0)).set_ 2 (.int .i64 0)).set_ 3 (.int .i64 0)).set_ 4 (.slice none 0 0)
          have hbw := ((((HR6.out.below.setCell (p := ⟨B, 0, none⟩) (Nat.le_refl _) (.int .i64 0)).setCell (p := ⟨B, 1, none⟩) (Nat.le_refl _) (.int .i64 0)).setCell (p := ⟨B, 2, none⟩) (Nat.le_refl _) (.int .i64 0)).setCell (p := ⟨B, 3, none⟩) (Nat.le_refl _) (.int .i64 0)).setCell (p := ⟨B, 4, none⟩) (Nat.le_refl _) (.slice none 0 0)
          refine bodyPost_ret (read_results2 _ B false rfl rfl 0 0 0 0 none 0 0 _ hF) rfl ?_
          unfold RetFrom
          rw [HRF.out]
          refine ⟨none, 0, 0, rfl, rfl, ?_, by rw [← HBQ.out]; exact hbw⟩
          intro k hk
          simp [noFrm] at hk
          
      · have hz2 : (er != 0) = true := by simpa using hz
        have hrf : fromFrm s = none := by
          unfold fromFrm
          rw [if_neg (fun h => hz (by have h1 := h.1; rw [HLXF.out, her] at h1; exact h1))]
        have HRF := hide hrf
        clear hz hrf her
        go_wp2_with fail
        have hF : Blk (((((w5.setCell ⟨B, 0, none⟩ (.int .i64 0)).setCell ⟨B, 1, none⟩ (.int .i64 0)).setCell ⟨B, 2, none⟩ (.int .i64 0)).setCell ⟨B, 3, none⟩ (.int .i64 0)).setCell ⟨B, 4, none⟩ (.slice none 0 0)) B 63 (frmCells 0 0 0 0 none 0 0) := ((((HR5.out.res.set_ 0 (.int .i64 0)).set_ 1 (.int .i64 0)).set_ 2 (.int .i64 0)).set_ 3 (.int .i64 0)).set_ 4 (.slice none 0 0)
        have hbw := ((((HR5.out.below.setCell (p := ⟨B, 0, none⟩) (Nat.le_refl _) (.int .i64 0)).setCell (p := ⟨B, 1, none⟩) (Nat.le_refl _) (.int .i64 0)).setCell (p := ⟨B, 2, none⟩) (Nat.le_refl _) (.int .i64 0)).setCell (p := ⟨B, 3, none⟩) (Nat.le_refl _) (.int .i64 0)).setCell (p := ⟨B, 4, none⟩) (Nat.le_refl _) (.slice none 0 0)
        refine bodyPost_ret (read_results2 _ B false rfl rfl 0 0 0 0 none 0 0 _ hF) rfl ?_
        unfold RetFrom
        rw [HRF.out]
        refine ⟨none, 0, 0, rfl, rfl, ?_, by rw [← HBQ.out]; exact hbw⟩
        intro k hk
        simp [noFrm] at hk
        
    · obtain ⟨m1, hm1⟩ : ∃ m1, m = m1 + 1 := ⟨m - 1, by omega⟩
      have hmp : (0 : Int) < (m : Int) := by omega
      have hms : (m : Int) - 1 = (m1 : Int) := by omega
      have hgo : B + 2 < wo.heap.size := HR.out.out.lt
      have HM1 := hide hm1
      clear hm1
      go_wp2_with fail
      refine (byte_at (B + 1) 0 u wo HR.out.eye).mono ?_
      rintro e v1 ⟨rfl, hg0, hr0, hz0⟩
      go_wp2_with fail
      refine (byte_at (B + 1) 1 u v1 hg0).mono ?_
      rintro e v2 ⟨rfl, hg1, hr1, hz1⟩
      go_wp2_with fail
      refine (byte_at (B + 1) 2 u v2 hg1).mono ?_
      rintro e v3 ⟨rfl, hg2, hr2, hz2⟩
      go_wp2_with fail
      refine (byte_at (B + 1) 3 u v3 hg2).mono ?_
      rintro e v4 ⟨rfl, hg3, hr3, hz3⟩
      obtain ⟨pb, hpb⟩ : ∃ pb, wo.heap.size = pb := ⟨_, rfl⟩
      have hv4 : v4.heap.size = pb := by omega
      have hgr4 := grown_trB (grown_trB (grown_trB hr0 hr1) hr2) hr3
      obtain ⟨op, hop⟩ : ∃ op, byN u 0 = op := ⟨_, rfl⟩
      obtain ⟨to_, hto⟩ : ∃ to_, byN u 1 = to_ := ⟨_, rfl⟩
      obtain ⟨a, ha⟩ : ∃ a, byN u 2 = a := ⟨_, rfl⟩
      obtain ⟨b, hb⟩ : ∃ b, byN u 3 = b := ⟨_, rfl⟩
      rw [hop, hto, ha, hb]
      have HG3 := hide hg3
      have HGR4 := hide hgr4
      have HPB := hide hpb
      have HN4 := hide (show byN u 0 = op ∧ byN u 1 = to_ ∧ byN u 2 = a ∧ byN u 3 = b from ⟨hop, hto, ha, hb⟩)
      clear hg0 hg1 hg2 hg3 hr0 hr1 hr2 hr3 hz0 hz1 hz2 hz3 hgr4 hop hto ha hb hpb
      go_wp2_with fail
      have hal : Below v4.heap.size v4 (v4.alloc (.cells #[.int .i64 op, .int .i64 to_, .int .i64 a, .int .i64 b, .int .i64 0, .slice none 0 0] 110)) := (Below.refl _ _).alloc (Nat.le_refl _) _
      have hpx : Blk (v4.alloc (.cells #[.int .i64 op, .int .i64 to_, .int .i64 a, .int .i64 b, .int .i64 0, .slice none 0 0] 110)) pb 110 (passCells ⟨op, to_, a, b, 0, []⟩ none 0 0) := Blk.newE (cs := passCells ⟨op, to_, a, b, 0, []⟩ none 0 0) hv4
      have hga := HG3.out.keep hal
      have hgra := grown_trB HGR4.out (grown_ofB hal (some (B + 1)))
      have hvas : (v4.alloc (.cells #[.int .i64 op, .int .i64 to_, .int .i64 a, .int .i64 b, .int .i64 0, .slice none 0 0] 110)).heap.size = pb + 1 := by simp [hv4]
      obtain ⟨va, hva⟩ : ∃ va, v4.alloc (.cells #[.int .i64 op, .int .i64 to_, .int .i64 a, .int .i64 b, .int .i64 0, .slice none 0 0] 110) = va := ⟨_, rfl⟩
      rw [hva] at hpx hga hgra hvas
      rw [hva]
      clear hva hal
      refine (byte_at (B + 1) 4 u va hga).mono ?_
      rintro e v5 ⟨rfl, hg4, hr4, hz4⟩
      go_wp2_with fail
      refine (byte_at (B + 1) 5 u v5 hg4).mono ?_
      rintro e v6 ⟨rfl, hg5, hr5, hz5⟩
      go_wp2_with fail
      refine (byte_at (B + 1) 6 u v6 hg5).mono ?_
      rintro e v7 ⟨rfl, hg6, hr6, hz6⟩
      have hb4 := byte_bd HYU.out 4
      have hb5 := byte_bd HYU.out 5
      have hb6 := byte_bd HYU.out 6
      obtain ⟨k1, hk1⟩ : ∃ k1, byN u 4 = k1 := ⟨_, rfl⟩
      obtain ⟨k2, hk2⟩ : ∃ k2, byN u 5 = k2 := ⟨_, rfl⟩
      obtain ⟨k3, hk3⟩ : ∃ k3, byN u 6 = k3 := ⟨_, rfl⟩
      rw [hk1] at hb4
      rw [hk2] at hb5
      rw [hk3] at hb6
      rw [hk1, hk2, hk3]
      obtain ⟨y1, hwa⟩ : ∃ y1, wrap64 (65536 * k1) = y1 := ⟨_, rfl⟩
      obtain ⟨y2, hwb⟩ : ∃ y2, wrap64 (256 * k2) = y2 := ⟨_, rfl⟩
      obtain ⟨y3, hwc⟩ : ∃ y3, wrap64 (y1 + y2) = y3 := ⟨_, rfl⟩
      obtain ⟨kv, hwd⟩ : ∃ kv, wrap64 (y3 + k3) = kv := ⟨_, rfl⟩
      obtain ⟨kk, hwe⟩ : ∃ kk, wrap64 (kv - 16777216) = kk := ⟨_, rfl⟩
      have hkv : kv = 65536 * k1 + 256 * k2 + k3 := by
        rw [wrap64_of (by omega) (by omega)] at hwa
        rw [wrap64_of (by omega) (by omega)] at hwb
        rw [wrap64_of (by omega) (by omega)] at hwc
        rw [wrap64_of (by omega) (by omega)] at hwd
        omega
      have hkk : kk = kv - 16777216 := by
        rw [wrap64_of (by omega) (by omega)] at hwe
        omega
      have HKV := hide (show kv = 65536 * byN u 4 + 256 * byN u 5 + byN u 6 from by rw [hk1, hk2, hk3]; exact hkv)
      have HKK := hide hkk
      have hv7 : v7.heap.size = pb + 1 := by rw [hz6, hz5, hz4]; exact hvas
      have hpx7 := ((hpx.other hr4 (by have := HPB.out; omega)).other hr5 (by have := HPB.out; omega)).other hr6 (by have := HPB.out; omega)
      have c4 : v7.cell? ⟨pb, 4, none⟩ = some (.int .i64 0) := (hpx7.cell 4).trans rfl
      have f4 := hpx7.frozen 4
      have HPX := hide hpx7
      have HG7 := hide hg6
      have HGR7 := hide (grown_trB (grown_trB (grown_trB hgra hr4) hr5) hr6)
      have HN7 := hide (show byN u 4 = k1 ∧ byN u 5 = k2 ∧ byN u 6 = k3 from ⟨hk1, hk2, hk3⟩)
      clear hg4 hg5 hg6 hr4 hr5 hr6 hz4 hz5 hz6 hk1 hk2 hk3 hpx hpx7 hga hgra hvas hkv hkk hb4 hb5 hb6
      have hpo : B + 2 < pb := by rw [← HPB.out]; exact hgo
      by_cases hk : 8388608 ≤ kv
      all_goals go_wp2_with fail
      all_goals
        first
          | (have hsk : sgn kv = kk := by rw [HKK.out]; unfold sgn; exact if_pos hk
             have hpv := (HPX.out.set_ 4 (.int .i64 kv)).set_ 4 (.int .i64 kk)
             have hgv : EyeAt ((v7.setCell ⟨pb, 4, none⟩ (.int .i64 kv)).setCell ⟨pb, 4, none⟩ (.int .i64 kk)) (B + 1) (u.drop 7) := (HG7.out.far (p := ⟨pb, 4, none⟩) (by simp only; omega) (.int .i64 kv)).far (p := ⟨pb, 4, none⟩) (by simp only; omega) (.int .i64 kk)
             have hrv : wo.grownBy ((v7.setCell ⟨pb, 4, none⟩ (.int .i64 kv)).setCell ⟨pb, 4, none⟩ (.int .i64 kk)) (some (B + 1)) := grown_set (grown_set HGR7.out (p := ⟨pb, 4, none⟩) (by rw [HPB.out]; exact Nat.le_refl _) (.int .i64 kv)) (p := ⟨pb, 4, none⟩) (by rw [HPB.out]; exact Nat.le_refl _) (.int .i64 kk)
             have hsv : ((v7.setCell ⟨pb, 4, none⟩ (.int .i64 kv)).setCell ⟨pb, 4, none⟩ (.int .i64 kk)).heap.size = pb + 1 := by simpa [World.setCell] using hv7
             generalize (v7.setCell ⟨pb, 4, none⟩ (.int .i64 kv)).setCell ⟨pb, 4, none⟩ (.int .i64 kk) = vx at *
             have HPV := hide (show Blk vx pb 110 (passCells ⟨op, to_, a, b, sgn kv, []⟩ none 0 0) from by rw [hsk]; exact hpv))
          | (have hsk : sgn kv = kv := by unfold sgn; exact if_neg (by omega)
             have hpv := HPX.out.set_ 4 (.int .i64 kv)
             have hgv : EyeAt (v7.setCell ⟨pb, 4, none⟩ (.int .i64 kv)) (B + 1) (u.drop 7) := HG7.out.far (p := ⟨pb, 4, none⟩) (by simp only; omega) (.int .i64 kv)
             have hrv : wo.grownBy (v7.setCell ⟨pb, 4, none⟩ (.int .i64 kv)) (some (B + 1)) := grown_set HGR7.out (p := ⟨pb, 4, none⟩) (by rw [HPB.out]; exact Nat.le_refl _) (.int .i64 kv)
             have hsv : (v7.setCell ⟨pb, 4, none⟩ (.int .i64 kv)).heap.size = pb + 1 := by simpa [World.setCell] using hv7
             generalize v7.setCell ⟨pb, 4, none⟩ (.int .i64 kv) = vx at *
             have HPV := hide (show Blk vx pb 110 (passCells ⟨op, to_, a, b, sgn kv, []⟩ none 0 0) from by rw [hsk]; exact hpv))
      all_goals
        refine (byte_at (B + 1) 7 u vx hgv).mono ?_
        rintro e v8 ⟨rfl, hg8, hr8, hz8⟩
        have hLD : LdX wo pb (B + 1) op to_ a b (sgn kv) [] none 0 0 (u.drop 8) v8 := ⟨HPV.out.other hr8 (by omega), Own.nil _ _ _ _, hg8, grown_trB hrv hr8, by rw [HPB.out]; exact Nat.le_refl _, by rw [HPB.out]; omega, rfl⟩
        obtain ⟨M, hM⟩ : ∃ M : Nat, byN u 7 = (M : Int) := ⟨(byN u 7).toNat, by have := byte_bd HYU.out 7; omega⟩
        have hM9 : M ≤ 255 := by have := byte_bd HYU.out 7; omega
        obtain ⟨t3, ht3⟩ : ∃ t3, u.drop 8 = t3 := ⟨_, rfl⟩
        rw [ht3] at hLD
        have HLD := hide hLD
        have HLP := hide (show lxPas u = (⟨op, to_, a, b, sgn kv, (lxLamps M t3).1⟩, (lxLamps M t3).2) from by
          obtain ⟨n0, n1, n2, n3⟩ := HN4.out
          have hmt : (byN u 7).toNat = M := by omega
          rw [HKV.out, ← n0, ← n1, ← n2, ← n3, ← ht3, ← hmt]
          rfl)
        have HYV := hide (show Bytes t3 from by rw [← ht3]; exact HYU.out.drop 8)
        rw [hM]
        clear hsk hpv hgv hrv hsv HPV hg8 hr8 hz8 hLD hM ht3 HPX HG7 HGR7 hv7 c4 f4 HN7 HKV HKK HN4 HG3 HGR4 hwa hwb hwc hwd hwe hk
        go_wp2_with fail
        go_loopw [8, 9] (fun s8 _ wr => ∃ (q j : Nat) (ls : List Lamp) (LB : Option Addr) (d : Nat) (v : List Int), j + q = M ∧ s8 = .int .i64 (q : Int) ∧ Hid (LdX wo pb (B + 1) op to_ a b (sgn kv) ls LB j d v wr) ∧ Hid (lxLamps M t3 = (ls ++ (lxLamps q v).1, (lxLamps q v).2)) ∧ Hid (Bytes v)) (fun s8 _ _ => (intOf s8).toNat)
        case atStart => exact ⟨M, 0, [], none, 0, t3, by omega, rfl, HLD, hide (by simp), HYV⟩
        case round =>
          obtain ⟨q, j, ls, LB, d, v, hjq, rfl, HLW, HQL, HYW⟩ := hrel
          obtain ⟨wq, rfl⟩ : ∃ wq : World, wq = wr := ⟨_, rfl⟩
          have hpd := HLW.out.pas.lt
          by_cases hq0 : q = 0
          · subst hq0
            have HR9 := hide (HR.out.grow HLW.out.grown HLW.out.eye)
            have HRQ := hide (show lxPas u = (⟨op, to_, a, b, sgn kv, ls⟩, v) from by rw [HLP.out, HQL.out]; simp [lxLamps])
            obtain ⟨x, q0, q1, q2, q3, q4⟩ := FrmBox.cells (show FrmBox _ _ W H S O A i c from HR9.out.out)
            obtain ⟨y, y0, y1, y2, y3, y4, y5⟩ := PasBox.cells (show PasBox wq pb ⟨op, to_, a, b, sgn kv, ls⟩ LB j d from HLW.out.pas)
            have hsz9 : B + 3 ≤ wq.heap.size := by omega
            have hi9 : i ≤ 255 := by omega
            clear HLP HQL
            generalize sgn kv = sk at *
            go_wp2_with (at_builtin; go_loud (refine wpList_app1A wq wq.heap.size rfl rfl _ _ 61 rfl (B + 3) 110 p0i _ 6 64 Try.underlying61 hpi pz0 pz1 pz2 rfl (by omega) A i c _ (passCells ⟨op, to_, a, b, sk, ls⟩ LB j d) rfl HR9.out.row.own rfl rfl (pas_one _ _ _ _) (by omega) (by omega) hsz9 ?_; intro A9 c9 w9 hown9 hg9 hat9; have hob9 := Blk.grown (HR9.out.out.alloc (.cells (passCells ⟨op, to_, a, b, sk, ls⟩ LB j d).toArray 110)) (HR9.out.row.own.alloc _) hg9 (by omega); obtain ⟨s', t0, t1, t2, t3', t4⟩ := FrmBox.cells (show FrmBox _ (B + 2) W H S O A i c from hob9); have s5 := Blk.frozen hob9 4))
            have HRX := hide (HR.out.app HLW.out (by omega) hown9 hg9 hat9)
            exact ⟨⟨m1, i + 1, _, _, A9, c9, v, by have := HM1.out; omega, by go_num, HRX, hide (by have h := HQ.out; rw [HM1.out] at h; have h2 := lxPs_snoc h; rw [HRQ.out] at h2; exact h2), HYW⟩, by have := HM1.out; simp [intOf]; omega⟩
          · obtain ⟨qq, hqq⟩ : ∃ qq, q = qq + 1 := ⟨q - 1, by omega⟩
            have hqp : (0 : Int) < (q : Int) := by omega
            have hqs : (q : Int) - 1 = (qq : Int) := by omega
            have HQQ := hide hqq
            clear hqq
            go_wp2_with fail
            refine (byte_at (B + 1) 0 v wq HLW.out.eye).mono ?_
            rintro e l1 ⟨rfl, hg0, hr0, hz0⟩
            go_wp2_with fail
            refine (byte_at (B + 1) 1 v l1 hg0).mono ?_
            rintro e l2 ⟨rfl, hg1, hr1, hz1⟩
            go_wp2_with fail
            refine (byte_at (B + 1) 2 v l2 hg1).mono ?_
            rintro e l3 ⟨rfl, hg2, hr2, hz2⟩
            obtain ⟨lb, hlb⟩ : ∃ lb, wq.heap.size = lb := ⟨_, rfl⟩
            have hl3 : l3.heap.size = lb := by omega
            have hgr3 := grown_trB (grown_trB hr0 hr1) hr2
            obtain ⟨lx, hlx⟩ : ∃ lx, byN v 0 = lx := ⟨_, rfl⟩
            obtain ⟨ly, hly⟩ : ∃ ly, byN v 1 = ly := ⟨_, rfl⟩
            obtain ⟨lr, hlr⟩ : ∃ lr, byN v 2 = lr := ⟨_, rfl⟩
            rw [hlx, hly, hlr]
            have HG3 := hide hg2
            have HGR3 := hide hgr3
            have HLB := hide hlb
            have HN3 := hide (show byN v 0 = lx ∧ byN v 1 = ly ∧ byN v 2 = lr from ⟨hlx, hly, hlr⟩)
            clear hg0 hg1 hg2 hr0 hr1 hr2 hz0 hz1 hz2 hgr3 hlx hly hlr hlb
            go_wp2_with fail
            have hal : Below l3.heap.size l3 (l3.alloc (.cells #[.int .i64 lx, .int .i64 ly, .int .i64 lr, .int .i64 0] 59)) := (Below.refl _ _).alloc (Nat.le_refl _) _
            have hpx : Blk (l3.alloc (.cells #[.int .i64 lx, .int .i64 ly, .int .i64 lr, .int .i64 0] 59)) lb 59 (lampCells ⟨lx, ly, lr, 0⟩) := Blk.newE (cs := lampCells ⟨lx, ly, lr, 0⟩) hl3
            have hga := HG3.out.keep hal
            have hgra := grown_trB HGR3.out (grown_ofB hal (some (B + 1)))
            have hvas : (l3.alloc (.cells #[.int .i64 lx, .int .i64 ly, .int .i64 lr, .int .i64 0] 59)).heap.size = lb + 1 := by simp [hl3]
            obtain ⟨va, hva⟩ : ∃ va, l3.alloc (.cells #[.int .i64 lx, .int .i64 ly, .int .i64 lr, .int .i64 0] 59) = va := ⟨_, rfl⟩
            rw [hva] at hpx hga hgra hvas
            rw [hva]
            clear hva hal
            refine (byte_at (B + 1) 3 v va hga).mono ?_
            rintro e l5 ⟨rfl, hg4, hr4, hz4⟩
            go_wp2_with fail
            refine (byte_at (B + 1) 4 v l5 hg4).mono ?_
            rintro e l6 ⟨rfl, hg5, hr5, hz5⟩
            have hb4 := byte_bd HYW.out 3
            have hb5 := byte_bd HYW.out 4
            obtain ⟨p1, hp1⟩ : ∃ p1, byN v 3 = p1 := ⟨_, rfl⟩
            obtain ⟨p2, hp2⟩ : ∃ p2, byN v 4 = p2 := ⟨_, rfl⟩
            rw [hp1] at hb4
            rw [hp2] at hb5
            rw [hp1, hp2]
            obtain ⟨y1, hwa⟩ : ∃ y1, wrap64 (256 * p1) = y1 := ⟨_, rfl⟩
            obtain ⟨pw, hwb⟩ : ∃ pw, wrap64 (y1 + p2) = pw := ⟨_, rfl⟩
            have hpw : pw = 256 * p1 + p2 := by
              rw [wrap64_of (by omega) (by omega)] at hwa
              rw [wrap64_of (by omega) (by omega)] at hwb
              omega
            have HRL := hide (show lxLamp v = (⟨lx, ly, lr, pw⟩, v.drop 5) from by
              obtain ⟨n0, n1, n2⟩ := HN3.out
              rw [hpw, ← hp1, ← hp2, ← n0, ← n1, ← n2]
              rfl)
            have hlo : B + 2 < lb := by rw [← HLB.out]; have := HLW.out.pas.lt; omega
            have hpl : pb < lb := by rw [← HLB.out]; exact hpd
            have hf6 := (hpx.other hr4 (by omega)).other hr5 (by omega)
            have c3 : l6.cell? ⟨lb, 3, none⟩ = some (.int .i64 0) := (hf6.cell 3).trans rfl
            have f3 := hf6.frozen 3
            have hf7 : Blk (l6.setCell ⟨lb, 3, none⟩ (.int .i64 pw)) lb 59 (lampCells ⟨lx, ly, lr, pw⟩) := hf6.set_ 3 _
            have hgs := hg5.far (p := ⟨lb, 3, none⟩) (by simp only; omega) (.int .i64 pw)
            have hgr9 := grown_set (grown_trB (grown_trB hgra hr4) hr5) (p := ⟨lb, 3, none⟩) (by rw [HLB.out]; exact Nat.le_refl _) (.int .i64 pw)
            have HL9 := hide (HLW.out.grow hgr9 hgs)
            have c9 : (l6.setCell ⟨lb, 3, none⟩ (.int .i64 pw)).cell? ⟨pb, 5, none⟩ = some (.slice LB j d) := (HL9.out.pas.cell 5).trans rfl
            have e0 : (l6.setCell ⟨lb, 3, none⟩ (.int .i64 pw)).cell? ⟨lb, 0, none⟩ = some (.int .i64 lx) := (hf7.cell 0).trans rfl
            have e1 : (l6.setCell ⟨lb, 3, none⟩ (.int .i64 pw)).cell? ⟨lb, 1, none⟩ = some (.int .i64 ly) := (hf7.cell 1).trans rfl
            have e2 : (l6.setCell ⟨lb, 3, none⟩ (.int .i64 pw)).cell? ⟨lb, 2, none⟩ = some (.int .i64 lr) := (hf7.cell 2).trans rfl
            have e3 : (l6.setCell ⟨lb, 3, none⟩ (.int .i64 pw)).cell? ⟨lb, 3, none⟩ = some (.int .i64 pw) := (hf7.cell 3).trans rfl
            have hl6 : l6.heap.size = lb + 1 := by omega
            have hsz9 : pb + 1 ≤ (l6.setCell ⟨lb, 3, none⟩ (.int .i64 pw)).heap.size := HL9.out.pas.lt
            have HYX := hide (HYW.out.drop 5)
            clear hf6 hf7 hgs hgr9 hg4 hg5 hr4 hr5 hz4 hz5 hgra hga hpx hvas hpw hp1 hp2 hb4 hb5 HN3 HG3 HGR3
            go_wp2_with (at_builtin; go_loud (refine wpList_app1H (l6.setCell ⟨lb, 3, none⟩ (.int .i64 pw)) (lb + 1) (by simp [World.setCell, hl6]) rfl _ _ 45 rfl (pb + 1) 59 l0i _ 4 32 Try.underlying45 hli lz0 lz1 lz2 rfl (by omega) LB j d _ (lampCells ⟨lx, ly, lr, pw⟩) rfl HL9.out.row rfl rfl (lamp_one _) (by omega) (by omega) hsz9 ?_; intro LC d2 w9 hown9 hg9; have hp9 := Blk.grown (HL9.out.pas.alloc (.cells (lampCells ⟨lx, ly, lr, pw⟩).toArray 59)) (HL9.out.row.alloc _) hg9 (Nat.lt_succ_self _); have s5 : w9.cell? ⟨pb, 5, none⟩ = some (.slice LB j d) := (hp9.cell 5).trans rfl; have f5 := hp9.frozen 5))
            have HLX := hide (HL9.out.app (l := ⟨lx, ly, lr, pw⟩) hown9 hg9)
            go_roundw
            case rel => exact ⟨qq, j + 1, ls ++ [⟨lx, ly, lr, pw⟩], LC, d2, v.drop 5, by have := HQQ.out; omega, by go_num, HLX, hide (by have h := HQL.out; rw [HQQ.out] at h; have h2 := lxLamps_snoc h; rw [HRL.out] at h2; exact h2), HYX⟩
            case measure => have := HQQ.out; simp [intOf]; omega
end Go.Proofs.Ytibpmogmeoappaa
