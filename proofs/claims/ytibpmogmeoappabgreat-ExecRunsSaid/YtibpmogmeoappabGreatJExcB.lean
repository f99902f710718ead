/- Walk: exec.begin. -/
import Derived.Test.YtibpmogmeoappabGreatJExcA
import Derived.Test.YtibpmogmeoappabGreatJPlnN0
import Derived.Test.YtibpmogmeoappabGreatJFrmO
namespace Go.Proofs.YtibpmogmeoappabGreat
open Go.RowKit

/-- a work's cells -/
def workCells (W H S O : Int) (PA : Option Addr) (n c : Nat) (OA : Option Addr) (on oc : Nat) (QA : Option Addr) (qn qc : Nat) (GA : Option Addr) (m d : Nat) (SA : Option Addr) (sn sc : Nat) (RA : Option Addr) (rn rc : Nat) : List Value :=
  [.int .i64 W, .int .i64 H, .int .i64 S, .int .i64 O, .slice PA n c, .slice OA on oc, .slice QA qn qc, .slice GA m d, .slice SA sn sc, .slice RA rn rc]
abbrev WorkBox (w : World) (b : Nat) (W H S O : Int) (PA : Option Addr) (n c : Nat) (OA : Option Addr) (on oc : Nat) (QA : Option Addr) (qn qc : Nat) (GA : Option Addr) (m d : Nat) (SA : Option Addr) (sn sc : Nat) (RA : Option Addr) (rn rc : Nat) : Prop :=
  Blk w b 65 (workCells W H S O PA n c OA on oc QA qn qc GA m d SA sn sc RA rn rc)
theorem work_at {w : World} {b : Nat} {W H S O : Int} {PA : Option Addr} {n c : Nat} {OA : Option Addr} {on oc : Nat} {QA : Option Addr} {qn qc : Nat} {GA : Option Addr} {m d : Nat} {SA : Option Addr} {sn sc : Nat} {RA : Option Addr} {rn rc : Nat} (h : WorkBox w b W H S O PA n c OA on oc QA qn qc GA m d SA sn sc RA rn rc) :
    b < w.heap.size ∧ w.cell? ⟨b, 0, none⟩ = some (.int .i64 W) ∧ w.cell? ⟨b, 1, none⟩ = some (.int .i64 H) ∧ w.cell? ⟨b, 2, none⟩ = some (.int .i64 S) ∧ w.cell? ⟨b, 3, none⟩ = some (.int .i64 O) ∧ w.cell? ⟨b, 4, none⟩ = some (.slice PA n c) ∧ w.cell? ⟨b, 5, none⟩ = some (.slice OA on oc) ∧ w.cell? ⟨b, 6, none⟩ = some (.slice QA qn qc) ∧ w.cell? ⟨b, 7, none⟩ = some (.slice GA m d) ∧ w.cell? ⟨b, 8, none⟩ = some (.slice SA sn sc) ∧ w.cell? ⟨b, 9, none⟩ = some (.slice RA rn rc) := by
  refine ⟨h.lt, ?_, ?_, ?_, ?_, ?_, ?_, ?_, ?_, ?_, ?_⟩ <;> (rw [Blk.cell h]; rfl)
/-- a work in memory: its arena's block is g -/
structure WorkAt (w : World) (b g B0 : Nat) (f : Frm) (PA : Option Addr) (n c : Nat) (OA : Option Addr) (on oc : Nat) (QA : Option Addr) (qn qc d : Nat) (SA : Option Addr) (sc : Nat) (RA : Option Addr) (rc : Nat) (l : List Int) (ex : List Value) : Prop where
  box : WorkBox w b f.W f.H f.S f.O PA n c OA on oc QA qn qc (some ⟨g, 0, none⟩) l.length d SA n sc RA n rc
  ar : Ar w g l ex
  szs : Sizes w SA (frSizes f)
  new : NewFrom B0 SA
  src : IntRowsN w RA (frSources f) B0
  lt : g < B0
  ne : b ≠ g
  room : l.length ≤ d
section
variable {w w' : World} {b g B0 : Nat} {f : Frm} {PA : Option Addr} {n c : Nat} {OA : Option Addr} {on oc : Nat} {QA : Option Addr} {qn qc d : Nat} {SA : Option Addr} {sc : Nat} {RA : Option Addr} {rc : Nat} {l l' : List Int} {ex : List Value}
theorem WorkAt.keep (h : WorkAt w b g B0 f PA n c OA on oc QA qn qc d SA sc RA rc l ex) (hb : Below w.heap.size w w') : WorkAt w' b g B0 f PA n c OA on oc QA qn qc d SA sc RA rc l ex :=
  ⟨Blk.keep h.box hb, Blk.keep h.ar hb, Cells.keep h.szs hb, h.new, h.src.keep hb, h.lt, h.ne, h.room⟩
/-- the arena alone is written -/
theorem WorkAt.next (h : WorkAt w b g B0 f PA n c OA on oc QA qn qc d SA sc RA rc l ex) (hg : w.grownBy w' (some g)) (ha : Ar w' g l' ex) (hl : l'.length = l.length) : WorkAt w' b g B0 f PA n c OA on oc QA qn qc d SA sc RA rc l' ex :=
  ⟨by rw [hl]; exact Blk.but h.box hg h.ne, ha, Cells.but h.szs hg (fun _ a e => by have := h.new a e; have := h.lt; omega), h.new, h.src.but hg h.lt, h.lt, h.ne, by rw [hl]; exact h.room⟩
end
/-- what begin answers -/
def RetWork (w : World) (f : Frm) (p : Pln) (PA : Option Addr) (n c : Nat) (OA : Option Addr) (on oc : Nat) (QA : Option Addr) (qn qc : Nat) (l : List Int) (e : Ending) (w' : World) : Prop :=
  Below w.heap.size w w' ∧ ((execErr f p l ≠ 0 ∧ e = .returned (.tuple #[.pointer none, .int .i64 (execErr f p l)])) ∨ (ArOk f p l ∧ ∃ (b g B0 d : Nat) (SA : Option Addr) (sc : Nat) (RA : Option Addr) (rc : Nat) (ex : List Value), w.heap.size ≤ b ∧ w.heap.size ≤ g ∧ e = .returned (.tuple #[.pointer (some ⟨b, 0, none⟩), .int .i64 0]) ∧ WorkAt w' b g B0 f PA n c OA on oc QA qn qc d SA sc RA rc l ex))

set_option maxRecDepth 100000 in
set_option maxHeartbeats 8000000 in
theorem execBegin_any (W H S O : Int) (PA : Option Addr) (n c : Nat) (ps : List Pas) (OA : Option Addr) (on oc : Nat) (QA : Option Addr) (qn qc : Nat) (p : Pln) (GA : Option Addr) (gn gc : Nat) (l : List Int) (w : World) (hn : ps.length = n) (hP : Passes w PA ps)
    (hO : Ints w OA p.Order) (hon : p.Order.length = on) (hol : on ≤ 9223372036854775807) (hoc : on ≤ oc) (hQ : Ints w QA p.Places) (hqn : p.Places.length = qn) (hql : qn ≤ 9223372036854775807) (hG : Ints w GA l) (hgn : l.length = gn) (hgl : gn ≤ 9223372036854775807) :
    Calls Tryz.prog 9 #[.agg #[.int .i64 W, .int .i64 H, .int .i64 S, .int .i64 O, .slice PA n c], .agg #[.slice OA on oc, .slice QA qn qc], .slice GA gn gc] w (RetWork w ⟨W, H, S, O, ps⟩ p PA n c OA on oc QA qn qc l) := by
  have hb := ((Below.refl w.heap.size w).alloc (Nat.le_refl _) (.cells #[.int .i64 W, .int .i64 H, .int .i64 S, .int .i64 O, .slice PA n c] 24)).alloc (by simp) (.cells #[.slice OA on oc, .slice QA qn qc] 27)
  have hbx := (show FrmBox (w.alloc (.cells #[.int .i64 W, .int .i64 H, .int .i64 S, .int .i64 O, .slice PA n c] 24)) w.heap.size W H S O PA n c from Blk.new w 24 (frmCells W H S O PA n c)).alloc (.cells #[.slice OA on oc, .slice QA qn qc] 27)
  have hpx : Blk ((w.alloc (.cells #[.int .i64 W, .int .i64 H, .int .i64 S, .int .i64 O, .slice PA n c] 24)).alloc (.cells #[.slice OA on oc, .slice QA qn qc] 27)) (w.heap.size + 1) 27 [.slice OA on oc, .slice QA qn qc] := Blk.newE (by simp)
  have hck := fun (W0 : World) (h1 : Passes W0 PA ps) (h2 : Ints W0 OA p.Order) (h3 : Ints W0 QA p.Places) => planCheck_any W H S O PA n c ps OA on oc QA qn qc p (gn : Int) W0 hn h1 h2 hon hol hoc h3 hqn hql
  have hsi := fun (W0 : World) (h1 : Passes W0 PA ps) => sizes_new W H S O PA n c ps W0 hn h1
  have hso := fun (W0 : World) (h1 : Passes W0 PA ps) => sources_new W H S O PA n c ps W0 hn h1
  have hio := hO.keep hb
  have hiq := hQ.keep hb
  have hig := hG.keep hb
  have hpp := hP.keep hb
  obtain ⟨f, hf⟩ : ∃ f : Frm, f = ⟨W, H, S, O, ps⟩ := ⟨_, rfl⟩
  have HFW := hide (show f.W = W ∧ f.H = H ∧ f.S = S ∧ f.O = O ∧ f.P.length = n from by rw [hf]; exact ⟨rfl, rfl, rfl, rfl, hn⟩)
  rw [← hf] at hck hsi hso ⊢
  obtain ⟨w1, hw1⟩ : ∃ w1, (w.alloc (.cells #[.int .i64 W, .int .i64 H, .int .i64 S, .int .i64 O, .slice PA n c] 24)).alloc (.cells #[.slice OA on oc, .slice QA qn qc] 27) = w1 := ⟨_, rfl⟩
  rw [hw1] at hb hbx hpx hio hiq hig hpp
  have HB := hide hb
  have HBX := hide (Keeps.blk hbx)
  have HPX := hide (Keeps.blk hpx)
  have HIO := hide (Keeps.ints hio)
  have HIQ := hide (Keeps.ints hiq)
  have HIG := hide (Keeps.ints hig)
  have HP := hide (Keeps.passes hpp)
  have HSI := hide hsi
  have HSO := hide hso
  have HGN := hide hgn
  obtain ⟨z, hz⟩ : ∃ z, pckErr f p (gn : Int) = z := ⟨_, rfl⟩
  rw [hz] at hck
  have HCK := hide (hck w1 hpp hio hiq)
  have hs1 := hb.size
  obtain ⟨x, q0, q1, q2, q3, q4⟩ := FrmBox.cells (show FrmBox _ _ W H S O PA n c from hbx)
  obtain ⟨y, r0, r1⟩ := plan_box hpx
  clear hn hP hO hQ hG hbx hpx hb hio hiq hig hpp hck hsi hso hf hon hqn hgn
  by_cases h0 : z = 0
  · have hzz : (z != 0) = false := by simpa using h0
    have HZ := hide (hz.trans h0)
    obtain ⟨bd, hbd⟩ : ∃ bd, l.any badN = bd := ⟨_, rfl⟩
    have hcn := fun (W0 : World) (h1 : Ints W0 GA l) => containsInts_any GA gn gc l W0 HGN.out h1 hgl
    rw [hbd] at hcn
    have HCN := hide hcn
    have HBD := hide hbd
    clear hz h0 hcn hbd
    go_enter Tryz.func9, Tryz.ntmps9
    go_wp2_with fail
    refine (unhide HCK).mono ?_
    rintro e w2 ⟨rfl, hE2⟩
    have HB2 := hide (HB.out.trans (hE2.mono HB.out.size))
    have HE2 := hide hE2
    clear hE2 hw1 x q0 q1 q2 q3 q4 y r0 r1 HCK
    cases bd with
    | true =>
      have hne : execErr f p l = 3 := by
        unfold execErr
        rw [HGN.out, if_neg (fun h => h HZ.out), if_pos HBD.out]
      have HR := hide hne
      clear hne
      go_wp2_with (go_at_call 24; refine ((unhide HCN) _ (HIG.out.later _ HE2.out)).mono ?_; rintro e w3 ⟨rfl, rfl⟩)
      go_ret2
      exact ⟨HB2.out, .inl ⟨by rw [HR.out]; decide, by rw [HR.out]; rfl⟩⟩
    | false =>
      have hok : ArOk f p l := execErr_zero.1 (by
        unfold execErr
        rw [HGN.out, if_neg (fun h => h HZ.out), if_neg (by rw [HBD.out]; simp)])
      have HOK := hide hok
      have hgpos : 0 < gn := by have := hok.pos; have := HGN.out; omega
      have hgrm : gn ≤ 4096 := by have := hok.room; have := HGN.out; omega
      have hfe : frErr f = 0 := frErr_zero.2 hok.frm
      have HSI2 := hide (fun (W0 : World) (h1 : Passes W0 PA ps) => (show frErr f = 0 → Calls Tryz.prog 27 #[.agg #[.int .i64 W, .int .i64 H, .int .i64 S, .int .i64 O, .slice PA n c]] W0 (RetSzsN W0 (frSizes f) 0) from fun e => by have := (unhide HSI) W0 h1; rw [e] at this; exact this) hfe)
      have HSO2 := hide (fun (W0 : World) (h1 : Passes W0 PA ps) => (show frErr f = 0 → Calls Tryz.prog 28 #[.agg #[.int .i64 W, .int .i64 H, .int .i64 S, .int .i64 O, .slice PA n c]] W0 (RetSrcsN W0 (frSources f) 0) from fun e => by have := (unhide HSO) W0 h1; rw [e] at this; exact this) hfe)
      have HSL := hide (show (frSizes f).length = n from by rw [sizes_len hok.frm]; exact HFW.out.2.2.2.2)
      have HRL := hide (show (frSources f).length = n from by rw [show frSources f = srcsTo f f.P.length from if_pos hfe]; simp [srcsTo, HFW.out.2.2.2.2])
      have HCL := hide (fun (W0 : World) (h1 : Ints W0 GA l) => cloneInts_any GA gn gc l W0 HGN.out hgpos h1 (by omega))
      clear hok hfe HSI HSO
      have HBX2 := hide (HBX.out.move HE2.out)
      have HPX2 := hide (HPX.out.move HE2.out)
      have HP2 := hide (HP.out.move HE2.out)
      have HIG2 := hide (HIG.out.move HE2.out)
      obtain ⟨x, q0, q1, q2, q3, q4⟩ := FrmBox.cells (show FrmBox _ _ W H S O PA n c from HBX2.out.now)
      obtain ⟨y, r0, r1⟩ := plan_box HPX2.out.now
      have HCS := hide (show Keeps w2 (fun w' => w'.cell? ⟨w.heap.size, 0, none⟩ = some (.int .i64 W) ∧ w'.cell? ⟨w.heap.size, 1, none⟩ = some (.int .i64 H) ∧ w'.cell? ⟨w.heap.size, 2, none⟩ = some (.int .i64 S) ∧ w'.cell? ⟨w.heap.size, 3, none⟩ = some (.int .i64 O) ∧ w'.cell? ⟨w.heap.size, 4, none⟩ = some (.slice PA n c) ∧ w'.cell? ⟨w.heap.size + 1, 0, none⟩ = some (.slice OA on oc) ∧ w'.cell? ⟨w.heap.size + 1, 1, none⟩ = some (.slice QA qn qc)) from ⟨⟨q0, q1, q2, q3, q4, r0, r1⟩, fun _ hb => ⟨keepC hb q0, keepC hb q1, keepC hb q2, keepC hb q3, keepC hb q4, keepC hb r0, keepC hb r1⟩⟩)
      clear HB HBX HPX HIO HIQ HIG HP HE2
      go_wp2_with (go_at_call 24; refine ((unhide HCN) _ HIG2.out.now).mono ?_; rintro e w3 ⟨rfl, rfl⟩)
      clear x q0 q1 q2 q3 q4 y r0 r1 HCN
      go_region_held3 (fun w' => w'.cell? ⟨w.heap.size, 0, none⟩ = some (.int .i64 W) ∧ w'.cell? ⟨w.heap.size, 1, none⟩ = some (.int .i64 H) ∧ w'.cell? ⟨w.heap.size, 2, none⟩ = some (.int .i64 S) ∧ w'.cell? ⟨w.heap.size, 3, none⟩ = some (.int .i64 O) ∧ w'.cell? ⟨w.heap.size, 4, none⟩ = some (.slice PA n c) ∧ w'.cell? ⟨w.heap.size + 1, 0, none⟩ = some (.slice OA on oc) ∧ w'.cell? ⟨w.heap.size + 1, 1, none⟩ = some (.slice QA qn qc))
        (first | exact HCS.out.later _ (hB4.alloc hB4.size _) | exact HCS.out.later _ hB4 | exact HCS.out.later _ (Below.refl _ _).drew)
        (first
          | (go_simp; go_at_call 26; refine ((unhide HCL) _ (HIG2.out.later _ (Below.refl _ _).drew)).mono ?_; rintro e w4 ⟨A4, c4, rfl, hO4, hE4⟩; have hB4 : Below w2.heap.size w2 w4 := (Below.refl _ _).drew.trans hE4))
      obtain ⟨g, ex, rfl, hgb, hAr, hgc⟩ := Ar.of_own hO4 (by rw [HGN.out]; exact hgpos)
      have hs4 := hB4.size
      have hal : Below w4.heap.size w4 (w4.alloc (.cells #[.int .i64 W, .int .i64 H, .int .i64 S, .int .i64 O, .slice PA n c, .slice OA on oc, .slice QA qn qc, .slice (some ⟨g, 0, none⟩) l.length c4, .slice none 0 0, .slice none 0 0] 65)) := (Below.refl _ _).alloc (Nat.le_refl _) _
      have hbw : WorkBox (w4.alloc (.cells #[.int .i64 W, .int .i64 H, .int .i64 S, .int .i64 O, .slice PA n c, .slice OA on oc, .slice QA qn qc, .slice (some ⟨g, 0, none⟩) l.length c4, .slice none 0 0, .slice none 0 0] 65)) w4.heap.size W H S O PA n c OA on oc QA qn qc (some ⟨g, 0, none⟩) l.length c4 none 0 0 none 0 0 := Blk.new w4 _ (workCells W H S O PA n c OA on oc QA qn qc (some ⟨g, 0, none⟩) l.length c4 none 0 0 none 0 0)
      have HA5 := hide (Keeps.blk (Blk.keep hAr hal))
      have HY5 := hide (hB4.trans (hal.mono hs4))
      have hglt : g < w4.heap.size := Blk.lt hAr
      have HW5 := hide (Keeps.blk hbw)
      obtain ⟨x, q0, q1, q2, q3, q4⟩ := FrmBox.cells (show FrmBox _ _ W H S O PA n c from HBX2.out.later _ HY5.out)
      have HGC := hide hgc
      have HGB := hide hgb
      clear hO4 hE4 hB4 hAr hal hbw HCS HCL HPX2 HIG2 hgb hgc
      go_wp2_with fail
      refine ((unhide HSI2) _ (HP2.out.later _ HY5.out)).mono ?_
      rintro e w6 ⟨SA, sn, sc, rfl, hsn, hSZ, hSN, hE6⟩
      obtain rfl : n = sn := by rw [← hsn]; exact HSL.out.symm
      have hw6 := HW5.out.later _ hE6
      have hs6 := hE6.size
      simp only [World.size_alloc] at hs6 hSN
      obtain ⟨x', t0, t1, t2, t3, t4, t5, t6, t7, t8, t9⟩ := work_at (show WorkBox _ _ W H S O PA n c OA on oc QA qn qc (some ⟨g, 0, none⟩) l.length c4 none 0 0 none 0 0 from hw6)
      have tf := Blk.frozen hw6 8
      have HY7 := hide ((HY5.out.trans (hE6.mono HY5.out.size)).setCell (p := ⟨w4.heap.size, 8, none⟩) hs4 (.slice SA n sc))
      have HW7 := hide (show WorkBox (w6.setCell ⟨w4.heap.size, 8, none⟩ (.slice SA n sc)) w4.heap.size W H S O PA n c OA on oc QA qn qc (some ⟨g, 0, none⟩) l.length c4 SA n sc none 0 0 from Blk.set_ hw6 8 (.slice SA n sc))
      have HA7 := hide (show Ar (w6.setCell ⟨w4.heap.size, 8, none⟩ (.slice SA n sc)) g l ex from Blk.far (HA5.out.later _ hE6) (p := ⟨w4.heap.size, 8, none⟩) (by simp only; omega) (.slice SA n sc))
      have HS7 := hide (show Sizes (w6.setCell ⟨w4.heap.size, 8, none⟩ (.slice SA n sc)) SA (frSizes f) from Cells.far hSZ hSN (p := ⟨w4.heap.size, 8, none⟩) (by simp only; omega) (.slice SA n sc))
      have HSN := hide hSN
      have hs7 : (w6.setCell ⟨w4.heap.size, 8, none⟩ (.slice SA n sc)).heap.size = w6.heap.size := by simp [World.setCell]
      clear x q0 q1 q2 q3 q4 hSZ hSN hsn hE6 HY5 HA5 HW5 HSI2 hw6
      obtain ⟨x, q0, q1, q2, q3, q4⟩ := FrmBox.cells (show FrmBox _ _ W H S O PA n c from HBX2.out.later _ HY7.out)
      go_wp2_with fail
      refine ((unhide HSO2) _ (HP2.out.later _ HY7.out)).mono ?_
      rintro e w8 ⟨RA, rn, rc, rfl, hrn, hRI, hE8⟩
      obtain rfl : n = rn := by rw [← hrn]; exact HRL.out.symm
      have hw8 := HW7.out.keep hE8
      obtain ⟨x'', v0, v1, v2, v3, v4, v5, v6, v7, v8, v9⟩ := work_at (show WorkBox _ _ W H S O PA n c OA on oc QA qn qc (some ⟨g, 0, none⟩) l.length c4 SA n sc none 0 0 from hw8)
      have vf := Blk.frozen hw8 9
      have HY9 := hide ((HY7.out.trans (hE8.mono HY7.out.size)).setCell (p := ⟨w4.heap.size, 9, none⟩) hs4 (.slice RA n rc))
      have HW9 := hide (show WorkAt (w8.setCell ⟨w4.heap.size, 9, none⟩ (.slice RA n rc)) w4.heap.size g (w4.heap.size + 1) f PA n c OA on oc QA qn qc c4 SA sc RA rc l ex from
        ⟨by rw [HFW.out.1, HFW.out.2.1, HFW.out.2.2.1, HFW.out.2.2.2.1]; exact Blk.set_ hw8 9 (.slice RA n rc),
          Blk.far (Blk.keep HA7.out hE8) (p := ⟨w4.heap.size, 9, none⟩) (by simp only; omega) (.slice RA n rc),
          Cells.far (Cells.keep HS7.out hE8) HSN.out (p := ⟨w4.heap.size, 9, none⟩) (by simp only; omega) (.slice RA n rc),
          HSN.out,
          rowsN_ne (grown_put w8 ⟨w4.heap.size, 9, none⟩ (.slice RA n rc)) (base := w4.heap.size + 1) (by simp only; omega) (hRI.mono (by rw [hs7]; omega)),
          by omega, by omega, HGC.out⟩)
      clear x q0 q1 q2 q3 q4 x' t0 t1 t2 t3 t4 t5 t6 t7 t8 t9 tf hE8 hw8 hRI hrn HW7 HA7 HS7 HSO2
      go_wp2_with fail
      go_ret2
      exact ⟨HB2.out.trans (HY9.out.mono HB2.out.size), .inr ⟨HOK.out, w4.heap.size, g, w4.heap.size + 1, c4, SA, sc, RA, rc, ex, by have := HB2.out.size; omega, by have := HB2.out.size; have := HGB.out; simp only [World.size_drew] at this; omega, rfl, HW9.out⟩⟩
  · have hzz : (z != 0) = true := by simpa using h0
    have HR := hide (show execErr f p l = z from by
      unfold execErr
      rw [HGN.out, hz, if_pos h0])
    have HZ := hide h0
    clear hz h0
    go_enter Tryz.func9, Tryz.ntmps9
    go_wp2_with fail
    refine (unhide HCK).mono ?_
    rintro e w2 ⟨rfl, hE2⟩
    have HB2 := hide (HB.out.trans (hE2.mono HB.out.size))
    clear hE2 hw1 x q0 q1 q2 q3 q4 y r0 r1 HCK
    go_wp2_with fail
    go_ret2
    exact ⟨HB2.out, .inl ⟨by rw [HR.out]; exact HZ.out, by rw [HR.out]; rfl⟩⟩
end Go.Proofs.YtibpmogmeoappabGreat

/- Walk: an image as it lies in the arena. -/
namespace Go.Proofs.YtibpmogmeoappabGreat
open Go.RowKit

/-- a part of a row -/
theorem run_part (g o a m d : Nat) (lo hi : Int) (hlo : lo = (o : Int)) (hhi : hi = lo + (a : Int)) (h0 : 0 < a) (hd : o + a ≤ d) (w : World) :
    (Instr.slice 25 (.slice (some ⟨g, 0, none⟩) m d) (some (.int .i64 lo)) (some (.int .i64 hi)) none).run Tryz.prog w = .ok (.slice (some ⟨g, o, none⟩) a (d - o)) w := by
  subst hlo hhi
  have hsz : ∀ W : World, (sizeOf (Tryz.prog.elem 25)).run Tryz.prog W = .ok 1 W := fun W => by
    rw [show Tryz.prog.elem 25 = 3 from by kernel_rfl]
    simp [sizeOf]
    rfl
  rw [run_slice_lh w _ _ _ _ (by rw [show Tryz.prog.elem 25 = 3 from by kernel_rfl]; exact Tryz.underlying25) .i64 .i64 (o : Int) ((o : Int) + (a : Int)) (by omega) (by omega) (by omega), hsz]
  have h1 : ((o : Int) + (a : Int)).toNat = o + a := by omega
  simp only [Result.andThen, sliced, Int.toNat_natCast, h1]
  rw [if_neg (by omega : ¬ d = o)]
  simp [Addr.add]
  try omega

/-- an image whose numbers are a row of the call's own is laid into the result -/
theorem retPutO {w w9 : World} {r base : Nat} {sw sh : Int} {P : List Int} {A : Option Addr} {n c : Nat} (hl : P.length = n) (hO : Own w9 base 3 1 A n c (P.map (Value.int .i64))) (hlt : r < base) (hwr : w.heap.size ≤ r) (hB : Below w.heap.size w w9) (u0 u1 u2 : Value) :
    RetImg w ⟨sw, sh, P⟩ (.returned (.agg #[.int .i64 sw, .int .i64 sh, .slice A n c])) (((w9.setCell ⟨r, 0, none⟩ u0).setCell ⟨r, 1, none⟩ u1).setCell ⟨r, 2, none⟩ u2) := by
  have hI : Ints w9 A P := hO.cells
  have hA : Mine w9 base A := Mine.of_own hO
  exact ⟨sw, sh, P, A, n, c, rfl, hl, rfl, ((hI.far hA.new (p := ⟨r, 0, none⟩) hlt u0).far hA.new (p := ⟨r, 1, none⟩) hlt u1).far hA.new (p := ⟨r, 2, none⟩) hlt u2, (((hA.far (p := ⟨r, 0, none⟩) hlt u0).far (p := ⟨r, 1, none⟩) hlt u1).far (p := ⟨r, 2, none⟩) hlt u2).mono (by omega), ((hB.setCell (p := ⟨r, 0, none⟩) hwr u0).setCell (p := ⟨r, 1, none⟩) hwr u1).setCell (p := ⟨r, 2, none⟩) hwr u2⟩

set_option maxRecDepth 100000 in
set_option maxHeartbeats 8000000 in
theorem workImage_any {w : World} {b g B0 : Nat} {f : Frm} {p : Pln} {PA : Option Addr} {n c : Nat} {OA : Option Addr} {on oc : Nat} {QA : Option Addr} {qn qc d : Nat} {SA : Option Addr} {sc : Nat} {RA : Option Addr} {rc : Nat} {l : List Int} {ex : List Value}
    (hW : WorkAt w b g B0 f PA n c OA on oc QA qn qc d SA sc RA rc l ex) (hok : ArOk f p l) (hn : f.P.length = n) (hQ : Ints w QA p.Places) (hqn : p.Places.length = qn) (k : Nat) (hk : k < n) (hd : 0 ≤ stepOf p.Order k) :
    Calls Tryz.prog 12 #[.pointer (some ⟨b, 0, none⟩), .int .i64 (k : Int)] w (RetImg w (lieAt l f p k)) := by
  have hkf : k < f.P.length := by rw [hn]; exact hk
  have hpl := hok.place hkf hd
  have hsz := frSize_bd hok.frm hkf
  have hlen := lieAt_len hok hkf hd
  have h12 := hok.frm.many
  have hroom := hok.room
  have hqf : p.Places.length = f.P.length := hok.ord.places
  obtain ⟨sw, hsw⟩ : ∃ sw, (frSize f k).W = sw := ⟨_, rfl⟩
  obtain ⟨sh, hsh⟩ : ∃ sh, (frSize f k).H = sh := ⟨_, rfl⟩
  obtain ⟨o, ho⟩ : ∃ o : Nat, p.pl k = (o : Int) := ⟨(p.pl k).toNat, by omega⟩
  obtain ⟨a, ha⟩ : ∃ a : Nat, areaOf f k = (a : Int) := ⟨(areaOf f k).toNat, by omega⟩
  have har : sw * sh = (a : Int) := by rw [← ha]; unfold areaOf; rw [hsw, hsh]
  have hlie : lieAt l f p k = ⟨sw, sh, (l.drop o).take a⟩ := by unfold lieAt; rw [hsw, hsh, ho, ha]; rfl
  rw [hlie] at hlen
  rw [ha] at hlen hpl hsz
  rw [ho] at hpl
  simp only at hlen
  have hdl := hW.room
  obtain ⟨pk, hpk⟩ : ∃ pk : Int, pk = (o : Int) := ⟨_, rfl⟩
  obtain ⟨hi, hhi⟩ : ∃ hi : Int, hi = pk + (a : Int) := ⟨_, rfl⟩
  have hwr1 : IntKind.i64.wrap (sw * sh) = (a : Int) := by rw [har]; exact IntWalk.i64_in _ (by omega)
  have hwr2 : IntKind.i64.wrap (pk + (a : Int)) = hi := by rw [← hhi]; exact IntWalk.i64_in _ (by omega)
  have hsl := fun W0 : World => run_part g o a l.length d pk hi hpk hhi (by omega) (by omega) W0
  have HCL := hide (fun (W0 : World) (h1 : Ints W0 (some ⟨g, 0, none⟩) l) => (show Calls Tryz.prog 26 #[.slice (some ⟨g, o, none⟩) a (d - o)] W0 (RetOwnI W0 ((l.drop o).take a)) from cloneInts_any (some ⟨g, o, none⟩) a (d - o) ((l.drop o).take a) W0 (by omega) (by omega) (by have := h1.part o a (by omega); rwa [Nat.zero_add] at this) (by omega)))
  have HLEN := hide hlen
  have hbA : Below w.heap.size w (w.alloc (.cells #[.int .i64 0, .int .i64 0, .slice none 0 0] 29)) := (Below.refl _ _).alloc (Nat.le_refl _) _
  obtain ⟨bl, v0, v1, v2, v3, v4, v5, v6, v7, v8, v9⟩ := work_at (hW.keep hbA).box
  obtain ⟨zb, zo, hZA, hzb, cz0, cz1⟩ := Sizes.at_ (hW.keep hbA).szs (i := k) (by rw [sizes_len hok.frm]; exact hkf)
  obtain rfl := hZA
  rw [size_at hok.frm hkf] at cz0 cz1
  rw [hsw] at cz0
  rw [hsh] at cz1
  obtain ⟨qb, qo, rfl, hqb, cq⟩ := (hQ.keep hbA) k (by rw [List.length_map, hqf]; exact hkf)
  have eq : (p.Places.map (Value.int .i64)).getD k undef = .int .i64 pk := by
    rw [List.getD_eq_getElem?_getD, List.getElem?_map, List.getElem?_eq_getElem (by rw [hqf]; exact hkf)]
    simp only [Option.map_some, Option.getD_some]
    rw [hpk, ← ho]
    congr 1
    unfold Pln.pl
    rw [List.getD_eq_getElem?_getD, List.getElem?_eq_getElem (by rw [hqf]; exact hkf)]
    rfl
  rw [eq] at cq
  have hk0 : (0 : Int) ≤ (k : Int) := by omega
  have hk1 : (k : Int) < (n : Int) := by omega
  have hk2 : (k : Int) < (qn : Int) := by omega
  have HL := hide hlie
  rw [hlie]
  have HAR := hide (Keeps.ints (hW.keep hbA).ar.ints)
  have HRS := hide (show Blk (w.alloc (.cells #[.int .i64 0, .int .i64 0, .slice none 0 0] 29)) w.heap.size 29 [.int .i64 0, .int .i64 0, .slice none 0 0] from Blk.new w _ _)
  have hal : Below (w.alloc (.cells #[.int .i64 0, .int .i64 0, .slice none 0 0] 29)).heap.size (w.alloc (.cells #[.int .i64 0, .int .i64 0, .slice none 0 0] 29)) ((w.alloc (.cells #[.int .i64 0, .int .i64 0, .slice none 0 0] 29)).alloc (.cells #[.int .i64 sw, .int .i64 sh] 53)) := (Below.refl _ _).alloc (Nat.le_refl _) _
  have hbs : Blk ((w.alloc (.cells #[.int .i64 0, .int .i64 0, .slice none 0 0] 29)).alloc (.cells #[.int .i64 sw, .int .i64 sh] 53)) (w.heap.size + 1) 53 [.int .i64 sw, .int .i64 sh] := Blk.newE (by simp)
  have s0 : ((w.alloc (.cells #[.int .i64 0, .int .i64 0, .slice none 0 0] 29)).alloc (.cells #[.int .i64 sw, .int .i64 sh] 53)).cell? ⟨w.heap.size + 1, 0, none⟩ = some (.int .i64 sw) := by rw [hbs.cell]; rfl
  have s1 : ((w.alloc (.cells #[.int .i64 0, .int .i64 0, .slice none 0 0] 29)).alloc (.cells #[.int .i64 sw, .int .i64 sh] 53)).cell? ⟨w.heap.size + 1, 1, none⟩ = some (.int .i64 sh) := by rw [hbs.cell]; rfl
  have HCS := hide (show Keeps ((w.alloc (.cells #[.int .i64 0, .int .i64 0, .slice none 0 0] 29)).alloc (.cells #[.int .i64 sw, .int .i64 sh] 53)) (fun w' : World => w'.cell? ⟨w.heap.size + 1, 0, none⟩ = some (.int .i64 sw) ∧ w'.cell? ⟨w.heap.size + 1, 1, none⟩ = some (.int .i64 sh) ∧ w'.cell? ⟨b, 6, none⟩ = some (.slice (some ⟨qb, qo, none⟩) qn qc) ∧ w'.cell? ⟨b, 7, none⟩ = some (.slice (some ⟨g, 0, none⟩) l.length d) ∧ w'.cell? ⟨qb, qo + k, none⟩ = some (.int .i64 pk)) from ⟨⟨s0, s1, keepC hal v6, keepC hal v7, keepC hal cq⟩, fun _ hb => ⟨keepC hb s0, keepC hb s1, keepC hb (keepC hal v6), keepC hb (keepC hal v7), keepC hb (keepC hal cq)⟩⟩)
  have HAL := hide hal
  have HBA := hide hbA
  have hbw : b < w.heap.size := hW.box.lt
  have hqw : qb < w.heap.size := (hQ k (by rw [List.length_map, hqf]; exact hkf)).elim fun b' h => by obtain ⟨o', e, h, _⟩ := h; injection e with e; injection e with e; omega
  have HS3 := hide (fun (w4 : World) (hb : Below ((w.alloc (.cells #[.int .i64 0, .int .i64 0, .slice none 0 0] 29)).alloc (.cells #[.int .i64 sw, .int .i64 sh] 53)).heap.size ((w.alloc (.cells #[.int .i64 0, .int .i64 0, .slice none 0 0] 29)).alloc (.cells #[.int .i64 sw, .int .i64 sh] 53)) w4) (u0 u1 u2 : Value) => (show (fun w' : World => w'.cell? ⟨w.heap.size + 1, 0, none⟩ = some (.int .i64 sw) ∧ w'.cell? ⟨w.heap.size + 1, 1, none⟩ = some (.int .i64 sh) ∧ w'.cell? ⟨b, 6, none⟩ = some (.slice (some ⟨qb, qo, none⟩) qn qc) ∧ w'.cell? ⟨b, 7, none⟩ = some (.slice (some ⟨g, 0, none⟩) l.length d) ∧ w'.cell? ⟨qb, qo + k, none⟩ = some (.int .i64 pk)) (((w4.setCell ⟨w.heap.size, 0, none⟩ u0).setCell ⟨w.heap.size, 1, none⟩ u1).setCell ⟨w.heap.size, 2, none⟩ u2) from by
    obtain ⟨e0, e1, e2, e3, e4⟩ := HCS.out.later _ hb
    exact ⟨cellFar (cellFar (cellFar e0 (by simp)) (by simp)) (by simp), cellFar (cellFar (cellFar e1 (by simp)) (by simp)) (by simp), cellFar (cellFar (cellFar e2 (by simp only; omega)) (by simp only; omega)) (by simp only; omega), cellFar (cellFar (cellFar e3 (by simp only; omega)) (by simp only; omega)) (by simp only; omega), cellFar (cellFar (cellFar e4 (by simp only; omega)) (by simp only; omega)) (by simp only; omega)⟩))
  clear hW hok hQ hqn hd hkf hpl hsz hlen h12 hroom hqf hsw hsh ho ha har hlie hpk hhi hdl eq hal hbA hbs s0 s1
  go_enter Tryz.func12, Tryz.ntmps12
  go_wp2_with fail
  clear v0 v1 v2 v3 v4 v5 v6 v7 v8 v9 cz0 cz1 cq
  go_region_held3 (fun w' : World => w'.cell? ⟨w.heap.size + 1, 0, none⟩ = some (.int .i64 sw) ∧ w'.cell? ⟨w.heap.size + 1, 1, none⟩ = some (.int .i64 sh) ∧ w'.cell? ⟨b, 6, none⟩ = some (.slice (some ⟨qb, qo, none⟩) qn qc) ∧ w'.cell? ⟨b, 7, none⟩ = some (.slice (some ⟨g, 0, none⟩) l.length d) ∧ w'.cell? ⟨qb, qo + k, none⟩ = some (.int .i64 pk))
    (first | exact hS3 _ _ _ | exact HCS.out.later _ hB4 | exact HCS.out.later _ (Below.refl _ _).drew)
    (first
      | (go_simp; go_at_call 26; refine ((unhide HCL) _ (HAR.out.later _ HAL.out.drew)).mono ?_; rintro e w4 ⟨A4, c4, rfl, hO4, hE4⟩; have hB4 : Below ((w.alloc (.cells #[.int .i64 0, .int .i64 0, .slice none 0 0] 29)).alloc (.cells #[.int .i64 sw, .int .i64 sh] 53)).heap.size ((w.alloc (.cells #[.int .i64 0, .int .i64 0, .slice none 0 0] 29)).alloc (.cells #[.int .i64 sw, .int .i64 sh] 53)) w4 := (Below.refl _ _).drew.trans hE4; obtain ⟨r0, r1, r2, r3, r4, r5, r6⟩ := resKeep (HAL.out.trans (hB4.mono HAL.out.size)) HRS.out; have hS3 := (unhide HS3) _ hB4))
  go_wp2_with fail
  refine bodyPost_ret (v := .agg #[.int .i64 sw, .int .i64 sh, .slice A4 ((l.drop o).take a).length c4]) ?_ rfl ?_
  · simp [results, Tryz.results12, go_sem, r1, r2, r3]
  · exact retPutO rfl hO4 (by simp <;> omega) (Nat.le_refl _) (HBA.out.trans ((HAL.out.trans (hB4.mono HAL.out.size)).mono HBA.out.size)) _ _ _
end Go.Proofs.YtibpmogmeoappabGreat
