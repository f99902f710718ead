/- Plans worked out in an arena, as plain Lean: what comes is what the frame shows, whatever lay there. -/
import Derived.Test.YtibpmogmeoappacGreatJExcA
import Derived.Test.YtibpmogmeoappacGreatJGlow
import Derived.Test.YtibpmogmeoappacGreatJImgH
import Derived.Test.YtibpmogmeoappacGreatJFitI
import Derived.Test.YtibpmogmeoappacGreatJFitJ
import Derived.Test.YtibpmogmeoappacGreatJFrmR
namespace Go.Proofs.YtibpmogmeoappacGreat

theorem stepOf_lt {l : List Int} {k : Int} (h : 0 ≤ stepOf l k) : stepOf l k < l.length := by
  rcases stepOf_cases l k with ⟨h1, _⟩ | ⟨i, h1, h2, _⟩
  · omega
  · have : i < l.length := by
      by_cases e : i < l.length
      · exact e
      · rw [List.getElem?_eq_none (by omega)] at h2; cases h2
    omega
theorem lastUse_ge {f : Frm} {p : Pln} {k : Int} {i : Nat} : ∀ {m : Nat}, i < m → k ∈ srcs f (p.ord i).toNat → (i : Int) ≤ lastUse f p k m := by
  intro m
  induction m with
  | zero => intro h; omega
  | succ m ih =>
    intro h hk
    simp only [lastUse]
    by_cases e : k ∈ srcs f (p.ord m).toNat
    · rw [if_pos e]; omega
    · rw [if_neg e]
      have : i ≠ m := fun h => e (h ▸ hk)
      exact ih (by omega) hk
theorem lastUse_step {f : Frm} {p : Pln} {k : Int} (hu : ∀ i, i < p.Order.length → k ∈ srcs f (p.ord i).toNat → stepOf p.Order k ≤ i) : ∀ m : Nat, m ≤ p.Order.length → stepOf p.Order k ≤ lastUse f p k m := by
  intro m
  induction m with
  | zero => intro _; exact Int.le_refl _
  | succ m ih =>
    intro h
    simp only [lastUse]
    by_cases e : k ∈ srcs f (p.ord m).toNat
    · rw [if_pos e]; exact hu m (by omega) e
    · rw [if_neg e]; exact ih (by omega)
theorem span_ge {f : Frm} {p : Pln} (h : InOrder f p) {k : Nat} (hd : 0 ≤ stepOf p.Order k) : stepOf p.Order k ≤ (spanOf f p k).Last := by
  simp only [spanOf]
  by_cases e : (k : Int) = frLast f
  · rw [if_pos e]
    have := stepOf_lt hd
    omega
  · rw [if_neg e]
    exact lastUse_step (fun i hi hk => by have := (h.step i hi).2.2 _ hk; omega) _ (Nat.le_refl _)
/-- a place that lies apart is not written -/
theorem part_put {l vs : List Int} {i a n : Nat} (hi : i + vs.length ≤ l.length) (h : a + n ≤ i ∨ i + vs.length ≤ a) : ((putAt l i vs).drop a).take n = (l.drop a).take n := by
  apply List.ext_getElem
  · simp only [List.length_take, List.length_drop, putAt_len hi]
  · intro j h1 h2
    simp only [List.length_take, List.length_drop, putAt_len hi] at h1
    simp only [List.getElem_take, List.getElem_drop, putAt]
    rcases h with h | h
    · rw [List.getElem_append_left (by simp only [List.length_append, List.length_take]; omega), List.getElem_append_left (by simp only [List.length_take]; omega), List.getElem_take]
    · rw [List.getElem_append_right (by simp only [List.length_append, List.length_take]; omega), List.getElem_drop]
      congr 1
      simp only [List.length_append, List.length_take]
      omega
theorem put_part {l vs : List Int} {i : Nat} (hi : i + vs.length ≤ l.length) : ((putAt l i vs).drop i).take vs.length = vs := by
  apply List.ext_getElem
  · simp only [List.length_take, List.length_drop, putAt_len hi]; omega
  · intro j h1 h2
    simp only [List.getElem_take, List.getElem_drop, putAt]
    rw [List.getElem_append_left (by simp only [List.length_append, List.length_take]; omega), List.getElem_append_right (by simp only [List.length_take]; omega)]
    congr 1
    simp only [List.length_take]
    omega
/-- behind i steps what will still be taken lies where it must -/
def Right (f : Frm) (p : Pln) (l : List Int) (i : Nat) : Prop := ∀ k, k < f.P.length → 0 ≤ stepOf p.Order k → stepOf p.Order k < i → (i : Int) - 1 ≤ (spanOf f p k).Last → lieAt l f p k = frImg f k
theorem lieOf_right {f : Frm} {p : Pln} {l : List Int} {i : Nat} (h : ArOk f p l) (hR : Right f p l i) (hi : i < p.Order.length) {j : Int} (hj : j ∈ srcs f (p.ord i).toNat) : lieOf l f p j = imgOf (frImgs f (p.ord i).toNat) j := by
  have ho := h.ordAt hi
  have hs := (h.ord.step i hi).2.2 j hj
  have hb := h.frm.src (k := (p.ord i).toNat) (by omega) hj
  rw [imgOf_at f hb.1 hb.2]
  unfold lieOf
  rw [if_neg (by omega)]
  have e : ((j.toNat : Nat) : Int) = j := Int.toNat_of_nonneg hb.1
  refine hR j.toNat (by omega) (by rw [e]; exact hs.1) (by rw [e]; exact hs.2) ?_
  have hx : ¬ (j.toNat : Int) = frLast f → (i : Int) ≤ (spanOf f p j.toNat).Last := fun hl => by
    simp only [spanOf]
    rw [if_neg hl, e]
    exact lastUse_ge hi hj
  by_cases hl : (j.toNat : Int) = frLast f
  · simp only [spanOf]
    rw [if_pos hl]
    omega
  · have := hx hl; omega
theorem passImg_congr {W H : Int} {p : Pas} {a b a' b' : Img} (ha : hasA p.Op = true → a = a') (hb : hasB p.Op = true → b = b') : passImg W H p a b = passImg W H p a' b' := by
  unfold passImg
  by_cases h1 : hasA p.Op = false
  · rw [if_pos h1, if_pos h1]
  · have h1' : hasA p.Op = true := by simpa using h1
    rw [if_neg h1, if_neg h1, ha h1']
    by_cases h2 : hasB p.Op = true
    · rw [if_pos h2, if_pos h2, hb h2]
    · rw [if_neg h2, if_neg h2]
theorem doImg_right {f : Frm} {p : Pln} {l : List Int} {i : Nat} (h : ArOk f p l) (hR : Right f p l i) (hi : i < p.Order.length) : doImg f p l (p.ord i).toNat = frImg f (p.ord i).toNat := by
  unfold doImg frImg
  exact passImg_congr (fun e => lieOf_right h hR hi (srcA_mem e)) (fun e => lieOf_right h hR hi (srcB_mem e))
theorem right_step {f : Frm} {p : Pln} {l : List Int} {i : Nat} (h : ArOk f p l) (hR : Right f p l i) (hi : i < p.Order.length) : Right f p (stepAr f p l (p.ord i).toNat) (i + 1) := by
  have ho := h.ordAt hi
  have hkn : (p.ord i).toNat < f.P.length := by omega
  have hdi := doImg_right h hR hi
  have hdl := doImg_len h hkn ho.2
  have hpl := h.place hkn ho.2
  have hst := (h.ord.step i hi).2.1
  have e : (((p.ord i).toNat : Nat) : Int) = p.ord i := Int.toNat_of_nonneg ho.1.1
  have hsp := span_ge h.ord ho.2
  rw [e, hst] at hsp
  intro k hk hd hlt hlast
  have hpk := h.place hk hd
  by_cases he : stepOf p.Order k = i
  · -- the step's own
    have hkk : k = (p.ord i).toNat := by
      rcases stepOf_cases p.Order k with ⟨h1, _⟩ | ⟨m, h1, h2, _⟩
      · omega
      · have hm : m = i := by omega
        subst hm
        rw [p.ord_at hi] at h2
        injection h2 with h2
        omega
    subst hkk
    have hs := doImg_fine h hkn ho.2
    unfold lieAt stepAr
    rw [show (areaOf f (p.ord i).toNat).toNat = (doImg f p l (p.ord i).toNat).P.length by omega, put_part (by omega), ← hs.2.1, ← hs.2.2, ← hdi]
  · have hlt' : stepOf p.Order k < i := by omega
    rw [← hR k hk hd hlt' (by omega)]
    unfold lieAt stepAr
    congr 1
    have hne : k ≠ (p.ord i).toNat := fun e2 => he (by rw [e2, e]; exact hst)
    -- the two spans meet, so the places lie apart
    have hm1 : meetB (spanOf f p k) (spanOf f p (p.ord i).toNat) = true := by
      unfold meetB
      refine decide_eq_true ⟨?_, ?_⟩
      · show stepOf p.Order k ≤ _
        omega
      · show stepOf p.Order ((p.ord i).toNat : Int) ≤ _
        rw [e, hst]; omega
    have ha := (frSize_bd h.frm hk).2
    have ha2 := (frSize_bd h.frm hkn).2
    have hnc : ¬ Clash f p k (p.ord i).toNat := by
      by_cases hlt2 : k < (p.ord i).toNat
      · rcases h.fits _ hkn with e2 | ⟨-, e2⟩
        · omega
        · rcases e2 k hlt2 with e3 | e3
          · omega
          · exact fun hc => e3 hc.symm
      · rcases h.fits _ hk with e2 | ⟨-, e2⟩
        · omega
        · rcases e2 _ (show (p.ord i).toNat < k by omega) with e3 | e3
          · omega
          · exact e3
    have hap : p.pl k + areaOf f k ≤ p.pl (p.ord i).toNat ∨ p.pl (p.ord i).toNat + areaOf f (p.ord i).toNat ≤ p.pl k := by
      by_cases e2 : p.pl k < p.pl (p.ord i).toNat + areaOf f (p.ord i).toNat
      · by_cases e3 : p.pl (p.ord i).toNat < p.pl k + areaOf f k
        · exact absurd ⟨hm1, e2, e3⟩ hnc
        · left; omega
      · right; omega
    exact part_put (by omega) (by omega)
theorem runTo_right {f : Frm} {p : Pln} {l : List Int} (h : ArOk f p l) {i : Nat} (hi : i ≤ p.Order.length) : Right f p (runTo f p l i) i := by
  induction i with
  | zero => intro k _ h1 h2; omega
  | succ i ih => exact right_step (runTo_ok h (by omega)).1 (ih (by omega)) (by omega)
/-- whatever plan fits, and whatever lay in the arena: what comes is what the frame shows -/
theorem run_shown {f : Frm} {p : Pln} {l : List Int} (h : ArOk f p l) : runImg f p l = frShown f := by
  have hl := h.last
  have e : (((frLast f).toNat : Nat) : Int) = frLast f := Int.toNat_of_nonneg hl.1.1
  unfold runImg frShown
  rw [imgOf_at f hl.1.1 hl.1.2]
  have hsb := stepOf_lt hl.2
  refine runTo_right h (Nat.le_refl _) _ (by omega) hl.2 (by omega) ?_
  simp only [spanOf]
  rw [if_pos e]
  omega
end Go.Proofs.YtibpmogmeoappacGreat

/- Walk: execBegun. -/
namespace Go.Proofs.YtibpmogmeoappacGreat
open Go.RowKit

def ar28 : List Int := (List.replicate 28 0).set 5 77
def st28 : List Int := [9, 9, 9, 9, 9, 9, 9, 9, 0, 0, 0, 0, 0, 0, 0, 0, 0, 0, 0, 0, 0, 0, 0, 0, 0, 0, 0, 0]
theorem eb1 : execErr glowF otherP ar28 = 0 := by decide +kernel
theorem eb2 : runAns glowF otherP ar28 = ⟨4, 2, [9, 109, 209, 309, 10, 110, 210, 310]⟩ := by decide +kernel
theorem eb3 : stepErr glowF otherP ar28 0 = 0 := by decide +kernel
theorem eb4 : stepAns glowF otherP ar28 0 = st28 := by decide +kernel

set_option maxRecDepth 100000 in
set_option maxHeartbeats 8000000 in
theorem execBegun_any (w : World) : Calls Tryz.prog 5 #[] w fun e w' => e = .returned (.bool true) ∧ Below w.heap.size w w' := by
  have eG : (⟨4, 2, 3, 1, glowF.P⟩ : Frm) = glowF := rfl
  have HRN := hide (fun (G A : Option Addr) (c : Nat) (B C : Option Addr) (W0 : World) (h1 : Passes W0 A glowF.P) (h2 : Ints W0 B otherP.Order) (h3 : Ints W0 C otherP.Places) (h4 : Ints W0 G ar28) => execRun_any 4 2 3 1 A 5 c glowF.P B 3 3 C 5 5 otherP G 28 28 ar28 W0 rfl h1 h2 rfl (by omega) (by omega) h3 rfl (by omega) h4 rfl (by omega))
  have HST := hide (fun (G A : Option Addr) (c : Nat) (B C : Option Addr) (W0 : World) (h1 : Passes W0 A glowF.P) (h2 : Ints W0 B otherP.Order) (h3 : Ints W0 C otherP.Places) (h4 : Ints W0 G ar28) => execStep_any 4 2 3 1 A 5 c glowF.P B 3 3 C 5 5 otherP G 28 28 ar28 0 W0 rfl h1 h2 rfl (by omega) (by omega) h3 rfl (by omega) h4 rfl (by omega))
  rw [eG, eb2, eb1] at HRN
  rw [eG, eb4, eb3] at HST
  clear eG
  obtain ⟨j0, hj0, jz0, jz1, jz2⟩ := info_parts Tryz.info3
  obtain ⟨R, hR⟩ : ∃ R, List.replicate 28 (Value.int .i64 0) = R := ⟨_, rfl⟩
  have hmk : ∀ wx : World, (Instr.makeSlice 25 (.int .i64 28) (.int .i64 28)).run Tryz.prog wx = .ok (.slice (some ⟨wx.heap.size, 0, none⟩) 28 28) (wx.alloc (.cells R.toArray 3)) := fun wx => by
    rw [← hR]; exact run_make_ints 25 3 j0 Tryz.underlying25 hj0 jz0 jz1 jz2 28 28 rfl (by omega) wx
  have hbl : Blk (w.alloc (.cells R.toArray 3)) w.heap.size 3 R := Blk.new w _ _
  have z5 : (w.alloc (.cells R.toArray 3)).cell? ⟨w.heap.size, 5, none⟩ = some (.int .i64 0) := by rw [hbl.cell, ← hR]; rfl
  have zf := hbl.frozen 5
  have hb1 : Below w.heap.size w ((w.alloc (.cells R.toArray 3)).setCell ⟨w.heap.size, 5, none⟩ (.int .i64 77)) := ((Below.refl _ _).alloc (Nat.le_refl _) _).setCell (Nat.le_refl _) _
  have hbs : Blk ((w.alloc (.cells R.toArray 3)).setCell ⟨w.heap.size, 5, none⟩ (.int .i64 77)) w.heap.size 3 (ar28.map (Value.int .i64)) := by
    have h := hbl.set_ 5 (.int .i64 77)
    rw [← hR] at h ⊢
    exact h
  obtain ⟨w1, hw1⟩ : ∃ w1, (w.alloc (.cells R.toArray 3)).setCell ⟨w.heap.size, 5, none⟩ (.int .i64 77) = w1 := ⟨_, rfl⟩
  rw [hw1] at hb1 hbs
  have HB0 := hide hb1
  have HA0 := hide (Keeps.blk hbs)
  clear hR hbl hb1 hbs hj0 jz0 jz1 jz2
  go_enter Tryz.func5, Tryz.ntmps5
  go_wp2_with fail
  refine (glow_any _).mono ?_
  rintro e w2 ⟨A2, c2, rfl, hP2, hE2⟩
  have HB2 := hide (HB0.out.trans (hE2.mono HB0.out.size))
  have HP2 := hide hP2
  have HA2 := hide (HA0.out.move hE2)
  clear hw1 z5 zf hmk hE2 hP2 HB0 HA0
  go_wp2_with fail
  refine (other_any _).mono ?_
  rintro e w3 ⟨B3, C3, rfl, hO3, hQ3, hE3⟩
  have HB3 := hide (HB2.out.trans (hE3.mono HB2.out.size))
  have HA3 := hide (HA2.out.move hE3)
  have hP := HP2.out.keep hE3
  go_wp2_with fail
  refine ((unhide HRN) _ A2 c2 B3 C3 w3 hP hO3 hQ3 HA3.out.now.cells).mono ?_
  rintro e w4 ⟨W4, H4, P4, A4, n4, c4, hr4, hn4, rfl, hI4, hM4, hE4⟩
  injection hr4 with a1 a2 a3
  subst a1 a2 a3
  have hn4 : n4 = 8 := hn4.symm
  subst hn4
  have hba := HB3.out.trans (hE4.mono HB3.out.size)
  have HB4 := hide (hba.alloc hba.size (.cells #[.int .i64 4, .int .i64 2, .slice A4 8 c4] 31))
  have HA4 := hide ((HA3.out.move hE4).alloc (.cells #[.int .i64 4, .int .i64 2, .slice A4 8 c4] 31))
  have HK4 := hide (((Keeps.ints hI4).alloc (.cells #[.int .i64 4, .int .i64 2, .slice A4 8 c4] 31)).and (Keeps.blk (Blk.new w4 31 [.int .i64 4, .int .i64 2, .slice A4 8 c4])))
  clear HB2 HB3 HP2 HA2 HA3 hE3 hP hO3 hQ3 hE4 hI4 hM4 hba HRN
  go_wp2_with fail
  refine (glow_any _).mono ?_
  rintro e w5 ⟨A5, c5, rfl, hP5, hE5⟩
  have HB5 := hide (HB4.out.trans (hE5.mono HB4.out.size))
  have HP5 := hide hP5
  have HA5 := hide (HA4.out.move hE5)
  have HK5 := hide (HK4.out.move hE5)
  clear hE5 hP5 HB4 HA4 HK4
  go_wp2_with fail
  refine (other_any _).mono ?_
  rintro e w6 ⟨B6, C6, rfl, hO6, hQ6, hE6⟩
  have HB6 := hide (HB5.out.trans (hE6.mono HB5.out.size))
  have HA6 := hide (HA5.out.move hE6)
  have HK6 := hide (HK5.out.move hE6)
  have hP := HP5.out.keep hE6
  go_wp2_with fail
  refine ((unhide HST) _ A5 c5 B6 C6 w6 hP hO6 hQ6 HA6.out.now.cells).mono ?_
  rintro e w7 ⟨A7, n7, c7, rfl, hn7, hI7, hE7⟩
  have hn7 : n7 = 28 := hn7.symm
  subst hn7
  have HB7 := hide (HB6.out.trans (hE7.mono HB6.out.size))
  have ha7 := HA6.out.later _ hE7
  obtain ⟨hk1, hk2⟩ := HK6.out.later _ hE7
  obtain ⟨b7, o7, v0, rfl, hb7, hv0, d0⟩ := hI7.at_ 0 (by decide)
  obtain ⟨b7', o7', v5, hA7, _, hv5, d5⟩ := hI7.at_ 5 (by decide)
  injection hA7 with hA7
  injection hA7 with x1 x2
  subst x1 x2
  have hv0 : v0 = 9 := by injection hv0 with h; exact h.symm
  have hv5 : v5 = 9 := by injection hv5 with h; exact h.symm
  subst hv0 hv5
  simp only [Nat.add_zero] at d0
  have e0 : w7.cell? ⟨w.heap.size, 0, none⟩ = some (.int .i64 0) := by rw [ha7.cell]; rfl
  have e5 : w7.cell? ⟨w.heap.size, 5, none⟩ = some (.int .i64 77) := by rw [ha7.cell]; rfl
  have e9 : w7.cell? ⟨w4.heap.size, 2, none⟩ = some (.slice A4 8 c4) := (hk2.cell 2).trans rfl
  have HKK := hide ((((((Keeps.cell d0).and (Keeps.cell d5)).and (Keeps.cell e0)).and (Keeps.cell e5)).and (Keeps.ints hk1)))
  clear HB5 HB6 HP5 HA5 HA6 HK5 HK6 hE6 hP hO6 hQ6 hE7 ha7 hk1 hk2 hI7 HST hb7
  go_wp2_with fail
  have hb8 : Below w7.heap.size w7 (w7.alloc (.cells ([9, 109, 209, 309, 10, 110, 210, 310].map (Value.int .i64)).toArray 3)) := (Below.refl _ _).alloc (Nat.le_refl _) _
  have HB8 := hide (HB7.out.trans (hb8.mono HB7.out.size))
  refine (sameNums A4 (some ⟨w7.heap.size, 0, none⟩) 8 c4 8 [9, 109, 209, 309, 10, 110, 210, 310] (w7.alloc (.cells ([9, 109, 209, 309, 10, 110, 210, 310].map (Value.int .i64)).toArray 3)) rfl (HKK.out.later _ hb8).2 (intsNew _ _) (by omega)).mono ?_
  rintro e w9 ⟨rfl, hE9⟩
  have HB9 := hide (HB8.out.trans (hE9.mono HB8.out.size))
  obtain ⟨⟨⟨⟨f0, f5⟩, g0⟩, g5⟩, _⟩ := HKK.out.later _ (hb8.trans (hE9.mono hb8.size))
  clear HKK HB7 HB8 hb8 hE9 d0 d5 e0 e5 e9
  go_wp2_with fail
  go_ret
  exact ⟨rfl, HB9.out⟩
end Go.Proofs.YtibpmogmeoappacGreat

/- Walk: the law ExecSame. -/
namespace Go.Proofs.YtibpmogmeoappacGreat
open Go.RowKit

theorem runImg_few {f : Frm} {p : Pln} {l : List Int} (hok : ArOk f p l) : (runImg f p l).P.length ≤ 65536 := by
  have h2 := (runTo_ok hok (Nat.le_refl _)).2
  have h3 := hok.room
  unfold runImg lieAt
  simp only [List.length_take, List.length_drop]
  omega
/-- why the plan that is compiled does not run -/
theorem comp_why {f : Frm} {l : List Int} (hf : FrmOk f) (hz : execErr f (comp f) l ≠ 0) : (l.length : Int) < peakAns f (comp f) ∨ execErr f (comp f) l = 3 := by
  have hin := comp_in hf
  have he : planErr f (comp f) = 0 := by unfold planErr; rw [if_neg (by simpa using frErr_zero.2 hf), if_pos hin]
  have hpk : peakAns f (comp f) = peakOf f (comp f) := by unfold peakAns; rw [if_pos he]
  rw [hpk]
  unfold execErr at hz ⊢
  by_cases hr : 0 ≤ (l.length : Int) ∧ (l.length : Int) ≤ 4096
  · have hp := pckErr_of hf hr hin
    by_cases hl : peakOf f (comp f) ≤ (l.length : Int)
    · rw [if_pos ((fits_iff hf (comp_fits hf) hr.1).2 hl)] at hp
      rw [hp] at hz ⊢
      rw [if_neg (by simp)] at hz ⊢
      by_cases hb : l.any badN = true
      · rw [if_pos hb]; exact .inr rfl
      · rw [if_neg hb] at hz; exact absurd rfl hz
    · exact .inl (by omega)
  · have hp : pckErr f (comp f) (l.length : Int) = 3 := by
      unfold pckErr
      rw [if_neg (by simpa using frErr_zero.2 hf), if_pos hr]
    rw [hp, if_pos (by decide)]
    exact .inr rfl
theorem runAns_shown {f : Frm} {p : Pln} {l : List Int} (hz : execErr f p l = 0) : runAns f p l = frAns f ∧ (frAns f).P.length ≤ 65536 := by
  have hok := execErr_zero.1 hz
  have h1 : runAns f p l = runImg f p l := if_pos hz
  have h2 : frAns f = frShown f := if_pos (frErr_zero.2 hok.frm)
  have h3 := runImg_few hok
  rw [run_shown hok] at h1 h3
  rw [h1, h2]
  exact ⟨rfl, h3⟩
set_option maxRecDepth 100000 in
set_option maxHeartbeats 8000000 in
theorem execSame_any (W H S O : Int) (PA : Option Addr) (n c : Nat) (ps : List Pas) (OA : Option Addr) (on oc : Nat) (Od : List Int) (QA : Option Addr) (qn qc : Nat) (Pl : List Int) (GA : Option Addr) (gn gc : Nat) (l : List Int) (w : World) (hn : ps.length = n) (hP : Passes w PA ps) (_hl : n ≤ 9223372036854775807)
    (hon : Od.length = on) (hO : Ints w OA Od) (hol : on ≤ 9223372036854775807) (hoc : on ≤ oc) (hqn : Pl.length = qn) (hQ : Ints w QA Pl) (hql : qn ≤ 9223372036854775807) (hgn : l.length = gn) (hG : Ints w GA l) (hgl : gn ≤ 9223372036854775807) (_hgc : gn ≤ gc) :
    Calls Tryz.prog 4 #[.agg #[.int .i64 W, .int .i64 H, .int .i64 S, .int .i64 O, .slice PA n c], .agg #[.slice OA on oc, .slice QA qn qc], .slice GA gn gc] w fun e w' => e = .returned (.bool true) ∧ Below w.heap.size w w' := by
  have hb := ((Below.refl w.heap.size w).alloc (Nat.le_refl _) (.cells #[.int .i64 W, .int .i64 H, .int .i64 S, .int .i64 O, .slice PA n c] 24)).alloc (by simp) (.cells #[.slice OA on oc, .slice QA qn qc] 27)
  have hbx := (show FrmBox (w.alloc (.cells #[.int .i64 W, .int .i64 H, .int .i64 S, .int .i64 O, .slice PA n c] 24)) w.heap.size W H S O PA n c from Blk.new w 24 (frmCells W H S O PA n c)).alloc (.cells #[.slice OA on oc, .slice QA qn qc] 27)
  have hpx : Blk ((w.alloc (.cells #[.int .i64 W, .int .i64 H, .int .i64 S, .int .i64 O, .slice PA n c] 24)).alloc (.cells #[.slice OA on oc, .slice QA qn qc] 27)) (w.heap.size + 1) 27 [.slice OA on oc, .slice QA qn qc] := Blk.newE (by simp)
  obtain ⟨p, hp⟩ : ∃ p : Pln, p = ⟨Od, Pl⟩ := ⟨_, rfl⟩
  have hop : p.Order = Od := by rw [hp]
  have hqp : p.Places = Pl := by rw [hp]
  rw [← hop] at hon hO
  rw [← hqp] at hqn hQ
  have hrn := fun (W0 : World) (h1 : Passes W0 PA ps) => render_any W H S O PA n c ps W0 hn h1
  have hst := fun (W0 : World) (h1 : Passes W0 PA ps) (h2 : Ints W0 OA p.Order) (h3 : Ints W0 QA p.Places) (h4 : Ints W0 GA l) => execRun_any W H S O PA n c ps OA on oc QA qn qc p GA gn gc l W0 hn h1 h2 hon hol hoc h3 hqn hql h4 hgn hgl
  have hcm := fun (W0 : World) (h1 : Passes W0 PA ps) => compile_any W H S O PA n c ps W0 hn h1
  have hs2 := fun (q : Pln) (A : Option Addr) (a b : Nat) (B : Option Addr) (d m : Nat) (W0 : World) (h1 : Passes W0 PA ps) (h2 : Ints W0 A q.Order) (h3 : q.Order.length = a) (h4 : a ≤ 65536) (h5 : a ≤ b) (h6 : Ints W0 B q.Places) (h7 : q.Places.length = d) (h8 : d ≤ 65536) (h9 : Ints W0 GA l) => execRun_any W H S O PA n c ps A a b B d m q GA gn gc l W0 hn h1 h2 h3 (by omega) h5 h6 h7 (by omega) h9 hgn hgl
  have hpk := fun (q : Pln) (A : Option Addr) (a b : Nat) (B : Option Addr) (d m : Nat) (W0 : World) (h1 : Passes W0 PA ps) (h2 : Ints W0 A q.Order) (h3 : q.Order.length = a) (h4 : a ≤ 65536) (h6 : Ints W0 B q.Places) (h7 : q.Places.length = d) (h8 : d ≤ 65536) => planPeak_any W H S O PA n c ps A a b B d m q W0 hn h1 h2 h3 (by omega) h6 h7 (by omega)
  have hio := hO.keep hb
  have hiq := hQ.keep hb
  have hig := hG.keep hb
  have hpa := hP.keep hb
  obtain ⟨f, hf⟩ : ∃ f : Frm, f = ⟨W, H, S, O, ps⟩ := ⟨_, rfl⟩
  rw [← hf] at hrn hst hcm hs2 hpk
  obtain ⟨w1, hw1⟩ : ∃ w1, ((w.alloc (.cells #[.int .i64 W, .int .i64 H, .int .i64 S, .int .i64 O, .slice PA n c] 24)).alloc (.cells #[.slice OA on oc, .slice QA qn qc] 27)) = w1 := ⟨_, rfl⟩
  rw [hw1] at hb hbx hpx hio hiq hig hpa
  have HB := hide hb
  have HBX := hide (Keeps.blk hbx)
  have HPX := hide (Keeps.blk hpx)
  have HIO := hide (Keeps.ints hio)
  have HIQ := hide (Keeps.ints hiq)
  have HIG := hide (Keeps.ints hig)
  have HP := hide (Keeps.passes hpa)
  obtain ⟨er, her⟩ : ∃ er, frErr f = er := ⟨_, rfl⟩
  rw [her] at hrn
  have HRN := hide hrn
  have HGN := hide hgn
  obtain ⟨x, q0, q1, q2, q3, q4⟩ := FrmBox.cells (show FrmBox _ _ W H S O PA n c from hbx)
  obtain ⟨y, r0, r1⟩ := plan_box hpx
  clear hn hP hon hO hol hoc hqn hQ hql hG hb hbx hpx hio hiq hig hpa hp hop hqp hf hrn hgn
  by_cases hz : er = 0
  · have hok := frErr_zero.1 (her.trans hz)
    have hca : compAns f = comp f := if_pos (her.trans hz)
    rw [hca, her, hz] at hcm
    have hpe : planErr f (comp f) = 0 := by unfold planErr; rw [if_neg (by simpa using frErr_zero.2 hok), if_pos (comp_in hok)]
    obtain ⟨z1, hz1⟩ : ∃ z, execErr f p l = z := ⟨_, rfl⟩
    obtain ⟨z2, hz2⟩ : ∃ z, execErr f (comp f) l = z := ⟨_, rfl⟩
    obtain ⟨pk, hpke⟩ : ∃ z, peakAns f (comp f) = z := ⟨_, rfl⟩
    have hsh1 := fun h : z1 = 0 => runAns_shown (hz1.trans h)
    have hsh2 := fun h : z2 = 0 => runAns_shown (hz2.trans h)
    have hwhy := fun h : z2 ≠ 0 => comp_why (l := l) hok (by rw [hz2]; exact h)
    rw [hpke, hz2, HGN.out] at hwhy
    rw [hz1] at hst
    have hs2 := hs2 (comp f)
    rw [hz2] at hs2
    have hpk := hpk (comp f)
    rw [hpke, hpe] at hpk
    obtain ⟨J1, hJ1⟩ : ∃ J, runAns f p l = J := ⟨_, rfl⟩
    obtain ⟨J2, hJ2⟩ : ∃ J, runAns f (comp f) l = J := ⟨_, rfl⟩
    rw [hJ1] at hst hsh1
    rw [hJ2] at hs2 hsh2
    have hol12 : (comp f).Order.length ≤ 12 ∧ (comp f).Places.length ≤ 12 := by
      have h1 := compO_len hok
      have h2 := hok.many
      refine ⟨h1, ?_⟩
      show (placesTo f (List.replicate f.P.length (-1)) (compO f).length).length ≤ 12
      rw [placesTo_len, List.length_replicate]
      exact h2.2
    have HST := hide hst
    have HCM := hide hcm
    have HS2 := hide hs2
    have HPK := hide hpk
    have HH1 := hide hsh1
    have HH2 := hide hsh2
    have HWY := hide hwhy
    have HOL := hide hol12
    subst hz
    clear hst hcm hs2 hpk hsh1 hsh2 hwhy hol12 hz1 hz2 hpke hpe hJ1 hJ2 hok hca her
    go_enter Tryz.func4, Tryz.ntmps4
    go_wp2_with fail
    refine ((unhide HRN) _ HP.out.now).mono ?_
    rintro e w2 ⟨U2, V2, P2, A2, n2, c2, hr2, hn2, rfl, hI2, hE2⟩
    have hal2 : Below w2.heap.size w2 (w2.alloc (.cells #[.int .i64 U2, .int .i64 V2, .slice A2 n2 c2] 31)) := (Below.refl _ _).alloc (Nat.le_refl _) _
    have HE2 := hide (hE2.trans (hal2.mono hE2.size))
    have HK2 := hide (((Keeps.ints hI2).move hal2).and (Keeps.blk (Blk.new w2 31 [.int .i64 U2, .int .i64 V2, .slice A2 n2 c2])))
    have HR2 := hide hr2
    have HN2 := hide hn2
    clear hw1 x q0 q1 q2 q3 q4 y r0 r1 hn2 hI2 hE2 hal2 hr2 HRN
    obtain ⟨x, q0, q1, q2, q3, q4⟩ := FrmBox.cells (show FrmBox _ _ W H S O PA n c from HBX.out.later _ HE2.out)
    obtain ⟨y, r0, r1⟩ := plan_box (HPX.out.later _ HE2.out)
    go_wp2_with fail
    refine ((unhide HST) _ (HP.out.later _ HE2.out) (HIO.out.later _ HE2.out) (HIQ.out.later _ HE2.out) (HIG.out.later _ HE2.out)).mono ?_
    rintro e w3 ⟨U3, V3, P3, A3, n3, c3, hr3, hn3, rfl, hI3, -, hE3⟩
    have hal3 : Below w3.heap.size w3 (w3.alloc (.cells #[.int .i64 U3, .int .i64 V3, .slice A3 n3 c3] 31)) := (Below.refl _ _).alloc (Nat.le_refl _) _
    have hE3a := hE3.trans (hal3.mono hE3.size)
    have hk3 := Blk.new w3 31 [.int .i64 U3, .int .i64 V3, .slice A3 n3 c3]
    have hi3 := hI3.keep hal3
    have HE3 := hide (HE2.out.trans (hE3a.mono HE2.out.size))
    have HK3 := hide (HK2.out.move hE3a)
    have HR3 := hide hr3
    have HN3 := hide hn3
    clear x q0 q1 q2 q3 q4 y r0 r1 hn3 hI3 hE3 hal3 hr3 HST HE2 HK2 hE3a
    by_cases h1 : z1 = 0
    case' pos =>
      obtain ⟨hj, hfew⟩ := HH1.out h1
      have hi := HR3.out.trans (hj.trans HR2.out.symm)
      injection hi with g1 g2 g3
      subst g1 g2 g3
      subst h1
      obtain rfl : n2 = n3 := HN2.out.symm.trans HN3.out
      have hn9 : n2 ≤ 9223372036854775807 := by
        rw [← HR2.out] at hfew
        have := HN2.out
        simp only at hfew
        omega
      obtain ⟨hi2, hk2⟩ := HK3.out.now
      have k0 : (w3.alloc (.cells #[.int .i64 U3, .int .i64 V3, .slice A3 n2 c3] 31)).cell? ⟨w2.heap.size, 0, none⟩ = some (.int .i64 U3) := (hk2.cell 0).trans rfl
      have k1 : (w3.alloc (.cells #[.int .i64 U3, .int .i64 V3, .slice A3 n2 c3] 31)).cell? ⟨w2.heap.size, 1, none⟩ = some (.int .i64 V3) := (hk2.cell 1).trans rfl
      have k2 : (w3.alloc (.cells #[.int .i64 U3, .int .i64 V3, .slice A3 n2 c3] 31)).cell? ⟨w2.heap.size, 2, none⟩ = some (.slice A2 n2 c2) := (hk2.cell 2).trans rfl
      have k6 := hk2.lt
      have HSI := hide (sameImages_any U3 V3 U3 V3 A3 A2 n2 c3 n2 c2 P3 P3 _ HN2.out HN2.out hi3 hi2 hn9)
      rw [show decide ((⟨U3, V3, P3⟩ : Img) = ⟨U3, V3, P3⟩) = true from decide_eq_true rfl] at HSI
      clear hi2 hk2 hk3 hi3 hj hfew hn9
      go_wp2_with fail
      refine (unhide HSI).mono ?_
      rintro e w4 ⟨rfl, hE4⟩
      have HE4 := hide (HE3.out.trans (hE4.mono HE3.out.size))
      have HK4 := hide (HK3.out.move hE4)
      clear hE4 HSI HE3 HK3 k0 k1 k2 k6
      obtain ⟨x, q0, q1, q2, q3, q4⟩ := FrmBox.cells (show FrmBox _ _ W H S O PA n c from HBX.out.later _ HE4.out)
      go_wp2_with fail
    case' neg =>
      have h1b : (z1 == 0) = false := by simpa using h1
      have HE4 := HE3
      have HK4 := HK3
      clear hk3 hi3 HE3 HK3 h1
      obtain ⟨x, q0, q1, q2, q3, q4⟩ := FrmBox.cells (show FrmBox _ _ W H S O PA n c from HBX.out.later _ HE4.out)
      go_wp2_with fail
    all_goals
      refine ((unhide HCM) _ (HP.out.later _ HE4.out)).mono ?_
      rintro e w5 ⟨OB, bn, bc, QB, m, d, rfl, hbn, hm, hO5, hQ5, hbc, -, -, -, hE5⟩
      have hal5 : Below w5.heap.size w5 (w5.alloc (.cells #[.slice OB bn bc, .slice QB m d] 27)) := (Below.refl _ _).alloc (Nat.le_refl _) _
      have hE5a := hE5.trans (hal5.mono hE5.size)
      have HE5 := hide (HE4.out.trans (hE5a.mono HE4.out.size))
      have HK5 := hide (HK4.out.move hE5a)
      have HX5 := hide (((Keeps.blk (Blk.new w5 27 [.slice OB bn bc, .slice QB m d])).and (Keeps.ints (hO5.keep hal5))).and (Keeps.ints (hQ5.keep hal5)))
      have hbl : bn ≤ 12 ∧ m ≤ 12 := by have := HOL.out; omega
      have HBN := hide hbn
      have HMM := hide hm
      clear hO5 hQ5 hE5 hal5 hE5a HE4 HK4 HCM x q0 q1 q2 q3 q4 hbn hm
      obtain ⟨x, q0, q1, q2, q3, q4⟩ := FrmBox.cells (show FrmBox _ _ W H S O PA n c from HBX.out.later _ HE5.out)
      obtain ⟨y, r0, r1⟩ := plan_box HX5.out.now.1.1
      go_wp2_with fail
      refine ((unhide HS2) OB bn bc QB m d _ (HP.out.later _ HE5.out) HX5.out.now.1.2 HBN.out (by omega) hbc HX5.out.now.2 HMM.out (by omega) (HIG.out.later _ HE5.out)).mono ?_
      rintro e w6 ⟨U6, V6, P6, A6, n6, c6, hr6, hn6, rfl, hI6, -, hE6⟩
      have hal6 : Below w6.heap.size w6 (w6.alloc (.cells #[.int .i64 U6, .int .i64 V6, .slice A6 n6 c6] 31)) := (Below.refl _ _).alloc (Nat.le_refl _) _
      have hE6a := hE6.trans (hal6.mono hE6.size)
      have HE6 := hide (HE5.out.trans (hE6a.mono HE5.out.size))
      have HK6 := hide (HK5.out.move hE6a)
      have HX6 := hide (HX5.out.move hE6a)
      have HI6 := hide ((Keeps.blk (Blk.new w6 31 [.int .i64 U6, .int .i64 V6, .slice A6 n6 c6])).and (Keeps.ints (hI6.keep hal6)))
      have HR6 := hide hr6
      have HN6 := hide hn6
      clear hI6 hE6 hal6 hE6a HE5 HK5 HX5 HS2 x q0 q1 q2 q3 q4 y r0 r1 hr6 hn6
      obtain ⟨x, q0, q1, q2, q3, q4⟩ := FrmBox.cells (show FrmBox _ _ W H S O PA n c from HBX.out.later _ HE6.out)
      obtain ⟨y, r0, r1⟩ := plan_box HX6.out.now.1.1
      go_wp2_with fail
      refine ((unhide HPK) OB bn bc QB m d _ (HP.out.later _ HE6.out) HX6.out.now.1.2 HBN.out (by omega) HX6.out.now.2 HMM.out (by omega)).mono ?_
      rintro e w7 ⟨rfl, hE7⟩
      have HE7 := hide (HE6.out.trans (hE7.mono HE6.out.size))
      have HK7 := hide (HK6.out.move hE7)
      have HI7 := hide (HI6.out.move hE7)
      clear hE7 HE6 HK6 HX6 HI6 HPK x q0 q1 q2 q3 q4 y r0 r1
      by_cases h2 : z2 = 0
      · obtain ⟨hj, hfew⟩ := HH2.out h2
        have hi := HR6.out.trans (hj.trans HR2.out.symm)
        injection hi with g1 g2 g3
        subst g1 g2 g3
        subst h2
        obtain rfl : n6 = n2 := HN6.out.symm.trans HN2.out
        have hn9 : n6 ≤ 9223372036854775807 := by
          rw [← HR2.out] at hfew
          have := HN2.out
          simp only at hfew
          omega
        clear hj hfew
        go_wp2_with fail
        refine (execBegun_any _).mono ?_
        rintro e w8 ⟨rfl, hE8⟩
        obtain ⟨hi2, hk2⟩ := HK7.out.later _ hE8
        obtain ⟨hk6, hi6⟩ := HI7.out.later _ hE8
        have k0 : w8.cell? ⟨w2.heap.size, 0, none⟩ = some (.int .i64 U6) := (hk2.cell 0).trans rfl
        have k1 : w8.cell? ⟨w2.heap.size, 1, none⟩ = some (.int .i64 V6) := (hk2.cell 1).trans rfl
        have k2 : w8.cell? ⟨w2.heap.size, 2, none⟩ = some (.slice A2 n6 c2) := (hk2.cell 2).trans rfl
        have k3 : w8.cell? ⟨w6.heap.size, 0, none⟩ = some (.int .i64 U6) := (hk6.cell 0).trans rfl
        have k4 : w8.cell? ⟨w6.heap.size, 1, none⟩ = some (.int .i64 V6) := (hk6.cell 1).trans rfl
        have k5 : w8.cell? ⟨w6.heap.size, 2, none⟩ = some (.slice A6 n6 c6) := (hk6.cell 2).trans rfl
        have k6 := hk2.lt
        have k7 := hk6.lt
        have HSI := hide (sameImages_any U6 V6 U6 V6 A6 A2 n6 c6 n6 c2 P6 P6 w8 HN2.out HN2.out hi6 hi2 hn9)
        rw [show decide ((⟨U6, V6, P6⟩ : Img) = ⟨U6, V6, P6⟩) = true from decide_eq_true rfl] at HSI
        have HE8 := hide (HE7.out.trans (hE8.mono HE7.out.size))
        clear hi2 hk2 hk6 hi6 hn9 hE8 HE7 HK7 HI7
        go_wp2_with fail
        refine (unhide HSI).mono ?_
        rintro e w9 ⟨rfl, hE9⟩
        have HE9 := hide (HE8.out.trans (hE9.mono HE8.out.size))
        clear hE9 HSI HE8
        go_wp2_with fail
        go_ret
        exact ⟨rfl, HB.out.trans (HE9.out.mono HB.out.size)⟩
      · have hw := HWY.out h2
        have h2b : (z2 != 0) = true := by simpa using h2
        have h2c : (z2 == 0) = false := by simpa using h2
        clear h2
        rcases hw with hw | hw
        · go_wp2_with fail
          refine (execBegun_any _).mono ?_
          rintro e w8 ⟨rfl, hE8⟩
          have HE8 := hide (HE7.out.trans (hE8.mono HE7.out.size))
          clear hE8 HE7 HK7 HI7
          go_wp2_with fail
          all_goals try (exfalso; omega)
          go_ret
          exact ⟨rfl, HB.out.trans (HE8.out.mono HB.out.size)⟩
        · subst hw
          go_wp2_with fail
          refine (execBegun_any _).mono ?_
          rintro e w8 ⟨rfl, hE8⟩
          have HE8 := hide (HE7.out.trans (hE8.mono HE7.out.size))
          clear hE8 HE7 HK7 HI7
          go_wp2_with fail
          all_goals (go_ret; exact ⟨rfl, HB.out.trans (HE8.out.mono HB.out.size)⟩)
  · have hz2 : (er != 0) = true := by simpa using hz
    clear hst hcm hs2 hpk hz her
    go_enter Tryz.func4, Tryz.ntmps4
    go_wp2_with fail
    refine ((unhide HRN) _ HP.out.now).mono ?_
    rintro e w2 ⟨U2, V2, P2, A2, n2, c2, hr2, hn2, rfl, hI2, hE2⟩
    have hal2 : Below w2.heap.size w2 (w2.alloc (.cells #[.int .i64 U2, .int .i64 V2, .slice A2 n2 c2] 31)) := (Below.refl _ _).alloc (Nat.le_refl _) _
    have HE2 := hide (hE2.trans (hal2.mono hE2.size))
    clear hw1 x q0 q1 q2 q3 q4 y r0 r1 hn2 hI2 hE2 hal2 hr2 HRN
    go_wp2_with fail
    refine (execBegun_any _).mono ?_
    rintro e w3 ⟨rfl, hE3⟩
    have HE3 := hide (HE2.out.trans (hE3.mono HE2.out.size))
    clear hE3 HE2
    go_wp2_with fail
    go_ret
    exact ⟨rfl, HB.out.trans (HE3.out.mono HB.out.size)⟩
end Go.Proofs.YtibpmogmeoappacGreat
