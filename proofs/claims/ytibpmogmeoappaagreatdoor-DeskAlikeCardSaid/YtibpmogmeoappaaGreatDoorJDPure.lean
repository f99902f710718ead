/- Plans worked out in an arena, as plain Lean: what comes is what the frame shows, whatever lay there. -/
import Derived.Test.YtibpmogmeoappaaGreatDoorJExcA
import Derived.Test.YtibpmogmeoappaaGreatDoorJDSpec
import Derived.Test.YtibpmogmeoappaaGreatDoorJQPure
namespace Go.Proofs.YtibpmogmeoappaaGreatDoor
theorem stepOf_lt {l : List Int} {k : Int} (h : 0 ≤ stepOf l k) : stepOf l k < l.length := by
 rcases stepOf_cases l k with ⟨h1, _⟩ | ⟨i, h1, h2, _⟩
 ·omega
 ·have : i < l.length := by
   by_cases e : i < l.length
   ·exact e
   ·rw [List.getElem?_eq_none (by omega)] at h2; cases h2
  omega
theorem lastUse_ge {f : Frm} {p : Pln} {k : Int} {i : Nat} : ∀ {m : Nat}, i < m → k ∈ srcs f (p.ord i).toNat → (i : Int) ≤ lastUse f p k m := by
 intro m
 induction m with
 | zero => intro h; omega
 | succ m ih =>
   intro h hk;simp only [lastUse]
   by_cases e : k ∈ srcs f (p.ord m).toNat
   ·rw [if_pos e]; omega
   ·rw [if_neg e]
    have : i ≠ m := fun h => e (h ▸ hk);exact ih (by omega) hk
theorem lastUse_step {f : Frm} {p : Pln} {k : Int} (hu : ∀ i, i < p.Order.length → k ∈ srcs f (p.ord i).toNat → stepOf p.Order k ≤ i) : ∀ m : Nat, m ≤ p.Order.length → stepOf p.Order k ≤ lastUse f p k m := by
 intro m
 induction m with
 | zero => intro _; exact Int.le_refl _
 | succ m ih =>
   intro h;simp only [lastUse]
   by_cases e : k ∈ srcs f (p.ord m).toNat
   ·rw [if_pos e]; exact hu m (by omega) e
   ·rw [if_neg e]; exact ih (by omega)
theorem span_ge {f : Frm} {p : Pln} (h : InOrder f p) {k : Nat} (hd : 0 ≤ stepOf p.Order k) : stepOf p.Order k ≤ (spanOf f p k).Last := by
 simp only [spanOf];by_cases e : (k : Int) = frLast f
 ·rw [if_pos e]
  have := stepOf_lt hd;omega
 ·rw [if_neg e]
  exact lastUse_step (fun i hi hk => by have := (h.step i hi).2.2 _ hk; omega) _ (Nat.le_refl _)
theorem part_put {l vs : List Int} {i a n : Nat} (hi : i + vs.length ≤ l.length) (h : a + n ≤ i ∨ i + vs.length ≤ a) : ((putAt l i vs).drop a).take n = (l.drop a).take n := by
 apply List.ext_getElem
 ·simp only [List.length_take, List.length_drop, putAt_len hi]
 ·intro j h1 h2
  simp only [List.length_take, List.length_drop, putAt_len hi] at h1;simp only [List.getElem_take, List.getElem_drop, putAt];rcases h with h | h
  ·rw [List.getElem_append_left (by simp only [List.length_append, List.length_take]; omega), List.getElem_append_left (by simp only [List.length_take]; omega), List.getElem_take]
  ·rw [List.getElem_append_right (by simp only [List.length_append, List.length_take]; omega), List.getElem_drop]
   congr 1
   simp only [List.length_append, List.length_take];omega
theorem put_part {l vs : List Int} {i : Nat} (hi : i + vs.length ≤ l.length) : ((putAt l i vs).drop i).take vs.length = vs := by
 apply List.ext_getElem
 ·simp only [List.length_take, List.length_drop, putAt_len hi]; omega
 ·intro j h1 h2
  simp only [List.getElem_take, List.getElem_drop, putAt];rw [List.getElem_append_left (by simp only [List.length_append, List.length_take]; omega), List.getElem_append_right (by simp only [List.length_take]; omega)]
  congr 1
  simp only [List.length_take];omega
def Right (f : Frm) (p : Pln) (l : List Int) (i : Nat) : Prop := ∀ k, k < f.P.length → 0 ≤ stepOf p.Order k → stepOf p.Order k < i → (i : Int) - 1 ≤ (spanOf f p k).Last → lieAt l f p k = frImg f k
theorem lieOf_right {f : Frm} {p : Pln} {l : List Int} {i : Nat} (h : ArOk f p l) (hR : Right f p l i) (hi : i < p.Order.length) {j : Int} (hj : j ∈ srcs f (p.ord i).toNat) : lieOf l f p j = imgOf (frImgs f (p.ord i).toNat) j := by
 have ho := h.ordAt hi;have hs := (h.ord.step i hi).2.2 j hj;have hb := h.frm.src (k := (p.ord i).toNat) (by omega) hj;rw [imgOf_at f hb.1 hb.2];unfold lieOf;rw [if_neg (by omega)];have e : ((j.toNat : Nat) : Int) = j := Int.toNat_of_nonneg hb.1;refine hR j.toNat (by omega) (by rw [e]; exact hs.1) (by rw [e]; exact hs.2) ?_
 have hx : ¬ (j.toNat : Int) = frLast f → (i : Int) ≤ (spanOf f p j.toNat).Last := fun hl => by
  simp only [spanOf];rw [if_neg hl, e];exact lastUse_ge hi hj
 by_cases hl : (j.toNat : Int) = frLast f
 ·simp only [spanOf]
  rw [if_pos hl];omega
 ·have := hx hl; omega
theorem passImg_congr {W H : Int} {p : Pas} {a b a' b' : Img} (ha : hasA p.Op = true → a = a') (hb : hasB p.Op = true → b = b') : passImg W H p a b = passImg W H p a' b' := by
 unfold passImg;by_cases h1 : hasA p.Op = false
 ·rw [if_pos h1, if_pos h1]
 ·have h1' : hasA p.Op = true := by simpa using h1
  rw [if_neg h1, if_neg h1, ha h1'];by_cases h2 : hasB p.Op = true
  ·rw [if_pos h2, if_pos h2, hb h2]
  ·rw [if_neg h2, if_neg h2]
theorem doImg_right {f : Frm} {p : Pln} {l : List Int} {i : Nat} (h : ArOk f p l) (hR : Right f p l i) (hi : i < p.Order.length) : doImg f p l (p.ord i).toNat = frImg f (p.ord i).toNat := by
 unfold doImg frImg;exact passImg_congr (fun e => lieOf_right h hR hi (srcA_mem e)) (fun e => lieOf_right h hR hi (srcB_mem e))
theorem right_step {f : Frm} {p : Pln} {l : List Int} {i : Nat} (h : ArOk f p l) (hR : Right f p l i) (hi : i < p.Order.length) : Right f p (stepAr f p l (p.ord i).toNat) (i + 1) := by
 have ho := h.ordAt hi;have hkn : (p.ord i).toNat < f.P.length := by omega
 have hdi := doImg_right h hR hi;have hdl := doImg_len h hkn ho.2;have hpl := h.place hkn ho.2;have hst := (h.ord.step i hi).2.1;have e : (((p.ord i).toNat : Nat) : Int) = p.ord i := Int.toNat_of_nonneg ho.1.1;have hsp := span_ge h.ord ho.2;rw [e, hst] at hsp;intro k hk hd hlt hlast;have hpk := h.place hk hd;by_cases he : stepOf p.Order k = i
 ·
  have hkk : k = (p.ord i).toNat := by
   rcases stepOf_cases p.Order k with ⟨h1, _⟩ | ⟨m, h1, h2, _⟩
   ·omega
   ·have hm : m = i := by omega
    subst hm;rw [p.ord_at hi] at h2;injection h2 with h2;omega
  subst hkk;have hs := doImg_fine h hkn ho.2;unfold lieAt stepAr;rw [show (areaOf f (p.ord i).toNat).toNat = (doImg f p l (p.ord i).toNat).P.length by omega, put_part (by omega), ← hs.2.1, ← hs.2.2, ← hdi]
 ·have hlt' : stepOf p.Order k < i := by omega
  rw [← hR k hk hd hlt' (by omega)];unfold lieAt stepAr
  congr 1
  have hne : k ≠ (p.ord i).toNat := fun e2 => he (by rw [e2, e]; exact hst)
  have hm1 : meetB (spanOf f p k) (spanOf f p (p.ord i).toNat) = true := by
   unfold meetB;refine decide_eq_true ⟨?_, ?_⟩
   ·show stepOf p.Order k ≤ _
    omega
   ·show stepOf p.Order ((p.ord i).toNat : Int) ≤ _
    rw [e, hst]; omega
  have ha := (frSize_bd h.frm hk).2;have ha2 := (frSize_bd h.frm hkn).2
  have hnc : ¬ Clash f p k (p.ord i).toNat := by
   by_cases hlt2 : k < (p.ord i).toNat
   ·rcases h.fits _ hkn with e2 | ⟨-, e2⟩
    ·omega
    ·rcases e2 k hlt2 with e3 | e3
     ·omega
     ·exact fun hc => e3 hc.symm
   ·rcases h.fits _ hk with e2 | ⟨-, e2⟩
    ·omega
    ·rcases e2 _ (show (p.ord i).toNat < k by omega) with e3 | e3
     ·omega
     ·exact e3
  have hap : p.pl k + areaOf f k ≤ p.pl (p.ord i).toNat ∨ p.pl (p.ord i).toNat + areaOf f (p.ord i).toNat ≤ p.pl k := by
   by_cases e2 : p.pl k < p.pl (p.ord i).toNat + areaOf f (p.ord i).toNat
   ·by_cases e3 : p.pl (p.ord i).toNat < p.pl k + areaOf f k
    ·exact absurd ⟨hm1, e2, e3⟩ hnc
    ·left; omega
   ·right; omega
  exact part_put (by omega) (by omega)
theorem runTo_right {f : Frm} {p : Pln} {l : List Int} (h : ArOk f p l) {i : Nat} (hi : i ≤ p.Order.length) : Right f p (runTo f p l i) i := by
 induction i with
 | zero => intro k _ h1 h2; omega
 | succ i ih => exact right_step (runTo_ok h (by omega)).1 (ih (by omega)) (by omega)
theorem run_shown {f : Frm} {p : Pln} {l : List Int} (h : ArOk f p l) : runImg f p l = frShown f := by
 have hl := h.last;have e : (((frLast f).toNat : Nat) : Int) = frLast f := Int.toNat_of_nonneg hl.1.1;unfold runImg frShown;rw [imgOf_at f hl.1.1 hl.1.2];have hsb := stepOf_lt hl.2;refine runTo_right h (Nat.le_refl _) _ (by omega) hl.2 (by omega) ?_;simp only [spanOf];rw [if_pos e];omega
end Go.Proofs.YtibpmogmeoappaaGreatDoor
namespace Go.Proofs.YtibpmogmeoappaaGreatDoor
theorem zeros_any (n : Nat) : (List.replicate n (0 : Int)).any badN = false := by
 rw [List.any_replicate];split <;> rfl
theorem comp_runs {f : Frm} (hf : FrmOk f) {n : Nat} (h1 : n ≤ 4096) (hp : peakOf f (comp f) ≤ n) : execErr f (comp f) (List.replicate n 0) = 0 := by
 have hin := comp_in hf;have hr : 0 ≤ ((List.replicate n (0 : Int)).length : Int) ∧ ((List.replicate n (0 : Int)).length : Int) ≤ 4096 := by rw [List.length_replicate]; omega
 have h := pckErr_of hf hr hin;rw [if_pos ((fits_iff hf (comp_fits hf) hr.1).2 (by rw [List.length_replicate]; exact hp))] at h;unfold execErr;rw [if_neg (by rw [h]; simp), if_neg (by rw [zeros_any]; simp)]
theorem comp_shown {f : Frm} (hf : FrmOk f) {n : Nat} (h1 : n ≤ 4096) (hp : peakOf f (comp f) ≤ n) : runAns f (comp f) (List.replicate n 0) = frAns f ∧ frAns f = frShown f ∧ (frShown f).Fine := by
 have hz := comp_runs hf h1 hp;have h2 : runAns f (comp f) (List.replicate n 0) = runImg f (comp f) (List.replicate n 0) := if_pos hz;have h3 : frAns f = frShown f := if_pos (frErr_zero.2 hf);rw [h2, h3, run_shown (execErr_zero.1 hz)];exact ⟨rfl, rfl, (frShown_fine hf).1⟩
theorem comp_plan {f : Frm} (hf : FrmOk f) : compAns f = comp f ∧ peakAns f (comp f) = peakOf f (comp f) := by
 refine ⟨if_pos (frErr_zero.2 hf), ?_⟩;have he : planErr f (comp f) = 0 := by unfold planErr; rw [if_neg (by simpa using frErr_zero.2 hf), if_pos (comp_in hf)]
 unfold peakAns;rw [if_pos he]
theorem fine_few {a : Img} (h : a.Fine) : a.P.length ≤ 256 := by
 have := mul_bd h.1.1 h.1.2 h.2.1.1 h.2.1.2;have := h.2.2.1;omega
end Go.Proofs.YtibpmogmeoappaaGreatDoor
