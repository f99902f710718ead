/- Walks of the laws on images. -/
import Derived.Test.YtibpmogmeoappaaImgN
import Derived.Test.YtibpmogmeoappaaImgF
import Derived.Test.YtibpmogmeoappaaImgG
import Derived.Test.YtibpmogmeoappaaImgM
namespace Go.Proofs.Ytibpmogmeoappaa
open Go.RowKit

theorem keepCell {w w' : World} (hb : Below w.heap.size w w') {b o : Nat} {v : Value} (h : w.cell? ⟨b, o, none⟩ = some v) : w'.cell? ⟨b, o, none⟩ = some v :=
  (hb.cell (p := ⟨b, o, none⟩) (World.block_lt_of_cell? w _ h)).trans h
theorem keepB {w w1 w2 : World} (h : Below w.heap.size w w1) (hE : Below w1.heap.size w1 w2) : Below w.heap.size w w2 := h.trans (hE.mono h.size)
/-- an image is stored into a variable's block -/
theorem put3_box {w : World} {g : Nat} {t : TypeId} {u v z a b c : Value} (h : Blk w g t [u, v, z]) : Blk (((w.setCell ⟨g, 0, none⟩ a).setCell ⟨g, 1, none⟩ b).setCell ⟨g, 2, none⟩ c) g t [a, b, c] := ((h.set_ 0 a).set_ 1 b).set_ 2 c
theorem put3_far {w : World} {g g' : Nat} {t : TypeId} {cs : List Value} {a b c : Value} (h : Blk w g' t cs) (hne : g' ≠ g) : Blk (((w.setCell ⟨g, 0, none⟩ a).setCell ⟨g, 1, none⟩ b).setCell ⟨g, 2, none⟩ c) g' t cs := ((h.far (p := ⟨g, 0, none⟩) hne a).far (p := ⟨g, 1, none⟩) hne b).far (p := ⟨g, 2, none⟩) hne c
theorem put3_ints {w : World} {g B : Nat} {A : Option Addr} {P : List Int} {a b c : Value} (h : Ints w A P) (hA : NewFrom B A) (hg : g < B) : Ints (((w.setCell ⟨g, 0, none⟩ a).setCell ⟨g, 1, none⟩ b).setCell ⟨g, 2, none⟩ c) A P := ((h.far hA (p := ⟨g, 0, none⟩) hg a).far hA (p := ⟨g, 1, none⟩) hg b).far hA (p := ⟨g, 2, none⟩) hg c
theorem put3_below {w w1 : World} {g : Nat} {a b c : Value} (h : Below w.heap.size w w1) (hg : w.heap.size ≤ g) : Below w.heap.size w (((w1.setCell ⟨g, 0, none⟩ a).setCell ⟨g, 1, none⟩ b).setCell ⟨g, 2, none⟩ c) := ((h.setCell (p := ⟨g, 0, none⟩) hg a).setCell (p := ⟨g, 1, none⟩) hg b).setCell (p := ⟨g, 2, none⟩) hg c
/-- a slice that lies below block g stays while block g is written -/
theorem put3_old {w : World} {g : Nat} {A : Option Addr} {P : List Int} {a b c : Value} (h : Ints w A P) (hA : ∀ x, A = some x → x.block < g) : Ints (((w.setCell ⟨g, 0, none⟩ a).setCell ⟨g, 1, none⟩ b).setCell ⟨g, 2, none⟩ c) A P := by
  intro i hi
  obtain ⟨b', o, e, hlt, hc⟩ := h i hi
  have hB := hA _ e
  simp only at hB
  refine ⟨b', o, e, by simpa [World.setCell] using hlt, ?_⟩
  rw [World.cell?_setCell_other _ _ _ _ (fun e => by injection e; omega), World.cell?_setCell_other _ _ _ _ (fun e => by injection e; omega), World.cell?_setCell_other _ _ _ _ (fun e => by injection e; omega)]
  exact hc
theorem put3_older {w0 w : World} {g : Nat} {A : Option Addr} {P : List Int} {a b c : Value} (h : Ints w0 A P) (hb : Below w0.heap.size w0 w) (hg : w0.heap.size ≤ g) : Ints (((w.setCell ⟨g, 0, none⟩ a).setCell ⟨g, 1, none⟩ b).setCell ⟨g, 2, none⟩ c) A P := by
  intro i hi
  obtain ⟨b', o, e, hlt, hc⟩ := (h.keep hb) i hi
  obtain ⟨b2, o2, e2, hlt2, _⟩ := h i hi
  rw [e] at e2
  injection e2 with e2
  injection e2 with e2 e3
  subst e2
  refine ⟨b', o, e, by simpa [World.setCell] using hlt, ?_⟩
  rw [World.cell?_setCell_other _ _ _ _ (fun e => by injection e; omega), World.cell?_setCell_other _ _ _ _ (fun e => by injection e; omega), World.cell?_setCell_other _ _ _ _ (fun e => by injection e; omega)]
  exact hc
/-- a slice's cells lie in memory that is there -/
theorem Ints.lt {w : World} {A : Option Addr} {P : List Int} (h : Ints w A P) (h0 : 0 < P.length) : ∀ x, A = some x → x.block < w.heap.size := by
  intro x hx
  obtain ⟨b, o, e, hlt, _⟩ := h 0 (by simpa using h0)
  rw [hx] at e; injection e with e; subst e; exact hlt
/-- what the last statement of a law on images leans on -/
structure LawMem (w : World) (W H : Int) (A : Option Addr) (n c : Nat) (g1 : Nat) (W1 H1 : Int) (A1 : Option Addr) (n1 c1 : Nat) (P1 : List Int) (g2 : Nat) (W2 H2 : Int) (A2 : Option Addr) (n2 c2 : Nat) (P2 : List Int) (wq : World) : Prop where
  a : ImgBox wq w.heap.size W H A n c
  b : ImgBox wq g1 W1 H1 A1 n1 c1
  d : ImgBox wq g2 W2 H2 A2 n2 c2
  below : Below w.heap.size w wq
  i1 : Ints wq A1 P1
  i2 : Ints wq A2 P2
theorem sameImg_true (W H W' H' : Int) (A B : Option Addr) (n c m d : Nat) (P Q : List Int) (w : World) (he : Img.mk W H P = Img.mk W' H' Q) (hn : P.length = n) (hm : Q.length = m) (hP : Ints w A P) (hQ : Ints w B Q) (hl : n ≤ 9223372036854775807) :
    Calls Try.prog 19 #[.agg #[.int .i64 W, .int .i64 H, .slice A n c], .agg #[.int .i64 W', .int .i64 H', .slice B m d]] w fun e w' => e = .returned (.bool true) ∧ Below w.heap.size w w' :=
  (sameImages_any W H W' H' A B n c m d P Q w hn hm hP hQ hl).mono fun _ _ ⟨h1, h2⟩ => ⟨by rw [h1, decide_eq_true he], h2⟩
/-- what comes of a reference that draws an image is the image -/
theorem makeOf_ref (op cw ch k : Int) (w : World) (h : makeErr op cw ch k = 0) :
    Calls Try.prog 15 #[.int .i64 op, .int .i64 cw, .int .i64 ch, .int .i64 k] w (RetImg w (makeAns op cw ch k)) := by
  have hA : makeAns op cw ch k = drawn cw ch (makePix op k) := by unfold makeAns; rw [if_pos h]; rfl
  rw [hA]
  unfold makeErr at h
  split at h
  · omega
  · split at h
    · omega
    · exact makeOf_any op cw ch k w (by omega) (by omega) (by omega) (by omega) (by omega) (by omega) (by omega)
theorem ans_len {op cw ch k : Int} {W H : Int} {P : List Int} (h : Img.mk W H P = makeAns op cw ch k) : P.length ≤ 256 := by
  unfold makeAns at h
  split at h
  · rename_i h0
    unfold makeErr at h0
    split at h0
    · omega
    · split at h0
      · omega
      · injection h with h1 h2 h3
        rw [h3, grid_length]
        have := Nat.mul_le_mul (show cw.toNat ≤ 16 by omega) (show ch.toNat ≤ 16 by omega)
        omega
  · injection h with h1 h2 h3
    subst h3; simp

set_option maxRecDepth 100000 in
set_option maxHeartbeats 2000000 in
theorem imageMakes_any (W H : Int) (A : Option Addr) (n c : Nat) (P : List Int) (op cw ch k : Int) (w : World) (hn : P.length = n) (hI : Ints w A P) (hl : n ≤ 9223372036854775807) :
    Calls Try.prog 3 #[.agg #[.int .i64 W, .int .i64 H, .slice A n c], .int .i64 op, .int .i64 cw, .int .i64 ch, .int .i64 k] w fun e w' => e = .returned (.bool true) ∧ Below w.heap.size w w' := by
  obtain ⟨fe, ff, hfe, hff, hff2⟩ : ∃ (fe : Int) (ff : Bool), checkErr ⟨W, H, P⟩ = fe ∧ decide (Img.Fine ⟨W, H, P⟩) = ff ∧ (fe == 0) = ff := by
    by_cases hF : Img.Fine ⟨W, H, P⟩
    · exact ⟨0, true, checkErr_yes hF, decide_eq_true hF, rfl⟩
    · exact ⟨1, false, checkErr_no hF, decide_eq_false hF, rfl⟩
  have hCC : ∀ W0 : World, Below w.heap.size w W0 → Calls Try.prog 17 #[.agg #[.int .i64 W, .int .i64 H, .slice A n c]] W0 fun e w' => e = .returned (.int .i64 fe) ∧ Below W0.heap.size W0 w' :=
    fun W0 hb => hfe ▸ check_any W H A n c P W0 hn (hI.keep hb) hl
  have hCF : ∀ W0 : World, Below w.heap.size w W0 → Calls Try.prog 18 #[.agg #[.int .i64 W, .int .i64 H, .slice A n c]] W0 fun e w' => e = .returned (.bool ff) ∧ Below W0.heap.size W0 w' :=
    fun W0 hb => hff ▸ fine_any W H A n c P W0 hn (hI.keep hb) hl
  have CC := hide hCC
  have CF := hide hCF
  have HAO := hide (fun (W0 : World) => make_any op cw ch k W0)
  have HER := hide (fun (W0 : World) => makeErr_ref op cw ch k W0)
  have HOF := hide (fun (W0 : World) (h : makeErr op cw ch k = 0) => makeOf_ref op cw ch k W0 h)
  have hno : makeErr op cw ch k ≠ 0 → makeAns op cw ch k = Img.none := fun h => if_neg h
  have HNO := hide hno
  have HLN := hide (fun (W H : Int) (P : List Int) (h : Img.mk W H P = makeAns op cw ch k) => ans_len h)
  generalize makeErr op cw ch k = x at *
  generalize makeAns op cw ch k = r at *
  have HB0 := hide (Blk.new w 24 [.int .i64 W, .int .i64 H, .slice A n c])
  clear hCC hCF hn hI hfe hff hno
  go_enter Try.func3, Try.ntmps3
  go_wp2_with fail
  refine Calls.mono ((unhide HAO) _) ?_
  rintro e w1 ⟨W1, H1, P1, A1, n1, c1, hr1, hn1, rfl, hI1, hA1, hE1⟩
  have HB1 := hide ((((Below.refl w.heap.size w).alloc (Nat.le_refl _) _)).trans (hE1.mono (by simp)))
  have HI1 := hide hI1
  have HR1 := hide hr1
  have HN1 := hide hn1
  have HA1 := hide (HB0.out.keep hE1)
  have hz1 := hE1.size
  simp only [World.size_alloc] at hz1
  have z2 : w.heap.size < w1.heap.size := by omega
  clear hE1 hI1 hr1 hn1 hA1 HB0
  go_wp2_with fail
  refine Calls.mono ((unhide HER) _) ?_
  rintro e w' ⟨rfl, rfl⟩
  by_cases hx : x = 0
  · subst hx
    go_wp2_with fail
    refine Calls.mono ((unhide HOF) _ (by trivial)) ?_
    rintro e w2 ⟨W2, H2, P2, A2, n2, c2, hr2, hn2, rfl, hI2, hA2, hE2⟩
    have HR2 := hide hr2
    have HN2 := hide hn2
    have hz2 := hE2.size
    simp only [World.size_alloc] at hz2
    have kd := Blk.new (w1.alloc (.cells #[.int .i64 W1, .int .i64 H1, .slice A1 n1 c1] 24)) 24 [.int .i64 0, .int .i64 0, .slice none 0 0]
    simp only [World.size_alloc] at kd
    have kd2 := kd.keep hE2
    have d0 : w2.cell? ⟨w1.heap.size + 1, 0, none⟩ = some (.int .i64 0) := by rw [kd2.cell]; rfl
    have d1 : w2.cell? ⟨w1.heap.size + 1, 1, none⟩ = some (.int .i64 0) := by rw [kd2.cell]; rfl
    have d2 : w2.cell? ⟨w1.heap.size + 1, 2, none⟩ = some (.slice none 0 0) := by rw [kd2.cell]; rfl
    have d3 := kd2.frozen 0
    have d4 := kd2.frozen 1
    have d5 := kd2.frozen 2
    have hBW : Below w.heap.size w w2 := ((HB1.out.alloc HB1.out.size _).alloc (by simp; omega) _).trans (hE2.mono (by simp; omega))
    have hM : LawMem w W H A n c w1.heap.size W1 H1 A1 n1 c1 P1 (w1.heap.size + 1) W2 H2 A2 n2 c2 P2 (((w2.setCell ⟨w1.heap.size + 1, 0, none⟩ (.int .i64 W2)).setCell ⟨w1.heap.size + 1, 1, none⟩ (.int .i64 H2)).setCell ⟨w1.heap.size + 1, 2, none⟩ (.slice A2 n2 c2)) :=
      ⟨put3_far (((HA1.out.alloc _).alloc _).keep hE2) (by omega), put3_far (((Blk.new w1 24 [.int .i64 W1, .int .i64 H1, .slice A1 n1 c1]).alloc _).keep hE2) (by omega), put3_box kd2,
        put3_below hBW (by omega), put3_older HI1.out ((((Below.refl _ _).alloc (Nat.le_refl _) _).alloc (by simp) _).trans (hE2.mono (by simp; omega))) (by omega), put3_ints hI2 hA2.new (by simp)⟩
    clear hE2 hI2 hr2 hn2 hA2 kd kd2 hBW
    go_wp2_with fail
    generalize (((w2.setCell ⟨w1.heap.size + 1, 0, none⟩ (.int .i64 W2)).setCell ⟨w1.heap.size + 1, 1, none⟩ (.int .i64 H2)).setCell ⟨w1.heap.size + 1, 2, none⟩ (.slice A2 n2 c2)) = wq at *
    clear d0 d1 d2 d3 d4 d5
    obtain ⟨qa, qb, qd, hwb, hi1, hi2⟩ := hM
    obtain ⟨a, a0, a1, a2⟩ := qa.cells
    obtain ⟨b, b0, b1, b2⟩ := qb.cells
    obtain ⟨d, d0, d1, d2⟩ := qd.cells
    clear qa qb qd
    have hi1q : Ints wq.drew A1 P1 := hi1
    have hi2q : Ints wq.drew A2 P2 := hi2
    have hbq : Below w.heap.size w wq.drew := hwb.drew
    have hl1 : n1 ≤ 9223372036854775807 := by have := HLN.out W1 H1 P1 HR1.out; have := HN1.out; omega
    go_region_held3 (fun w' => w'.cell? ⟨w.heap.size, 0, none⟩ = some (.int .i64 W) ∧ w'.cell? ⟨w.heap.size, 1, none⟩ = some (.int .i64 H) ∧ w'.cell? ⟨w.heap.size, 2, none⟩ = some (.slice A n c) ∧ w'.cell? ⟨w1.heap.size, 0, none⟩ = some (.int .i64 W1) ∧ w'.cell? ⟨w1.heap.size, 1, none⟩ = some (.int .i64 H1) ∧ w'.cell? ⟨w1.heap.size, 2, none⟩ = some (.slice A1 n1 c1) ∧ w'.cell? ⟨w1.heap.size + 1, 0, none⟩ = some (.int .i64 W2) ∧ w'.cell? ⟨w1.heap.size + 1, 1, none⟩ = some (.int .i64 H2) ∧ w'.cell? ⟨w1.heap.size + 1, 2, none⟩ = some (.slice A2 n2 c2))
      (first | (exact ⟨a0z, a1z, a2z, b0z, b1z, b2z, d0z, d1z, d2z⟩) | (exact ⟨a0y, a1y, a2y, b0y, b1y, b2y, d0y, d1y, d2y⟩) | (exact ⟨a0x, a1x, a2x, b0x, b1x, b2x, d0x, d1x, d2x⟩) | (exact ⟨a0v, a1v, a2v, b0v, b1v, b2v, d0v, d1v, d2v⟩) | (exact ⟨a0, a1, a2, b0, b1, b2, d0, d1, d2⟩))
      (first
        | (go_at_call 16; refine (imageBegun_any _).mono ?_; rintro e wv ⟨rfl, hEv⟩; have a0v := keepCell hEv a0; have a1v := keepCell hEv a1; have a2v := keepCell hEv a2; have b0v := keepCell hEv b0; have b1v := keepCell hEv b1; have b2v := keepCell hEv b2; have d0v := keepCell hEv d0; have d1v := keepCell hEv d1; have d2v := keepCell hEv d2; have hbv := keepB hbq hEv; have hi1v := Ints.keep hi1q hEv; have hi2v := Ints.keep hi2q hEv)
        | (go_at_call 17; refine ((unhide CC) wv hbv).mono ?_; rintro e wx ⟨rfl, hEx⟩; have a0x := keepCell hEx a0v; have a1x := keepCell hEx a1v; have a2x := keepCell hEx a2v; have b0x := keepCell hEx b0v; have b1x := keepCell hEx b1v; have b2x := keepCell hEx b2v; have d0x := keepCell hEx d0v; have d1x := keepCell hEx d1v; have d2x := keepCell hEx d2v; have hbx := keepB hbv hEx; have hi1x := Ints.keep hi1v hEx; have hi2x := Ints.keep hi2v hEx)
        | (go_at_call 18; refine ((unhide CF) wx hbx).mono ?_; rintro e wy ⟨rfl, hEy⟩; have a0y := keepCell hEy a0x; have a1y := keepCell hEy a1x; have a2y := keepCell hEy a2x; have b0y := keepCell hEy b0x; have b1y := keepCell hEy b1x; have b2y := keepCell hEy b2x; have d0y := keepCell hEy d0x; have d1y := keepCell hEy d1x; have d2y := keepCell hEy d2x; have hby := keepB hbx hEy; have hi1y := Ints.keep hi1x hEy; have hi2y := Ints.keep hi2x hEy)
        | (go_at_call 19; refine (sameImg_true W1 H1 W2 H2 A1 A2 n1 c1 n2 c2 P1 P2 wy (HR1.out.trans HR2.out.symm) HN1.out HN2.out hi1y hi2y hl1).mono ?_; rintro e wz ⟨rfl, hEz⟩; have a0z := keepCell hEz a0y; have a1z := keepCell hEz a1y; have a2z := keepCell hEz a2y; have b0z := keepCell hEz b0y; have b1z := keepCell hEz b1y; have b2z := keepCell hEz b2y; have d0z := keepCell hEz d0y; have d1z := keepCell hEz d1y; have d2z := keepCell hEz d2y; have hbz := keepB hby hEz; have hi1z := Ints.keep hi1y hEz; have hi2z := Ints.keep hi2y hEz))
    go_wp2_with fail
    go_ret
    exact ⟨rfl, hbz⟩
  · have hx1 : (x == 0) = false := by simpa using hx
    have hr0 := HNO.out hx
    have hR1' : Img.mk W1 H1 P1 = ⟨0, 0, []⟩ := HR1.out.trans hr0
    have HR1' := hide hR1'
    have kd := Blk.new (w1.alloc (.cells #[.int .i64 W1, .int .i64 H1, .slice A1 n1 c1] 24)) 24 [.int .i64 0, .int .i64 0, .slice none 0 0]
    simp only [World.size_alloc] at kd
    have hM : LawMem w W H A n c w1.heap.size W1 H1 A1 n1 c1 P1 (w1.heap.size + 1) 0 0 none 0 0 [] ((w1.alloc (.cells #[.int .i64 W1, .int .i64 H1, .slice A1 n1 c1] 24)).alloc (.cells #[.int .i64 0, .int .i64 0, .slice none 0 0] 24)) :=
      ⟨(HA1.out.alloc _).alloc _, (Blk.new w1 24 [.int .i64 W1, .int .i64 H1, .slice A1 n1 c1]).alloc _, kd, (HB1.out.alloc HB1.out.size _).alloc (by simp; omega) _,
        HI1.out.keep (((Below.refl _ _).alloc (Nat.le_refl _) _).alloc (by simp) _), Ints.nil _ _⟩
    clear kd hr0 hR1' hx
    go_wp2_with fail
    generalize ((w1.alloc (.cells #[.int .i64 W1, .int .i64 H1, .slice A1 n1 c1] 24)).alloc (.cells #[.int .i64 0, .int .i64 0, .slice none 0 0] 24)) = wq at *
    obtain ⟨qa, qb, qd, hwb, hi1, hi2⟩ := hM
    obtain ⟨a, a0, a1, a2⟩ := qa.cells
    obtain ⟨b, b0, b1, b2⟩ := qb.cells
    obtain ⟨d, d0, d1, d2⟩ := qd.cells
    clear qa qb qd
    have hi1q : Ints wq.drew A1 P1 := hi1
    have hi2q : Ints wq.drew none [] := hi2
    have hbq : Below w.heap.size w wq.drew := hwb.drew
    have hl1 : n1 ≤ 9223372036854775807 := by have := HLN.out W1 H1 P1 HR1.out; have := HN1.out; omega
    go_region_held3 (fun w' => w'.cell? ⟨w.heap.size, 0, none⟩ = some (.int .i64 W) ∧ w'.cell? ⟨w.heap.size, 1, none⟩ = some (.int .i64 H) ∧ w'.cell? ⟨w.heap.size, 2, none⟩ = some (.slice A n c) ∧ w'.cell? ⟨w1.heap.size, 0, none⟩ = some (.int .i64 W1) ∧ w'.cell? ⟨w1.heap.size, 1, none⟩ = some (.int .i64 H1) ∧ w'.cell? ⟨w1.heap.size, 2, none⟩ = some (.slice A1 n1 c1) ∧ w'.cell? ⟨w1.heap.size + 1, 0, none⟩ = some (.int .i64 0) ∧ w'.cell? ⟨w1.heap.size + 1, 1, none⟩ = some (.int .i64 0) ∧ w'.cell? ⟨w1.heap.size + 1, 2, none⟩ = some (.slice none 0 0))
      (first | (exact ⟨a0z, a1z, a2z, b0z, b1z, b2z, d0z, d1z, d2z⟩) | (exact ⟨a0y, a1y, a2y, b0y, b1y, b2y, d0y, d1y, d2y⟩) | (exact ⟨a0x, a1x, a2x, b0x, b1x, b2x, d0x, d1x, d2x⟩) | (exact ⟨a0v, a1v, a2v, b0v, b1v, b2v, d0v, d1v, d2v⟩) | (exact ⟨a0, a1, a2, b0, b1, b2, d0, d1, d2⟩))
      (first
        | (go_at_call 16; refine (imageBegun_any _).mono ?_; rintro e wv ⟨rfl, hEv⟩; have a0v := keepCell hEv a0; have a1v := keepCell hEv a1; have a2v := keepCell hEv a2; have b0v := keepCell hEv b0; have b1v := keepCell hEv b1; have b2v := keepCell hEv b2; have d0v := keepCell hEv d0; have d1v := keepCell hEv d1; have d2v := keepCell hEv d2; have hbv := keepB hbq hEv; have hi1v := Ints.keep hi1q hEv; have hi2v := Ints.keep hi2q hEv)
        | (go_at_call 17; refine ((unhide CC) wv hbv).mono ?_; rintro e wx ⟨rfl, hEx⟩; have a0x := keepCell hEx a0v; have a1x := keepCell hEx a1v; have a2x := keepCell hEx a2v; have b0x := keepCell hEx b0v; have b1x := keepCell hEx b1v; have b2x := keepCell hEx b2v; have d0x := keepCell hEx d0v; have d1x := keepCell hEx d1v; have d2x := keepCell hEx d2v; have hbx := keepB hbv hEx; have hi1x := Ints.keep hi1v hEx; have hi2x := Ints.keep hi2v hEx)
        | (go_at_call 18; refine ((unhide CF) wx hbx).mono ?_; rintro e wy ⟨rfl, hEy⟩; have a0y := keepCell hEy a0x; have a1y := keepCell hEy a1x; have a2y := keepCell hEy a2x; have b0y := keepCell hEy b0x; have b1y := keepCell hEy b1x; have b2y := keepCell hEy b2x; have d0y := keepCell hEy d0x; have d1y := keepCell hEy d1x; have d2y := keepCell hEy d2x; have hby := keepB hbx hEy; have hi1y := Ints.keep hi1x hEy; have hi2y := Ints.keep hi2x hEy)
        | (go_at_call 19; refine (sameImg_true W1 H1 0 0 A1 none n1 c1 0 0 P1 [] wy (HR1'.out) HN1.out rfl hi1y hi2y hl1).mono ?_; rintro e wz ⟨rfl, hEz⟩; have a0z := keepCell hEz a0y; have a1z := keepCell hEz a1y; have a2z := keepCell hEz a2y; have b0z := keepCell hEz b0y; have b1z := keepCell hEz b1y; have b2z := keepCell hEz b2y; have d0z := keepCell hEz d0y; have d1z := keepCell hEz d1y; have d2z := keepCell hEz d2y; have hbz := keepB hby hEz; have hi1z := Ints.keep hi1y hEz; have hi2z := Ints.keep hi2y hEz))
    go_wp2_with fail
    go_ret
    exact ⟨rfl, hbz⟩
end Go.Proofs.Ytibpmogmeoappaa
