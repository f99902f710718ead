/- Walk of the law ImageTrue. (Printed by gen_lawd.py.) -/
import Derived.Test.YtibpmogmeoappaaLawB
import Derived.Test.YtibpmogmeoappaaPure
import Derived.Deep.DeepCutAuto
import Derived.Deep.RegionHeld3
namespace Go.Proofs.Ytibpmogmeoappaa
open Go.RowKit

theorem fine_len {a : Img} (h : a.Fine) : a.P.length ≤ 256 := by
  obtain ⟨⟨h1, h2⟩, ⟨h3, h4⟩, h5, _⟩ := h
  have := (mul_bd h1 h2 h3 h4).2
  omega
theorem fine_mk_len {W H : Int} {P : List Int} {r : Img} {n : Nat} (e : Img.mk W H P = r) (hr : r.P.length ≤ 256) (hn : P.length = n) : n ≤ 9223372036854775807 := by
  subst e; simp only at hr; omega
theorem choose_any (k n : Int) (w : World) (hk : -9223372036854775808 ≤ k ∧ k ≤ 9223372036854775807) (hn : 1 ≤ n) (hn2 : n ≤ 9223372036854775807) :
    Calls Try.prog 26 #[.int .i64 k, .int .i64 n] w fun e w' => ∃ c : Int, (0 ≤ c ∧ c < n) ∧ e = .returned (.int .i64 c) ∧ w = w' := by
  have hn0 : ¬ n = 0 := by omega
  by_cases h : k < 0
  · have e1 : wrap64 (k + 1) = k + 1 := wrap64_of (by omega) (by omega)
    have e2 : wrap64 (-(k + 1)) = -(k + 1) := wrap64_of (by omega) (by omega)
    have e3 : wrap64 ((-(k + 1)).tmod n) = (-(k + 1)).tmod n := wrap64_of (by have := Int.tmod_nonneg n (show 0 ≤ -(k + 1) by omega); omega) (by have := Int.tmod_lt_of_pos (-(k + 1)) (show 0 < n by omega); omega)
    have r1 := Int.tmod_nonneg n (show 0 ≤ -(k + 1) by omega)
    have r2 := Int.tmod_lt_of_pos (-(k + 1)) (show 0 < n by omega)
    go_enter Try.func26, Try.ntmps26
    go_wp2
    go_ret
    refine ⟨_, ?_, rfl, rfl⟩
    rw [← Int.neg_tmod]; exact ⟨r1, r2⟩
  · have e3 : wrap64 (k.tmod n) = k.tmod n := wrap64_of (by have := Int.tmod_nonneg n (show 0 ≤ k by omega); omega) (by have := Int.tmod_lt_of_pos k (show 0 < n by omega); omega)
    have r1 := Int.tmod_nonneg n (show 0 ≤ k by omega)
    have r2 := Int.tmod_lt_of_pos k (show 0 < n by omega)
    go_enter Try.func26, Try.ntmps26
    go_wp2
    go_ret
    exact ⟨_, ⟨Int.emod_nonneg k hn0, Int.emod_lt_of_pos k (by omega)⟩, rfl, rfl⟩

theorem pack1 (op : Int) (W H : Int) (A : Option Addr) (n c : Nat) (P : List Int) (k : Int) (hn : P.length = n) (hl : n ≤ 9223372036854775807) :
    ∃ (r : Img) (e : Int), (∀ W0 : World, Ints W0 A P → Calls Try.prog 20 #[.int .i64 op, .agg #[.int .i64 W, .int .i64 H, .slice A n c], .int .i64 k] W0 (RetImgErr W0 r e)) ∧ (e = 0 → r.Fine) ∧ r.P.length ≤ 256 ∧ e = oneErrAll op ⟨W, H, P⟩ k ∧ r = oneAns op ⟨W, H, P⟩ k := by
  refine ⟨oneAns op ⟨W, H, P⟩ k, oneErrAll op ⟨W, H, P⟩ k, fun W0 hI => one_any op W H A n c P k W0 hn hI hl, fun e => oneAns_fine e, ?_, rfl, rfl⟩
  by_cases e : oneErrAll op ⟨W, H, P⟩ k = 0
  · exact fine_len (oneAns_fine e)
  · unfold oneAns; rw [if_neg e]; simp [Img.none]
theorem pack2 (op : Int) (W H : Int) (A : Option Addr) (n c : Nat) (P : List Int) (W' H' : Int) (B : Option Addr) (m d : Nat) (Q : List Int) (hn : P.length = n) (hl : n ≤ 9223372036854775807) (hm : Q.length = m) (hl' : m ≤ 9223372036854775807) :
    ∃ (r : Img) (e : Int), (∀ W0 : World, Ints W0 A P → Ints W0 B Q → Calls Try.prog 23 #[.int .i64 op, .agg #[.int .i64 W, .int .i64 H, .slice A n c], .agg #[.int .i64 W', .int .i64 H', .slice B m d]] W0 (RetImgErr W0 r e)) ∧ (e = 0 → r.Fine) ∧ r.P.length ≤ 256 ∧ e = twoErr op ⟨W, H, P⟩ ⟨W', H', Q⟩ ∧ r = twoAns op ⟨W, H, P⟩ ⟨W', H', Q⟩ := by
  refine ⟨twoAns op ⟨W, H, P⟩ ⟨W', H', Q⟩, twoErr op ⟨W, H, P⟩ ⟨W', H', Q⟩, fun W0 hI hJ => two_any op W H A n c P W' H' B m d Q W0 hn hI hl hm hJ hl', fun e => twoAns_fine e, ?_, rfl, rfl⟩
  by_cases e : twoErr op ⟨W, H, P⟩ ⟨W', H', Q⟩ = 0
  · exact fine_len (twoAns_fine e)
  · unfold twoAns; rw [if_neg e]; simp [Img.none]
theorem pack7 (cw ch k : Int) :
    ∃ (r : Img) (e : Int), (∀ W0 : World, Calls Try.prog 13 #[.int .i64 1, .int .i64 cw, .int .i64 ch, .int .i64 k] W0 (RetImgErr W0 r e)) ∧ (e = 0 → r.Fine ∧ (oneErrAll 10 r 0 = 0 ∧ oneAns 10 r 0 = r) ∧ ∀ s : Int, 0 ≤ s ∧ s < 9 → oneErrAll 9 r s = 0 ∧ oneAns 9 r s = r) := by
  refine ⟨makeAns 1 cw ch k, makeErr 1 cw ch k, fun W0 => make_any 1 cw ch k W0, fun e => ?_⟩
  obtain ⟨e1, hF⟩ := plain_of e
  rw [e1]
  exact ⟨hF, plain_blur hF, fun s hs => plain_shift hF ⟨hs.1, by omega⟩⟩
theorem drewn_below {B : Nat} {w w1 : World} (h : Below B w.drew w1) : Below B w w1 := ⟨h.os, h.tape, h.output, h.size, h.block⟩
theorem drewn_cells {w0 w1 : World} {a0 b0 c0 : Value} (hb : Below (w0.alloc (.cells #[a0, b0, c0] 24)).drew.heap.size (w0.alloc (.cells #[a0, b0, c0] 24)).drew w1) :
    w0.heap.size < w1.heap.size ∧ w1.cell? ⟨w0.heap.size, 0, none⟩ = some a0 ∧ w1.cell? ⟨w0.heap.size, 1, none⟩ = some b0 ∧ w1.cell? ⟨w0.heap.size, 2, none⟩ = some c0 ∧ w1.frozen? ⟨w0.heap.size, 0, none⟩ = false ∧ w1.frozen? ⟨w0.heap.size, 1, none⟩ = false ∧ w1.frozen? ⟨w0.heap.size, 2, none⟩ = false := store_cells (drewn_below hb)
theorem zero_at {P : List Int} {k : Nat} {x : Int} (h : ∀ v ∈ P, v = 0) (hx : P[k]? = some x) : x = 0 := h x (List.mem_of_getElem? hx)

set_option maxRecDepth 100000 in
set_option maxHeartbeats 4000000 in
theorem imageTrue_any (W H : Int) (A : Option Addr) (n c : Nat) (P : List Int) (W' H' : Int) (B : Option Addr) (m d : Nat) (Q : List Int) (op k cw ch : Int) (w : World) (hn : P.length = n) (hI : Ints w A P) (hl : n ≤ 9223372036854775807) (hm : Q.length = m) (hJ : Ints w B Q) (hl' : m ≤ 9223372036854775807) (hk : -9223372036854775808 ≤ k ∧ k ≤ 9223372036854775807) :
    Calls Try.prog 6 #[.agg #[.int .i64 W, .int .i64 H, .slice A n c], .agg #[.int .i64 W', .int .i64 H', .slice B m d], .int .i64 op, .int .i64 k, .int .i64 cw, .int .i64 ch] w fun e w' => e = .returned (.bool true) ∧ Below w.heap.size w w' := by
  obtain ⟨r1, e1, q1, f1, g1, -, -⟩ := pack1 op W H A n c P k hn hl
  obtain ⟨r2, e2, q2, f2, g2, x2, y2⟩ := pack2 op W H A n c P W' H' B m d Q hn hl hm hl'
  obtain ⟨r3, e3, q3, f3, g3, x3, y3⟩ := pack2 op W' H' B m d Q W H A n c P hm hl' hn hl
  obtain ⟨r4, e4, q4, f4, g4, x4, y4⟩ := pack1 12 W H A n c P 0 hn hl
  obtain ⟨r5, e5, q5, f5, g5, x5, y5⟩ := pack2 5 W H A n c P W H A n c P hn hl hn hl
  obtain ⟨r7, e7, q7, f7⟩ := pack7 cw ch k
  have CQ7 := hide q7
  have CF7 := hide f7
  clear q7 f7
  have HCOM := hide (show op = 4 ∨ op = 6 ∨ op = 7 → e2 = e3 ∧ r2 = r3 from fun h => ⟨x2.trans ((twoErr_comm op _ _).trans x3.symm), y2.trans ((twoAns_comm h _ _).trans y3.symm)⟩)
  have HUD := hide (show e4 = 0 → oneErrAll 11 r4 0 = 0 ∧ oneAns 11 r4 0 = ⟨W, H, P⟩ ∧ Img.Fine ⟨W, H, P⟩ from fun h => by subst y4; rw [x4] at h; exact ⟨(upDown h).1, (upDown h).2, (one_both h).1⟩)
  have HZ := hide (show ∀ v ∈ r5.P, v = 0 from by subst y5; exact twoSelf_zero _)
  have HZ2 := hide (show e5 ≠ 0 → r5.P.length = 0 from fun h => by subst y5; unfold twoAns; rw [if_neg (by rw [← x5]; exact h)]; rfl)
  have CQ1 := hide q1
  have CF1 := hide f1
  have CG1 := hide g1
  clear q1 f1 g1
  have CQ2 := hide q2
  have CF2 := hide f2
  have CG2 := hide g2
  clear q2 f2 g2
  have CQ3 := hide q3
  have CF3 := hide f3
  have CG3 := hide g3
  clear q3 f3 g3
  have CQ4 := hide q4
  have CF4 := hide f4
  have CG4 := hide g4
  clear q4 f4 g4
  have CQ5 := hide q5
  have CF5 := hide f5
  have CG5 := hide g5
  clear q5 f5 g5
  clear x2 y2 x3 y3 x4 y4 x5 y5
  have HV0 := hide (show ImgVars w [] from fun v hv => by simp at hv)
  have HB0 := hide (Below.refl w.heap.size w)
  have hv1 := HV0.out.add (A := A) (W := W) (H := H) (n := n) (c := c) hI
  try simp only [World.size_alloc] at hv1
  have HV1 := hide hv1
  have HB1 := hide (HB0.out.alloc HB0.out.size (.cells #[.int .i64 W, .int .i64 H, .slice A n c] 24))
  clear HV0 HB0 hv1
  have hv2 := HV1.out.add (A := B) (W := W') (H := H') (n := m) (c := d) (hJ.keep (HB1.out))
  try simp only [World.size_alloc] at hv2
  have HV2 := hide hv2
  have HB2 := hide (HB1.out.alloc HB1.out.size (.cells #[.int .i64 W', .int .i64 H', .slice B m d] 24))
  clear HV1 HB1 hv2
  have HN := hide hn
  have HM := hide hm
  clear hn hm hI hJ
  go_enter Try.func6, Try.ntmps6
  go_wp2_with fail
  obtain ⟨ax0, ax1, ax2, ax3⟩ := ImgBox.cells (HV2.out (w.heap.size, W, H, A, n, c, P) (by simp)).1
  simp only at ax0 ax1 ax2 ax3
  obtain ⟨bx0, bx1, bx2, bx3⟩ := ImgBox.cells (HV2.out (w.heap.size + 1, W', H', B, m, d, Q) (by simp)).1
  simp only at bx0 bx1 bx2 bx3
  go_wp2_with fail
  refine Calls.mono ((unhide CQ1) _ (HV2.out (w.heap.size, W, H, A, n, c, P) (by simp)).2) ?_
  rintro e w1 ⟨W1, H1, P1, A1, n1, c1, hr1, hn1, rfl, hI1, hA1, hE1⟩
  have HV3 := hide (HV2.out.keep hE1)
  have HB3 := hide (HB2.out.trans (hE1.mono HB2.out.size))
  clear HV2 HB2
  clear hE1
  have HR1 := hide hr1
  have HN1 := hide hn1
  clear hr1 hn1 hA1
  have hv4 := HV3.out.add (A := A1) (W := W1) (H := H1) (n := n1) (c := c1) hI1
  try simp only [World.size_alloc] at hv4
  have HV4 := hide hv4
  have HB4 := hide (HB3.out.alloc HB3.out.size (.cells #[.int .i64 W1, .int .i64 H1, .slice A1 n1 c1] 24))
  clear HV3 HB3 hv4
  clear hI1
  obtain ⟨ax0, ax1, ax2, ax3⟩ := ImgBox.cells (HV4.out (w.heap.size, W, H, A, n, c, P) (by simp)).1
  simp only at ax0 ax1 ax2 ax3
  obtain ⟨bx0, bx1, bx2, bx3⟩ := ImgBox.cells (HV4.out (w.heap.size + 1, W', H', B, m, d, Q) (by simp)).1
  simp only at bx0 bx1 bx2 bx3
  go_wp2_with fail
  refine Calls.mono ((unhide CQ2) _ (HV4.out (w.heap.size, W, H, A, n, c, P) (by simp)).2 (HV4.out (w.heap.size + 1, W', H', B, m, d, Q) (by simp)).2) ?_
  rintro e w2 ⟨W2, H2, P2, A2, n2, c2, hr2, hn2, rfl, hI2, hA2, hE2⟩
  have HV5 := hide (HV4.out.keep hE2)
  have HB5 := hide (HB4.out.trans (hE2.mono HB4.out.size))
  clear HV4 HB4
  clear hE2
  have HR2 := hide hr2
  have HN2 := hide hn2
  clear hr2 hn2 hA2
  have hv6 := HV5.out.add (A := A2) (W := W2) (H := H2) (n := n2) (c := c2) hI2
  try simp only [World.size_alloc] at hv6
  have HV6 := hide hv6
  have HB6 := hide (HB5.out.alloc HB5.out.size (.cells #[.int .i64 W2, .int .i64 H2, .slice A2 n2 c2] 24))
  clear HV5 HB5 hv6
  clear hI2
  obtain ⟨ax0, ax1, ax2, ax3⟩ := ImgBox.cells (HV6.out (w.heap.size, W, H, A, n, c, P) (by simp)).1
  simp only at ax0 ax1 ax2 ax3
  obtain ⟨bx0, bx1, bx2, bx3⟩ := ImgBox.cells (HV6.out (w.heap.size + 1, W', H', B, m, d, Q) (by simp)).1
  simp only at bx0 bx1 bx2 bx3
  obtain ⟨cx0, cx1, cx2, cx3⟩ := ImgBox.cells (HV6.out (w1.heap.size, W1, H1, A1, n1, c1, P1) (by simp)).1
  simp only at cx0 cx1 cx2 cx3
  go_wp2_with fail
  refine Calls.mono ((unhide CQ3) _ (HV6.out (w.heap.size + 1, W', H', B, m, d, Q) (by simp)).2 (HV6.out (w.heap.size, W, H, A, n, c, P) (by simp)).2) ?_
  rintro e w3 ⟨W3, H3, P3, A3, n3, c3, hr3, hn3, rfl, hI3, hA3, hE3⟩
  have HV7 := hide (HV6.out.keep hE3)
  have HB7 := hide (HB6.out.trans (hE3.mono HB6.out.size))
  clear HV6 HB6
  clear hE3
  have HR3 := hide hr3
  have HN3 := hide hn3
  clear hr3 hn3 hA3
  have hv8 := HV7.out.add (A := A3) (W := W3) (H := H3) (n := n3) (c := c3) hI3
  try simp only [World.size_alloc] at hv8
  have HV8 := hide hv8
  have HB8 := hide (HB7.out.alloc HB7.out.size (.cells #[.int .i64 W3, .int .i64 H3, .slice A3 n3 c3] 24))
  clear HV7 HB7 hv8
  clear hI3
  obtain ⟨ax0, ax1, ax2, ax3⟩ := ImgBox.cells (HV8.out (w.heap.size, W, H, A, n, c, P) (by simp)).1
  simp only at ax0 ax1 ax2 ax3
  obtain ⟨bx0, bx1, bx2, bx3⟩ := ImgBox.cells (HV8.out (w.heap.size + 1, W', H', B, m, d, Q) (by simp)).1
  simp only at bx0 bx1 bx2 bx3
  obtain ⟨cx0, cx1, cx2, cx3⟩ := ImgBox.cells (HV8.out (w1.heap.size, W1, H1, A1, n1, c1, P1) (by simp)).1
  simp only at cx0 cx1 cx2 cx3
  obtain ⟨dx0, dx1, dx2, dx3⟩ := ImgBox.cells (HV8.out (w2.heap.size, W2, H2, A2, n2, c2, P2) (by simp)).1
  simp only at dx0 dx1 dx2 dx3
  obtain ⟨ex0, ex1, ex2, ex3⟩ := ImgBox.cells (HV8.out (w3.heap.size, W3, H3, A3, n3, c3, P3) (by simp)).1
  simp only at ex0 ex1 ex2 ex3
  go_upto_region 4 with fail
  go_cut [68] (fun s68 wx => s68 = .bool false ∧ Hid (ImgVars wx [(w.heap.size, W, H, A, n, c, P), (w.heap.size + 1, W', H', B, m, d, Q), (w1.heap.size, W1, H1, A1, n1, c1, P1), (w2.heap.size, W2, H2, A2, n2, c2, P2), (w3.heap.size, W3, H3, A3, n3, c3, P3)]) ∧ Hid (Below w.heap.size w wx))
  case first =>
    by_cases h1 : e1 = 0
    · have b1 : (e1 == 0) = true := by simpa using h1
      have HF1 := hide (show Img.Fine ⟨W1, H1, P1⟩ from HR1.out ▸ CF1.out h1)
      clear h1
      by_cases h2 : e2 = 0
      · have b2 : (e2 == 0) = true := by simpa using h2
        have HF2 := hide (show Img.Fine ⟨W2, H2, P2⟩ from HR2.out ▸ CF2.out h2)
        clear h2
        go_wp2_with fail
        refine Calls.mono (fine_any W1 H1 A1 n1 c1 P1 _ HN1.out (HV8.out (w1.heap.size, W1, H1, A1, n1, c1, P1) (by simp)).2 (fine_mk_len HR1.out CG1.out HN1.out)) ?_
        rintro e wf1 ⟨rfl, hEf1⟩
        have HV9 := hide (HV8.out.keep hEf1)
        have HB9 := hide (HB8.out.trans (hEf1.mono HB8.out.size))
        clear HV8 HB8
        clear hEf1
        rw [decide_eq_true HF1.out]
        obtain ⟨dx0, dx1, dx2, dx3⟩ := ImgBox.cells (HV9.out (w2.heap.size, W2, H2, A2, n2, c2, P2) (by simp)).1
        simp only at dx0 dx1 dx2 dx3
        go_wp2_with fail
        refine Calls.mono (fine_any W2 H2 A2 n2 c2 P2 _ HN2.out (HV9.out (w2.heap.size, W2, H2, A2, n2, c2, P2) (by simp)).2 (fine_mk_len HR2.out CG2.out HN2.out)) ?_
        rintro e wf2 ⟨rfl, hEf2⟩
        have HV10 := hide (HV9.out.keep hEf2)
        have HB10 := hide (HB9.out.trans (hEf2.mono HB9.out.size))
        clear HV9 HB9
        clear hEf2
        rw [decide_eq_true HF2.out]
        go_wp2_with fail
        go_meet
        exact ⟨rfl, HV10, HB10⟩
      · have b2 : (e2 == 0) = false := by simpa using h2
        clear h2
        go_wp2_with fail
        refine Calls.mono (fine_any W1 H1 A1 n1 c1 P1 _ HN1.out (HV8.out (w1.heap.size, W1, H1, A1, n1, c1, P1) (by simp)).2 (fine_mk_len HR1.out CG1.out HN1.out)) ?_
        rintro e wf1 ⟨rfl, hEf1⟩
        have HV9 := hide (HV8.out.keep hEf1)
        have HB9 := hide (HB8.out.trans (hEf1.mono HB8.out.size))
        clear HV8 HB8
        clear hEf1
        rw [decide_eq_true HF1.out]
        obtain ⟨dx0, dx1, dx2, dx3⟩ := ImgBox.cells (HV9.out (w2.heap.size, W2, H2, A2, n2, c2, P2) (by simp)).1
        simp only at dx0 dx1 dx2 dx3
        go_wp2_with fail
        go_wp2_with fail
        go_meet
        exact ⟨rfl, HV9, HB9⟩
    · have b1 : (e1 == 0) = false := by simpa using h1
      clear h1
      by_cases h2 : e2 = 0
      · have b2 : (e2 == 0) = true := by simpa using h2
        have HF2 := hide (show Img.Fine ⟨W2, H2, P2⟩ from HR2.out ▸ CF2.out h2)
        clear h2
        go_wp2_with fail
        refine Calls.mono (fine_any W2 H2 A2 n2 c2 P2 _ HN2.out (HV8.out (w2.heap.size, W2, H2, A2, n2, c2, P2) (by simp)).2 (fine_mk_len HR2.out CG2.out HN2.out)) ?_
        rintro e wf2 ⟨rfl, hEf2⟩
        have HV9 := hide (HV8.out.keep hEf2)
        have HB9 := hide (HB8.out.trans (hEf2.mono HB8.out.size))
        clear HV8 HB8
        clear hEf2
        rw [decide_eq_true HF2.out]
        go_wp2_with fail
        go_meet
        exact ⟨rfl, HV9, HB9⟩
      · have b2 : (e2 == 0) = false := by simpa using h2
        clear h2
        go_wp2_with fail
        go_wp2_with fail
        go_meet
        exact ⟨rfl, HV8, HB8⟩
  case rest =>
    obtain ⟨rfl, hV, hB⟩ := hcut
    clear HV8 HB8
    have HV108 := hV
    have HB108 := hB
    clear hV hB
    obtain ⟨ax0, ax1, ax2, ax3⟩ := ImgBox.cells (HV108.out (w.heap.size, W, H, A, n, c, P) (by simp)).1
    simp only at ax0 ax1 ax2 ax3
    obtain ⟨bx0, bx1, bx2, bx3⟩ := ImgBox.cells (HV108.out (w.heap.size + 1, W', H', B, m, d, Q) (by simp)).1
    simp only at bx0 bx1 bx2 bx3
    obtain ⟨cx0, cx1, cx2, cx3⟩ := ImgBox.cells (HV108.out (w1.heap.size, W1, H1, A1, n1, c1, P1) (by simp)).1
    simp only at cx0 cx1 cx2 cx3
    obtain ⟨dx0, dx1, dx2, dx3⟩ := ImgBox.cells (HV108.out (w2.heap.size, W2, H2, A2, n2, c2, P2) (by simp)).1
    simp only at dx0 dx1 dx2 dx3
    obtain ⟨ex0, ex1, ex2, ex3⟩ := ImgBox.cells (HV108.out (w3.heap.size, W3, H3, A3, n3, c3, P3) (by simp)).1
    simp only at ex0 ex1 ex2 ex3
    go_upto_region 6 with fail
    go_cut [89] (fun s89 wx => s89 = .bool false ∧ Hid (ImgVars wx [(w.heap.size, W, H, A, n, c, P), (w.heap.size + 1, W', H', B, m, d, Q), (w1.heap.size, W1, H1, A1, n1, c1, P1), (w2.heap.size, W2, H2, A2, n2, c2, P2), (w3.heap.size, W3, H3, A3, n3, c3, P3)]) ∧ Hid (Below w.heap.size w wx))
    case first =>
      by_cases h4 : op = 4
      · obtain ⟨he, hr⟩ := HCOM.out (by omega)
        subst h4
        have HRR := hide hr
        clear hr
        have he' : (e2 != e3) = false := by simpa using he
        clear he
        go_wp2_with fail
        refine Calls.mono (sameImg_true W2 H2 W3 H3 A2 A3 n2 c2 n3 c3 P2 P3 _ (HR2.out.trans (HRR.out.trans HR3.out.symm)) HN2.out HN3.out (HV108.out (w2.heap.size, W2, H2, A2, n2, c2, P2) (by simp)).2 (HV108.out (w3.heap.size, W3, H3, A3, n3, c3, P3) (by simp)).2 (fine_mk_len HR2.out CG2.out HN2.out)) ?_
        rintro e wy ⟨rfl, hEy⟩
        have HV109 := hide (HV108.out.keep hEy)
        have HB109 := hide (HB108.out.trans (hEy.mono HB108.out.size))
        clear HV108 HB108
        clear hEy
        go_wp2_with fail
        go_meet
        exact ⟨rfl, HV109, HB109⟩
      by_cases h6 : op = 6
      · obtain ⟨he, hr⟩ := HCOM.out (by omega)
        subst h6
        have HRR := hide hr
        clear hr
        have he' : (e2 != e3) = false := by simpa using he
        clear he
        go_wp2_with fail
        refine Calls.mono (sameImg_true W2 H2 W3 H3 A2 A3 n2 c2 n3 c3 P2 P3 _ (HR2.out.trans (HRR.out.trans HR3.out.symm)) HN2.out HN3.out (HV108.out (w2.heap.size, W2, H2, A2, n2, c2, P2) (by simp)).2 (HV108.out (w3.heap.size, W3, H3, A3, n3, c3, P3) (by simp)).2 (fine_mk_len HR2.out CG2.out HN2.out)) ?_
        rintro e wy ⟨rfl, hEy⟩
        have HV109 := hide (HV108.out.keep hEy)
        have HB109 := hide (HB108.out.trans (hEy.mono HB108.out.size))
        clear HV108 HB108
        clear hEy
        go_wp2_with fail
        go_meet
        exact ⟨rfl, HV109, HB109⟩
      by_cases h7 : op = 7
      · obtain ⟨he, hr⟩ := HCOM.out (by omega)
        subst h7
        have HRR := hide hr
        clear hr
        have he' : (e2 != e3) = false := by simpa using he
        clear he
        go_wp2_with fail
        refine Calls.mono (sameImg_true W2 H2 W3 H3 A2 A3 n2 c2 n3 c3 P2 P3 _ (HR2.out.trans (HRR.out.trans HR3.out.symm)) HN2.out HN3.out (HV108.out (w2.heap.size, W2, H2, A2, n2, c2, P2) (by simp)).2 (HV108.out (w3.heap.size, W3, H3, A3, n3, c3, P3) (by simp)).2 (fine_mk_len HR2.out CG2.out HN2.out)) ?_
        rintro e wy ⟨rfl, hEy⟩
        have HV109 := hide (HV108.out.keep hEy)
        have HB109 := hide (HB108.out.trans (hEy.mono HB108.out.size))
        clear HV108 HB108
        clear hEy
        go_wp2_with fail
        go_meet
        exact ⟨rfl, HV109, HB109⟩
      · have b4 : (op == 4) = false := by simpa using h4
        have b6 : (op == 6) = false := by simpa using h6
        have b7 : (op == 7) = false := by simpa using h7
        go_wp2_with fail
        go_meet
        exact ⟨rfl, HV108, HB108⟩
    case rest =>
      obtain ⟨rfl, hV, hB⟩ := hcut
      clear HV108 HB108
      have HV208 := hV
      have HB208 := hB
      clear hV hB
      obtain ⟨ax0, ax1, ax2, ax3⟩ := ImgBox.cells (HV208.out (w.heap.size, W, H, A, n, c, P) (by simp)).1
      simp only at ax0 ax1 ax2 ax3
      go_wp2_with fail
      refine Calls.mono ((unhide CQ4) _ (HV208.out (w.heap.size, W, H, A, n, c, P) (by simp)).2) ?_
      rintro e w4 ⟨W4, H4, P4, A4, n4, c4, hr4, hn4, rfl, hI4, hA4, hE4⟩
      have HV209 := hide (HV208.out.keep hE4)
      have HB209 := hide (HB208.out.trans (hE4.mono HB208.out.size))
      clear HV208 HB208
      clear hE4
      have HR4 := hide hr4
      have HN4 := hide hn4
      clear hr4 hn4 hA4
      have hv210 := HV209.out.add (A := A4) (W := W4) (H := H4) (n := n4) (c := c4) hI4
      try simp only [World.size_alloc] at hv210
      have HV210 := hide hv210
      have HB210 := hide (HB209.out.alloc HB209.out.size (.cells #[.int .i64 W4, .int .i64 H4, .slice A4 n4 c4] 24))
      clear HV209 HB209 hv210
      clear hI4
      obtain ⟨ax0, ax1, ax2, ax3⟩ := ImgBox.cells (HV210.out (w.heap.size, W, H, A, n, c, P) (by simp)).1
      simp only at ax0 ax1 ax2 ax3
      obtain ⟨fx0, fx1, fx2, fx3⟩ := ImgBox.cells (HV210.out (w4.heap.size, W4, H4, A4, n4, c4, P4) (by simp)).1
      simp only at fx0 fx1 fx2 fx3
      go_upto_if 96 with fail
      go_cut [12] (fun s12 wx => s12 = .bool false ∧ Hid (ImgVars wx [(w.heap.size, W, H, A, n, c, P), (w.heap.size + 1, W', H', B, m, d, Q), (w1.heap.size, W1, H1, A1, n1, c1, P1), (w2.heap.size, W2, H2, A2, n2, c2, P2), (w3.heap.size, W3, H3, A3, n3, c3, P3), (w4.heap.size, W4, H4, A4, n4, c4, P4)]) ∧ Hid (Below w.heap.size w wx))
      case first =>
        by_cases h : e4 = 0
        · have b4 : (e4 == 0) = true := by simpa using h
          obtain ⟨u1, u2, u3⟩ := HUD.out h
          rw [← HR4.out] at u1 u2
          have U1 := hide u1
          have U2 := hide u2
          clear u1 u2 u3 h
          have HD := hide (fun (W0 : World) (hI0 : Ints W0 A4 P4) => one_any 11 W4 H4 A4 n4 c4 P4 0 W0 HN4.out hI0 (fine_mk_len HR4.out CG4.out HN4.out))
          go_wp2_with fail
          refine Calls.mono ((unhide HD) _ (HV210.out (w4.heap.size, W4, H4, A4, n4, c4, P4) (by simp)).2) ?_
          rintro e w6 ⟨W6, H6, P6, A6, n6, c6, hr6, hn6, rfl, hI6, hA6, hE6⟩
          have HV211 := hide (HV210.out.keep hE6)
          have HB211 := hide (HB210.out.trans (hE6.mono HB210.out.size))
          clear HV210 HB210
          clear hE6
          have HR6 := hide hr6
          have HN6 := hide hn6
          clear hr6 hn6 hA6
          have hv212 := HV211.out.add (A := A6) (W := W6) (H := H6) (n := n6) (c := c6) hI6
          try simp only [World.size_alloc] at hv212
          have HV212 := hide hv212
          have HB212 := hide (HB211.out.alloc HB211.out.size (.cells #[.int .i64 W6, .int .i64 H6, .slice A6 n6 c6] 24))
          clear HV211 HB211 hv212
          clear hI6
          rw [U1.out]
          obtain ⟨ax0, ax1, ax2, ax3⟩ := ImgBox.cells (HV212.out (w.heap.size, W, H, A, n, c, P) (by simp)).1
          simp only at ax0 ax1 ax2 ax3
          obtain ⟨gx0, gx1, gx2, gx3⟩ := ImgBox.cells (HV212.out (w6.heap.size, W6, H6, A6, n6, c6, P6) (by simp)).1
          simp only at gx0 gx1 gx2 gx3
          go_wp2_with fail
          refine Calls.mono (sameImg_true W6 H6 W H A6 A n6 c6 n c P6 P _ (HR6.out.trans U2.out) HN6.out HN.out (HV212.out (w6.heap.size, W6, H6, A6, n6, c6, P6) (by simp)).2 (HV212.out (w.heap.size, W, H, A, n, c, P) (by simp)).2 (fine_mk_len (HR6.out.trans U2.out) (fine_len (U2.out ▸ oneAns_fine U1.out)) HN6.out)) ?_
          rintro e wy ⟨rfl, hEy⟩
          have HV213 := hide (HV212.out.keep hEy)
          have HB213 := hide (HB212.out.trans (hEy.mono HB212.out.size))
          clear HV212 HB212
          clear hEy
          go_wp2_with fail
          go_meet
          exact ⟨rfl, hide (fun v hv => HV213.out v (by simp only [List.mem_cons, List.mem_append, List.not_mem_nil, or_false] at hv ⊢; rcases hv with h | h | h | h | h | h <;> simp [h])), HB213⟩
        · have b4 : (e4 == 0) = false := by simpa using h
          clear h
          go_wp2_with fail
          go_meet
          exact ⟨rfl, HV210, HB210⟩
      case rest =>
        obtain ⟨rfl, hV, hB⟩ := hcut
        clear HV210 HB210
        have HV310 := hV
        have HB310 := hB
        clear hV hB
        obtain ⟨ax0, ax1, ax2, ax3⟩ := ImgBox.cells (HV310.out (w.heap.size, W, H, A, n, c, P) (by simp)).1
        simp only at ax0 ax1 ax2 ax3
        go_wp2_with fail
        refine Calls.mono ((unhide CQ5) _ (HV310.out (w.heap.size, W, H, A, n, c, P) (by simp)).2 (HV310.out (w.heap.size, W, H, A, n, c, P) (by simp)).2) ?_
        rintro e w5 ⟨W5, H5, P5, A5, n5, c5, hr5, hn5, rfl, hI5, hA5, hE5⟩
        have HV311 := hide (HV310.out.keep hE5)
        have HB311 := hide (HB310.out.trans (hE5.mono HB310.out.size))
        clear HV310 HB310
        clear hE5
        have HR5 := hide hr5
        have HN5 := hide hn5
        clear hr5 hn5 hA5
        have hv312 := HV311.out.add (A := A5) (W := W5) (H := H5) (n := n5) (c := c5) hI5
        try simp only [World.size_alloc] at hv312
        have HV312 := hide hv312
        have HB312 := hide (HB311.out.alloc HB311.out.size (.cells #[.int .i64 W5, .int .i64 H5, .slice A5 n5 c5] 24))
        clear HV311 HB311 hv312
        clear hI5
        obtain ⟨ax0, ax1, ax2, ax3⟩ := ImgBox.cells (HV312.out (w.heap.size, W, H, A, n, c, P) (by simp)).1
        simp only at ax0 ax1 ax2 ax3
        obtain ⟨gx0, gx1, gx2, gx3⟩ := ImgBox.cells (HV312.out (w5.heap.size, W5, H5, A5, n5, c5, P5) (by simp)).1
        simp only at gx0 gx1 gx2 gx3
        go_wp2_with fail
        have hl5 : n5 ≤ 9223372036854775807 := fine_mk_len HR5.out CG5.out HN5.out
        go_loop [25] (fun i => ∃ k : Nat, k ≤ n5 ∧ i = .int .i64 k) (fun i => n5 - (intOf i).toNat)
        case atStart => exact ⟨0, Nat.zero_le _, rfl⟩
        case round =>
          obtain ⟨j, hj, rfl⟩ := hrel
          by_cases hlt : j < n5
          · have b5 : (e5 == 0) = true := by
              have h0 : ¬ e5 ≠ 0 := fun h => by have := HZ2.out h; rw [← HR5.out] at this; simp only at this; have := HN5.out; omega
              simpa using h0
            have hi5 : Ints _ A5 P5 := (HV312.out (w5.heap.size, W5, H5, A5, n5, c5, P5) (by simp)).2
            obtain ⟨ab, ao, x, rfl, hbx, hx, hc⟩ := hi5.at_ j (by have := HN5.out; omega)
            clear hi5
            have hx0 : x = 0 := zero_at (P := P5) (by have := HZ.out; rw [← HR5.out] at this; exact this) hx
            subst hx0
            clear hx
            go_wp2_with fail
            go_round
            case rel => exact ⟨j + 1, by omega, by go_num⟩
            case measure => simp [intOf]; omega
          · have hjn : n5 = j := by omega
            subst hjn
            clear hj hlt
            go_wp2_with fail
            refine Calls.mono ((unhide CQ7) _) ?_
            rintro e w7 ⟨W7, H7, P7, A7, n7, c7, hr7, hn7, rfl, hI7, hA7, hE7⟩
            have HV313 := hide (HV312.out.keep hE7)
            have HB313 := hide (HB312.out.trans (hE7.mono HB312.out.size))
            clear HV312 HB312
            clear hE7
            have HR7 := hide hr7
            have HN7 := hide hn7
            clear hr7 hn7 hA7
            have hv314 := HV313.out.add (A := A7) (W := W7) (H := H7) (n := n7) (c := c7) hI7
            try simp only [World.size_alloc] at hv314
            have HV314 := hide hv314
            have HB314 := hide (HB313.out.alloc HB313.out.size (.cells #[.int .i64 W7, .int .i64 H7, .slice A7 n7 c7] 24))
            clear HV313 HB313 hv314
            clear hI7
            by_cases h7 : e7 = 0
            · have b7 : (e7 != 0) = false := by simpa using h7
              obtain ⟨z1, z2, z3⟩ := CF7.out h7
              clear h7
              have HL7 := hide (fine_len z1)
              have CBL := hide (show ∀ W0 : World, Ints W0 A7 P7 → Calls Try.prog 20 #[.int .i64 10, .agg #[.int .i64 W7, .int .i64 H7, .slice A7 n7 c7], .int .i64 0] W0 (RetImgErr W0 r7 0) from fun W0 hI0 => by
                have := one_any 10 W7 H7 A7 n7 c7 P7 0 W0 HN7.out hI0 (fine_mk_len HR7.out HL7.out HN7.out)
                rw [HR7.out, z2.1, z2.2] at this
                exact this)
              have CSH := hide (show ∀ s : Int, 0 ≤ s ∧ s < 9 → ∀ W0 : World, Ints W0 A7 P7 → Calls Try.prog 20 #[.int .i64 9, .agg #[.int .i64 W7, .int .i64 H7, .slice A7 n7 c7], .int .i64 s] W0 (RetImgErr W0 r7 0) from fun s hs W0 hI0 => by
                have := one_any 9 W7 H7 A7 n7 c7 P7 s W0 HN7.out hI0 (fine_mk_len HR7.out HL7.out HN7.out)
                rw [HR7.out, (z3 s hs).1, (z3 s hs).2] at this
                exact this)
              clear z1 z2 z3
              obtain ⟨hx0, hx1, hx2, hx3⟩ := ImgBox.cells (HV314.out (w7.heap.size, W7, H7, A7, n7, c7, P7) (by simp)).1
              simp only at hx0 hx1 hx2 hx3
              go_wp2_with fail
              refine Calls.mono ((unhide CBL) _ (HV314.out (w7.heap.size, W7, H7, A7, n7, c7, P7) (by simp)).2) ?_
              rintro e w8 ⟨W8, H8, P8, A8, n8, c8, hr8, hn8, rfl, hI8, hA8, hE8⟩
              have HV315 := hide (HV314.out.keep hE8)
              have HB315 := hide (HB314.out.trans (hE8.mono HB314.out.size))
              clear HV314 HB314
              clear hE8
              have HR8 := hide hr8
              have HN8 := hide hn8
              clear hr8 hn8 hA8
              have hv316 := HV315.out.add (A := A8) (W := W8) (H := H8) (n := n8) (c := c8) hI8
              try simp only [World.size_alloc] at hv316
              have HV316 := hide hv316
              have HB316 := hide (HB315.out.alloc HB315.out.size (.cells #[.int .i64 W8, .int .i64 H8, .slice A8 n8 c8] 24))
              clear HV315 HB315 hv316
              clear hI8
              obtain ⟨hx0, hx1, hx2, hx3⟩ := ImgBox.cells (HV316.out (w7.heap.size, W7, H7, A7, n7, c7, P7) (by simp)).1
              simp only at hx0 hx1 hx2 hx3
              go_wp2_with fail
              generalize (w8.alloc (.cells #[.int .i64 W8, .int .i64 H8, .slice A8 n8 c8] 24)) = wq at *
              have HV317 : Hid (ImgVars wq.drew [(w.heap.size, W, H, A, n, c, P), (w.heap.size + 1, W', H', B, m, d, Q), (w1.heap.size, W1, H1, A1, n1, c1, P1), (w2.heap.size, W2, H2, A2, n2, c2, P2), (w3.heap.size, W3, H3, A3, n3, c3, P3), (w4.heap.size, W4, H4, A4, n4, c4, P4), (w5.heap.size, W5, H5, A5, n5, c5, P5), (w7.heap.size, W7, H7, A7, n7, c7, P7), (w8.heap.size, W8, H8, A8, n8, c8, P8)]) := HV316
              have HB317 : Hid (Below w.heap.size w wq.drew) := hide HB316.out.drew
              clear HV316 HB316
              have hIq : Ints wq.drew A7 P7 := (HV317.out (w7.heap.size, W7, H7, A7, n7, c7, P7) (by simp)).2
              have hIz : Ints (wq.alloc (.cells #[.int .i64 0, .int .i64 0, .slice none 0 0] 24)).drew A7 P7 := hIq.keep ((Below.refl _ _).alloc (Nat.le_refl _) (.cells #[.int .i64 0, .int .i64 0, .slice none 0 0] 24))
              go_cut [30, 31] (fun s30 s31 wx => ∃ (gg : Nat) (W9 H9 : Int) (A9 : Option Addr) (n9 c9 : Nat) (P9 : List Int), s30 = .pointer (some ⟨gg, 0, none⟩) ∧ s31 = .int .i64 0 ∧ Hid (ImgVars wx [(w.heap.size, W, H, A, n, c, P), (w.heap.size + 1, W', H', B, m, d, Q), (w1.heap.size, W1, H1, A1, n1, c1, P1), (w2.heap.size, W2, H2, A2, n2, c2, P2), (w3.heap.size, W3, H3, A3, n3, c3, P3), (w4.heap.size, W4, H4, A4, n4, c4, P4), (w5.heap.size, W5, H5, A5, n5, c5, P5), (w7.heap.size, W7, H7, A7, n7, c7, P7), (w8.heap.size, W8, H8, A8, n8, c8, P8), (gg, W9, H9, A9, n9, c9, P9)]) ∧ Hid (Below w.heap.size w wx) ∧ Hid (Img.mk W9 H9 P9 = r7) ∧ Hid (P9.length = n9))
              have hvq : ImgVars wq [(w.heap.size, W, H, A, n, c, P), (w.heap.size + 1, W', H', B, m, d, Q), (w1.heap.size, W1, H1, A1, n1, c1, P1), (w2.heap.size, W2, H2, A2, n2, c2, P2), (w3.heap.size, W3, H3, A3, n3, c3, P3), (w4.heap.size, W4, H4, A4, n4, c4, P4), (w5.heap.size, W5, H5, A5, n5, c5, P5), (w7.heap.size, W7, H7, A7, n7, c7, P7), (w8.heap.size, W8, H8, A8, n8, c8, P8)] := HV317
              have hbq : Below w.heap.size w wq := ⟨HB317.out.os, HB317.out.tape, HB317.out.output, HB317.out.size, HB317.out.block⟩
              case first =>
                go_region_held3 (fun w' => w'.cell? ⟨w7.heap.size, 0, none⟩ = some (.int .i64 W7) ∧ w'.cell? ⟨w7.heap.size, 1, none⟩ = some (.int .i64 H7) ∧ w'.cell? ⟨w7.heap.size, 2, none⟩ = some (.slice A7 n7 c7))
                  (first | (exact ⟨s1, s2, s3⟩) | (exact ⟨y1, y2, y3⟩) | (exact ⟨hx1, hx2, hx3⟩) | go_keep)
                  (first
                    | (go_at_call 26; refine (choose_any k 9 _ hk (by omega) (by omega)).mono ?_; rintro e wh ⟨cc, hcc, rfl, rfl⟩)
                    | (go_at_call 20; refine ((unhide CSH) cc hcc _ hIq).mono ?_; have z1 := hx1; have z2 := hx2; have z3 := hx3; rintro e w9 ⟨W9, H9, P9, A9, n9, c9, hr9, hn9, rfl, hI9, hA9, hE9⟩; have y1 := keepCell hE9 z1; have y2 := keepCell hE9 z2; have y3 := keepCell hE9 z3)
                    | (go_at_call 20; refine ((unhide CSH) cc hcc _ hIz).mono ?_; obtain ⟨z1, z2, z3⟩ : (wq.alloc (.cells #[.int .i64 0, .int .i64 0, .slice none 0 0] 24)).drew.cell? ⟨w7.heap.size, 0, none⟩ = some (.int .i64 W7) ∧ (wq.alloc (.cells #[.int .i64 0, .int .i64 0, .slice none 0 0] 24)).drew.cell? ⟨w7.heap.size, 1, none⟩ = some (.int .i64 H7) ∧ (wq.alloc (.cells #[.int .i64 0, .int .i64 0, .slice none 0 0] 24)).drew.cell? ⟨w7.heap.size, 2, none⟩ = some (.slice A7 n7 c7) := ⟨keepCell ((Below.refl _ wq).alloc (Nat.le_refl _) (.cells #[.int .i64 0, .int .i64 0, .slice none 0 0] 24)) hx1, keepCell ((Below.refl _ wq).alloc (Nat.le_refl _) (.cells #[.int .i64 0, .int .i64 0, .slice none 0 0] 24)) hx2, keepCell ((Below.refl _ wq).alloc (Nat.le_refl _) (.cells #[.int .i64 0, .int .i64 0, .slice none 0 0] 24)) hx3⟩; rintro e w9 ⟨W9, H9, P9, A9, n9, c9, hr9, hn9, rfl, hI9, hA9, hE9⟩; have y1 := keepCell hE9 z1; have y2 := keepCell hE9 z2; have y3 := keepCell hE9 z3; obtain ⟨x0, x1, x2, x3, x4, x5, x6⟩ := drewn_cells hE9; have hst := ImgVars.store (W := W9) (H := H9) (n := n9) (c := c9) hvq (drewn_below hE9) hI9 hA9; have hsb := store_below (a := .int .i64 W9) (b := .int .i64 H9) (c := .slice A9 n9 c9) hbq (drewn_below hE9); obtain ⟨s0, s1, s2, s3⟩ := ImgBox.cells (hst (w7.heap.size, W7, H7, A7, n7, c7, P7) (by simp)).1; simp only at s0 s1 s2 s3))
                all_goals go_wp2_with fail
                all_goals (go_meet; first | (exact ⟨wq.heap.size, W9, H9, A9, n9, c9, P9, rfl, rfl, hst, hsb, hr9, hn9⟩) | (exact ⟨w9.heap.size, W9, H9, A9, n9, c9, P9, rfl, rfl, (HV317.out.keep hE9).add hI9, (HB317.out.trans (hE9.mono HB317.out.size)).alloc (HB317.out.trans (hE9.mono HB317.out.size)).size _, hr9, hn9⟩))
              case rest =>
                obtain ⟨gg, W9, H9, A9, n9, c9, P9, rfl, rfl, hV, hB, HR9, HN9⟩ := hcut
                clear HV317 HB317 hIq hIz
                have HV417 := hV
                have HB417 := hB
                clear hV hB
                obtain ⟨hx0, hx1, hx2, hx3⟩ := ImgBox.cells (HV417.out (w7.heap.size, W7, H7, A7, n7, c7, P7) (by simp)).1
                simp only at hx0 hx1 hx2 hx3
                obtain ⟨ix0, ix1, ix2, ix3⟩ := ImgBox.cells (HV417.out (w8.heap.size, W8, H8, A8, n8, c8, P8) (by simp)).1
                simp only at ix0 ix1 ix2 ix3
                obtain ⟨jx0, jx1, jx2, jx3⟩ := ImgBox.cells (HV417.out (gg, W9, H9, A9, n9, c9, P9) (by simp)).1
                simp only at jx0 jx1 jx2 jx3
                go_wp2_with fail
                refine Calls.mono (imageBegun_any _) ?_
                rintro e wz ⟨rfl, hEz⟩
                have HV418 := hide (HV417.out.keep hEz)
                have HB418 := hide (HB417.out.trans (hEz.mono HB417.out.size))
                clear HV417 HB417
                clear hEz
                obtain ⟨hx0, hx1, hx2, hx3⟩ := ImgBox.cells (HV418.out (w7.heap.size, W7, H7, A7, n7, c7, P7) (by simp)).1
                simp only at hx0 hx1 hx2 hx3
                obtain ⟨ix0, ix1, ix2, ix3⟩ := ImgBox.cells (HV418.out (w8.heap.size, W8, H8, A8, n8, c8, P8) (by simp)).1
                simp only at ix0 ix1 ix2 ix3
                obtain ⟨jx0, jx1, jx2, jx3⟩ := ImgBox.cells (HV418.out (gg, W9, H9, A9, n9, c9, P9) (by simp)).1
                simp only at jx0 jx1 jx2 jx3
                go_wp2_with fail
                refine Calls.mono (sameImg_true W8 H8 W7 H7 A8 A7 n8 c8 n7 c7 P8 P7 _ (HR8.out.trans HR7.out.symm) HN8.out HN7.out (HV418.out (w8.heap.size, W8, H8, A8, n8, c8, P8) (by simp)).2 (HV418.out (w7.heap.size, W7, H7, A7, n7, c7, P7) (by simp)).2 (fine_mk_len HR8.out HL7.out HN8.out)) ?_
                rintro e wy8 ⟨rfl, hEy8⟩
                have HV419 := hide (HV418.out.keep hEy8)
                have HB419 := hide (HB418.out.trans (hEy8.mono HB418.out.size))
                clear HV418 HB418
                clear hEy8
                obtain ⟨hx0, hx1, hx2, hx3⟩ := ImgBox.cells (HV419.out (w7.heap.size, W7, H7, A7, n7, c7, P7) (by simp)).1
                simp only at hx0 hx1 hx2 hx3
                obtain ⟨ix0, ix1, ix2, ix3⟩ := ImgBox.cells (HV419.out (w8.heap.size, W8, H8, A8, n8, c8, P8) (by simp)).1
                simp only at ix0 ix1 ix2 ix3
                obtain ⟨jx0, jx1, jx2, jx3⟩ := ImgBox.cells (HV419.out (gg, W9, H9, A9, n9, c9, P9) (by simp)).1
                simp only at jx0 jx1 jx2 jx3
                go_wp2_with fail
                refine Calls.mono (sameImg_true W9 H9 W7 H7 A9 A7 n9 c9 n7 c7 P9 P7 _ (HR9.out.trans HR7.out.symm) HN9.out HN7.out (HV419.out (gg, W9, H9, A9, n9, c9, P9) (by simp)).2 (HV419.out (w7.heap.size, W7, H7, A7, n7, c7, P7) (by simp)).2 (fine_mk_len HR9.out HL7.out HN9.out)) ?_
                rintro e wy9 ⟨rfl, hEy9⟩
                have HV420 := hide (HV419.out.keep hEy9)
                have HB420 := hide (HB419.out.trans (hEy9.mono HB419.out.size))
                clear HV419 HB419
                clear hEy9
                obtain ⟨hx0, hx1, hx2, hx3⟩ := ImgBox.cells (HV420.out (w7.heap.size, W7, H7, A7, n7, c7, P7) (by simp)).1
                simp only at hx0 hx1 hx2 hx3
                obtain ⟨ix0, ix1, ix2, ix3⟩ := ImgBox.cells (HV420.out (w8.heap.size, W8, H8, A8, n8, c8, P8) (by simp)).1
                simp only at ix0 ix1 ix2 ix3
                obtain ⟨jx0, jx1, jx2, jx3⟩ := ImgBox.cells (HV420.out (gg, W9, H9, A9, n9, c9, P9) (by simp)).1
                simp only at jx0 jx1 jx2 jx3
                go_wp2_with fail
                go_ret
                exact ⟨rfl, HB420.out⟩
            · have b7 : (e7 != 0) = true := by simpa using h7
              clear h7
              go_wp2_with fail
              refine Calls.mono (imageBegun_any _) ?_
              rintro e wz ⟨rfl, hEz⟩
              have HV315 := hide (HV314.out.keep hEz)
              have HB315 := hide (HB314.out.trans (hEz.mono HB314.out.size))
              clear HV314 HB314
              clear hEz
              go_wp2_with fail
              go_ret
              exact ⟨rfl, HB315.out⟩
end Go.Proofs.Ytibpmogmeoappaa
