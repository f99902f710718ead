/- Walks: step, the class 'two'. (Printed by gen_step.py.) -/
import Derived.Test.YtibpmogmeoappacGreatJFrmS
namespace Go.Proofs.YtibpmogmeoappacGreat
open Go.RowKit

set_option maxRecDepth 100000 in
set_option maxHeartbeats 8000000 in
theorem step_two (g : Nat) (W H S O : Int) (PA : Option Addr) (n c : Nat) (SA : Option Addr) (N cN : Nat) (MA : Option Addr) (M cM : Nat) (st : List Sz) (mk : List Int) (p : Pas) (LA : Option Addr) (m d : Nat) (w : World)
    (hS : 1 ≤ S ∧ S ≤ 8) (hG : WalkBox w g W H S O PA n c SA N cN MA M cM) (hs : Sizes w SA st) (hM : Ints w MA mk) (hN : (N : Int) = S) (hst : st.length = N) (hMS : (M : Int) = S) (hmk : mk.length = M)
    (hfi : ∀ i : Int, 0 ≤ i → SzFine (szAt st i)) (hmz : ∀ i : Int, slotIn S i = true → (mk.getD i.toNat 0 = 0 ↔ (szAt st i).W = 0)) (hm : p.L.length = m) (hL : Lamps w LA p.L) (hl : m ≤ 9223372036854775807) (hf : fieldsErr S p = 0) (ha : hasA p.Op = true) (hb : hasB p.Op = true) (h11 : ¬ p.Op = 11) (h12 : ¬ p.Op = 12) :
    Calls Tryz.prog 92 #[.pointer (some ⟨g, 0, none⟩), .agg #[.int .i64 p.Op, .int .i64 p.To, .int .i64 p.A, .int .i64 p.B, .int .i64 p.K, .slice LA m d]] w (RetStep w (if passErr S p st = 0 then passSize W H p st else ⟨0, 0⟩) (passErr S p st)) := by
  have HF := hide (fun (W0 : World) (h1 : WalkBox W0 g W H S O PA n c SA N cN MA M cM) (h2 : Lamps W0 LA p.L) => hf ▸ fields_any g W H S O PA n c SA N cN MA M cM p LA m d W0 hS h1 hm h2 hl)
  have HOF := hide (fun (W0 : World) => of_any p.Op W0)
  have HK := hide (stepMem_start (p := p) hG hL hs hM m d)
  obtain ⟨h0, hrb, _, _⟩ := fields_ok hf
  have HPE := hide (pe_rest (st := st) hf)
  unfold rangeBad at hrb
  rw [or_false', or_false', or_false'] at hrb
  obtain ⟨⟨⟨_, r2⟩, r3⟩, _⟩ := hrb
  obtain ⟨z, hz⟩ : ∃ z, z = passErr S p st := ⟨_, rfl⟩
  obtain ⟨sz, hsz⟩ : ∃ sz, sz = (if passErr S p st = 0 then passSize W H p st else ⟨0, 0⟩) := ⟨_, rfl⟩
  rw [← hsz, ← hz]
  have HZ := hide hz
  have HSZ := hide hsz
  clear hz hsz
  obtain ⟨op, to, a, b, k, L⟩ := p
  simp only at *
  have b11 : (op == 11) = false := by simpa using h11
  have b12 : (op == 12) = false := by simpa using h12
  have H11 := hide h11
  have H12 := hide h12
  clear h11 h12
  unfold RetOf at HOF
  rw [h0, ha, hb] at HOF
  simp only [Bool.true_and] at HOF
  rw [ha] at r2
  simp only [Bool.true_and, Bool.not_eq_false'] at r2
  obtain ⟨a0, a1⟩ := slot_bd r2
  have HZA := hide (hmz a r2)
  have HFA := hide (hfi a a0)
  have HSA := hide (fun (W0 : World) (h : Sizes W0 SA st) => sizes_at h hst hN r2)
  rw [hb] at r3
  simp only [Bool.true_and, Bool.not_eq_false'] at r3
  obtain ⟨b0, b1⟩ := slot_bd r3
  have HZB := hide (hmz b r3)
  have HFB := hide (hfi b b0)
  have HSB := hide (fun (W0 : World) (h : Sizes W0 SA st) => sizes_at h hst hN r3)
  have HA := hide ha
  have HB := hide hb
  have HMK := hide hmk
  clear hG hL hs hM hf hm hl hfi hmz h0 r2 r3 ha hb hst hmk
  generalize hasK op = bk at *
  generalize hasL op = bl at *
  go_enter Tryz.func92, Tryz.ntmps92
  go_wp2_with fail
  refine ((unhide HF) _ HK.out.walk HK.out.lamps).mono ?_
  rintro e w1 ⟨rfl, hE⟩
  have HK1 := hide (HK.out.keep hE)
  clear hE HK
  obtain ⟨y0, y1, y2, y3, y4, y5, y6⟩ := PasBox.cells HK1.out.pas
  simp only at y1 y2 y3 y4 y5 y6
  go_wp2_with fail
  refine ((unhide HOF) _).mono ?_
  rintro e w2 ⟨rfl, hE⟩
  clear y0 y1 y2 y3 y4 y5 y6
  have hal : Below w2.heap.size w2 (w2.alloc (.cells #[.bool true, .bool true, .bool bk, .bool bl] 129)) := (Below.refl _ _).alloc (Nat.le_refl _) _
  have HK2 := hide ((HK1.out.keep hE).keep hal)
  have HS2 := hide (Blk.new w2 129 [.bool true, .bool true, .bool bk, .bool bl])
  clear hE hal HK1
  obtain ⟨y0, y1, y2, y3, y4, y5, y6⟩ := PasBox.cells HK2.out.pas
  simp only at y1 y2 y3 y4 y5 y6
  obtain ⟨v0, v1, v2, v3, v4, v5, v6, v7⟩ := WalkBox.cells HK2.out.walk
  obtain ⟨q0, q1, q2, q3, q4⟩ := HK2.out.resCells
  have zl := HS2.out.lt
  have z0 : (w2.alloc (.cells #[.bool true, .bool true, .bool bk, .bool bl] 129)).cell? ⟨w2.heap.size, 0, none⟩ = some (.bool true) := (HS2.out.cell 0).trans rfl
  have z1 : (w2.alloc (.cells #[.bool true, .bool true, .bool bk, .bool bl] 129)).cell? ⟨w2.heap.size, 1, none⟩ = some (.bool true) := (HS2.out.cell 1).trans rfl
  have z2 : (w2.alloc (.cells #[.bool true, .bool true, .bool bk, .bool bl] 129)).cell? ⟨w2.heap.size, 2, none⟩ = some (.bool bk) := (HS2.out.cell 2).trans rfl
  have z3 : (w2.alloc (.cells #[.bool true, .bool true, .bool bk, .bool bl] 129)).cell? ⟨w2.heap.size, 3, none⟩ = some (.bool bl) := (HS2.out.cell 3).trans rfl
  obtain ⟨mb, mo, mv, hma, mlt, hmv, mc⟩ := HK2.out.made.at_ a.toNat (by have := HMK.out; omega)
  skip
  subst hma
  have e1 : mk.getD a.toNat 0 = mv := by rw [List.getD_eq_getElem?_getD, hmv]; rfl
  have HZ1 : Hid (mv = 0 ↔ (szAt st a).W = 0) := hide (by rw [← e1]; exact HZA.out)
  clear e1 hmv
  have laS : a < S := by omega
  have laM : a < (M : Int) := by omega
  have laN : a < (N : Int) := by omega
  obtain ⟨mb', mo', mv', hma', _, hmv', mc'⟩ := HK2.out.made.at_ b.toNat (by have := HMK.out; omega)
  injection hma' with hma'
  injection hma' with e2 e3
  subst e2 e3
  have e1 : mk.getD b.toNat 0 = mv' := by rw [List.getD_eq_getElem?_getD, hmv']; rfl
  have HZ2 : Hid (mv' = 0 ↔ (szAt st b).W = 0) := hide (by rw [← e1]; exact HZB.out)
  clear e1 hmv'
  have lbS : b < S := by omega
  have lbM : b < (M : Int) := by omega
  have lbN : b < (N : Int) := by omega
  by_cases nz : mv = 0
  · have NZ := hide (HZ1.out.1 nz)
    subst nz
    have HPE5 := hide (HPE.out.trans (show restErr ⟨op, to, a, b, k, L⟩ st = 5 from by simp [restErr, HA.out, NZ.out]))
    go_wp2_with fail
    go_quiet (fail)
    go_wp2_with fail
    refine bodyPost_ret (v := .tuple #[.agg #[.int .i64 0, .int .i64 0], .int .i64 5]) (by simp [results, Tryz.results92, go_sem, q1, q2]) rfl ?_
    rw [HSZ.out, HZ.out, HPE5.out]
    exact retStep (s := ⟨0, 0⟩) (below_drewN HK2.out.below _)
  have NZ := hide (fun h => nz (HZ1.out.2 h))
  have bnz : (mv == 0) = false := by simpa using nz
  clear nz
  by_cases nz2 : mv' = 0
  · have NZ2 := hide (HZ2.out.1 nz2)
    subst nz2
    have HPE5 := hide (HPE.out.trans (show restErr ⟨op, to, a, b, k, L⟩ st = 5 from by simp [restErr, HB.out, NZ2.out]))
    go_wp2_with fail
    go_quiet (fail)
    go_wp2_with fail
    refine bodyPost_ret (v := .tuple #[.agg #[.int .i64 0, .int .i64 0], .int .i64 5]) (by simp [results, Tryz.results92, go_sem, q1, q2]) rfl ?_
    rw [HSZ.out, HZ.out, HPE5.out]
    exact retStep (s := ⟨0, 0⟩) (below_drewN HK2.out.below _)
  have NZ2 := hide (fun h => nz2 (HZ2.out.2 h))
  have bnz2 : (mv' == 0) = false := by simpa using nz2
  clear nz2
  go_wp2_with fail
  go_quiet (fail)
  generalize hq : World.drewN _ _ = w3
  have hb3 : Below (w2.alloc (.cells #[.bool true, .bool true, .bool bk, .bool bl] 129)).heap.size (w2.alloc (.cells #[.bool true, .bool true, .bool bk, .bool bl] 129)) w3 := by rw [← hq]; exact below_drewN (Below.refl _ _) _
  have HK3 := hide (HK2.out.keep hb3)
  have HS3 := hide (HS2.out.keep hb3)
  clear hq hb3 HK2 HS2 y0 y1 y2 y3 y4 y5 y6 v0 v1 v2 v3 v4 v5 v6 v7 q0 q1 q2 q3 q4 zl z0 z1 z2 z3 mc mlt mc'
  obtain ⟨v0, v1, v2, v3, v4, v5, v6, v7⟩ := WalkBox.cells HK3.out.walk
  go_wp2_with fail
  go_region_held3 (fun w' => w'.cell? ⟨g, 0, none⟩ = some (.int .i64 W) ∧ w'.cell? ⟨g, 1, none⟩ = some (.int .i64 H)) (go_keep) (fail)
  have hb4 : Below w3.heap.size w3 (w3.alloc (.cells #[.int .i64 W, .int .i64 H] 76)).drew := ((Below.refl _ _).alloc (Nat.le_refl _) _).drew
  have HT4 := hide (show Blk (w3.alloc (.cells #[.int .i64 W, .int .i64 H] 76)).drew w3.heap.size 76 [.int .i64 W, .int .i64 H] from Blk.new w3 76 [.int .i64 W, .int .i64 H])
  generalize (w3.alloc (.cells #[.int .i64 W, .int .i64 H] 76)).drew = w4 at *
  have HB4 := hide hb4
  clear hb4 v0 v1 v2 v3 v4 v5 v6 v7
  have lt3 := HK3.out.resCells.1
  have lt2 := HS3.out.lt
  have ne1 : ¬ w3.heap.size = w.heap.size + 1 := by omega
  have ne2 : ¬ w.heap.size + 1 = w3.heap.size := by omega
  have ne3 : ¬ w2.heap.size = w3.heap.size := by omega
  have ne4 : ¬ w3.heap.size = w2.heap.size := by omega
  have ne5 : ¬ w.heap.size = w3.heap.size := by omega
  have ne6 : ¬ w3.heap.size = w.heap.size := by omega
  have HKw := hide (HK3.out.keep HB4.out)
  have HSw := hide (HS3.out.keep HB4.out)
  obtain ⟨y0, y1, y2, y3, y4, y5, y6⟩ := PasBox.cells HKw.out.pas
  simp only at y1 y2 y3 y4 y5 y6
  obtain ⟨v0, v1, v2, v3, v4, v5, v6, v7⟩ := WalkBox.cells HKw.out.walk
  obtain ⟨q0, q1, q2, q3, q4⟩ := HKw.out.resCells
  have zl := HSw.out.lt
  have tl := HT4.out.lt
  have z0 : w4.cell? ⟨w2.heap.size, 0, none⟩ = some (.bool true) := (HSw.out.cell 0).trans rfl
  have z1 : w4.cell? ⟨w2.heap.size, 1, none⟩ = some (.bool true) := (HSw.out.cell 1).trans rfl
  have z2 : w4.cell? ⟨w2.heap.size, 2, none⟩ = some (.bool bk) := (HSw.out.cell 2).trans rfl
  have z3 : w4.cell? ⟨w2.heap.size, 3, none⟩ = some (.bool bl) := (HSw.out.cell 3).trans rfl
  have t0 : w4.cell? ⟨w3.heap.size, 0, none⟩ = some (.int .i64 W) := (HT4.out.cell 0).trans rfl
  have t1 : w4.cell? ⟨w3.heap.size, 1, none⟩ = some (.int .i64 H) := (HT4.out.cell 1).trans rfl
  have t2 := HT4.out.frozen 0
  have t3 := HT4.out.frozen 1
  obtain ⟨sb, so, hsa, sl, sc0, sc1⟩ := HSA.out _ HKw.out.sizes
  subst hsa
  cases hsa' : szAt st a with
  | mk WA HA' =>
    have hfa := HFA.out
    rw [hsa'] at sc0 sc1 hfa
    have HWA := hide hsa'
    have hnz := NZ.out
    rw [hsa'] at hnz
    clear hsa'
    simp only at sc0 sc1 hnz
    have hbd := hfa.bd
    obtain ⟨⟨bw0, bw1⟩, ⟨bh0, bh1⟩⟩ := hbd
    simp only at bw0 bw1 bh0 bh1
    have HNZ := hide hnz
    clear hfa hnz
    have la0 : (0:Int) ≤ a := a0
    have sl3 : sb < w3.heap.size := by
      obtain ⟨sb', so', hs', sl', _, _⟩ := HSA.out _ HK3.out.sizes
      injection hs' with hs'
      injection hs' with e2 e3
      subst e2
      exact sl'
    have ne7 : ¬ sb = w3.heap.size := by omega
    have ne8 : ¬ w3.heap.size = sb := by omega
    have gl3 := (HK3.out.walk).lt
    have ne9 : ¬ g = w3.heap.size := by omega
    have ne10 : ¬ w3.heap.size = g := by omega
    go_wp2_with fail
    go_region_held3 (fun w' => w'.cell? ⟨g, 5, none⟩ = some (.slice (some ⟨sb, so, none⟩) N cN) ∧ w'.cell? ⟨w.heap.size, 2, none⟩ = some (.int .i64 a) ∧ w'.cell? ⟨sb, so + a.toNat * 2, none⟩ = some (.int .i64 WA) ∧ w'.cell? ⟨sb, so + a.toNat * 2 + 1, none⟩ = some (.int .i64 HA')) (go_keep) (fail)
    have hb5 : Below w3.heap.size w3 ((w4.setCell ⟨w3.heap.size, 0, none⟩ (.int .i64 WA)).setCell ⟨w3.heap.size, 1, none⟩ (.int .i64 HA')).drew := ((HB4.out.setCell (p := ⟨w3.heap.size, 0, none⟩) (Nat.le_refl _) _).setCell (p := ⟨w3.heap.size, 1, none⟩) (Nat.le_refl _) _).drew
    have HT5 := hide (show Blk ((w4.setCell ⟨w3.heap.size, 0, none⟩ (.int .i64 WA)).setCell ⟨w3.heap.size, 1, none⟩ (.int .i64 HA')).drew w3.heap.size 76 [.int .i64 WA, .int .i64 HA'] from (HT4.out.set_ 0 (.int .i64 WA)).set_ 1 (.int .i64 HA'))
    generalize ((w4.setCell ⟨w3.heap.size, 0, none⟩ (.int .i64 WA)).setCell ⟨w3.heap.size, 1, none⟩ (.int .i64 HA')).drew = w5 at *
    have HB5 := hide hb5
    clear hb5 HB4 HT4 HKw HSw y0 y1 y2 y3 y4 y5 y6 v0 v1 v2 v3 v4 v5 v6 v7 q0 q1 q2 q3 q4 zl tl z0 z1 z2 z3 t0 t1 t2 t3 sl sc0 sc1
    have HKw := hide (HK3.out.keep HB5.out)
    have HSw := hide (HS3.out.keep HB5.out)
    obtain ⟨y0, y1, y2, y3, y4, y5, y6⟩ := PasBox.cells HKw.out.pas
    simp only at y1 y2 y3 y4 y5 y6
    obtain ⟨v0, v1, v2, v3, v4, v5, v6, v7⟩ := WalkBox.cells HKw.out.walk
    obtain ⟨q0, q1, q2, q3, q4⟩ := HKw.out.resCells
    have zl := HSw.out.lt
    have tl := HT5.out.lt
    have z0 : w5.cell? ⟨w2.heap.size, 0, none⟩ = some (.bool true) := (HSw.out.cell 0).trans rfl
    have z1 : w5.cell? ⟨w2.heap.size, 1, none⟩ = some (.bool true) := (HSw.out.cell 1).trans rfl
    have z2 : w5.cell? ⟨w2.heap.size, 2, none⟩ = some (.bool bk) := (HSw.out.cell 2).trans rfl
    have z3 : w5.cell? ⟨w2.heap.size, 3, none⟩ = some (.bool bl) := (HSw.out.cell 3).trans rfl
    have t0 : w5.cell? ⟨w3.heap.size, 0, none⟩ = some (.int .i64 WA) := (HT5.out.cell 0).trans rfl
    have t1 : w5.cell? ⟨w3.heap.size, 1, none⟩ = some (.int .i64 HA') := (HT5.out.cell 1).trans rfl
    have t2 := HT5.out.frozen 0
    have t3 := HT5.out.frozen 1
    obtain ⟨sb_, so_, hsa, sl, sc0, sc1⟩ := HSA.out _ HKw.out.sizes
    injection hsa with hsa
    injection hsa with e2 e3
    subst e2 e3
    rw [HWA.out] at sc0 sc1
    simp only at sc0 sc1
    obtain ⟨sb_, so_, hsa, sl', sd0, sd1⟩ := HSB.out _ HKw.out.sizes
    injection hsa with hsa
    injection hsa with e2 e3
    subst e2 e3
    cases hsb' : szAt st b with
    | mk WB HB' =>
      rw [hsb'] at sd0 sd1
      have HWB := hide hsb'
      clear hsb'
      simp only at sd0 sd1
      have lb0 : (0:Int) ≤ b := b0
      have hnzb := NZ2.out
      rw [HWB.out] at hnzb
      simp only at hnzb
      have HNZB := hide hnzb
      clear hnzb
      by_cases he : WA = WB ∧ HA' = HB'
      ·
        obtain ⟨he1, he2⟩ := he
        subst he1 he2
        have hcmp := neqSz_same WA HA'
        go_wp2_with fail
        go_quiet (fail)
        go_wp2_with fail
        have HPE0 := hide (HPE.out.trans (show restErr ⟨op, to, a, b, k, L⟩ st = 0 from by simp [restErr, HA.out, HB.out, HWA.out, HWB.out, show ¬ WA = 0 from HNZ.out, H11.out, H12.out]))
        refine bodyPost_ret (v := .tuple #[.agg #[.int .i64 (WA), .int .i64 (HA')], .int .i64 0]) (by simp [results, Tryz.results92, go_sem, q1, q2]) rfl ?_
        refine ⟨?_, ?_⟩
        · rw [HSZ.out, HZ.out, HPE0.out]
          simp [passSize, HA.out, HWA.out, sizeW, H11.out, H12.out]
        · exact ((below_drewN HKw.out.below _).setCell (p := ⟨w.heap.size + 1, 0, none⟩) (by simp) _).setCell (p := ⟨w.heap.size + 1, 1, none⟩) (by simp) _
      ·
        have hcmp := neqSz_not he
        have HE := hide he
        clear he
        go_wp2_with fail
        go_quiet (fail)
        go_wp2_with fail
        have HPE6 := hide (HPE.out.trans (show restErr ⟨op, to, a, b, k, L⟩ st = 6 from by simp [restErr, HA.out, HB.out, HWA.out, HWB.out, show ¬ WA = 0 from HNZ.out, show ¬ WB = 0 from HNZB.out]; intro a1 a2; exact absurd ⟨a1, a2⟩ HE.out))
        refine bodyPost_ret (v := .tuple #[.agg #[.int .i64 0, .int .i64 0], .int .i64 6]) (by simp [results, Tryz.results92, go_sem, q1, q2]) rfl ?_
        rw [HSZ.out, HZ.out, HPE6.out]
        exact retStep (s := ⟨0, 0⟩) (below_drewN HKw.out.below _)

end Go.Proofs.YtibpmogmeoappacGreat
