/- Walks: fields, the class 'cut'. (Printed by gen_fields.py.) -/
import Derived.Test.YtibpmogmeoappacGreatJFrmC
namespace Go.Proofs.YtibpmogmeoappacGreat
open Go.RowKit

set_option maxRecDepth 100000 in
set_option maxHeartbeats 8000000 in
theorem fields_cut (g : Nat) (W H S O : Int) (PA : Option Addr) (n c : Nat) (SA : Option Addr) (N cN : Nat) (MA : Option Addr) (M cM : Nat) (p : Pas) (LA : Option Addr) (m d : Nat) (w : World)
    (_hS : 1 ≤ S ∧ S ≤ 8) (hG : WalkBox w g W H S O PA n c SA N cN MA M cM) (hm : p.L.length = m) (hL : Lamps w LA p.L) (_hl : m ≤ 9223372036854775807) (h0 : inR p.Op 1 13 = true) (ha : hasA p.Op = true) (hb : hasB p.Op = false) (hk : hasK p.Op = true) (hl' : hasL p.Op = false) :
    Calls Tryz.prog 119 #[.pointer (some ⟨g, 0, none⟩), .agg #[.int .i64 p.Op, .int .i64 p.To, .int .i64 p.A, .int .i64 p.B, .int .i64 p.K, .slice LA m d]] w (RetE w (fieldsErr S p)) := by
  have HOF := hide (fun (W0 : World) => of_any p.Op W0)
  have HBN := hide (fun (W0 : World) => bounds_any p.Op W0)
  have HK := hide (fieldMem_start (p := p) hG hL m d)
  have HKL := hide (@kFine_low p.Op p.K h0)
  have HKH := hide (@kFine_high p.Op p.K h0)
  have HKI := hide (@kFine_in p.Op p.K h0)
  have HKN := hide (@kFine_none p.Op p.K h0)
  obtain ⟨op, to, a, b, k, L⟩ := p
  simp only at *
  unfold RetOf at HOF
  rw [h0, ha, hb, hk, hl'] at HOF
  simp only [Bool.true_and] at HOF
  unfold RetB2 at HBN
  generalize lowK op = lo at *
  generalize highK op = hi at *
  have H0 := hide h0
  have HA := hide ha
  have HB := hide hb
  have HKK := hide hk
  have HLL := hide hl'
  have HM := hide hm
  clear hL hG ha hb hk hl' hm h0
  go_enter Tryz.func119, Tryz.ntmps119
  go_wp2_with fail
  obtain ⟨y0, y1, y2, y3, y4, y5, y6⟩ := PasBox.cells HK.out.2.2.1
  simp only at y1 y2 y3 y4 y5 y6
  refine ((unhide HOF) _).mono ?_
  rintro e w1 ⟨rfl, hE⟩
  have HK1 := hide (HK.out.keep hE)
  clear HK hE y0 y1 y2 y3 y4 y5 y6
  have hal : Below w1.heap.size w1 (w1.alloc (.cells #[.bool true, .bool false, .bool true, .bool false] 129)) := (Below.refl _ _).alloc (Nat.le_refl _) _
  have HS := hide (Blk.new w1 129 [.bool true, .bool false, .bool true, .bool false])
  have HK2 := hide (HK1.out.keep hal)
  clear HK1 hal
  obtain ⟨y0, y1, y2, y3, y4, y5, y6⟩ := PasBox.cells HK2.out.2.2.1
  simp only at y1 y2 y3 y4 y5 y6
  have x0 := HK2.out.2.1.lt
  have x1 : (w1.alloc (.cells #[.bool true, .bool false, .bool true, .bool false] 129)).cell? ⟨w.heap.size, 0, none⟩ = some (.pointer (some ⟨g, 0, none⟩)) := (HK2.out.2.1.cell 0).trans rfl
  obtain ⟨v0, v1, v2, v3, v4, v5, v6, v7⟩ := WalkBox.cells HK2.out.1
  have z0 : (w1.alloc (.cells #[.bool true, .bool false, .bool true, .bool false] 129)).cell? ⟨w1.heap.size, 0, none⟩ = some (.bool true) := (HS.out.cell 0).trans rfl
  have z1 : (w1.alloc (.cells #[.bool true, .bool false, .bool true, .bool false] 129)).cell? ⟨w1.heap.size, 1, none⟩ = some (.bool false) := (HS.out.cell 1).trans rfl
  have z2 : (w1.alloc (.cells #[.bool true, .bool false, .bool true, .bool false] 129)).cell? ⟨w1.heap.size, 2, none⟩ = some (.bool true) := (HS.out.cell 2).trans rfl
  have z3 : (w1.alloc (.cells #[.bool true, .bool false, .bool true, .bool false] 129)).cell? ⟨w1.heap.size, 3, none⟩ = some (.bool false) := (HS.out.cell 3).trans rfl
  have zl := HS.out.lt
  go_wp2_with fail
  refine ((unhide HBN) _).mono ?_
  rintro e w2 ⟨rfl, he⟩
  rw [he] at y0 y1 y2 y3 y4 y5 y6 x0 x1 v0 v1 v2 v3 v4 v5 v6 v7 z0 z1 z2 z3 zl
  have HK3 : Hid (FieldMem w g (walkCells W H S O PA n c SA N cN MA M cM) ⟨op, to, a, b, k, L⟩ LA m d w2) := hide (by rw [← he]; exact HK2.out)
  have HS3 : Hid (Blk w2 w1.heap.size 129 [.bool true, .bool false, .bool true, .bool false]) := hide (by rw [← he]; exact HS.out)
  clear he HK2 HS
  go_wp2_with fail
  refine (fslot_yes to S w.heap.size g w2 x1 v3).mono ?_
  rintro e w9 ⟨rfl, he⟩
  subst he
  cases hs0 : slotIn S to with
  | false =>
    have Hs0 := hide hs0
    clear hs0
    go_wp2_with fail
    go_ret
    exact ⟨ret_int (fe_range H0.out (by simp [rangeBad, Hs0.out])).symm, HK3.out.2.2.2.2⟩
  | true =>
    have Hs0 := hide hs0
    clear hs0
    go_wp2_with fail
    refine (fslot_yes a S w.heap.size g w2 x1 v3).mono ?_
    rintro e w9 ⟨rfl, he⟩
    subst he
    cases hs1 : slotIn S a with
    | false =>
      have Hs1 := hide hs1
      clear hs1
      go_wp2_with fail
      go_ret
      exact ⟨ret_int (fe_range H0.out (by simp [rangeBad, HA.out, Hs1.out])).symm, HK3.out.2.2.2.2⟩
    | true =>
      have Hs1 := hide hs1
      clear hs1
      go_wp2_with fail
      refine (fslot_no b w.heap.size w2).mono ?_
      rintro e w9 ⟨rfl, he⟩
      subst he
      by_cases klo : k < lo
      · have Hkf := hide (HKL.out HKK.out klo)
        go_wp2_with fail
        go_ret
        exact ⟨ret_int (fe_range H0.out (by simp [rangeBad, Hkf.out])).symm, HK3.out.2.2.2.2⟩
      by_cases khi : hi < k
      · have Hkf := hide (HKH.out HKK.out khi)
        go_wp2_with fail
        go_ret
        exact ⟨ret_int (fe_range H0.out (by simp [rangeBad, Hkf.out])).symm, HK3.out.2.2.2.2⟩
      have Hkf := hide (HKI.out HKK.out (by omega) (by omega))
      have HRB : Hid (rangeBad S ⟨op, to, a, b, k, L⟩ = false) := hide (by simp [rangeBad, Hs0.out, HA.out, Hs1.out, HB.out, Hkf.out])
      go_wp2_with fail
      all_goals try (exfalso; omega)
      refine (fnone_has a _).mono ?_
      rintro e w9 ⟨rfl, he⟩
      subst he
      go_wp2_with fail
      refine (fnone_not b _).mono ?_
      rintro e w9 ⟨rfl, he⟩
      subst he
      by_cases fb : b = 0
      · skip
        have Gfb := hide fb
        subst fb
        go_wp2_with fail
        refine (fnone_has k _).mono ?_
        rintro e w9 ⟨rfl, he⟩
        subst he
        go_wp2_with fail
        refine (fnone_not (m : Int) _).mono ?_
        rintro e w9 ⟨rfl, he⟩
        subst he
        by_cases fl : m = 0
        · skip
          have E1 := hide (show L.length = 0 from HM.out.trans fl)
          obtain rfl : m = 0 := fl
          by_cases ft : ¬ a = to
          · have Gft := hide ft
            have bft : (a == to) = false := by simpa using ft
            clear ft
            go_wp2_with fail
            go_ret
            exact ⟨ret_int (fe_ok H0.out HRB.out (fun h => by rw [HLL.out] at h; cases h) (by simp [formBad, HA.out, HB.out, HKK.out, HLL.out, E1.out, Gft.out])).symm, HK3.out.2.2.2.2⟩
          · have eft : a = to := Classical.byContradiction ft
            have Gft := hide eft
            have bft : (a == to) = true := by simpa using eft
            clear eft ft
            go_wp2_with fail
            go_ret
            exact ⟨ret_int (fe_form H0.out HRB.out (fun h => by rw [HLL.out] at h; cases h) (by simp [formBad, HA.out, Gft.out])).symm, HK3.out.2.2.2.2⟩
        · have E2 := hide (show 0 < L.length from by have := HM.out; omega)
          have bfl : ((m : Int) == 0) = false := by simp; omega
          clear fl
          rw [bfl]
          go_wp2_with fail
          go_ret
          exact ⟨ret_int (fe_form H0.out HRB.out (fun h => by rw [HLL.out] at h; cases h) (by simp [formBad, HLL.out, E2.out])).symm, HK3.out.2.2.2.2⟩
      · have Gfb := hide fb
        have bfb : (b == 0) = false := by simpa using fb
        clear fb
        rw [bfb]
        go_wp2_with fail
        go_ret
        exact ⟨ret_int (fe_form H0.out HRB.out (fun h => by rw [HLL.out] at h; cases h) (by simp [formBad, HB.out, Gfb.out])).symm, HK3.out.2.2.2.2⟩

end Go.Proofs.YtibpmogmeoappacGreat
