/- Walks: area, meet, InOrder. -/
import Derived.Test.YtibpmogmeoappaaGreatDoorJPlnA
import Derived.Test.YtibpmogmeoappaaGreatDoorJPlnE
import Derived.Test.YtibpmogmeoappaaGreatDoorJNeed2
import Derived.Deep.RegionHeld3
import Derived.BigQuiet
set_option maxRecDepth 100000
set_option maxHeartbeats 8000000
namespace Go.Proofs.YtibpmogmeoappaaGreatDoor
open Go.RowKit
theorem area_ref (W H : Int) (w : World) (h : 0 ≤ W * H ∧ W * H ≤ 256) : Calls Tryz.prog 55 #[.agg #[.int .i64 W, .int .i64 H]] w fun e w' => e = .returned (.int .i64 (W * H)) ∧ Below w.heap.size w w' := by
 have hwr : IntKind.i64.wrap (W * H) = W * H := IntWalk.i64_in _ (by omega);go_enter Tryz.func55, Tryz.ntmps55
 go_wp2_with fail;go_ret;exact ⟨rfl, (Below.refl _ _).alloc (Nat.le_refl _) _⟩
theorem meet_ref (a b : Spn) (w : World) : Calls Tryz.prog 88 #[.agg #[.int .i64 a.First, .int .i64 a.Last], .agg #[.int .i64 b.First, .int .i64 b.Last]] w fun e w' => e = .returned (.bool (meetB a b)) ∧ Below w.heap.size w w' := by
 obtain ⟨af, al⟩ := a;obtain ⟨bf, bl⟩ := b;have hb : Below w.heap.size w ((w.alloc (.cells #[.int .i64 af, .int .i64 al] 102)).alloc (.cells #[.int .i64 bf, .int .i64 bl] 102)) := ((Below.refl _ _).alloc (Nat.le_refl _) _).alloc (by simp) _;have HB := hide hb;clear hb;unfold meetB;by_cases h1 : af ≤ bl
 ·by_cases h2 : bf ≤ al
  ·go_enter Tryz.func88, Tryz.ntmps88
   go_wp2_with fail;go_ret;exact ⟨ret_bool (decide_eq_true (by omega)).symm, HB.out⟩
  ·go_enter Tryz.func88, Tryz.ntmps88
   go_wp2_with fail;go_ret;exact ⟨ret_bool (decide_eq_false (by omega)).symm, HB.out⟩
 ·go_enter Tryz.func88, Tryz.ntmps88
  go_wp2_with fail;go_ret;exact ⟨ret_bool (by have h : decide (af ≤ bl) = false := decide_eq_false (by omega); rw [h]; rfl), HB.out⟩
end Go.Proofs.YtibpmogmeoappaaGreatDoor
namespace Go.Proofs.YtibpmogmeoappaaGreatDoor
open Go.RowKit
def RetSpns (w : World) (L : List Spn) (e : Ending) (w' : World) : Prop :=
 ∃ (A : Option Addr) (n c : Nat), e = .returned (.slice A n c) ∧ L.length = n ∧ Spns w' A L ∧ Below w.heap.size w w'
theorem plan_box {w : World} {OA QA : Option Addr} {on oc qn qc : Nat} {g : Nat} (h : Blk w g 56 [.slice OA on oc, .slice QA qn qc]) : g < w.heap.size ∧ w.cell? ⟨g, 0, none⟩ = some (.slice OA on oc) ∧ w.cell? ⟨g, 1, none⟩ = some (.slice QA qn qc) := ⟨h.lt, (h.cell 0).trans rfl, (h.cell 1).trans rfl⟩
theorem own_other {w : World} {base : Nat} {e : TypeId} {size : Nat} {A : Option Addr} {n c : Nat} {cs : List Value} (h : Own w base e size A n c cs) {p : Addr} (hne : ∀ q, (Value.slice A n c).ownBlock = some q → q ≠ p.block) (u : Value) : Own (w.setCell p u) base e size A n c cs := by
 refine World.ownsRow.kept h (row := some p.block) (grown_put w p u) ?_
 cases hx : (Value.slice A n c).ownBlock with
 | none => exact .inl rfl
 | some k => exact .inr (fun e => hne k hx (by injection e))
theorem spansOf_ord (W H S O : Int) (PA : Option Addr) (n c : Nat) (ps : List Pas) (OA : Option Addr) (on oc : Nat) (QA : Option Addr) (qn qc : Nat) (p : Pln) (w : World) (hn : ps.length = n) (hP : Passes w PA ps)
 (hO : Ints w OA p.Order) (hon : p.Order.length = on) (hol : on ≤ 9223372036854775807) (hok : FrmOk ⟨W, H, S, O, ps⟩) (hot : OrdTo ⟨W, H, S, O, ps⟩ p p.Order.length) (hle0 : p.Order.length ≤ ps.length) :
 Calls Tryz.prog 57 #[.agg #[.int .i64 W, .int .i64 H, .int .i64 S, .int .i64 O, .slice PA n c], .agg #[.slice OA on oc, .slice QA qn qc]] w (RetSpns w (spansTo ⟨W, H, S, O, ps⟩ p n)) := by
 have hb := ((Below.refl w.heap.size w).alloc (Nat.le_refl _) (.cells #[.int .i64 W, .int .i64 H, .int .i64 S, .int .i64 O, .slice PA n c] 35)).alloc (by simp) (.cells #[.slice OA on oc, .slice QA qn qc] 56);have hbx := (show FrmBox (w.alloc (.cells #[.int .i64 W, .int .i64 H, .int .i64 S, .int .i64 O, .slice PA n c] 35)) w.heap.size W H S O PA n c from Blk.new w 35 (frmCells W H S O PA n c)).alloc (.cells #[.slice OA on oc, .slice QA qn qc] 56);have hpx : Blk ((w.alloc (.cells #[.int .i64 W, .int .i64 H, .int .i64 S, .int .i64 O, .slice PA n c] 35)).alloc (.cells #[.slice OA on oc, .slice QA qn qc] 56)) (w.heap.size + 1) 56 [.slice OA on oc, .slice QA qn qc] := Blk.newE (by simp);have h12 := hok.many;have hSO := fun (W0 : World) (h1 : Passes W0 PA ps) => sourcesOf_ref W H S O PA n c ps W0 hn h1 (by have := hok.many.2; simp only at this; omega);have hLA := fun (W0 : World) (h1 : Passes W0 PA ps) => lastOf_ref W H S O PA n c ps W0 hn h1 (by have := hok.many.2; simp only at this; omega);have HP := hide (Keeps.passes (hP.keep hb));have hio := hO.keep hb;obtain ⟨f, hf⟩ : ∃ f : Frm, f = ⟨W, H, S, O, ps⟩ := ⟨_, rfl⟩;have HFN := hide (show f.P.length = n from by rw [hf]; exact hn);rw [← hf] at hok hot hSO hLA h12 ⊢;rw [HFN.out] at h12;obtain ⟨w1, hw1⟩ : ∃ w1, (w.alloc (.cells #[.int .i64 W, .int .i64 H, .int .i64 S, .int .i64 O, .slice PA n c] 35)).alloc (.cells #[.slice OA on oc, .slice QA qn qc] 56) = w1 := ⟨_, rfl⟩;rw [hw1] at hb hbx hpx HP hio;have HB := hide hb;have HBX := hide (Keeps.blk hbx);have HPX := hide (Keeps.blk hpx);have HIO := hide (Keeps.ints hio);have HSO := hide hSO;have HLA := hide hLA;have HOK := hide hok;have HON := hide hon;have HOT := hide hot;have hle := hle0;rw [hon, hn] at hle;obtain ⟨x, q0, q1, q2, q3, q4⟩ := FrmBox.cells (show FrmBox _ _ W H S O PA n c from hbx);obtain ⟨y, r0, r1⟩ := plan_box hpx;obtain ⟨i0, hi0, hz0, hz1, hz2⟩ := info_parts Tryz.infoSpn;clear hn hP hO hbx hpx hb hio hSO hLA hok hf hon hot hle0;go_enter Tryz.func57, Tryz.ntmps57
 go_wp2_with fail;refine ((unhide HSO) _ HP.out.now).mono ?_;rintro e w2 ⟨RA, rn, rc, rfl, hrn, hRI, hE2⟩;obtain rfl : n = rn := by rw [← hrn]; simp [srcsTo]
 have hri : ∀ m, m < n → (srcsTo f n)[m]? = some (srcs f m) := fun m hm => by unfold srcsTo; rw [List.getElem?_map, List.getElem?_range hm]; rfl
 have HRI := hide hri;have HB2 := hide (HB.out.trans (hE2.mono HB.out.size));have HBX2 := hide (HBX.out.move hE2);have HPX2 := hide (HPX.out.move hE2);have HIO2 := hide (HIO.out.move hE2);have HP2 := hide (HP.out.move hE2);have HR2 := hide (Keeps.intRows hRI);clear hw1 hE2 hRI hrn hri x q0 q1 q2 q3 q4 y r0 r1 HB HBX HPX HIO HP HSO;go_wp2_with fail;go_loopw [6, 7, 8, 9] (fun a s _ _ wr => ∃ (k : Nat) (A : Option Addr) (d : Nat), k ≤ n ∧ s = .int .i64 k ∧ a = .slice A k d ∧ Hid (Own wr w2.heap.size 102 2 A k d ((spansTo f p k).flatMap spnCells)) ∧ Hid (Below w2.heap.size w2 wr)) (fun _ s _ _ _ => n - (intOf s).toNat)
 case atStart => exact ⟨0, none, 0, Nat.zero_le _, rfl, rfl, hide (Own.nil _ _ _ _), hide (Below.refl _ _)⟩
 case round =>
  obtain ⟨k, A, d, hk, rfl, rfl, HOW, HBW⟩ := hrel;obtain ⟨x, q0, q1, q2, q3, q4⟩ := FrmBox.cells (show FrmBox _ _ W H S O PA n c from HBX2.out.later _ HBW.out);obtain ⟨y, r0, r1⟩ := plan_box (HPX2.out.later _ HBW.out);by_cases hlt : k < n
  ·have hk0 : (0 : Int) ≤ (k : Int) := by omega
   have hk1 : (k : Int) < (n : Int) := by omega
   obtain ⟨st, hst⟩ : ∃ st, stepOf p.Order (k : Int) = st := ⟨_, rfl⟩;have HSE := hide hst;have hKS : Keeps wr (fun w' => w'.cell? ⟨w.heap.size + 1, 0, none⟩ = some (.slice OA on oc) ∧ Ints w' OA p.Order) := ⟨⟨r0, HIO2.out.later _ HBW.out⟩, fun _ hb => ⟨keepC hb r0, (HIO2.out.later _ HBW.out).keep hb⟩⟩;have HKS := hide hKS
   have HSQ := hide (show ∀ W0 : World, Below wr.heap.size wr W0 → Calls Tryz.prog 87 #[.slice OA on oc, .int .i64 (k : Int)] W0 fun e w' => e = .returned (.int .i64 st) ∧ W0 = w' from fun W0 hb => by
    have h := stepOf_ref OA on oc p.Order (k : Int) W0 HON.out (hKS.later _ hb).2 hol;rw [hst] at h
    exact h)
   clear hst hKS;go_upto_region 6 with fail
   go_cut [8] (fun s8 wx => ∃ gx : Nat, s8 = .pointer (some ⟨gx, 0, none⟩) ∧ wr.heap.size ≤ gx ∧ Hid (Blk wx gx 102 [.int .i64 st, .int .i64 st]) ∧ Hid (Below wr.heap.size wr wx))
   case first =>
    go_region_held3 (fun w' => w'.cell? ⟨w.heap.size + 1, 0, none⟩ = some (.slice OA on oc))
     (exact (HKS.out.later _ (by repeat (first | exact Below.refl _ _ | exact (Below.refl _ _).drew | with_reducible (refine Below.drew ?_) | with_reducible (refine Below.alloc ?_ (by simp) _) | with_reducible (refine Below.setCell ?_ (by simp) _)))).1)
     (first | (go_simp; go_at_call 87; refine ((unhide HSQ) _ (by repeat (first | exact Below.refl _ _ | exact (Below.refl _ _).drew | with_reducible (refine Below.drew ?_) | with_reducible (refine Below.alloc ?_ (by simp) _) | with_reducible (refine Below.setCell ?_ (by simp) _)))).mono ?_; rintro e w5 ⟨rfl, rfl⟩))
    all_goals (go_wp2_with fail; go_meet; exact ⟨wr.heap.size, rfl, Nat.le_refl _, hide (Blk.new wr 102 [.int .i64 st, .int .i64 st]).drew, hide ((Below.refl _ _).alloc (Nat.le_refl _) _).drew⟩)
   case rest =>
    obtain ⟨gx, rfl, hgx, HXB, HWC⟩ := hcut;have HGX := hide (show w2.heap.size ≤ gx from Nat.le_trans HBW.out.size hgx);have HGO := hide (show ∀ q, (Value.slice A k d).ownBlock = some q → q ≠ gx from fun q hq => by have := (HOW.out.lt hq).2; omega);clear x q0 q1 q2 q3 q4 y r0 r1;go_wp2_with fail;go_loopw [9] (fun s wz => ∃ i : Nat, i ≤ on ∧ s = .int .i64 i ∧ Hid (Blk wz gx 102 [.int .i64 st, .int .i64 (lastUse f p (k : Int) i)]) ∧ Hid (Below wr.heap.size wr wz)) (fun s _ => on - (intOf s).toNat)
    case atStart => exact ⟨0, Nat.zero_le _, rfl, hide (by rw [show lastUse f p (k : Int) 0 = stepOf p.Order (k : Int) from rfl, HSE.out]; exact HXB.out), HWC⟩
    case round =>
     obtain ⟨i, hi, rfl, HXI, HBI⟩ := hrel;have hBz := HBW.out.trans (HBI.out.mono HBW.out.size);obtain ⟨y, r0, r1⟩ := plan_box (HPX2.out.later _ hBz);have HBZ := hide hBz;by_cases hil : i < on
     ·have hi0' : (0 : Int) ≤ (i : Int) := by omega
      have hi1' : (i : Int) < (on : Int) := by omega
      obtain ⟨ob, oo, hOA, hob, co⟩ := ints_at (HIO2.out.later _ hBz) (k := i) (by rw [HON.out]; exact hil);obtain rfl := hOA;have hrg := HOT.out.rng i (by rw [HON.out]; exact hil);obtain ⟨m, hm⟩ : ∃ m : Nat, p.ord i = (m : Int) := ⟨(p.ord i).toNat, by omega⟩;rw [show p.Order.getD i 0 = p.ord i from rfl, hm] at co;rw [hm] at hrg;have HMI := hide hm;have hm0 : (0 : Int) ≤ (m : Int) := by omega
      have hmk : m < n := by have := HFN.out; omega
      have hm1 : (m : Int) < (n : Int) := by omega
      obtain ⟨rb, ro, B, sm, sd, hRA, hrb, cr, hsm, hsI⟩ := (HR2.out.later _ hBz) m (srcs f m) (HRI.out m hmk);obtain rfl := hRA;have hs2 : sm ≤ 2 := by rw [← hsm]; exact srcs_le f m
      obtain ⟨sv, hsv⟩ : ∃ sv, stepOf (srcs f m) (k : Int) = sv := ⟨_, rfl⟩;have hsq := stepOf_ref B sm sd (srcs f m) (k : Int) _ hsm hsI (by omega);rw [hsv] at hsq;have HSQ := hide hsq;have hx1 := HXI.out.cell 1;have hx2 := HXI.out.frozen 1;have hx3 := HXI.out.lt;by_cases hin : (k : Int) ∈ srcs f m
      ·have hs0 : 0 ≤ sv := by rw [← hsv]; exact stepOf_mem.2 hin
       have HLU := hide (show lastUse f p (k : Int) (i + 1) = (i : Int) from by simp only [lastUse]; rw [HMI.out, Int.toNat_natCast, if_pos hin]);have HXN := hide (HXI.out.set_ 1 (.int .i64 (i : Int)));clear hm hrg hsm hsI hsv hsq hBz hin;go_wp2_with (go_at_call 87; refine (unhide HSQ).mono ?_; rintro e w5 ⟨rfl, rfl⟩)
       go_roundw
       case rel => exact ⟨i + 1, by omega, by go_num, hide (by rw [HLU.out]; exact HXN.out), hide (HBI.out.setCell (p := ⟨gx, 1, none⟩) hgx _)⟩
       case measure => simp [intOf]; omega
      ·have hs0 : ¬ 0 ≤ sv := by rw [← hsv]; exact fun h => hin (stepOf_mem.1 h)
       have HLU := hide (show lastUse f p (k : Int) (i + 1) = lastUse f p (k : Int) i from by simp only [lastUse]; rw [HMI.out, Int.toNat_natCast, if_neg hin]);clear hm hrg hsm hsI hsv hsq hBz hin;go_wp2_with (go_at_call 87; refine (unhide HSQ).mono ?_; rintro e w5 ⟨rfl, rfl⟩)
       go_roundw
       case rel => exact ⟨i + 1, by omega, by go_num, hide (by rw [HLU.out]; exact HXI.out), HBI⟩
       case measure => simp [intOf]; omega
     ·obtain rfl : i = on := by omega
      obtain ⟨x, q0, q1, q2, q3, q4⟩ := FrmBox.cells (show FrmBox _ _ W H S O PA n c from HBX2.out.later _ hBz);have hOz := HOW.out.keep HBI.out;have HOZ := hide hOz;have HLC := hide ((unhide HLA) _ (HP2.out.later _ hBz));clear hBz hOz;go_wp2_with fail;refine (unhide HLC).mono ?_;rintro e w6 ⟨rfl, hE6⟩;have HB6 := hide (HBZ.out.trans (hE6.mono HBZ.out.size));have HO6 := hide (HOZ.out.keep hE6);have HX6 := hide (HXI.out.keep hE6);obtain ⟨y', r0', r1'⟩ := plan_box (HPX2.out.later _ HB6.out);have x1 := HX6.out.cell 1;have x2 := HX6.out.frozen 1;have x3 := HX6.out.lt;have hwr : IntKind.i64.wrap ((i : Int) - 1) = (i : Int) - 1 := IntWalk.i64_in _ (by omega);obtain ⟨lu, hlu⟩ : ∃ lu, lastUse f p (k : Int) i = lu := ⟨_, rfl⟩;rw [hlu] at HX6 x1;have HLU := hide hlu;obtain ⟨la, hla⟩ : ∃ la, frLast f = la := ⟨_, rfl⟩;rw [hla];have HLAE := hide hla;clear hlu hla hE6 x q0 q1 q2 q3 q4 y r0 r1 HLC;by_cases hl : (k : Int) = la
      ·have HLE := hide (show (k : Int) = frLast f from by rw [HLAE.out]; exact hl)
       have hl1 : ((k : Int) == la) = true := by simpa using hl
       clear hl;have hB7 : Below w2.heap.size w2 (w6.setCell ⟨gx, 1, none⟩ (.int .i64 ((i : Int) - 1))) := (HB6.out.setCell (p := ⟨gx, 1, none⟩) HGX.out _);have hO7 : Own (w6.setCell ⟨gx, 1, none⟩ (.int .i64 ((i : Int) - 1))) w2.heap.size 102 2 A k d ((spansTo f p k).flatMap spnCells) := own_other HO6.out (p := ⟨gx, 1, none⟩) HGO.out _;have HO7 := hide hO7;have HB7 := hide hB7;have hX7 := HX6.out.set_ 1 (.int .i64 ((i : Int) - 1));have e0 : (w6.setCell ⟨gx, 1, none⟩ (.int .i64 ((i : Int) - 1))).cell? ⟨gx, 0, none⟩ = some (.int .i64 st) := (hX7.cell 0).trans rfl;have e1 : (w6.setCell ⟨gx, 1, none⟩ (.int .i64 ((i : Int) - 1))).cell? ⟨gx, 1, none⟩ = some (.int .i64 ((i : Int) - 1)) := (hX7.cell 1).trans rfl;have e2 := hX7.lt;have hb7 := hB7.size;clear hB7 hO7 hX7;go_wp2_with (at_builtin; go_loud (refine wpList_app1A (w6.setCell ⟨gx, 1, none⟩ (.int .i64 ((i : Int) - 1))) w6.heap.size (by simp [World.setCell]) rfl _ _ 92 rfl w2.heap.size 102 i0 _ 2 16 Tryz.underlying92 hi0 hz0 hz1 hz2 rfl (by omega) A k d _ [.int .i64 st, .int .i64 ((i : Int) - 1)] rfl HO7.out rfl rfl (by intro u hu; simp at hu; rcases hu with rfl | rfl <;> rfl) (by omega) (by omega) hb7 ?_; intro A9 c9 w9 hown9 hg9 hat9))
       have HO9 := hide hown9;have HB9 := hide (Below.grownOwn (HB7.out.alloc HB7.out.size (.cells #[.int .i64 st, .int .i64 ((i : Int) - 1)] 102)) (HO7.out.alloc _) hg9 (by have := HB7.out.size; simp only [World.size_alloc]; omega) (Nat.le_refl _));clear hown9 hg9 hat9;refine ⟨⟨k + 1, A9, c9, by omega, by simp, rfl, hide ?_, HB9⟩, by simp [intOf]; omega⟩;rw [spansTo_succ, List.flatMap_append]
       have hsp : [spanOf f p k].flatMap spnCells = [.int .i64 st, .int .i64 ((i : Int) - 1)] := by
        simp only [List.flatMap_cons, List.flatMap_nil, List.append_nil, spnCells, spanOf];rw [if_pos HLE.out, HSE.out, HON.out]
       rw [hsp];exact HO9.out
      ·have HLE := hide (show ¬ (k : Int) = frLast f from by rw [HLAE.out]; exact hl)
       have hl1 : ((k : Int) == la) = false := by simpa using hl
       have hB7 : Below w2.heap.size w2 w6 := HB6.out;have hO7 : Own w6 w2.heap.size 102 2 A k d ((spansTo f p k).flatMap spnCells) := HO6.out;have HO7 := hide hO7;have HB7 := hide hB7;have hX7 := HX6.out;have e0 : (w6).cell? ⟨gx, 0, none⟩ = some (.int .i64 st) := (hX7.cell 0).trans rfl;have e1 : (w6).cell? ⟨gx, 1, none⟩ = some (.int .i64 lu) := (hX7.cell 1).trans rfl;have e2 := hX7.lt;have hb7 := hB7.size;clear hB7 hO7 hX7;go_wp2_with (at_builtin; go_loud (refine wpList_app1A (w6) w6.heap.size (rfl) rfl _ _ 92 rfl w2.heap.size 102 i0 _ 2 16 Tryz.underlying92 hi0 hz0 hz1 hz2 rfl (by omega) A k d _ [.int .i64 st, .int .i64 lu] rfl HO7.out rfl rfl (by intro u hu; simp at hu; rcases hu with rfl | rfl <;> rfl) (by omega) (by omega) hb7 ?_; intro A9 c9 w9 hown9 hg9 hat9))
       have HO9 := hide hown9;have HB9 := hide (Below.grownOwn (HB7.out.alloc HB7.out.size (.cells #[.int .i64 st, .int .i64 lu] 102)) (HO7.out.alloc _) hg9 (by have := HB7.out.size; simp only [World.size_alloc]; omega) (Nat.le_refl _));clear hown9 hg9 hat9;refine ⟨⟨k + 1, A9, c9, by omega, by simp, rfl, hide ?_, HB9⟩, by simp [intOf]; omega⟩;rw [spansTo_succ, List.flatMap_append]
       have hsp : [spanOf f p k].flatMap spnCells = [.int .i64 st, .int .i64 lu] := by
        simp only [List.flatMap_cons, List.flatMap_nil, List.append_nil, spnCells, spanOf];rw [if_neg HLE.out, HSE.out, HON.out, HLU.out]
       rw [hsp];exact HO9.out
  ·obtain rfl : k = n := by omega
   go_wp2_with fail;go_ret;exact ⟨A, k, d, rfl, by simp [spansTo], HOW.out.cells, HB2.out.trans (HBW.out.mono HB2.out.size)⟩
theorem spansOf_ref (W H S O : Int) (PA : Option Addr) (n c : Nat) (ps : List Pas) (OA : Option Addr) (on oc : Nat) (QA : Option Addr) (qn qc : Nat) (p : Pln) (w : World) (hn : ps.length = n) (hP : Passes w PA ps)
 (hO : Ints w OA p.Order) (hon : p.Order.length = on) (hol : on ≤ 9223372036854775807) (hok : FrmOk ⟨W, H, S, O, ps⟩) (hin : InOrder ⟨W, H, S, O, ps⟩ p) :
 Calls Tryz.prog 57 #[.agg #[.int .i64 W, .int .i64 H, .int .i64 S, .int .i64 O, .slice PA n c], .agg #[.slice OA on oc, .slice QA qn qc]] w (RetSpns w (spansTo ⟨W, H, S, O, ps⟩ p n)) :=
 spansOf_ord W H S O PA n c ps OA on oc QA qn qc p w hn hP hO hon hol hok (ordTo_of hin) hin.len
end Go.Proofs.YtibpmogmeoappaaGreatDoor
namespace Go.Proofs.YtibpmogmeoappaaGreatDoor
open Go.RowKit
theorem area_is {W H a : Int} (ha : W * H = a) (hb : 0 ≤ a ∧ a ≤ 256) (w : World) : Calls Tryz.prog 55 #[.agg #[.int .i64 W, .int .i64 H]] w fun e w' => e = .returned (.int .i64 a) ∧ Below w.heap.size w w' := by
 subst ha;exact area_ref W H w hb
theorem meet_is {a b : Spn} {v : Bool} (h : meetB a b = v) (w : World) : Calls Tryz.prog 88 #[.agg #[.int .i64 a.First, .int .i64 a.Last], .agg #[.int .i64 b.First, .int .i64 b.Last]] w fun e w' => e = .returned (.bool v) ∧ Below w.heap.size w w' := by
 subst h;exact meet_ref a b w
theorem size_cells {w : World} {A : Option Addr} {f : Frm} (hok : FrmOk f) (h : Sizes w A (frSizes f)) {k : Nat} (hk : k < f.P.length) : ∃ b o, A = some ⟨b, o, none⟩ ∧ b < w.heap.size ∧ w.cell? ⟨b, o + k * 2, none⟩ = some (.int .i64 (frSize f k).W) ∧ w.cell? ⟨b, o + k * 2 + 1, none⟩ = some (.int .i64 (frSize f k).H) := by
 obtain ⟨b, o, e, h1, h2, h3⟩ := Sizes.at_ h (i := k) (by rw [sizes_len hok]; exact hk);rw [size_at hok hk] at h2 h3;exact ⟨b, o, e, h1, h2, h3⟩
theorem place_of {f : Frm} {p : Pln} (h : InOrder f p) {k : Nat} (hk : k < f.P.length) : p.pl k = -1 ∨ (0 ≤ p.pl k ∧ p.pl k ≤ 4096) := by
 have hd := h.pass k hk;by_cases hs : 0 ≤ stepOf p.Order (k : Int)
 ·exact .inr (hd.2.1 hs)
 ·exact .inl (hd.2.2 hs)
end Go.Proofs.YtibpmogmeoappaaGreatDoor
