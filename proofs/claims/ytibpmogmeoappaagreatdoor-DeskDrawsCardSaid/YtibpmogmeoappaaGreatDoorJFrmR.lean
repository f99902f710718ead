/- Walks: frame.Render. (Printed by gen_render.py.) -/
import Derived.Test.YtibpmogmeoappaaGreatDoorJFrmO
import Derived.Test.YtibpmogmeoappaaGreatDoorJFrmM
import Derived.Test.YtibpmogmeoappaaGreatDoorJFrmQ
set_option maxRecDepth 100000
set_option maxHeartbeats 4000000
namespace Go.Proofs.YtibpmogmeoappaaGreatDoor
open Go.RowKit
theorem intsFar3 {w : World} {B : Nat} {A : Option Addr} {P : List Int} (h : Ints w A P) (hn : P.map (Value.int .i64) ≠ [] → NewFrom B A) {r : Nat} (hr : r < B) (u0 u1 u2 : Value) :
 Ints (((w.setCell ⟨r, 0, none⟩ u0).setCell ⟨r, 1, none⟩ u1).setCell ⟨r, 2, none⟩ u2) A P := by
 by_cases e : P.map (Value.int .i64) = []
 ·show Cells _ _ _; rw [e]; exact Cells.nil _ _
 ·exact ((h.far (hn e) (p := ⟨r, 0, none⟩) hr u0).far (hn e) (p := ⟨r, 1, none⟩) hr u1).far (hn e) (p := ⟨r, 2, none⟩) hr u2
end Go.Proofs.YtibpmogmeoappaaGreatDoor
namespace Go.Proofs.YtibpmogmeoappaaGreatDoor
open Go.RowKit
def RetPl (w : World) (r : Img) (e : Ending) (w' : World) : Prop :=
 ∃ (W H : Int) (P : List Int) (A : Option Addr) (n c : Nat), Img.mk W H P = r ∧ P.length = n ∧ e = .returned (.agg #[.int .i64 W, .int .i64 H, .slice A n c]) ∧ Ints w' A P ∧ (P.map (Value.int .i64) ≠ [] → NewFrom (w.heap.size + 1) A) ∧ Below w.heap.size w w'
theorem renderOf_ref (W H S O : Int) (PA : Option Addr) (n c : Nat) (ps : List Pas) (w : World) (hn : ps.length = n) (hP : Passes w PA ps) (hf0 : FrmOk ⟨W, H, S, O, ps⟩) :
 Calls Tryz.prog 27 #[.agg #[.int .i64 W, .int .i64 H, .int .i64 S, .int .i64 O, .slice PA n c]] w (RetPl w (frShown ⟨W, H, S, O, ps⟩)) := by
 have hl := hf0.last;have hl12 := hf0.many.2;simp only [hn] at hl hl12
 have hxo : (frImgs ⟨W, H, S, O, ps⟩ n)[(frLast ⟨W, H, S, O, ps⟩).toNat]? = some (frShown ⟨W, H, S, O, ps⟩) := by
  unfold frShown imgOf;rw [if_neg (by omega), List.getD_eq_getElem?_getD, hn, List.getElem?_eq_getElem (by rw [frImgs_len]; omega)];rfl
 obtain ⟨f, hf⟩ : ∃ f : Frm, f = ⟨W, H, S, O, ps⟩ := ⟨_, rfl⟩;have hb := ((Below.refl w.heap.size w).alloc (Nat.le_refl _) (.cells #[.int .i64 W, .int .i64 H, .int .i64 S, .int .i64 O, .slice PA n c] 35)).alloc (by simp) (.cells #[.int .i64 0, .int .i64 0, .slice none 0 0] 24);have HIM := hide (fun (W0 : World) (h1 : Passes W0 PA ps) => images_ref W H S O PA n c ps W0 hn h1 hf0);have HLA := hide (fun (W0 : World) (h1 : Passes W0 PA ps) => lastOf_ref W H S O PA n c ps W0 hn h1 (by omega));have hbx : FrmBox ((w.alloc (.cells #[.int .i64 W, .int .i64 H, .int .i64 S, .int .i64 O, .slice PA n c] 35)).alloc (.cells #[.int .i64 0, .int .i64 0, .slice none 0 0] 24)) w.heap.size W H S O PA n c := (Blk.new w 35 (frmCells W H S O PA n c)).alloc _;have hrs : Blk ((w.alloc (.cells #[.int .i64 W, .int .i64 H, .int .i64 S, .int .i64 O, .slice PA n c] 35)).alloc (.cells #[.int .i64 0, .int .i64 0, .slice none 0 0] 24)) (w.heap.size + 1) 24 [.int .i64 0, .int .i64 0, .slice none 0 0] := Blk.newE (by simp);have hsz : ((w.alloc (.cells #[.int .i64 W, .int .i64 H, .int .i64 S, .int .i64 O, .slice PA n c] 35)).alloc (.cells #[.int .i64 0, .int .i64 0, .slice none 0 0] 24)).heap.size = w.heap.size + 2 := by simp
 rw [← hf] at hl hxo HIM HLA ⊢;have HP := hide (Keeps.passes hP);have HXO := hide hxo;clear hn hP hf hf0 hxo hl12;go_enter Tryz.func27, Tryz.ntmps27
 go_wp2_with fail;generalize ((w.alloc (.cells #[.int .i64 W, .int .i64 H, .int .i64 S, .int .i64 O, .slice PA n c] 35)).alloc (.cells #[.int .i64 0, .int .i64 0, .slice none 0 0] 24)) = w0 at *;obtain ⟨x, q0, q1, q2, q3, q4⟩ := FrmBox.cells hbx;have HRS := hide hrs;have HB := hide hb;have HSZ := hide hsz;have HKS := hide (show Keeps w0 (fun w' => w'.cell? ⟨w.heap.size, 0, none⟩ = some (.int .i64 W) ∧ w'.cell? ⟨w.heap.size, 1, none⟩ = some (.int .i64 H) ∧ w'.cell? ⟨w.heap.size, 2, none⟩ = some (.int .i64 S) ∧ w'.cell? ⟨w.heap.size, 3, none⟩ = some (.int .i64 O) ∧ w'.cell? ⟨w.heap.size, 4, none⟩ = some (.slice PA n c)) from ⟨⟨q0, q1, q2, q3, q4⟩, fun _ hb => ⟨keepC hb q0, keepC hb q1, keepC hb q2, keepC hb q3, keepC hb q4⟩⟩);obtain ⟨l0, l1⟩ := hl;clear hb hbx hrs hsz
 go_region_with (first
  | (go_simp; go_at_call 59; refine ((unhide HIM) _ (HP.out.later _ HB.out.drew)).mono ?_; rintro e w1 ⟨A1, n1, c1, rfl, hn1, hI1, hE1⟩; have hB1 : Below w0.heap.size w0 w1 := (Below.refl _ _).drew.trans hE1; have hnn : n1 = n := (hn1.symm.trans (frImgs_len _ _)); subst hnn; obtain ⟨ib, io, IB, im, idd, rfl, hib, ic0, ic1, ic2, him, hII, hNW⟩ := hI1 _ _ HXO.out; obtain ⟨m0, m1, m2, m3, m4⟩ := HKS.out.later _ hB1)
  | (go_simp; go_at_call 60; refine ((unhide HLA) _ (HP.out.later _ (HB.out.trans (hB1.mono HB.out.size)))).mono ?_; rintro e w2 ⟨rfl, hE2⟩; have hB2 : Below w0.heap.size w0 w2 := hB1.trans (hE2.mono hB1.size); have j0 := keepC hE2 ic0; have j1 := keepC hE2 ic1; have j2 := keepC hE2 ic2; obtain ⟨r0, r1, r2, r3, r4, r5, r6⟩ := resKeep hB2 HRS.out))
 all_goals
  have hss := HSZ.out;have HB2 := hide (HB.out.trans (hB2.mono HB.out.size));have HII := hide (hII.keep hE2);have HNW2 := hide hNW;have HIM2 := hide him;clear hNW him hII hI1;go_wp2_with fail;refine bodyPost_ret (v := .agg #[.int .i64 (frShown f).W, .int .i64 (frShown f).H, .slice IB im idd]) ?_ rfl ?_
  ·simp [results, Tryz.results27, go_sem, r1, r2, r3]
  ·refine ⟨_, _, (frShown f).P, IB, im, idd, rfl, HIM2.out, rfl, ?_, (fun h => (HNW2.out h).mono (show w.heap.size + 1 ≤ w0.heap.size from by omega)), ((HB2.out.setCell (p := ⟨w.heap.size + 1, 0, none⟩) (by simp) _).setCell (p := ⟨w.heap.size + 1, 1, none⟩) (by simp) _).setCell (p := ⟨w.heap.size + 1, 2, none⟩) (by simp) _⟩
   exact intsFar3 HII.out (fun h => (HNW2.out h).mono (show w.heap.size + 2 ≤ _ from by show w.heap.size + 2 ≤ w0.heap.size; omega)) (by omega) _ _ _
end Go.Proofs.YtibpmogmeoappaaGreatDoor
