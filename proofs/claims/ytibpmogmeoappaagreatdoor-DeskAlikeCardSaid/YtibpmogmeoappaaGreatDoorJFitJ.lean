/- Walks: fit.Compile (all ways), SamePlans, fitBegun. -/
import Derived.Test.YtibpmogmeoappaaGreatDoorJFrmM
import Derived.Test.YtibpmogmeoappaaGreatDoorJFrmN
import Derived.Test.YtibpmogmeoappaaGreatDoorJFitI
import Derived.Test.YtibpmogmeoappaaGreatDoorJFitF
import Derived.Test.YtibpmogmeoappaaGreatDoorJImgA
set_option maxRecDepth 100000
set_option maxHeartbeats 4000000
namespace Go.Proofs.YtibpmogmeoappaaGreatDoor
open Go.RowKit
def glowF : Frm := ⟨4, 2, 3, 1, [⟨2, 0, 0, 0, 100, []⟩, ⟨1, 2, 0, 0, 7, []⟩, ⟨10, 1, 0, 0, 0, []⟩, ⟨1, 2, 0, 0, 9, []⟩, ⟨4, 1, 0, 2, 0, []⟩]⟩
def RetGlow (w : World) (e : Ending) (w' : World) : Prop := ∃ (A : Option Addr) (c : Nat), e = .returned (.agg #[.int .i64 4, .int .i64 2, .int .i64 3, .int .i64 1, .slice A 5 c]) ∧ Passes w' A glowF.P ∧ Below w.heap.size w w'
theorem passes_flat {w : World} {A : Option Addr} {ps : List Pas} (h : Cells w A (ps.flatMap (fun p => passCells p none 0 0))) (hL : ∀ p ∈ ps, p.L = []) : Passes w A ps := by
 intro i hi;obtain ⟨b, o, h1, h2, h3⟩ := cells_flat (k := 6) (fun x => rfl) h hi (by omega);have e : ps.getD i noPas = ps[i] := by rw [List.getD_eq_getElem?_getD, List.getElem?_eq_getElem hi]; rfl
 have hl := hL _ (List.getElem_mem hi);rw [e];refine ⟨b, o, none, 0, 0, h1, h2, h3, by rw [hl]; rfl, ?_, by omega⟩;rw [hl];intro j hj;simp at hj
theorem glow_any (w : World) : Calls Tryz.prog 29 #[] w (RetGlow w) := by
 go_enter Tryz.func29, Tryz.ntmps29
 go_wp2_with fail;refine bodyPost_ret (v := .agg #[.int .i64 4, .int .i64 2, .int .i64 3, .int .i64 1, .slice (some ⟨w.heap.size + 1, 0, none⟩) 5 5]) ?_ rfl ?_
 ·simp [results, Tryz.results29, go_sem]
 ·refine ⟨_, _, rfl, ?_, ?_⟩
  ·exact passes_flat (Blk.cells (Blk.newE (t := 78) (cs := glowF.P.flatMap (fun p => passCells p none 0 0)) (by simp))) (by decide)
  ·exact ((Below.refl _ _).alloc (Nat.le_refl _) _).alloc (by simp) _
theorem gf1 : frErr glowF = 0 := by decide +kernel
end Go.Proofs.YtibpmogmeoappaaGreatDoor
namespace Go.Proofs.YtibpmogmeoappaaGreatDoor
open Go.RowKit
theorem compile_bad (W H S O : Int) (PA : Option Addr) (n c : Nat) (ps : List Pas) (w : World) (hn : ps.length = n) (hP : Passes w PA ps) (he : frErr ⟨W, H, S, O, ps⟩ ≠ 0) :
 Calls Tryz.prog 21 #[.agg #[.int .i64 W, .int .i64 H, .int .i64 S, .int .i64 O, .slice PA n c]] w (RetPlnE w ⟨[], []⟩ (frErr ⟨W, H, S, O, ps⟩)) := by
 have hb := ((Below.refl w.heap.size w).alloc (Nat.le_refl _) (.cells #[.int .i64 W, .int .i64 H, .int .i64 S, .int .i64 O, .slice PA n c] 35)).alloc (by simp) (.cells #[.slice none 0 0, .slice none 0 0] 56);have hrx : Blk ((w.alloc (.cells #[.int .i64 W, .int .i64 H, .int .i64 S, .int .i64 O, .slice PA n c] 35)).alloc (.cells #[.slice none 0 0, .slice none 0 0] 56)) (w.heap.size + 1) 56 [.slice none 0 0, .slice none 0 0] := Blk.newE (by simp);have hkp := kept_any W H S O PA n c ps _ hn (hP.keep hb);obtain ⟨er, her⟩ : ∃ er, frErr ⟨W, H, S, O, ps⟩ = er := ⟨_, rfl⟩;rw [her] at hkp he ⊢;obtain ⟨w1, hw1⟩ : ∃ w1, (w.alloc (.cells #[.int .i64 W, .int .i64 H, .int .i64 S, .int .i64 O, .slice PA n c] 35)).alloc (.cells #[.slice none 0 0, .slice none 0 0] 56) = w1 := ⟨_, rfl⟩;rw [hw1] at hb hrx hkp;have HB := hide hb;have HRX := hide hrx;have HKP := hide hkp;have hz2 : (er != 0) = true := by simpa using he
 have hbx : FrmBox w1 w.heap.size W H S O PA n c := by
  rw [← hw1];exact (show FrmBox (w.alloc (.cells #[.int .i64 W, .int .i64 H, .int .i64 S, .int .i64 O, .slice PA n c] 35)) w.heap.size W H S O PA n c from Blk.new w 35 (frmCells W H S O PA n c)).alloc _
 obtain ⟨x, q0, q1, q2, q3, q4⟩ := FrmBox.cells hbx;clear hn hP hb hrx hkp her he hbx;go_enter Tryz.func21, Tryz.ntmps21
 go_wp2_with fail;refine (unhide HKP).mono ?_;rintro e w2 ⟨KA, kn, kc, rfl, -, -, hE2⟩;have hr2 := HRX.out.keep hE2;obtain ⟨v, r0, r1⟩ := plan_box hr2;have f0 := hr2.frozen 0;have f1 := hr2.frozen 1;have HR2 := hide hr2;have HB2 := hide (HB.out.trans (hE2.mono HB.out.size));clear hr2 hE2 hw1 x q0 q1 q2 q3 q4;go_wp2_with fail;have hr3 := (HR2.out.set_ 0 (.slice none 0 0)).set_ 1 (.slice none 0 0);obtain ⟨v9, t0, t1⟩ := plan_box hr3;refine bodyPost_ret (v := .tuple #[.agg #[.slice none 0 0, .slice none 0 0], .int .i64 er]) ?_ rfl ?_
 ·simp [results, Tryz.results21, go_sem, t0, t1]
 ·exact ⟨none, 0, 0, none, 0, 0, rfl, rfl, rfl, Ints.nil _ _, Ints.nil _ _, Nat.le_refl _, Nat.le_refl _, Mine.none_ _ _, NewFrom.none_ _, (HB2.out.setCell (p := ⟨w.heap.size + 1, 0, none⟩) (by simp) _).setCell (p := ⟨w.heap.size + 1, 1, none⟩) (by simp) _⟩
theorem compile_any (W H S O : Int) (PA : Option Addr) (n c : Nat) (ps : List Pas) (w : World) (hn : ps.length = n) (hP : Passes w PA ps) :
 Calls Tryz.prog 21 #[.agg #[.int .i64 W, .int .i64 H, .int .i64 S, .int .i64 O, .slice PA n c]] w (RetPlnE w (compAns ⟨W, H, S, O, ps⟩) (frErr ⟨W, H, S, O, ps⟩)) := by
 by_cases h : frErr ⟨W, H, S, O, ps⟩ = 0
 ·have e : compAns ⟨W, H, S, O, ps⟩ = comp ⟨W, H, S, O, ps⟩ := if_pos h
  rw [e, h];exact compile_ok W H S O PA n c ps w hn hP (frErr_zero.1 h)
 ·have e : compAns ⟨W, H, S, O, ps⟩ = ⟨[], []⟩ := if_neg h
  rw [e];exact compile_bad W H S O PA n c ps w hn hP h
end Go.Proofs.YtibpmogmeoappaaGreatDoor
