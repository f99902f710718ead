/- What Draw must answer, as the reference reckons it. -/
import Derived.Test.YtibpmogmeoappaaGreatDoorJDesE
import Derived.Test.YtibpmogmeoappaaGreatDoorJWirI
import Derived.Test.YtibpmogmeoappaaGreatDoorJFitK
import Derived.Test.YtibpmogmeoappaaGreatDoorJPlnK
import Derived.Test.YtibpmogmeoappaaGreatDoorJFrmR
set_option maxRecDepth 100000
set_option maxHeartbeats 8000000
namespace Go.Proofs.YtibpmogmeoappaaGreatDoor
open Go.RowKit
theorem from_same (s : List Int) (hb : Bytes s) (h : ¬ 2048 < s.length) : (fromFrm s).getD noFrm = readF s ∧ ((fromFrm s).isSome = true ∧ readZ s = 0 ∨ (fromFrm s).isSome = false ∧ readZ s = 1) := by
 unfold readF readZ;rw [if_neg h, if_neg h, ← read_from hb]
 cases readFrm s with
 | none => exact ⟨rfl, .inr ⟨rfl, rfl⟩⟩
 | some f => exact ⟨rfl, .inl ⟨rfl, rfl⟩⟩
theorem drawn_ref (z : ByteArray) (room : Int) (w : World) (_hr1 : -9223372036854775808 ≤ room) (_hr2 : room ≤ 9223372036854775807) (hzl : z.size ≤ 9223372036854775807) :
 Calls Tryz.prog 9 #[.string z, .int .i64 room] w (RetStrE w (drawAns (strL z) room) (drawErr (strL z) room)) := by
 have hby := strL_bytes z;have hfr := from_any z w;have hsz := strL_len z;obtain ⟨s, hs⟩ : ∃ s, strL z = s := ⟨_, rfl⟩;rw [hs] at hby hfr hsz ⊢;have hzi : (z.size : Int) = (s.length : Int) := by omega
 by_cases hm : 2048 < s.length
 ·have h1 : (2048 : Int) < (z.size : Int) := by omega
  have hz2 : readZ s = 2 := by unfold readZ; rw [if_pos hm]
  have hd : drawErr s room = 2 := by unfold drawErr; rw [hz2, if_pos (by decide)]
  have HD := hide hd;clear hd hz2 hm hfr hby hs hsz hzi;go_enter Tryz.func9, Tryz.ntmps9
  go_wp2_with fail;go_ret2;rw [HD.out, draw_stop HD.out (by decide)];exact ⟨rfl, Below.refl _ _⟩
 ·have h1 : ¬ (2048 : Int) < (z.size : Int) := by omega
  obtain ⟨hf1, hf2⟩ := from_same s hby hm;have hok := read_ok hby;obtain ⟨f, hf⟩ : ∃ f, readF s = f := ⟨_, rfl⟩;obtain ⟨rz, hrz⟩ : ∃ rz, readZ s = rz := ⟨_, rfl⟩;obtain ⟨bs, hbs⟩ : ∃ bs, (fromFrm s).isSome = bs := ⟨_, rfl⟩;unfold RetFrom at hfr;rw [hf1, hf, hbs] at hfr;rw [hf, hrz] at hok;rw [hbs, hrz] at hf2;have hd1 : rz ≠ 0 → drawErr s room = rz := fun h => by unfold drawErr; rw [hrz, if_pos h]
  have hd2 : rz = 0 → ¬ (0 ≤ room ∧ room ≤ 4096) → drawErr s room = 3 := fun h h2 => by unfold drawErr; rw [hrz, if_neg (by simpa using h), if_pos h2]
  have hd3 : rz = 0 → 0 ≤ room ∧ room ≤ 4096 → room < peakOf f (comp f) → drawErr s room = 7 := fun h h2 h3 => by unfold drawErr; rw [hrz, hf, if_neg (by simpa using h), if_neg (by simpa using h2), if_pos h3]
  have hd4 : rz = 0 → 0 ≤ room ∧ room ≤ 4096 → ¬ room < peakOf f (comp f) → drawErr s room = 0 ∧ drawAns s room = showTxt (frAns f) := fun h h2 h3 => by
   have e : drawErr s room = 0 := by unfold drawErr; rw [hrz, hf, if_neg (by simpa using h), if_neg (by simpa using h2), if_neg h3]
   refine ⟨e, ?_⟩;unfold drawAns;rw [if_pos e, hf]
  have HD1 := hide hd1;have HD2 := hide hd2;have HD3 := hide hd3;have HD4 := hide hd4;have HOK := hide hok;have HFR := hide hfr;clear hby hfr hs hf hrz hok hd1 hd2 hd3 hd4 hf1 hbs hsz hzi hm;obtain ⟨W, H, S, O, ps⟩ := f;go_enter Tryz.func9, Tryz.ntmps9
  go_wp2_with fail;refine (unhide HFR).mono ?_;rintro e w1 ⟨PA, n, c, rfl, hn, hP, hE1⟩;have hn : ps.length = n := hn;have hP : Passes w1 PA ps := hP;have hal := (Below.refl w1.heap.size w1).alloc (Nat.le_refl _) (.cells #[.int .i64 W, .int .i64 H, .int .i64 S, .int .i64 O, .slice PA n c] 35);have HB1 := hide (hE1.trans (hal.mono hE1.size));have HK1 := hide ((Keeps.blk (Blk.new w1 35 (frmCells W H S O PA n c))).and (Keeps.passes (hP.keep hal)));have HN := hide hn;clear hE1 hP hal hn HFR;rcases hf2 with ⟨rfl, rfl⟩ | ⟨rfl, rfl⟩
  ·have hok := HOK.out rfl
   by_cases hrm : 0 ≤ room ∧ room ≤ 4096
   ·have hd3 := HD3.out rfl hrm
    have hd4 := HD4.out rfl hrm;have hwi := within_any room 0 4096;rw [show inR room 0 4096 = true by unfold inR; simp; omega] at hwi;have hcm := fun (W0 : World) (h1 : Passes W0 PA ps) => compileOf_ref W H S O PA n c ps W0 HN.out h1 hok;have hin := comp_in hok;have hpk := fun (A : Option Addr) (a b : Nat) (B : Option Addr) (d m : Nat) (W0 : World) (h1 : Passes W0 PA ps) (h2 : Ints W0 A (comp ⟨W, H, S, O, ps⟩).Order) (h3 : (comp ⟨W, H, S, O, ps⟩).Order.length = a) (h4 : a ≤ 65536) (h6 : Ints W0 B (comp ⟨W, H, S, O, ps⟩).Places) (h7 : (comp ⟨W, H, S, O, ps⟩).Places.length = d) => peakOf_ref W H S O PA n c ps A a b B d m (comp ⟨W, H, S, O, ps⟩) W0 HN.out h1 h2 h3 (by omega) h6 h7 hok hin;have hrn := fun (W0 : World) (h1 : Passes W0 PA ps) => renderOf_ref W H S O PA n c ps W0 HN.out h1 hok;have hfa : frAns ⟨W, H, S, O, ps⟩ = frShown ⟨W, H, S, O, ps⟩ := if_pos (frErr_zero.2 hok);have hfi := (frShown_fine hok).1;rw [hfa] at hd4
    have hlen : (comp ⟨W, H, S, O, ps⟩).Order.length ≤ 65536 := by
     have h1 := compO_len hok;have h2 := hok.many
     show (compO _).length ≤ 65536
     omega
    obtain ⟨p, hp⟩ : ∃ p, comp ⟨W, H, S, O, ps⟩ = p := ⟨_, rfl⟩;rw [hp] at hcm hpk hd3 hd4 hlen;obtain ⟨pk, hpkv⟩ : ∃ pk, peakOf ⟨W, H, S, O, ps⟩ p = pk := ⟨_, rfl⟩;rw [hpkv] at hpk hd3 hd4;obtain ⟨fa, hfav⟩ : ∃ fa, frShown ⟨W, H, S, O, ps⟩ = fa := ⟨_, rfl⟩;rw [hfav] at hrn hd4 hfi;have HCM := hide hcm;have HPK := hide hpk;have HRN := hide hrn;have HX3 := hide hd3;have HX4 := hide hd4;have HLE := hide hlen;have HFI := hide hfi;have HWI := hide hwi;clear hcm hpk hrn hd3 hd4 hlen hfi hwi hp hpkv hfav hfa hin hok HOK HD1 HD2 HD3 HD4;obtain ⟨hr3, hr4⟩ := hrm;obtain ⟨x, q0, q1, q2, q3, q4⟩ := FrmBox.cells (show FrmBox _ _ W H S O PA n c from HK1.out.now.1);go_wp2_with fail;refine ((unhide HWI) _).mono ?_;rintro e w2 ⟨rfl, rfl⟩;go_upto_region 8 with fail
    have hS0 : FrmBox (w1.alloc (.cells #[.int .i64 W, .int .i64 H, .int .i64 S, .int .i64 O, .slice PA n c] 35)).drew w1.heap.size W H S O PA n c := HK1.out.now.1;refine wp_region_B (fun w' => FrmBox w' w1.heap.size W H S O PA n c) (fun _ => false) (by kernel_rfl) ?_;refine AnyB.tk (i:=0) (.agg #[.int .i64 W, .int .i64 H, .int .i64 S, .int .i64 O, .slice PA n c]) rfl (by kernel_rfl) (fun w' hS'=>?_) hS0 ?_
    ·obtain ⟨e, e0, e1, e2, e3, e4⟩ := FrmBox.cells hS'
     go_simp
    try simp only [Act.put,lsa]
    refine AnyB.tk (i:=1) (.agg #[.int .i64 W, .int .i64 H, .int .i64 S, .int .i64 O, .slice PA n c]) rfl (by kernel_rfl) (fun w' hS'=>?_) hS0 ?_
    ·obtain ⟨e, e0, e1, e2, e3, e4⟩ := FrmBox.cells hS'
     go_simp
    try simp only [Act.put]
    refine AnyB.fr (i:=4) (.int .i64 room) rfl (by kernel_rfl) (fun w'=>?_) ?_
    ·go_simp
    try simp only [Act.put]
    refine AnyB.one (i := 2) (by kernel_rfl) rfl (fun K hK => ?_)
    go_simp;go_at_call 26;refine ((unhide HCM) _ HK1.out.drew.now.2).mono ?_;rintro e w2 ⟨OA, on, oc, QA, qn, qc, rfl, hon, hqn, hO2, hQ2, -, -, hE2⟩;refine hK.out _ _ (fun _ hs => Blk.keep hs hE2) ?_;clear hK K;try simp only [Act.put,lsa,lsz,lss]
    refine AnyB.one (i := 3) (by kernel_rfl) rfl (fun K hK => ?_)
    go_simp;go_at_call 25;refine ((unhide HPK) OA on oc QA qn qc _ (HK1.out.drew.later _ hE2).2 hO2 hon (by have := HLE.out; omega) hQ2 hqn).mono ?_;rintro e w3 ⟨rfl, hE3⟩;refine hK.out _ _ (fun _ hs => Blk.keep hs hE3) ?_;clear hK K;try simp only [Act.put,lsa,lsz,lss]
    refine AnyB.fr (i:=5) (.bool (decide (room < pk))) rfl (by kernel_rfl) (fun w'=>?_) ?_
    ·go_simp
    try simp only [Act.put,lsa]
    refine AnyB.done (by kernel_rfl) ?_;have HK3 := hide (HK1.out.drew.move (hE2.trans (hE3.mono hE2.size)));have HB3 := hide (HB1.out.drew.trans ((hE2.trans (hE3.mono hE2.size)).mono HB1.out.drew.size));clear hO2 hQ2 hE2 hE3 hS0 x q0 q1 q2 q3 q4;obtain ⟨x, q0, q1, q2, q3, q4⟩ := FrmBox.cells (show FrmBox _ _ W H S O PA n c from HK3.out.now.1);by_cases hpr : room < pk
    ·have hd := HX3.out hpr
     have HD := hide hd;clear hd;have hprb : decide (room < pk) = true := by simpa using hpr
     go_wp2_with fail;go_ret2;rw [HD.out, draw_stop HD.out (by decide)];exact ⟨rfl, HB3.out⟩
    ·have HD := hide (HX4.out (by omega))
     have hprb : decide (room < pk) = false := by simpa using hpr
     go_wp2_with fail;refine ((unhide HRN) _ HK3.out.now.2).mono ?_;rintro e w4 ⟨U, V, P, A, m, d, rfl, hm4, rfl, hI4, -, hE4⟩;go_wp2_with fail;refine (imageText_ref U V A m d P _ HFI.out hm4 hI4).mono ?_;rintro e w5 ⟨rfl, hE5⟩;go_wp2_with fail;go_ret2;rw [HD.out.1, HD.out.2];exact ⟨rfl, HB3.out.trans ((hE4.trans (hE5.mono hE4.size)).mono HB3.out.size)⟩
   ·have HD5 := hide (HD2.out rfl hrm)
    have hwi := within_any room 0 4096
    rw [show inR room 0 4096 = false by
     cases hh : inR room 0 4096 with
     | false => rfl
     | true => exact absurd (by unfold inR at hh; simpa using hh) hrm] at hwi
    have HWI := hide hwi;clear hwi hrm HD1 HD2 HD3 HD4;go_wp2_with fail;refine ((unhide HWI) _).mono ?_;rintro e w2 ⟨rfl, rfl⟩;go_wp2_with fail;go_ret2;rw [HD5.out, draw_stop HD5.out (by omega)];exact ⟨rfl, HB1.out⟩
  ·go_wp2_with fail
   go_ret2;rw [HD1.out (by decide), draw_stop (HD1.out (by decide)) (by decide)];exact ⟨rfl, HB1.out⟩
end Go.Proofs.YtibpmogmeoappaaGreatDoor
