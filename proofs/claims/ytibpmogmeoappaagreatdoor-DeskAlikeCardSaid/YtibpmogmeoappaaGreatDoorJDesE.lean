/- desk.Draw: read, compiled, run, shown. -/
import Derived.Test.YtibpmogmeoappaaGreatDoorJDPure
import Derived.Test.YtibpmogmeoappaaGreatDoorJDesC
import Derived.Test.YtibpmogmeoappaaGreatDoorJWirF
import Derived.Test.YtibpmogmeoappaaGreatDoorJFitJ
import Derived.Test.YtibpmogmeoappaaGreatDoorJPlnK
import Derived.Test.YtibpmogmeoappaaGreatDoorJExcA
import Derived.Deep.DeepCutAuto
set_option maxRecDepth 100000
set_option maxHeartbeats 8000000
namespace Go.Proofs.YtibpmogmeoappaaGreatDoor
open Go.RowKit
def drawErr (s : List Int) (room : Int) : Int := if readZ s ≠ 0 then readZ s else if ¬ (0 ≤ room ∧ room ≤ 4096) then 3 else if room < peakOf (readF s) (comp (readF s)) then 7 else 0
def drawAns (s : List Int) (room : Int) : List Int := if drawErr s room = 0 then showTxt (frAns (readF s)) else []
theorem read_ok {s : List Int} (hb : Bytes s) (h : readZ s = 0) : FrmOk (readF s) := by
 unfold readZ at h;unfold readF;by_cases hm : 2048 < s.length
 ·rw [if_pos hm] at h; omega
 ·rw [if_neg hm] at h
  rw [if_neg hm]
  cases hr : readFrm s with
  | none => rw [hr] at h; simp at h
  | some f => exact frErr_zero.1 (read_some hb hr).1
theorem draw_stop {s : List Int} {room z : Int} (h : drawErr s room = z) (hz : z ≠ 0) : drawAns s room = [] := by
 unfold drawAns;rw [if_neg (by rw [h]; exact hz)]
theorem ints_zero (w : World) (N : Nat) : Ints (w.alloc (.cells (List.replicate N (Value.int .i64 0)).toArray 3)) (some ⟨w.heap.size, 0, none⟩) (List.replicate N 0) := by
 have h := (Blk.new w 3 (List.replicate N (Value.int .i64 0))).cells;unfold Ints;rw [List.map_replicate];exact h
def MemD (b9 b8 : Nat) (W H S O : Int) (PA : Option Addr) (n c : Nat) (OA : Option Addr) (on oc : Nat) (QA : Option Addr) (qn qc : Nat) (w : World) : Prop :=
 (w.cell? ⟨b9, 0, none⟩ = some (.int .i64 W) ∧ w.cell? ⟨b9, 1, none⟩ = some (.int .i64 H) ∧ w.cell? ⟨b9, 2, none⟩ = some (.int .i64 S) ∧ w.cell? ⟨b9, 3, none⟩ = some (.int .i64 O) ∧ w.cell? ⟨b9, 4, none⟩ = some (.slice PA n c)) ∧
  (w.cell? ⟨b8, 0, none⟩ = some (.slice OA on oc) ∧ w.cell? ⟨b8, 1, none⟩ = some (.slice QA qn qc))
theorem MemD.keep {b9 b8 : Nat} {W H S O : Int} {PA : Option Addr} {n c : Nat} {OA : Option Addr} {on oc : Nat} {QA : Option Addr} {qn qc : Nat} {w w' : World} (h : MemD b9 b8 W H S O PA n c OA on oc QA qn qc w) (hb : Below w.heap.size w w') : MemD b9 b8 W H S O PA n c OA on oc QA qn qc w' :=
 ⟨⟨keepC hb h.1.1, keepC hb h.1.2.1, keepC hb h.1.2.2.1, keepC hb h.1.2.2.2.1, keepC hb h.1.2.2.2.2⟩, ⟨keepC hb h.2.1, keepC hb h.2.2⟩⟩
theorem deskDraw_any (z : ByteArray) (room : Int) (w : World) (hr1 : -9223372036854775808 ≤ room) (hr2 : room ≤ 9223372036854775807) (ht : Tab w) :
 Calls Tryz.prog 8 #[.string z, .int .i64 room] w (RetStrE w (drawAns (strL z) room) (drawErr (strL z) room)) := by
 have hby := strL_bytes z;have hrd := read_any z w;obtain ⟨s, hs⟩ : ∃ s, strL z = s := ⟨_, rfl⟩;rw [hs] at hby hrd ⊢;obtain ⟨f, hf⟩ : ∃ f, readF s = f := ⟨_, rfl⟩;obtain ⟨rz, hrz⟩ : ∃ rz, readZ s = rz := ⟨_, rfl⟩;have hok := read_ok hby;rw [hf, hrz] at hok hrd;have hd1 : rz ≠ 0 → drawErr s room = rz := fun h => by unfold drawErr; rw [hrz, if_pos h]
 have hd2 : rz = 0 → ¬ (0 ≤ room ∧ room ≤ 4096) → drawErr s room = 3 := fun h h2 => by unfold drawErr; rw [hrz, if_neg (by simpa using h), if_pos h2]
 have hd3 : rz = 0 → 0 ≤ room ∧ room ≤ 4096 → room < peakOf f (comp f) → drawErr s room = 7 := fun h h2 h3 => by unfold drawErr; rw [hrz, hf, if_neg (by simpa using h), if_neg (by simpa using h2), if_pos h3]
 have hd4 : rz = 0 → 0 ≤ room ∧ room ≤ 4096 → ¬ room < peakOf f (comp f) → drawErr s room = 0 ∧ drawAns s room = showTxt (frAns f) := fun h h2 h3 => by
  have e : drawErr s room = 0 := by unfold drawErr; rw [hrz, hf, if_neg (by simpa using h), if_neg (by simpa using h2), if_neg h3]
  refine ⟨e, ?_⟩;unfold drawAns;rw [if_pos e, hf]
 have HD1 := hide hd1;have HD2 := hide hd2;have HD3 := hide hd3;have HD4 := hide hd4;have HOK := hide hok;have HRD := hide hrd;have HT := hide ht;clear hby hrd hs hf hrz hok hd1 hd2 hd3 hd4 ht;go_enter Tryz.func8, Tryz.ntmps8
 go_wp2_with fail;refine (unhide HRD).mono ?_;rintro e w1 ⟨PA, n, c, rfl, hn, hP, hE1⟩;obtain ⟨W, H, S, O, ps⟩ := f;simp only at hn hP;have hal := (Below.refl w1.heap.size w1).alloc (Nat.le_refl _) (.cells #[.int .i64 W, .int .i64 H, .int .i64 S, .int .i64 O, .slice PA n c] 35);have HB1 := hide (hE1.trans (hal.mono hE1.size));have HK1 := hide ((Keeps.blk (Blk.new w1 35 (frmCells W H S O PA n c))).and (Keeps.passes (hP.keep hal)));have HN := hide hn;clear hE1 hP hal hn;by_cases hz0 : rz = 0
 ·have hok := HOK.out hz0
  have hd2 := HD2.out hz0;have hd3 := HD3.out hz0;have hd4 := HD4.out hz0;subst hz0;clear HD1 HD2 HD3 HD4 HOK HRD;by_cases hrm : 0 ≤ room ∧ room ≤ 4096
  ·obtain ⟨hr3, hr4⟩ := hrm
   have hd3 := hd3 ⟨hr3, hr4⟩;have hd4 := hd4 ⟨hr3, hr4⟩;clear hd2;have hcp := comp_plan hok;have hsh := fun (N : Nat) (h1 : N ≤ 4096) (h2 : peakOf ⟨W, H, S, O, ps⟩ (comp ⟨W, H, S, O, ps⟩) ≤ N) => comp_shown hok h1 h2;have hze := fun (N : Nat) (h1 : N ≤ 4096) (h2 : peakOf ⟨W, H, S, O, ps⟩ (comp ⟨W, H, S, O, ps⟩) ≤ N) => comp_runs hok h1 h2;have hcm := fun (W0 : World) (h1 : Passes W0 PA ps) => compile_any W H S O PA n c ps W0 HN.out h1;rw [frErr_zero.2 hok, hcp.1] at hcm;have hpk := fun (A : Option Addr) (a b : Nat) (B : Option Addr) (d m : Nat) (W0 : World) (h1 : Passes W0 PA ps) (h2 : Ints W0 A (comp ⟨W, H, S, O, ps⟩).Order) (h3 : (comp ⟨W, H, S, O, ps⟩).Order.length = a) (h4 : a ≤ 65536) (h6 : Ints W0 B (comp ⟨W, H, S, O, ps⟩).Places) (h7 : (comp ⟨W, H, S, O, ps⟩).Places.length = d) (h8 : d ≤ 65536) => planPeak_any W H S O PA n c ps A a b B d m (comp ⟨W, H, S, O, ps⟩) W0 HN.out h1 h2 h3 (by omega) h6 h7 (by omega);rw [hcp.2] at hpk
   have hlen : (comp ⟨W, H, S, O, ps⟩).Order.length ≤ 65536 ∧ (comp ⟨W, H, S, O, ps⟩).Places.length ≤ 65536 := by
    have h1 := compO_len hok;have h2 := hok.many;refine ⟨by show (compO _).length ≤ 65536; omega, ?_⟩
    show (placesTo _ (List.replicate _ (-1)) (compO _).length).length ≤ 65536
    rw [placesTo_len, List.length_replicate];omega
   obtain ⟨p, hp⟩ : ∃ p, comp ⟨W, H, S, O, ps⟩ = p := ⟨_, rfl⟩;rw [hp] at hsh hze hcm hpk hd3 hd4 hlen;obtain ⟨pk, hpkv⟩ : ∃ pk, peakOf ⟨W, H, S, O, ps⟩ p = pk := ⟨_, rfl⟩;rw [hpkv] at hsh hze hpk hd3 hd4;have HCM := hide hcm;have HPK := hide hpk;have HSH := hide hsh;have HZE := hide hze;have HD3 := hide hd3;have HD4 := hide hd4;have HLE := hide hlen;clear hcm hpk hsh hze hd3 hd4 hlen hp hpkv hcp hok;obtain ⟨x, q0, q1, q2, q3, q4⟩ := FrmBox.cells (show FrmBox _ _ W H S O PA n c from HK1.out.now.1);go_wp2_with fail;all_goals try (exfalso; omega)
   refine ((unhide HCM) _ HK1.out.now.2).mono ?_;rintro e w2 ⟨OA, on, oc, QA, qn, qc, rfl, hon, hqn, hO2, hQ2, hoc, -, -, -, hE2⟩;have hal : Below w2.heap.size w2 (w2.alloc (.cells #[.slice OA on oc, .slice QA qn qc] 56)) := (Below.refl _ _).alloc (Nat.le_refl _) _;have hE2a := hE2.trans (hal.mono hE2.size);have HB2 := hide (HB1.out.trans (hE2a.mono HB1.out.size));have HK2 := hide ((HK1.out.move hE2a).and ((Keeps.blk (Blk.new w2 56 [.slice OA on oc, .slice QA qn qc])).and ((Keeps.ints (hO2.keep hal)).and (Keeps.ints (hQ2.keep hal)))));have HT2 := hide (HT.out.keep (HB2.out));have hon2 : on ≤ 65536 := by have := HLE.out.1; omega
   have hqn2 : qn ≤ 65536 := by have := HLE.out.2; omega
   have HON := hide hon;have HQN := hide hqn;clear hO2 hQ2 hE2 hE2a hal hon hqn HB1 HK1 HT x q0 q1 q2 q3 q4 HCM HLE;obtain ⟨x, q0, q1, q2, q3, q4⟩ := FrmBox.cells (show FrmBox _ _ W H S O PA n c from HK2.out.now.1.1);obtain ⟨y, r0, r1⟩ := plan_box HK2.out.now.2.1;go_wp2_with fail;refine ((unhide HPK) OA on oc QA qn qc _ HK2.out.now.1.2 HK2.out.now.2.2.1 HON.out hon2 HK2.out.now.2.2.2 HQN.out hqn2).mono ?_;rintro e w3 ⟨rfl, hE3⟩;have HB3 := hide (HB2.out.trans (hE3.mono HB2.out.size));have HK3 := hide (HK2.out.move hE3);have HT3 := hide (HT2.out.keep hE3);clear hE3 HB2 HK2 HT2 x q0 q1 q2 q3 q4 y r0 r1 HPK;by_cases hpr : room < pk
   ·have hpr2 : pk > room := hpr
    go_wp2_with fail;go_ret2;rw [HD3.out hpr, draw_stop (HD3.out hpr) (by omega)];exact ⟨rfl, HB3.out⟩
   ·obtain ⟨N, rfl⟩ : ∃ N : Nat, room = (N : Int) := ⟨room.toNat, by omega⟩
    have hd4 := HD4.out (by omega);have hsh := HSH.out N (by omega) (by omega);have hze := HZE.out N (by omega) (by omega)
    have HRU := hide (fun (g : Nat) (W0 : World) (hw : Below w3.heap.size w3 W0) (h4 : Ints W0 (some ⟨g, 0, none⟩) (List.replicate N 0)) => (show Calls Tryz.prog 23 #[.agg #[.int .i64 W, .int .i64 H, .int .i64 S, .int .i64 O, .slice PA n c], .agg #[.slice OA on oc, .slice QA qn qc], .slice (some ⟨g, 0, none⟩) N N] W0 (RetImgErr W0 (frAns ⟨W, H, S, O, ps⟩) 0) from by
     have h := execRun_any W H S O PA n c ps OA on oc QA qn qc p (some ⟨g, 0, none⟩) N N (List.replicate N 0) W0 HN.out (HK3.out.later _ hw).1.2 (HK3.out.later _ hw).2.2.1 HON.out (by omega) hoc (HK3.out.later _ hw).2.2.2 HQN.out (by omega) h4 (by simp) (by omega);rw [hsh.1, hze] at h
     exact h))
    have hshF : (frAns ⟨W, H, S, O, ps⟩).Fine := by rw [hsh.2.1]; exact hsh.2.2
    obtain ⟨fa, hfa⟩ : ∃ fa, frAns ⟨W, H, S, O, ps⟩ = fa := ⟨_, rfl⟩;rw [hfa] at HRU hshF hd4;have HFI := hide hshF;have HD4 := hide hd4;clear hd4 hsh hze hshF hfa HSH HZE HD3;obtain ⟨i0, hi0, hz0, hz1, hz2⟩ := info_parts Tryz.info3;have hmk := fun (W0 : World) => run_make_ints (P := Tryz.prog) 22 3 i0 Tryz.underlying22 hi0 hz0 hz1 hz2 (N : Int) N rfl (by omega) W0;obtain ⟨x, q0, q1, q2, q3, q4⟩ := FrmBox.cells (show FrmBox _ _ W H S O PA n c from HK3.out.now.1.1);obtain ⟨y, r0, r1⟩ := plan_box HK3.out.now.2.1;have hS00 : MemD w1.heap.size w2.heap.size W H S O PA n c OA on oc QA qn qc w3.drew := ⟨⟨q0, q1, q2, q3, q4⟩, ⟨r0, r1⟩⟩;go_upto_region 10 with fail
    go_cut [7, 12] (fun s7 s12 wx => ∃ (gg n9 c9 : Nat) (A9 : Option Addr), s7 = .int .i64 0 ∧ s12 = .pointer (some ⟨gg, 0, none⟩) ∧ Hid (ImgBox wx gg fa.W fa.H A9 n9 c9) ∧ Hid (Ints wx A9 fa.P) ∧ Hid (fa.P.length = n9) ∧ Hid (Below w3.heap.size w3 wx))
    case first =>
     have hS0 := hS00;refine wp_region_B (MemD w1.heap.size w2.heap.size W H S O PA n c OA on oc QA qn qc) (fun i => i == 9) (by kernel_rfl) ?_;refine AnyB.tk (i:=0) (.agg #[.int .i64 W, .int .i64 H, .int .i64 S, .int .i64 O, .slice PA n c]) rfl (by kernel_rfl) (fun w' hS'=>?_) hS0 ?_
     ·obtain ⟨⟨e0, e1, e2, e3, e4⟩, ⟨e5, e6⟩⟩ := hS'
      go_simp
     try simp only [Act.put,lsa]
     refine AnyB.tk (i:=1) (.agg #[.slice OA on oc, .slice QA qn qc]) rfl (by kernel_rfl) (fun w' hS'=>?_) hS0 ?_
     ·obtain ⟨⟨e0, e1, e2, e3, e4⟩, ⟨e5, e6⟩⟩ := hS'
      go_simp
     try simp only [Act.put]
     refine AnyB.fr (i:=2) (.int .i64 (N : Int)) rfl (by kernel_rfl) (fun w'=>?_) ?_
     ·go_simp
     try simp only [Act.put]
     refine AnyB.two (i := 3) (j := 8) (by kernel_rfl) rfl rfl (fun K hK => ?_) (fun K hK => ?_)
     ·go_simp
      refine hK.out _ _ (fun _ hs => hs.keep ((Below.refl _ _).alloc (Nat.le_refl _) _)) ?_;clear hK K;try simp only [Act.put,lsa,lsz,lss]
      refine AnyB.two (i := 4) (j := 8) (by kernel_rfl) rfl rfl (fun K hK => ?_) (fun K hK => ?_)
      ·go_simp
       go_at_call 23;refine ((unhide HRU) _ _ ((Below.refl w3.heap.size w3).drew.alloc (Nat.le_refl _) (.cells (List.replicate N (Value.int .i64 0)).toArray 3)) (ints_zero w3.drew N)).mono ?_;rintro e w5 ⟨U5, V5, P5, A5, m5, d5, hr5, hm5, rfl, hI5, hM5, hE5⟩;subst hr5;refine hK.out _ _ (fun _ hs => hs.keep hE5) ?_;clear hK K;try simp only [Act.put,lsa,lsz,lss]
       refine AnyB.fr (i:=5) (.tuple #[.agg #[.int .i64 U5, .int .i64 V5, .slice A5 m5 d5], .int .i64 0]) rfl (by kernel_rfl) (fun w'=>?_) ?_
       ·go_simp
       try simp only [Act.put,lsa]
       refine AnyB.fr (i:=6) (.agg #[.int .i64 U5, .int .i64 V5, .slice A5 m5 d5]) rfl (by kernel_rfl) (fun w'=>?_) ?_
       ·go_simp
       try simp only [Act.put]
       refine AnyB.fr (i:=7) (.int .i64 0) rfl (by kernel_rfl) (fun w'=>?_) ?_
       ·go_simp
       try simp only [Act.put]
       refine AnyB.one (i := 8) (by kernel_rfl) rfl (fun K hK => ?_)
       go_simp;refine hK.out _ _ (fun _ hs => hs.keep ((Below.refl _ _).alloc (Nat.le_refl _) _)) ?_;clear hK K;try simp only [Act.put,lsa,lsz,lss]
       have hB5 : Below w3.heap.size w3 w5 := ((Below.refl w3.heap.size w3).drew.alloc (Nat.le_refl _) (.cells (List.replicate N (Value.int .i64 0)).toArray 3)).trans (hE5.mono (by simp only [World.size_alloc, World.size_drew]; omega));refine AnyB.one (i := 9) (by kernel_rfl) rfl (fun K hK => ?_)
       go_simp;refine hK.out _ _ (fun h => by cases h) ?_;clear hK K;try simp only [Act.put,lsa,lsz,lss]
       refine AnyB.fr (i:=10) (.int .i64 0) rfl (by kernel_rfl) (fun w'=>?_) ?_
       ·go_simp
       try simp only [Act.put,lsa]
       refine AnyB.done (by kernel_rfl) ?_;go_wp2_with fail;go_meet
       have hbx := Blk.new w5 24 [.int .i64 U5, .int .i64 V5, .slice A5 m5 d5];have hbe : Below w5.heap.size w5 (w5.alloc (.cells #[.int .i64 U5, .int .i64 V5, .slice A5 m5 d5] 24)) := (Below.refl _ _).alloc (Nat.le_refl _) _;exact ⟨w5.heap.size, m5, d5, A5, rfl, rfl, hide hbx, hide (hI5.keep hbe), hide hm5, hide (hB5.trans (hbe.mono hB5.size))⟩
      ·go_simp
       refine hK.out _ _ (fun _ hs => hs.keep ((Below.refl _ _).alloc (Nat.le_refl _) _)) ?_;clear hK K;try simp only [Act.put,lsa,lsz,lss]
       refine AnyB.one (i := 4) (by kernel_rfl) rfl (fun K hK => ?_)
       go_simp;go_at_call 23;refine ((unhide HRU) _ _ (((Below.refl w3.heap.size w3).drew.alloc (Nat.le_refl _) (.cells (List.replicate N (Value.int .i64 0)).toArray 3)).alloc (by simp only [World.size_alloc, World.size_drew]; omega) (.cells #[.int .i64 0, .int .i64 0, .slice none 0 0] 24)) ((ints_zero w3.drew N).keep ((Below.refl _ _).alloc (Nat.le_refl _) _))).mono ?_;rintro e w5 ⟨U5, V5, P5, A5, m5, d5, hr5, hm5, rfl, hI5, hM5, hE5⟩;subst hr5;refine hK.out _ _ (fun _ hs => hs.keep hE5) ?_;clear hK K;try simp only [Act.put,lsa,lsz,lss]
       refine AnyB.fr (i:=5) (.tuple #[.agg #[.int .i64 U5, .int .i64 V5, .slice A5 m5 d5], .int .i64 0]) rfl (by kernel_rfl) (fun w'=>?_) ?_
       ·go_simp
       try simp only [Act.put,lsa]
       refine AnyB.fr (i:=6) (.agg #[.int .i64 U5, .int .i64 V5, .slice A5 m5 d5]) rfl (by kernel_rfl) (fun w'=>?_) ?_
       ·go_simp
       try simp only [Act.put]
       refine AnyB.fr (i:=7) (.int .i64 0) rfl (by kernel_rfl) (fun w'=>?_) ?_
       ·go_simp
       try simp only [Act.put]
       have hB5 : Below w3.heap.size w3 w5 := (((Below.refl w3.heap.size w3).drew.alloc (Nat.le_refl _) (.cells (List.replicate N (Value.int .i64 0)).toArray 3)).alloc (by simp only [World.size_alloc, World.size_drew]; omega) (.cells #[.int .i64 0, .int .i64 0, .slice none 0 0] 24)).trans (hE5.mono (by simp only [World.size_alloc, World.size_drew]; omega));have hbk := (show Blk ((w3.drew.alloc (.cells (List.replicate N (Value.int .i64 0)).toArray 3)).alloc (.cells #[.int .i64 0, .int .i64 0, .slice none 0 0] 24)) (w3.heap.size + 1) 24 [.int .i64 0, .int .i64 0, .slice none 0 0] from Blk.newE (by simp)).keep hE5;have z0 : w5.cell? ⟨(w3.heap.size + 1), 0, none⟩ = some (.int .i64 0) := (hbk.cell 0).trans rfl;have z1 : w5.cell? ⟨(w3.heap.size + 1), 1, none⟩ = some (.int .i64 0) := (hbk.cell 1).trans rfl;have z2 : w5.cell? ⟨(w3.heap.size + 1), 2, none⟩ = some (.slice none 0 0) := (hbk.cell 2).trans rfl;have z3 := hbk.lt;have z4 := hbk.frozen 0;have z5 := hbk.frozen 1;have z6 := hbk.frozen 2;refine AnyB.one (i := 9) (by kernel_rfl) rfl (fun K hK => ?_)
       go_simp;refine hK.out _ _ (fun h => by cases h) ?_;clear hK K;try simp only [Act.put,lsa,lsz,lss]
       refine AnyB.fr (i:=10) (.int .i64 0) rfl (by kernel_rfl) (fun w'=>?_) ?_
       ·go_simp
       try simp only [Act.put,lsa]
       refine AnyB.done (by kernel_rfl) ?_;go_wp2_with fail;go_meet
       have hbx := ((hbk.set_ 0 (.int .i64 U5)).set_ 1 (.int .i64 V5)).set_ 2 (.slice A5 m5 d5);have hbe : Below w3.heap.size w3 (((w5.setCell ⟨(w3.heap.size + 1), 0, none⟩ (.int .i64 U5)).setCell ⟨(w3.heap.size + 1), 1, none⟩ (.int .i64 V5)).setCell ⟨(w3.heap.size + 1), 2, none⟩ (.slice A5 m5 d5)) := ((hB5.setCell (p := ⟨(w3.heap.size + 1), 0, none⟩) (by show w3.heap.size ≤ (w3.heap.size + 1); omega) _).setCell (p := ⟨(w3.heap.size + 1), 1, none⟩) (by show w3.heap.size ≤ (w3.heap.size + 1); omega) _).setCell (p := ⟨(w3.heap.size + 1), 2, none⟩) (by show w3.heap.size ≤ (w3.heap.size + 1); omega) _;have hlt : (w3.heap.size + 1) < ((w3.drew.alloc (.cells (List.replicate N (Value.int .i64 0)).toArray 3)).alloc (.cells #[.int .i64 0, .int .i64 0, .slice none 0 0] 24)).heap.size := by simp only [World.size_alloc, World.size_drew]; omega
       exact ⟨(w3.heap.size + 1), m5, d5, A5, rfl, rfl, hide hbx, hide (((hI5.far hM5.new (p := ⟨(w3.heap.size + 1), 0, none⟩) hlt _).far hM5.new (p := ⟨(w3.heap.size + 1), 1, none⟩) hlt _).far hM5.new (p := ⟨(w3.heap.size + 1), 2, none⟩) hlt _), hide hm5, hide hbe⟩
     ·go_simp
      refine hK.out _ _ (fun _ hs => hs.keep ((Below.refl _ _).alloc (Nat.le_refl _) _)) ?_;clear hK K;try simp only [Act.put,lsa,lsz,lss]
      refine AnyB.one (i := 3) (by kernel_rfl) rfl (fun K hK => ?_)
      go_simp;refine hK.out _ _ (fun _ hs => hs.keep ((Below.refl _ _).alloc (Nat.le_refl _) _)) ?_;clear hK K;try simp only [Act.put,lsa,lsz,lss]
      refine AnyB.one (i := 4) (by kernel_rfl) rfl (fun K hK => ?_)
      go_simp;go_at_call 23;refine ((unhide HRU) _ _ (((Below.refl w3.heap.size w3).drew.alloc (Nat.le_refl _) (.cells #[.int .i64 0, .int .i64 0, .slice none 0 0] 24)).alloc (by simp only [World.size_alloc, World.size_drew]; omega) (.cells (List.replicate N (Value.int .i64 0)).toArray 3)) (by have h := ints_zero (w3.drew.alloc (.cells #[.int .i64 0, .int .i64 0, .slice none 0 0] 24)) N; simpa using h)).mono ?_;rintro e w5 ⟨U5, V5, P5, A5, m5, d5, hr5, hm5, rfl, hI5, hM5, hE5⟩;subst hr5;refine hK.out _ _ (fun _ hs => hs.keep hE5) ?_;clear hK K;try simp only [Act.put,lsa,lsz,lss]
      refine AnyB.fr (i:=5) (.tuple #[.agg #[.int .i64 U5, .int .i64 V5, .slice A5 m5 d5], .int .i64 0]) rfl (by kernel_rfl) (fun w'=>?_) ?_
      ·go_simp
      try simp only [Act.put,lsa]
      refine AnyB.fr (i:=6) (.agg #[.int .i64 U5, .int .i64 V5, .slice A5 m5 d5]) rfl (by kernel_rfl) (fun w'=>?_) ?_
      ·go_simp
      try simp only [Act.put]
      refine AnyB.fr (i:=7) (.int .i64 0) rfl (by kernel_rfl) (fun w'=>?_) ?_
      ·go_simp
      try simp only [Act.put]
      have hB5 : Below w3.heap.size w3 w5 := (((Below.refl w3.heap.size w3).drew.alloc (Nat.le_refl _) (.cells #[.int .i64 0, .int .i64 0, .slice none 0 0] 24)).alloc (by simp only [World.size_alloc, World.size_drew]; omega) (.cells (List.replicate N (Value.int .i64 0)).toArray 3)).trans (hE5.mono (by simp only [World.size_alloc, World.size_drew]; omega));have hbk := (show Blk ((w3.drew.alloc (.cells #[.int .i64 0, .int .i64 0, .slice none 0 0] 24)).alloc (.cells (List.replicate N (Value.int .i64 0)).toArray 3)) w3.heap.size 24 [.int .i64 0, .int .i64 0, .slice none 0 0] from (Blk.new w3.drew 24 [.int .i64 0, .int .i64 0, .slice none 0 0]).alloc _).keep hE5;have z0 : w5.cell? ⟨w3.heap.size, 0, none⟩ = some (.int .i64 0) := (hbk.cell 0).trans rfl;have z1 : w5.cell? ⟨w3.heap.size, 1, none⟩ = some (.int .i64 0) := (hbk.cell 1).trans rfl;have z2 : w5.cell? ⟨w3.heap.size, 2, none⟩ = some (.slice none 0 0) := (hbk.cell 2).trans rfl;have z3 := hbk.lt;have z4 := hbk.frozen 0;have z5 := hbk.frozen 1;have z6 := hbk.frozen 2;refine AnyB.one (i := 9) (by kernel_rfl) rfl (fun K hK => ?_)
      go_simp;refine hK.out _ _ (fun h => by cases h) ?_;clear hK K;try simp only [Act.put,lsa,lsz,lss]
      refine AnyB.fr (i:=10) (.int .i64 0) rfl (by kernel_rfl) (fun w'=>?_) ?_
      ·go_simp
      try simp only [Act.put,lsa]
      refine AnyB.done (by kernel_rfl) ?_;go_wp2_with fail;go_meet
      have hbx := ((hbk.set_ 0 (.int .i64 U5)).set_ 1 (.int .i64 V5)).set_ 2 (.slice A5 m5 d5);have hbe : Below w3.heap.size w3 (((w5.setCell ⟨w3.heap.size, 0, none⟩ (.int .i64 U5)).setCell ⟨w3.heap.size, 1, none⟩ (.int .i64 V5)).setCell ⟨w3.heap.size, 2, none⟩ (.slice A5 m5 d5)) := ((hB5.setCell (p := ⟨w3.heap.size, 0, none⟩) (by show w3.heap.size ≤ w3.heap.size; omega) _).setCell (p := ⟨w3.heap.size, 1, none⟩) (by show w3.heap.size ≤ w3.heap.size; omega) _).setCell (p := ⟨w3.heap.size, 2, none⟩) (by show w3.heap.size ≤ w3.heap.size; omega) _;have hlt : w3.heap.size < ((w3.drew.alloc (.cells #[.int .i64 0, .int .i64 0, .slice none 0 0] 24)).alloc (.cells (List.replicate N (Value.int .i64 0)).toArray 3)).heap.size := by simp only [World.size_alloc, World.size_drew]; omega
      exact ⟨w3.heap.size, m5, d5, A5, rfl, rfl, hide hbx, hide (((hI5.far hM5.new (p := ⟨w3.heap.size, 0, none⟩) hlt _).far hM5.new (p := ⟨w3.heap.size, 1, none⟩) hlt _).far hM5.new (p := ⟨w3.heap.size, 2, none⟩) hlt _), hide hm5, hide hbe⟩
    case rest =>
     obtain ⟨gg, n9, c9, A9, rfl, rfl, HX9, HI9, HN9, HB9⟩ := hcut;have HB10 := hide (HB3.out.trans (HB9.out.mono HB3.out.size));have hsh := show_any fa.W fa.H A9 n9 c9 fa.P wc HN9.out HI9.out (by have := fine_few HFI.out; have := HN9.out; omega) (HT3.out.keep HB9.out);rw [show showAns ⟨fa.W, fa.H, fa.P⟩ = showTxt fa from if_pos HFI.out, show showErr ⟨fa.W, fa.H, fa.P⟩ = 0 from if_pos HFI.out] at hsh;obtain ⟨k0, k1, k2, k3⟩ := ImgBox.cells HX9.out;have HSH := hide hsh;clear hsh HX9 HI9 HRU HK3 hS00 x q0 q1 q2 q3 q4 y r0 r1 hmk;go_wp2_with fail;refine (unhide HSH).mono ?_;rintro e w6 ⟨rfl, hE6⟩;go_wp2_with fail;go_ret2;rw [HD4.out.1, HD4.out.2];exact ⟨rfl, HB10.out.trans (hE6.mono HB10.out.size)⟩
  ·have HD5 := hide (hd2 hrm)
   clear hd2 hd3 hd4;go_wp2_with fail;all_goals try (exfalso; omega)
   all_goals go_ret2
   all_goals rw [HD5.out, draw_stop HD5.out (by omega)]
   all_goals exact ⟨rfl, HB1.out⟩
 ·have hzb : (rz != 0) = true := by simpa using hz0
  go_wp2_with fail;go_ret2;rw [HD1.out hz0, draw_stop (HD1.out hz0) hz0];exact ⟨rfl, HB1.out⟩
end Go.Proofs.YtibpmogmeoappaaGreatDoor
