/- Walks: passError (all classes), sizeOf. -/
import Derived.Test.YtibpmogmeoappacGreatJPlain
import Derived.Test.YtibpmogmeoappacGreatJFrmB1
import Derived.Test.YtibpmogmeoappacGreatJFrmB2
import Derived.Test.YtibpmogmeoappacGreatJFrmB3
import Derived.Test.YtibpmogmeoappacGreatJFrmB4
import Derived.Test.YtibpmogmeoappacGreatJFrmB5
import Derived.Test.YtibpmogmeoappacGreatJImgG
import Derived.Test.YtibpmogmeoappacGreatJMem
import Derived.Test.YtibpmogmeoappacGreatJImgA
import Derived.Test.YtibpmogmeoappacGreatJLitA
namespace Go.Proofs.YtibpmogmeoappacGreat
open Go.RowKit

theorem keepC {w w' : World} (hb : Below w.heap.size w w') {b o : Nat} {v : Value} (h : w.cell? ⟨b, o, none⟩ = some v) : w'.cell? ⟨b, o, none⟩ = some v := by rw [(bcell hb).1 b o (World.block_lt_of_cell? w _ h)]; exact h
theorem op_cases {op : Int} (h : inR op 1 13 = true) : op = 1 ∨ op = 2 ∨ op = 3 ∨ op = 4 ∨ op = 5 ∨ op = 6 ∨ op = 7 ∨ op = 8 ∨ op = 9 ∨ op = 10 ∨ op = 11 ∨ op = 12 ∨ op = 13 := by
  have := inR_iff.1 h; omega
/-- the classes of operations -/
theorem op_class {op : Int} (h : inR op 1 13 = true) :
    (hasA op = false ∧ hasB op = false ∧ hasK op = true ∧ hasL op = false ∧ ¬ op = 11 ∧ ¬ op = 12 ∧ (op = 1 ∨ op = 2)) ∨
    (hasA op = true ∧ hasB op = false ∧ hasK op = false ∧ hasL op = false ∧ (op = 11 ∨ op = 12 ∨ (¬ op = 11 ∧ ¬ op = 12)) ∧ (op = 3 ∨ op = 10 ∨ op = 11 ∨ op = 12)) ∨
    (hasA op = true ∧ hasB op = false ∧ hasK op = true ∧ hasL op = false ∧ ¬ op = 11 ∧ ¬ op = 12 ∧ (op = 8 ∨ op = 9)) ∨
    (hasA op = true ∧ hasB op = true ∧ hasK op = false ∧ hasL op = false ∧ ¬ op = 11 ∧ ¬ op = 12 ∧ (4 ≤ op ∧ op ≤ 7)) ∨
    (hasA op = true ∧ hasB op = false ∧ hasK op = true ∧ hasL op = true ∧ ¬ op = 11 ∧ ¬ op = 12 ∧ op = 13) := by
  rcases op_cases h with rfl | rfl | rfl | rfl | rfl | rfl | rfl | rfl | rfl | rfl | rfl | rfl | rfl <;> decide

def RetSz (w : World) (s : Sz) (e : Ending) (w' : World) : Prop := e = .returned (.agg #[.int .i64 s.W, .int .i64 s.H]) ∧ Below w.heap.size w w'
end Go.Proofs.YtibpmogmeoappacGreat

/- Walks: CheckFrame. -/
namespace Go.Proofs.YtibpmogmeoappacGreat
open Go.RowKit

theorem flat_set (st : List Sz) (i : Nat) (s : Sz) (hi : i < st.length) : (st.set i s).flatMap szCells = ((st.flatMap szCells).set (i * 2) (.int .i64 s.W)).set (i * 2 + 1) (.int .i64 s.H) := by
  induction st generalizing i with
  | nil => simp at hi
  | cons x xs ih =>
    cases i with
    | zero => simp [szCells]
    | succ i =>
      have hi' : i < xs.length := by simpa using hi
      rw [List.set_cons_succ, List.flatMap_cons, ih i hi', List.flatMap_cons]
      rw [show (i + 1) * 2 = i * 2 + 2 by omega, show i * 2 + 2 + 1 = (i * 2 + 1) + 2 by omega]
      rfl
theorem Tryz.info76 : (Tryz.prog.info? 76).map (fun i => (i.zero, i.size, i.bytes)) = some (some (.agg #[.int .i64 0, .int .i64 0]), 2, 16) := by kernel_rfl
theorem sz_one (s : Sz) : ∀ u ∈ szCells s, u.oneCell' = true := by
  intro u hu
  simp only [szCells, List.mem_cons, List.not_mem_nil, or_false] at hu
  rcases hu with rfl | rfl <;> rfl
theorem flat_replicate (N : Nat) : (List.replicate N (⟨0, 0⟩ : Sz)).flatMap szCells = List.replicate (N * 2) (.int .i64 0) := by
  induction N with
  | zero => rfl
  | succ N ih => rw [List.replicate_succ, List.flatMap_cons, ih, Nat.succ_mul, show N * 2 + 2 = (N * 2) + 1 + 1 by omega, List.replicate_succ, List.replicate_succ]; rfl
/-- make of a row of sizes -/
theorem run_make_sizes (i : TypeInfo) (hi : Tryz.prog.info? 76 = some i) (hz : i.zero = some (.agg #[.int .i64 0, .int .i64 0])) (hs : i.size = 2) (hb : i.bytes = 16) (S : Int) (h0 : 0 ≤ S) (h1 : S ≤ 65536) (w : World) :
    (Instr.makeSlice 43 (.int .i64 S) (.int .i64 S)).run Tryz.prog w = .ok (.slice (some ⟨w.heap.size, 0, none⟩) S.toNat S.toNat) (w.alloc (.cells ((List.replicate S.toNat (⟨0, 0⟩ : Sz)).flatMap szCells).toArray 76)) := by
  obtain ⟨N, rfl⟩ := Int.eq_ofNat_of_zero_le h0
  have hr := run_make (P := Tryz.prog) w 43 76 i (.agg #[.int .i64 0, .int .i64 0]) Tryz.underlying43 hi hz .i64 .i64 (N : Int) (N : Int) (by omega) (by omega) (by rw [hb]; omega) (by omega)
  simp only [Int.toNat_natCast] at hr
  rw [hr, hs, Int.toNat_natCast, flat_replicate]
  have e1 : madeCells (Value.agg #[.int .i64 0, .int .i64 0]).cells (N * 2) = (List.replicate (N * 2) (Value.int .i64 0)).toArray := by
    apply Array.ext
    · simp [madeCells, Value.cells]
    · intro j h1 h2
      have hj : j % 2 = 0 ∨ j % 2 = 1 := by omega
      simp only [madeCells, Value.cells] at h1 ⊢
      rcases hj with hj | hj <;> simp [hj]
  rw [e1]

/-- what comes is a list of sizes and an error's number -/
def RetSzs (w : World) (L : List Sz) (z : Int) (e : Ending) (w' : World) : Prop :=
  ∃ (A : Option Addr) (n c : Nat), e = .returned (.tuple #[.slice A n c, .int .i64 z]) ∧ L.length = n ∧ Sizes w' A L ∧ Below w.heap.size w w'
theorem frErr_range {f : Frm} (h : ¬ f.Bounds) : frErr f = 3 := by unfold frErr; rw [if_pos h]
theorem frErr_many {f : Frm} (h : f.Bounds) (hn : ¬ (1 ≤ f.P.length ∧ f.P.length ≤ 12)) : frErr f = 2 := by unfold frErr; rw [if_neg (by simpa using h), if_pos hn]
theorem frErr_pass {f : Frm} (h : f.Bounds) (hn : 1 ≤ f.P.length ∧ f.P.length ≤ 12) {k : Nat} (hk : k < f.P.length) (h0 : frErrTo f k = 0) (he : passErr f.S (f.pas k) (frSt f k) ≠ 0) : frErr f = passErr f.S (f.pas k) (frSt f k) := by
  have h1 := frErrTo_succ h0
  have h2 : frErrTo f f.P.length = passErr f.S (f.pas k) (frSt f k) := by rw [frErrTo_stop (k := k + 1) (by rw [h1]; exact he) hk, h1]
  unfold frErr; rw [if_neg (by simpa using h), if_neg (by simpa using hn), h2, if_pos he]
theorem frErr_end {f : Frm} (h : f.Bounds) (hn : 1 ≤ f.P.length ∧ f.P.length ≤ 12) (h0 : frErrTo f f.P.length = 0) : frErr f = if (szAt (frSt f f.P.length) f.O).W = 0 then 5 else 0 := by
  unfold frErr; rw [if_neg (by simpa using h), if_neg (by simpa using hn), h0]; rfl
theorem frSizes_no {f : Frm} (h : frErr f ≠ 0) : frSizes f = [] := if_neg h

/-- what the loop over passes keeps: sizes of k passes are told, j passes are stored -/
structure CfRel (w : World) (f : Frm) (PA : Option Addr) (n c : Nat) (k j : Nat) (A : Option Addr) (d : Nat) (wr : World) : Prop where
  own : Own wr (w.heap.size + 2) 76 2 A k d ((frAll f k).flatMap szCells)
  ins : Blk wr (w.heap.size + 1) 76 ((frSt f j).flatMap szCells)
  box : FrmBox wr w.heap.size f.W f.H f.S f.O PA n c
  size : w.heap.size + 2 ≤ wr.heap.size
  below : Below w.heap.size w wr
section
variable {w : World} {f : Frm} {PA : Option Addr} {n c k j d : Nat} {A : Option Addr} {wr w1 : World}
theorem CfRel.keep (h : CfRel w f PA n c k j A d wr) (hb : Below wr.heap.size wr w1) : CfRel w f PA n c k j A d w1 :=
  ⟨h.own.keep hb, h.ins.keep hb, Blk.keep h.box hb, Nat.le_trans h.size hb.size, h.below.trans (hb.mono h.below.size)⟩
/-- a pass: its slot's size is stored -/
theorem CfRel.store (h : CfRel w f PA n c k j A d wr) (hto : (f.pas j).To.toNat < (frSt f j).length) :
    CfRel w f PA n c k (j + 1) A d ((wr.setCell ⟨w.heap.size + 1, (f.pas j).To.toNat * 2, none⟩ (.int .i64 (frSize f j).W)).setCell ⟨w.heap.size + 1, (f.pas j).To.toNat * 2 + 1, none⟩ (.int .i64 (frSize f j).H)) := by
  have hins := (h.ins.set_ ((f.pas j).To.toNat * 2) (.int .i64 (frSize f j).W)).set_ ((f.pas j).To.toNat * 2 + 1) (.int .i64 (frSize f j).H)
  rw [← flat_set _ _ _ hto] at hins
  refine ⟨(h.own.far (p := ⟨w.heap.size + 1, _, none⟩) (by simp) _).far (p := ⟨w.heap.size + 1, _, none⟩) (by simp) _, hins, ?_, ?_, ?_⟩
  · exact (Blk.far h.box (p := ⟨w.heap.size + 1, (f.pas j).To.toNat * 2, none⟩) (by simp) (.int .i64 (frSize f j).W)).far (p := ⟨w.heap.size + 1, (f.pas j).To.toNat * 2 + 1, none⟩) (by simp) (.int .i64 (frSize f j).H)
  · have := h.size; simp only [World.setCell, Array.size_modify]; exact this
  · exact (h.below.setCell (p := ⟨w.heap.size + 1, (f.pas j).To.toNat * 2, none⟩) (by simp) (.int .i64 (frSize f j).W)).setCell (p := ⟨w.heap.size + 1, (f.pas j).To.toNat * 2 + 1, none⟩) (by simp) (.int .i64 (frSize f j).H)
/-- its size is appended -/
theorem CfRel.app (h : CfRel w f PA n c k j A d wr) {o : Obj} {A1 : Option Addr} {c1 : Nat} (hg : (wr.alloc o).grownBy w1 (Value.slice A k d).ownBlock)
    (ho : Own w1 (w.heap.size + 2) 76 2 A1 (k + 1) c1 ((frAll f k).flatMap szCells ++ szCells (frSize f k))) : CfRel w f PA n c (k + 1) j A1 c1 w1 := by
  have hs := h.size
  refine ⟨?_, (h.ins.alloc o).grown (h.own.alloc o) hg (by omega), (Blk.alloc h.box o).grown (h.own.alloc o) hg (by omega), ?_, ?_⟩
  · rw [frAll_succ, List.flatMap_append]; simpa using ho
  · have := hg.size; simp only [World.size_alloc] at this; omega
  · exact Below.grownOwn (h.below.alloc h.below.size o) (h.own.alloc o) hg (by simp only [World.size_alloc]; omega) (by omega)
end

end Go.Proofs.YtibpmogmeoappacGreat

/- Walks: writer, LastOf, SourcesOf. -/
namespace Go.Proofs.YtibpmogmeoappacGreat
open Go.RowKit

end Go.Proofs.YtibpmogmeoappacGreat

/- Walks: of, bounds, the closures of fields. -/
namespace Go.Proofs.YtibpmogmeoappacGreat
open Go.RowKit

def shapeV (op : Int) : Value := .agg #[.bool (hasA op), .bool (hasB op), .bool (hasK op), .bool (hasL op)]
def RetOf (op : Int) (w : World) (e : Ending) (w' : World) : Prop :=
  e = .returned (.tuple #[.agg #[.bool (inR op 1 13 && hasA op), .bool (inR op 1 13 && hasB op), .bool (inR op 1 13 && hasK op), .bool (inR op 1 13 && hasL op)], .bool (inR op 1 13)]) ∧ Below w.heap.size w w'
set_option maxRecDepth 100000 in
set_option maxHeartbeats 2000000 in
theorem of_any (op : Int) (w : World) : Calls Tryz.prog 69 #[.int .i64 op] w (RetOf op w) := by
  cases h : inR op 1 13 with
  | true =>
    have hc : (op = 1 ∨ op = 2) ∨ (op = 3 ∨ op = 10 ∨ op = 11 ∨ op = 12) ∨ (op = 8 ∨ op = 9) ∨ (op = 4 ∨ op = 5 ∨ op = 6 ∨ op = 7) ∨ (op = 13) := by have := inR_iff.1 h; omega
    clear h
    rcases hc with h | h | h | h | h
    · rcases h with rfl | rfl
      all_goals
        go_enter Tryz.func69, Tryz.ntmps69
        go_wp2_with fail
        refine bodyPost_ret (v := .tuple #[.agg #[.bool false, .bool false, .bool true, .bool false], .bool true]) (by simp [results, Tryz.results69, go_sem]) rfl ?_
        exact ⟨rfl, (Below.refl _ _).alloc (Nat.le_refl _) _⟩
    · rcases h with rfl | rfl | rfl | rfl
      all_goals
        go_enter Tryz.func69, Tryz.ntmps69
        go_wp2_with fail
        refine bodyPost_ret (v := .tuple #[.agg #[.bool true, .bool false, .bool false, .bool false], .bool true]) (by simp [results, Tryz.results69, go_sem]) rfl ?_
        exact ⟨rfl, (Below.refl _ _).alloc (Nat.le_refl _) _⟩
    · rcases h with rfl | rfl
      all_goals
        go_enter Tryz.func69, Tryz.ntmps69
        go_wp2_with fail
        refine bodyPost_ret (v := .tuple #[.agg #[.bool true, .bool false, .bool true, .bool false], .bool true]) (by simp [results, Tryz.results69, go_sem]) rfl ?_
        exact ⟨rfl, (Below.refl _ _).alloc (Nat.le_refl _) _⟩
    · rcases h with rfl | rfl | rfl | rfl
      all_goals
        go_enter Tryz.func69, Tryz.ntmps69
        go_wp2_with fail
        refine bodyPost_ret (v := .tuple #[.agg #[.bool true, .bool true, .bool false, .bool false], .bool true]) (by simp [results, Tryz.results69, go_sem]) rfl ?_
        exact ⟨rfl, (Below.refl _ _).alloc (Nat.le_refl _) _⟩
    · rcases h with rfl
      all_goals
        go_enter Tryz.func69, Tryz.ntmps69
        go_wp2_with fail
        refine bodyPost_ret (v := .tuple #[.agg #[.bool true, .bool false, .bool true, .bool true], .bool true]) (by simp [results, Tryz.results69, go_sem]) rfl ?_
        exact ⟨rfl, (Below.refl _ _).alloc (Nat.le_refl _) _⟩
  | false =>
    have hb := inR_not.1 h
    have e1 : (op == 1) = false := by simp; omega
    have e2 : (op == 2) = false := by simp; omega
    have e3 : (op == 3) = false := by simp; omega
    have e4 : (op == 4) = false := by simp; omega
    have e5 : (op == 5) = false := by simp; omega
    have e6 : (op == 6) = false := by simp; omega
    have e7 : (op == 7) = false := by simp; omega
    have e8 : (op == 8) = false := by simp; omega
    have e9 : (op == 9) = false := by simp; omega
    have e10 : (op == 10) = false := by simp; omega
    have e11 : (op == 11) = false := by simp; omega
    have e12 : (op == 12) = false := by simp; omega
    have e13 : (op == 13) = false := by simp; omega
    have HH := hide h
    clear h hb
    go_enter Tryz.func69, Tryz.ntmps69
    go_wp2_with fail
    refine bodyPost_ret (v := .tuple #[.agg #[.bool false, .bool false, .bool false, .bool false], .bool false]) (by simp [results, Tryz.results69, go_sem]) rfl ?_
    refine ⟨?_, (Below.refl _ _).alloc (Nat.le_refl _) _⟩
    rw [HH.out]
    rfl

def lowK (op : Int) : Int := if op = 9 then -16 else if op = 13 then 1 else 0
def highK (op : Int) : Int := if op = 9 then 16 else if op = 13 then 16 else 65535
def RetB2 (a b : Int) (w : World) (e : Ending) (w' : World) : Prop := e = .returned (.tuple #[.int .i64 a, .int .i64 b]) ∧ w = w'
theorem bounds_any (op : Int) (w : World) : Calls Tryz.prog 134 #[.int .i64 op] w (RetB2 (lowK op) (highK op) w) := by
  by_cases h9 : op = 9
  · subst h9
    go_enter Tryz.func134, Tryz.ntmps134
    go_wp2_with fail
    go_ret2
    exact ⟨rfl, rfl⟩
  · by_cases h13 : op = 13
    · subst h13
      go_enter Tryz.func134, Tryz.ntmps134
      go_wp2_with fail
      go_ret2
      exact ⟨rfl, rfl⟩
    · have e1 : (op == 9) = false := by simpa using h9
      have e2 : (op == 13) = false := by simpa using h13
      have H1 : Hid (lowK op = 0) := hide (by unfold lowK; rw [if_neg h9, if_neg h13])
      have H2 : Hid (highK op = 65535) := hide (by unfold highK; rw [if_neg h9, if_neg h13])
      clear h9 h13
      go_enter Tryz.func134, Tryz.ntmps134
      go_wp2_with fail
      go_ret2
      exact ⟨by rw [H1.out, H2.out]; rfl, rfl⟩
theorem kFine_low {op k : Int} (h0 : inR op 1 13 = true) (hk : hasK op = true) (h : k < lowK op) : kFineB op k = false := by
  rcases op_cases h0 with rfl | rfl | rfl | rfl | rfl | rfl | rfl | rfl | rfl | rfl | rfl | rfl | rfl <;> first | (exact absurd hk (by decide)) | (simp [lowK] at h; simp [kFineB, inR]; omega)
theorem kFine_high {op k : Int} (h0 : inR op 1 13 = true) (hk : hasK op = true) (h : highK op < k) : kFineB op k = false := by
  rcases op_cases h0 with rfl | rfl | rfl | rfl | rfl | rfl | rfl | rfl | rfl | rfl | rfl | rfl | rfl <;> first | (exact absurd hk (by decide)) | (simp [highK] at h; simp [kFineB, inR]; omega)
theorem kFine_in {op k : Int} (h0 : inR op 1 13 = true) (hk : hasK op = true) (h : lowK op ≤ k) (h' : k ≤ highK op) : kFineB op k = true := by
  rcases op_cases h0 with rfl | rfl | rfl | rfl | rfl | rfl | rfl | rfl | rfl | rfl | rfl | rfl | rfl <;> first | (exact absurd hk (by decide)) | (simp [lowK, highK] at h h'; simp [kFineB, inR]; omega)
theorem kFine_none {op k : Int} (h0 : inR op 1 13 = true) (hk : hasK op = false) : kFineB op k = true := by
  rcases op_cases h0 with rfl | rfl | rfl | rfl | rfl | rfl | rfl | rfl | rfl | rfl | rfl | rfl | rfl <;> first | (exact absurd hk (by decide)) | rfl

/-- the cells of the struct 'walk' -/
def walkCells (W H S O : Int) (PA : Option Addr) (n c : Nat) (SA : Option Addr) (N cN : Nat) (MA : Option Addr) (M cM : Nat) : List Value :=
  [.int .i64 W, .int .i64 H, .int .i64 S, .int .i64 O, .slice PA n c, .slice SA N cN, .slice MA M cM]
def WalkBox (w : World) (g : Nat) (W H S O : Int) (PA : Option Addr) (n c : Nat) (SA : Option Addr) (N cN : Nat) (MA : Option Addr) (M cM : Nat) : Prop := Blk w g 152 (walkCells W H S O PA n c SA N cN MA M cM)
theorem WalkBox.cells {w : World} {g : Nat} {W H S O : Int} {PA : Option Addr} {n c : Nat} {SA : Option Addr} {N cN : Nat} {MA : Option Addr} {M cM : Nat} (h : WalkBox w g W H S O PA n c SA N cN MA M cM) :
    g < w.heap.size ∧ w.cell? ⟨g, 0, none⟩ = some (.int .i64 W) ∧ w.cell? ⟨g, 1, none⟩ = some (.int .i64 H) ∧ w.cell? ⟨g, 2, none⟩ = some (.int .i64 S) ∧ w.cell? ⟨g, 3, none⟩ = some (.int .i64 O) ∧ w.cell? ⟨g, 4, none⟩ = some (.slice PA n c) ∧ w.cell? ⟨g, 5, none⟩ = some (.slice SA N cN) ∧ w.cell? ⟨g, 6, none⟩ = some (.slice MA M cM) :=
  ⟨h.lt, by rw [Blk.cell h]; rfl, by rw [Blk.cell h]; rfl, by rw [Blk.cell h]; rfl, by rw [Blk.cell h]; rfl, by rw [Blk.cell h]; rfl, by rw [Blk.cell h]; rfl, by rw [Blk.cell h]; rfl⟩

theorem fslot_no (x : Int) (gv : Nat) (w : World) : Calls Tryz.prog 133 #[.int .i64 x, .bool false, .pointer (some ⟨gv, 0, none⟩)] w fun e w' => e = .returned (.bool true) ∧ w = w' := by
  go_enter Tryz.func133, Tryz.ntmps133
  go_wp2_with fail
  go_ret
  exact ⟨rfl, rfl⟩
theorem fslot_yes (x S : Int) (gv g : Nat) (w : World) (hv : w.cell? ⟨gv, 0, none⟩ = some (.pointer (some ⟨g, 0, none⟩))) (hs : w.cell? ⟨g, 2, none⟩ = some (.int .i64 S)) :
    Calls Tryz.prog 133 #[.int .i64 x, .bool true, .pointer (some ⟨gv, 0, none⟩)] w fun e w' => e = .returned (.bool (slotIn S x)) ∧ w = w' := by
  by_cases h0 : 0 ≤ x
  · by_cases h1 : x < S
    · have e : slotIn S x = true := inR_iff.2 (by omega)
      rw [e]
      clear e
      go_enter Tryz.func133, Tryz.ntmps133
      go_wp2_with fail
      go_ret
      exact ⟨rfl, rfl⟩
    · have e : slotIn S x = false := inR_not.2 (by omega)
      rw [e]
      clear e
      go_enter Tryz.func133, Tryz.ntmps133
      go_wp2_with fail
      go_ret
      exact ⟨rfl, rfl⟩
  · have e : slotIn S x = false := inR_not.2 (by omega)
    rw [e]
    clear e
    go_enter Tryz.func133, Tryz.ntmps133
    go_wp2_with fail
    go_ret
    exact ⟨rfl, rfl⟩
theorem fnone_has (x : Int) (w : World) : Calls Tryz.prog 135 #[.int .i64 x, .bool true] w fun e w' => e = .returned (.bool true) ∧ w = w' := by
  go_enter Tryz.func135, Tryz.ntmps135
  go_wp2_with fail
  go_ret
  exact ⟨rfl, rfl⟩
theorem fnone_not (x : Int) (w : World) : Calls Tryz.prog 135 #[.int .i64 x, .bool false] w fun e w' => e = .returned (.bool (x == 0)) ∧ w = w' := by
  go_enter Tryz.func135, Tryz.ntmps135
  go_wp2_with fail
  all_goals
    go_ret
    exact ⟨rfl, rfl⟩
end Go.Proofs.YtibpmogmeoappacGreat

/- Walks: fields. (Printed by gen_fields.py.) -/
namespace Go.Proofs.YtibpmogmeoappacGreat
open Go.RowKit

/-- what fields keeps: the struct 'walk', the box of its pointer, the pass, the lights -/
def FieldMem (w : World) (g : Nat) (wc : List Value) (p : Pas) (LA : Option Addr) (m d : Nat) (W' : World) : Prop :=
  Blk W' g 152 wc ∧ Blk W' w.heap.size 150 [.pointer (some ⟨g, 0, none⟩)] ∧ PasBox W' (w.heap.size + 1) p LA m d ∧ Lamps W' LA p.L ∧ Below w.heap.size w W'
theorem FieldMem.keep {w : World} {g : Nat} {wc : List Value} {p : Pas} {LA : Option Addr} {m d : Nat} {w1 w2 : World} (h : FieldMem w g wc p LA m d w1) (hb : Below w1.heap.size w1 w2) : FieldMem w g wc p LA m d w2 :=
  ⟨h.1.keep hb, h.2.1.keep hb, Blk.keep h.2.2.1 hb, h.2.2.2.1.keep hb, h.2.2.2.2.trans (hb.mono h.2.2.2.2.size)⟩
theorem fieldMem_start {w : World} {g : Nat} {wc : List Value} {p : Pas} {LA : Option Addr} (hg : Blk w g 152 wc) (hL : Lamps w LA p.L) (m d : Nat) :
    FieldMem w g wc p LA m d ((w.alloc (.cells #[.pointer (some ⟨g, 0, none⟩)] 150)).alloc (.cells (passCells p LA m d).toArray 63)) := by
  have hb : Below w.heap.size w ((w.alloc (.cells #[.pointer (some ⟨g, 0, none⟩)] 150)).alloc (.cells (passCells p LA m d).toArray 63)) := ((Below.refl _ _).alloc (Nat.le_refl _) _).alloc (by simp) _
  have b1 := Blk.new (w.alloc (.cells #[.pointer (some ⟨g, 0, none⟩)] 150)) 63 (passCells p LA m d)
  simp only [World.size_alloc] at b1
  exact ⟨hg.keep hb, (Blk.new w 150 [.pointer (some ⟨g, 0, none⟩)]).alloc _, b1, hL.keep hb, hb⟩
end Go.Proofs.YtibpmogmeoappacGreat
