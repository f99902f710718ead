/- Walk: plan.look.span. -/
import Derived.Test.YtibpmogmeoappabGreatJPlnA
import Derived.Test.YtibpmogmeoappabGreatJMem
import Derived.Deep.RegionHeld3
namespace Go.Proofs.YtibpmogmeoappabGreat
open Go.RowKit

def spnCells (s : Spn) : List Value := [.int .i64 s.First, .int .i64 s.Last]
/-- spans in memory, one by one -/
def SpnAt (w : World) (xb n : Nat) (F : Nat → Spn) : Prop := ∀ t, t < n → w.cell? ⟨xb, t * 2, none⟩ = some (.int .i64 (F t).First) ∧ w.cell? ⟨xb, t * 2 + 1, none⟩ = some (.int .i64 (F t).Last) ∧ w.frozen? ⟨xb, t * 2 + 1, none⟩ = false
theorem SpnAt.set {w : World} {xb n : Nat} {F : Nat → Spn} (h : SpnAt w xb n F) {j : Nat} (hj : j < n) (i : Int) : SpnAt (w.setCell ⟨xb, j * 2 + 1, none⟩ (.int .i64 i)) xb n (fun t => if t = j then ⟨(F t).First, i⟩ else F t) := by
  intro t ht
  obtain ⟨h1, h2, h3⟩ := h t ht
  have e1 : (if t = j then (⟨(F t).First, i⟩ : Spn) else F t).First = (F t).First := by split <;> rfl
  have e2 : (if t = j then (⟨(F t).First, i⟩ : Spn) else F t).Last = if t = j then i else (F t).Last := by split <;> rfl
  show _ = some (Value.int .i64 (if t = j then (⟨(F t).First, i⟩ : Spn) else F t).First) ∧ _ = some (Value.int .i64 (if t = j then (⟨(F t).First, i⟩ : Spn) else F t).Last) ∧ _
  rw [e1, e2]
  refine ⟨?_, ?_, by rw [World.frozen?_setCell]; exact h3⟩
  · rw [World.cell?_setCell_other _ _ _ _ (by intro e; injection e with _ e _; omega), h1]
  · by_cases e : t = j
    · subst e
      rw [World.cell?_setCell_same' _ _ _ (by rw [h2]; rfl), if_pos rfl]
    · rw [World.cell?_setCell_other _ _ _ _ (by intro e; injection e with _ e _; omega), h2, if_neg e]
theorem SpnAt.congr {w : World} {xb n : Nat} {F G : Nat → Spn} (h : SpnAt w xb n F) (e : ∀ t, t < n → F t = G t) : SpnAt w xb n G := fun t ht => by rw [← e t ht]; exact h t ht
/-- a slice of spans -/
def Spns (w : World) (A : Option Addr) (L : List Spn) : Prop := Cells w A (L.flatMap spnCells)
theorem grown_far {a b c : World} {m r : Option Nat} (h : a.grownBy b m) (k : b.grownBy c r) (hr : ∀ x, r = some x → a.heap.size ≤ x) : a.grownBy c m :=
  ⟨k.os.trans h.os, k.tape.trans h.tape, k.output.trans h.output, Nat.le_trans h.size k.size, fun i hi hn => (k.block i (Nat.lt_of_lt_of_le hi h.size) (fun e => by have := hr i e.symm; omega)).trans (h.block i hi hn)⟩
theorem grown_put (w : World) (a : Addr) (u : Value) : w.grownBy (w.setCell a u) (some a.block) :=
  ⟨rfl, rfl, rfl, by simp [World.setCell], fun k _ hk => Below.heap_setCell w a u k (fun e => hk (by rw [e]))⟩
theorem grown_new (w : World) (o : Obj) (m : Option Nat) : w.grownBy (w.alloc o) m := by
  have h : Below w.heap.size w (w.alloc o) := (Below.refl _ _).alloc (Nat.le_refl _) o
  exact ⟨h.os, h.tape, h.output, h.size, fun k hk _ => h.block k hk⟩
theorem grown_of_below {a w : World} {m : Option Nat} (h : Below a.heap.size a w) : a.grownBy w m := ⟨h.os, h.tape, h.output, h.size, fun k hk _ => h.block k hk⟩
theorem grown_ne {a w : World} {g b o : Nat} {v : Value} (hg : a.grownBy w (some g)) (hb : b ≠ g) (hc : a.cell? ⟨b, o, none⟩ = some v) : w.cell? ⟨b, o, none⟩ = some v :=
  (World.cell?_of_block (a := ⟨b, o, none⟩) (hg.block b (World.block_lt_of_cell? a ⟨b, o, none⟩ hc) (by simpa using hb))).trans hc
theorem cells_ne {a w : World} {g : Nat} (hg : a.grownBy w (some g)) {A : Option Addr} {cs : List Value} (hC : Cells a A cs) (hA : 0 < cs.length → ∀ x, A = some x → x.block ≠ g) : Cells w A cs := by
  intro i hi
  obtain ⟨b, o, e, hlt, hc⟩ := hC i hi
  exact ⟨b, o, e, Nat.lt_of_lt_of_le hlt hg.size, grown_ne hg (hA (by omega) _ e) hc⟩
theorem imap_ne {a w : World} {g mb : Nat} {l : List (Int × Value)} (hg : a.grownBy w (some g)) (hM : IMap a mb l) (hne : mb ≠ g) : IMap w mb l := by
  have hl := hM.lt
  obtain ⟨es, clk, h, h2⟩ := hM
  exact ⟨es, clk, (hg.block mb hl (by simpa using hne)).trans h, h2⟩
theorem look_ne_map {w : World} {g mb : Nat} {l : List (Int × Value)} {t : TypeId} {cs : List Value} (h : Blk w g t cs) (hM : IMap w mb l) : mb ≠ g := by
  rintro rfl
  obtain ⟨es, clk, hm, _⟩ := hM
  unfold Blk at h
  rw [h] at hm
  cases hm
theorem Tryz.infoSpn : (Tryz.prog.info? 109).map (fun i => (i.zero, i.size, i.bytes)) = some (some (.agg #[.int .i64 0, .int .i64 0]), 2, 16) := by kernel_rfl
theorem spn_one (s : Spn) : ∀ u ∈ spnCells s, u.oneCell' = true := by
  intro u hu
  simp only [spnCells, List.mem_cons, List.not_mem_nil, or_false] at hu
  rcases hu with rfl | rfl <;> rfl
/-- a pass's span before any source is gone through -/
def span0 (p : Pln) (k : Nat) : Spn := ⟨stepOf p.Order k, stepOf p.Order k⟩
def spans0 (p : Pln) (k : Nat) : List Value := (List.range k).flatMap fun t => spnCells (span0 p t)
theorem spans0_succ (p : Pln) (k : Nat) : spans0 p (k + 1) = spans0 p k ++ spnCells (span0 p k) := by simp [spans0, List.range_succ]

theorem spn_of_own {w : World} {base n c : Nat} {A : Option Addr} {F : Nat → Spn} (h : Own w base 109 2 A n c ((List.range n).flatMap fun t => spnCells (F t))) (hn : 1 ≤ n) : ∃ xb, A = some ⟨xb, 0, none⟩ ∧ base ≤ xb ∧ xb < w.heap.size ∧ SpnAt w xb n F := by
  rcases h.2 with ⟨hv, hn0⟩ | ⟨xb, cap, cur, hv, hb, hg, -⟩
  · omega
  · have hA : A = some ⟨xb, 0, none⟩ := by injection hv
    subst hA
    refine ⟨xb, rfl, hb, (Array.getElem?_eq_some_iff.1 hg).1, fun t ht => ?_⟩
    obtain ⟨b, o, e, -, hc⟩ := cells_flat (k := 2) (f := fun t => spnCells (F t)) (fun x => rfl) h.cells (i := t) (by simpa using ht) (by omega)
    cases e
    have h0 := hc 0 (by omega)
    have h1 := hc 1 (by omega)
    simp only [List.getElem_range, Nat.zero_add, Nat.add_zero] at h0 h1
    exact ⟨h0, h1, by simp [World.frozen?, hg]⟩
theorem spns_of_at {w : World} {xb n : Nat} {F : Nat → Spn} (h : SpnAt w xb n F) (hlt : xb < w.heap.size) : Spns w (some ⟨xb, 0, none⟩) ((List.range n).map F) := by
  have hlen : ∀ m, ((List.range m).map F).flatMap spnCells = (List.range m).flatMap fun t => spnCells (F t) := fun m => by rw [List.flatMap_map]
  have hl : ∀ m, ((List.range m).flatMap fun t => spnCells (F t)).length = m * 2 := by
    intro m
    induction m with
    | zero => rfl
    | succ m ih => rw [List.range_succ, List.flatMap_append, List.length_append, ih]; simp [spnCells]; omega
  have hget : ∀ m t j, t < m → j < 2 → ((List.range m).flatMap fun t => spnCells (F t))[t * 2 + j]? = (spnCells (F t))[j]? := by
    intro m
    induction m with
    | zero => intro t j ht; omega
    | succ m ih =>
      intro t j ht hj
      rw [List.range_succ, List.flatMap_append]
      by_cases e : t < m
      · rw [List.getElem?_append_left (by rw [hl]; omega)]
        exact ih t j e hj
      · obtain rfl : t = m := by omega
        rw [List.getElem?_append_right (by rw [hl]; omega), hl, show t * 2 + j - t * 2 = j by omega]
        simp
  intro i hi
  unfold Spns at *
  rw [hlen] at hi ⊢
  rw [hl] at hi
  obtain ⟨t, j, rfl, hj⟩ : ∃ t j, i = t * 2 + j ∧ j < 2 := ⟨i / 2, i % 2, by omega, by omega⟩
  have ht : t < n := by omega
  obtain ⟨h1, h2, -⟩ := h t ht
  refine ⟨xb, 0, rfl, hlt, ?_⟩
  rw [List.getD_eq_getElem?_getD, hget n t j ht hj, Nat.zero_add]
  rcases (show j = 0 ∨ j = 1 by omega) with rfl | rfl
  · rw [Nat.add_zero, h1]; rfl
  · rw [h2]; rfl

set_option maxRecDepth 100000 in
set_option maxHeartbeats 4000000 in
theorem span_any (f : Frm) (p : Pln) (g mb : Nat) (OA : Option Addr) (on oc : Nat) (QA : Option Addr) (qn qc : Nat) (KA : Option Addr) (kn kc : Nat) (SA : Option Addr) (sn sc : Nat) (RA : Option Addr) (rn rc : Nat) (w : World)
    (hf : FrmOk f) (hL : LookBox w g OA on oc QA qn qc (frLast f) KA kn kc SA sn sc RA rn rc mb none 0 0) (hO : Ints w OA p.Order) (hOg : 0 < p.Order.length → ∀ x, OA = some x → x.block ≠ g) (hon : p.Order.length = on) (hol : on ≤ 9223372036854775807)
    (hkn : f.P.length = kn) (hR : IntRowsN w RA (frSources f) (g + 1)) (hrn : f.P.length = rn) (ho : OrdTo f p p.Order.length) (hM : IMap w mb (stepsM p p.Order.length)) :
    Calls Tryz.prog 68 #[.pointer (some ⟨g, 0, none⟩)] w fun e w' => ∃ (XA : Option Addr) (xc : Nat), e = .returned (.tuple #[]) ∧ LookBox w' g OA on oc QA qn qc (frLast f) KA kn kc SA sn sc RA rn rc mb XA kn xc ∧ Spns w' XA (spansTo f p kn) ∧ w.grownBy w' (some g) := by
  have h12 := hf.many
  have hk12 : 1 ≤ kn ∧ kn ≤ 12 := by omega
  have HF := hide hf
  have HL := hide hL
  have HO := hide hO
  have HOG := hide hOg
  have HR := hide hR
  have HM := hide hM
  have HON := hide hon
  have HKN := hide hkn
  have HRN := hide hrn
  have HOT := hide ho
  have HNE := hide (look_ne_map hL hM)
  obtain ⟨x, q0, q1, q2, q3, q4, q5, q6, q7⟩ := look_at hL
  obtain ⟨i0, hi0, hz0, hz1, hz2⟩ := info_parts Tryz.infoSpn
  clear hf hL hO hOg hR hM hon hkn hrn ho
  go_enter Tryz.func68, Tryz.ntmps68
  go_wp2_with fail
  clear x q0 q1 q2 q3 q4 q5 q6 q7
  go_loopw [2, 3, 4, 5, 15] (fun _ _ _ _ i wr => ∃ (k : Nat) (XA : Option Addr) (xc : Nat), k ≤ kn ∧ i = .int .i64 k ∧ Hid (LookBox wr g OA on oc QA qn qc (frLast f) KA kn kc SA sn sc RA rn rc mb XA k xc) ∧ Hid (Own wr w.heap.size 109 2 XA k xc (spans0 p k)) ∧ Hid (w.grownBy wr (some g))) (fun _ _ _ _ i _ => kn - (intOf i).toNat)
  case atStart => exact ⟨0, none, 0, Nat.zero_le _, rfl, HL, hide (Own.nil _ _ _ _), hide (grown_rfl _ _)⟩
  case round =>
    obtain ⟨k, XA, xc, hk, rfl, HLR, HOW, HG⟩ := hrel
    obtain ⟨x, q0, q1, q2, q3, q4, q5, q6, q7⟩ := look_at HLR.out
    by_cases hlt : k < kn
    · have hk0 : (0 : Int) ≤ (k : Int) := by omega
      have hk1 : (k : Int) < (kn : Int) := by omega
      have hMr := imap_ne HG.out HM.out HNE.out
      have hMx := hMr.keep ((Below.refl _ _).alloc (Nat.le_refl _) (.cells #[.int .i64 (-1), .int .i64 (-1)] 109))
      by_cases hd : DoneTo p p.Order.length (k : Int)
      · obtain ⟨mm, hmm, he, hlk⟩ := run_done HOT.out hMx (k : Int) hd
        have hs : (mm : Int) = stepOf p.Order k := by rw [← HOT.out.step hmm, he]
        have HS := hide hs
        clear hd he hs hMr hMx
        go_wp2_with fail
        have hbx : Blk (wr.alloc (.cells #[.int .i64 (mm : Int), .int .i64 (mm : Int)] 109)) wr.heap.size 109 (spnCells ⟨(mm : Int), (mm : Int)⟩) := Blk.new wr _ _
        have hax : Below wr.heap.size wr (wr.alloc (.cells #[.int .i64 (mm : Int), .int .i64 (mm : Int)] 109)) := (Below.refl _ _).alloc (Nat.le_refl _) _
        have z0 : (wr.alloc (.cells #[.int .i64 (mm : Int), .int .i64 (mm : Int)] 109)).cell? ⟨wr.heap.size, 0, none⟩ = some (.int .i64 (mm : Int)) := by rw [hbx.cell]; rfl
        have z1 : (wr.alloc (.cells #[.int .i64 (mm : Int), .int .i64 (mm : Int)] 109)).cell? ⟨wr.heap.size, 1, none⟩ = some (.int .i64 (mm : Int)) := by rw [hbx.cell]; rfl
        have z7 := keepC hax q7
        have hgw := HL.out.lt
        have hgs := HG.out.size
        have HSS := hide (show ∀ x1 x2 : World, Below x1.heap.size x1 x2 → (fun w' : World => w'.cell? ⟨g, 7, none⟩ = some (.slice XA k xc) ∧ w'.cell? ⟨wr.heap.size, 0, none⟩ = some (.int .i64 (mm : Int)) ∧ w'.cell? ⟨wr.heap.size, 1, none⟩ = some (.int .i64 (mm : Int))) x1 → (fun w' : World => w'.cell? ⟨g, 7, none⟩ = some (.slice XA k xc) ∧ w'.cell? ⟨wr.heap.size, 0, none⟩ = some (.int .i64 (mm : Int)) ∧ w'.cell? ⟨wr.heap.size, 1, none⟩ = some (.int .i64 (mm : Int))) x2 from fun _ _ hb h => ⟨keepC hb h.1, keepC hb h.2.1, keepC hb h.2.2⟩)
        have hS0 : (fun w' : World => w'.cell? ⟨g, 7, none⟩ = some (.slice XA k xc) ∧ w'.cell? ⟨wr.heap.size, 0, none⟩ = some (.int .i64 (mm : Int)) ∧ w'.cell? ⟨wr.heap.size, 1, none⟩ = some (.int .i64 (mm : Int))) (wr.alloc (.cells #[.int .i64 (mm : Int), .int .i64 (mm : Int)] 109)).drew := ⟨z7, z0, z1⟩
        refine wp_region_B (fun w' : World => w'.cell? ⟨g, 7, none⟩ = some (.slice XA k xc) ∧ w'.cell? ⟨wr.heap.size, 0, none⟩ = some (.int .i64 (mm : Int)) ∧ w'.cell? ⟨wr.heap.size, 1, none⟩ = some (.int .i64 (mm : Int))) (fun j => decide (j = 10)) (by kernel_rfl) ?_
        refine AnyB.free (i := 0) (.pointer (some ⟨g, 0, none⟩)) rfl (by kernel_rfl) (by kernel_rfl) (by kernel_rfl) (fun _ _ _ h => h) (Or.inl ⟨by rfl, fun w' => ?_⟩) ?_
        · go_simp
        try simp only [Act.put, List.setIfInBounds_toArray]
        refine AnyB.free (i := 1) (.pointer (some ⟨g, 0, none⟩)) rfl (by kernel_rfl) (by kernel_rfl) (by kernel_rfl) (fun _ _ _ h => h) (Or.inl ⟨by rfl, fun w' => ?_⟩) ?_
        · go_simp
        try simp only [Act.put]
        refine AnyB.free (i := 2) (.pointer (some ⟨g, 0, none⟩)) rfl (by kernel_rfl) (by kernel_rfl) (by kernel_rfl) (fun _ _ _ h => h) (Or.inl ⟨by rfl, fun w' => ?_⟩) ?_
        · go_simp
        try simp only [Act.put]
        refine AnyB.free (i := 3) (.pointer (some ⟨g, 7, none⟩)) rfl (by kernel_rfl) (by kernel_rfl) (by kernel_rfl) (fun _ _ _ h => h) (Or.inl ⟨by rfl, fun w' => ?_⟩) ?_
        · go_simp
        try simp only [Act.put]
        refine AnyB.take (i := 4) (.slice XA k xc) rfl (by kernel_rfl) (by kernel_rfl) (by kernel_rfl) (by kernel_rfl) (fun _ _ _ h => h) (Or.inl ⟨by rfl, fun w' hS' => ?_⟩) hS0 ?_
        · obtain ⟨e0, e1, e2⟩ := hS'
          go_simp
        try simp only [Act.put]
        refine AnyB.take (i := 5) (.agg #[.int .i64 (mm : Int), .int .i64 (mm : Int)]) rfl (by kernel_rfl) (by kernel_rfl) (by kernel_rfl) (by kernel_rfl) (fun _ _ _ h => h) (Or.inl ⟨by rfl, fun w' hS' => ?_⟩) hS0 ?_
        · obtain ⟨e0, e1, e2⟩ := hS'
          go_simp
        try simp only [Act.put]
        refine AnyB.one (i := 6) (by kernel_rfl) rfl (fun K hK => ?_)
        go_simp
        refine hK.out _ _ (fun _ hs => HSS.out _ _ ((Below.refl _ _).alloc (Nat.le_refl _) _) hs) ?_
        clear hK K
        try simp only [Act.put, List.setIfInBounds_toArray, List.set_cons_zero, List.set_cons_succ]
        have hb2 : Below wr.heap.size wr (((wr.alloc (.cells #[.int .i64 (mm : Int), .int .i64 (mm : Int)] 109)).alloc (.cells #[.int .i64 (mm : Int), .int .i64 (mm : Int)] 109)).drew) := (hax.alloc (by simp) _).drew
        refine AnyB.one (i := 7) (by kernel_rfl) rfl (fun K hK => ?_)
        refine step_app1W _ _ (by rfl) _ _ 105 (by rfl) w.heap.size 109 i0 _ 2 16 Tryz.underlying105 hi0 hz0 hz1 hz2 rfl (by omega) XA k xc _ (spnCells ⟨(mm : Int), (mm : Int)⟩) (by rfl) (Own.keep HOW.out hb2) (by rfl) (by first | exact Blk.newE (by first | rfl | simp) | exact Blk.drew (Blk.newE (by first | rfl | simp))) rfl (spn_one _) (by omega) (by omega) (by have := hb2.size; omega) ?_
        intro A9 c9 w9 hown9 hg9 hat9
        have hl9 := Blk.grown (Blk.keep HLR.out hb2) (Own.keep HOW.out hb2) hg9 hgw
        have hb9 : w.grownBy w9 (some g) := grown_far (grown_tr HG.out (grown_of_below hb2)) hg9 (fun y hy => ((Own.keep HOW.out hb2).lt hy).1)
        obtain ⟨y, u0, u1, u2, u3, u4, u5, u6, u7⟩ := look_at hl9
        have uf := Blk.frozen hl9 7
        have HL9 := hide (hl9.set_ 7 (.slice A9 (k + 1) c9))
        have HO9 := hide (hown9.far (p := ⟨g, 7, none⟩) hgw (.slice A9 (k + 1) c9))
        have HG9 := hide (grown_tr hb9 (grown_put w9 ⟨g, 7, none⟩ (.slice A9 (k + 1) c9)))
        have hS9 : (fun w' : World => w'.cell? ⟨g, 7, none⟩ = some (.slice XA k xc) ∧ w'.cell? ⟨wr.heap.size, 0, none⟩ = some (.int .i64 (mm : Int)) ∧ w'.cell? ⟨wr.heap.size, 1, none⟩ = some (.int .i64 (mm : Int))) w9 := by
          have hw : (((wr.alloc (.cells #[.int .i64 (mm : Int), .int .i64 (mm : Int)] 109)).alloc (.cells #[.int .i64 (mm : Int), .int .i64 (mm : Int)] 109)).drew).grownBy w9 (Value.slice XA k xc).ownBlock := hg9
          have hx : Blk (((wr.alloc (.cells #[.int .i64 (mm : Int), .int .i64 (mm : Int)] 109)).alloc (.cells #[.int .i64 (mm : Int), .int .i64 (mm : Int)] 109)).drew) wr.heap.size 109 (spnCells ⟨(mm : Int), (mm : Int)⟩) := (hbx.alloc _).drew
          have hx9 : Blk w9 wr.heap.size 109 (spnCells ⟨(mm : Int), (mm : Int)⟩) := (hw.block wr.heap.size hx.lt (fun e => by have := (HOW.out.lt e.symm).2; omega)).trans hx
          exact ⟨u7, by rw [hx9.cell]; rfl, by rw [hx9.cell]; rfl⟩
        try go_simp
        refine hK.out _ _ (fun _ _ => hS9) ?_
        clear hK K hl9 hb9 hS9 hown9 hg9 hat9
        try simp only [Act.put, List.setIfInBounds_toArray, List.set_cons_zero, List.set_cons_succ]
        refine AnyB.free (i := 8) (.pointer (some ⟨g, 0, none⟩)) rfl (by kernel_rfl) (by kernel_rfl) (by kernel_rfl) (fun _ _ _ h => h) (Or.inl ⟨by rfl, fun w' => ?_⟩) ?_
        · go_simp
        try simp only [Act.put, List.setIfInBounds_toArray]
        refine AnyB.free (i := 9) (.pointer (some ⟨g, 7, none⟩)) rfl (by kernel_rfl) (by kernel_rfl) (by kernel_rfl) (fun _ _ _ h => h) (Or.inl ⟨by rfl, fun w' => ?_⟩) ?_
        · go_simp
        try simp only [Act.put]
        refine AnyB.one (i := 10) (by kernel_rfl) rfl (fun K hK => ?_)
        go_simp
        refine hK.out _ _ (fun h _ => by cases h) ?_
        clear hK K
        try simp only [Act.put, List.setIfInBounds_toArray, List.set_cons_zero, List.set_cons_succ]
        refine AnyB.done (by kernel_rfl) ?_
        go_wp2_with fail
        go_roundw
        case rel => exact ⟨k + 1, A9, c9, by omega, by go_num, HL9, hide (by rw [spans0_succ]; show Own _ _ _ _ _ _ _ (spans0 p k ++ spnCells ⟨stepOf p.Order k, stepOf p.Order k⟩); rw [← HS.out]; exact HO9.out), HG9⟩
        case measure => simp [intOf]; omega
      · have hlk := run_undone hMx (k : Int) hd
        have hs : (-1 : Int) = stepOf p.Order k := (stepOf_neg (fun h => hd (doneTo_all.2 h))).symm
        have HS := hide hs
        clear hd hs hMr hMx
        go_wp2_with fail
        have hbx : Blk (wr.alloc (.cells #[.int .i64 (-1), .int .i64 (-1)] 109)) wr.heap.size 109 (spnCells ⟨(-1), (-1)⟩) := Blk.new wr _ _
        have hax : Below wr.heap.size wr (wr.alloc (.cells #[.int .i64 (-1), .int .i64 (-1)] 109)) := (Below.refl _ _).alloc (Nat.le_refl _) _
        have z0 : (wr.alloc (.cells #[.int .i64 (-1), .int .i64 (-1)] 109)).cell? ⟨wr.heap.size, 0, none⟩ = some (.int .i64 (-1)) := by rw [hbx.cell]; rfl
        have z1 : (wr.alloc (.cells #[.int .i64 (-1), .int .i64 (-1)] 109)).cell? ⟨wr.heap.size, 1, none⟩ = some (.int .i64 (-1)) := by rw [hbx.cell]; rfl
        have z7 := keepC hax q7
        have hgw := HL.out.lt
        have hgs := HG.out.size
        have HSS := hide (show ∀ x1 x2 : World, Below x1.heap.size x1 x2 → (fun w' : World => w'.cell? ⟨g, 7, none⟩ = some (.slice XA k xc) ∧ w'.cell? ⟨wr.heap.size, 0, none⟩ = some (.int .i64 (-1)) ∧ w'.cell? ⟨wr.heap.size, 1, none⟩ = some (.int .i64 (-1))) x1 → (fun w' : World => w'.cell? ⟨g, 7, none⟩ = some (.slice XA k xc) ∧ w'.cell? ⟨wr.heap.size, 0, none⟩ = some (.int .i64 (-1)) ∧ w'.cell? ⟨wr.heap.size, 1, none⟩ = some (.int .i64 (-1))) x2 from fun _ _ hb h => ⟨keepC hb h.1, keepC hb h.2.1, keepC hb h.2.2⟩)
        have hS0 : (fun w' : World => w'.cell? ⟨g, 7, none⟩ = some (.slice XA k xc) ∧ w'.cell? ⟨wr.heap.size, 0, none⟩ = some (.int .i64 (-1)) ∧ w'.cell? ⟨wr.heap.size, 1, none⟩ = some (.int .i64 (-1))) (wr.alloc (.cells #[.int .i64 (-1), .int .i64 (-1)] 109)).drew := ⟨z7, z0, z1⟩
        refine wp_region_B (fun w' : World => w'.cell? ⟨g, 7, none⟩ = some (.slice XA k xc) ∧ w'.cell? ⟨wr.heap.size, 0, none⟩ = some (.int .i64 (-1)) ∧ w'.cell? ⟨wr.heap.size, 1, none⟩ = some (.int .i64 (-1))) (fun j => decide (j = 10)) (by kernel_rfl) ?_
        refine AnyB.free (i := 0) (.pointer (some ⟨g, 0, none⟩)) rfl (by kernel_rfl) (by kernel_rfl) (by kernel_rfl) (fun _ _ _ h => h) (Or.inl ⟨by rfl, fun w' => ?_⟩) ?_
        · go_simp
        try simp only [Act.put, List.setIfInBounds_toArray]
        refine AnyB.free (i := 1) (.pointer (some ⟨g, 0, none⟩)) rfl (by kernel_rfl) (by kernel_rfl) (by kernel_rfl) (fun _ _ _ h => h) (Or.inl ⟨by rfl, fun w' => ?_⟩) ?_
        · go_simp
        try simp only [Act.put]
        refine AnyB.free (i := 2) (.pointer (some ⟨g, 0, none⟩)) rfl (by kernel_rfl) (by kernel_rfl) (by kernel_rfl) (fun _ _ _ h => h) (Or.inl ⟨by rfl, fun w' => ?_⟩) ?_
        · go_simp
        try simp only [Act.put]
        refine AnyB.free (i := 3) (.pointer (some ⟨g, 7, none⟩)) rfl (by kernel_rfl) (by kernel_rfl) (by kernel_rfl) (fun _ _ _ h => h) (Or.inl ⟨by rfl, fun w' => ?_⟩) ?_
        · go_simp
        try simp only [Act.put]
        refine AnyB.take (i := 4) (.slice XA k xc) rfl (by kernel_rfl) (by kernel_rfl) (by kernel_rfl) (by kernel_rfl) (fun _ _ _ h => h) (Or.inl ⟨by rfl, fun w' hS' => ?_⟩) hS0 ?_
        · obtain ⟨e0, e1, e2⟩ := hS'
          go_simp
        try simp only [Act.put]
        refine AnyB.take (i := 5) (.agg #[.int .i64 (-1), .int .i64 (-1)]) rfl (by kernel_rfl) (by kernel_rfl) (by kernel_rfl) (by kernel_rfl) (fun _ _ _ h => h) (Or.inl ⟨by rfl, fun w' hS' => ?_⟩) hS0 ?_
        · obtain ⟨e0, e1, e2⟩ := hS'
          go_simp
        try simp only [Act.put]
        refine AnyB.one (i := 6) (by kernel_rfl) rfl (fun K hK => ?_)
        go_simp
        refine hK.out _ _ (fun _ hs => HSS.out _ _ ((Below.refl _ _).alloc (Nat.le_refl _) _) hs) ?_
        clear hK K
        try simp only [Act.put, List.setIfInBounds_toArray, List.set_cons_zero, List.set_cons_succ]
        have hb2 : Below wr.heap.size wr (((wr.alloc (.cells #[.int .i64 (-1), .int .i64 (-1)] 109)).alloc (.cells #[.int .i64 (-1), .int .i64 (-1)] 109)).drew) := (hax.alloc (by simp) _).drew
        refine AnyB.one (i := 7) (by kernel_rfl) rfl (fun K hK => ?_)
        refine step_app1W _ _ (by rfl) _ _ 105 (by rfl) w.heap.size 109 i0 _ 2 16 Tryz.underlying105 hi0 hz0 hz1 hz2 rfl (by omega) XA k xc _ (spnCells ⟨(-1), (-1)⟩) (by rfl) (Own.keep HOW.out hb2) (by rfl) (by first | exact Blk.newE (by first | rfl | simp) | exact Blk.drew (Blk.newE (by first | rfl | simp))) rfl (spn_one _) (by omega) (by omega) (by have := hb2.size; omega) ?_
        intro A9 c9 w9 hown9 hg9 hat9
        have hl9 := Blk.grown (Blk.keep HLR.out hb2) (Own.keep HOW.out hb2) hg9 hgw
        have hb9 : w.grownBy w9 (some g) := grown_far (grown_tr HG.out (grown_of_below hb2)) hg9 (fun y hy => ((Own.keep HOW.out hb2).lt hy).1)
        obtain ⟨y, u0, u1, u2, u3, u4, u5, u6, u7⟩ := look_at hl9
        have uf := Blk.frozen hl9 7
        have HL9 := hide (hl9.set_ 7 (.slice A9 (k + 1) c9))
        have HO9 := hide (hown9.far (p := ⟨g, 7, none⟩) hgw (.slice A9 (k + 1) c9))
        have HG9 := hide (grown_tr hb9 (grown_put w9 ⟨g, 7, none⟩ (.slice A9 (k + 1) c9)))
        have hS9 : (fun w' : World => w'.cell? ⟨g, 7, none⟩ = some (.slice XA k xc) ∧ w'.cell? ⟨wr.heap.size, 0, none⟩ = some (.int .i64 (-1)) ∧ w'.cell? ⟨wr.heap.size, 1, none⟩ = some (.int .i64 (-1))) w9 := by
          have hw : (((wr.alloc (.cells #[.int .i64 (-1), .int .i64 (-1)] 109)).alloc (.cells #[.int .i64 (-1), .int .i64 (-1)] 109)).drew).grownBy w9 (Value.slice XA k xc).ownBlock := hg9
          have hx : Blk (((wr.alloc (.cells #[.int .i64 (-1), .int .i64 (-1)] 109)).alloc (.cells #[.int .i64 (-1), .int .i64 (-1)] 109)).drew) wr.heap.size 109 (spnCells ⟨(-1), (-1)⟩) := (hbx.alloc _).drew
          have hx9 : Blk w9 wr.heap.size 109 (spnCells ⟨(-1), (-1)⟩) := (hw.block wr.heap.size hx.lt (fun e => by have := (HOW.out.lt e.symm).2; omega)).trans hx
          exact ⟨u7, by rw [hx9.cell]; rfl, by rw [hx9.cell]; rfl⟩
        try go_simp
        refine hK.out _ _ (fun _ _ => hS9) ?_
        clear hK K hl9 hb9 hS9 hown9 hg9 hat9
        try simp only [Act.put, List.setIfInBounds_toArray, List.set_cons_zero, List.set_cons_succ]
        refine AnyB.free (i := 8) (.pointer (some ⟨g, 0, none⟩)) rfl (by kernel_rfl) (by kernel_rfl) (by kernel_rfl) (fun _ _ _ h => h) (Or.inl ⟨by rfl, fun w' => ?_⟩) ?_
        · go_simp
        try simp only [Act.put, List.setIfInBounds_toArray]
        refine AnyB.free (i := 9) (.pointer (some ⟨g, 7, none⟩)) rfl (by kernel_rfl) (by kernel_rfl) (by kernel_rfl) (fun _ _ _ h => h) (Or.inl ⟨by rfl, fun w' => ?_⟩) ?_
        · go_simp
        try simp only [Act.put]
        refine AnyB.one (i := 10) (by kernel_rfl) rfl (fun K hK => ?_)
        go_simp
        refine hK.out _ _ (fun h _ => by cases h) ?_
        clear hK K
        try simp only [Act.put, List.setIfInBounds_toArray, List.set_cons_zero, List.set_cons_succ]
        refine AnyB.done (by kernel_rfl) ?_
        go_wp2_with fail
        go_roundw
        case rel => exact ⟨k + 1, A9, c9, by omega, by go_num, HL9, hide (by rw [spans0_succ]; show Own _ _ _ _ _ _ _ (spans0 p k ++ spnCells ⟨stepOf p.Order k, stepOf p.Order k⟩); rw [← HS.out]; exact HO9.out), HG9⟩
        case measure => simp [intOf]; omega
    · obtain rfl : k = kn := by omega
      obtain ⟨xb, hXA, hxb, hxl, hSP⟩ := spn_of_own HOW.out hk12.1
      obtain rfl := hXA
      have HSP0 := hide (hSP.congr (G := spanPart f p 0 []) (fun t _ => (spanPart_start t).symm))
      have hgw := HL.out.lt
      have hxg : g ≠ xb := by omega
      clear hSP HOW
      go_wp2_with fail
      clear x q0 q1 q2 q3 q4 q5 q6 q7
      go_loopw [6, 7, 9, 49] (fun _ _ _ s wy => ∃ i : Nat, i ≤ on ∧ s = .int .i64 i ∧ Hid (SpnAt wy xb k (spanPart f p i [])) ∧ Hid (LookBox wy g OA on oc QA qn qc (frLast f) KA k kc SA sn sc RA rn rc mb (some ⟨xb, 0, none⟩) k xc) ∧ Hid (w.grownBy wy (some g)) ∧ Hid (xb < wy.heap.size)) (fun _ _ _ s _ => on - (intOf s).toNat)
      case atStart => exact ⟨0, Nat.zero_le _, rfl, HSP0, HLR, HG, hide hxl⟩
      case round =>
        obtain ⟨i, hi, rfl, HSI, HLY, HGY, HXL⟩ := hrel
        obtain ⟨x, q0, q1, q2, q3, q4, q5, q6, q7⟩ := look_at HLY.out
        by_cases hil : i < on
        · have hi0' : (0 : Int) ≤ (i : Int) := by omega
          have hi1' : (i : Int) < (on : Int) := by omega
          obtain ⟨ob, oo, hOA, hob, co⟩ := (cells_ne HGY.out HO.out (fun h => HOG.out (by simpa using h))) i (by rw [List.length_map, HON.out]; exact hil)
          obtain rfl := hOA
          have hrg := HOT.out.rng i (by rw [HON.out]; exact hil)
          obtain ⟨m, hm⟩ : ∃ m : Nat, p.ord i = (m : Int) := ⟨(p.ord i).toNat, by omega⟩
          have ev : (p.Order.map (Value.int .i64)).getD i undef = .int .i64 (m : Int) := by
            rw [← hm, List.getD_eq_getElem?_getD, List.getElem?_map, p.ord_at (by rw [HON.out]; exact hil)]
            rfl
          rw [ev] at co
          rw [hm] at hrg
          have HMI := hide hm
          clear ev hm
          have hm0 : (0 : Int) ≤ (m : Int) := by omega
          have hmk : m < k := by have := HKN.out; omega
          have hmr : (m : Int) < (rn : Int) := by have h1 := HKN.out; have h2 := HRN.out; omega
          have hsr := frSources_at HF.out (k := m) (by rw [HKN.out]; exact hmk)
          obtain ⟨rb, ro, B, sm, sd, hRA, hrb0, hrb, cr0, hsm, hsI, hsn⟩ := HR.out m (srcs f m) hsr
          have cr := grown_ne HGY.out (show rb ≠ g by omega) cr0
          obtain rfl := hRA
          have hs2 : sm ≤ 2 := by rw [← hsm]; exact srcs_le f m
          have HSM := hide hsm
          have hsI' : srcs f m ≠ [] → ∀ a : World, w.grownBy a (some g) → Ints a B (srcs f m) := fun hne a ha => cells_ne ha hsI (fun _ y hy => by have := hsn hne y hy; omega)
          have HSN := hide hsI'
          clear hsr hsm hsI hsn hsI' hrb0 cr0
          go_wp2_with fail
          clear x q0 q1 q2 q3 q4 q5 q6 q7
          go_loopw [9, 62] (fun _ s wz => ∃ j : Nat, j ≤ sm ∧ s = .int .i64 j ∧ Hid (SpnAt wz xb k (spanPart f p i ((srcs f m).take j))) ∧ Hid (LookBox wz g (some ⟨ob, oo, none⟩) on oc QA qn qc (frLast f) KA k kc SA sn sc (some ⟨rb, ro, none⟩) rn rc mb (some ⟨xb, 0, none⟩) k xc) ∧ Hid (w.grownBy wz (some g)) ∧ Hid (xb < wz.heap.size)) (fun _ s _ => sm - (intOf s).toNat)
          case atStart => exact ⟨0, Nat.zero_le _, rfl, hide (by simpa using HSI.out), HLY, HGY, HXL⟩
          case round =>
            obtain ⟨j, hj, rfl, HSJ, HLZ, HGZ, HXZ⟩ := hrel
            obtain ⟨x, q0, q1, q2, q3, q4, q5, q6, q7⟩ := look_at HLZ.out
            by_cases hjl : j < sm
            · have hj0 : (0 : Int) ≤ (j : Int) := by omega
              have hj1 : (j : Int) < (sm : Int) := by omega
              have hjs : j < (srcs f m).length := by rw [HSM.out]; exact hjl
              obtain ⟨sb, so, hB, hsb, cs⟩ := HSN.out (fun e => by rw [e] at hjs; simp at hjs) _ HGZ.out j (by rw [List.length_map]; exact hjs)
              obtain rfl := hB
              obtain ⟨m', hm', hs⟩ := HOT.out.srcs i (by rw [HON.out]; exact hil) (srcs f m)[j] (by rw [HMI.out, Int.toNat_natCast]; exact List.getElem_mem hjs)
              have hrs := HOT.out.rng m' (by have := HON.out; omega)
              rw [hs] at hrs
              obtain ⟨s, hse⟩ : ∃ s : Nat, (srcs f m)[j] = (s : Int) := ⟨((srcs f m)[j]).toNat, by omega⟩
              have ev : ((srcs f m).map (Value.int .i64)).getD j undef = .int .i64 (s : Int) := by
                rw [← hse, List.getD_eq_getElem?_getD, List.getElem?_map, List.getElem?_eq_getElem hjs]
                rfl
              rw [ev] at cs
              rw [hse] at hrs
              have HSE := hide hse
              have hs0 : (0 : Int) ≤ (s : Int) := by omega
              have hsk : s < k := by have := HKN.out; omega
              have hsk' : (s : Int) < (k : Int) := by omega
              obtain ⟨-, c1, c2⟩ := HSJ.out s hsk
              have HSet := hide (HSJ.out.set hsk (i : Int))
              have hxz := HXZ.out
              clear ev hs hrs hse hm'
              go_wp2_with fail
              go_roundw
              case rel =>
                refine ⟨j + 1, by omega, by go_num, hide (HSet.out.congr (fun t ht => ?_)), hide (HLZ.out.far (p := ⟨xb, s * 2 + 1, none⟩) (by simp only; omega) _), hide (grown_far HGZ.out (grown_put _ ⟨xb, s * 2 + 1, none⟩ _) (fun y hy => by cases hy; exact hxb)), hide (by simpa [World.setCell] using hxz)⟩
                rw [List.take_add_one, List.getElem?_eq_getElem hjs, HSE.out]
                show _ = spanPart f p i (List.take j (srcs f m) ++ [(s : Int)]) t
                rw [spanPart_snoc]
                by_cases e : t = s
                · rw [if_pos e, if_pos (by omega)]
                · rw [if_neg e, if_neg (by omega)]
              case measure => simp [intOf]; omega
            · obtain rfl : j = sm := by omega
              go_wp2_with fail
              go_roundw
              case rel =>
                refine ⟨i + 1, by omega, by go_num, hide (HSJ.out.congr (fun t _ => ?_)), HLZ, HGZ, HXZ⟩
                rw [List.take_of_length_le (by rw [HSM.out]; exact Nat.le_refl _), ← spanPart_next, HMI.out, Int.toNat_natCast]
              case measure => simp [intOf]; omega
        · obtain rfl : i = on := by omega
          have hla := HF.out.last
          obtain ⟨la, hla2⟩ : ∃ la : Nat, frLast f = (la : Int) := ⟨(frLast f).toNat, by omega⟩
          rw [hla2] at hla q2
          have HLA := hide hla2
          have hla0 : (0 : Int) ≤ (la : Int) := by omega
          have hlk : la < k := by have := HKN.out; omega
          have hlk' : (la : Int) < (k : Int) := by omega
          obtain ⟨-, c1, c2⟩ := HSI.out la hlk
          clear hla hla2
          have hgx : (⟨g, 7, none⟩ : Addr).block ≠ (⟨xb, la * 2 + 1, none⟩ : Addr).block := hxg
          have HFIN := hide ((HSI.out.set hlk ((i : Int) - 1)).congr (G := spanOf f p) (fun t ht => by
            rw [spanOf_part, HLA.out]
            by_cases e : t = la
            · subst e
              rw [if_pos rfl, if_pos rfl, HON.out]
            · rw [if_neg e, if_neg (by omega), HON.out]))
          have HLF := hide (HLY.out.far (p := ⟨xb, la * 2 + 1, none⟩) hxg (.int .i64 ((i : Int) - 1)))
          have HGF := hide (grown_far HGY.out (grown_put _ ⟨xb, la * 2 + 1, none⟩ (.int .i64 ((i : Int) - 1))) (fun y hy => by cases hy; exact hxb))
          have hxl2 := HXL.out
          go_wp2_with fail
          go_region_held3 (fun w' => w'.cell? ⟨g, 0, none⟩ = some (.slice OA i oc) ∧ w'.cell? ⟨g, 2, none⟩ = some (.int .i64 (la : Int)) ∧ w'.cell? ⟨g, 7, none⟩ = some (.slice (some ⟨xb, 0, none⟩) k xc))
            (first | exact ⟨q0, q2, q7⟩ | exact ⟨cellFar q0 hgx, cellFar q2 hgx, cellFar q7 hgx⟩) (fail)
          have hwr : IntKind.i64.wrap ((i : Int) - 1) = (i : Int) - 1 := IntWalk.i64_in _ (by omega)
          go_wp2_with fail
          rw [hwr]
          refine bodyPost_end (v := .tuple #[]) ?_ rfl ?_
          · simp [results, Tryz.results68, go_sem]
          exact ⟨some ⟨xb, 0, none⟩, xc, rfl, HLF.out.drew, (spns_of_at HFIN.out (by simpa [World.setCell] using hxl2)).keep (Below.refl _ _).drew, grown_tr HGF.out (grown_of_below (Below.refl _ _).drew)⟩
end Go.Proofs.YtibpmogmeoappabGreat
