/- A slice of one-cell elements that begins anywhere in its block: what lies in front is dropped, more is appended behind. -/
import Derived.Test.YtibpmogmeoappabJMem
import Derived.ArgAppend
import Derived.Deep.Upon
import Derived.Test.YtibpmogmeoappabJNeed
import Derived.Laws.Cover3
import Derived.Test.YtibpmogmeoappabJFrmS
import Derived.Laws.StructEq
import Derived.Deep.RegionHeld3
import Derived.BigQuiet
import Derived.Test.YtibpmogmeoappabJFrmN
import Derived.Test.YtibpmogmeoappabJFrmC
namespace Go.Proofs.Ytibpmogmeoappab
open Go.RowKit

/-- a row of values in a block of its own (from base on), with room behind -/
def Que (w : World) (base : Nat) (A : Option Addr) (n c : Nat) (cs : List Value) : Prop :=
  ∃ b o, A = some ⟨b, o, none⟩ ∧ base ≤ b ∧ b < w.heap.size ∧ cs.length = n ∧ n ≤ c ∧ (∀ j, j < c → (w.cell? ⟨b, o + j, none⟩).isSome = true ∧ w.frozen? ⟨b, o + j, none⟩ = false) ∧ ∀ j u, cs[j]? = some u → w.cell? ⟨b, o + j, none⟩ = some u
section
variable {w w' : World} {base : Nat} {A : Option Addr} {n c : Nat} {cs : List Value}
theorem Que.len (h : Que w base A n c cs) : cs.length = n := by obtain ⟨b, o, _, _, _, h1, _⟩ := h; exact h1
theorem Que.moved (h : Que w base A n c cs) (hk : ∀ b o, A = some ⟨b, o, none⟩ → w'.heap[b]? = w.heap[b]?) (hs : w.heap.size ≤ w'.heap.size) : Que w' base A n c cs := by
  obtain ⟨b, o, rfl, h1, h2, h3, h4, h5, h6⟩ := h
  have e := hk b o rfl
  refine ⟨b, o, rfl, h1, Nat.lt_of_lt_of_le h2 hs, h3, h4, fun j hj => ?_, fun j u hu => ?_⟩
  · rw [World.cell?_of_block (a := ⟨b, o + j, none⟩) e, World.frozen?_of_block (a := ⟨b, o + j, none⟩) e]; exact h5 j hj
  · rw [World.cell?_of_block (a := ⟨b, o + j, none⟩) e]; exact h6 j u hu
theorem Que.keep (h : Que w base A n c cs) (hb : Below w.heap.size w w') : Que w' base A n c cs := by
  obtain ⟨b, o, rfl, h1, h2, -⟩ := id h
  exact h.moved (fun b' o' e => by cases e; exact hb.block _ h2) hb.size
theorem Que.alloc (h : Que w base A n c cs) (o : Obj) : Que (w.alloc o) base A n c cs := h.keep ((Below.refl _ _).alloc (Nat.le_refl _) o)
theorem Que.far (h : Que w base A n c cs) {p : Addr} (hp : p.block < base) (u : Value) : Que (w.setCell p u) base A n c cs := by
  obtain ⟨b, o, rfl, h1, h2, -⟩ := id h
  exact h.moved (fun b' o' e => by cases e; exact Below.heap_setCell w p u _ (by omega)) (by simp)
theorem Que.of_blk {g : Nat} {t : TypeId} (h : Blk w g t cs) (hb : base ≤ g) : Que w base (some ⟨g, 0, none⟩) cs.length cs.length cs := by
  refine ⟨g, 0, rfl, hb, h.lt, rfl, Nat.le_refl _, fun j hj => ⟨?_, Blk.frozen h _⟩, fun j u hu => ?_⟩
  · rw [Nat.zero_add, h.cell, List.getElem?_eq_getElem hj]; rfl
  · rw [Nat.zero_add, h.cell]; exact hu
/-- the first one, and the others -/
theorem Que.pop {x : Value} (h : Que w base A n c (x :: cs)) : ∃ b o, A = some ⟨b, o, none⟩ ∧ 1 ≤ n ∧ n ≤ c ∧ b < w.heap.size ∧ base ≤ b ∧ w.cell? ⟨b, o, none⟩ = some x ∧ Que w base (some ⟨b, o + 1, none⟩) (n - 1) (c - 1) cs := by
  obtain ⟨b, o, rfl, h1, h2, h3, h4, h5, h6⟩ := h
  simp only [List.length_cons] at h3
  refine ⟨b, o, rfl, by omega, h4, h2, h1, h6 0 x rfl, b, o + 1, rfl, h1, h2, by omega, by omega, fun j hj => ?_, fun j u hu => ?_⟩
  · have := h5 (j + 1) (by omega); rwa [show o + (j + 1) = o + 1 + j from by omega] at this
  · have := h6 (j + 1) u (by simpa using hu); rwa [show o + (j + 1) = o + 1 + j from by omega] at this
theorem Que.any0 {b q q' : Nat} (h : Que w base (some ⟨b, q, none⟩) n 0 cs) : Que w base (some ⟨b, q', none⟩) n 0 cs := by
  obtain ⟨b', o', e, h1, h2, h3, h4, h5, h6⟩ := h
  cases e
  exact ⟨b, q', rfl, h1, h2, h3, h4, fun j hj => by omega, fun j u hu => by have := (List.getElem?_eq_some_iff.1 hu).1; omega⟩
theorem Below.setCells {B b : Nat} {a : World} (hB : B ≤ b) : ∀ (vs : List Value) (o : Nat) (w : World), Below B a w → Below B a (w.setCells b o vs)
  | [], _, _, h => h
  | v :: r, o, w, h => by
    rw [World.setCells]
    exact Below.setCells hB r (o + 1) _ (h.setCell (p := ⟨b, o, none⟩) hB v)
end
theorem Below.grownNone {B : Nat} {a w w' : World} (h : Below B a w) (hg : w.grownBy w' none) (hB : B ≤ w.heap.size) : Below B a w' := h.grown hg hB (fun k e => by cases e)

/-- append of a slice's elements -/
theorem wpList_que {P : Program} (w : World) {ops : Array Oper} {rest : List Oper} {o : Oper} {a : Act} {Q : Exit → Act → World → Prop} (hgd : o.guard = none) (s x : Operand) (t : TypeId)
    (hop : o.op = Op.call { callee := Callee.builtin Builtin.append, args := #[s, x], argTypes := #[t, t] })
    (e : TypeId) (i : TypeInfo) (z : Value) (bytes : Nat) (h1 : P.underlying t = some (.slice e)) (h2 : P.info? e = some i) (h3 : i.zero = some z) (h4 : i.size = 1) (h5 : i.bytes = bytes) (h6 : z.cells.size = 1)
    (base : Nat) (A : Option Addr) (n c : Nat) (cs : List Value) (hs : a.eval s = .slice A n c) (hq : Que w base A n c cs)
    (L : Option Addr) (m d : Nat) (news : List Value) (hx : a.eval x = .slice L m d) (hn : news.length = m) (hc : Cells w L news) (h1c : ∀ u ∈ news, u.oneCell' = true)
    (b1 : n + m ≤ maxLen) (b2 : (n + m) * bytes ≤ 140737488355328) (hbase : base ≤ w.heap.size)
    (hK : ∀ A' c' w', Que w' base A' (n + m) c' (cs ++ news) → (∀ B, B ≤ base → Below B w w') → wpList P ops Q rest (a.put o.dst (.slice A' (n + m) c')) w') :
    wpList P ops Q (o :: rest) a w := by
  obtain ⟨b, q, rfl, g1, g2, g3, g4, g5, g6⟩ := id hq
  by_cases hm : m = 0
  · subst hm
    obtain rfl : news = [] := List.eq_nil_of_length_eq_zero hn
    refine wpList_plain hgd fun K hK' => ?_
    have hsrc : Src P i.size t (.slice L 0 d) 0 [] w := by
      cases L with
      | none => exact Src.ofNil w h1 d
      | some ad => exact Src.ofSlice w h1 ad 0 d [] (by simp) (fun j u hu => by simp at hu) (fun u hu => by cases hu)
    have hrun := run_append_nothing (P := P) w t t o.type e i h1 h2 (some ⟨b, q, none⟩) n c g4 (.slice L 0 d) hsrc
    unfold Oper.wp
    simp [execOp, hop, resolve, invoke, builtin, hs, hx, hrun, Result.andThen]
    have := hK (some ⟨b, q, none⟩) c w (by rw [List.append_nil]; exact hq) (fun B _ => Below.refl _ _)
    exact hK' _ _ this
  · obtain ⟨lb, lo, rfl, -, -⟩ := hc 0 (by omega)
    have hl : ∀ j u, news[j]? = some u → w.cell? ((⟨lb, lo, none⟩ : Addr).add j) = some u := fun j u hu => by
      obtain ⟨b', o', e', -, hcc⟩ := hc j (List.getElem?_eq_some_iff.1 hu).1
      cases e'
      rw [Addr.add_lit, hcc, List.getD_eq_getElem?_getD, hu]; rfl
    refine wpList_append_arg w hgd s x t hop e i z 1 bytes h1 h2 h3 h4 h5 h6 (by omega) b q n c cs hs (by omega) g6 ⟨lb, lo, none⟩ m d news hx (by omega) hl h1c ?_ b1 b2 ?_ ?_
    · intro hr j hj
      rw [Nat.mul_one, Nat.add_assoc]
      exact g5 (n + j) (by omega)
    · intro hr
      rw [Nat.mul_one]
      have hin := World.cell?_setCells_in b news (q + n) w (fun j hj => by rw [Nat.add_assoc]; exact (g5 (n + j) (by omega)).1)
      refine hK (some ⟨b, q, none⟩) c _ ⟨b, q, rfl, g1, ?_, by simp; omega, by omega, fun j hj => ?_, fun j u hu => ?_⟩ (fun B hB => Below.setCells (by omega) news (q + n) w (Below.refl _ _))
      · have := (Below.setCells (B := 0) (b := b) (Nat.zero_le _) news (q + n) w (Below.refl 0 w)).size; omega
      · rw [World.frozen?_setCells]
        refine ⟨?_, (g5 j hj).2⟩
        by_cases hj2 : n ≤ j ∧ j < n + news.length
        · have := hin (j - n) (by omega)
          rw [show q + n + (j - n) = q + j from by omega] at this
          rw [this]; rfl
        · rw [World.cell?_setCells_out b news (q + n) w ⟨b, q + j, none⟩ (fun _ _ => by simp only; omega)]
          exact (g5 j hj).1
      · by_cases hj2 : j < n
        · rw [List.getElem?_append_left (by omega)] at hu
          rw [World.cell?_setCells_out b news (q + n) w ⟨b, q + j, none⟩ (fun _ _ => by simp only; omega)]
          exact g6 j u hu
        · rw [List.getElem?_append_right (by omega), g3] at hu
          have hlt := (List.getElem?_eq_some_iff.1 hu).1
          have := hin (j - n) hlt
          rw [show q + n + (j - n) = q + j from by omega] at this
          rw [this, ← hu, List.getElem?_eq_getElem hlt]
    · intro hr v' w' hown hg
      obtain ⟨hlen, ⟨rfl, h0⟩ | ⟨g, cap, cur, rfl, k1, k2, k3, k4, k5, k6⟩⟩ := hown
      · omega
      · rw [Nat.mul_one] at k5 k6
        refine hK (some ⟨g, 0, none⟩) cap w' ⟨g, 0, rfl, by omega, (Array.getElem?_eq_some_iff.1 k2).1, by omega, k3, fun j hj => ?_, fun j u hu => ?_⟩ (fun B hB => Below.grownNone (Below.refl _ _) hg (by omega))
        · rw [Nat.zero_add]
          refine ⟨?_, by simp [World.frozen?, k2]⟩
          simp only [World.cell?, k2]
          simp [show j < cur.size from by omega]
        · rw [Nat.zero_add, ← k6, List.getElem?_take] at *
          split at hu
          · simpa [World.cell?, k2] using hu
          · cases hu
end Go.Proofs.Ytibpmogmeoappab

/- Walk: need.Kept. -/
namespace Go.Proofs.Ytibpmogmeoappab
open Go.RowKit

/-- the results are a row of truths and an error's number -/
def RetBools (w : World) (L : List Bool) (z : Int) (e : Ending) (w' : World) : Prop :=
  ∃ (A : Option Addr) (n c : Nat), e = .returned (.tuple #[.slice A n c, .int .i64 z]) ∧ L.length = n ∧ Cells w' A (L.map Value.bool) ∧ Below w.heap.size w w'
def isOff : Value → Bool
  | .bool false => true
  | _ => false
def lenV : Value → Nat
  | .slice _ n _ => n
  | _ => 0
def offIn (w : World) (g : Nat) : Nat :=
  match w.heap[g]? with
  | some (.cells cs _ _) => (cs.toList.filter isOff).length
  | _ => 0
theorem offIn_eq {w : World} {g : Nat} {t : TypeId} {out : List Bool} (h : Blk w g t (out.map Value.bool)) : offIn w g = unmarked out := by
  unfold offIn
  rw [show w.heap[g]? = _ from h]
  simp only [unmarked]
  clear h
  induction out with
  | nil => rfl
  | cons x xs ih =>
    rw [List.map_cons]
    cases x
    · rw [List.filter_cons_of_pos (by rfl), List.filter_cons_of_pos (by rfl), List.length_cons, List.length_cons, ih]
    · rw [List.filter_cons_of_neg (by simp [isOff]), List.filter_cons_of_neg (by simp), ih]
theorem frSources_at {f : Frm} (h : FrmOk f) {k : Nat} (hk : k < f.P.length) : (frSources f)[k]? = some (srcs f k) := by
  unfold frSources srcsTo
  rw [if_pos (frErr_zero.2 h), List.getElem?_map, List.getElem?_range hk]
  rfl
/-- between two rounds -/
structure KRel (f : Frm) (w2 : World) (B : Nat) (xs : List Int) (out : List Bool) (A : Option Addr) (n c : Nat) (wr : World) : Prop where
  blk : Blk wr B 4 (out.map Value.bool)
  que : Que wr (B + 1) A n c (xs.map (Value.int .i64))
  below : Below B w2 wr
  waits : Waits f out xs
  bound : 3 * unmarked out + xs.length ≤ 37
theorem srcs_le (f : Frm) (k : Nat) : (srcs f k).length ≤ 2 := by
  unfold srcs
  split <;> split <;> simp
theorem ints_one (xs : List Int) : ∀ u ∈ xs.map (Value.int .i64), u.oneCell' = true := by
  intro u hu
  obtain ⟨x, -, rfl⟩ := List.mem_map.1 hu
  rfl
theorem Try.infoBool : (Try.prog.info? 4).map (fun i => (i.zero, i.size, i.bytes)) = some (some (.bool false), 1, 1) := by kernel_rfl
/-- make of a row of truths -/
theorem run_make_bools (i : TypeInfo) (hi : Try.prog.info? 4 = some i) (hz : i.zero = some (.bool false)) (hs : i.size = 1) (hb : i.bytes = 1) (N : Nat) (h1 : N ≤ 65536) (w : World) :
    (Instr.makeSlice 65 (.int .i64 (N : Int)) (.int .i64 (N : Int))).run Try.prog w = .ok (.slice (some ⟨w.heap.size, 0, none⟩) N N) (w.alloc (.cells (List.replicate N (Value.bool false)).toArray 4)) := by
  have hr := run_make (P := Try.prog) w 65 4 i (.bool false) Try.underlying65 hi hz .i64 .i64 (N : Int) (N : Int) (by omega) (by omega) (by rw [hb]; omega) (by omega)
  simp only [Int.toNat_natCast] at hr
  rw [hr, hs]
  have e1 : madeCells (Value.bool false).cells (N * 1) = (List.replicate N (Value.bool false)).toArray := by
    rw [Nat.mul_one]
    apply Array.ext'
    simp [madeCells, Value.cells, Nat.mod_one, List.map_const']
  rw [e1]

set_option maxRecDepth 100000 in
set_option maxHeartbeats 4000000 in
theorem kept_ok (W H S O : Int) (PA : Option Addr) (n c : Nat) (ps : List Pas) (w : World) (hn : ps.length = n) (hP : Passes w PA ps) (hf0 : FrmOk ⟨W, H, S, O, ps⟩) :
    Calls Try.prog 38 #[.agg #[.int .i64 W, .int .i64 H, .int .i64 S, .int .i64 O, .slice PA n c]] w (RetBools w (keptL ⟨W, H, S, O, ps⟩) 0) := by
  have hmany := hf0.many
  have hla := hf0.last
  simp only [hn] at hmany hla
  have hb := (Below.refl w.heap.size w).alloc (Nat.le_refl _) (.cells #[.int .i64 W, .int .i64 H, .int .i64 S, .int .i64 O, .slice PA n c] 24)
  have HBX := hide (show FrmBox (w.alloc (.cells #[.int .i64 W, .int .i64 H, .int .i64 S, .int .i64 O, .slice PA n c] 24)) w.heap.size W H S O PA n c from Blk.new w 24 (frmCells W H S O PA n c))
  have he := frErr_zero.2 hf0
  have hlst : lastAns ⟨W, H, S, O, ps⟩ = frLast ⟨W, H, S, O, ps⟩ := if_pos he
  have HL := hide (fun (W0 : World) (h1 : Passes W0 PA ps) => last_any W H S O PA n c ps W0 hn h1)
  have HS := hide (fun (W0 : World) (h1 : Passes W0 PA ps) => sources_any W H S O PA n c ps W0 hn h1)
  rw [hlst, he] at HL
  rw [he] at HS
  have HLEN := hide (show Frm.P ⟨W, H, S, O, ps⟩ = ps from rfl)
  have HB0 := hide hb
  have HP := hide (Keeps.passes hP)
  obtain ⟨f, hf⟩ : ∃ f : Frm, f = ⟨W, H, S, O, ps⟩ := ⟨_, rfl⟩
  rw [← hf] at HL HS hf0 hla HLEN hlst ⊢
  have hfl : f.P.length = n := by rw [HLEN.out, hn]
  have HW0 := hide (waits_start hf0)
  have HOK := hide hf0
  obtain ⟨lst, hlst2⟩ : ∃ l : Nat, frLast f = (l : Int) := ⟨(frLast f).toNat, by omega⟩
  rw [hlst2] at HL HW0 hla
  have HFL := hide hfl
  have HN := hide hn
  clear hP hf0 hb hf he hlst hlst2 hfl hn HLEN
  obtain ⟨i0, hi0, hz0, hz1, hz2⟩ := info_parts Try.infoBool
  have hmk := fun W0 => run_make_bools i0 hi0 hz0 hz1 hz2 n (by omega) W0
  clear hi0 hz0 hz1 hz2
  obtain ⟨j0, hj0, jz0, jz1, jz2⟩ := info_parts Try.info3
  go_enter Try.func38, Try.ntmps38
  obtain ⟨x, q0, q1, q2, q3, q4⟩ := FrmBox.cells HBX.out
  go_wp2_with fail
  refine ((unhide HL) _ (HP.out.later _ HB0.out)).mono ?_
  rintro e w1 ⟨rfl, hE1⟩
  have HB1 := hide (HB0.out.trans (hE1.mono HB0.out.size))
  have HX1 := hide (Blk.keep HBX.out hE1)
  clear x q0 q1 q2 q3 q4 HB0 HBX hE1 HL
  obtain ⟨x, q0, q1, q2, q3, q4⟩ := FrmBox.cells HX1.out
  go_wp2_with fail
  refine ((unhide HS) _ (HP.out.later _ HB1.out)).mono ?_
  rintro e w2 ⟨SA, sn, sc, rfl, hsn, hSI, hE2⟩
  have HB2 := hide (HB1.out.trans (hE2.mono HB1.out.size))
  have HX2 := hide (Blk.keep HX1.out hE2)
  obtain rfl : n = sn := by
    rw [← hsn, ← HFL.out]
    unfold frSources srcsTo
    rw [if_pos (frErr_zero.2 HOK.out)]
    simp
  have HSI := hide (Keeps.intRows hSI)
  clear x q0 q1 q2 q3 q4 HB1 HX1 hE2 HS hSI hsn
  obtain ⟨x, q0, q1, q2, q3, q4⟩ := FrmBox.cells HX2.out
  have hb3 := ((Below.refl w2.heap.size w2).alloc (Nat.le_refl _) (.cells (List.replicate n (Value.bool false)).toArray 4)).alloc (by simp) (.cells #[.int .i64 (lst : Int)] 3)
  have hK0 : KRel f w2 w2.heap.size [(lst : Int)] (List.replicate n false) (some ⟨w2.heap.size + 1, 0, none⟩) 1 1 ((w2.alloc (.cells (List.replicate n (Value.bool false)).toArray 4)).alloc (.cells #[.int .i64 (lst : Int)] 3)) :=
    ⟨by rw [List.map_replicate]; exact (Blk.new w2 4 _).alloc _, Que.of_blk (t := 3) (cs := [Value.int .i64 (lst : Int)]) (Blk.newE (by simp)) (Nat.le_refl _), hb3, by have := HW0.out; rw [HFL.out] at this; exact this, by have := unmarked_le (List.replicate n false); simp at this ⊢; omega⟩
  have HK0 := hide hK0
  clear hb3 hK0
  go_wp2_with fail
  go_loopw [9, 10] (fun s _ wr => ∃ (xs : List Int) (out : List Bool) (A : Option Addr) (k d : Nat), s = .slice A k d ∧ Hid (KRel f w2 w2.heap.size xs out A k d wr)) (fun s _ wr => 3 * offIn wr w2.heap.size + lenV s)
  case atStart => exact ⟨_, _, _, _, _, rfl, HK0⟩
  case round =>
    obtain ⟨xs, out, A, k, d, rfl, HR⟩ := hrel
    cases xs with
    | nil =>
      obtain rfl : k = 0 := by have := Que.len HR.out.que; simpa using this.symm
      go_wp2_with fail
      go_ret2
      have hdone := Waits.done HOK.out HR.out.waits
      rw [← hdone]
      exact ⟨_, _, _, rfl, by rw [HR.out.waits.len, HFL.out], Blk.cells HR.out.blk, HB2.out.trans (HR.out.below.mono HB2.out.size)⟩
    | cons x xs =>
      obtain ⟨b, o, rfl, hk1, hkd, hblt, hbb, hx0, hpop⟩ := Que.pop HR.out.que
      obtain ⟨⟨hx1, hx2⟩, -⟩ := HR.out.waits.work x (by simp)
      obtain ⟨y, rfl⟩ := Int.eq_ofNat_of_zero_le hx1
      rw [HFL.out] at hx2
      have hy : y < n := by omega
      have hlen := HR.out.waits.len
      rw [HFL.out] at hlen
      have hoy : wr.cell? ⟨w2.heap.size, y, none⟩ = some (.bool (out.getD y false)) := by
        rw [Blk.cell HR.out.blk, List.getElem?_map, List.getD_eq_getElem?_getD, List.getElem?_eq_getElem (by omega)]; rfl
      have hofz := Blk.frozen HR.out.blk y
      have HQ := hide hpop
      clear hpop
      have hcap : (d = 1 ∧ k = 1) ∨ ∃ d', d = d' + 2 := by
        rcases Nat.lt_or_ge d 2 with h | h
        · exact .inl (by omega)
        · exact .inr ⟨d - 2, by omega⟩
      have hbd := HR.out.bound
      simp only [List.length_cons] at hbd
      have hql := Que.len HQ.out
      rw [List.length_map] at hql
      cases hob : out.getD y false with
      | true =>
        have HS := hide (HR.out.waits.skip (by rw [Int.toNat_natCast]; exact hob))
        rw [hob] at hoy
        have HB := hide HR.out.blk
        have HW := hide HR.out.below
        clear HR
        rcases hcap with ⟨rfl, rfl⟩ | ⟨d', rfl⟩
        · go_wp2_with fail
          refine ⟨⟨_, _, _, _, _, rfl, hide ⟨HB.out, Que.any0 HQ.out, HW.out, HS.out, by omega⟩⟩, by simp only [lenV]; omega⟩
        · go_wp2_with fail
          refine ⟨⟨_, _, _, _, _, rfl, hide ⟨HB.out, HQ.out, HW.out, HS.out, by omega⟩⟩, by simp only [lenV]; omega⟩
      | false =>
        have HS := hide (HR.out.waits.take HOK.out)
        simp only [Int.toNat_natCast] at HS
        have hun := unmarked_set (show y < out.length from by omega) hob
        have hbo := HR.out.blk.set_ y (.bool true)
        rw [show (out.map Value.bool).set y (.bool true) = (out.set y true).map Value.bool from by rw [List.map_set]] at hbo
        have hof := offIn_eq HR.out.blk
        obtain ⟨rb, ro, RB, rm, rd, rfl, hrlt, hrc, hrn, hri⟩ := HSI.out.now y (srcs f y) (frSources_at HOK.out (by rw [HFL.out]; exact hy))
        have hrc1 := (HR.out.below.cell (p := ⟨rb, ro + y, none⟩) hrlt).trans hrc
        have hW1 := HR.out.below.setCell (p := ⟨w2.heap.size, y, none⟩) (Nat.le_refl _) (.bool true)
        have hrc2 := (hW1.cell (p := ⟨rb, ro + y, none⟩) hrlt).trans hrc
        have hne : rb ≠ w2.heap.size := by omega
        have HRI := hide (Cells.keep hri hW1)
        have HQ2 := hide (HQ.out.far (p := ⟨w2.heap.size, y, none⟩) (by simp) (.bool true))
        have HBO := hide hbo
        have HW := hide hW1
        have HUN := hide hun
        have HOF := hide hof
        have hrm := srcs_le f y
        rw [hrn] at hrm
        have HLM := hide (show ((srcs f y).map (Value.int .i64)).length = rm from by rw [List.length_map]; exact hrn)
        have HSZ := hide (show w2.heap.size + 1 ≤ (wr.setCell ⟨w2.heap.size, y, none⟩ (.bool true)).heap.size from by have := Blk.lt hbo; omega)
        rw [hob] at hoy
        clear HQ HR hW1 hri hbo hun hof
        rcases hcap with ⟨rfl, rfl⟩ | ⟨d', rfl⟩
        · go_wp2_with (at_builtin; go_loud (refine wpList_que (wr.setCell ⟨w2.heap.size, y, none⟩ (.bool true)) rfl _ _ 25 rfl 3 j0 (.int .i64 0) 8 Try.underlying25 hj0 jz0 jz1 jz2 rfl (w2.heap.size + 1) _ _ _ (xs.map (Value.int .i64)) rfl (Que.any0 (q' := o) HQ2.out) RB rm rd ((srcs f y).map (Value.int .i64)) rfl HLM.out HRI.out (ints_one _) (by simp only [maxLen]; omega) (by omega) HSZ.out ?_; intro A9 c9 w9 hq9 hb9))
          have hB9 := Blk.below HBO.out (hb9 (w2.heap.size + 1) (Nat.le_refl _)) (by omega)
          have hof9 := offIn_eq hB9
          have hun9 := HUN.out
          have hof := HOF.out
          rw [Nat.zero_add] at hq9
          refine ⟨⟨xs ++ srcs f y, out.set y true, _, _, _, rfl, hide ⟨hB9, by rw [List.map_append]; exact hq9, HW.out.trans (hb9 w2.heap.size (by omega)), HS.out, by rw [List.length_append]; omega⟩⟩, by simp only [lenV]; omega⟩
        · go_wp2_with (at_builtin; go_loud (refine wpList_que (wr.setCell ⟨w2.heap.size, y, none⟩ (.bool true)) rfl _ _ 25 rfl 3 j0 (.int .i64 0) 8 Try.underlying25 hj0 jz0 jz1 jz2 rfl (w2.heap.size + 1) _ _ _ (xs.map (Value.int .i64)) rfl (HQ2.out) RB rm rd ((srcs f y).map (Value.int .i64)) rfl HLM.out HRI.out (ints_one _) (by simp only [maxLen]; omega) (by omega) HSZ.out ?_; intro A9 c9 w9 hq9 hb9))
          have hB9 := Blk.below HBO.out (hb9 (w2.heap.size + 1) (Nat.le_refl _)) (by omega)
          have hof9 := offIn_eq hB9
          have hun9 := HUN.out
          have hof := HOF.out
          refine ⟨⟨xs ++ srcs f y, out.set y true, _, _, _, rfl, hide ⟨hB9, by rw [List.map_append]; exact hq9, HW.out.trans (hb9 w2.heap.size (by omega)), HS.out, by rw [List.length_append]; omega⟩⟩, by simp only [lenV]; omega⟩

theorem kept_any (W H S O : Int) (PA : Option Addr) (n c : Nat) (ps : List Pas) (w : World) (hn : ps.length = n) (hP : Passes w PA ps) :
    Calls Try.prog 38 #[.agg #[.int .i64 W, .int .i64 H, .int .i64 S, .int .i64 O, .slice PA n c]] w (RetBools w (keptAns ⟨W, H, S, O, ps⟩) (frErr ⟨W, H, S, O, ps⟩)) := by
  by_cases he : frErr ⟨W, H, S, O, ps⟩ = 0
  · have := kept_ok W H S O PA n c ps w hn hP (frErr_zero.1 he)
    unfold keptAns
    rw [if_pos he, he]
    exact this
  · have hb := (Below.refl w.heap.size w).alloc (Nat.le_refl _) (.cells #[.int .i64 W, .int .i64 H, .int .i64 S, .int .i64 O, .slice PA n c] 24)
    have HL := hide (last_any W H S O PA n c ps _ hn (hP.keep hb))
    have hka : keptAns ⟨W, H, S, O, ps⟩ = [] := if_neg he
    have HB := hide hb
    obtain ⟨x, q0, q1, q2, q3, q4⟩ := FrmBox.cells (show FrmBox (w.alloc (.cells #[.int .i64 W, .int .i64 H, .int .i64 S, .int .i64 O, .slice PA n c] 24)) w.heap.size W H S O PA n c from Blk.new w 24 (frmCells W H S O PA n c))
    rw [hka]
    generalize lastAns ⟨W, H, S, O, ps⟩ = la at HL
    generalize frErr ⟨W, H, S, O, ps⟩ = er at *
    have hz2 : (er == 0) = false := by simpa using he
    clear hn hP hb he hka
    go_enter Try.func38, Try.ntmps38
    go_wp2_with fail
    refine (unhide HL).mono ?_
    rintro e w1 ⟨rfl, hE1⟩
    have HB1 := hide (HB.out.trans (hE1.mono HB.out.size))
    clear HB HL hE1
    go_wp2_with fail
    go_ret2
    exact ⟨none, 0, 0, rfl, rfl, Cells.nil _ _, HB1.out⟩
end Go.Proofs.Ytibpmogmeoappab

/- Walk: slices.Clone of lights. -/
namespace Go.Proofs.Ytibpmogmeoappab
open Go.RowKit

/-- append onto an empty slice: a copy -/
theorem wpList_copy {P : Program} (w : World) {ops : Array Oper} {rest : List Oper} {o : Oper} {a : Act} {Q : Exit → Act → World → Prop} (hgd : o.guard = none) (s x : Operand) (t : TypeId)
    (hop : o.op = Op.call { callee := Callee.builtin Builtin.append, args := #[s, x], argTypes := #[t, t] })
    (e : TypeId) (i : TypeInfo) (z : Value) (size bytes : Nat) (h1 : P.underlying t = some (.slice e)) (h2 : P.info? e = some i) (h3 : i.zero = some z) (h4 : i.size = size) (h5 : i.bytes = bytes) (h6 : z.cells.size = size) (h7 : 0 < size)
    (b : Addr) (hs : a.eval s = .slice (some b) 0 0)
    (L : Option Addr) (m d : Nat) (news : List Value) (hx : a.eval x = .slice L m d) (hn : news.length = m * size) (hc : Cells w L news) (h1c : ∀ u ∈ news, u.oneCell' = true)
    (b1 : m ≤ maxLen) (b2 : m * bytes ≤ 140737488355328)
    (hK : ∀ A' c' w', Cells w' A' news → (news ≠ [] → NewFrom w.heap.size A') → Below w.heap.size w w' → wpList P ops Q rest (a.put o.dst (.slice A' m c')) w') :
    wpList P ops Q (o :: rest) a w := by
  by_cases hm : m = 0
  · subst hm
    obtain rfl : news = [] := List.eq_nil_of_length_eq_zero (by omega)
    refine wpList_plain hgd fun K hK' => ?_
    have hsrc : Src P i.size t (.slice L 0 d) 0 [] w := by
      cases L with
      | none => exact Src.ofNil w h1 d
      | some ad => exact Src.ofSlice w h1 ad 0 d [] (by simp) (fun j u hu => by simp at hu) (fun u hu => by cases hu)
    have hrun := run_append_nothing (P := P) w t t o.type e i h1 h2 (some b) 0 0 (Nat.le_refl _) (.slice L 0 d) hsrc
    unfold Oper.wp
    simp [execOp, hop, resolve, invoke, builtin, hs, hx, hrun, Result.andThen]
    have := hK (some b) 0 w (Cells.nil _ _) (fun h => absurd rfl h) (Below.refl _ _)
    exact hK' _ _ this
  · have hpos : 0 < news.length := by rw [hn]; exact Nat.mul_pos (Nat.pos_of_ne_zero hm) h7
    obtain ⟨lb, lo, rfl, -, -⟩ := hc 0 hpos
    have hl : ∀ j u, news[j]? = some u → w.cell? ((⟨lb, lo, none⟩ : Addr).add j) = some u := fun j u hu => by
      obtain ⟨b', o', e', -, hcc⟩ := hc j (List.getElem?_eq_some_iff.1 hu).1
      cases e'
      rw [Addr.add_lit, hcc, List.getD_eq_getElem?_getD, hu]; rfl
    refine wpList_append_grows w hgd s x t hop e i z size bytes h1 h2 h3 h4 h5 h6 h7 (some b) 0 0 [] hs (fun h => by cases h) (by simp) (fun b' _ j u hu => by simp at hu) ⟨lb, lo, none⟩ m d news hx hn hl h1c (by omega) (by omega) (by rw [Nat.zero_add]; exact b2) ?_
    intro v' w' hown hg
    rw [Nat.zero_add, List.nil_append] at hown
    obtain ⟨-, ⟨-, h0⟩ | ⟨g, cap, cur, rfl, k1, -⟩⟩ := id hown
    · omega
    · have hcl := Cells.of_own hown hn
      have := hK (some ⟨g, 0, none⟩) cap w' hcl (fun _ a ha => by cases ha; exact k1) (Below.grownNone (Below.refl _ _) hg (Nat.le_refl _))
      simpa using this
theorem lamps_one (ls : List Lamp) : ∀ u ∈ ls.flatMap lampCells, u.oneCell' = true := by
  intro u hu
  obtain ⟨x, -, hx⟩ := List.mem_flatMap.1 hu
  simp only [lampCells, List.mem_cons, List.not_mem_nil, or_false] at hx
  rcases hx with rfl | rfl | rfl | rfl <;> rfl
theorem flatMap_length4 (ls : List Lamp) : (ls.flatMap lampCells).length = ls.length * 4 := by
  induction ls with
  | nil => rfl
  | cons l ls ih => rw [List.flatMap_cons, List.length_append, ih, List.length_cons]; simp only [lampCells, List.length_cons, List.length_nil]; omega
/-- what comes is a copy of lights, in memory of its own -/
def RetLamps (w : World) (ls : List Lamp) (e : Ending) (w' : World) : Prop :=
  ∃ (A : Option Addr) (d : Nat), e = .returned (.slice A ls.length d) ∧ Lamps w' A ls ∧ (ls.flatMap lampCells ≠ [] → NewFrom w.heap.size A) ∧ Below w.heap.size w w'
theorem lamps_cells {w : World} {A : Option Addr} {ls : List Lamp} (h : Lamps w A ls) : Cells w A (ls.flatMap lampCells) := by
  intro t ht
  have hl4 := flatMap_length4 ls
  rw [hl4] at ht
  have hi : t / 4 < ls.length := by omega
  obtain ⟨b, o, hA, hlt, hc⟩ := h (t / 4) hi
  refine ⟨b, o, hA, hlt, ?_⟩
  have := hc (t % 4) (by omega)
  rw [show o + t / 4 * 4 + t % 4 = o + t from by omega] at this
  rw [this, List.getD_eq_getElem?_getD, List.getD_eq_getElem?_getD (l := ls.flatMap lampCells)]
  have h2 := flatMap_get lampCells 4 (fun _ => rfl) ls (t / 4) (t % 4) hi (by omega)
  rw [show t / 4 * 4 + t % 4 = t from by omega] at h2
  rw [h2, List.getD_eq_getElem?_getD, List.getElem?_eq_getElem hi]
  rfl
theorem run_eq_nilL (A : Option Addr) (n c : Nat) (w : World) : (binOp .eql 71 (.slice A n c) (.slice none 0 0)).run Try.prog w = .ok (.bool A.isNone) w := by
  simp only [binOp]
  simp [run_equal_slice_nil w 71 119 A n c Try.underlying71]
set_option maxRecDepth 100000 in
theorem cloneLamps_any (LA : Option Addr) (m d : Nat) (ls : List Lamp) (w : World) (hm : ls.length = m) (hL : Lamps w LA ls) (hb : m ≤ 65536) :
    Calls Try.prog 72 #[.slice LA m d] w (RetLamps w ls) := by
  subst hm
  have hnl := run_eq_nilL
  cases LA with
  | none =>
    obtain rfl : ls = [] := by
      cases ls with
      | nil => rfl
      | cons l ls => obtain ⟨b, o, e, -⟩ := hL 0 (by simp); cases e
    go_enter Try.func72, Try.ntmps72
    go_wp2
    go_ret
    exact ⟨none, _, rfl, fun i hi => absurd hi (Nat.not_lt_zero i), fun h => absurd rfl h, Below.refl _ _⟩
  | some ad =>
    obtain ⟨i0, hi0, hz0, hz1, hz2⟩ := info_parts Try.info119
    have hal := (Below.refl w.heap.size w).alloc (Nat.le_refl _) (.cells #[] 119)
    have HC := hide (lamps_cells (hL.keep hal))
    have HN := hide (flatMap_length4 ls)
    have HAL := hide hal
    clear hL hal
    go_enter Try.func72, Try.ntmps72
    go_wp2_with (at_builtin; go_loud (refine wpList_copy (w.alloc (.cells #[] 119)) rfl _ _ 71 rfl 119 i0 _ 4 32 Try.underlying71 hi0 hz0 hz1 hz2 rfl (by omega) _ rfl (some ad) ls.length d (ls.flatMap lampCells) rfl HN.out HC.out (lamps_one ls) (by simp only [maxLen]; omega) (by omega) ?_; intro A9 c9 w9 hc9 hn9 hb9))
    go_ret
    refine ⟨A9, c9, rfl, cells_lamps hc9, fun h => (hn9 h).mono (by simp), HAL.out.trans (hb9.mono HAL.out.size)⟩
end Go.Proofs.Ytibpmogmeoappab

/- Walk: need.Cull. -/
namespace Go.Proofs.Ytibpmogmeoappab
open Go.RowKit

theorem PassOk.few {S : Int} {p : Pas} {st : List Sz} (h : PassOk S p st) : p.L.length ≤ 8 := by
  by_cases hl : hasL p.Op = true
  · exact (lampsErr_zero (h.lamps hl)).1
  · have hf := h.form
    unfold formBad at hf
    simp only [Bool.or_eq_false_iff, Bool.and_eq_false_iff] at hf
    have := hf.1.1.2
    rcases this with e | e
    · simp [Bool.eq_false_iff.2 hl] at e
    · have := of_decide_eq_false e; omega
/-- passes -/
def PasK : Kind Pas := fun p cs B ds => ∃ m d, cs = passCells p B m d ∧ p.L.length = m ∧ ds = p.L.flatMap lampCells ∧ m ≤ 8
theorem GRow.passes {w : World} {base : Nat} {A : Option Addr} {n c : Nat} {xs : List Pas} {es : List (List Value × Option Addr × List Value)} (h : GRow PasK 6 73 w base A n c xs es) : Passes w A xs := by
  intro i hi
  obtain ⟨b, o, cs, B, ds, hA, hlt, ⟨m, d, rfl, hm, rfl, h8⟩, hcl, hcs⟩ := h.at_ (fun x cs B ds hE => by obtain ⟨m, d, rfl, -⟩ := hE; rfl) (List.getElem?_eq_getElem hi) (by omega)
  have e : xs.getD i noPas = xs[i] := by rw [List.getD_eq_getElem?_getD, List.getElem?_eq_getElem hi]; rfl
  rw [e]
  exact ⟨b, o, B, m, d, hA, hlt, fun j hj => hcs j hj, hm, cells_lamps hcl, by omega⟩
theorem Try.infoPas : (Try.prog.info? 73).map (fun i => (i.zero, i.size, i.bytes)) = some (some (.agg #[.int .i64 0, .int .i64 0, .int .i64 0, .int .i64 0, .int .i64 0, .slice none 0 0]), 6, 64) := by kernel_rfl
theorem pas_one (p : Pas) (A : Option Addr) (m d : Nat) : ∀ u ∈ passCells p A m d, u.oneCell' = true := by
  intro u hu
  simp only [passCells, List.mem_cons, List.not_mem_nil, or_false] at hu
  rcases hu with rfl | rfl | rfl | rfl | rfl | rfl <;> rfl
/-- between two rounds -/
structure CRel (W H S O : Int) (w1 : World) (B : Nat) (xs : List Pas) (es : List (List Value × Option Addr × List Value)) (A : Option Addr) (n c : Nat) (wr : World) : Prop where
  out : Blk wr B 24 (frmCells W H S O A n c)
  row : GRow PasK 6 73 wr (B + 1) A n c xs es
  new : ∀ e ∈ es, e.2.2 ≠ [] → NewFrom (B + 1) e.2.1
  below : Below B w1 wr
  len : xs.length = n
theorem CRel.keep {W H S O : Int} {w1 : World} {B : Nat} {xs : List Pas} {es : List (List Value × Option Addr × List Value)} {A : Option Addr} {n c : Nat} {wr w' : World} (h : CRel W H S O w1 B xs es A n c wr) (hb : Below wr.heap.size wr w') : CRel W H S O w1 B xs es A n c w' :=
  ⟨Blk.keep h.out hb, h.row.keep hb, h.new, h.below.trans (hb.mono (by have := Blk.lt h.out; omega)), h.len⟩
/-- one more, and the frame's field is set -/
theorem CRel.app {W H S O : Int} {w1 : World} {B : Nat} {xs : List Pas} {es : List (List Value × Option Addr × List Value)} {A A' LB : Option Addr} {n c c' m d : Nat} {wr w' : World} {p : Pas} (h : CRel W H S O w1 B xs es A n c wr)
    (hm : p.L.length = m) (h8 : m ≤ 8) (hL : Lamps wr LB p.L) (hne : p.L.flatMap lampCells ≠ [] → NewFrom (B + 1) LB) (hnb : p.L.flatMap lampCells ≠ [] → ∀ a, LB = some a → (Value.slice A n c).ownBlock ≠ some a.block)
    (ho : Own w' (B + 1) 73 6 A' (n + 1) c' (es.flatMap (·.1) ++ passCells p LB m d)) (hg : (wr.alloc (.cells (passCells p LB m d).toArray 73)).grownBy w' (Value.slice A n c).ownBlock)
    (hat : (Value.slice A' (n + 1) c').ownBlock = (Value.slice A n c).ownBlock ∨ (Value.slice A' (n + 1) c').ownBlock = some (wr.alloc (.cells (passCells p LB m d).toArray 73)).heap.size) :
    CRel W H S O w1 B (xs ++ [p]) (es ++ [(passCells p LB m d, LB, p.L.flatMap lampCells)]) A' (n + 1) c' (w'.setCell ⟨B, 4, none⟩ (.slice A' (n + 1) c')) := by
  have hr := h.row.app (x := p) ⟨m, d, rfl, hm, rfl, h8⟩ (lamps_cells hL) hnb ho hg hat
  have hnew : ∀ e ∈ es ++ [(passCells p LB m d, LB, p.L.flatMap lampCells)], e.2.2 ≠ [] → NewFrom (B + 1) e.2.1 := by
    intro e he
    rcases List.mem_append.1 he with he | he
    · exact h.new e he
    · simp only [List.mem_singleton] at he; subst he; exact hne
  have hob := Blk.grown (Blk.alloc h.out (.cells (passCells p LB m d).toArray 73)) (h.row.own.alloc _) hg (Nat.lt_succ_self B)
  have hlt := Blk.lt h.out
  refine ⟨(hob.set_ 4 (.slice A' (n + 1) c')), ⟨hr.own.far (p := ⟨B, 4, none⟩) (Nat.lt_succ_self B) _, hr.spelt.farB hnew (Nat.lt_succ_self B) _⟩, hnew, ?_, by rw [List.length_append, h.len]; rfl⟩
  have hba := h.below.alloc (by omega) (.cells (passCells p LB m d).toArray 73)
  exact (Below.grownOwn hba (h.row.own.alloc _) hg (by simp; omega) (Nat.le_succ B)).setCell (p := ⟨B, 4, none⟩) (Nat.le_refl _) _
theorem GRow.far5 {w : World} {base : Nat} {A : Option Addr} {n c : Nat} {xs : List Pas} {es : List (List Value × Option Addr × List Value)} (h : GRow PasK 6 73 w base A n c xs es) (hn : ∀ e ∈ es, e.2.2 ≠ [] → NewFrom base e.2.1) {p : Addr} (hp : p.block < base) (u : Value) :
    GRow PasK 6 73 (w.setCell p u) base A n c xs es := ⟨h.own.far hp u, h.spelt.farB hn hp u⟩

theorem Lamps.far {w : World} {B : Nat} {A : Option Addr} {ls : List Lamp} (h : Lamps w A ls) (hn : ls.flatMap lampCells ≠ [] → NewFrom B A) {p : Addr} (hp : p.block < B) (u : Value) : Lamps (w.setCell p u) A ls := by
  by_cases he : ls.flatMap lampCells = []
  · refine cells_lamps ?_
    rw [he]
    exact Cells.nil _ _
  · exact cells_lamps ((lamps_cells h).far (hn he) hp u)
theorem cullTo_le (f : Frm) : ∀ k, (cullTo f k).length ≤ k
  | 0 => Nat.le_refl _
  | k + 1 => by
    rw [cullTo_succ, List.length_append]
    have := cullTo_le f k
    split <;> simp <;> omega
theorem frmRes {w : World} {g : Nat} {W H S O : Int} {A : Option Addr} {n c : Nat} (h : Blk w g 24 (frmCells W H S O A n c)) :
    g < w.heap.size ∧ w.cell? ⟨g, 0, none⟩ = some (.int .i64 W) ∧ w.cell? ⟨g, 1, none⟩ = some (.int .i64 H) ∧ w.cell? ⟨g, 2, none⟩ = some (.int .i64 S) ∧ w.cell? ⟨g, 3, none⟩ = some (.int .i64 O) ∧ w.cell? ⟨g, 4, none⟩ = some (.slice A n c) ∧
      w.frozen? ⟨g, 0, none⟩ = false ∧ w.frozen? ⟨g, 1, none⟩ = false ∧ w.frozen? ⟨g, 2, none⟩ = false ∧ w.frozen? ⟨g, 3, none⟩ = false ∧ w.frozen? ⟨g, 4, none⟩ = false := by
  obtain ⟨x, q0, q1, q2, q3, q4⟩ := FrmBox.cells (show FrmBox w g W H S O A n c from h)
  exact ⟨x, q0, q1, q2, q3, q4, Blk.frozen h 0, Blk.frozen h 1, Blk.frozen h 2, Blk.frozen h 3, Blk.frozen h 4⟩
/-- what comes is a frame and an error's number -/
def RetFrm (w : World) (f : Frm) (z : Int) (e : Ending) (w' : World) : Prop :=
  ∃ (A : Option Addr) (n c : Nat), e = .returned (.tuple #[.agg #[.int .i64 f.W, .int .i64 f.H, .int .i64 f.S, .int .i64 f.O, .slice A n c], .int .i64 z]) ∧ f.P.length = n ∧ Passes w' A f.P ∧ Below w.heap.size w w'

set_option maxRecDepth 100000 in
set_option maxHeartbeats 4000000 in
theorem cull_ok (W H S O : Int) (PA : Option Addr) (n c : Nat) (ps : List Pas) (w : World) (hn : ps.length = n) (hP : Passes w PA ps) (hf0 : FrmOk ⟨W, H, S, O, ps⟩) :
    Calls Try.prog 37 #[.agg #[.int .i64 W, .int .i64 H, .int .i64 S, .int .i64 O, .slice PA n c]] w (RetFrm w (frCull ⟨W, H, S, O, ps⟩) 0) := by
  have hmany := hf0.many
  simp only [hn] at hmany
  have hb := ((Below.refl w.heap.size w).alloc (Nat.le_refl _) (.cells #[.int .i64 W, .int .i64 H, .int .i64 S, .int .i64 O, .slice PA n c] 24)).alloc (by simp) (.cells #[.int .i64 0, .int .i64 0, .int .i64 0, .int .i64 0, .slice none 0 0] 24)
  have HBX := hide ((show FrmBox (w.alloc (.cells #[.int .i64 W, .int .i64 H, .int .i64 S, .int .i64 O, .slice PA n c] 24)) w.heap.size W H S O PA n c from Blk.new w 24 (frmCells W H S O PA n c)).alloc (.cells #[.int .i64 0, .int .i64 0, .int .i64 0, .int .i64 0, .slice none 0 0] 24))
  have HRS := hide (show Blk ((w.alloc (.cells #[.int .i64 W, .int .i64 H, .int .i64 S, .int .i64 O, .slice PA n c] 24)).alloc (.cells #[.int .i64 0, .int .i64 0, .int .i64 0, .int .i64 0, .slice none 0 0] 24)) (w.heap.size + 1) 24 (frmCells 0 0 0 0 none 0 0) from Blk.newE (by simp))
  have hsz0 : ((w.alloc (.cells #[.int .i64 W, .int .i64 H, .int .i64 S, .int .i64 O, .slice PA n c] 24)).alloc (.cells #[.int .i64 0, .int .i64 0, .int .i64 0, .int .i64 0, .slice none 0 0] 24)).heap.size = w.heap.size + 2 := by simp
  have he := frErr_zero.2 hf0
  have hka : keptAns ⟨W, H, S, O, ps⟩ = keptL ⟨W, H, S, O, ps⟩ := if_pos he
  have HK := hide (kept_any W H S O PA n c ps _ hn (hP.keep hb))
  rw [hka, he] at HK
  have HRW := hide (hP.rows (by omega))
  have hw8 : ∀ j, j < n → (ps.getD j noPas).L.length ≤ 8 := fun j hj => (hf0.pass (k := j) (by simp only [hn]; exact hj)).few
  have HLEN := hide (keptL_len ⟨W, H, S, O, ps⟩)
  have HB0 := hide hb
  have HN := hide hn
  have HW8 := hide hw8
  obtain ⟨f, hf⟩ : ∃ f : Frm, f = ⟨W, H, S, O, ps⟩ := ⟨_, rfl⟩
  have HFP := hide (show f.P = ps from by rw [hf])
  have HFQ := hide (show f.W = W ∧ f.H = H ∧ f.S = S ∧ f.O = O from by rw [hf]; exact ⟨rfl, rfl, rfl, rfl⟩)
  rw [← hf] at HK HLEN ⊢
  clear hP hf0 hb hf he hka hn hw8
  go_enter Try.func37, Try.ntmps37
  obtain ⟨x, q0, q1, q2, q3, q4⟩ := FrmBox.cells HBX.out
  go_wp2_with fail
  refine (unhide HK).mono ?_
  rintro e w1 ⟨KA, kn, kc, rfl, hkn, hKC, hE1⟩
  have hs1 := hE1.size
  rw [hsz0] at hs1
  have HB1 := hide (HB0.out.trans (hE1.mono HB0.out.size))
  have HX1 := hide (Blk.keep HBX.out hE1)
  have HR1 := hide (Blk.keep HRS.out hE1)
  have HKN := hide (show kn = n from by rw [← hkn, HLEN.out, HFP.out]; exact HN.out)
  have HKC := hide hKC
  clear x q0 q1 q2 q3 q4 HB0 HBX hE1 HK HRS hkn hKC hsz0
  obtain ⟨x, q0, q1, q2, q3, q4⟩ := FrmBox.cells HX1.out
  obtain rfl : n = kn := HKN.out.symm
  obtain ⟨i0, hi0, hz0, hz1, hz2⟩ := info_parts Try.infoPas
  obtain ⟨b, o, g, rfl, hblt, hrw⟩ := HRW.out
  have hrow : ∀ k, k < n → PCells w b (o + k * 6) (g k) ∧ (g k).p = f.pas k ∧ (g k).p.L.length = (g k).m ∧ Lamps w (g k).A (g k).p.L ∧ (g k).m ≤ 8 := fun k hk => by
    obtain ⟨h1, h2, h3, h4, h5⟩ := hrw k (by rw [HN.out]; exact hk)
    refine ⟨h1, by rw [h2]; unfold Frm.pas; rw [HFP.out], h3, h4, ?_⟩
    rw [← h3, h2]; exact HW8.out k hk
  obtain ⟨kb, ko, rfl, hklt, hkc⟩ : ∃ kb ko, KA = some ⟨kb, ko, none⟩ ∧ kb < w1.heap.size ∧ ∀ k, k < n → w1.cell? ⟨kb, ko + k, none⟩ = some (.bool ((keptL f).getD k false)) := by
    have hl : (keptL f).length = n := by rw [HLEN.out, HFP.out]; exact HN.out
    obtain ⟨kb, ko, e1, e2, -⟩ := HKC.out 0 (by rw [List.length_map]; omega)
    refine ⟨kb, ko, e1, e2, fun k hk => ?_⟩
    obtain ⟨kb', ko', e3, -, e4⟩ := HKC.out k (by rw [List.length_map]; omega)
    rw [e1] at e3
    obtain ⟨rfl, rfl⟩ : kb = kb' ∧ ko = ko' := by simpa using e3
    rw [e4, List.getD_eq_getElem?_getD, List.getElem?_map, List.getD_eq_getElem?_getD, List.getElem?_eq_getElem (by omega)]
    rfl
  have HROW := hide hrow
  have HKB := hide hkc
  have hK0 : CRel W H S O w1 w1.heap.size [] [] none 0 0 (w1.alloc (.cells #[.int .i64 W, .int .i64 H, .int .i64 S, .int .i64 O, .slice none 0 0] 24)) :=
    ⟨Blk.new w1 24 (frmCells W H S O none 0 0), GRow.nil _ _ _ _ _, fun e he => by (cases he), (Below.refl _ _).alloc (Nat.le_refl _) _, rfl⟩
  have HK0 := hide hK0
  clear HRW hrow hkc hK0 HKC HW8 HKN hrw
  go_wp2_with fail
  go_loopw [7, 8, 23] (fun _ _ i wr => ∃ (k m : Nat) (A : Option Addr) (d : Nat) (es : List (List Value × Option Addr × List Value)), k ≤ n ∧ i = .int .i64 k ∧ Hid (CRel W H S O w1 w1.heap.size (cullTo f k) es A m d wr)) (fun _ _ i _ => n - (intOf i).toNat)
  case atStart => exact ⟨0, 0, none, 0, [], Nat.zero_le _, rfl, HK0⟩
  case round =>
    obtain ⟨k, m, A, d, es, hk, rfl, HR⟩ := hrel
    clear x q0 q1 q2 q3 q4
    by_cases hlt : k < n
    · have hk0 : (0 : Int) ≤ (k : Int) := by omega
      have hk1 : (k : Int) < (n : Int) := by omega
      obtain ⟨hpc, hpp, hpm, hpL, hp8⟩ := HROW.out k hlt
      have hbw := HB1.out.trans (HR.out.below.mono HB1.out.size)
      obtain ⟨c0, c1, c2, c3, c4, c5⟩ := hpc.below hbw hblt
      have ckb := (HR.out.below.cell (p := ⟨kb, ko + k, none⟩) hklt).trans (HKB.out k hlt)
      have hwl : Lamps wr (g k).A (g k).p.L := hpL.keep hbw
      have hal : Below wr.heap.size wr (wr.alloc (.cells #[.int .i64 (g k).p.Op, .int .i64 (g k).p.To, .int .i64 (g k).p.A, .int .i64 (g k).p.B, .int .i64 (g k).p.K, .slice (g k).A (g k).m (g k).d] 73)) := (Below.refl _ _).alloc (Nat.le_refl _) _
      have hxk : (wr.alloc (.cells #[.int .i64 (g k).p.Op, .int .i64 (g k).p.To, .int .i64 (g k).p.A, .int .i64 (g k).p.B, .int .i64 (g k).p.K, .slice (g k).A (g k).m (g k).d] 73)).cell? ⟨kb, ko + k, none⟩ = some (.bool ((keptL f).getD k false)) := (hal.cell (p := ⟨kb, ko + k, none⟩) (by have := HR.out.below.size; simp only; omega)).trans ckb
      have hwl2 := hwl.keep hal
      have HR2 := hide (HR.out.keep hal)
      have HAL := hide hal
      have HR0 := hide HR.out
      have hpb : Blk (wr.alloc (.cells #[.int .i64 (g k).p.Op, .int .i64 (g k).p.To, .int .i64 (g k).p.A, .int .i64 (g k).p.B, .int .i64 (g k).p.K, .slice (g k).A (g k).m (g k).d] 73)) wr.heap.size 73 (passCells (g k).p (g k).A (g k).m (g k).d) := Blk.new wr _ _
      have HPB := hide hpb
      have HPL := hide hwl2
      have HPM := hide hpm
      have HPP := hide hpp
      have hgr : ∀ q, (Value.slice A m d).ownBlock = some q → q < wr.heap.size := fun q h => (HR.out.row.own.lt h).2
      have HGR := hide hgr
      have hws := HR.out.below.size
      have hob := Blk.lt HR.out.out
      generalize hrr : g k = r at *
      clear HR hpb hwl hwl2 hal hpL hpm hpp hpc hbw hgr
      cases hkk : (keptL f).getD k false with
      | false =>
        rw [hkk] at ckb hxk
        go_wp2_with fail
        exact ⟨⟨k + 1, m, A, d, es, by omega, by simp, hide (by rw [cullTo_succ, hkk]; simpa using HR2.out)⟩, by simp [intOf]; omega⟩
      | true =>
        rw [hkk] at ckb hxk
        obtain ⟨y, y0, y1, y2, y3, y4, y5⟩ := PasBox.cells (show PasBox _ _ r.p r.A r.m r.d from HPB.out)
        go_wp2_with fail
        refine (cloneLamps_any _ _ _ _ _ HPM.out HPL.out (by omega)).mono ?_
        rintro e w2 ⟨LB, ld, rfl, hLB, hnb, hE2⟩
        have hPB2 := Blk.keep HPB.out hE2
        have hW2 := HAL.out.trans (hE2.mono HAL.out.size)
        have hW3 := hW2.setCell (p := ⟨wr.heap.size, 5, none⟩) (Nat.le_refl _) (.slice LB r.p.L.length ld)
        have hnb3 : r.p.L.flatMap lampCells ≠ [] → NewFrom (wr.heap.size + 1) LB := fun h => (hnb h).mono (by simp)
        have HL3 := hide (Lamps.far (p := ⟨wr.heap.size, 5, none⟩) hLB hnb3 (Nat.lt_succ_self _) (.slice LB r.p.L.length ld))
        have hR3 := HR0.out.keep hW3
        have HR3 := hide hR3
        have HNB := hide hnb3
        have HP3 := hide (hPB2.set_ 5 (.slice LB r.p.L.length ld))
        have hq5 := Blk.frozen hPB2 5
        obtain ⟨z, z0, z1, z2, z3, z4, z5⟩ := PasBox.cells (show PasBox _ _ r.p r.A r.m r.d from hPB2)
        obtain ⟨z', p0, p1, p2, p3, p4, p5⟩ := PasBox.cells (show PasBox _ _ r.p LB r.p.L.length ld from HP3.out)
        obtain ⟨x, q0, q1, q2, q3, q4⟩ := FrmBox.cells (show FrmBox _ w1.heap.size W H S O A m d from hR3.out)
        have hnbk : r.p.L.flatMap lampCells ≠ [] → ∀ a, LB = some a → (Value.slice A m d).ownBlock ≠ some a.block := fun h a ha hc => by
          have h1 := HNB.out h a ha
          have h2 := HGR.out _ hc
          omega
        have HNK := hide hnbk
        have hm12 : m ≤ 12 := by
          have h1 := hR3.len
          have h2 : (cullTo f k).length ≤ k := cullTo_le f k
          omega
        have hbs : w1.heap.size + 1 ≤ (w2.setCell ⟨wr.heap.size, 5, none⟩ (.slice LB r.p.L.length ld)).heap.size := by have := Blk.lt hR3.out; omega
        clear hPB2 hW2 hW3 hnb3 hLB hnb hE2 hR3 HR2 HAL HR0 HPL HPB hnbk
        go_wp2_with (at_builtin; go_loud (refine wpList_app1A (w2.setCell ⟨wr.heap.size, 5, none⟩ (.slice LB r.p.L.length ld)) w2.heap.size (by simp [World.setCell]) rfl _ _ 22 rfl (w1.heap.size + 1) 73 i0 _ 6 64 Try.underlying22 hi0 hz0 hz1 hz2 rfl (by omega) A m d _ (passCells r.p LB r.p.L.length ld) rfl HR3.out.row.own rfl rfl (pas_one _ _ _ _) (by omega) (by omega) hbs ?_; intro A9 c9 w9 hown9 hg9 hat9; have hob9 := Blk.grown (Blk.alloc HR3.out.out (.cells (passCells r.p LB r.p.L.length ld).toArray 73)) (HR3.out.row.own.alloc _) hg9 (Nat.lt_succ_self _); obtain ⟨s, s0, s1, s2, s3, s4⟩ := FrmBox.cells (show FrmBox _ w1.heap.size W H S O A m d from hob9); have s5 := Blk.frozen hob9 4))
        have hn8 := CRel.app HR3.out rfl (by rw [HPM.out]; omega) HL3.out (fun h => (HNB.out h).mono (by omega)) HNK.out hown9 hg9 hat9
        refine ⟨⟨k + 1, m + 1, A9, c9, _, by omega, by simp, hide (by rw [cullTo_succ, hkk]; simp only [if_pos]; rw [← HPP.out]; exact hn8)⟩, by simp [intOf]; omega⟩
    · obtain rfl : k = n := by omega
      obtain ⟨x, q0, q1, q2, q3, q4⟩ := FrmBox.cells (show FrmBox _ w1.heap.size W H S O A m d from HR.out.out)
      obtain ⟨r, r0, r1, r2, r3, r4, t0, t1, t2, t3, t4⟩ := frmRes (Blk.below HR1.out HR.out.below (by omega))
      go_wp2_with fail
      have hB5 : Blk (((((wr.setCell ⟨w.heap.size + 1, 0, none⟩ (.int .i64 W)).setCell ⟨w.heap.size + 1, 1, none⟩ (.int .i64 H)).setCell ⟨w.heap.size + 1, 2, none⟩ (.int .i64 S)).setCell ⟨w.heap.size + 1, 3, none⟩ (.int .i64 O)).setCell ⟨w.heap.size + 1, 4, none⟩ (.slice A m d)) (w.heap.size + 1) 24 (frmCells W H S O A m d) :=
        ((((((Blk.below HR1.out HR.out.below (by omega)).set_ 0 (.int .i64 W)).set_ 1 (.int .i64 H)).set_ 2 (.int .i64 S)).set_ 3 (.int .i64 O)).set_ 4 (.slice A m d))
      obtain ⟨z, z0, z1, z2, z3, z4⟩ := FrmBox.cells (show FrmBox _ _ W H S O A m d from hB5)
      have hG := ((((HR.out.row.far5 HR.out.new (p := ⟨w.heap.size + 1, 0, none⟩) (by simp only; omega) (.int .i64 W)).far5 HR.out.new (p := ⟨w.heap.size + 1, 1, none⟩) (by simp only; omega) (.int .i64 H)).far5 HR.out.new (p := ⟨w.heap.size + 1, 2, none⟩) (by simp only; omega) (.int .i64 S)).far5 HR.out.new (p := ⟨w.heap.size + 1, 3, none⟩) (by simp only; omega) (.int .i64 O)).far5 HR.out.new (p := ⟨w.heap.size + 1, 4, none⟩) (by simp only; omega) (.slice A m d)
      have hbw := ((((HB1.out.trans (HR.out.below.mono HB1.out.size)).setCell (p := ⟨w.heap.size + 1, 0, none⟩) (by simp) (.int .i64 W)).setCell (p := ⟨w.heap.size + 1, 1, none⟩) (by simp) (.int .i64 H)).setCell (p := ⟨w.heap.size + 1, 2, none⟩) (by simp) (.int .i64 S)).setCell (p := ⟨w.heap.size + 1, 3, none⟩) (by simp) (.int .i64 O)
      refine bodyPost_ret (v := .tuple #[.agg #[.int .i64 W, .int .i64 H, .int .i64 S, .int .i64 O, .slice A m d], .int .i64 0]) ?_ rfl ?_
      · simp [results, Try.results37, go_sem, z0, z1, z2, z3, z4]
      · have hfk : f.P.length = k := by rw [HFP.out]; exact HN.out
        refine ⟨A, m, d, ?_, ?_, ?_, hbw.setCell (p := ⟨w.heap.size + 1, 4, none⟩) (by simp) (.slice A m d)⟩
        · show _ = Ending.returned (.tuple #[.agg #[.int .i64 f.W, .int .i64 f.H, .int .i64 f.S, .int .i64 f.O, .slice A m d], .int .i64 0])
          rw [HFQ.out.1, HFQ.out.2.1, HFQ.out.2.2.1, HFQ.out.2.2.2]
        · show (cullTo f f.P.length).length = m
          rw [hfk]; exact HR.out.len
        · show Passes _ A (cullTo f f.P.length)
          rw [hfk]; exact hG.passes

theorem cull_any (W H S O : Int) (PA : Option Addr) (n c : Nat) (ps : List Pas) (w : World) (hn : ps.length = n) (hP : Passes w PA ps) :
    Calls Try.prog 37 #[.agg #[.int .i64 W, .int .i64 H, .int .i64 S, .int .i64 O, .slice PA n c]] w (RetFrm w (cullAns ⟨W, H, S, O, ps⟩) (frErr ⟨W, H, S, O, ps⟩)) := by
  by_cases he : frErr ⟨W, H, S, O, ps⟩ = 0
  · have := cull_ok W H S O PA n c ps w hn hP (frErr_zero.1 he)
    unfold cullAns
    rw [if_pos he, he]
    exact this
  · have hb := ((Below.refl w.heap.size w).alloc (Nat.le_refl _) (.cells #[.int .i64 W, .int .i64 H, .int .i64 S, .int .i64 O, .slice PA n c] 24)).alloc (by simp) (.cells #[.int .i64 0, .int .i64 0, .int .i64 0, .int .i64 0, .slice none 0 0] 24)
    have HBX := hide ((show FrmBox (w.alloc (.cells #[.int .i64 W, .int .i64 H, .int .i64 S, .int .i64 O, .slice PA n c] 24)) w.heap.size W H S O PA n c from Blk.new w 24 (frmCells W H S O PA n c)).alloc (.cells #[.int .i64 0, .int .i64 0, .int .i64 0, .int .i64 0, .slice none 0 0] 24))
    have HRS := hide (show Blk ((w.alloc (.cells #[.int .i64 W, .int .i64 H, .int .i64 S, .int .i64 O, .slice PA n c] 24)).alloc (.cells #[.int .i64 0, .int .i64 0, .int .i64 0, .int .i64 0, .slice none 0 0] 24)) (w.heap.size + 1) 24 (frmCells 0 0 0 0 none 0 0) from Blk.newE (by simp))
    have HL := hide (kept_any W H S O PA n c ps _ hn (hP.keep hb))
    have hka : cullAns ⟨W, H, S, O, ps⟩ = noFrm := if_neg he
    have HB := hide hb
    rw [hka]
    generalize keptAns ⟨W, H, S, O, ps⟩ = la at HL
    generalize frErr ⟨W, H, S, O, ps⟩ = er at *
    have hz2 : (er == 0) = false := by simpa using he
    clear hn hP hb he hka
    go_enter Try.func37, Try.ntmps37
    obtain ⟨x, q0, q1, q2, q3, q4⟩ := FrmBox.cells HBX.out
    go_wp2_with fail
    refine (unhide HL).mono ?_
    rintro e w1 ⟨KA, kn, kc, rfl, -, -, hE1⟩
    have HB1 := hide (HB.out.trans (hE1.mono HB.out.size))
    have HR1 := hide (Blk.keep HRS.out hE1)
    obtain ⟨r, r0, r1, r2, r3, r4, t0, t1, t2, t3, t4⟩ := frmRes HR1.out
    clear HB HL hE1 HBX HRS x q0 q1 q2 q3 q4
    go_wp2_with fail
    have hB5 : Blk (((((w1.setCell ⟨w.heap.size + 1, 0, none⟩ (.int .i64 0)).setCell ⟨w.heap.size + 1, 1, none⟩ (.int .i64 0)).setCell ⟨w.heap.size + 1, 2, none⟩ (.int .i64 0)).setCell ⟨w.heap.size + 1, 3, none⟩ (.int .i64 0)).setCell ⟨w.heap.size + 1, 4, none⟩ (.slice none 0 0)) (w.heap.size + 1) 24 (frmCells 0 0 0 0 none 0 0) :=
      ((((((HR1.out).set_ 0 (.int .i64 0)).set_ 1 (.int .i64 0)).set_ 2 (.int .i64 0)).set_ 3 (.int .i64 0)).set_ 4 (.slice none 0 0))
    obtain ⟨z, z0, z1, z2, z3, z4⟩ := FrmBox.cells (show FrmBox _ _ 0 0 0 0 none 0 0 from hB5)
    have hbw := (((HB1.out.setCell (p := ⟨w.heap.size + 1, 0, none⟩) (by simp) (.int .i64 0)).setCell (p := ⟨w.heap.size + 1, 1, none⟩) (by simp) (.int .i64 0)).setCell (p := ⟨w.heap.size + 1, 2, none⟩) (by simp) (.int .i64 0)).setCell (p := ⟨w.heap.size + 1, 3, none⟩) (by simp) (.int .i64 0)
    refine bodyPost_ret (v := .tuple #[.agg #[.int .i64 0, .int .i64 0, .int .i64 0, .int .i64 0, .slice none 0 0], .int .i64 er]) ?_ rfl ?_
    · simp [results, Try.results37, go_sem, z0, z1, z2, z3, z4]
    · exact ⟨none, 0, 0, rfl, rfl, fun i hi => absurd hi (Nat.not_lt_zero i), hbw.setCell (p := ⟨w.heap.size + 1, 4, none⟩) (by simp) (.slice none 0 0)⟩
end Go.Proofs.Ytibpmogmeoappab

/- Walk: SameFrames, of two frames that are the same. -/
namespace Go.Proofs.Ytibpmogmeoappab
open Go.RowKit

@[go_sem] theorem light_guard : Try.prog.eqGuardType Try.prog.depth 119 = false := by kernel_rfl
theorem light_held : Try.prog.stoodInHeld 119 = false := by kernel_rfl
theorem light_fields : (Try.prog.fieldsOf 119).toList.map (fun f => (f.name, f.type, f.offset)) = [("X", 3, 0), ("Y", 3, 1), ("Reach", 3, 2), ("Power", 3, 3)] := by kernel_rfl
theorem run_neq_light (a b c d : Int) (w : World) :
    (binOp .neq 119 (.agg #[.int .i64 a, .int .i64 b, .int .i64 c, .int .i64 d]) (.agg #[.int .i64 a, .int .i64 b, .int .i64 c, .int .i64 d])).run Try.prog w = .ok (.bool false) w := by
  rw [run_neq_struct, run_equalIn_agg]
  · have hf := light_fields
    generalize (Try.prog.fieldsOf 119).toList = l at hf
    obtain ⟨x, l, rfl⟩ : ∃ x l', l = x :: l' := by cases l with
      | nil => simp at hf
      | cons x l' => exact ⟨x, l', rfl⟩
    obtain ⟨y, l, rfl⟩ : ∃ x l', l = x :: l' := by cases l with
      | nil => simp at hf
      | cons x l' => exact ⟨x, l', rfl⟩
    obtain ⟨z, l, rfl⟩ : ∃ x l', l = x :: l' := by cases l with
      | nil => simp at hf
      | cons x l' => exact ⟨x, l', rfl⟩
    obtain ⟨u, l, rfl⟩ : ∃ x l', l = x :: l' := by cases l with
      | nil => simp at hf
      | cons x l' => exact ⟨x, l', rfl⟩
    simp only [List.map_cons, List.cons.injEq, Prod.mk.injEq, List.map_eq_nil_iff] at hf
    obtain ⟨⟨x1, x2, x3⟩, ⟨y1, y2, y3⟩, ⟨z1, z2, z3⟩, ⟨u1, u2, u3⟩, rfl⟩ := hf
    simp only [Op.eqFields, x1, x2, x3, y1, y2, y3, z1, z2, z3, u1, u2, u3]
    simp [go_sem]
  · simp only [Program.fieldsOf, Try.underlying119]
  · exact light_held

theorem Below.drewN_ {B : Nat} {a w : World} (h : Below B a w) : ∀ q, Below B a (w.drewN q)
  | 0 => h
  | q + 1 => (Below.drewN_ h q).drew
set_option maxRecDepth 100000 in
set_option maxHeartbeats 4000000 in
theorem sameFrames_any (W H S O : Int) (A B : Option Addr) (n c d : Nat) (ps : List Pas) (w : World) (hn : ps.length = n) (hP : Passes w A ps) (hQ : Passes w B ps) (hl : n ≤ 9223372036854775807) :
    Calls Try.prog 39 #[.agg #[.int .i64 W, .int .i64 H, .int .i64 S, .int .i64 O, .slice A n c], .agg #[.int .i64 W, .int .i64 H, .int .i64 S, .int .i64 O, .slice B n d]] w fun e w' => e = .returned (.bool true) ∧ Below w.heap.size w w' := by
  have hb := ((Below.refl w.heap.size w).alloc (Nat.le_refl _) (.cells #[.int .i64 W, .int .i64 H, .int .i64 S, .int .i64 O, .slice A n c] 24)).alloc (by simp) (.cells #[.int .i64 W, .int .i64 H, .int .i64 S, .int .i64 O, .slice B n d] 24)
  have hx1 := (show FrmBox (w.alloc (.cells #[.int .i64 W, .int .i64 H, .int .i64 S, .int .i64 O, .slice A n c] 24)) w.heap.size W H S O A n c from Blk.new w 24 (frmCells W H S O A n c)).alloc (.cells #[.int .i64 W, .int .i64 H, .int .i64 S, .int .i64 O, .slice B n d] 24)
  have hx2 : Blk ((w.alloc (.cells #[.int .i64 W, .int .i64 H, .int .i64 S, .int .i64 O, .slice A n c] 24)).alloc (.cells #[.int .i64 W, .int .i64 H, .int .i64 S, .int .i64 O, .slice B n d] 24)) (w.heap.size + 1) 24 (frmCells W H S O B n d) := Blk.newE (by simp)
  have hpp := hP.keep hb
  have hqq := hQ.keep hb
  generalize hw0 : ((w.alloc (.cells #[.int .i64 W, .int .i64 H, .int .i64 S, .int .i64 O, .slice A n c] 24)).alloc (.cells #[.int .i64 W, .int .i64 H, .int .i64 S, .int .i64 O, .slice B n d] 24)) = w0 at hb hx1 hx2 hpp hqq
  have HB := hide hb
  have HKX := hide ((Keeps.blk hx1).and (Keeps.blk hx2))
  have HP := hide (Keeps.passes hpp)
  have HQ := hide (Keeps.passes hqq)
  have HN := hide hn
  obtain ⟨x, q0, q1, q2, q3, q4⟩ := FrmBox.cells (show FrmBox _ _ W H S O A n c from hx1)
  obtain ⟨y, r0, r1, r2, r3, r4⟩ := FrmBox.cells (show FrmBox _ _ W H S O B n d from hx2)
  have hneq := run_neq_light
  clear hb hx1 hx2 hP hQ hpp hqq hn
  go_enter Try.func39, Try.ntmps39
  go_wp2_with fail
  clear hw0 x q0 q1 q2 q3 q4 y r0 r1 r2 r3 r4
  go_loopw [5, 6, 7, 8] (fun i _ _ _ wr => ∃ k : Nat, k ≤ n ∧ i = .int .i64 k ∧ Hid (Below w0.heap.size w0 wr)) (fun i _ _ _ _ => n - (intOf i).toNat)
  case atStart => exact ⟨0, Nat.zero_le _, rfl, hide (Below.refl _ _)⟩
  case round =>
    obtain ⟨k, hk, rfl, HW⟩ := hrel
    obtain ⟨hx1, hx2⟩ := HKX.out.later _ HW.out
    obtain ⟨x, q0, q1, q2, q3, q4⟩ := FrmBox.cells (show FrmBox _ _ W H S O A n c from hx1)
    obtain ⟨y, r0, r1, r2, r3, r4⟩ := FrmBox.cells (show FrmBox _ _ W H S O B n d from hx2)
    clear hx1 hx2
    by_cases hlt : k < n
    · have hk0 : (0 : Int) ≤ (k : Int) := by omega
      have hk1 : (k : Int) < (n : Int) := by omega
      obtain ⟨b, o, LA, m, e, p, rfl, hb, hp, c0, c1, c2, c3, c4, c5, hm, hL, hml⟩ := (HP.out.later _ HW.out).at_ k (by rw [HN.out]; exact hlt)
      obtain ⟨b', o', LB, m', e', p', rfl, hb', hp', d0, d1, d2, d3, d4, d5, hm', hL', hml'⟩ := (HQ.out.later _ HW.out).at_ k (by rw [HN.out]; exact hlt)
      obtain rfl : p' = p := hp'.symm.trans hp
      subst hm
      subst hm'
      have HLA := hide (Keeps.lampsK hL)
      have HLB := hide (Keeps.lampsK hL')
      have HKS := hide (show Keeps wr (fun w' => w'.cell? ⟨w.heap.size, 4, none⟩ = some (.slice (some ⟨b, o, none⟩) n c) ∧ w'.cell? ⟨w.heap.size + 1, 4, none⟩ = some (.slice (some ⟨b', o', none⟩) n d) ∧
        w'.cell? ⟨b, o + k * 6, none⟩ = some (.int .i64 p'.Op) ∧ w'.cell? ⟨b, o + k * 6 + 1, none⟩ = some (.int .i64 p'.To) ∧ w'.cell? ⟨b, o + k * 6 + 2, none⟩ = some (.int .i64 p'.A) ∧ w'.cell? ⟨b, o + k * 6 + 3, none⟩ = some (.int .i64 p'.B) ∧ w'.cell? ⟨b, o + k * 6 + 4, none⟩ = some (.int .i64 p'.K) ∧ w'.cell? ⟨b, o + k * 6 + 5, none⟩ = some (.slice LA p'.L.length e) ∧
        w'.cell? ⟨b', o' + k * 6, none⟩ = some (.int .i64 p'.Op) ∧ w'.cell? ⟨b', o' + k * 6 + 1, none⟩ = some (.int .i64 p'.To) ∧ w'.cell? ⟨b', o' + k * 6 + 2, none⟩ = some (.int .i64 p'.A) ∧ w'.cell? ⟨b', o' + k * 6 + 3, none⟩ = some (.int .i64 p'.B) ∧ w'.cell? ⟨b', o' + k * 6 + 4, none⟩ = some (.int .i64 p'.K) ∧ w'.cell? ⟨b', o' + k * 6 + 5, none⟩ = some (.slice LB p'.L.length e')) from
        ⟨⟨q4, r4, c0, c1, c2, c3, c4, c5, d0, d1, d2, d3, d4, d5⟩, fun _ hb => ⟨keepC hb q4, keepC hb r4, keepC hb c0, keepC hb c1, keepC hb c2, keepC hb c3, keepC hb c4, keepC hb c5, keepC hb d0, keepC hb d1, keepC hb d2, keepC hb d3, keepC hb d4, keepC hb d5⟩⟩)
      clear hp hp' hL hL' hml'
      go_upto_region 6 with fail
      go_cut [6, 7] (fun s6 s7 wx => ∃ gp gq : Nat, s6 = .pointer (some ⟨gp, 0, none⟩) ∧ s7 = .pointer (some ⟨gq, 0, none⟩) ∧ Hid (PasBox wx gp p' LA p'.L.length e) ∧ Hid (PasBox wx gq p' LB p'.L.length e') ∧ Hid (Below wr.heap.size wr wx))
      case first =>
        go_region_held3 (fun w' => w'.cell? ⟨w.heap.size, 4, none⟩ = some (.slice (some ⟨b, o, none⟩) n c) ∧ w'.cell? ⟨w.heap.size + 1, 4, none⟩ = some (.slice (some ⟨b', o', none⟩) n d) ∧
        w'.cell? ⟨b, o + k * 6, none⟩ = some (.int .i64 p'.Op) ∧ w'.cell? ⟨b, o + k * 6 + 1, none⟩ = some (.int .i64 p'.To) ∧ w'.cell? ⟨b, o + k * 6 + 2, none⟩ = some (.int .i64 p'.A) ∧ w'.cell? ⟨b, o + k * 6 + 3, none⟩ = some (.int .i64 p'.B) ∧ w'.cell? ⟨b, o + k * 6 + 4, none⟩ = some (.int .i64 p'.K) ∧ w'.cell? ⟨b, o + k * 6 + 5, none⟩ = some (.slice LA p'.L.length e) ∧
        w'.cell? ⟨b', o' + k * 6, none⟩ = some (.int .i64 p'.Op) ∧ w'.cell? ⟨b', o' + k * 6 + 1, none⟩ = some (.int .i64 p'.To) ∧ w'.cell? ⟨b', o' + k * 6 + 2, none⟩ = some (.int .i64 p'.A) ∧ w'.cell? ⟨b', o' + k * 6 + 3, none⟩ = some (.int .i64 p'.B) ∧ w'.cell? ⟨b', o' + k * 6 + 4, none⟩ = some (.int .i64 p'.K) ∧ w'.cell? ⟨b', o' + k * 6 + 5, none⟩ = some (.slice LB p'.L.length e'))
          (exact HKS.out.later _ (by repeat (first | exact Below.refl _ _ | exact (Below.refl _ _).drew | with_reducible (refine Below.drew ?_) | with_reducible (refine Below.alloc ?_ (by simp) _) | with_reducible (refine Below.setCell ?_ (by simp) _)))) (fail)
        · go_wp2_with fail
          go_meet
          exact ⟨wr.heap.size, wr.heap.size + 1, rfl, rfl, hide ((Blk.new wr 73 (passCells p' LA p'.L.length e)).alloc _).drew, hide (Blk.newE (cs := passCells p' LB p'.L.length e') (by simp)).drew, hide (((Below.refl _ _).alloc (Nat.le_refl _) _).alloc (by simp) _).drew⟩
        · go_wp2_with fail
          go_meet
          exact ⟨wr.heap.size + 1, wr.heap.size, rfl, rfl, hide (Blk.newE (cs := passCells p' LA p'.L.length e) (by simp)).drew, hide ((Blk.new wr 73 (passCells p' LB p'.L.length e')).alloc _).drew, hide (((Below.refl _ _).alloc (Nat.le_refl _) _).alloc (by simp) _).drew⟩
      case rest =>
        obtain ⟨gp, gq, rfl, rfl, HPA, HPB, HW2⟩ := hcut
        have HWc := hide (HW.out.trans (HW2.out.mono HW.out.size))
        have HKA := hide ((Keeps.blk HPA.out).and (Keeps.blk HPB.out))
        have HLA2 := hide (HLA.out.move HW2.out)
        have HLB2 := hide (HLB.out.move HW2.out)
        obtain ⟨z, z0, z1, z2, z3, z4, z5⟩ := PasBox.cells HPA.out
        obtain ⟨v, v0, v1, v2, v3, v4, v5⟩ := PasBox.cells HPB.out
        clear HW HW2 HKS HLA HLB x q0 q1 q2 q3 q4 y r0 r1 r2 r3 r4 c0 c1 c2 c3 c4 c5 d0 d1 d2 d3 d4 d5 hb hb'
        go_wp2_with fail
        clear z z0 z1 z2 z3 z4 z5 v v0 v1 v2 v3 v4 v5
        go_loopw [8] (fun i wx => ∃ j : Nat, j ≤ p'.L.length ∧ i = .int .i64 j ∧ Hid (Below wc.heap.size wc wx)) (fun i _ => p'.L.length - (intOf i).toNat)
        case atStart => exact ⟨0, Nat.zero_le _, rfl, hide (Below.refl _ _)⟩
        case round =>
          obtain ⟨j, hj, rfl, HX⟩ := hrel
          obtain ⟨hpa, hpb⟩ := HKA.out.later _ HX.out
          obtain ⟨z, z0, z1, z2, z3, z4, z5⟩ := PasBox.cells (show PasBox _ gp p' LA p'.L.length e from hpa)
          obtain ⟨v, v0, v1, v2, v3, v4, v5⟩ := PasBox.cells (show PasBox _ gq p' LB p'.L.length e' from hpb)
          by_cases hjl : j < p'.L.length
          · have hj0 : (0 : Int) ≤ (j : Int) := by omega
            have hj1 : (j : Int) < (p'.L.length : Int) := by omega
            obtain ⟨lb, lo, l, rfl, hlb, hll, a0, a1, a2, a3⟩ := (HLA2.out.later _ HX.out).at_ j hjl
            obtain ⟨mb, mo, l', rfl, hmb, hll', b0, b1, b2, b3⟩ := (HLB2.out.later _ HX.out).at_ j hjl
            obtain rfl : l' = l := by rw [hll] at hll'; injection hll' with h; exact h.symm
            clear hpa hpb
            go_wp2_with fail
            go_quiet (fail)
            go_wp2_with fail
            exact ⟨⟨j + 1, by omega, by simp, hide (Below.drewN_ HX.out _)⟩, by simp [intOf]; omega⟩
          · have HWf := hide (HWc.out.trans (HX.out.mono HWc.out.size))
            go_wp2_with fail
            exact ⟨⟨k + 1, by omega, by simp, HWf⟩, by simp [intOf]; omega⟩
    · go_wp2_with fail
      go_ret
      exact ⟨rfl, HB.out.trans (HW.out.mono HB.out.size)⟩
end Go.Proofs.Ytibpmogmeoappab

/- Walk: OwnFrame. -/
namespace Go.Proofs.Ytibpmogmeoappab
open Go.RowKit

/-- what comes is the frame, its passes in memory of their own -/
def RetOwnF (w : World) (f : Frm) (e : Ending) (w' : World) : Prop :=
  ∃ (A : Option Addr) (n c : Nat) (es : List (List Value × Option Addr × List Value)), e = .returned (.agg #[.int .i64 f.W, .int .i64 f.H, .int .i64 f.S, .int .i64 f.O, .slice A n c]) ∧ f.P.length = n ∧ GRow PasK 6 73 w' (w.heap.size + 3) A n c f.P es ∧ (∀ e ∈ es, e.2.2 ≠ [] → NewFrom (w.heap.size + 3) e.2.1) ∧ Below w.heap.size w w'
theorem take_snoc {ps : List Pas} {k : Nat} (hk : k < ps.length) : ps.take (k + 1) = ps.take k ++ [ps.getD k noPas] := by
  rw [List.take_add_one, List.getElem?_eq_getElem hk, List.getD_eq_getElem?_getD, List.getElem?_eq_getElem hk]
  rfl

set_option maxRecDepth 100000 in
set_option maxHeartbeats 4000000 in
theorem ownFrame_any (W H S O : Int) (PA : Option Addr) (n c : Nat) (ps : List Pas) (w : World) (hn : ps.length = n) (hP : Passes w PA ps) (h12 : n ≤ 12) (h8 : ∀ p ∈ ps, p.L.length ≤ 8) :
    Calls Try.prog 41 #[.agg #[.int .i64 W, .int .i64 H, .int .i64 S, .int .i64 O, .slice PA n c]] w (RetOwnF w ⟨W, H, S, O, ps⟩) := by
  obtain ⟨w1, hw1⟩ : ∃ w1, (w.alloc (.cells #[.int .i64 W, .int .i64 H, .int .i64 S, .int .i64 O, .slice PA n c] 24)).alloc (.cells #[.int .i64 0, .int .i64 0, .int .i64 0, .int .i64 0, .slice none 0 0] 24) = w1 := ⟨_, rfl⟩
  have hb : Below w.heap.size w w1 := by rw [← hw1]; exact ((Below.refl w.heap.size w).alloc (Nat.le_refl _) _).alloc (by simp) _
  have hsz : w1.heap.size = w.heap.size + 2 := by rw [← hw1]; simp
  have hbx : FrmBox w1 w.heap.size W H S O PA n c := by
    rw [← hw1]; exact (show FrmBox (w.alloc (.cells #[.int .i64 W, .int .i64 H, .int .i64 S, .int .i64 O, .slice PA n c] 24)) w.heap.size W H S O PA n c from Blk.new w 24 (frmCells W H S O PA n c)).alloc _
  have hrs : Blk w1 (w.heap.size + 1) 24 (frmCells 0 0 0 0 none 0 0) := by rw [← hw1]; exact Blk.newE (by simp)
  have HP := hide (Keeps.passes (hP.keep hb))
  have HB1 := hide hb
  have HX1 := hide (Keeps.blk hbx)
  have HR1 := hide hrs
  have HN := hide hn
  have H8 := hide h8
  obtain ⟨x, q0, q1, q2, q3, q4⟩ := FrmBox.cells hbx
  clear hP hb hbx hrs hn h8
  obtain ⟨i0, hi0, hz0, hz1, hz2⟩ := info_parts Try.infoPas
  obtain ⟨l0, hl0, lz0, lz1, lz2⟩ := info_parts Try.info119
  have hK0 : CRel W H S O w1 (w.heap.size + 2) [] [] none 0 0 (w1.alloc (.cells #[.int .i64 W, .int .i64 H, .int .i64 S, .int .i64 O, .slice none 0 0] 24)) :=
    ⟨Blk.newE (cs := frmCells W H S O none 0 0) hsz, GRow.nil _ _ _ _ _, fun e he => by (cases he), (Below.refl _ _).alloc (by omega) _, rfl⟩
  have HK0 := hide hK0
  clear hK0
  go_enter Try.func41, Try.ntmps41
  go_wp2_with fail
  clear x q0 q1 q2 q3 q4 hw1
  have HSZ := hide hsz
  clear hsz
  go_loopw [4, 5] (fun i _ wr => ∃ (k : Nat) (A : Option Addr) (d : Nat) (es : List (List Value × Option Addr × List Value)), k ≤ n ∧ i = .int .i64 k ∧ Hid (CRel W H S O w1 (w.heap.size + 2) (ps.take k) es A k d wr)) (fun i _ _ => n - (intOf i).toNat)
  case atStart => exact ⟨0, none, 0, [], Nat.zero_le _, rfl, HK0⟩
  case round =>
    obtain ⟨k, A, d, es, hk, rfl, HR⟩ := hrel
    have hsz := HSZ.out
    have hbw1 : Below w1.heap.size w1 wr := by rw [HSZ.out]; exact HR.out.below
    obtain ⟨x, q0, q1, q2, q3, q4⟩ := FrmBox.cells (show FrmBox _ _ W H S O PA n c from HX1.out.later _ hbw1)
    by_cases hlt : k < n
    · have hk0 : (0 : Int) ≤ (k : Int) := by omega
      have hk1 : (k : Int) < (n : Int) := by omega
      obtain ⟨b, o, LA, m, dd, p, rfl, hb, hp, c0, c1, c2, c3, c4, c5, hm, hL, hml⟩ := (HP.out.later _ hbw1).at_ k (by rw [HN.out]; exact hlt)
      have hp8 : p.L.length ≤ 8 := by
        have hlk : k < ps.length := by rw [HN.out]; exact hlt
        refine H8.out p ?_
        rw [← hp, List.getD_eq_getElem?_getD, List.getElem?_eq_getElem hlk]
        exact List.getElem_mem hlk
      subst hm
      have HPP := hide hp
      have hal : Below wr.heap.size wr (wr.alloc (.cells #[.int .i64 p.Op, .int .i64 p.To, .int .i64 p.A, .int .i64 p.B, .int .i64 p.K, .slice LA p.L.length dd] 73)) := (Below.refl _ _).alloc (Nat.le_refl _) _
      have hal2 := hal.alloc (by simp) (.cells #[] 119)
      have hpb2 : Blk ((wr.alloc (.cells #[.int .i64 p.Op, .int .i64 p.To, .int .i64 p.A, .int .i64 p.B, .int .i64 p.K, .slice LA p.L.length dd] 73)).alloc (.cells #[] 119)) wr.heap.size 73 (passCells p LA p.L.length dd) := (Blk.new wr 73 (passCells p LA p.L.length dd)).alloc _
      have HC := hide (lamps_cells (hL.keep hal2))
      have HLN := hide (flatMap_length4 p.L)
      have HAL2 := hide hal2
      have HPB2 := hide hpb2
      have HR0 := hide HR.out
      have hgr : ∀ q, (Value.slice A k d).ownBlock = some q → q < wr.heap.size := fun q h => (HR.out.row.own.lt h).2
      have HGR := hide hgr
      have hws := HR.out.below.size
      have hob := Blk.lt HR.out.out
      obtain ⟨y, y0, y1, y2, y3, y4, y5⟩ := PasBox.cells (show PasBox _ wr.heap.size p LA p.L.length dd from hpb2)
      have y6 := Blk.frozen hpb2 5
      clear hp hL hml hal hal2 hpb2 hgr HR
      go_wp2_with (at_builtin; first
        | (go_loud (refine wpList_copy ((wr.alloc (.cells #[.int .i64 p.Op, .int .i64 p.To, .int .i64 p.A, .int .i64 p.B, .int .i64 p.K, .slice LA p.L.length dd] 73)).alloc (.cells #[] 119)) rfl _ _ 71 rfl 119 l0 _ 4 32 Try.underlying71 hl0 lz0 lz1 lz2 rfl (by omega) _ rfl LA p.L.length dd (p.L.flatMap lampCells) rfl HLN.out HC.out (lamps_one p.L) (by simp only [maxLen]; omega) (by omega) ?_; intro LB ld w2 hLB hnb hE2; have hPB2 := Blk.keep HPB2.out hE2; have hq5 := Blk.frozen hPB2 5; obtain ⟨z, z0, z1, z2, z3, z4, z5⟩ := PasBox.cells (show PasBox _ _ p LA p.L.length dd from hPB2); have hP3 := hPB2.set_ 5 (.slice LB p.L.length ld); obtain ⟨z', p0, p1, p2, p3, p4, p5⟩ := PasBox.cells (show PasBox _ _ p LB p.L.length ld from hP3); have hW3 := (HAL2.out.trans (hE2.mono HAL2.out.size)).setCell (p := ⟨wr.heap.size, 5, none⟩) (Nat.le_refl _) (.slice LB p.L.length ld); have hR3 := HR0.out.keep hW3; obtain ⟨s', s0, s1, s2, s3, s4⟩ := FrmBox.cells (show FrmBox _ (w.heap.size + 2) W H S O A k d from hR3.out); have HR3 := hide hR3; have HLB := hide hLB; have HNB := hide (fun (h : p.L.flatMap lampCells ≠ []) => (hnb h).mono (show wr.heap.size + 1 ≤ _ from by simp)); have hbs : w.heap.size + 2 + 1 ≤ (w2.setCell ⟨wr.heap.size, 5, none⟩ (.slice LB p.L.length ld)).heap.size := (by have := Blk.lt hR3.out; omega); clear hPB2 hP3 hW3 hR3 hLB hnb hE2))
        | (go_loud (refine wpList_app1A (w2.setCell ⟨wr.heap.size, 5, none⟩ (.slice LB p.L.length ld)) w2.heap.size (by simp [World.setCell]) rfl _ _ 22 rfl (w.heap.size + 2 + 1) 73 i0 _ 6 64 Try.underlying22 hi0 hz0 hz1 hz2 rfl (by omega) A k d _ (passCells p LB p.L.length ld) rfl HR3.out.row.own rfl rfl (pas_one _ _ _ _) (by omega) (by omega) hbs ?_; intro A9 c9 w9 hown9 hg9 hat9; have hob9 := Blk.grown (Blk.alloc HR3.out.out (.cells (passCells p LB p.L.length ld).toArray 73)) (HR3.out.row.own.alloc _) hg9 (Nat.lt_succ_self _); obtain ⟨s, t0, t1, t2, t3, t4⟩ := FrmBox.cells (show FrmBox _ (w.heap.size + 2) W H S O A k d from hob9); have s5 := Blk.frozen hob9 4)))
      have hlf := Lamps.far (p := ⟨wr.heap.size, 5, none⟩) (cells_lamps HLB.out) HNB.out (Nat.lt_succ_self _) (.slice LB p.L.length ld)
      have hnk : p.L.flatMap lampCells ≠ [] → ∀ a, LB = some a → (Value.slice A k d).ownBlock ≠ some a.block := fun h a ha hc => by
        have h1 := HNB.out h a ha
        have h2 := HGR.out _ hc
        omega
      have hn8 := CRel.app HR3.out rfl hp8 hlf (fun h => (HNB.out h).mono (by omega)) hnk hown9 hg9 hat9
      refine ⟨⟨k + 1, A9, c9, _, by omega, by simp, hide (by rw [take_snoc (by rw [HN.out]; exact hlt), HPP.out]; exact hn8)⟩, by simp [intOf]; omega⟩
    · obtain rfl : k = n := by omega
      obtain ⟨y, r0, r1, r2, r3, r4⟩ := FrmBox.cells (show FrmBox _ (w.heap.size + 2) W H S O A k d from HR.out.out)
      obtain ⟨z, z0, z1, z2, z3, z4, t0, t1, t2, t3, t4⟩ := frmRes (Blk.below HR1.out HR.out.below (by omega))
      go_wp2_with fail
      have hB5 : Blk (((((wr.setCell ⟨w.heap.size + 1, 0, none⟩ (.int .i64 W)).setCell ⟨w.heap.size + 1, 1, none⟩ (.int .i64 H)).setCell ⟨w.heap.size + 1, 2, none⟩ (.int .i64 S)).setCell ⟨w.heap.size + 1, 3, none⟩ (.int .i64 O)).setCell ⟨w.heap.size + 1, 4, none⟩ (.slice A k d)) (w.heap.size + 1) 24 (frmCells W H S O A k d) :=
        ((((((Blk.below HR1.out HR.out.below (by omega)).set_ 0 (.int .i64 W)).set_ 1 (.int .i64 H)).set_ 2 (.int .i64 S)).set_ 3 (.int .i64 O)).set_ 4 (.slice A k d))
      obtain ⟨v, v0, v1, v2, v3, v4⟩ := FrmBox.cells (show FrmBox _ _ W H S O A k d from hB5)
      have hG := ((((HR.out.row.far5 HR.out.new (p := ⟨w.heap.size + 1, 0, none⟩) (by simp only; omega) (.int .i64 W)).far5 HR.out.new (p := ⟨w.heap.size + 1, 1, none⟩) (by simp only; omega) (.int .i64 H)).far5 HR.out.new (p := ⟨w.heap.size + 1, 2, none⟩) (by simp only; omega) (.int .i64 S)).far5 HR.out.new (p := ⟨w.heap.size + 1, 3, none⟩) (by simp only; omega) (.int .i64 O)).far5 HR.out.new (p := ⟨w.heap.size + 1, 4, none⟩) (by simp only; omega) (.slice A k d)
      have hbw := ((((HB1.out.trans (HR.out.below.mono (by omega))).setCell (p := ⟨w.heap.size + 1, 0, none⟩) (by simp) (.int .i64 W)).setCell (p := ⟨w.heap.size + 1, 1, none⟩) (by simp) (.int .i64 H)).setCell (p := ⟨w.heap.size + 1, 2, none⟩) (by simp) (.int .i64 S)).setCell (p := ⟨w.heap.size + 1, 3, none⟩) (by simp) (.int .i64 O)
      refine bodyPost_ret (v := .agg #[.int .i64 W, .int .i64 H, .int .i64 S, .int .i64 O, .slice A k d]) ?_ rfl ?_
      · simp [results, Try.results41, go_sem, v0, v1, v2, v3, v4]
      · have htk : ps.take k = ps := List.take_of_length_le (by rw [HN.out]; exact Nat.le_refl _)
        rw [htk] at hG
        exact ⟨A, k, d, es, rfl, HN.out, hG, HR.out.new, hbw.setCell (p := ⟨w.heap.size + 1, 4, none⟩) (by simp) (.slice A k d)⟩
end Go.Proofs.Ytibpmogmeoappab

/- Walk: KeptOf. -/
namespace Go.Proofs.Ytibpmogmeoappab
open Go.RowKit

/-- what comes is a row of truths -/
def RetBs (w : World) (L : List Bool) (e : Ending) (w' : World) : Prop :=
  ∃ (A : Option Addr) (n c : Nat), e = .returned (.slice A n c) ∧ L.length = n ∧ Cells w' A (L.map Value.bool) ∧ Below w.heap.size w w'
theorem markAll_snoc (out : List Bool) (l : List Int) (x : Int) : markAll out (l ++ [x]) = (markAll out l).set x.toNat true := by
  unfold markAll; rw [List.foldl_append]; rfl
theorem bools_set {w : World} {g : Nat} {out : List Bool} (h : Blk w g 4 (out.map Value.bool)) (i : Nat) : Blk (w.setCell ⟨g, i, none⟩ (.bool true)) g 4 ((out.set i true).map Value.bool) := by
  have := h.set_ i (.bool true)
  rwa [show (out.map Value.bool).set i (.bool true) = (out.set i true).map Value.bool from by rw [List.map_set]] at this
theorem bools_at {w : World} {g : Nat} {out : List Bool} (h : Blk w g 4 (out.map Value.bool)) {i : Nat} (hi : i < out.length) : w.cell? ⟨g, i, none⟩ = some (.bool (out.getD i false)) ∧ w.frozen? ⟨g, i, none⟩ = false := by
  refine ⟨?_, Blk.frozen h i⟩
  rw [Blk.cell h, List.getElem?_map, List.getD_eq_getElem?_getD, List.getElem?_eq_getElem hi]
  rfl

set_option maxRecDepth 100000 in
set_option maxHeartbeats 4000000 in
theorem keptOf_ref (W H S O : Int) (PA : Option Addr) (n c : Nat) (ps : List Pas) (w : World) (hn : ps.length = n) (hP : Passes w PA ps) (hf0 : FrmOk ⟨W, H, S, O, ps⟩) :
    Calls Try.prog 85 #[.agg #[.int .i64 W, .int .i64 H, .int .i64 S, .int .i64 O, .slice PA n c]] w (RetBs w (keptL ⟨W, H, S, O, ps⟩)) := by
  have hmany := hf0.many
  have hla := hf0.last
  simp only [hn] at hmany hla
  have hb := (Below.refl w.heap.size w).alloc (Nat.le_refl _) (.cells #[.int .i64 W, .int .i64 H, .int .i64 S, .int .i64 O, .slice PA n c] 24)
  have HBX := hide (Keeps.blk (show Blk (w.alloc (.cells #[.int .i64 W, .int .i64 H, .int .i64 S, .int .i64 O, .slice PA n c] 24)) w.heap.size 24 (frmCells W H S O PA n c) from Blk.new w 24 (frmCells W H S O PA n c)))
  have HL := hide (fun (W0 : World) (h1 : Passes W0 PA ps) => lastOf_ref W H S O PA n c ps W0 hn h1 (by omega))
  have HS := hide (fun (W0 : World) (h1 : Passes W0 PA ps) => sourcesOf_ref W H S O PA n c ps W0 hn h1 hmany.2)
  have HLEN := hide (show Frm.P ⟨W, H, S, O, ps⟩ = ps from rfl)
  have HB0 := hide hb
  have HP := hide (Keeps.passes hP)
  obtain ⟨f, hf⟩ : ∃ f : Frm, f = ⟨W, H, S, O, ps⟩ := ⟨_, rfl⟩
  rw [← hf] at HL HS hf0 hla HLEN ⊢
  have HFL := hide (show f.P.length = n from by rw [HLEN.out, hn])
  have HOK := hide hf0
  obtain ⟨lst, hlst2⟩ : ∃ l : Nat, frLast f = (l : Int) := ⟨(frLast f).toNat, by omega⟩
  have hk0 : kept0 f = (List.replicate n false).set lst true := by unfold kept0; rw [HFL.out, hlst2, Int.toNat_natCast]
  have HK0 := hide (show keptL f = keptTo f n ((List.replicate n false).set lst true) from by unfold keptL; rw [HFL.out, hk0])
  rw [hlst2] at HL hla
  obtain ⟨hl0, hl1⟩ := hla
  clear hP hf0 hb hf hlst2 HLEN hn hk0
  obtain ⟨i0, hi0, hz0, hz1, hz2⟩ := info_parts Try.infoBool
  have hmk := fun W0 => run_make_bools i0 hi0 hz0 hz1 hz2 n (by omega) W0
  clear hi0 hz0 hz1 hz2
  go_enter Try.func85, Try.ntmps85
  obtain ⟨x, q0, q1, q2, q3, q4⟩ := FrmBox.cells (show FrmBox _ _ W H S O PA n c from HBX.out.now)
  go_wp2_with fail
  refine ((unhide HS) _ (HP.out.later _ HB0.out)).mono ?_
  rintro e w1 ⟨SA, sn, sc, rfl, hsn, hSI, hE1⟩
  obtain rfl : n = sn := by rw [← hsn]; simp [srcsTo]
  have HB1 := hide (HB0.out.trans (hE1.mono HB0.out.size))
  have HX1 := hide (HBX.out.move hE1)
  have HSI := hide (Keeps.intRows hSI)
  have hbo : Below w1.heap.size w1 (w1.alloc (.cells (List.replicate n (Value.bool false)).toArray 4)) := (Below.refl _ _).alloc (Nat.le_refl _) _
  have HB2 := hide (HB1.out.trans (hbo.mono HB1.out.size))
  have HX2 := hide (HX1.out.move hbo)
  have HO2 := hide (show Blk (w1.alloc (.cells (List.replicate n (Value.bool false)).toArray 4)) w1.heap.size 4 ((List.replicate n false).map Value.bool) from by rw [List.map_replicate]; exact Blk.new w1 _ _)
  have HW2 := hide hbo
  clear x q0 q1 q2 q3 q4 HB0 HBX hE1 HS hSI hsn hbo
  obtain ⟨x, q0, q1, q2, q3, q4⟩ := FrmBox.cells (show FrmBox _ _ W H S O PA n c from HX1.out.now)
  obtain ⟨y, r0, r1, r2, r3, r4⟩ := FrmBox.cells (show FrmBox _ _ W H S O PA n c from HX2.out.now)
  go_wp2_with fail
  refine ((unhide HL) _ (HP.out.later _ HB2.out)).mono ?_
  rintro e w2 ⟨rfl, hE2⟩
  have HO3 := hide (HO2.out.keep hE2)
  have hW3 := HW2.out.trans (hE2.mono HW2.out.size)
  have hO4 := bools_set HO3.out lst
  obtain ⟨o0, o1⟩ := bools_at HO3.out (i := lst) (by simp; omega)
  have HO4 := hide hO4
  have HW4 := hide (hW3.setCell (p := ⟨w1.heap.size, lst, none⟩) (Nat.le_refl _) (.bool true))
  have hlt : lst < n := by omega
  clear x q0 q1 q2 q3 q4 y r0 r1 r2 r3 r4 HL HO2 HO3 HW2 hE2 hW3 hO4 HX1 HX2
  go_wp2_with fail
  clear o0 o1
  go_loopw [5, 6] (fun i _ wr => ∃ (j : Nat) (out : List Bool), j ≤ n ∧ i = .int .i64 ((j : Int) - 1) ∧ Hid (Blk wr w1.heap.size 4 (out.map Value.bool) ∧ out.length = n ∧ keptL f = keptTo f j out ∧ Below w1.heap.size w1 wr)) (fun i _ _ => (intOf i + 1).toNat)
  case atStart => exact ⟨n, _, Nat.le_refl _, rfl, hide ⟨HO4.out, by simp, HK0.out, HW4.out⟩⟩
  case round =>
    obtain ⟨j, out, hj, rfl, HR⟩ := hrel
    cases j with
    | zero =>
      go_wp2_with fail
      go_ret
      exact ⟨_, n, n, rfl, by rw [HR.out.2.2.1]; exact HR.out.2.1, by rw [HR.out.2.2.1]; exact Blk.cells HR.out.1, HB1.out.trans (HR.out.2.2.2.mono HB1.out.size)⟩
    | succ j =>
      have hjn : j < n := by omega
      have ei : (((j + 1 : Nat) : Int) - 1) = (j : Int) := by omega
      rw [ei] at *
      have hj1 : (j : Int) < (n : Int) := by omega
      obtain ⟨sb, so, RB, rm, rd, rfl, hslt, hrc, hrn, hri⟩ := HSI.out.now j (srcs f j) (by unfold srcsTo; rw [List.getElem?_map, List.getElem?_range hjn]; rfl)
      have HRC := hide (show ∀ W', Below w1.heap.size w1 W' → W'.cell? ⟨sb, so + j, none⟩ = some (.slice RB rm rd) from fun W' hb => (hb.cell (p := ⟨sb, so + j, none⟩) hslt).trans hrc)
      have HRI := hide (Keeps.ints hri)
      have HRN := hide hrn
      have hrm := srcs_le f j
      rw [hrn] at hrm
      have HW := hide HR.out.2.2.2
      have HBO := hide HR.out.1
      have HLN := hide HR.out.2.1
      have HKE := hide HR.out.2.2.1
      clear hrc hri hrn ei
      cases hob : out.getD j false with
      | false =>
        have HKN := hide (show keptL f = keptTo f j out from by rw [HKE.out]; simp only [keptTo, hob]; rfl)
        go_wp2_with fail
        go_loopw [6] (fun i wx => i = .int .i64 0 ∧ Hid (Blk wx w1.heap.size 4 (out.map Value.bool) ∧ Below w1.heap.size w1 wx)) (fun _ _ => 0)
        case atStart => exact ⟨rfl, hide ⟨HBO.out, HW.out⟩⟩
        case round =>
          obtain ⟨rfl, HX⟩ := hrel
          have hrc := HRC.out _ HX.out.2
          obtain ⟨o0, o1⟩ := bools_at HX.out.1 (i := j) (by rw [HLN.out]; exact hjn)
          rw [hob] at o0
          have hcs : rm = 0 ∨ (0 : Int) < (rm : Int) := by omega
          rcases hcs with rfl | hcs
          all_goals
            go_wp2_with fail
          all_goals
            exact ⟨⟨j, out, by omega, rfl, hide ⟨HX.out.1, HLN.out, HKN.out, HX.out.2⟩⟩, by simp [intOf]⟩
      | true =>
        have HKN := hide (show keptL f = keptTo f j (markAll out (srcs f j)) from by rw [HKE.out]; simp only [keptTo, hob]; rfl)
        go_wp2_with fail
        go_loopw [6] (fun i wx => ∃ t : Nat, t ≤ rm ∧ i = .int .i64 t ∧ Hid (Blk wx w1.heap.size 4 ((markAll out ((srcs f j).take t)).map Value.bool) ∧ Below w1.heap.size w1 wx)) (fun i _ => rm - (intOf i).toNat)
        case atStart => exact ⟨0, Nat.zero_le _, rfl, hide ⟨HBO.out, HW.out⟩⟩
        case round =>
          obtain ⟨t, ht, rfl, HX⟩ := hrel
          have hrc := HRC.out _ HX.out.2
          have hml : (markAll out ((srcs f j).take t)).length = n := by rw [markAll_len]; exact HLN.out
          obtain ⟨o0, o1⟩ := bools_at HX.out.1 (i := j) (by rw [hml]; exact hjn)
          rw [show (markAll out ((srcs f j).take t)).getD j false = true from markAll_true.2 (.inl hob)] at o0
          by_cases htr : t < rm
          · have ht0 : (t : Int) < (rm : Int) := by omega
            have htl : t < (srcs f j).length := by rw [HRN.out]; exact htr
            obtain ⟨vb, vo, rfl, -, hv⟩ := (HRI.out.later _ HX.out.2) t (by rw [List.length_map]; exact htl)
            rw [List.getD_eq_getElem?_getD, List.getElem?_map, List.getElem?_eq_getElem htl] at hv
            simp only [Option.map_some, Option.getD_some] at hv
            have hsrc := HOK.out.src (k := j) (by rw [HFL.out]; exact hjn) (List.getElem_mem htl)
            have htk : (srcs f j).take (t + 1) = (srcs f j).take t ++ [(srcs f j)[t]] := by rw [List.take_add_one, List.getElem?_eq_getElem htl]; rfl
            have HTK := hide htk
            obtain ⟨y, hy⟩ : ∃ y : Nat, (srcs f j)[t] = (y : Int) := ⟨((srcs f j)[t]).toNat, by omega⟩
            rw [hy] at hv hsrc
            have hyn : y < n := by omega
            have hyn1 : (y : Int) < (n : Int) := by omega
            obtain ⟨s0, s1⟩ := bools_at HX.out.1 (i := y) (by rw [hml]; exact hyn)
            have hset := bools_set HX.out.1 y
            have hms : markAll out ((srcs f j).take (t + 1)) = (markAll out ((srcs f j).take t)).set y true := by rw [htk, markAll_snoc, hy, Int.toNat_natCast]
            rw [← hms] at hset
            have HST := hide hset
            have HW9 := hide (HX.out.2.setCell (p := ⟨w1.heap.size, y, none⟩) (Nat.le_refl _) (.bool true))
            clear hset hms htk hy hml HTK HX
            go_wp2_with fail
            exact ⟨⟨t + 1, by omega, by simp, hide ⟨HST.out, HW9.out⟩⟩, by simp [intOf]; omega⟩
          · have htk : (srcs f j).take t = srcs f j := List.take_of_length_le (by rw [HRN.out]; omega)
            have HF := hide HX.out
            rw [htk] at HF hml
            have HML := hide hml
            clear HX htk hml
            go_wp2_with fail
            exact ⟨⟨j, markAll out (srcs f j), by omega, rfl, hide ⟨HF.out.1, HML.out, HKN.out, HF.out.2⟩⟩, by simp [intOf]⟩
end Go.Proofs.Ytibpmogmeoappab
