/- Walks over lights: near. -/
import Derived.Test.YtibpmogmeoappaaLitC
import Derived.Test.YtibpmogmeoappaaGrid
namespace Go.Proofs.Ytibpmogmeoappaa
open Go.RowKit

def nearTo (ls : List Lamp) (x y cw ch : Int) (k : Nat) : List Int := (List.range k).flatMap fun i => if (ls.getD i ⟨0, 0, 0, 0⟩).nears x y cw ch then [(i : Int)] else []
theorem nearTo_succ {ls : List Lamp} {k : Nat} {l : Lamp} (h : ls[k]? = some l) (x y cw ch : Int) : nearTo ls x y cw ch (k + 1) = nearTo ls x y cw ch k ++ if l.nears x y cw ch then [(k : Int)] else [] := by
  unfold nearTo
  rw [List.range_succ, List.flatMap_append]
  simp only [List.flatMap_cons, List.flatMap_nil, List.append_nil]
  rw [List.getD_eq_getElem?_getD, h]
  rfl
theorem nearTo_len (ls : List Lamp) (x y cw ch : Int) (k : Nat) : (nearTo ls x y cw ch k).length ≤ k := by
  induction k with
  | zero => simp [nearTo]
  | succ k ih =>
    have e : nearTo ls x y cw ch (k + 1) = nearTo ls x y cw ch k ++ if (ls.getD k ⟨0, 0, 0, 0⟩).nears x y cw ch then [(k : Int)] else [] := by
      unfold nearTo
      rw [List.range_succ, List.flatMap_append]
      simp only [List.flatMap_cons, List.flatMap_nil, List.append_nil]
    rw [e, List.length_append]
    split
    · simp only [List.length_singleton]; omega
    · simp only [List.length_nil]; omega
theorem outside_quiet (a lo k : Int) (w : World) (ha : -20 ≤ a ∧ a ≤ 50) (hlo : -20 ≤ lo ∧ lo ≤ 50) (hk : -20 ≤ k ∧ k ≤ 50) (q : Nat) :
    Calls Try.prog 95 #[.int .i64 a, .int .i64 lo, .int .i64 k] (w.drewN q) fun e w' => e = .returned (.int .i64 (outside a lo k)) ∧ ∃ q, w' = w.drewN q :=
  (outside_any a lo k (w.drewN q) ha hlo hk).mono fun _ _ ⟨e1, e2⟩ => ⟨e1, q, e2.symm⟩

/-- what a call hands back that makes a slice of numbers -/
def RetInts (w : World) (L : List Int) (e : Ending) (w' : World) : Prop := ∃ (A : Option Addr) (n c : Nat), e = .returned (.slice A n c) ∧ L.length = n ∧ Ints w' A L ∧ Mine w' w.heap.size A ∧ Below w.heap.size w w'

set_option maxRecDepth 100000 in
set_option maxHeartbeats 1000000 in
theorem near_any (A : Option Addr) (n c : Nat) (ls : List Lamp) (x y cw ch : Int) (w : World) (hn : ls.length = n) (hL : Lamps w A ls) (hE : lampsErr ls = 0) (hx : -20 ≤ x ∧ x ≤ 20) (hy : -20 ≤ y ∧ y ≤ 20) (hw : 0 ≤ cw ∧ cw ≤ 30) (hh : 0 ≤ ch ∧ ch ≤ 30) :
    Calls Try.prog 71 #[.slice A n c, .int .i64 x, .int .i64 y, .int .i64 cw, .int .i64 ch] w (RetInts w (nearList ls x y cw ch)) := by
  obtain ⟨h8, hF⟩ := lampsErr_zero hE
  have hn8 : n ≤ 8 := by omega
  have HN := hide hn
  have HL := hide hL
  have HFI := hide hF
  clear hn hE hL hF h8
  obtain ⟨i0, hi0, hz0, hz1, hz2⟩ : ∃ i, Try.prog.info? 3 = some i ∧ i.zero = some (.int .i64 0) ∧ i.size = 1 ∧ i.bytes = 8 := ⟨_, rfl, rfl, rfl, rfl⟩
  have HI0 := hide hi0
  have HZ0 := hide hz0
  have HZ1 := hide hz1
  have HZ2 := hide hz2
  clear hi0 hz0 hz1 hz2
  go_enter Try.func71, Try.ntmps71
  go_wp2_with fail
  go_loopw [11, 12, 13, 16] (fun s _ _ i wr => ∃ (k : Nat) (A' : Option Addr) (m d : Nat), k ≤ n ∧ i = .int .i64 k ∧ s = .slice A' m d ∧ Own wr w.heap.size 3 1 A' m d ((nearTo ls x y cw ch k).map (.int .i64)) ∧ Below w.heap.size w wr) (fun _ _ _ i _ => n - (intOf i).toNat)
  case atStart => exact ⟨0, none, 0, 0, Nat.zero_le _, rfl, rfl, Own.nil _ _ _ _, Below.refl _ _⟩
  case round =>
    obtain ⟨k, A', m, d, hk, rfl, rfl, hO, hB⟩ := hrel
    have HO := hide hO
    have HB := hide hB
    clear hO hB
    by_cases hlt : k < n
    · have hk1 : (k : Int) < (n : Int) := by omega
      obtain ⟨b, o, l, rfl, hb, hxl, c0, c1, c2, c3⟩ := (HL.out.keep HB.out).at_ k (by have := HN.out; omega)
      have hf : l.Fine := HFI.out l (List.mem_of_getElem? hxl)
      have HT := hide (nearTo_succ hxl x y cw ch)
      clear hxl
      go_wp2_with fail
      have kb := Blk.new wr 59 [.int .i64 l.X, .int .i64 l.Y, .int .i64 l.R, .int .i64 l.K]
      have a0 : (wr.alloc (.cells #[.int .i64 l.X, .int .i64 l.Y, .int .i64 l.R, .int .i64 l.K] 59)).cell? ⟨wr.heap.size, 0, none⟩ = some (.int .i64 l.X) := by rw [kb.cell]; rfl
      have a1 : (wr.alloc (.cells #[.int .i64 l.X, .int .i64 l.Y, .int .i64 l.R, .int .i64 l.K] 59)).cell? ⟨wr.heap.size, 1, none⟩ = some (.int .i64 l.Y) := by rw [kb.cell]; rfl
      have a2 : (wr.alloc (.cells #[.int .i64 l.X, .int .i64 l.Y, .int .i64 l.R, .int .i64 l.K] 59)).cell? ⟨wr.heap.size, 2, none⟩ = some (.int .i64 l.R) := by rw [kb.cell]; rfl
      have HB1 := hide (HB.out.alloc HB.out.size (.cells #[.int .i64 l.X, .int .i64 l.Y, .int .i64 l.R, .int .i64 l.K] 59))
      have HO1 := hide (HO.out.alloc (.cells #[.int .i64 l.X, .int .i64 l.Y, .int .i64 l.R, .int .i64 l.K] 59))
      clear kb c0 c1 c2 c3
      generalize (wr.alloc (.cells #[.int .i64 l.X, .int .i64 l.Y, .int .i64 l.R, .int .i64 l.K] 59)) = w1 at *
      obtain ⟨⟨f1, f2⟩, ⟨f3, f4⟩, ⟨f5, f6⟩, ⟨f7, f8⟩⟩ := hf
      have H1 := hide (outside_quiet l.X x cw w1 (by omega) (by omega) (by omega))
      have H2 := hide (outside_quiet l.Y y ch w1 (by omega) (by omega) (by omega))
      have hm8 : m ≤ 8 := by
        have h1 := HO.out.len
        have h2 := nearTo_len ls x y cw ch k
        simp only [List.length_map] at h1
        omega
      have e3 : IntKind.i64.wrap (outside l.X x cw + outside l.Y y ch) = outside l.X x cw + outside l.Y y ch := IntWalk.i64_in _ (by unfold outside; omega)
      have HNE : Hid (l.nears x y cw ch = decide (outside l.X x cw + outside l.Y y ch < l.R)) := hide rfl
      generalize outside l.X x cw = o1 at *
      generalize outside l.Y y ch = o2 at *
      go_quiet ((go_at_call 95; first | (with_reducible exact (unhide H1) _) | (with_reducible exact (unhide H2) _)))
      generalize hq : World.drewN w1 _ = w2
      have hb2 : Below w1.heap.size w1 w2 := by rw [← hq]; exact below_drewN (Below.refl _ _) _
      have HB2 := hide (HB1.out.trans (hb2.mono HB1.out.size))
      have HO2 := hide (HO1.out.keep hb2)
      have hs2 : w.heap.size ≤ w2.heap.size := HB2.out.size
      clear hq hb2 H1 H2 a0 a1 a2 HB HO HB1 HO1
      by_cases hd : o1 + o2 < l.R
      · have hne : Hid (l.nears x y cw ch = true) := hide (HNE.out.trans (decide_eq_true hd))
        have hi0 := HI0.out
        have hz0 := HZ0.out
        have hz1 := HZ1.out
        have hz2 := HZ2.out
        go_wp2_with (at_builtin; go_loud (refine wpList_app1 w2 rfl _ _ 22 rfl w.heap.size 3 i0 _ 1 8 Try.underlying22 hi0 hz0 hz1 hz2 rfl (by omega) A' m d _ [.int .i64 k] rfl HO2.out rfl rfl (one_int _) (by omega) (by omega) hs2 ?_; intro A1 c1 w3 hown3 hg3))
        go_roundw
        case rel =>
          refine ⟨k + 1, A1, m + 1, c1, by omega, by go_num, rfl, ?_, Below.grownOwn (HB2.out.alloc HB2.out.size _) (HO2.out.alloc _) hg3 (Nat.le_trans hs2 (by simp)) (Nat.le_refl _)⟩
          rw [HT.out, hne.out, List.map_append]
          exact hown3
        case measure => simp [intOf]; omega
      · have hne : Hid (l.nears x y cw ch = false) := hide (HNE.out.trans (decide_eq_false hd))
        go_wp2_with fail
        go_roundw
        case rel => exact ⟨k + 1, A', m, d, by omega, by go_num, rfl, by rw [HT.out, hne.out]; simpa using HO2.out, HB2.out⟩
        case measure => simp [intOf]; omega
    · go_wp2_with fail
      go_ret
      obtain rfl : k = n := by omega
      refine ⟨A', m, d, rfl, ?_, ?_, Mine.of_own HO.out, HB.out⟩
      · have := HO.out.len
        simp only [List.length_map] at this
        have e : nearList ls x y cw ch = nearTo ls x y cw ch k := by unfold nearList nearTo; rw [HN.out]
        rw [e]; omega
      · have e : nearList ls x y cw ch = nearTo ls x y cw ch k := by unfold nearList nearTo; rw [HN.out]
        rw [e]
        exact HO.out.cells
end Go.Proofs.Ytibpmogmeoappaa
