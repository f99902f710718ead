/- Walks over lights: NearOf, three loops. -/
import Derived.Test.YtibpmogmeoappaaLitE
namespace Go.Proofs.Ytibpmogmeoappaa
open Go.RowKit

/-- a place that the light reaches has been met: rows ahead of v, and of row v the columns ahead of u -/
def Seen (l : Lamp) (x y cw v u : Int) : Prop := ∃ a b : Int, ((y ≤ b ∧ b < v ∧ x ≤ a ∧ a < x + cw) ∨ (b = v ∧ x ≤ a ∧ a < u)) ∧ l.far a b < l.R
theorem seen_start (l : Lamp) (x y cw : Int) : ¬ Seen l x y cw y x := by
  rintro ⟨a, b, h | h, _⟩ <;> omega
theorem seen_row {l : Lamp} {x y cw v : Int} (hv : y ≤ v) : Seen l x y cw v (x + cw) ↔ Seen l x y cw (v + 1) x := by
  constructor
  · rintro ⟨a, b, h | h, hd⟩
    · exact ⟨a, b, Or.inl (by omega), hd⟩
    · exact ⟨a, b, Or.inl (by omega), hd⟩
  · rintro ⟨a, b, h | h, hd⟩
    · by_cases e : b = v
      · exact ⟨a, b, Or.inr (by omega), hd⟩
      · exact ⟨a, b, Or.inl (by omega), hd⟩
    · omega
theorem seen_step {l : Lamp} {x y cw v u : Int} (hu : x ≤ u) : Seen l x y cw v (u + 1) ↔ Seen l x y cw v u ∨ l.far u v < l.R := by
  constructor
  · rintro ⟨a, b, h | h, hd⟩
    · exact Or.inl ⟨a, b, Or.inl h, hd⟩
    · by_cases e : a = u
      · subst e; rw [h.1] at hd; exact Or.inr hd
      · exact Or.inl ⟨a, b, Or.inr (by omega), hd⟩
  · rintro (⟨a, b, h | h, hd⟩ | hd)
    · exact ⟨a, b, Or.inl h, hd⟩
    · exact ⟨a, b, Or.inr (by omega), hd⟩
    · exact ⟨u, v, Or.inr (by omega), hd⟩
theorem seen_all {l : Lamp} {x y cw ch : Int} (hw : 1 ≤ cw) (hh : 1 ≤ ch) : Seen l x y cw (y + ch) x ↔ l.nears x y cw ch = true := by
  rw [l.nears_iff hw hh]
  constructor
  · rintro ⟨a, b, h | h, hd⟩
    · exact ⟨a, b, by omega, by omega, hd⟩
    · omega
  · rintro ⟨a, b, hu, hv, hd⟩
    exact ⟨a, b, Or.inl (by omega), hd⟩

set_option maxRecDepth 100000 in
set_option maxHeartbeats 4000000 in
theorem nearOf_ref (A : Option Addr) (n c : Nat) (ls : List Lamp) (x y cw ch : Int) (w : World) (hn : ls.length = n) (hL : Lamps w A ls) (hE : lampsErr ls = 0) (hx : 0 ≤ x ∧ x ≤ 15) (hy : 0 ≤ y ∧ y ≤ 15) (hw : 1 ≤ cw ∧ cw ≤ 16) (hh : 1 ≤ ch ∧ ch ≤ 16) :
    Calls Try.prog 31 #[.slice A n c, .int .i64 x, .int .i64 y, .int .i64 cw, .int .i64 ch] w (RetInts w (nearList ls x y cw ch)) := by
  obtain ⟨h8, hF⟩ := lampsErr_zero hE
  have hn8 : n ≤ 8 := by omega
  have HN := hide hn
  have HL := hide hL
  have HFI := hide hF
  clear hn hE hL hF h8
  obtain ⟨i0, hi0, hz0, hz1, hz2⟩ : ∃ i, Try.prog.info? 3 = some i ∧ i.zero = some (.int .i64 0) ∧ i.size = 1 ∧ i.bytes = 8 := ⟨_, rfl, rfl, rfl, rfl⟩
  have HI0 := hide hi0
  have HZ0 := hide hz0
  have HZ1 := hide hz1
  have HZ2 := hide hz2
  clear hi0 hz0 hz1 hz2
  go_enter Try.func31, Try.ntmps31
  go_wp2_with fail
  go_loopw [11, 12, 13, 14, 15] (fun s i _ _ _ wr => ∃ (k : Nat) (A' : Option Addr) (m d : Nat), k ≤ n ∧ i = .int .i64 k ∧ s = .slice A' m d ∧ Own wr w.heap.size 3 1 A' m d ((nearTo ls x y cw ch k).map (.int .i64)) ∧ Below w.heap.size w wr) (fun _ i _ _ _ _ => n - (intOf i).toNat)
  case atStart => exact ⟨0, none, 0, 0, Nat.zero_le _, rfl, rfl, Own.nil _ _ _ _, Below.refl _ _⟩
  case round =>
    obtain ⟨k, A', m, d, hk, rfl, rfl, hO, hB⟩ := hrel
    have HO := hide hO
    have HB := hide hB
    clear hO hB
    by_cases hlt : k < n
    · have hk0 : (0 : Int) ≤ (k : Int) := by omega
      have hk1 : (k : Int) < (n : Int) := by omega
      obtain ⟨b0, o0, l, rfl, hb, hxl, _, _, _, _⟩ := HL.out.at_ k (by have := HN.out; omega)
      have HF := hide (HFI.out l (List.mem_of_getElem? hxl))
      have HT := hide (nearTo_succ hxl x y cw ch)
      have HC : Hid (∀ W : World, Below w.heap.size w W → W.cell? ⟨b0, o0 + k * 4, none⟩ = some (.int .i64 l.X) ∧ W.cell? ⟨b0, o0 + k * 4 + 1, none⟩ = some (.int .i64 l.Y) ∧ W.cell? ⟨b0, o0 + k * 4 + 2, none⟩ = some (.int .i64 l.R) ∧ W.cell? ⟨b0, o0 + k * 4 + 3, none⟩ = some (.int .i64 l.K)) := hide fun W hW => by
        obtain ⟨b1, o1, l1, e1, _, hx1, c0, c1, c2, c3⟩ := (HL.out.keep hW).at_ k (by have := HN.out; omega)
        injection e1 with e1
        injection e1 with e2 e3
        subst e2 e3
        rw [hxl] at hx1
        injection hx1 with hx1
        subst hx1
        exact ⟨c0, c1, c2, c3⟩
      clear hxl
      go_wp2_with fail
      go_loopw [13, 14, 15] (fun s vv _ wr' => ∃ (bb : Bool) (v : Int), y ≤ v ∧ v ≤ y + ch ∧ vv = .int .i64 v ∧ s = .bool bb ∧ Hid (bb = true ↔ Seen l x y cw v x) ∧ Own wr' w.heap.size 3 1 A' m d ((nearTo ls x y cw ch k).map (.int .i64)) ∧ Below w.heap.size w wr') (fun _ vv _ _ => (y + ch - intOf vv).toNat)
      case atStart => exact ⟨false, y, by omega, by omega, rfl, rfl, hide ⟨fun h => (by cases h), fun h => absurd h (seen_start _ _ _ _)⟩, HO.out, HB.out⟩
      case round =>
        obtain ⟨bb, v, hv1, hv2, rfl, rfl, HS, hO1, hB1⟩ := hrel
        have HO1 := hide hO1
        have HB1 := hide hB1
        clear hO1 hB1
        by_cases hvl : v < y + ch
        · go_wp2_with fail
          go_loopw [13, 15] (fun s uu wr2 => ∃ (b2 : Bool) (u : Int), x ≤ u ∧ u ≤ x + cw ∧ uu = .int .i64 u ∧ s = .bool b2 ∧ Hid (b2 = true ↔ Seen l x y cw v u) ∧ Own wr2 w.heap.size 3 1 A' m d ((nearTo ls x y cw ch k).map (.int .i64)) ∧ Below w.heap.size w wr2) (fun _ uu _ => (x + cw - intOf uu).toNat)
          case atStart => exact ⟨bb, x, by omega, by omega, rfl, rfl, HS, HO1.out, HB1.out⟩
          case round =>
            obtain ⟨b2, u, hu1, hu2, rfl, rfl, HS2, hO2, hB2⟩ := hrel
            have HO2 := hide hO2
            have HB2 := hide hB2
            clear hO2 hB2
            by_cases hul : u < x + cw
            · obtain ⟨c0, c1, c2, c3⟩ := HC.out _ HB2.out
              cases b2 with
              | true =>
                go_wp2_with fail
                go_quiet (fail)
                go_wp2_with fail
                go_roundw
                case rel => exact ⟨true, u + 1, by omega, by omega, by go_num, rfl, hide ⟨fun _ => (seen_step hu1).2 (Or.inl (HS2.out.1 (by trivial))), fun _ => (by trivial)⟩, HO2.out.keep (below_drewN (Below.refl _ _) _), below_drewN HB2.out _⟩
                case measure => simp [intOf]; omega
              | false =>
                go_wp2_with fail
                go_region_held3 (fun w' => w'.cell? ⟨b0, o0 + k * 4, none⟩ = some (.int .i64 l.X) ∧ w'.cell? ⟨b0, o0 + k * 4 + 1, none⟩ = some (.int .i64 l.Y) ∧ w'.cell? ⟨b0, o0 + k * 4 + 2, none⟩ = some (.int .i64 l.R) ∧ w'.cell? ⟨b0, o0 + k * 4 + 3, none⟩ = some (.int .i64 l.K))
                  (first | exact ⟨d0, d1, d2, d3⟩ | exact ⟨c0, c1, c2, c3⟩)
                  (first | (go_at_call 72; refine (far_any l u v _ HF.out (by omega) (by omega)).mono ?_; rintro e w3 ⟨rfl, hE3⟩; have d0 := keepCel hE3 c0; have d1 := keepCel hE3 c1; have d2 := keepCel hE3 c2; have d3 := keepCel hE3 c3))
                go_wp2_with fail
                go_roundw
                case rel =>
                  refine ⟨decide (l.far u v < l.R), u + 1, by omega, by omega, by go_num, rfl, hide ⟨fun h => (seen_step hu1).2 (Or.inr (of_decide_eq_true h)), fun h => ?_⟩, HO2.out.drew.keep hE3, HB2.out.drew.trans (hE3.mono HB2.out.size)⟩
                  rcases (seen_step hu1).1 h with h | h
                  · have := HS2.out.2 h
                    simp at this
                  · exact decide_eq_true h
                case measure => simp [intOf]; omega
            · go_wp2_with fail
              obtain rfl : u = x + cw := by omega
              go_roundw
              case rel => exact ⟨b2, v + 1, by omega, by omega, by go_num, rfl, hide (HS2.out.trans (seen_row hv1)), HO2.out, HB2.out⟩
              case measure => simp [intOf]; omega
        · have hve : v = y + ch := by omega
          have HS' : Hid (bb = true ↔ l.nears x y cw ch = true) := hide (by subst hve; exact HS.out.trans (seen_all hw.1 hh.1))
          have hs2 : w.heap.size ≤ wr.heap.size := HB1.out.size
          have hm8 : m ≤ 8 := by
            have h1 := HO.out.len
            have h2 := nearTo_len ls x y cw ch k
            simp only [List.length_map] at h1
            omega
          have hi0 := HI0.out
          have hz0 := HZ0.out
          have hz1 := HZ1.out
          have hz2 := HZ2.out
          cases bb with
          | true =>
            have hne : Hid (l.nears x y cw ch = true) := hide (HS'.out.1 rfl)
            clear HO HB HS HS'
            go_wp2_with (at_builtin; refine wpList_app1 wr rfl _ _ 22 rfl w.heap.size 3 i0 _ 1 8 Try.underlying22 hi0 hz0 hz1 hz2 rfl (by omega) A' m d _ [.int .i64 k] rfl HO1.out rfl rfl (one_int _) (by omega) (by omega) hs2 ?_; intro A1 c1 w3 hown3 hg3)
            go_roundw
            case rel =>
              refine ⟨k + 1, A1, m + 1, c1, by omega, by go_num, rfl, ?_, Below.grownOwn (HB1.out.alloc HB1.out.size _) (HO1.out.alloc _) hg3 (Nat.le_trans hs2 (by simp)) (Nat.le_refl _)⟩
              rw [HT.out, hne.out, List.map_append]
              exact hown3
            case measure => simp [intOf]; omega
          | false =>
            have hne : Hid (l.nears x y cw ch = false) := hide (by
              cases hb' : l.nears x y cw ch with
              | true => have := HS'.out.2 hb'; cases this
              | false => rfl)
            go_wp2_with fail
            go_roundw
            case rel => exact ⟨k + 1, A', m, d, by omega, by go_num, rfl, by rw [HT.out, hne.out]; simpa using HO1.out, HB1.out⟩
            case measure => simp [intOf]; omega
    · go_wp2_with fail
      go_ret
      obtain rfl : k = n := by omega
      refine ⟨A', m, d, rfl, ?_, ?_, Mine.of_own HO.out, HB.out⟩
      · have := HO.out.len
        simp only [List.length_map] at this
        have e : nearList ls x y cw ch = nearTo ls x y cw ch k := by unfold nearList nearTo; rw [HN.out]
        rw [e]; omega
      · have e : nearList ls x y cw ch = nearTo ls x y cw ch k := by unfold nearList nearTo; rw [HN.out]
        rw [e]
        exact HO.out.cells
end Go.Proofs.Ytibpmogmeoappaa
