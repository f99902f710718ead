/- Walks over lights: LightAt and light.At. -/
import Derived.Test.YtibpmogmeoappaaLitB
namespace Go.Proofs.Ytibpmogmeoappaa
open Go.RowKit

theorem keepCel {w w' : World} (hb : Below w.heap.size w w') {b o : Nat} {v : Value} (h : w.cell? ⟨b, o, none⟩ = some v) : w'.cell? ⟨b, o, none⟩ = some v := by rw [(bcell hb).1 b o (World.block_lt_of_cell? w _ h)]; exact h
theorem lightAt_take {ls : List Lamp} {k : Nat} {l : Lamp} (h : ls[k]? = some l) (x y : Int) : lightAt (ls.take (k + 1)) x y = lightAt (ls.take k) x y + l.gives x y := by
  rw [List.take_add_one, h]
  exact lightAt_snoc _ _ _ _
theorem lightAt_take_bd {ls : List Lamp} (h : ∀ l ∈ ls, l.Fine) (h8 : ls.length ≤ 8) (k : Nat) (x y : Int) : 0 ≤ lightAt (ls.take k) x y ∧ lightAt (ls.take k) x y ≤ 524280 := by
  have := lightAt_bd (ls := ls.take k) (fun l hl => h l (List.mem_of_mem_take hl)) x y
  rw [List.length_take] at this
  omega

set_option maxRecDepth 100000 in
set_option maxHeartbeats 1000000 in
theorem lightAt_ref (A : Option Addr) (n c : Nat) (ls : List Lamp) (x y : Int) (w : World) (hn : ls.length = n) (hL : Lamps w A ls) (hE : lampsErr ls = 0) (hx : -20 ≤ x ∧ x ≤ 50) (hy : -20 ≤ y ∧ y ≤ 50) :
    Calls Try.prog 30 #[.slice A n c, .int .i64 x, .int .i64 y] w fun e w' => e = .returned (.int .i64 (lightAt ls x y)) ∧ Below w.heap.size w w' := by
  obtain ⟨h8, hF⟩ := lampsErr_zero hE
  have hn8 : n ≤ 8 := by omega
  have HBD := hide (fun k => lightAt_take_bd hF h8 k x y)
  have HN := hide hn
  have HL := hide hL
  have HFI := hide hF
  clear hn hE hL hF h8
  go_enter Try.func30, Try.ntmps30
  go_wp2_with fail
  go_loopw [7, 8, 9] (fun s i _ wr => ∃ k : Nat, k ≤ n ∧ i = .int .i64 k ∧ s = .int .i64 (lightAt (ls.take k) x y) ∧ Below w.heap.size w wr) (fun _ i _ _ => n - (intOf i).toNat)
  case atStart => exact ⟨0, Nat.zero_le _, rfl, rfl, Below.refl _ _⟩
  case round =>
    obtain ⟨k, hk, rfl, rfl, hB⟩ := hrel
    have HB := hide hB
    clear hB
    by_cases hlt : k < n
    · have hk0 : (0 : Int) ≤ (k : Int) := by omega
      have hk1 : (k : Int) < (n : Int) := by omega
      obtain ⟨b, o, l, rfl, hb, hxl, c0, c1, c2, c3⟩ := (HL.out.keep HB.out).at_ k (by have := HN.out; omega)
      have hf : l.Fine := HFI.out l (List.mem_of_getElem? hxl)
      have HT := hide (lightAt_take hxl x y)
      have hbd := HBD.out k
      clear hxl
      generalize lightAt (ls.take k) x y = s at *
      go_wp2_with fail
      refine Calls.mono (far_any l x y _ hf hx hy) ?_
      rintro e w1 ⟨rfl, hE1⟩
      have HB1 := hide (HB.out.trans (hE1.mono HB.out.size))
      have c2' := keepCel hE1 c2
      have c3' := keepCel hE1 c3
      have hd0 := l.far_nonneg x y
      have HG : Hid (l.gives x y = if l.far x y < l.R then l.K * (l.R - l.far x y) / l.R else 0) := hide rfl
      obtain ⟨g1, g2⟩ := Lamp.gives_bd hf x y
      obtain ⟨⟨f1, f2⟩, ⟨f3, f4⟩, ⟨f5, f6⟩, ⟨f7, f8⟩⟩ := hf
      clear hE1 c0 c1 c2 c3
      generalize l.gives x y = v at *
      generalize l.far x y = d at *
      obtain ⟨X, Y, R, K⟩ := l
      simp only at c2' c3' f1 f2 f3 f4 f5 f6 f7 f8
      have HG' : Hid (v = if d < R then K * (R - d) / R else 0) := HG
      clear HG
      by_cases hd : d < R
      · have hv : K * (R - d) / R = v := by have := HG'.out; rw [if_pos hd] at this; exact this.symm
        have p0 : 0 ≤ K * (R - d) := Int.mul_nonneg f7 (by omega)
        have p1 : K * (R - d) ≤ 65535 * 32 := Int.mul_le_mul f8 (by omega) (by omega) (by omega)
        have e1 : IntKind.i64.wrap (R - d) = R - d := IntWalk.i64_in _ (by omega)
        have e2 : IntKind.i64.wrap (K * (R - d)) = K * (R - d) := IntWalk.i64_in _ (by omega)
        have e3 : (K * (R - d)).tdiv R = v := by rw [Int.tdiv_eq_ediv_of_nonneg p0]; exact hv
        have e4 : IntKind.i64.wrap v = v := IntWalk.i64_in _ (by omega)
        have e5 : IntKind.i64.wrap (s + v) = s + v := IntWalk.i64_in _ (by omega)
        have hR : ¬ R = 0 := by omega
        clear hv HG'
        go_wp2_with fail
        go_quiet (fail)
        go_wp2_with fail
        go_roundw
        case rel => exact ⟨k + 1, by omega, by go_num, by rw [HT.out], below_drewN HB1.out _⟩
        case measure => simp [intOf]; omega
      · have hv : v = 0 := by have := HG'.out; rw [if_neg hd] at this; exact this
        subst hv
        go_wp2_with fail
        go_roundw
        case rel => exact ⟨k + 1, by omega, by go_num, by rw [HT.out, Int.add_zero], HB1.out⟩
        case measure => simp [intOf]; omega
    · go_wp2_with fail
      go_ret
      obtain rfl : k = n := by omega
      exact ⟨ret_int (by rw [List.take_of_length_le (by have := HN.out; omega)]), HB.out⟩

def Inside (x y : Int) : Prop := (0 ≤ x ∧ x ≤ 15) ∧ (0 ≤ y ∧ y ≤ 15)
instance (x y : Int) : Decidable (Inside x y) := by unfold Inside; exact inferInstance
def lampAtErr (ls : List Lamp) (x y : Int) : Int := if lampsErr ls = 0 then (if Inside x y then 0 else 3) else lampsErr ls
def lampAtAns (ls : List Lamp) (x y : Int) : Int := if lampAtErr ls x y = 0 then lightAt ls x y else 0

set_option maxRecDepth 100000 in
set_option maxHeartbeats 1000000 in
theorem lampAt_any (A : Option Addr) (n c : Nat) (ls : List Lamp) (x y : Int) (w : World) (hn : ls.length = n) (hL : Lamps w A ls) (hl : n ≤ 9223372036854775807) :
    Calls Try.prog 27 #[.slice A n c, .int .i64 x, .int .i64 y] w fun e w' => e = .returned (.tuple #[.int .i64 (lampAtAns ls x y), .int .i64 (lampAtErr ls x y)]) ∧ Below w.heap.size w w' := by
  have HCH := hide (checkLights_any A n c ls w hn hL hl)
  have HN := hide hn
  have HL := hide hL
  clear hn hL
  by_cases hE : lampsErr ls = 0
  · by_cases hi : Inside x y
    · have r1 : lampAtErr ls x y = 0 := by unfold lampAtErr; rw [if_pos hE, if_pos hi]
      have r2 : lampAtAns ls x y = lightAt ls x y := if_pos r1
      rw [r1, r2]
      obtain ⟨h8, hF⟩ := lampsErr_zero hE
      have hn8 : n ≤ 8 := by have := HN.out; omega
      have HBD := hide (fun k => lightAt_take_bd hF h8 k x y)
      have HFI := hide hF
      obtain ⟨hx, hy⟩ := hi
      have HE := hide hE
      clear r1 r2 hF h8 hE
      go_enter Try.func27, Try.ntmps27
      go_wp2_with fail
      refine Calls.mono (unhide HCH) ?_
      rintro e w0 ⟨rfl, hE0⟩
      rw [HE.out]
      have HB0 := hide hE0
      clear hE0
      go_wp2_with fail
      refine Calls.mono (side_any x _) ?_
      rintro e w9 ⟨rfl, he9⟩
      subst he9
      rw [decide_eq_true hx]
      go_wp2_with fail
      refine Calls.mono (side_any y _) ?_
      rintro e w9 ⟨rfl, he9⟩
      subst he9
      rw [decide_eq_true hy]
      go_wp2_with fail
      go_loopw [9, 11, 27] (fun s _ i wr => ∃ k : Nat, k ≤ n ∧ i = .int .i64 k ∧ s = .int .i64 (lightAt (ls.take k) x y) ∧ Below w.heap.size w wr) (fun _ _ i _ => n - (intOf i).toNat)
      case atStart => exact ⟨0, Nat.zero_le _, rfl, rfl, HB0.out⟩
      case round =>
        obtain ⟨k, hk, rfl, rfl, hB⟩ := hrel
        have HB := hide hB
        clear hB
        by_cases hlt : k < n
        · have hk1 : (k : Int) < (n : Int) := by omega
          obtain ⟨b, o, l, rfl, hb, hxl, c0, c1, c2, c3⟩ := (HL.out.keep HB.out).at_ k (by have := HN.out; omega)
          have hf : l.Fine := HFI.out l (List.mem_of_getElem? hxl)
          have HT := hide (lightAt_take hxl x y)
          have hbd := HBD.out k
          clear hxl
          generalize lightAt (ls.take k) x y = s at *
          go_wp2_with fail
          refine Calls.mono (gives_any l x y _ hf (by omega) (by omega)) ?_
          rintro e w1 ⟨rfl, hE1⟩
          have hba := HB.out.alloc HB.out.size (.cells #[.int .i64 l.X, .int .i64 l.Y, .int .i64 l.R, .int .i64 l.K] 59)
          have HB1 := hide (hba.trans (hE1.mono hba.size))
          obtain ⟨g1, g2⟩ := Lamp.gives_bd hf x y
          clear hE1 c0 c1 c2 c3 hf hba
          generalize l.gives x y = v at *
          go_wp2_with fail
          go_roundw
          case rel => exact ⟨k + 1, by omega, by go_num, by rw [HT.out], HB1.out⟩
          case measure => simp [intOf]; omega
        · go_wp2_with fail
          refine bodyPost_ret (v := .tuple #[.int .i64 (lightAt (ls.take k) x y), .int .i64 (0)]) (by simp [results, Try.results27, go_sem]) rfl ?_
          obtain rfl : k = n := by omega
          exact ⟨by rw [List.take_of_length_le (by have := HN.out; omega)], HB.out⟩
    · have r1 : lampAtErr ls x y = 3 := by unfold lampAtErr; rw [if_pos hE, if_neg hi]
      have r2 : lampAtAns ls x y = 0 := if_neg (by omega)
      rw [r1, r2]
      have HE := hide hE
      clear r1 r2 hE
      go_enter Try.func27, Try.ntmps27
      go_wp2_with fail
      refine Calls.mono (unhide HCH) ?_
      rintro e w0 ⟨rfl, hE0⟩
      rw [HE.out]
      have HB0 := hide hE0
      clear hE0
      go_wp2_with fail
      refine Calls.mono (side_any x _) ?_
      rintro e w9 ⟨rfl, he9⟩
      subst he9
      by_cases hx : 0 ≤ x ∧ x ≤ 15
      · rw [decide_eq_true hx]
        go_wp2_with fail
        refine Calls.mono (side_any y _) ?_
        rintro e w9 ⟨rfl, he9⟩
        subst he9
        rw [decide_eq_false (fun h => hi ⟨hx, h⟩)]
        go_wp2_with fail
        refine bodyPost_ret (v := .tuple #[.int .i64 (0), .int .i64 (3)]) (by simp [results, Try.results27, go_sem]) rfl ?_
        exact ⟨rfl, HB0.out⟩
      · rw [decide_eq_false hx]
        go_wp2_with fail
        refine bodyPost_ret (v := .tuple #[.int .i64 (0), .int .i64 (3)]) (by simp [results, Try.results27, go_sem]) rfl ?_
        exact ⟨rfl, HB0.out⟩
  · have r1 : lampAtErr ls x y = lampsErr ls := if_neg hE
    have r2 : lampAtAns ls x y = 0 := if_neg (by rw [r1]; exact hE)
    rw [r1, r2]
    generalize lampsErr ls = z at *
    have hz : (z != 0) = true := by simpa using hE
    clear r1 r2 hE
    go_enter Try.func27, Try.ntmps27
    go_wp2_with fail
    refine Calls.mono (unhide HCH) ?_
    rintro e w0 ⟨rfl, hE0⟩
    have HB0 := hide hE0
    clear hE0
    go_wp2_with fail
    refine bodyPost_ret (v := .tuple #[.int .i64 (0), .int .i64 (z)]) (by simp [results, Try.results27, go_sem]) rfl ?_
    exact ⟨rfl, HB0.out⟩
end Go.Proofs.Ytibpmogmeoappaa
