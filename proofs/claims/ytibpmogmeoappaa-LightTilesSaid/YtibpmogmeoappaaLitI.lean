/- Lit: the closure that lights one tile. -/
import Derived.Test.YtibpmogmeoappaaLitH
namespace Go.Proofs.Ytibpmogmeoappaa
open Go.RowKit

/-- the picture while a tile is lit: rows ahead of v, and of row v the columns ahead of u -/
def tileF (ls : List Lamp) (x y cw : Int) (o f0 : Int → Int → Int) (v u : Int) (a b : Int) : Int :=
  if (y ≤ b ∧ b < v ∧ x ≤ a ∧ a < x + cw) ∨ (b = v ∧ x ≤ a ∧ a < u) then min 65535 (o a b + lightAt ls a b) else f0 a b
/-- and the place (u, v) itself, of which k near ones have given -/
def tileK (ls : List Lamp) (x y cw ch : Int) (o f0 : Int → Int → Int) (v u : Int) (k : Nat) (a b : Int) : Int :=
  if a = u ∧ b = v then min 65535 (o a b + nearSum ls ((nearList ls x y cw ch).take k) a b) else tileF ls x y cw o f0 v u a b
theorem tileK_at (ls : List Lamp) (x y cw ch : Int) (o f0 : Int → Int → Int) (v u : Int) (k : Nat) : tileK ls x y cw ch o f0 v u k u v = min 65535 (o u v + nearSum ls ((nearList ls x y cw ch).take k) u v) := by
  unfold tileK; rw [if_pos ⟨rfl, rfl⟩]
theorem tileK_set (ls : List Lamp) (x y cw ch : Int) (o f0 : Int → Int → Int) (v u : Int) (k : Nat) (z : Int) (hz : z = min 65535 (o u v + nearSum ls ((nearList ls x y cw ch).take (k + 1)) u v)) :
    (fun a b => if a = u ∧ b = v then z else tileK ls x y cw ch o f0 v u k a b) = tileK ls x y cw ch o f0 v u (k + 1) := by
  funext a b
  unfold tileK
  by_cases h : a = u ∧ b = v
  · obtain ⟨rfl, rfl⟩ := h
    simp only [and_self, if_true]; exact hz
  · simp only [h, if_false]
theorem tileK_zero {ls : List Lamp} {x y cw ch : Int} {o f0 : Int → Int → Int} {v u : Int} (h : f0 u v = o u v) (h0 : o u v ≤ 65535) : tileK ls x y cw ch o f0 v u 0 = tileF ls x y cw o f0 v u := by
  funext a b
  unfold tileK
  split
  · rename_i e
    obtain ⟨rfl, rfl⟩ := e
    have : tileF ls x y cw o f0 b a a b = f0 a b := by unfold tileF; rw [if_neg (by omega)]
    rw [this, h]
    simp [nearSum]
    omega
  · rfl
theorem tileK_end {ls : List Lamp} {x y cw ch : Int} {o f0 : Int → Int → Int} {v u : Int} {k : Nat} (hu : x ≤ u ∧ u < x + cw) (hv : y ≤ v ∧ v < y + ch) (hk : (nearList ls x y cw ch).length = k) :
    tileK ls x y cw ch o f0 v u k = tileF ls x y cw o f0 v (u + 1) := by
  funext a b
  unfold tileK
  split
  · rename_i e
    obtain ⟨rfl, rfl⟩ := e
    rw [← hk, List.take_of_length_le (Nat.le_refl _), nearList_sum (by omega) (by omega) hu hv]
    unfold tileF; rw [if_pos (by omega)]
  · rename_i e
    unfold tileF
    by_cases h : (y ≤ b ∧ b < v ∧ x ≤ a ∧ a < x + cw) ∨ (b = v ∧ x ≤ a ∧ a < u)
    · rw [if_pos h, if_pos (by omega)]
    · rw [if_neg h, if_neg (by omega)]
theorem tileF_row {ls : List Lamp} {x y cw : Int} {o f0 : Int → Int → Int} {v : Int} (hv : y ≤ v) : tileF ls x y cw o f0 v (x + cw) = tileF ls x y cw o f0 (v + 1) x := by
  funext a b
  unfold tileF
  by_cases h : (y ≤ b ∧ b < v ∧ x ≤ a ∧ a < x + cw) ∨ (b = v ∧ x ≤ a ∧ a < x + cw)
  · rw [if_pos h, if_pos (by omega)]
  · rw [if_neg h, if_neg (by omega)]
theorem tileF_start (ls : List Lamp) (x y cw : Int) (o f0 : Int → Int → Int) : tileF ls x y cw o f0 y x = f0 := by
  funext a b
  unfold tileF
  rw [if_neg (by omega)]
/-- the tile is lit -/
def tileDone (ls : List Lamp) (x y cw ch : Int) (o f0 : Int → Int → Int) (a b : Int) : Int :=
  if y ≤ b ∧ b < y + ch ∧ x ≤ a ∧ a < x + cw then min 65535 (o a b + lightAt ls a b) else f0 a b
theorem tileF_end (ls : List Lamp) (x y cw ch : Int) (o f0 : Int → Int → Int) : tileF ls x y cw o f0 (y + ch) x = tileDone ls x y cw ch o f0 := by
  funext a b
  unfold tileF tileDone
  by_cases h : y ≤ b ∧ b < y + ch ∧ x ≤ a ∧ a < x + cw
  · rw [if_pos (by omega), if_pos h]
  · rw [if_neg (by omega), if_neg h]
theorem min_step {o s g z : Int} (h0 : 0 ≤ g) (hz : z = min 65535 (o + s)) : (if 65535 < z + g then 65535 else z + g) = min 65535 (o + (s + g)) := by
  split <;> omega

def RetLit1 (w : World) (gp : Nat) (W H : Int) (f : Int → Int → Int) (tail : List Value) (e : Ending) (w' : World) : Prop := e = .returned (.bool true) ∧ w.grownBy w' (some gp) ∧ PixBlk w' gp W H f tail

set_option maxRecDepth 100000 in
set_option maxHeartbeats 4000000 in
theorem lit1_any (gl go ga gp : Nat) (W H x y cw ch : Int) (n c n' c' m d : Nat) (A' B : Option Addr) (ls : List Lamp) (o f0 : Int → Int → Int) (tail : List Value) (w : World)
    (hW : 1 ≤ W ∧ W ≤ 16) (hH : 1 ≤ H ∧ H ≤ 16) (hx : 0 ≤ x ∧ x + cw ≤ W) (hy : 0 ≤ y ∧ y + ch ≤ H) (hcw : 1 ≤ cw) (hch : 1 ≤ ch)
    (bl : Blk w gl 45 [.slice B m d]) (bo : ImgBox w go W H (some ⟨gp, 0, none⟩) n c) (ba : ImgBox w ga W H A' n' c') (hn : (n : Int) = W * H)
    (n1 : gl ≠ gp) (n2 : go ≠ gp) (n3 : ga ≠ gp) (hm : ls.length = m) (hE : lampsErr ls = 0) (hL : ∀ W', w.grownBy W' (some gp) → Lamps W' B ls)
    (hf : ∀ a b : Int, x ≤ a → a < x + cw → y ≤ b → b < y + ch → f0 a b = o a b ∧ 0 ≤ o a b ∧ o a b ≤ 65535) (hP : PixBlk w gp W H f0 tail) :
    Calls Try.prog 75 #[.int .i64 x, .int .i64 y, .int .i64 cw, .int .i64 ch, .pointer (some ⟨gl, 0, none⟩), .pointer (some ⟨go, 0, none⟩), .pointer (some ⟨ga, 0, none⟩)] w (RetLit1 w gp W H (tileDone ls x y cw ch o f0) tail) := by
  obtain ⟨h8, hFI⟩ := lampsErr_zero hE
  have hgp : gp < w.heap.size := Blk.lt hP
  -- what stays while block gp is written
  have HK : Hid (∀ W', w.grownBy W' (some gp) → W'.cell? ⟨gl, 0, none⟩ = some (.slice B m d) ∧ W'.cell? ⟨go, 2, none⟩ = some (.slice (some ⟨gp, 0, none⟩) n c) ∧ W'.cell? ⟨ga, 0, none⟩ = some (.int .i64 W) ∧ gl < W'.heap.size ∧ go < W'.heap.size ∧ ga < W'.heap.size ∧ gp < W'.heap.size) := hide fun W' h => by
    have k1 := Blk.grownAt bl h n1
    have k2 := ImgBox.cells (Blk.grownAt bo h n2)
    have k3 := ImgBox.cells (Blk.grownAt ba h n3)
    exact ⟨by rw [k1.cell]; rfl, k2.2.2.2, k3.2.1, k1.lt, k2.1, k3.1, Nat.lt_of_lt_of_le hgp h.size⟩
  have HL := hide hL
  have HM := hide hm
  have HF := hide hFI
  have HO := hide hf
  have HP := hide hP
  have HE := hide hE
  have HNN := hide hn
  have hm8 : m ≤ 8 := by omega
  clear hL hm hFI hf hP hE hn bl bo ba
  obtain ⟨k1, k2, k3, k4, k5, k6, k7⟩ := HK.out w (World.grownBy.refl w _)
  go_enter Try.func75, Try.ntmps75
  go_wp2_with fail
  refine Calls.mono (near_any B m d ls x y cw ch _ HM.out (HL.out _ (World.grownBy.refl w _)) HE.out (by omega) (by omega) (by omega) (by omega)) ?_
  rintro e w1 ⟨A1, m1, c1, rfl, hln, hI1, hA1, hE1⟩
  have HLN := hide hln
  have HG1 := hide (grown_below (World.grownBy.refl w (some gp)) hE1)
  have HP1 := hide (HP.out.keep hE1)
  have HI1 := hide (fun (W' : World) (h : w1.grownBy W' (some gp)) => show Ints W' A1 (nearList ls x y cw ch) from by
    intro i hi
    obtain ⟨b, o, hA, hb, hc⟩ := hI1 i hi
    have := hA1.new _ hA
    refine ⟨b, o, hA, Nat.lt_of_lt_of_le hb h.size, ?_⟩
    rw [World.cell?_of_block (h.block b hb (by simp only [ne_eq, Option.some.injEq]; simp only at this; omega))]
    exact hc)
  have hm1 : m1 ≤ 8 := by have := nearList_len ls x y cw ch; have := HM.out; omega
  clear hln hI1 hA1 hE1 k1 k2 k3 k4 k5 k6 k7
  go_wp2_with fail
  go_loopw [13] (fun vv wr => ∃ v : Int, y ≤ v ∧ v ≤ y + ch ∧ vv = .int .i64 v ∧ PixBlk wr gp W H (tileF ls x y cw o f0 v x) tail ∧ w1.grownBy wr (some gp)) (fun vv _ => (y + ch - intOf vv).toNat)
  case atStart => exact ⟨y, by omega, by omega, rfl, by rw [tileF_start]; exact HP1.out, World.grownBy.refl _ _⟩
  case round =>
    obtain ⟨v, hv1, hv2, rfl, hP2, hG2⟩ := hrel
    have HP2 := hide hP2
    have HG2 := hide hG2
    clear hP2 hG2
    by_cases hvl : v < y + ch
    · go_wp2_with fail
      obtain ⟨wo, rfl⟩ : ∃ wo : World, wo = wr := ⟨_, rfl⟩
      go_loopw [14] (fun uu wr => ∃ u : Int, x ≤ u ∧ u ≤ x + cw ∧ uu = .int .i64 u ∧ PixBlk wr gp W H (tileF ls x y cw o f0 v u) tail ∧ w1.grownBy wr (some gp)) (fun uu _ => (x + cw - intOf uu).toNat)
      case atStart => exact ⟨x, by omega, by omega, rfl, HP2.out, HG2.out⟩
      case round =>
        obtain ⟨u, hu1, hu2, rfl, hP3, hG3⟩ := hrel
        have HP3 := hide hP3
        have HG3 := hide hG3
        clear hP3 hG3
        by_cases hul : u < x + cw
        · obtain ⟨k1, k2, k3, k4, k5, k6, k7⟩ := HK.out _ (grown_trans1 HG1.out HG3.out)
          obtain ⟨p1, p2⟩ := place_bd (W := W) (H := H) (x := u) (y := v) (by omega) (by omega) (by omega) (by omega)
          have p3 : v * W + u < (n : Int) := by have := HNN.out; omega
          have p4 : 0 ≤ v * W := Int.mul_nonneg (by omega) (by omega)
          have p5 := mul_bd hW.1 hW.2 hH.1 hH.2
          have p6 : v * W ≤ 256 := by omega
          have p7 : n ≤ 256 := by have := HNN.out; omega
          clear p5
          go_wp2_with fail
          obtain ⟨wo, rfl⟩ : ∃ wo : World, wo = wr := ⟨_, rfl⟩
          go_loopw [51] (fun jj wr => ∃ j : Nat, j ≤ m1 ∧ jj = .int .i64 j ∧ PixBlk wr gp W H (tileK ls x y cw ch o f0 v u j) tail ∧ w1.grownBy wr (some gp)) (fun jj _ => m1 - (intOf jj).toNat)
          case atStart =>
            obtain ⟨o1, o2, o3⟩ := HO.out u v hu1 hul hv1 hvl
            exact ⟨0, Nat.zero_le _, rfl, by rw [tileK_zero o1 o3]; exact HP3.out, HG3.out⟩
          case round =>
            obtain ⟨j, hj, rfl, hP4, hG4⟩ := hrel
            have HP4 := hide hP4
            have HG4 := hide hG4
            clear hP4 hG4 HP3 HG3 k1 k2 k3 k4 k5 k6 k7
            by_cases hjl : j < m1
            · have hj1 : (j : Int) < (m1 : Int) := by omega
              have hj0 : (0 : Int) ≤ (j : Int) := by omega
              obtain ⟨b1, o1, i, rfl, hb1, hi, d0⟩ := (HI1.out _ HG4.out).at_ j (by have := HLN.out; omega)
              obtain ⟨i, rfl, hil⟩ := nearList_mem (List.mem_of_getElem? hi)
              obtain ⟨b2, o2, l, rfl, hb2, hl, c0, c1', c2, c3⟩ := (HL.out _ (grown_trans1 HG1.out HG4.out)).at_ i hil
              have hil' : (i : Int) < (m : Int) := by have := HM.out; omega
              have hi0 : (0 : Int) ≤ (i : Int) := by omega
              have hlf : l.Fine := HF.out l (List.mem_of_getElem? hl)
              have hsum : nearSum ls ((nearList ls x y cw ch).take (j + 1)) u v = nearSum ls ((nearList ls x y cw ch).take j) u v + l.gives u v := by
                rw [List.take_add_one, hi, Option.toList_some, nearSum_snoc, Int.toNat_natCast, List.getD_eq_getElem?_getD, hl]
                rfl
              have hbd := nearSum_bd HF.out ((nearList ls x y cw ch).take j) (fun q hq => nearList_mem (List.mem_of_mem_take hq)) u v
              have hlt : ((nearList ls x y cw ch).take j).length ≤ 8 := by rw [List.length_take]; omega
              obtain ⟨g1, g2⟩ := Lamp.gives_bd hlf u v
              obtain ⟨k1, k2, k3, k4, k5, k6, k7⟩ := HK.out _ (grown_trans1 HG1.out HG4.out)
              have q0 := HP4.out.cell (x := u) (y := v) (by omega) (by omega) (by omega) (by omega)
              rw [tileK_at] at q0
              have q1 := HP4.out.free (v * W + u).toNat
              obtain ⟨o1', o2', o3'⟩ := HO.out u v hu1 hul hv1 hvl
              obtain ⟨z, hz⟩ : ∃ z : Int, z = min 65535 (o u v + nearSum ls ((nearList ls x y cw ch).take j) u v) := ⟨_, rfl⟩
              rw [← hz] at q0
              have hz0 : 0 ≤ z ∧ z ≤ 65535 := by omega
              have hst := min_step (o := o u v) g1 hz
              rw [← hsum] at hst
              have HST := hide (tileK_set ls x y cw ch o f0 v u j _ hst)
              have HGV := hide (fun (W0 : World) => gives_any l u v W0 hlf (by omega) (by omega))
              clear hz hsum hst hbd hlt o1' o2' o3' hi hl hil
              generalize l.gives u v = g at *
              have e3 : IntKind.i64.wrap (z + g) = z + g := IntWalk.i64_in _ (by omega)
              go_wp2_with fail
              go_region_law
                (first
                  | (go_simp; go_at_call 70; refine ((unhide HGV) _).mono ?_; rintro e w2 ⟨rfl, hE2⟩; have q0' := keepCel hE2 q0; have q1' := ((bcell hE2).2 gp (v * W + u).toNat (show gp < wr.heap.size by omega)).trans q1; have HP5 := hide (PixBlk.keep (PixBlk.keep HP4.out (Below.refl _ _).drew) hE2); have HG5 := hide (grown_below (grown_below HG4.out (Below.refl _ _).drew) hE2); clear hE2))
              all_goals
                go_wp2_with fail
                go_roundw
                case rel =>
                  refine ⟨j + 1, by omega, by go_num, ?_, grown_set HG5.out _ _⟩
                  have hp := PixBlk.put HP5.out (x := u) (y := v) (z := if 65535 < z + g then 65535 else z + g) (by omega) (by omega) (by omega) (by omega)
                  rw [HST.out] at hp
                  exact hp
                case measure => simp [intOf]; omega
            · obtain rfl : j = m1 := by omega
              have hP5 := HP4.out
              rw [tileK_end ⟨hu1, hul⟩ ⟨hv1, hvl⟩ HLN.out] at hP5
              have HP5 := hide hP5
              clear hP5
              go_wp2_with fail
              go_roundw
              case rel => exact ⟨u + 1, by omega, by omega, by go_num, HP5.out, HG4.out⟩
              case measure => simp [intOf]; omega
        · go_wp2_with fail
          obtain rfl : u = x + cw := by omega
          go_roundw
          case rel => exact ⟨v + 1, by omega, by omega, by go_num, by rw [← tileF_row hv1]; exact HP3.out, HG3.out⟩
          case measure => simp [intOf]; omega
    · obtain rfl : v = y + ch := by omega
      go_wp2_with fail
      go_ret
      exact ⟨rfl, grown_trans1 HG1.out HG2.out, by rw [← tileF_end]; exact HP2.out⟩
end Go.Proofs.Ytibpmogmeoappaa
