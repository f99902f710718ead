/- Walks: numbers of an image, at its places and around them. -/
import Derived.Test.YtibpmogmeoappaaImgB
namespace Go.Proofs.Ytibpmogmeoappaa
open Go.RowKit

/-- the cell of a place -/
theorem pix_cell {W H x y : Int} {P : List Int} {A : Option Addr} {w : World} (hF : Img.Fine ⟨W, H, P⟩) (hI : Ints w A P) (hx : 0 ≤ x) (hx' : x < W) (hy : 0 ≤ y) (hy' : y < H) :
    ∃ b o, A = some ⟨b, o, none⟩ ∧ b < w.heap.size ∧ w.cell? ⟨b, o + (y * W + x).toNat, none⟩ = some (.int .i64 (Img.at_ ⟨W, H, P⟩ x y)) := by
  obtain ⟨hl, _⟩ := hF.at_mem hx hx' hy hy'
  obtain ⟨b, o, v, hA, hb, hv, hc⟩ := hI.at_ _ hl
  refine ⟨b, o, hA, hb, ?_⟩
  unfold Img.at_
  rw [List.getD_eq_getElem?_getD, hv]
  exact hc
theorem pix_num {W H x y : Int} {P : List Int} {n : Nat} (hF : Img.Fine ⟨W, H, P⟩) (hn : P.length = n) (hx : 0 ≤ x) (hx' : x < W) (hy : 0 ≤ y) (hy' : y < H) :
    0 ≤ y * W + x ∧ y * W + x < (n : Int) ∧ n ≤ 256 ∧ 0 ≤ y * W ∧ y * W ≤ 256 := by
  have h := place_bd hx hx' hy hy'
  obtain ⟨⟨h1, h2⟩, ⟨h3, h4⟩, h5, _⟩ := hF
  simp only at h1 h2 h3 h4 h5
  have h6 := mul_bd h1 h2 h3 h4
  have h7 := Int.mul_nonneg hy (by omega : (0:Int) ≤ W)
  omega

set_option maxHeartbeats 400000 in
theorem at_ref (W H : Int) (A : Option Addr) (n c : Nat) (P : List Int) (x y : Int) (w : World) (hF : Img.Fine ⟨W, H, P⟩) (hn : P.length = n) (hI : Ints w A P) (hx : 0 ≤ x) (hx' : x < W) (hy : 0 ≤ y) (hy' : y < H) :
    Calls Try.prog 65 #[.agg #[.int .i64 W, .int .i64 H, .slice A n c], .int .i64 x, .int .i64 y] w fun e w' => e = .returned (.int .i64 (Img.at_ ⟨W, H, P⟩ x y)) ∧ Below w.heap.size w w' := by
  obtain ⟨p1, p2, p3, p4, p5⟩ := pix_num hF hn hx hx' hy hy'
  obtain ⟨b, o, rfl, hb, hc⟩ := pix_cell hF hI hx hx' hy hy'
  generalize Img.at_ ⟨W, H, P⟩ x y = v at *
  clear hn hF hI
  go_enter Try.func65, Try.ntmps65
  go_wp2
  go_ret
  exact ⟨rfl, (Below.refl _ _).alloc (Nat.le_refl _) _⟩

/-- a variable's block that holds an image -/
def ImgBox (w : World) (g : Nat) (W H : Int) (A : Option Addr) (n c : Nat) : Prop := Blk w g 24 [.int .i64 W, .int .i64 H, .slice A n c]
theorem ImgBox.cells {w : World} {g : Nat} {W H : Int} {A : Option Addr} {n c : Nat} (h : ImgBox w g W H A n c) :
    g < w.heap.size ∧ w.cell? ⟨g, 0, none⟩ = some (.int .i64 W) ∧ w.cell? ⟨g, 1, none⟩ = some (.int .i64 H) ∧ w.cell? ⟨g, 2, none⟩ = some (.slice A n c) :=
  ⟨h.lt, by rw [h.cell]; rfl, by rw [h.cell]; rfl, by rw [h.cell]; rfl⟩

set_option maxHeartbeats 400000 in
theorem one1_any (g : Nat) (W H : Int) (A : Option Addr) (n c : Nat) (P : List Int) (x y : Int) (w : World) (hF : Img.Fine ⟨W, H, P⟩) (hn : P.length = n) (hI : Ints w A P) (hB : ImgBox w g W H A n c) (hx : 0 ≤ x) (hx' : x < W) (hy : 0 ≤ y) (hy' : y < H) :
    Calls Try.prog 57 #[.int .i64 x, .int .i64 y, .pointer (some ⟨g, 0, none⟩)] w fun e w' => e = .returned (.int .i64 (Img.at_ ⟨W, H, P⟩ x y)) ∧ w = w' := by
  obtain ⟨p1, p2, p3, p4, p5⟩ := pix_num hF hn hx hx' hy hy'
  obtain ⟨b, o, rfl, hb, hc⟩ := pix_cell hF hI hx hx' hy hy'
  obtain ⟨q0, q1, q2, q3⟩ := hB.cells
  generalize Img.at_ ⟨W, H, P⟩ x y = v at *
  clear hn hF hI hB
  go_enter Try.func57, Try.ntmps57
  go_wp2
  go_ret
  exact ⟨rfl, rfl⟩

/-! the sums around a place -/
def rowList (a : Img) (lo hi j : Int) : List Int := (irange lo hi).map fun i => a.at_ i j
theorem rowList_snoc {a : Img} {lo hi j : Int} (h : lo ≤ hi) : rowList a lo hi j = rowList a lo (hi - 1) j ++ [a.at_ hi j] := by
  unfold rowList; rw [irange_snoc h]; simp
def rowsList (a : Img) (lo hi top bot : Int) : List Int := (irange top bot).flatMap fun j => rowList a lo hi j
theorem rowsList_snoc {a : Img} {lo hi top bot : Int} (h : top ≤ bot) : rowsList a lo hi top bot = rowsList a lo hi top (bot - 1) ++ rowList a lo hi bot := by
  unfold rowsList; rw [irange_snoc h]; simp
theorem meanList_eq (a : Img) (x y u v : Int) : meanList a x y u v = rowsList a (max x 0) (min u (a.W - 1)) (max y 0) (min v (a.H - 1)) := rfl
theorem sum_bd {l : List Int} (h : ∀ x ∈ l, 0 ≤ x ∧ x ≤ 65535) : 0 ≤ l.sum ∧ l.sum ≤ 65535 * l.length := by
  induction l with
  | nil => simp
  | cons a l ih =>
    have h1 := h a (by simp)
    have h2 := ih fun x hx => h x (by simp [hx])
    simp only [List.sum_cons, List.length_cons]; omega
theorem rowList_bd {a : Img} (hF : a.Fine) {lo hi j : Int} (h0 : 0 ≤ lo) (h1 : hi < a.W) (hj : 0 ≤ j) (hj' : j < a.H) : ∀ x ∈ rowList a lo hi j, 0 ≤ x ∧ x ≤ 65535 := by
  intro x hx
  unfold rowList at hx
  simp only [List.mem_map] at hx
  obtain ⟨i, hi', rfl⟩ := hx
  rw [mem_irange] at hi'
  exact hF.at_bd (by omega) (by omega) hj hj'
theorem rowsList_bd {a : Img} (hF : a.Fine) {lo hi top bot : Int} (h0 : 0 ≤ lo) (h1 : hi < a.W) (h2 : 0 ≤ top) (h3 : bot < a.H) : ∀ x ∈ rowsList a lo hi top bot, 0 ≤ x ∧ x ≤ 65535 := by
  intro x hx
  unfold rowsList at hx
  simp only [List.mem_flatMap] at hx
  obtain ⟨j, hj, hx⟩ := hx
  rw [mem_irange] at hj
  exact rowList_bd hF h0 h1 (by omega) (by omega) x hx
theorem rowList_length (a : Img) (lo hi j : Int) : (rowList a lo hi j).length = (hi + 1 - lo).toNat := by simp [rowList, irange_length]
theorem rowsList_length (a : Img) (lo hi top bot : Int) : (rowsList a lo hi top bot).length = (bot + 1 - top).toNat * (hi + 1 - lo).toNat := by
  unfold rowsList
  rw [List.length_flatMap]
  have : List.map (fun j => (rowList a lo hi j).length) (irange top bot) = List.replicate (irange top bot).length (hi + 1 - lo).toNat := by
    rw [List.eq_replicate_iff]
    refine ⟨by simp, ?_⟩
    intro n hn
    simp only [List.mem_map] at hn
    obtain ⟨j, _, rfl⟩ := hn
    exact rowList_length _ _ _ _
  rw [this, List.sum_replicate_nat, irange_length]
/-- what has been summed: rows from top to before j, and of row j columns from lo to before i -/
def partList (a : Img) (lo hi top j i : Int) : List Int := rowsList a lo hi top (j - 1) ++ rowList a lo (i - 1) j
theorem partList_bd {a : Img} (hF : a.Fine) {lo hi top j i : Int} (h0 : 0 ≤ lo) (h1 : hi < a.W) (h2 : 0 ≤ top) (hj : top ≤ j) (hj' : j < a.H) (hi' : i ≤ hi + 1) (hl : lo ≤ hi + 1) :
    0 ≤ (partList a lo hi top j i).sum ∧ (partList a lo hi top j i).sum ≤ 65535 * 256 ∧ (partList a lo hi top j i).length ≤ 256 := by
  have hb := sum_bd (l := partList a lo hi top j i) fun x hx => by
    unfold partList at hx
    rw [List.mem_append] at hx
    rcases hx with hx | hx
    · exact rowsList_bd hF h0 h1 h2 (by omega) x hx
    · exact rowList_bd hF h0 (by omega) (by omega) hj' x hx
  have hlen : (partList a lo hi top j i).length ≤ 256 := by
    unfold partList
    rw [List.length_append, rowsList_length, rowList_length]
    obtain ⟨⟨w1, w2⟩, ⟨w3, w4⟩, _⟩ := hF
    have e1 : (j - 1 + 1 - top).toNat ≤ 15 := by omega
    have e2 : (hi + 1 - lo).toNat ≤ 16 := by omega
    have e3 : (i - 1 + 1 - lo).toNat ≤ 16 := by omega
    have := Nat.mul_le_mul e1 e2
    omega
  refine ⟨hb.1, ?_, hlen⟩
  have : (65535 : Int) * ((partList a lo hi top j i).length : Int) ≤ 65535 * 256 := by omega
  omega
theorem partList_step {a : Img} {lo hi top j i : Int} (h : lo ≤ i) : partList a lo hi top j (i + 1) = partList a lo hi top j i ++ [a.at_ i j] := by
  unfold partList
  rw [rowList_snoc (hi := i + 1 - 1) (by omega), show i + 1 - 1 = i by omega, ← List.append_assoc]
theorem partList_row {a : Img} {lo hi top j : Int} (h : top ≤ j) {i : Int} (hi' : ¬ i ≤ hi) (hi2 : i ≤ hi + 1) : partList a lo hi top j i = partList a lo hi top (j + 1) lo := by
  unfold partList
  rw [rowsList_snoc (bot := j + 1 - 1) (by omega), show j + 1 - 1 = j by omega, show i - 1 = hi by omega]
  have : rowList a lo (lo - 1) (j + 1) = [] := by unfold rowList; rw [irange_nil (by omega)]; rfl
  rw [this, List.append_nil]
theorem partList_start {a : Img} {lo hi top : Int} : partList a lo hi top top lo = [] := by
  unfold partList rowsList rowList
  rw [irange_nil (lo := top) (hi := top - 1) (by omega), irange_nil (lo := lo) (hi := lo - 1) (by omega)]; rfl
theorem partList_end {a : Img} {lo hi top bot : Int} {j : Int} (hj : ¬ j ≤ bot) (hj2 : j ≤ bot + 1) : partList a lo hi top j lo = rowsList a lo hi top bot := by
  unfold partList
  have : rowList a lo (lo - 1) j = [] := by unfold rowList; rw [irange_nil (by omega)]; rfl
  rw [this, List.append_nil, show j - 1 = bot by omega]

set_option maxHeartbeats 1000000 in
theorem mean_any (W H : Int) (A : Option Addr) (n c : Nat) (P : List Int) (x y u v : Int) (w : World) (hF : Img.Fine ⟨W, H, P⟩) (hn : P.length = n) (hI : Ints w A P)
    (hx : -100 ≤ x) (hx2 : x ≤ 100) (hy : -100 ≤ y) (hy2 : y ≤ 100)
    (hlx : max x 0 ≤ min u (W - 1)) (hly : max y 0 ≤ min v (H - 1)) :
    Calls Try.prog 66 #[.agg #[.int .i64 W, .int .i64 H, .slice A n c], .int .i64 x, .int .i64 y, .int .i64 u, .int .i64 v] w fun e w' => e = .returned (.int .i64 (mean ⟨W, H, P⟩ x y u v)) ∧ Below w.heap.size w w' := by
  have hW := hF.1
  have hH := hF.2.1
  simp only at hW hH
  obtain ⟨hW1, hW2⟩ := hW
  obtain ⟨hH1, hH2⟩ := hH
  have hTop : (if y < 0 then (0 : Int) else y) = max y 0 := by omega
  have hBot : (if H - 1 < v then H - 1 else v) = min v (H - 1) := by omega
  have hLo : (if x < 0 then (0 : Int) else x) = max x 0 := by omega
  have hHi : (if W - 1 < u then W - 1 else u) = min u (W - 1) := by omega
  have hfin : mean ⟨W, H, P⟩ x y u v = (rowsList ⟨W, H, P⟩ (max x 0) (min u (W - 1)) (max y 0) (min v (H - 1))).sum / ((rowsList ⟨W, H, P⟩ (max x 0) (min u (W - 1)) (max y 0) (min v (H - 1))).length : Int) := rfl
  generalize ht : max y 0 = top at *
  generalize hb : min v (H - 1) = bot at *
  generalize hl : max x 0 = lo at *
  generalize hh : min u (W - 1) = hi at *
  have t0 : 0 ≤ top := by omega
  have b1 : bot < H := by omega
  have l0 : 0 ≤ lo := by omega
  have h1 : hi < W := by omega
  have HF := hide hF
  have HN := hide hn
  have HFin := hide hfin
  have HI := hide hI
  clear hF hn hfin hI ht hb hl hh hx hx2 hy hy2
  go_enter Try.func66, Try.ntmps66
  go_wp2_with fail
  go_loopw [11, 12, 13] (fun s m j wr => ∃ (jj : Int), top ≤ jj ∧ jj ≤ bot + 1 ∧ j = .int .i64 jj ∧ s = .int .i64 (partList ⟨W, H, P⟩ lo hi top jj lo).sum ∧ m = .int .i64 ((partList ⟨W, H, P⟩ lo hi top jj lo).length : Nat) ∧ ImgBox wr w.heap.size W H A n c ∧ Below w.heap.size w wr)
    (fun _ _ j _ => (bot + 1 - intOf j).toNat)
  case atStart => exact ⟨top, by omega, by omega, rfl, by rw [partList_start]; rfl, by rw [partList_start]; rfl, Blk.new _ _ _, (Below.refl _ _).alloc (Nat.le_refl _) _⟩
  case round =>
    obtain ⟨j, hj1, hj2, rfl, rfl, rfl, hB, hW⟩ := hrel
    obtain ⟨q0, q1, q2, q3⟩ := hB.cells
    have HB := hide hB
    clear hB
    by_cases hlt : j ≤ bot
    · go_wp2_with fail
      obtain ⟨wo, rfl⟩ : ∃ wo : World, wo = wr := ⟨_, rfl⟩
      go_loopw [11, 12, 14] (fun s m i wr => ∃ (ii : Int), lo ≤ ii ∧ ii ≤ hi + 1 ∧ i = .int .i64 ii ∧ s = .int .i64 (partList ⟨W, H, P⟩ lo hi top j ii).sum ∧ m = .int .i64 ((partList ⟨W, H, P⟩ lo hi top j ii).length : Nat) ∧ ImgBox wr w.heap.size W H A n c ∧ Below w.heap.size w wr)
        (fun _ _ i _ => (hi + 1 - intOf i).toNat)
      case atStart => exact ⟨lo, by omega, by omega, rfl, rfl, rfl, HB.out, hW⟩
      case round =>
        obtain ⟨i, hi1, hi2, rfl, rfl, rfl, hB, hW⟩ := hrel
        obtain ⟨q0, q1, q2, q3⟩ := hB.cells
        clear HB
        have HB := hide hB
        clear hB
        by_cases hli : i ≤ hi
        · have hv := HF.out.at_bd (x := i) (y := j) (by omega) (by simp only; omega) (by omega) (by simp only; omega)
          obtain ⟨s0, s1, s2⟩ := partList_bd HF.out (lo := lo) (hi := hi) (top := top) (j := j) (i := i) l0 h1 t0 hj1 (by simp only; omega) hi2 (by omega)
          have hst := partList_step (a := ⟨W, H, P⟩) (lo := lo) (hi := hi) (top := top) (j := j) (i := i) hi1
          have hsum : (partList ⟨W, H, P⟩ lo hi top j (i + 1)).sum = (partList ⟨W, H, P⟩ lo hi top j i).sum + Img.at_ ⟨W, H, P⟩ i j := by rw [hst]; simp
          have hlen : (partList ⟨W, H, P⟩ lo hi top j (i + 1)).length = (partList ⟨W, H, P⟩ lo hi top j i).length + 1 := by rw [hst]; simp
          have hcall := at_ref W H A n c P i j wr HF.out HN.out (HI.out.keep hW) (by omega) (by omega) (by omega) (by omega)
          have HC := hide hcall
          generalize Img.at_ ⟨W, H, P⟩ i j = av at *
          generalize hS : (partList ⟨W, H, P⟩ lo hi top j i).sum = S at *
          generalize hM : (partList ⟨W, H, P⟩ lo hi top j i).length = M at *
          have HS := hide hsum
          have HL := hide hlen
          clear hst hsum hlen hS hM hcall
          go_wp2_with (go_at_call 65; refine (unhide HC).mono ?_; rintro e w1 ⟨rfl, hE⟩; obtain ⟨hc1, hf1⟩ := bcell hE)
          go_roundw
          case rel => exact ⟨i + 1, by omega, by omega, by go_num, by rw [HS.out], by rw [HL.out]; go_num, HB.out.keep hE, hW.trans (hE.mono hW.size)⟩
          case measure => simp [intOf]; omega
        · go_wp2_with fail
          go_roundw
          case rel =>
            have e := partList_row (a := ⟨W, H, P⟩) (lo := lo) (hi := hi) (top := top) hj1 hli hi2
            exact ⟨j + 1, by omega, by omega, by go_num, by rw [← e], by rw [← e], HB.out, hW⟩
          case measure => simp [intOf]; omega
    · obtain ⟨s0, s1⟩ := sum_bd (rowsList_bd HF.out l0 h1 t0 b1)
      have hlen := rowsList_length ⟨W, H, P⟩ lo hi top bot
      have hm1 := mul_bd (W := bot + 1 - top) (H := hi + 1 - lo) (by omega) (by omega) (by omega) (by omega)
      have hlen2 : ((rowsList ⟨W, H, P⟩ lo hi top bot).length : Int) = (bot + 1 - top) * (hi + 1 - lo) := by
        rw [hlen, Int.natCast_mul, Int.toNat_of_nonneg (by omega), Int.toNat_of_nonneg (by omega)]
      rw [partList_end (a := ⟨W, H, P⟩) (lo := lo) (hi := hi) (top := top) hlt hj2]
      generalize (rowsList ⟨W, H, P⟩ lo hi top bot).sum = S at *
      generalize (rowsList ⟨W, H, P⟩ lo hi top bot).length = M at *
      rw [← hlen2] at hm1
      have hM0 : (1 : Int) ≤ (M : Int) := hm1.1
      have hM1 : (M : Int) ≤ 256 := hm1.2
      have hMz : ¬ (M : Int) = 0 := by omega
      have hMz' : ¬ M = 0 := by omega
      have hd0 : 0 ≤ S / (M : Int) := Int.ediv_nonneg s0 (by omega)
      have hd1 : S / (M : Int) ≤ S := Int.ediv_le_self _ s0
      clear hlen hlen2 hm1
      go_wp2_with fail
      go_ret
      exact ⟨ret_int (by rw [HFin.out]; try rw [wrap64_of (by omega) (by omega)]), hW⟩

/-! blur: all nine places are asked -/
def blurList (a : Img) (lo hi top bot j i : Int) : List Int :=
  rowsList a lo hi top (min (j - 1) bot) ++ (if top ≤ j ∧ j ≤ bot then rowList a lo (min (i - 1) hi) j else [])
theorem blurList_bd {a : Img} (hF : a.Fine) {lo hi top bot j i : Int} (h0 : 0 ≤ lo) (h1 : hi < a.W) (h2 : 0 ≤ top) (h3 : bot < a.H) :
    0 ≤ (blurList a lo hi top bot j i).sum ∧ (blurList a lo hi top bot j i).sum ≤ 65535 * 1024 ∧ (blurList a lo hi top bot j i).length ≤ 1024 := by
  have hb := sum_bd (l := blurList a lo hi top bot j i) fun x hx => by
    unfold blurList at hx
    rw [List.mem_append] at hx
    rcases hx with hx | hx
    · exact rowsList_bd hF h0 h1 h2 (by omega) x hx
    · split at hx
      · exact rowList_bd hF h0 (by omega) (by omega) (by omega) x hx
      · simp at hx
  have hlen : (blurList a lo hi top bot j i).length ≤ 1024 := by
    unfold blurList
    obtain ⟨⟨w1, w2⟩, ⟨w3, w4⟩, _⟩ := hF
    have e1 : (min (j - 1) bot + 1 - top).toNat ≤ 16 := by omega
    have e2 : (hi + 1 - lo).toNat ≤ 16 := by omega
    have e3 : (min (i - 1) hi + 1 - lo).toNat ≤ 16 := by omega
    have := Nat.mul_le_mul e1 e2
    rw [List.length_append, rowsList_length]
    split
    · rw [rowList_length]; omega
    · simp; omega
  refine ⟨hb.1, ?_, hlen⟩
  have : (65535 : Int) * ((blurList a lo hi top bot j i).length : Int) ≤ 65535 * 1024 := by omega
  omega
theorem blurList_in {a : Img} {lo hi top bot j i : Int} (h : lo ≤ i) (h2 : i ≤ hi) (h3 : top ≤ j) (h4 : j ≤ bot) : blurList a lo hi top bot j (i + 1) = blurList a lo hi top bot j i ++ [a.at_ i j] := by
  unfold blurList
  rw [if_pos ⟨h3, h4⟩, if_pos ⟨h3, h4⟩, show min (i + 1 - 1) hi = i by omega, show min (i - 1) hi = i - 1 by omega, rowList_snoc h, ← List.append_assoc]
theorem blurList_out {a : Img} {lo hi top bot j i : Int} (h : ¬ (lo ≤ i ∧ i ≤ hi ∧ top ≤ j ∧ j ≤ bot)) : blurList a lo hi top bot j (i + 1) = blurList a lo hi top bot j i := by
  unfold blurList
  by_cases hj : top ≤ j ∧ j ≤ bot
  · rw [if_pos hj, if_pos hj]
    by_cases hl : lo ≤ i
    · rw [show min (i + 1 - 1) hi = hi by omega, show min (i - 1) hi = hi by omega]
    · unfold rowList
      rw [irange_nil (lo := lo) (hi := min (i + 1 - 1) hi) (by omega), irange_nil (lo := lo) (hi := min (i - 1) hi) (by omega)]
  · rw [if_neg hj, if_neg hj]
theorem blurList_row {a : Img} {lo hi top bot j i i0 : Int} (h1 : hi < i) (h2 : i0 ≤ lo) : blurList a lo hi top bot j i = blurList a lo hi top bot (j + 1) i0 := by
  unfold blurList
  have e0 : ∀ k, rowList a lo (min (i0 - 1) hi) k = [] := fun k => by unfold rowList; rw [irange_nil (lo := lo) (hi := min (i0 - 1) hi) (by omega)]; rfl
  have e1 : (if top ≤ j + 1 ∧ j + 1 ≤ bot then rowList a lo (min (i0 - 1) hi) (j + 1) else []) = [] := by rw [e0]; split <;> rfl
  rw [e1, List.append_nil]
  by_cases hj : top ≤ j ∧ j ≤ bot
  · rw [if_pos hj, show min (j - 1) bot = j - 1 by omega, show min (j + 1 - 1) bot = j by omega, show min (i - 1) hi = hi by omega, rowsList_snoc hj.1]
  · rw [if_neg hj, List.append_nil]
    by_cases hl : top ≤ j
    · rw [show min (j - 1) bot = bot by omega, show min (j + 1 - 1) bot = bot by omega]
    · unfold rowsList
      rw [irange_nil (lo := top) (hi := min (j - 1) bot) (by omega), irange_nil (lo := top) (hi := min (j + 1 - 1) bot) (by omega)]
theorem blurList_start {a : Img} {lo hi top bot j i : Int} (h1 : j ≤ top) (h2 : i ≤ lo) : blurList a lo hi top bot j i = [] := by
  unfold blurList rowsList rowList
  rw [irange_nil (lo := top) (hi := min (j - 1) bot) (by omega), irange_nil (lo := lo) (hi := min (i - 1) hi) (by omega)]
  simp
theorem blurList_end {a : Img} {lo hi top bot j i : Int} (h1 : bot < j) : blurList a lo hi top bot j i = rowsList a lo hi top bot := by
  unfold blurList
  rw [if_neg (by omega), List.append_nil, show min (j - 1) bot = bot by omega]

set_option maxHeartbeats 1000000 in
theorem blur_any (W H : Int) (A : Option Addr) (n c : Nat) (P : List Int) (x y : Int) (w : World) (hF : Img.Fine ⟨W, H, P⟩) (hn : P.length = n) (hI : Ints w A P)
    (hx : 0 ≤ x) (hx2 : x < W) (hy : 0 ≤ y) (hy2 : y < H) :
    Calls Try.prog 61 #[.agg #[.int .i64 W, .int .i64 H, .slice A n c], .int .i64 x, .int .i64 y] w fun e w' => e = .returned (.int .i64 (mean ⟨W, H, P⟩ (x - 1) (y - 1) (x + 1) (y + 1))) ∧ Below w.heap.size w w' := by
  have hW := hF.1
  have hH := hF.2.1
  simp only at hW hH
  obtain ⟨hW1, hW2⟩ := hW
  obtain ⟨hH1, hH2⟩ := hH
  have hfin : mean ⟨W, H, P⟩ (x - 1) (y - 1) (x + 1) (y + 1) = (rowsList ⟨W, H, P⟩ (max (x - 1) 0) (min (x + 1) (W - 1)) (max (y - 1) 0) (min (y + 1) (H - 1))).sum / ((rowsList ⟨W, H, P⟩ (max (x - 1) 0) (min (x + 1) (W - 1)) (max (y - 1) 0) (min (y + 1) (H - 1))).length : Int) := rfl
  obtain ⟨top, ht⟩ : ∃ t, t = max (y - 1) 0 := ⟨_, rfl⟩
  obtain ⟨bot, hb⟩ : ∃ t, t = min (y + 1) (H - 1) := ⟨_, rfl⟩
  obtain ⟨lo, hl⟩ : ∃ t, t = max (x - 1) 0 := ⟨_, rfl⟩
  obtain ⟨hi, hh⟩ : ∃ t, t = min (x + 1) (W - 1) := ⟨_, rfl⟩
  rw [← ht, ← hb, ← hl, ← hh] at hfin
  have t0 : 0 ≤ top := by omega
  have b1 : bot < H := by omega
  have l0 : 0 ≤ lo := by omega
  have h1 : hi < W := by omega
  have hlx : lo ≤ hi := by omega
  have hly : top ≤ bot := by omega
  have HF := hide hF
  have HN := hide hn
  have HFin := hide hfin
  have HI := hide hI
  have HT := hide ht
  have HB' := hide hb
  have HL := hide hl
  have HH := hide hh
  clear hF hn hfin hI ht hb hl hh
  go_enter Try.func61, Try.ntmps61
  go_wp2_with fail
  go_loopw [7, 8, 9] (fun s m j wr => ∃ (jj : Int), y - 1 ≤ jj ∧ jj ≤ y + 2 ∧ j = .int .i64 jj ∧ s = .int .i64 (blurList ⟨W, H, P⟩ lo hi top bot jj (x - 1)).sum ∧ m = .int .i64 ((blurList ⟨W, H, P⟩ lo hi top bot jj (x - 1)).length : Nat) ∧ wr = w.alloc (.cells #[.int .i64 W, .int .i64 H, .slice A n c] 24))
    (fun _ _ j _ => (y + 2 - intOf j).toNat)
  case atStart =>
    have e := blurList_start (a := ⟨W, H, P⟩) (lo := lo) (hi := hi) (top := top) (bot := bot) (j := y - 1) (i := x - 1) (by have := HT.out; omega) (by have := HL.out; omega)
    exact ⟨y - 1, by omega, by omega, rfl, by rw [e]; rfl, by rw [e]; rfl, rfl⟩
  case round =>
    obtain ⟨j, hj1, hj2, rfl, rfl, rfl, rfl⟩ := hrel
    by_cases hlt : j ≤ y + 1
    · go_wp2_with fail
      go_loopw [7, 8, 10] (fun s m i wr => ∃ (ii : Int), x - 1 ≤ ii ∧ ii ≤ x + 2 ∧ i = .int .i64 ii ∧ s = .int .i64 (blurList ⟨W, H, P⟩ lo hi top bot j ii).sum ∧ m = .int .i64 ((blurList ⟨W, H, P⟩ lo hi top bot j ii).length : Nat) ∧ wr = w.alloc (.cells #[.int .i64 W, .int .i64 H, .slice A n c] 24))
        (fun _ _ i _ => (x + 2 - intOf i).toNat)
      case atStart => exact ⟨x - 1, by omega, by omega, rfl, rfl, rfl, rfl⟩
      case round =>
        obtain ⟨i, hi1, hi2, rfl, rfl, rfl, rfl⟩ := hrel
        by_cases hli : i ≤ x + 1
        · obtain ⟨s0, s1, s2⟩ := blurList_bd HF.out (lo := lo) (hi := hi) (top := top) (bot := bot) (j := j) (i := i) l0 h1 t0 b1
          by_cases hin : 0 ≤ i ∧ i < W ∧ 0 ≤ j ∧ j < H
          · obtain ⟨i1, i2, i3, i4⟩ := hin
            have hv := HF.out.at_bd (x := i) (y := j) (by omega) (by simp only; omega) (by omega) (by simp only; omega)
            have hst := blurList_in (a := ⟨W, H, P⟩) (lo := lo) (hi := hi) (top := top) (bot := bot) (j := j) (i := i) (by have := HL.out; omega) (by have := HH.out; omega) (by have := HT.out; omega) (by have := HB'.out; omega)
            have hsum : (blurList ⟨W, H, P⟩ lo hi top bot j (i + 1)).sum = (blurList ⟨W, H, P⟩ lo hi top bot j i).sum + Img.at_ ⟨W, H, P⟩ i j := by rw [hst]; simp
            have hlen : (blurList ⟨W, H, P⟩ lo hi top bot j (i + 1)).length = (blurList ⟨W, H, P⟩ lo hi top bot j i).length + 1 := by rw [hst]; simp
            obtain ⟨p1, p2, p3, p4, p5⟩ := pix_num HF.out HN.out i1 i2 i3 i4
            obtain ⟨b, o, hA, hb, hc⟩ := pix_cell HF.out HI.out i1 i2 i3 i4
            subst hA
            generalize Img.at_ ⟨W, H, P⟩ i j = av at *
            generalize hS : (blurList ⟨W, H, P⟩ lo hi top bot j i).sum = S at *
            generalize hM : (blurList ⟨W, H, P⟩ lo hi top bot j i).length = M at *
            have HS := hide hsum
            have HLn := hide hlen
            clear hst hsum hlen hS hM
            go_wp2_with fail
            go_roundw
            case rel => exact ⟨i + 1, by omega, by omega, by go_num, by rw [HS.out], by rw [HLn.out]; go_num, by trivial⟩
            case measure => simp [intOf]; omega
          · have hst := blurList_out (a := ⟨W, H, P⟩) (lo := lo) (hi := hi) (top := top) (bot := bot) (j := j) (i := i) (by have := HL.out; have := HH.out; have := HT.out; have := HB'.out; omega)
            have HST := hide hst
            clear hst
            go_wp2_with fail
            all_goals first
              | (exfalso; omega)
              | (go_roundw
                 case rel => exact ⟨i + 1, by omega, by omega, by go_num, by rw [HST.out], by rw [HST.out], by trivial⟩
                 case measure => simp [intOf]; omega)
        · go_wp2_with fail
          go_roundw
          case rel =>
            have e := blurList_row (a := ⟨W, H, P⟩) (lo := lo) (hi := hi) (top := top) (bot := bot) (j := j) (i := i) (i0 := x - 1) (by have := HH.out; omega) (by have := HL.out; omega)
            exact ⟨j + 1, by omega, by omega, by go_num, by rw [← e], by rw [← e], by trivial⟩
          case measure => simp [intOf]; omega
    · obtain ⟨s0, s1⟩ := sum_bd (rowsList_bd HF.out l0 h1 t0 b1)
      have hlen := rowsList_length ⟨W, H, P⟩ lo hi top bot
      have hm1 := mul_bd (W := bot + 1 - top) (H := hi + 1 - lo) (by omega) (by omega) (by omega) (by omega)
      have hlen2 : ((rowsList ⟨W, H, P⟩ lo hi top bot).length : Int) = (bot + 1 - top) * (hi + 1 - lo) := by
        rw [hlen, Int.natCast_mul, Int.toNat_of_nonneg (by omega), Int.toNat_of_nonneg (by omega)]
      rw [blurList_end (a := ⟨W, H, P⟩) (lo := lo) (hi := hi) (top := top) (bot := bot) (j := j) (i := x - 1) (by have := HB'.out; omega)]
      generalize (rowsList ⟨W, H, P⟩ lo hi top bot).sum = S at *
      generalize (rowsList ⟨W, H, P⟩ lo hi top bot).length = M at *
      rw [← hlen2] at hm1
      have hM0 : (1 : Int) ≤ (M : Int) := hm1.1
      have hM1 : (M : Int) ≤ 256 := hm1.2
      have hMz : ¬ (M : Int) = 0 := by omega
      have hMz' : ¬ M = 0 := by omega
      have hd0 : 0 ≤ S / (M : Int) := Int.ediv_nonneg s0 (by omega)
      have hd1 : S / (M : Int) ≤ S := Int.ediv_le_self _ s0
      clear hlen hlen2 hm1
      go_wp2_with fail
      go_ret
      exact ⟨ret_int (by rw [HFin.out]; try rw [wrap64_of (by omega) (by omega)]), (Below.refl _ _).alloc (Nat.le_refl _) _⟩
end Go.Proofs.Ytibpmogmeoappaa
