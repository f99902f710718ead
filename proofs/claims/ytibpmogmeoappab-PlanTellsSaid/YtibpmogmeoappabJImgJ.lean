/- Walks: the rules of two numbers, Two, and their reference. -/
import Derived.Test.YtibpmogmeoappabJImgA
import Derived.Test.YtibpmogmeoappabJMem
import Derived.Laws.EntriesVeiled
namespace Go.Proofs.Ytibpmogmeoappab
open Go.RowKit

def ruleMap : List (Int × Value) := [(4, .func (.func 146) #[] #[]), (5, .func (.func 147) #[] #[]), (6, .func (.func 148) #[] #[]), (7, .func (.func 149) #[] #[])]
theorem imap_new (w : World) : IMap (w.alloc (.map #[] 0)) w.heap.size [] := ⟨#[], 0, by show (w.heap.push _)[w.heap.size]? = _; simp, rfl⟩

set_option maxHeartbeats 400000 in
theorem rules_any (w : World) :
    Calls Try.prog 120 #[] w fun e w' => e = .returned (.map (some w.heap.size)) ∧ IMap w' w.heap.size ruleMap ∧ Below w.heap.size w w' := by
  have hmm := @run_makeMap Try.prog
  have m0 := imap_new w
  have u1 := run_mapUpdate_ints Try.underlying172 Try.underlying3 m0 4 (.func (.func 146) #[] #[]) rfl
  have m1 := m0.put 4 (.func (.func 146) #[] #[])
  have u2 := run_mapUpdate_ints Try.underlying172 Try.underlying3 m1 5 (.func (.func 147) #[] #[]) rfl
  have m2 := m1.put 5 (.func (.func 147) #[] #[])
  have u3 := run_mapUpdate_ints Try.underlying172 Try.underlying3 m2 6 (.func (.func 148) #[] #[]) rfl
  have m3 := m2.put 6 (.func (.func 148) #[] #[])
  have u4 := run_mapUpdate_ints Try.underlying172 Try.underlying3 m3 7 (.func (.func 149) #[] #[]) rfl
  have m4 := m3.put 7 (.func (.func 149) #[] #[])
  have hb0 : Below w.heap.size w (w.alloc (.map #[] 0)) := (Below.refl w.heap.size w).alloc (Nat.le_refl _) _
  have HB := hide (Below.mapPut (Below.mapPut (Below.mapPut (Below.mapPut hb0 (Nat.le_refl _) 4 (.func (.func 146) #[] #[])) (Nat.le_refl _) 5 (.func (.func 147) #[] #[])) (Nat.le_refl _) 6 (.func (.func 148) #[] #[])) (Nat.le_refl _) 7 (.func (.func 149) #[] #[]))
  clear hb0
  have M4 := hide m4
  clear m0 m1 m2 m3 m4
  go_enter Try.func120, Try.ntmps120
  go_wp2_with fail
  go_ret
  exact ⟨rfl, M4.out, HB.out⟩

theorem rule_of {op : Int} (h : 4 ≤ op ∧ op ≤ 7) : ∃ g : FuncId, lookI ruleMap op = some (.func (.func g) #[] #[]) ∧
    (∀ args w, (callFunc g args).run Try.prog w = .ok (.enter g args) w) ∧
    ∀ (x y : Int) (w : World), 0 ≤ x → x ≤ 65535 → 0 ≤ y → y ≤ 65535 → Calls Try.prog g #[.int .i64 x, .int .i64 y] w fun e w' => e = .returned (.int .i64 (twoNum op x y)) ∧ w = w' := by
  obtain h | h | h | h : op = 4 ∨ op = 5 ∨ op = 6 ∨ op = 7 := by omega
  · subst h
    refine ⟨_, rfl, enters_of Try.func146 (by kernel_rfl) rfl, ?_⟩
    intro x y w h1 h2 h3 h4
    have hm : (if 65535 < x + y then (65535 : Int) else x + y) = min 65535 (x + y) := by omega
    go_enter Try.func146, Try.ntmps146
    go_wp2_with fail
    go_ret
    exact ⟨ret_int rfl, rfl⟩
  · subst h
    refine ⟨_, rfl, enters_of Try.func147 (by kernel_rfl) rfl, ?_⟩
    intro x y w h1 h2 h3 h4
    have hm : (if x - y < 0 then (0 : Int) else x - y) = max 0 (x - y) := by omega
    go_enter Try.func147, Try.ntmps147
    go_wp2_with fail
    go_ret
    exact ⟨ret_int rfl, rfl⟩
  · subst h
    refine ⟨_, rfl, enters_of Try.func148 (by kernel_rfl) rfl, ?_⟩
    intro x y w h1 h2 h3 h4
    have hm0 := Int.mul_nonneg h1 h3
    have hm1 : x * y ≤ 65535 * 65535 := Int.mul_le_mul h2 h4 h3 (by omega)
    have hd1 : x * y / 65535 ≤ x * y := Int.ediv_le_self _ hm0
    go_enter Try.func148, Try.ntmps148
    go_wp2_with fail
    go_ret
    exact ⟨ret_int rfl, rfl⟩
  · subst h
    refine ⟨_, rfl, enters_of Try.func149 (by kernel_rfl) rfl, ?_⟩
    intro x y w h1 h2 h3 h4
    have hm : (if x < y then y else x) = max x y := by omega
    go_enter Try.func149, Try.ntmps149
    go_wp2_with fail
    go_ret
    exact ⟨ret_int rfl, rfl⟩
end Go.Proofs.Ytibpmogmeoappab

/- Walks: Two; IsTwo, TwoOf. -/
namespace Go.Proofs.Ytibpmogmeoappab
open Go.RowKit

theorem enters_Two1 : ∀ args w, (callFunc 121 args).run Try.prog w = .ok (.enter 121 args) w := enters_of Try.func121 (by kernel_rfl) rfl

set_option maxHeartbeats 400000 in
theorem isTwo_any (op : Int) (w : World) : Calls Try.prog 96 #[.int .i64 op] w fun e w' => e = .returned (.bool (decide (4 ≤ op ∧ op ≤ 7))) ∧ w = w' := by
  by_cases h : 4 ≤ op
  · go_enter Try.func96, Try.ntmps96
    go_wp2
    go_ret
    exact ⟨ret_bool (by simp [h]), rfl⟩
  · go_enter Try.func96, Try.ntmps96
    go_wp2
    go_ret
    exact ⟨ret_bool (by simp; omega), rfl⟩

set_option maxRecDepth 100000 in
set_option maxHeartbeats 600000 in
theorem two1_any (gr ga gb : Nat) (op : Int) (g : FuncId) (W H : Int) (A B : Option Addr) (n c m d : Nat) (P Q : List Int) (x y : Int) (w : World)
    (hg : ∀ (x y : Int) (w : World), 0 ≤ x → x ≤ 65535 → 0 ≤ y → y ≤ 65535 → Calls Try.prog g #[.int .i64 x, .int .i64 y] w fun e w' => e = .returned (.int .i64 (twoNum op x y)) ∧ w = w')
    (eg : ∀ args w, (callFunc g args).run Try.prog w = .ok (.enter g args) w)
    (hF : Img.Fine ⟨W, H, P⟩) (hn : P.length = n) (hI : Ints w A P) (hF' : Img.Fine ⟨W, H, Q⟩) (hm : Q.length = m) (hI' : Ints w B Q)
    (hr : VarBox w gr 69 (.func (.func g) #[] #[])) (ha : ImgBox w ga W H A n c) (hb : ImgBox w gb W H B m d) (hx : 0 ≤ x) (hx' : x < W) (hy : 0 ≤ y) (hy' : y < H) :
    Calls Try.prog 121 #[.int .i64 x, .int .i64 y, .pointer (some ⟨gr, 0, none⟩), .pointer (some ⟨ga, 0, none⟩), .pointer (some ⟨gb, 0, none⟩)] w fun e w' => e = .returned (.int .i64 (twoNum op (Img.at_ ⟨W, H, P⟩ x y) (Img.at_ ⟨W, H, Q⟩ x y))) ∧ Below w.heap.size w w' := by
  obtain ⟨l1, c1⟩ := hr.cell0
  obtain ⟨q0, q1, q2, q3⟩ := ha.cells
  obtain ⟨r0, r1, r2, r3⟩ := hb.cells
  obtain ⟨p1, p2, p3, p4, p5⟩ := pix_num hF hn hx hx' hy hy'
  obtain ⟨s1, s2, s3, s4, s5⟩ := pix_num hF' hm hx hx' hy hy'
  obtain ⟨b, o, hA, hb1, hc⟩ := pix_cell hF hI hx hx' hy hy'
  obtain ⟨b2, o2, hB, hb2, hc2⟩ := pix_cell hF' hI' hx hx' hy hy'
  have hv := hF.at_bd (x := x) (y := y) hx hx' hy hy'
  have hv2 := hF'.at_bd (x := x) (y := y) hx hx' hy hy'
  have hq : ∀ k : Nat, Calls Try.prog g #[.int .i64 (Img.at_ ⟨W, H, P⟩ x y), .int .i64 (Img.at_ ⟨W, H, Q⟩ x y)] (w.drewN k) fun e w' => e = .returned (.int .i64 (twoNum op (Img.at_ ⟨W, H, P⟩ x y) (Img.at_ ⟨W, H, Q⟩ x y))) ∧ ∃ q, w' = w.drewN q :=
    fun k => (hg _ _ (w.drewN k) hv.1 hv.2 hv2.1 hv2.2).mono fun _ _ ⟨h1, h2⟩ => ⟨h1, k, h2.symm⟩
  have w1 : IntKind.i64.wrap (y * W) = y * W := IntWalk.i64_in _ (by omega)
  have w2 : IntKind.i64.wrap (y * W + x) = y * W + x := IntWalk.i64_in _ (by omega)
  generalize Img.at_ ⟨W, H, P⟩ x y = u at *
  generalize Img.at_ ⟨W, H, Q⟩ x y = v at *
  generalize twoNum op u v = z at *
  subst hA hB
  have HQ := hide hq
  clear hq hg hF hn hI hF' hm hI' hr ha hb hv hv2
  go_enter Try.func121, Try.ntmps121
  go_wp2_with fail
  go_quiet (exact (unhide HQ) _)
  go_wp2_with fail
  go_ret
  exact ⟨rfl, below_drewN (Below.refl _ _) _⟩

theorem twoImg_drawn {op : Int} {W H : Int} {P Q : List Int} (hF : Img.Fine ⟨W, H, P⟩) :
    drawn W H (fun x y => twoNum op (Img.at_ ⟨W, H, P⟩ x y) (Img.at_ ⟨W, H, Q⟩ x y)) = twoImg op ⟨W, H, P⟩ ⟨W, H, Q⟩ := by
  unfold drawn twoImg
  obtain ⟨⟨h1, h2⟩, ⟨h3, h4⟩, h5, _⟩ := hF
  simp only at h1 h2 h3 h4 h5 ⊢
  have hw : 0 < W.toNat := by omega
  congr 1
  have e : P.length = W.toNat * H.toNat := by
    have : ((W.toNat * H.toNat : Nat) : Int) = W * H := by rw [Int.natCast_mul, Int.toNat_of_nonneg (by omega), Int.toNat_of_nonneg (by omega)]
    omega
  rw [grid_eq _ _ hw, e]
  apply List.map_congr_left
  intro i hi
  unfold Img.at_
  have e2 : (((i / W.toNat : Nat) : Int) * W + ((i % W.toNat : Nat) : Int)).toNat = i := by
    have hd := Nat.div_add_mod i W.toNat
    have e3 : (((i / W.toNat : Nat) : Int) * W + ((i % W.toNat : Nat) : Int)) = ((W.toNat * (i / W.toNat) + i % W.toNat : Nat) : Int) := by
      rw [Int.natCast_add, Int.natCast_mul, Int.toNat_of_nonneg (by omega), Int.mul_comm]
    rw [e3, hd]; simp
  simp only
  rw [e2]

def pairList (op : Int) (P Q : List Int) (k : Nat) : List Int := (List.range k).map fun i => twoNum op (P.getD i 0) (Q.getD i 0)
theorem pairList_succ (op : Int) (P Q : List Int) (k : Nat) {u v : Int} (hu : P[k]? = some u) (hv : Q[k]? = some v) : pairList op P Q (k + 1) = pairList op P Q k ++ [twoNum op u v] := by
  unfold pairList
  rw [List.range_succ, List.map_append]
  simp [List.getD, hu, hv]
theorem pairList_length (op : Int) (P Q : List Int) (k : Nat) : (pairList op P Q k).length = k := by simp [pairList]
end Go.Proofs.Ytibpmogmeoappab

/- Walks: Two.  -/
namespace Go.Proofs.Ytibpmogmeoappab
open Go.RowKit

/-- the three blocks that Two lays first -/
def TwoBoxes (w : World) (W H : Int) (A : Option Addr) (n c : Nat) (W' H' : Int) (B : Option Addr) (m d : Nat) (w1 : World) : Prop :=
  ImgBox w1 w.heap.size W H A n c ∧ ImgBox w1 (w.heap.size + 1) W' H' B m d ∧ Blk w1 (w.heap.size + 1 + 1) 56 [.int .i64 0, .int .i64 0, .slice none 0 0] ∧ Below w.heap.size w w1
section
variable {w : World} {W H : Int} {A : Option Addr} {n c : Nat} {W' H' : Int} {B : Option Addr} {m d : Nat} {w1 w2 : World}
theorem TwoBoxes.keep (h : TwoBoxes w W H A n c W' H' B m d w1) (hb : Below w1.heap.size w1 w2) : TwoBoxes w W H A n c W' H' B m d w2 :=
  ⟨Blk.keep h.1 hb, Blk.keep h.2.1 hb, h.2.2.1.keep hb, h.2.2.2.trans (hb.mono h.2.2.2.size)⟩
theorem twoBoxes_start (w : World) (W H : Int) (A : Option Addr) (n c : Nat) (W' H' : Int) (B : Option Addr) (m d : Nat) :
    TwoBoxes w W H A n c W' H' B m d (((w.alloc (.cells #[.int .i64 W, .int .i64 H, .slice A n c] 56)).alloc (.cells #[.int .i64 W', .int .i64 H', .slice B m d] 56)).alloc (.cells #[.int .i64 0, .int .i64 0, .slice none 0 0] 56)) := by
  have b0 := Blk.new w 56 [Value.int .i64 W, .int .i64 H, .slice A n c]
  have b1 := Blk.new (w.alloc (.cells #[.int .i64 W, .int .i64 H, .slice A n c] 56)) 56 [Value.int .i64 W', .int .i64 H', .slice B m d]
  have b2 := Blk.new ((w.alloc (.cells #[.int .i64 W, .int .i64 H, .slice A n c] 56)).alloc (.cells #[.int .i64 W', .int .i64 H', .slice B m d] 56)) 56 [Value.int .i64 0, .int .i64 0, .slice none 0 0]
  simp only [World.size_alloc] at b1 b2
  exact ⟨(b0.alloc _).alloc _, b1.alloc _, b2, (((Below.refl _ _).alloc (Nat.le_refl _) _).alloc (by simp) _).alloc (by simp; omega) _⟩
theorem TwoBoxes.cells (h : TwoBoxes w W H A n c W' H' B m d w1) :
    w.heap.size + 1 + 1 < w1.heap.size ∧ w1.cell? ⟨w.heap.size, 0, none⟩ = some (.int .i64 W) ∧ w1.cell? ⟨w.heap.size, 1, none⟩ = some (.int .i64 H) ∧ w1.cell? ⟨w.heap.size, 2, none⟩ = some (.slice A n c) ∧
    w1.cell? ⟨w.heap.size + 1, 0, none⟩ = some (.int .i64 W') ∧ w1.cell? ⟨w.heap.size + 1, 1, none⟩ = some (.int .i64 H') ∧ w1.cell? ⟨w.heap.size + 1, 2, none⟩ = some (.slice B m d) ∧
    w1.cell? ⟨w.heap.size + 1 + 1, 0, none⟩ = some (.int .i64 0) ∧ w1.cell? ⟨w.heap.size + 1 + 1, 1, none⟩ = some (.int .i64 0) ∧ w1.cell? ⟨w.heap.size + 1 + 1, 2, none⟩ = some (.slice none 0 0) ∧
    w1.frozen? ⟨w.heap.size + 1 + 1, 0, none⟩ = false ∧ w1.frozen? ⟨w.heap.size + 1 + 1, 1, none⟩ = false ∧ w1.frozen? ⟨w.heap.size + 1 + 1, 2, none⟩ = false :=
  ⟨h.2.2.1.lt, by rw [Blk.cell h.1]; rfl, by rw [Blk.cell h.1]; rfl, by rw [Blk.cell h.1]; rfl, by rw [Blk.cell h.2.1]; rfl, by rw [Blk.cell h.2.1]; rfl, by rw [Blk.cell h.2.1]; rfl, by rw [h.2.2.1.cell]; rfl, by rw [h.2.2.1.cell]; rfl, by rw [h.2.2.1.cell]; rfl, h.2.2.1.frozen 0, h.2.2.1.frozen 1, h.2.2.1.frozen 2⟩
end
theorem retBoxNone' {w w1 : World} {g : Nat} {x : Int} {u v z : Value} (hw : w.heap.size ≤ g) (hb : Below w.heap.size w w1) :
    RetImgErr w Img.none x (.returned (.tuple #[.agg #[.int .i64 0, .int .i64 0, .slice none 0 0], .int .i64 x])) (((w1.setCell ⟨g, 0, none⟩ u).setCell ⟨g, 1, none⟩ v).setCell ⟨g, 2, none⟩ z) :=
  retNone (((hb.setCell (p := ⟨g, 0, none⟩) hw u).setCell (p := ⟨g, 1, none⟩) hw v).setCell (p := ⟨g, 2, none⟩) hw z)
theorem imap_alloc {w : World} {b : Nat} {l : List (Int × Value)} (h : IMap w b l) (o : Obj) : IMap (w.alloc o) b l := h.keep ((Below.refl _ _).alloc (Nat.le_refl _) o)

set_option maxRecDepth 100000 in
set_option maxHeartbeats 600000 in
theorem two_form1 (op : Int) (W H : Int) (A : Option Addr) (n c : Nat) (P : List Int) (W' H' : Int) (B : Option Addr) (m d : Nat) (Q : List Int) (w : World) (hn : P.length = n) (hI : Ints w A P) (hl : n ≤ 9223372036854775807) (hm : Q.length = m) (hI' : Ints w B Q) (_hl' : m ≤ 9223372036854775807) (hF : ¬ Img.Fine ⟨W, H, P⟩) :
    Calls Try.prog 98 #[.int .i64 op, .agg #[.int .i64 W, .int .i64 H, .slice A n c], .agg #[.int .i64 W', .int .i64 H', .slice B m d]] w (RetImgErr w Img.none 1) := by
  have hcall : ∀ W0 : World, Below w.heap.size w W0 → Calls Try.prog 119 #[.agg #[.int .i64 W, .int .i64 H, .slice A n c]] W0 fun e w' => e = .returned (.int .i64 1) ∧ Below W0.heap.size W0 w' := by
    intro W0 hb
    have := check_any W H A n c P W0 hn (hI.keep hb) hl
    rwa [checkErr_no hF] at this
  have HC := hide hcall
  have HS := hide (twoBoxes_start w W H A n c W' H' B m d)
  have HI := hide hI
  have HI' := hide hI'
  have HN := hide hn
  have HM := hide hm
  have HF := hide hF
  skip
  clear hcall hI hI' hn hm hF
  go_enter Try.func98, Try.ntmps98
  go_wp2_with fail
  refine ((unhide HC) _ HS.out.2.2.2).mono ?_
  rintro e w1 ⟨rfl, hE⟩
  have HB := hide (HS.out.keep hE)
  obtain ⟨q0, q1, q2, q3, q4, q5, q6, q7, q8, q9, q10, q11, q12⟩ := HB.out.cells
  clear hE HS
  go_wp2_with fail
  refine bodyPost_ret (v := .tuple #[.agg #[.int .i64 0, .int .i64 0, .slice none 0 0], .int .i64 1]) (by simp [results, Try.results98, go_sem, q7, q8, q9]) rfl ?_
  exact retBoxNone' (by omega) HB.out.2.2.2

set_option maxRecDepth 100000 in
set_option maxHeartbeats 600000 in
theorem two_form2 (op : Int) (W H : Int) (A : Option Addr) (n c : Nat) (P : List Int) (W' H' : Int) (B : Option Addr) (m d : Nat) (Q : List Int) (w : World) (hn : P.length = n) (hI : Ints w A P) (hl : n ≤ 9223372036854775807) (hm : Q.length = m) (hI' : Ints w B Q) (hl' : m ≤ 9223372036854775807) (hF : Img.Fine ⟨W, H, P⟩) (hF' : ¬ Img.Fine ⟨W', H', Q⟩) :
    Calls Try.prog 98 #[.int .i64 op, .agg #[.int .i64 W, .int .i64 H, .slice A n c], .agg #[.int .i64 W', .int .i64 H', .slice B m d]] w (RetImgErr w Img.none 1) := by
  have hcall : ∀ W0 : World, Below w.heap.size w W0 → Calls Try.prog 119 #[.agg #[.int .i64 W, .int .i64 H, .slice A n c]] W0 fun e w' => e = .returned (.int .i64 0) ∧ Below W0.heap.size W0 w' := by
    intro W0 hb
    have := check_any W H A n c P W0 hn (hI.keep hb) hl
    rwa [checkErr_yes hF] at this
  have hcall2 : ∀ W0 : World, Below w.heap.size w W0 → Calls Try.prog 119 #[.agg #[.int .i64 W', .int .i64 H', .slice B m d]] W0 fun e w' => e = .returned (.int .i64 1) ∧ Below W0.heap.size W0 w' := by
    intro W0 hb
    have := check_any W' H' B m d Q W0 hm (hI'.keep hb) hl'
    rwa [checkErr_no hF'] at this
  have HC2 := hide hcall2
  clear hcall2
  have HC := hide hcall
  have HS := hide (twoBoxes_start w W H A n c W' H' B m d)
  have HI := hide hI
  have HI' := hide hI'
  have HN := hide hn
  have HM := hide hm
  have HF := hide hF
  have HF2 := hide hF'
  clear hcall hI hI' hn hm hF hF'
  go_enter Try.func98, Try.ntmps98
  go_wp2_with fail
  refine ((unhide HC) _ HS.out.2.2.2).mono ?_
  rintro e w1 ⟨rfl, hE⟩
  have HB := hide (HS.out.keep hE)
  obtain ⟨q0, q1, q2, q3, q4, q5, q6, q7, q8, q9, q10, q11, q12⟩ := HB.out.cells
  clear hE HS
  go_wp2_with fail
  refine ((unhide HC2) _ HB.out.2.2.2).mono ?_
  rintro e w2 ⟨rfl, hE⟩
  have HB1 := HB
  clear HB q0 q1 q2 q3 q4 q5 q6 q7 q8 q9 q10 q11 q12
  have HB := hide (HB1.out.keep hE)
  obtain ⟨q0, q1, q2, q3, q4, q5, q6, q7, q8, q9, q10, q11, q12⟩ := HB.out.cells
  clear hE HB1
  go_wp2_with fail
  refine bodyPost_ret (v := .tuple #[.agg #[.int .i64 0, .int .i64 0, .slice none 0 0], .int .i64 1]) (by simp [results, Try.results98, go_sem, q7, q8, q9]) rfl ?_
  exact retBoxNone' (by omega) HB.out.2.2.2

theorem nilfn_zero (w : World) : (zeroValue 69).run Try.prog w = .ok .nilFunc w := by kernel_rfl
theorem lookI_none {op : Int} (h : ¬ (4 ≤ op ∧ op ≤ 7)) : lookI ruleMap op = none := by
  have e4 : ((4 : Int) == op) = false := by simp; omega
  have e5 : ((5 : Int) == op) = false := by simp; omega
  have e6 : ((6 : Int) == op) = false := by simp; omega
  have e7 : ((7 : Int) == op) = false := by simp; omega
  simp [lookI, ruleMap, e4, e5, e6, e7]

set_option maxRecDepth 100000 in
set_option maxHeartbeats 600000 in
theorem two_kind (op : Int) (W H : Int) (A : Option Addr) (n c : Nat) (P : List Int) (W' H' : Int) (B : Option Addr) (m d : Nat) (Q : List Int) (w : World) (hn : P.length = n) (hI : Ints w A P) (hl : n ≤ 9223372036854775807) (hm : Q.length = m) (hI' : Ints w B Q) (hl' : m ≤ 9223372036854775807) (hF : Img.Fine ⟨W, H, P⟩) (hF' : Img.Fine ⟨W', H', Q⟩) (hop : ¬ (4 ≤ op ∧ op ≤ 7)) :
    Calls Try.prog 98 #[.int .i64 op, .agg #[.int .i64 W, .int .i64 H, .slice A n c], .agg #[.int .i64 W', .int .i64 H', .slice B m d]] w (RetImgErr w Img.none 4) := by
  have hcall : ∀ W0 : World, Below w.heap.size w W0 → Calls Try.prog 119 #[.agg #[.int .i64 W, .int .i64 H, .slice A n c]] W0 fun e w' => e = .returned (.int .i64 0) ∧ Below W0.heap.size W0 w' := by
    intro W0 hb
    have := check_any W H A n c P W0 hn (hI.keep hb) hl
    rwa [checkErr_yes hF] at this
  have hcall2 : ∀ W0 : World, Below w.heap.size w W0 → Calls Try.prog 119 #[.agg #[.int .i64 W', .int .i64 H', .slice B m d]] W0 fun e w' => e = .returned (.int .i64 0) ∧ Below W0.heap.size W0 w' := by
    intro W0 hb
    have := check_any W' H' B m d Q W0 hm (hI'.keep hb) hl'
    rwa [checkErr_yes hF'] at this
  have HC2 := hide hcall2
  clear hcall2
  have HC := hide hcall
  have HS := hide (twoBoxes_start w W H A n c W' H' B m d)
  have HI := hide hI
  have HI' := hide hI'
  have HN := hide hn
  have HM := hide hm
  have HF := hide hF
  have HF2 := hide hF'
  clear hcall hI hI' hn hm hF hF'
  go_enter Try.func98, Try.ntmps98
  go_wp2_with fail
  refine ((unhide HC) _ HS.out.2.2.2).mono ?_
  rintro e w1 ⟨rfl, hE⟩
  have HB := hide (HS.out.keep hE)
  obtain ⟨q0, q1, q2, q3, q4, q5, q6, q7, q8, q9, q10, q11, q12⟩ := HB.out.cells
  clear hE HS
  go_wp2_with fail
  refine ((unhide HC2) _ HB.out.2.2.2).mono ?_
  rintro e w2 ⟨rfl, hE⟩
  have HB1 := HB
  clear HB q0 q1 q2 q3 q4 q5 q6 q7 q8 q9 q10 q11 q12
  have HB := hide (HB1.out.keep hE)
  obtain ⟨q0, q1, q2, q3, q4, q5, q6, q7, q8, q9, q10, q11, q12⟩ := HB.out.cells
  clear hE HB1
  go_wp2_with fail
  refine (rules_any _).mono ?_
  rintro e w3 ⟨rfl, hM, hE⟩
  have HBb := HB
  clear HB q0 q1 q2 q3 q4 q5 q6 q7 q8 q9 q10 q11 q12
  have HB := hide (HBb.out.keep hE)
  obtain ⟨q0, q1, q2, q3, q4, q5, q6, q7, q8, q9, q10, q11, q12⟩ := HB.out.cells
  have hz := nilfn_zero w3
  have hlk := run_lookup_ints Try.underlying172 Try.underlying3 hz hM op
  rw [lookI_none hop] at hlk; simp only [Option.getD_none, Option.isSome_none] at hlk
  clear hE HBb hM hz
  have z0 : w.heap.size < w3.heap.size := by omega
  have z1 : w.heap.size + 1 < w3.heap.size := by omega
  have z2 : ¬ w.heap.size = w3.heap.size := by omega
  have z3 : ¬ w.heap.size + 1 = w3.heap.size := by omega
  have z4 : ¬ w.heap.size + 1 + 1 = w3.heap.size := by omega
  go_wp2_with fail
  refine bodyPost_ret (v := .tuple #[.agg #[.int .i64 0, .int .i64 0, .slice none 0 0], .int .i64 4]) (by simp [results, Try.results98, go_sem, q0, q7, q8, q9]) rfl ?_
  exact retNone ((((HB.out.2.2.2.setCell (by simp only; omega) _).setCell (by simp only; omega) _).setCell (by simp only; omega) _).alloc (by simp; omega) _)

set_option maxRecDepth 100000 in
set_option maxHeartbeats 600000 in
theorem two_size (op : Int) (W H : Int) (A : Option Addr) (n c : Nat) (P : List Int) (W' H' : Int) (B : Option Addr) (m d : Nat) (Q : List Int) (w : World) (hn : P.length = n) (hI : Ints w A P) (hl : n ≤ 9223372036854775807) (hm : Q.length = m) (hI' : Ints w B Q) (hl' : m ≤ 9223372036854775807) (hF : Img.Fine ⟨W, H, P⟩) (hF' : Img.Fine ⟨W', H', Q⟩) (g : FuncId) (hg : lookI ruleMap op = some (.func (.func g) #[] #[])) (hs : ¬ (W = W' ∧ H = H')) :
    Calls Try.prog 98 #[.int .i64 op, .agg #[.int .i64 W, .int .i64 H, .slice A n c], .agg #[.int .i64 W', .int .i64 H', .slice B m d]] w (RetImgErr w Img.none 6) := by
  have hcall : ∀ W0 : World, Below w.heap.size w W0 → Calls Try.prog 119 #[.agg #[.int .i64 W, .int .i64 H, .slice A n c]] W0 fun e w' => e = .returned (.int .i64 0) ∧ Below W0.heap.size W0 w' := by
    intro W0 hb
    have := check_any W H A n c P W0 hn (hI.keep hb) hl
    rwa [checkErr_yes hF] at this
  have hcall2 : ∀ W0 : World, Below w.heap.size w W0 → Calls Try.prog 119 #[.agg #[.int .i64 W', .int .i64 H', .slice B m d]] W0 fun e w' => e = .returned (.int .i64 0) ∧ Below W0.heap.size W0 w' := by
    intro W0 hb
    have := check_any W' H' B m d Q W0 hm (hI'.keep hb) hl'
    rwa [checkErr_yes hF'] at this
  have HC2 := hide hcall2
  clear hcall2
  have HC := hide hcall
  have HS := hide (twoBoxes_start w W H A n c W' H' B m d)
  have HI := hide hI
  have HI' := hide hI'
  have HN := hide hn
  have HM := hide hm
  have HF := hide hF
  have HF2 := hide hF'
  clear hcall hI hI' hn hm hF hF'
  go_enter Try.func98, Try.ntmps98
  go_wp2_with fail
  refine ((unhide HC) _ HS.out.2.2.2).mono ?_
  rintro e w1 ⟨rfl, hE⟩
  have HB := hide (HS.out.keep hE)
  obtain ⟨q0, q1, q2, q3, q4, q5, q6, q7, q8, q9, q10, q11, q12⟩ := HB.out.cells
  clear hE HS
  go_wp2_with fail
  refine ((unhide HC2) _ HB.out.2.2.2).mono ?_
  rintro e w2 ⟨rfl, hE⟩
  have HB1 := HB
  clear HB q0 q1 q2 q3 q4 q5 q6 q7 q8 q9 q10 q11 q12
  have HB := hide (HB1.out.keep hE)
  obtain ⟨q0, q1, q2, q3, q4, q5, q6, q7, q8, q9, q10, q11, q12⟩ := HB.out.cells
  clear hE HB1
  go_wp2_with fail
  refine (rules_any _).mono ?_
  rintro e w3 ⟨rfl, hM, hE⟩
  have HBb := HB
  clear HB q0 q1 q2 q3 q4 q5 q6 q7 q8 q9 q10 q11 q12
  have HB := hide (HBb.out.keep hE)
  obtain ⟨q0, q1, q2, q3, q4, q5, q6, q7, q8, q9, q10, q11, q12⟩ := HB.out.cells
  have hz := nilfn_zero w3
  have hlk := run_lookup_ints Try.underlying172 Try.underlying3 hz hM op
  rw [hg] at hlk; simp only [Option.getD_some, Option.isSome_some] at hlk
  clear hE HBb hM hz
  have z0 : w.heap.size < w3.heap.size := by omega
  have z1 : w.heap.size + 1 < w3.heap.size := by omega
  have z2 : ¬ w.heap.size = w3.heap.size := by omega
  have z3 : ¬ w.heap.size + 1 = w3.heap.size := by omega
  have z4 : ¬ w.heap.size + 1 + 1 = w3.heap.size := by omega
  by_cases hW : W = W'
  · have hW1 : (W != W') = false := by simpa using hW
    have hH1 : (H != H') = true := by simp; exact fun e => hs ⟨hW, e⟩
    clear hW hs
    go_wp2_with fail
    refine bodyPost_ret (v := .tuple #[.agg #[.int .i64 0, .int .i64 0, .slice none 0 0], .int .i64 6]) (by simp [results, Try.results98, go_sem, q0, q7, q8, q9]) rfl ?_
    exact retNone ((((HB.out.2.2.2.setCell (by simp only; omega) _).setCell (by simp only; omega) _).setCell (by simp only; omega) _).alloc (by simp; omega) _)
  · have hW1 : (W != W') = true := by simpa using hW
    clear hW hs
    go_wp2_with fail
    refine bodyPost_ret (v := .tuple #[.agg #[.int .i64 0, .int .i64 0, .slice none 0 0], .int .i64 6]) (by simp [results, Try.results98, go_sem, q0, q7, q8, q9]) rfl ?_
    exact retNone ((((HB.out.2.2.2.setCell (by simp only; omega) _).setCell (by simp only; omega) _).setCell (by simp only; omega) _).alloc (by simp; omega) _)

set_option maxRecDepth 100000 in
set_option maxHeartbeats 600000 in
theorem two_yes (op : Int) (W H : Int) (A : Option Addr) (n c : Nat) (P : List Int) (W' H' : Int) (B : Option Addr) (m d : Nat) (Q : List Int) (w : World) (hn : P.length = n) (hI : Ints w A P) (hl : n ≤ 9223372036854775807) (hm : Q.length = m) (hI' : Ints w B Q) (hl' : m ≤ 9223372036854775807) (hF : Img.Fine ⟨W, H, P⟩) (hF' : Img.Fine ⟨W, H, Q⟩) (g : FuncId) (hg : lookI ruleMap op = some (.func (.func g) #[] #[])) (eg : ∀ args w, (callFunc g args).run Try.prog w = .ok (.enter g args) w)
    (hrule : ∀ (x y : Int) (w : World), 0 ≤ x → x ≤ 65535 → 0 ≤ y → y ≤ 65535 → Calls Try.prog g #[.int .i64 x, .int .i64 y] w fun e w' => e = .returned (.int .i64 (twoNum op x y)) ∧ w = w') (hW : W = W') (hH : H = H') :
    Calls Try.prog 98 #[.int .i64 op, .agg #[.int .i64 W, .int .i64 H, .slice A n c], .agg #[.int .i64 W', .int .i64 H', .slice B m d]] w (RetImgErr w (twoImg op ⟨W, H, P⟩ ⟨W, H, Q⟩) 0) := by
  subst hW hH
  obtain ⟨⟨d1, d2⟩, ⟨d3, d4⟩, _⟩ := id hF
  simp only at d1 d2 d3 d4
  have HR := hide hrule
  clear hrule
  have hWW : (W != W) = false := by simp
  have hHH : (H != H) = false := by simp
  have hcall : ∀ W0 : World, Below w.heap.size w W0 → Calls Try.prog 119 #[.agg #[.int .i64 W, .int .i64 H, .slice A n c]] W0 fun e w' => e = .returned (.int .i64 0) ∧ Below W0.heap.size W0 w' := by
    intro W0 hb
    have := check_any W H A n c P W0 hn (hI.keep hb) hl
    rwa [checkErr_yes hF] at this
  have hcall2 : ∀ W0 : World, Below w.heap.size w W0 → Calls Try.prog 119 #[.agg #[.int .i64 W, .int .i64 H, .slice B m d]] W0 fun e w' => e = .returned (.int .i64 0) ∧ Below W0.heap.size W0 w' := by
    intro W0 hb
    have := check_any W H B m d Q W0 hm (hI'.keep hb) hl'
    rwa [checkErr_yes hF'] at this
  have HC2 := hide hcall2
  clear hcall2
  have HC := hide hcall
  have HS := hide (twoBoxes_start w W H A n c W H B m d)
  have HI := hide hI
  have HI' := hide hI'
  have HN := hide hn
  have HM := hide hm
  have HF := hide hF
  have HF2 := hide hF'
  clear hcall hI hI' hn hm hF hF'
  go_enter Try.func98, Try.ntmps98
  go_wp2_with fail
  refine ((unhide HC) _ HS.out.2.2.2).mono ?_
  rintro e w1 ⟨rfl, hE⟩
  have HB := hide (HS.out.keep hE)
  obtain ⟨q0, q1, q2, q3, q4, q5, q6, q7, q8, q9, q10, q11, q12⟩ := HB.out.cells
  clear hE HS
  go_wp2_with fail
  refine ((unhide HC2) _ HB.out.2.2.2).mono ?_
  rintro e w2 ⟨rfl, hE⟩
  have HB1 := HB
  clear HB q0 q1 q2 q3 q4 q5 q6 q7 q8 q9 q10 q11 q12
  have HB := hide (HB1.out.keep hE)
  obtain ⟨q0, q1, q2, q3, q4, q5, q6, q7, q8, q9, q10, q11, q12⟩ := HB.out.cells
  clear hE HB1
  go_wp2_with fail
  refine (rules_any _).mono ?_
  rintro e w3 ⟨rfl, hM, hE⟩
  have HBb := HB
  clear HB q0 q1 q2 q3 q4 q5 q6 q7 q8 q9 q10 q11 q12
  have HB := hide (HBb.out.keep hE)
  obtain ⟨q0, q1, q2, q3, q4, q5, q6, q7, q8, q9, q10, q11, q12⟩ := HB.out.cells
  have hz := nilfn_zero w3
  have hlk := run_lookup_ints Try.underlying172 Try.underlying3 hz hM op
  rw [hg] at hlk; simp only [Option.getD_some, Option.isSome_some] at hlk
  clear hE HBb hM hz
  have z0 : w.heap.size < w3.heap.size := by omega
  have z1 : w.heap.size + 1 < w3.heap.size := by omega
  have z2 : ¬ w.heap.size = w3.heap.size := by omega
  have z3 : ¬ w.heap.size + 1 = w3.heap.size := by omega
  have z4 : ¬ w.heap.size + 1 + 1 = w3.heap.size := by omega
  go_wp2_with fail
  have HB2 := hide (HB.out.keep ((Below.refl _ _).alloc (Nat.le_refl _) (.cells #[.func (.func g) #[] #[]] 69)))
  have hat : VarBox (w3.alloc (.cells #[.func (.func g) #[] #[]] 69)) w3.heap.size 69 (.func (.func g) #[] #[]) := Blk.new w3 69 [.func (.func g) #[] #[]]
  have HAT := hide hat
  clear hat
  refine (draw_any 121 #[.pointer (some ⟨w3.heap.size, 0, none⟩), .pointer (some ⟨w.heap.size, 0, none⟩), .pointer (some ⟨w.heap.size + 1, 0, none⟩)] W H (by omega) (by omega) (by omega) (by omega) (fun x y => twoNum op (Img.at_ ⟨W, H, P⟩ x y) (Img.at_ ⟨W, H, Q⟩ x y)) _ enters_Two1 (fun W0 x y hb hx hx' hy hy' => ?_)).mono ?_
  · exact two1_any w3.heap.size w.heap.size (w.heap.size + 1) op g W H A B n c m d P Q x y W0 (unhide HR) eg HF.out HN.out (HI.out.keep (HB2.out.2.2.2.trans (hb.mono HB2.out.2.2.2.size))) HF2.out HM.out (HI'.out.keep (HB2.out.2.2.2.trans (hb.mono HB2.out.2.2.2.size))) (Blk.keep HAT.out hb) (Blk.keep HB2.out.1 hb) (Blk.keep HB2.out.2.1 hb) hx hx' hy hy'
  rw [twoImg_drawn HF.out]
  rintro e w4 ⟨W1, H1, P1, A1, n1, c1, hr, hn1, rfl, hI1, hA1, hb1⟩
  have HRR := hide hr
  have HN1 := hide hn1
  have HA1 := hide hA1
  have HB3 := hide (HB2.out.keep hb1)
  obtain ⟨q0, q1, q2, q3, q4, q5, q6, q7, q8, q9, q10, q11, q12⟩ := HB3.out.cells
  have hsz := HB.out.cells.1
  clear hr hn1 hA1 hb1
  go_wp2_with fail
  refine bodyPost_ret (v := .tuple #[.agg #[.int .i64 W1, .int .i64 H1, .slice A1 n1 c1], .int .i64 0]) (by simp [results, Try.results98, go_sem, q7, q8, q9]) rfl ?_
  refine retBox HRR.out HN1.out hI1 HA1.out ?_ (by omega) HB3.out.2.2.2
  show w.heap.size + 1 + 1 < (w3.alloc _).heap.size
  simp only [World.size_alloc]; omega

theorem two_any (op : Int) (W H : Int) (A : Option Addr) (n c : Nat) (P : List Int) (W' H' : Int) (B : Option Addr) (m d : Nat) (Q : List Int) (w : World) (hn : P.length = n) (hI : Ints w A P) (hl : n ≤ 9223372036854775807) (hm : Q.length = m) (hI' : Ints w B Q) (hl' : m ≤ 9223372036854775807) :
    Calls Try.prog 98 #[.int .i64 op, .agg #[.int .i64 W, .int .i64 H, .slice A n c], .agg #[.int .i64 W', .int .i64 H', .slice B m d]] w (RetImgErr w (twoAns op ⟨W, H, P⟩ ⟨W', H', Q⟩) (twoErr op ⟨W, H, P⟩ ⟨W', H', Q⟩)) := by
  by_cases hF : Img.Fine ⟨W, H, P⟩
  · by_cases hF' : Img.Fine ⟨W', H', Q⟩
    · by_cases hop : 4 ≤ op ∧ op ≤ 7
      · obtain ⟨g, hg, eg, hrule⟩ := rule_of hop
        by_cases hs : W = W' ∧ H = H'
        · obtain ⟨hW, hH⟩ := hs
          subst hW hH
          have e : twoErr op ⟨W, H, P⟩ ⟨W, H, Q⟩ = 0 := by unfold twoErr; rw [if_neg (by simp [hF, hF']), if_neg (by omega), if_neg (by simp)]
          have a : twoAns op ⟨W, H, P⟩ ⟨W, H, Q⟩ = twoImg op ⟨W, H, P⟩ ⟨W, H, Q⟩ := by unfold twoAns; rw [if_pos e]
          rw [a, e]
          exact two_yes op W H A n c P W H B m d Q w hn hI hl hm hI' hl' hF hF' g hg eg hrule rfl rfl
        · have e : twoErr op ⟨W, H, P⟩ ⟨W', H', Q⟩ = 6 := by unfold twoErr; rw [if_neg (by simp [hF, hF']), if_neg (by omega), if_pos (by simp only; omega)]
          have a : twoAns op ⟨W, H, P⟩ ⟨W', H', Q⟩ = Img.none := by unfold twoAns; rw [if_neg (by omega)]
          rw [a, e]
          exact two_size op W H A n c P W' H' B m d Q w hn hI hl hm hI' hl' hF hF' g hg hs
      · have e : twoErr op ⟨W, H, P⟩ ⟨W', H', Q⟩ = 4 := by unfold twoErr; rw [if_neg (by simp [hF, hF']), if_pos hop]
        have a : twoAns op ⟨W, H, P⟩ ⟨W', H', Q⟩ = Img.none := by unfold twoAns; rw [if_neg (by omega)]
        rw [a, e]
        exact two_kind op W H A n c P W' H' B m d Q w hn hI hl hm hI' hl' hF hF' hop
    · have e : twoErr op ⟨W, H, P⟩ ⟨W', H', Q⟩ = 1 := by unfold twoErr; rw [if_pos (by simp [hF'])]
      have a : twoAns op ⟨W, H, P⟩ ⟨W', H', Q⟩ = Img.none := by unfold twoAns; rw [if_neg (by omega)]
      rw [a, e]
      exact two_form2 op W H A n c P W' H' B m d Q w hn hI hl hm hI' hl' hF hF'
  · have e : twoErr op ⟨W, H, P⟩ ⟨W', H', Q⟩ = 1 := by unfold twoErr; rw [if_pos (by simp [hF])]
    have a : twoAns op ⟨W, H, P⟩ ⟨W', H', Q⟩ = Img.none := by unfold twoAns; rw [if_neg (by omega)]
    rw [a, e]
    exact two_form1 op W H A n c P W' H' B m d Q w hn hI hl hm hI' hl' hF
end Go.Proofs.Ytibpmogmeoappab

/- Walks: TwoOf. -/
namespace Go.Proofs.Ytibpmogmeoappab
open Go.RowKit

theorem twoOf_start (w : World) (W H : Int) (A : Option Addr) (n c : Nat) (W' H' : Int) (B : Option Addr) (m d : Nat) :
    (∀ b ∈ [(w.heap.size, 56, [Value.int .i64 W, .int .i64 H, .slice A n c]), (w.heap.size + 1, 56, [Value.int .i64 W', .int .i64 H', .slice B m d]), (w.heap.size + 2, 56, [Value.int .i64 0, .int .i64 0, .slice none 0 0])],
      Blk ((((w.alloc (.cells #[.int .i64 W, .int .i64 H, .slice A n c] 56)).alloc (.cells #[.int .i64 W', .int .i64 H', .slice B m d] 56)).alloc (.cells #[.int .i64 0, .int .i64 0, .slice none 0 0] 56)).alloc (.cells #[.int .i64 W, .int .i64 H, .slice none 0 0] 56)) b.1 b.2.1 b.2.2 ∧ b.1 < w.heap.size + 4 ∧ b.1 ≠ w.heap.size + 3) ∧
    Blk ((((w.alloc (.cells #[.int .i64 W, .int .i64 H, .slice A n c] 56)).alloc (.cells #[.int .i64 W', .int .i64 H', .slice B m d] 56)).alloc (.cells #[.int .i64 0, .int .i64 0, .slice none 0 0] 56)).alloc (.cells #[.int .i64 W, .int .i64 H, .slice none 0 0] 56)) (w.heap.size + 3) 56 [.int .i64 W, .int .i64 H, .slice none 0 0] ∧
    Below w.heap.size w ((((w.alloc (.cells #[.int .i64 W, .int .i64 H, .slice A n c] 56)).alloc (.cells #[.int .i64 W', .int .i64 H', .slice B m d] 56)).alloc (.cells #[.int .i64 0, .int .i64 0, .slice none 0 0] 56)).alloc (.cells #[.int .i64 W, .int .i64 H, .slice none 0 0] 56)) := by
  have b0 := Blk.new w 56 [Value.int .i64 W, .int .i64 H, .slice A n c]
  have b1 := Blk.new (w.alloc (.cells #[.int .i64 W, .int .i64 H, .slice A n c] 56)) 56 [Value.int .i64 W', .int .i64 H', .slice B m d]
  have b2 := Blk.new ((w.alloc (.cells #[.int .i64 W, .int .i64 H, .slice A n c] 56)).alloc (.cells #[.int .i64 W', .int .i64 H', .slice B m d] 56)) 56 [Value.int .i64 0, .int .i64 0, .slice none 0 0]
  have b3 := Blk.new (((w.alloc (.cells #[.int .i64 W, .int .i64 H, .slice A n c] 56)).alloc (.cells #[.int .i64 W', .int .i64 H', .slice B m d] 56)).alloc (.cells #[.int .i64 0, .int .i64 0, .slice none 0 0] 56)) 56 [Value.int .i64 W, .int .i64 H, .slice none 0 0]
  simp only [World.size_alloc] at b1 b2 b3
  refine ⟨?_, b3, ?_⟩
  · intro b hb
    simp only [List.mem_cons, List.not_mem_nil, or_false] at hb
    rcases hb with rfl | rfl | rfl
    · exact ⟨((b0.alloc _).alloc _).alloc _, by simp, by simp⟩
    · exact ⟨(b1.alloc _).alloc _, by simp, by simp⟩
    · exact ⟨b2.alloc _, by simp, by simp⟩
  · exact ((((Below.refl _ _).alloc (Nat.le_refl _) _).alloc (by simp) _).alloc (by simp; omega) _).alloc (by simp; omega) _

set_option maxRecDepth 100000 in
set_option maxHeartbeats 1600000 in
theorem twoOf_any (op : Int) (W H : Int) (A : Option Addr) (n c : Nat) (P : List Int) (W' H' : Int) (B : Option Addr) (m d : Nat) (Q : List Int) (w : World) (hop : 4 ≤ op ∧ op ≤ 7)
    (hF : Img.Fine ⟨W, H, P⟩) (hn : P.length = n) (hI : Ints w A P) (hF' : Img.Fine ⟨W', H', Q⟩) (hm : Q.length = m) (hI' : Ints w B Q) (hW : W = W') (hH : H = H') :
    Calls Try.prog 107 #[.int .i64 op, .agg #[.int .i64 W, .int .i64 H, .slice A n c], .agg #[.int .i64 W', .int .i64 H', .slice B m d]] w (RetImg w (twoImg op ⟨W, H, P⟩ ⟨W', H', Q⟩)) := by
  obtain ⟨i0, hi0, hz0, hz1, hz2⟩ := info_parts Try.info3
  have hnm : n = m := by
    have h1 := hF.2.2.1
    have h2 := hF'.2.2.1
    simp only at h1 h2
    rw [hW, hH] at h1
    omega
  have hn256 : n ≤ 256 := by
    have h1 := hF.2.2.1
    have h2 := mul_bd hF.1.1 hF.1.2 hF.2.1.1 hF.2.1.2
    simp only at h1 h2
    omega
  have HF := hide hF
  have HF2 := hide hF'
  have HN := hide hn
  have HM := hide hm
  have HI := hide hI
  have HI' := hide hI'
  have HOP := hide hop
  subst hnm
  clear hF hF' hn hm hI hI' hop hW hH
  go_enter Try.func107, Try.ntmps107
  go_wp2_with fail
  go_loopw [8] (fun i wr => ∃ (k : Nat) (A' : Option Addr) (c' : Nat), k ≤ n ∧ i = .int .i64 k ∧ LineRel w W H (w.heap.size + 3) (w.heap.size + 4) [(w.heap.size, 56, [.int .i64 W, .int .i64 H, .slice A n c]), (w.heap.size + 1, 56, [.int .i64 W', .int .i64 H', .slice B n d]), (w.heap.size + 2, 56, [.int .i64 0, .int .i64 0, .slice none 0 0])] (pairList op P Q k) A' k c' wr)
    (fun i _ => n - (intOf i).toNat)
  case atStart =>
    have HB := twoOf_start w W H A n c W' H' B n d
    exact ⟨0, none, 0, by omega, rfl, LineRel.start HB.2.1 (by omega) (by omega) (by simp) HB.1 HB.2.2⟩
  case round =>
    obtain ⟨k, A', c', hk, rfl, hG⟩ := hrel
    have HG := hide hG
    have hs := hG.size
    have hk30 : k ≤ 1073741824 := by omega
    obtain ⟨t0, t1, t2, t3, t4⟩ := hG.cells
    have hba := hG.others (w.heap.size, 56, [.int .i64 W, .int .i64 H, .slice A n c]) (by simp)
    have hbb := hG.others (w.heap.size + 1, 56, [.int .i64 W', .int .i64 H', .slice B n d]) (by simp)
    have q2 : wr.cell? ⟨w.heap.size, 2, none⟩ = some (.slice A n c) := by rw [hba.1.cell]; rfl
    have q3 : wr.cell? ⟨w.heap.size + 1, 2, none⟩ = some (.slice B n d) := by rw [hbb.1.cell]; rfl
    clear hG hba hbb
    by_cases hlt : k < n
    · obtain ⟨b, o, x, hA, hb, hx, hc⟩ := (HI.out.keep HG.out.below).at_ k (by have := HN.out; omega)
      obtain ⟨b2, o2, y, hB, hb2, hy, hc2⟩ := (HI'.out.keep HG.out.below).at_ k (by have := HM.out; omega)
      have hvx := HF.out.2.2.2 x (List.mem_of_getElem? hx)
      have hvy := HF2.out.2.2.2 y (List.mem_of_getElem? hy)
      have HST := hide (pairList_succ op P Q k hx hy)
      have hk0 : (0 : Int) ≤ (k : Int) := by omega
      have hk1 : (k : Int) < (n : Int) := by omega
      obtain ⟨x0, x1⟩ := hvx
      obtain ⟨y0, y1⟩ := hvy
      have hm0 := Int.mul_nonneg x0 y0
      have hm1 : x * y ≤ 65535 * 65535 := Int.mul_le_mul x1 y1 y0 (by omega)
      have hd1 : x * y / 65535 ≤ x * y := Int.ediv_le_self _ hm0
      have hd0 : 0 ≤ x * y / 65535 := Int.ediv_nonneg hm0 (by omega)
      have e1 : IntKind.i64.wrap (x + y) = x + y := IntWalk.i64_in _ (by omega)
      have e2 : IntKind.i64.wrap (x - y) = x - y := IntWalk.i64_in _ (by omega)
      have e3 : IntKind.i64.wrap (x * y) = x * y := IntWalk.i64_in _ (by omega)
      have e4 : (x * y).tdiv 65535 = x * y / 65535 := Int.tdiv_eq_ediv_of_nonneg hm0
      have e5 : IntKind.i64.wrap (x * y / 65535) = x * y / 65535 := IntWalk.i64_in _ (by omega)
      subst hA hB
      clear hx hy
      have hopc := HOP.out
      obtain h | h | h | h : op = 4 ∨ op = 5 ∨ op = 6 ∨ op = 7 := by omega
      · subst h
        have hmin : (if x + y < 65535 then x + y else 65535) = min 65535 (x + y) := by omega
        go_wp2_with fail
        go_quiet (fail)
        have HG1 := hide (HG.out.keep (below_drewN (Below.refl _ _) nq))
        have hs1 : w.heap.size + 4 ≤ (wr.drewN nq).heap.size := hs
        go_wp2_with (at_builtin; refine wpList_app1 (wr.drewN nq) rfl _ _ 25 rfl (w.heap.size + 4) 3 i0 _ 1 8 Try.underlying25 hi0 hz0 hz1 hz2 rfl (by omega) A' k c' _ [.int .i64 (min 65535 (x + y))] rfl HG1.out.own rfl rfl (one_int _) hk30 (by omega) hs1 ?_; intro A1 c1 w1 hown1 hg1; obtain ⟨p0, p1, p2⟩ := HG1.out.midCells hg1)
        go_roundw
        case rel => exact ⟨k + 1, A1, c1, by omega, by go_num, by rw [HST.out]; exact HG1.out.step hg1 hown1⟩
        case measure => simp [intOf]; omega
      · subst h
        have hmin : (if y < x then x - y else 0) = max 0 (x - y) := by omega
        go_wp2_with fail
        go_quiet (fail)
        have HG1 := hide (HG.out.keep (below_drewN (Below.refl _ _) nq))
        have hs1 : w.heap.size + 4 ≤ (wr.drewN nq).heap.size := hs
        go_wp2_with (at_builtin; refine wpList_app1 (wr.drewN nq) rfl _ _ 25 rfl (w.heap.size + 4) 3 i0 _ 1 8 Try.underlying25 hi0 hz0 hz1 hz2 rfl (by omega) A' k c' _ [.int .i64 (max 0 (x - y))] rfl HG1.out.own rfl rfl (one_int _) hk30 (by omega) hs1 ?_; intro A1 c1 w1 hown1 hg1; obtain ⟨p0, p1, p2⟩ := HG1.out.midCells hg1)
        go_roundw
        case rel => exact ⟨k + 1, A1, c1, by omega, by go_num, by rw [HST.out]; exact HG1.out.step hg1 hown1⟩
        case measure => simp [intOf]; omega
      · subst h
        go_wp2_with fail
        go_quiet (fail)
        have HG1 := hide (HG.out.keep (below_drewN (Below.refl _ _) nq))
        have hs1 : w.heap.size + 4 ≤ (wr.drewN nq).heap.size := hs
        go_wp2_with (at_builtin; refine wpList_app1 (wr.drewN nq) rfl _ _ 25 rfl (w.heap.size + 4) 3 i0 _ 1 8 Try.underlying25 hi0 hz0 hz1 hz2 rfl (by omega) A' k c' _ [.int .i64 (x * y / 65535)] rfl HG1.out.own rfl rfl (one_int _) hk30 (by omega) hs1 ?_; intro A1 c1 w1 hown1 hg1; obtain ⟨p0, p1, p2⟩ := HG1.out.midCells hg1)
        go_roundw
        case rel => exact ⟨k + 1, A1, c1, by omega, by go_num, by rw [HST.out]; exact HG1.out.step hg1 hown1⟩
        case measure => simp [intOf]; omega
      · subst h
        have hmin : (if x < y then y else x) = max x y := by omega
        go_wp2_with fail
        go_quiet (fail)
        have HG1 := hide (HG.out.keep (below_drewN (Below.refl _ _) nq))
        have hs1 : w.heap.size + 4 ≤ (wr.drewN nq).heap.size := hs
        go_wp2_with (at_builtin; refine wpList_app1 (wr.drewN nq) rfl _ _ 25 rfl (w.heap.size + 4) 3 i0 _ 1 8 Try.underlying25 hi0 hz0 hz1 hz2 rfl (by omega) A' k c' _ [.int .i64 (max x y)] rfl HG1.out.own rfl rfl (one_int _) hk30 (by omega) hs1 ?_; intro A1 c1 w1 hown1 hg1; obtain ⟨p0, p1, p2⟩ := HG1.out.midCells hg1)
        go_roundw
        case rel => exact ⟨k + 1, A1, c1, by omega, by go_num, by rw [HST.out]; exact HG1.out.step hg1 hown1⟩
        case measure => simp [intOf]; omega
    · have hkn : k = n := by omega
      have hR := (HG.out.others (w.heap.size + 2, 56, [.int .i64 0, .int .i64 0, .slice none 0 0]) (by simp)).1
      have r0 : wr.cell? ⟨w.heap.size + 1 + 1, 0, none⟩ = some (.int .i64 0) := by rw [hR.cell]; rfl
      have r1' : wr.cell? ⟨w.heap.size + 1 + 1, 1, none⟩ = some (.int .i64 0) := by rw [hR.cell]; rfl
      have r2' : wr.cell? ⟨w.heap.size + 1 + 1, 2, none⟩ = some (.slice none 0 0) := by rw [hR.cell]; rfl
      have f0 : wr.frozen? ⟨w.heap.size + 1 + 1, 0, none⟩ = false := hR.frozen 0
      have f1 : wr.frozen? ⟨w.heap.size + 1 + 1, 1, none⟩ = false := hR.frozen 1
      have f2 : wr.frozen? ⟨w.heap.size + 1 + 1, 2, none⟩ = false := hR.frozen 2
      have HKN := hide hkn
      clear hR hkn
      go_wp2_with fail
      refine bodyPost_ret (v := .agg #[.int .i64 W, .int .i64 H, .slice A' k c']) (by simp [results, Try.results107, go_sem, r0, r1', r2']) rfl ?_
      have e : twoImg op ⟨W, H, P⟩ ⟨W', H', Q⟩ = ⟨W, H, pairList op P Q k⟩ := by
        unfold twoImg pairList; simp only; rw [HN.out, HKN.out]
      rw [e]
      exact HG.out.done (gres := w.heap.size + 2) (u := [.int .i64 0, .int .i64 0, .slice none 0 0]) (by simp) (by omega)
end Go.Proofs.Ytibpmogmeoappab
