/- What the desk shows, as plain Lean: an image's text. -/
import Derived.Lib.ItoaNum
import Derived.Test.YtibpmogmeoappaaGreatDoorJWSpec
import Derived.Shelf.Strings.BuilderK
import Derived.Shelf.Strconv.Itoa3
import Derived.Test.YtibpmogmeoappaaGreatDoorProg
import Derived.Lib.AppendStr
import Derived.Laws.Externs
import Derived.Test.YtibpmogmeoappaaGreatDoorJMem
set_option maxRecDepth 100000
set_option maxHeartbeats 2000000
namespace Go.Proofs.YtibpmogmeoappaaGreatDoor
def digs (n : Int) : List Int := (Lib.itoa n).map fun b => (b.toNat : Int)
theorem digs_itoa (n : Int) : strL ⟨(Lib.itoa n).toArray⟩ = digs n := rfl
theorem itoa_pos {n : Int} (h : 0 ≤ n) : Lib.itoa n = Lib.decDigits n.toNat := by unfold Lib.itoa; rw [if_neg (by omega)]
theorem digit_byte {k : Nat} (h : k < 10) : (((UInt8.ofNat (48 + k)).toNat : Nat) : Int) = 48 + (k : Int) := by
 rw [UInt8.toNat_ofNat'];omega
theorem digs_small {n : Int} (h0 : 0 ≤ n) (h : n < 10) : digs n = [48 + n] := by
 unfold digs;rw [itoa_pos h0, Lib.decDigits, dif_pos (by omega), List.map_singleton, digit_byte (by omega)]
 congr 1; omega
theorem digs_big {n : Int} (h : 10 ≤ n) : digs n = digs (n / 10) ++ [48 + n % 10] := by
 unfold digs;rw [itoa_pos (by omega), itoa_pos (by omega), Lib.decDigits, dif_neg (by omega), List.map_append, List.map_singleton, digit_byte (by omega)]
 congr 2
 ·congr 1; omega
 ·omega
theorem digs_bytes (n : Int) : Bytes (digs n) := digs_itoa n ▸ strL_bytes _
theorem digs_len {n : Int} (h0 : 0 ≤ n) : ∀ k : Nat, n < 10 ^ (k + 1) → (digs n).length ≤ k + 1 := by
 intro k
 induction k generalizing n with
 | zero => intro h; rw [digs_small h0 (by simpa using h)]; simp
 | succ k ih =>
   intro h;by_cases h1 : n < 10
   ·rw [digs_small h0 h1]; simp
   ·rw [digs_big (by omega), List.length_append]
    have := ih (n := n / 10) (by omega) (by rw [Int.pow_succ] at h; omega);simp only [List.length_singleton];omega
theorem digs_few {n : Int} (h0 : 0 ≤ n) (h : n ≤ 65535) : (digs n).length ≤ 5 := digs_len h0 4 (by omega)
def sepAt (W : Int) (k : Nat) : Int := if ((k : Int) + 1) % W = 0 then 10 else 32
theorem sep_byte (W : Int) (k : Nat) : 0 ≤ sepAt W k ∧ sepAt W k ≤ 255 := by unfold sepAt; split <;> omega
def txt (W : Int) (P : List Int) : Nat → List Int
 | 0 => []
 | k + 1 => txt W P k ++ (digs (P.getD k 0) ++ [sepAt W k])
theorem txt_bytes (W : Int) (P : List Int) (k : Nat) : Bytes (txt W P k) := by
 induction k with
 | zero => intro b hb; cases hb
 | succ k ih =>
   intro b hb;rcases List.mem_append.1 hb with hb | hb
   ·exact ih b hb
   ·rcases List.mem_append.1 hb with hb | hb
    ·exact digs_bytes _ b hb
    ·obtain rfl : b = sepAt W k := by simpa using hb
     exact sep_byte W k
theorem txt_few {W : Int} {P : List Int} (hP : ∀ x ∈ P, 0 ≤ x ∧ x ≤ 65535) {k : Nat} (hk : k ≤ P.length) : (txt W P k).length ≤ k * 6 := by
 induction k with
 | zero => simp [txt]
 | succ k ih =>
   have h1 := ih (by omega);have h2 := hP (P.getD k 0) (by rw [List.getD_eq_getElem?_getD, List.getElem?_eq_getElem (by omega)]; exact List.getElem_mem _);have h3 := digs_few h2.1 h2.2;simp only [txt, List.length_append, List.length_singleton];omega
def showTxt (a : Img) : List Int := txt a.W a.P a.P.length
def showErr (a : Img) : Int := if a.Fine then 0 else 1
def showAns (a : Img) : List Int := if a.Fine then showTxt a else []
def rowTxt (a : Img) (y : Nat) : Nat → List Int
 | 0 => []
 | x + 1 => rowTxt a y x ++ (if 0 < x then [32] else []) ++ digs (a.at_ (x : Nat) (y : Nat))
def rowsTxt (a : Img) : Nat → List Int
 | 0 => []
 | y + 1 => rowsTxt a y ++ rowTxt a y a.W.toNat ++ [10]
theorem row_txt {a : Img} (hW : 1 ≤ a.W) (y : Nat) : ∀ x : Nat, (x : Int) ≤ a.W → txt a.W a.P (y * a.W.toNat + x) = txt a.W a.P (y * a.W.toNat) ++ rowTxt a y x ++ (if x = 0 then [] else if (x : Int) = a.W then [10] else [32]) := by
 obtain ⟨n, hn⟩ : ∃ n : Nat, a.W = n := ⟨a.W.toNat, by omega⟩;rw [hn];rw [hn] at hW;simp only [Int.toNat_natCast];intro x
 induction x with
 | zero => intro _; simp [rowTxt]
 | succ x ih =>
   intro hx;have ih := ih (by omega)
   have hs : sepAt (n : Int) (y * n + x) = if ((x + 1 : Nat) : Int) = n then 10 else 32 := by
    unfold sepAt
    have e : ((y * n + x : Nat) : Int) + 1 = ((x : Int) + 1) + (n : Int) * (y : Int) := by
     rw [Int.natCast_add, Int.natCast_mul, Int.mul_comm (y : Int)]; omega
    rw [e, Int.add_mul_emod_self_left];by_cases h : ((x + 1 : Nat) : Int) = n
    ·rw [if_pos h, show (x : Int) + 1 = n by omega, Int.emod_self, if_pos rfl]
    ·rw [if_neg h, Int.emod_eq_of_lt (by omega) (by omega), if_neg (by omega)]
   have hg : a.P.getD (y * n + x) 0 = a.at_ (x : Nat) (y : Nat) := by
    unfold Img.at_
    rw [hn, show (((y : Int) * (n : Int) + (x : Int)).toNat) = y * n + x by
     have : (y : Int) * (n : Int) + (x : Int) = ((y * n + x : Nat) : Int) := by rw [Int.natCast_add, Int.natCast_mul]
     rw [this]; rfl]
   rw [← Nat.add_assoc]
   show txt (n : Int) a.P (y * n + x) ++ (digs (a.P.getD (y * n + x) 0) ++ [sepAt (n : Int) (y * n + x)]) = _
   have hsep : ([sepAt (n : Int) (y * n + x)] : List Int) = if x + 1 = 0 then [] else if ((x + 1 : Nat) : Int) = n then [10] else [32] := by
    rw [hs, if_neg (by omega : ¬ x + 1 = 0)];split <;> rfl
   rw [ih, hg, hsep];generalize (if x + 1 = 0 then ([] : List Int) else if ((x + 1 : Nat) : Int) = n then [10] else [32]) = t;by_cases h0 : x = 0
   ·subst h0
    simp [rowTxt]
   ·rw [if_neg h0, if_neg (by omega : ¬ (x : Int) = n)]
    simp only [rowTxt, if_pos (Nat.pos_of_ne_zero h0), List.append_assoc]
theorem rows_txt {a : Img} (hW : 1 ≤ a.W) (y : Nat) : rowsTxt a y = txt a.W a.P (y * a.W.toNat) := by
 induction y with
 | zero => simp [rowsTxt, txt]
 | succ y ih =>
   have h := row_txt hW y a.W.toNat (by omega);rw [if_neg (by omega), if_pos (by omega)] at h;simp only [rowsTxt];rw [ih, Nat.succ_mul, h]
theorem rows_all {a : Img} (h : a.Fine) : rowsTxt a a.H.toNat = showTxt a := by
 rw [rows_txt h.1.1];unfold showTxt
 congr 1
 have h1 := h.2.2.1
 have h2 : ((a.H.toNat * a.W.toNat : Nat) : Int) = a.W * a.H := by
  rw [Int.natCast_mul, Int.toNat_of_nonneg (Int.le_trans (by decide) h.2.1.1), Int.toNat_of_nonneg (Int.le_trans (by decide) h.1.1), Int.mul_comm]
 omega
theorem row_few {a : Img} (h : a.Fine) {y x : Nat} (hy : (y : Int) < a.H) (hx : (x : Int) ≤ a.W) : (rowsTxt a y ++ rowTxt a y x).length ≤ 1600 := by
 have h1 := row_txt h.1.1 y x hx;rw [← rows_txt h.1.1] at h1
 have h2 : y * a.W.toNat + x ≤ a.P.length := by
  have e1 : ((y * a.W.toNat + x : Nat) : Int) = (y : Int) * a.W + (x : Int) := by
   rw [Int.natCast_add, Int.natCast_mul, Int.toNat_of_nonneg (Int.le_trans (by decide) h.1.1)]
  have e2 : ((y : Int) + 1) * a.W ≤ a.H * a.W := Int.mul_le_mul_of_nonneg_right (by omega) (Int.le_trans (by decide) h.1.1);have e3 := h.2.2.1;rw [Int.add_mul, Int.one_mul] at e2;rw [Int.mul_comm a.W a.H] at e3;omega
 have h3 := txt_few (W := a.W) h.2.2.2 h2;have h4 := mul_bd h.1.1 h.1.2 h.2.1.1 h.2.1.2;have h5 := h.2.2.1;rw [h1, List.length_append] at h3;omega
end Go.Proofs.YtibpmogmeoappaaGreatDoor
namespace Go.Proofs
open Go.Shelf
def Tryz.lays169_ren : Go.Shelf.Ren := ⟨fun | 169 => 17 | n => n, fun | 70 => 42 | 9 => 9 | 0 => 0 | 72 => 45 | 37 => 43 | 127 => 88 | 3 => 3 | 5 => 5 | n => n, fun | n => n⟩
theorem Tryz.lays169 : Go.Proofs.Lays.n169 Tryz.prog Tryz.lays169_ren := {
 mixed := by kernel_rfl
 f169 := Tryz.func17.trans (congrArg some (by kernel_rfl))
 t0 := Tryz.underlying0
 a0 := Tryz.isAgg0
 z0 := Tryz.sizeOf0
 v0 := Tryz.zeroValue0
 t3 := Tryz.underlying3
 a3 := Tryz.isAgg3
 z3 := Tryz.sizeOf3
 v3 := Tryz.zeroValue3
 t9 := Tryz.underlying9
 a9 := Tryz.isAgg9
 z9 := Tryz.sizeOf9
 v9 := Tryz.zeroValue9
 t37 := Tryz.underlying43
 a37 := Tryz.isAgg43
 z37 := Tryz.sizeOf43
 v37 := Tryz.zeroValue43
 t70 := Tryz.underlying42
 a70 := Tryz.isAgg42
 z70 := Tryz.sizeOf42
 v70 := Tryz.zeroValue42
 t72 := Tryz.underlying45
 a72 := Tryz.isAgg45
 z72 := Tryz.sizeOf45
 v72 := Tryz.zeroValue45
 t127 := Tryz.underlying88
 a127 := Tryz.isAgg88
 z127 := Tryz.sizeOf88
 v127 := Tryz.zeroValue88 }
theorem Tryz.Builder_Extra_169 : Builder.Extra Tryz.prog Tryz.lays169_ren := {
 sizeBuilder := by kernel_rfl
 liesBuilder := by kernel_rfl
 t5 := Tryz.underlying5
 a5 := Tryz.isAgg5
 z5 := Tryz.sizeOf5
 v5 := Tryz.zeroValue5
 infoByte := by kernel_rfl
 cellsByte := by kernel_rfl
 sizeByte := by kernel_rfl
 neB5 := by decide }
open Go.RowKit in
theorem Tryz.Builder_String_any_k (B b : Nat) (l : List UInt8) (w : World) (h : Lib.IsBuilderF 45 5 B b (Lib.byteCells l) w) (hBw : B ≤ w.heap.size) :
 Calls Tryz.prog 17 #[.pointer (some ⟨b, 0, none⟩)] w fun e w' => e = .returned (.string ⟨l.toArray⟩) ∧ (Lib.IsBuilderF 45 5 B b (Lib.byteCells l) w' ∧ Below B w w' ∧ Lib.OthersKept 5 (some b) w w') := Any.Builder_String_any_k Tryz.lays169 Tryz.Builder_Extra_169 B b l w h hBw
def Tryz.laysM171_ren : Go.Shelf.Ren := ⟨fun | 171 => 15 | 243 => 39 | 246 => 69 | 283 => 108 | 284 => 109 | 285 => 110 | 286 => 111 | 129 => 137 | 317 => 136 | 318 => 138 | 319 => 139 | 320 => 140 | 337 => 150 | 338 => 151 | n => n, fun | 3 => 3 | 9 => 9 | 2 => 2 | 4 => 4 | 171 => 186 | 0 => 0 | 53 => 187 | 37 => 43 | 5 => 5 | 173 => 190 | 212 => 209 | 51 => 210 | 20 => 20 | 213 => 211 | 46 => 79 | 232 => 228 | 233 => 229 | n => n, fun | 17 => 0 | 18 => 1 | 19 => 2 | n => n⟩
theorem Tryz.laysM171 : Go.Proofs.LaysM.n171 Tryz.prog Tryz.laysM171_ren := {
 mixed := by kernel_rfl
 f129 := Tryz.func137.trans (congrArg some (by kernel_rfl))
 f171 := Tryz.func15.trans (congrArg some (by kernel_rfl))
 f243 := Tryz.func39.trans (congrArg some (by kernel_rfl))
 f246 := Tryz.func69.trans (congrArg some (by kernel_rfl))
 f283 := Tryz.func108.trans (congrArg some (by kernel_rfl))
 f284 := Tryz.func109.trans (congrArg some (by kernel_rfl))
 f285 := Tryz.func110.trans (congrArg some (by kernel_rfl))
 f286 := Tryz.func111.trans (congrArg some (by kernel_rfl))
 f317 := Tryz.func136.trans (congrArg some (by kernel_rfl))
 f318 := Tryz.func138.trans (congrArg some (by kernel_rfl))
 f319 := Tryz.func139.trans (congrArg some (by kernel_rfl))
 f320 := Tryz.func140.trans (congrArg some (by kernel_rfl))
 f337 := Tryz.func150.trans (congrArg some (by kernel_rfl))
 f338 := Tryz.func151.trans (congrArg some (by kernel_rfl))
 t0 := Tryz.underlying0
 a0 := Tryz.isAgg0
 z0 := Tryz.sizeOf0
 v0 := Tryz.zeroValue0
 t2 := Tryz.underlying2
 a2 := Tryz.isAgg2
 z2 := Tryz.sizeOf2
 v2 := Tryz.zeroValue2
 t3 := Tryz.underlying3
 a3 := Tryz.isAgg3
 z3 := Tryz.sizeOf3
 v3 := Tryz.zeroValue3
 t4 := Tryz.underlying4
 a4 := Tryz.isAgg4
 z4 := Tryz.sizeOf4
 v4 := Tryz.zeroValue4
 t5 := Tryz.underlying5
 a5 := Tryz.isAgg5
 z5 := Tryz.sizeOf5
 v5 := Tryz.zeroValue5
 t9 := Tryz.underlying9
 a9 := Tryz.isAgg9
 z9 := Tryz.sizeOf9
 v9 := Tryz.zeroValue9
 t20 := Tryz.underlying20
 a20 := Tryz.isAgg20
 z20 := Tryz.sizeOf20
 v20 := Tryz.zeroValue20
 t37 := Tryz.underlying43
 a37 := Tryz.isAgg43
 z37 := Tryz.sizeOf43
 v37 := Tryz.zeroValue43
 t46 := Tryz.underlying79
 a46 := Tryz.isAgg79
 z46 := Tryz.sizeOf79
 v46 := Tryz.zeroValue79
 t51 := Tryz.underlying210
 a51 := Tryz.isAgg210
 z51 := Tryz.sizeOf210
 v51 := Tryz.zeroValue210
 t53 := Tryz.underlying187
 a53 := Tryz.isAgg187
 z53 := Tryz.sizeOf187
 v53 := Tryz.zeroValue187
 t171 := Tryz.underlying186
 a171 := Tryz.isAgg186
 z171 := Tryz.sizeOf186
 v171 := Tryz.zeroValue186
 t173 := Tryz.underlying190
 a173 := Tryz.isAgg190
 z173 := Tryz.sizeOf190
 v173 := Tryz.zeroValue190
 t212 := Tryz.underlying209
 a212 := Tryz.isAgg209
 z212 := Tryz.sizeOf209
 v212 := Tryz.zeroValue209
 t213 := Tryz.underlying211
 a213 := Tryz.isAgg211
 z213 := Tryz.sizeOf211
 t232 := Tryz.underlying228
 a232 := Tryz.isAgg228
 z232 := Tryz.sizeOf228
 v232 := Tryz.zeroValue228
 t233 := Tryz.underlying229
 a233 := Tryz.isAgg229
 z233 := Tryz.sizeOf229
 v233 := Tryz.zeroValue229
 g17 := by kernel_rfl
 g18 := by kernel_rfl
 g19 := by kernel_rfl
 i0 := by kernel_rfl
 i2 := by kernel_rfl
 i3 := by kernel_rfl
 i4 := by kernel_rfl
 i5 := by kernel_rfl
 i9 := by kernel_rfl
 i20 := by kernel_rfl
 i37 := by kernel_rfl
 i46 := by kernel_rfl
 i51 := by kernel_rfl
 i53 := by kernel_rfl
 i171 := by kernel_rfl
 i173 := by kernel_rfl
 i212 := by kernel_rfl
 i232 := by kernel_rfl
 i233 := by kernel_rfl
 m17 := by kernel_rfl
 m18 := by kernel_rfl
 m19 := by kernel_rfl }
open Go.RowKit Go.Sort Go.Lib in
theorem Tryz.strconv_Itoa (n : Int) (h0 : -9223372036854775808 ≤ n) (h1 : n ≤ 9223372036854775807) (w : World) (htab : Lib.TabIs Tryz.prog w "internal/strconv.uint64pow10" .u64 Lib.pow10Tab) :
 Calls Tryz.prog 15 #[.int .i64 n] w fun e w' => e = .returned (.string ⟨(Lib.itoa n).toArray⟩) ∧ ∃ k os, w' = grow (w.drewN k) os := Any.strconv_Itoa Tryz.laysM171 n h0 h1 w htab
end Go.Proofs
namespace Go.Proofs.YtibpmogmeoappaaGreatDoor
open Go.RowKit
def Bld (B b : Nat) (bs : List Value) (w : World) : Prop := Lib.IsBuilder 45 5 B b bs w
theorem size_bld : (Tryz.prog.info? 45).map (·.size) = some 2 := by kernel_rfl
theorem lies_bld : liesAt Tryz.prog Tryz.prog.depth 45 (2 / Tryz.prog.cellsOf 45) 0 45 1 = true := by kernel_rfl
theorem info_u8 : (Tryz.prog.info? 5).map (fun i => (i.zero, i.size, i.bytes)) = some (some (.int .u8 0), 1, 1) := by kernel_rfl
theorem copyCheck_any (B b : Nat) (bs : List Value) (w : World) (h : Bld B b bs w) :
 Calls Tryz.prog 38 #[.pointer (some ⟨b, 0, none⟩)] w fun e w' => e = .returned (.tuple #[]) ∧ Lib.BuilderAt 45 5 B b (.pointer (some ⟨b, 0, none⟩)) bs w' ∧ Below B w w' := by
 obtain ⟨j, hj, hjs⟩ := Option.map_eq_some_iff.1 size_bld;rcases h with h | h
 ·have h0 := h.cell0
  have hsh := h.shape;have hfz := h.frozen0;go_enter Tryz.func38, Tryz.ntmps38
  go_wp2
  rw [Lib.run_to_unsafe w ⟨b, 0, none⟩ Tryz.underlying42 Tryz.underlying145 hj (by rw [hjs]; decide) hsh (Nat.zero_lt_succ 1)];simp only [Result.andThen];rw [Oper.upon_value];go_wp2
  rw [run_callFunc_extern Tryz.func68 (by kernel_rfl) (by kernel_rfl) (by kernel_rfl) (e := Extern.AbiNoEscape.same) (by kernel_rfl)];rw [Lib.run_noEscape];simp only [Result.andThen];rw [Oper.upon_value];go_wp2
  rw [Lib.run_from_unsafe w ⟨b, 0, none⟩ Tryz.underlying145 Tryz.underlying42 hj hsh lies_bld];simp only [Result.andThen];rw [Oper.upon_value];go_wp2
  go_end0
  exact ⟨rfl, h.used _, (Below.refl B w).setCell (p := ⟨b, 0, none⟩) h.1 _⟩
 ·have h0 := h.cell0
  go_enter Tryz.func38, Tryz.ntmps38
  go_wp2
  rw [Lib.run_neq_ptr_same w _ Tryz.underlying42 hj];go_wp2
  go_end0
  exact ⟨rfl, h, Below.refl B _⟩
theorem writeByte_any (B b : Nat) (bs : List Value) (c : Int) (w : World) (h : Bld B b bs w) (hlen : bs.length + 1 ≤ 140737488355328) (hBw : B ≤ w.heap.size) :
 Calls Tryz.prog 16 #[.pointer (some ⟨b, 0, none⟩), .int .u8 c] w fun e w' => e = .returned .nilIface ∧ Bld B b (bs ++ [.int .u8 c]) w' ∧ Below B w w' := by
 obtain ⟨i0, hi, hz0, hz1, hz2⟩ := info_parts info_u8;go_enter Tryz.func16, Tryz.ntmps16
 go_wp2_with (go_at_call 38; refine (copyCheck_any B b bs _ h).mono ?_)
 rintro e w1 ⟨rfl, h1, hb1⟩;obtain ⟨hB, v, hbk, hown, hne⟩ := h1;have c0 : w1.cell? ⟨b, 0, none⟩ = some (.pointer (some ⟨b, 0, none⟩)) := by rw [Lib.cell_of_heap hbk]; rfl
 have c1 : w1.cell? ⟨b, 1, none⟩ = some v := by rw [Lib.cell_of_heap hbk]; rfl
 go_wp2_with (at_builtin; refine wpList_append_own _ rfl _ _ 43 rfl B 5 i0 (.int .u8 0) 1 1 Tryz.underlying43 hi hz0 hz1 hz2 rfl (by decide) _ _ _ rfl (hown.alloc _) ⟨w1.heap.size, 0, none⟩ 1 1 [.int .u8 c] rfl rfl ?c1 ?c2 ?c3 ?c4 ?c5 ?_)
 case c1 =>
  intro j u hj
  match j, hj with
  | 0, hj => simp at hj; subst hj; simp [Addr.add]
 case c2 => intro u hu; simp at hu; subst hu; rfl
 case c3 => unfold maxLen; omega
 case c4 => omega
 case c5 => have := hb1.size; simp; omega
 intro v' w2 hown' hgrow _
 have hlt : b < w1.heap.size := by
  rcases Nat.lt_or_ge b w1.heap.size with h' | h'
  ·exact h'
  ·simp [Array.getElem?_eq_none h'] at hbk
 have hb2 : w2.heap[b]? = some (.cells #[.pointer (some ⟨b, 0, none⟩), v] 45 (0, 0)) := by
  rw [hgrow.block b (by simp; omega) (fun e => hne e.symm), Lib.alloc_old w1 _ b hlt];exact hbk
 have d0 : w2.cell? ⟨b, 0, none⟩ = some (.pointer (some ⟨b, 0, none⟩)) := by rw [Lib.cell_of_heap hb2]; rfl
 have d1 : w2.cell? ⟨b, 1, none⟩ = some v := by rw [Lib.cell_of_heap hb2]; rfl
 have f1 : w2.frozen? ⟨b, 1, none⟩ = false := Lib.frozen_of_heap hb2 1
 obtain ⟨g, cap, rfl⟩ : ∃ g cap, v' = .slice (some ⟨g, 0, none⟩) (bs.length + 1) cap := by
  rcases hown'.2 with ⟨_, h0⟩ | ⟨g, cap, cur, hv, _⟩
  ·omega
  ·exact ⟨g, cap, hv⟩
 go_wp2
 go_ret;refine ⟨rfl, Or.inr ?_, ?_⟩
 ·exact Lib.BuilderAt.put hB hb2 (bs' := bs ++ [.int .u8 c]) (by simpa using hown') (by decide)
 ·exact ((hb1.alloc (by have := hb1.size; omega) _).grown hgrow (by have := hb1.size; simp; omega) (fun k hk => (hown.lt k hk).1)).setCell (p := ⟨b, 1, none⟩) hB _
theorem writeString_any (B b : Nat) (bs : List Value) (s : ByteArray) (w : World) (h : Bld B b bs w) (hlen : bs.length + s.size ≤ 140737488355328) (hBw : B ≤ w.heap.size) :
 Calls Tryz.prog 14 #[.pointer (some ⟨b, 0, none⟩), .string s] w fun e w' => e = .returned (.tuple #[.int .i64 s.size, .nilIface]) ∧ Bld B b (bs ++ Lib.strCells s) w' ∧ Below B w w' := by
 obtain ⟨i0, hi, hz0, hz1, hz2⟩ := info_parts info_u8;go_enter Tryz.func14, Tryz.ntmps14
 go_wp2_with (go_at_call 38; refine (copyCheck_any B b bs _ h).mono ?_)
 rintro e w1 ⟨rfl, h1, hb1⟩;obtain ⟨hB, v, hbk, hown, hne⟩ := h1;have c0 : w1.cell? ⟨b, 0, none⟩ = some (.pointer (some ⟨b, 0, none⟩)) := by rw [Lib.cell_of_heap hbk]; rfl
 have c1 : w1.cell? ⟨b, 1, none⟩ = some v := by rw [Lib.cell_of_heap hbk]; rfl
 go_wp2_with (at_builtin; refine Lib.wpList_append_own_string _ rfl _ _ 43 9 rfl B 5 i0 Tryz.underlying43 Tryz.underlying9 hi hz0 hz1 hz2 _ _ _ rfl hown s rfl ?c3 ?c4 ?c5 ?_)
 case c3 => unfold maxLen; omega
 case c4 => omega
 case c5 => have := hb1.size; omega
 intro v' w2 hown' hgrow _
 have hlt : b < w1.heap.size := by
  rcases Nat.lt_or_ge b w1.heap.size with h' | h'
  ·exact h'
  ·simp [Array.getElem?_eq_none h'] at hbk
 have hb2 : w2.heap[b]? = some (.cells #[.pointer (some ⟨b, 0, none⟩), v] 45 (0, 0)) := by
  rw [hgrow.block b hlt (fun e => hne e.symm)];exact hbk
 have d0 : w2.cell? ⟨b, 0, none⟩ = some (.pointer (some ⟨b, 0, none⟩)) := by rw [Lib.cell_of_heap hb2]; rfl
 have d1 : w2.cell? ⟨b, 1, none⟩ = some v := by rw [Lib.cell_of_heap hb2]; rfl
 have f1 : w2.frozen? ⟨b, 1, none⟩ = false := Lib.frozen_of_heap hb2 1
 obtain ⟨ao, n', cap, rfl⟩ : ∃ ao n' cap, v' = .slice ao n' cap := by
  rcases hown'.2 with ⟨hv, _⟩ | ⟨g, cap, cur, hv, _⟩
  ·exact ⟨_, _, _, hv⟩
  ·exact ⟨_, _, _, hv⟩
 go_wp2
 go_ret2;refine ⟨rfl, Or.inr ?_, ?_⟩
 ·exact Lib.BuilderAt.put hB hb2 (bs' := bs ++ Lib.strCells s) (by simpa [Lib.strCells_length] using hown') (by decide)
 ·exact (hb1.grown hgrow (by have := hb1.size; omega) (fun k hk => (hown.lt k hk).1)).setCell (p := ⟨b, 1, none⟩) hB _
theorem Bld.keep {B b : Nat} {bs : List Value} {w w' : World} (h : Bld B b bs w) (hb : Below w.heap.size w w') : Bld B b bs w' := by
 have key : ∀ p, Lib.BuilderAt 45 5 B b p bs w → Lib.BuilderAt 45 5 B b p bs w' := by
  rintro p ⟨hB, v, hbk, hown, hne⟩;have hlt : b < w.heap.size := (Array.getElem?_eq_some_iff.1 hbk).1;refine ⟨hB, v, (hb.block b hlt).trans hbk, ⟨hown.1, ?_⟩, hne⟩;rcases hown.2 with hn | ⟨g, cap, cur, hv, hbg, hg, rest⟩
  ·exact .inl hn
  ·exact .inr ⟨g, cap, cur, hv, hbg, (hb.block g (Array.getElem?_eq_some_iff.1 hg).1).trans hg, rest⟩
 exact h.elim (fun x => .inl (key _ x)) (fun x => .inr (key _ x))
end Go.Proofs.YtibpmogmeoappaaGreatDoor
