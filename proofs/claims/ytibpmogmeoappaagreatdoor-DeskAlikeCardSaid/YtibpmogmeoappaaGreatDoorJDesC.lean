/- An image's text, as the reference writes it. -/
import Derived.Laws.Concat
import Derived.Test.YtibpmogmeoappaaGreatDoorJDSpec
import Derived.Test.YtibpmogmeoappaaGreatDoorJWirG
import Derived.Test.YtibpmogmeoappaaGreatDoorJImgA
import Derived.Lib.ItoaMem
import Derived.WalkSmall
import Derived.Test.YtibpmogmeoappaaGreatDoorJWirA
set_option maxRecDepth 100000
set_option maxHeartbeats 4000000
namespace Go.Proofs.YtibpmogmeoappaaGreatDoor
open Go.RowKit
theorem mkS_app (a b : List Int) : mkS a ++ mkS b = mkS (a ++ b) := by
 refine ByteArray.ext ?_;simp [mkS, ByteArray.data_append]
theorem mkS_size (l : List Int) : (mkS l).size = l.length := by simp [mkS, ByteArray.size]
theorem add_mk (a b : List Int) (h : a.length ≤ 65536) (h2 : b.length ≤ 65536) (w : World) : (Op.stringOp .add (mkS a) (mkS b)).run Tryz.prog w = .ok (.string (mkS (a ++ b))) w := by
 rw [run_string_add_sum w _ _ (by rw [mkS_size, mkS_size]; omega), mkS_app]
theorem digits_ref : ∀ (N : Nat) (n : Int) (w : World), 0 ≤ n → n < N → n ≤ 65535 → Calls Tryz.prog 19 #[.int .i64 n] w (RetStr w (digs n)) := by
 intro N
 induction N with
 | zero => intro n w h0 h1; omega
 | succ N ih =>
   intro n w h0 h1 h2;have hm : n.tmod 10 = n % 10 := Int.tmod_eq_emod_of_nonneg h0;have hd : n.tdiv 10 = n / 10 := Int.tdiv_eq_ediv_of_nonneg h0;have hk : IntKind.u8.wrap (48 + n % 10) = 48 + n % 10 := by rw [wrapK]; unfold lowB; omega
   have hcv : (convert 43 9 (.slice (some ⟨w.heap.size, 0, none⟩) 1 1)).run Tryz.prog (w.alloc (.cells #[.int .u8 (48 + n % 10)] 5)) = .ok (.string (mkS [48 + n % 10])) (w.alloc (.cells #[.int .u8 (48 + n % 10)] 5)) := by
    refine run_convert_bytes_arg _ 43 5 Tryz.underlying43 Tryz.underlying5 w.heap.size 0 1 1 [48 + n % 10] rfl (fun i hi => ?_) 9 Tryz.underlying9;obtain rfl : i = 0 := by omega
    have hb : Blk (w.alloc (.cells #[.int .u8 (48 + n % 10)] 5)) w.heap.size 5 [.int .u8 (48 + n % 10)] := Blk.new w 5 [.int .u8 (48 + n % 10)];exact (hb.cell 0).trans rfl
   have hb := (Below.refl w.heap.size w).alloc (Nat.le_refl _) (.cells #[.int .u8 (48 + n % 10)] 5);obtain ⟨T, hT⟩ : ∃ T, mkS [48 + n % 10] = T := ⟨_, rfl⟩;rw [hT] at hcv;have HT := hide hT;clear hT;by_cases h10 : n < 10
   ·go_enter Tryz.func19, Tryz.ntmps19
    go_wp2_with fail;go_ret;refine ⟨?_, hb⟩;rw [digs_small h0 h10, ← HT.out, show n % 10 = n by omega];rfl
   ·have hih := ih (n / 10) (w.alloc (.cells #[.int .u8 (48 + n % 10)] 5)) (by omega) (by omega) (by omega)
    have had := fun (W0 : World) => add_mk (digs (n / 10)) [48 + n % 10] (by have := digs_few (n := n / 10) (by omega) (by omega); omega) (by simp) W0;rw [HT.out] at had;obtain ⟨D, hD⟩ : ∃ D, mkS (digs (n / 10)) = D := ⟨_, rfl⟩;obtain ⟨E, hE⟩ : ∃ E, mkS (digs (n / 10) ++ [48 + n % 10]) = E := ⟨_, rfl⟩;rw [hD, hE] at had;have HIH := hide hih;have HE := hide hE;have HD := hide hD;clear hih hE hD;go_enter Tryz.func19, Tryz.ntmps19
    go_wp2_with fail;refine (unhide HIH).mono ?_;rintro e w1 ⟨rfl, hE1⟩;rw [HD.out];go_wp2_with fail;go_ret;refine ⟨?_, hb.trans (hE1.mono hb.size)⟩;rw [digs_big (by omega), HE.out];rfl
theorem imageText_ref (W H : Int) (A : Option Addr) (n c : Nat) (P : List Int) (w : World) (hF : Img.Fine ⟨W, H, P⟩) (hn : P.length = n) (hI : Ints w A P) :
 Calls Tryz.prog 7 #[.agg #[.int .i64 W, .int .i64 H, .slice A n c]] w (RetStr w (showTxt ⟨W, H, P⟩)) := by
 have hb := (Below.refl w.heap.size w).alloc (Nat.le_refl _) (.cells #[.int .i64 W, .int .i64 H, .slice A n c] 24);have hbx : ImgBox (w.alloc (.cells #[.int .i64 W, .int .i64 H, .slice A n c] 24)) w.heap.size W H A n c := Blk.new w 24 [.int .i64 W, .int .i64 H, .slice A n c];have hii := hI.keep hb;obtain ⟨w1, hw1⟩ : ∃ w1, w.alloc (.cells #[.int .i64 W, .int .i64 H, .slice A n c] 24) = w1 := ⟨_, rfl⟩;rw [hw1] at hb hbx hii;obtain ⟨a, ha⟩ : ∃ a : Img, a = ⟨W, H, P⟩ := ⟨_, rfl⟩;have haW : a.W = W := by rw [ha]
 have haH : a.H = H := by rw [ha]
 have hall := rows_all hF;have hat := fun (W0 : World) (h1 : Ints W0 A P) (x y : Nat) (hx : (x : Int) < W) (hy : (y : Int) < H) => at_ref W H A n c P (x : Int) (y : Int) W0 hF hn h1 (by omega) hx (by omega) hy;have hatb := fun (x y : Nat) (hx : (x : Int) < W) (hy : (y : Int) < H) => hF.at_bd (x := (x : Int)) (y := (y : Int)) (by omega) hx (by omega) hy;have hfew := fun (y x : Nat) (hy : (y : Int) < H) (hx : (x : Int) ≤ W) => row_few hF (y := y) (x := x) hy hx;have hW1 : 1 ≤ W ∧ W ≤ 16 := hF.1;have hH1 : 1 ≤ H ∧ H ≤ 16 := hF.2.1;rw [← ha] at hall hat hatb hfew ⊢;rw [haH] at hall;have HAT := hide hat;have HAB := hide hatb;have HFW := hide hfew;have HALL := hide hall;have HB := hide hb;have HK := hide ((Keeps.blk hbx).and (Keeps.ints hii));have HAW := hide haW;clear hat hatb hfew hall hb hbx hii haW haH hF hI hn ha;go_enter Tryz.func7, Tryz.ntmps7
 go_wp2_with fail;go_loopw [3, 4] (fun s3 s4 wr => ∃ y : Nat, (y : Int) ≤ H ∧ s3 = .string (mkS (rowsTxt a y)) ∧ s4 = .int .i64 (y : Int) ∧ Hid (Below w1.heap.size w1 wr)) (fun _ s4 _ => H.toNat - (intOf s4).toNat)
 case atStart => exact ⟨0, by omega, rfl, rfl, hide (Below.refl _ _)⟩
 case round =>
  obtain ⟨y, hy, rfl, rfl, HBR⟩ := hrel;obtain ⟨k0, k1, k2, k3⟩ := ImgBox.cells (show ImgBox _ _ W H A n c from (HK.out.later _ HBR.out).1);have hy0 : (0 : Int) ≤ (y : Int) := by omega
  obtain ⟨S0, hS0⟩ : ∃ S0, mkS (rowsTxt a y) = S0 := ⟨_, rfl⟩;have HS0 := hide hS0;rw [hS0];clear hS0;by_cases hlt : (y : Int) < H
  ·go_wp2_with fail
   go_loopw [3, 5] (fun s3 s5 wx => ∃ x : Nat, (x : Int) ≤ W ∧ s3 = .string (mkS (rowsTxt a y ++ rowTxt a y x)) ∧ s5 = .int .i64 (x : Int) ∧ Hid (Below w1.heap.size w1 wx)) (fun _ s5 _ => W.toNat - (intOf s5).toNat)
   case atStart => exact ⟨0, by omega, by rw [← HS0.out]; simp [rowTxt], rfl, HBR⟩
   case round =>
    clear k0 k1 k2 k3 HBR HS0;obtain ⟨x, hx, rfl, rfl, HBX⟩ := hrel;have hx0 : (0 : Int) ≤ (x : Int) := by omega
    obtain ⟨k0, k1, k2, k3⟩ := ImgBox.cells (show ImgBox _ _ W H A n c from (HK.out.later _ HBX.out).1);have hf0 := HFW.out y x hlt hx;by_cases hltx : (x : Int) < W
    ·have hab := HAB.out x y hltx hlt
     have HA := hide (fun (W0 : World) (h : Below w1.heap.size w1 W0) => HAT.out W0 (HK.out.later _ h).2 x y hltx hlt);obtain ⟨v, hv⟩ : ∃ v, a.at_ (x : Int) (y : Int) = v := ⟨_, rfl⟩;rw [hv] at hab HA;have hdf := digs_few hab.1 hab.2;have HV := hide hv;clear hv;by_cases hx1 : 0 < x
     ·have hx2 : (0 : Int) < (x : Int) := by omega
      have hrow : rowsTxt a y ++ rowTxt a y (x + 1) = (rowsTxt a y ++ rowTxt a y x ++ [32]) ++ digs v := by
       rw [← HV.out]; simp only [rowTxt, if_pos hx1, List.append_assoc]
      obtain ⟨L, hL⟩ : ∃ L, rowsTxt a y ++ rowTxt a y x = L := ⟨_, rfl⟩;rw [hL] at hf0 hrow ⊢;have had1 := fun (W0 : World) => add_mk L [32] (by omega) (by simp) W0;have had2 := fun (W0 : World) => add_mk (L ++ [32]) (digs v) (by simp only [List.length_append, List.length_singleton]; omega) (by omega) W0;have HR := hide hrow;clear hrow hL;obtain ⟨T0, hT0⟩ : ∃ T0, mkS L = T0 := ⟨_, rfl⟩;obtain ⟨T1, hT1⟩ : ∃ T1, mkS (L ++ [32]) = T1 := ⟨_, rfl⟩;obtain ⟨T2, hT2⟩ : ∃ T2, mkS (L ++ [32] ++ digs v) = T2 := ⟨_, rfl⟩;obtain ⟨DV, hDV⟩ : ∃ DV, mkS (digs v) = DV := ⟨_, rfl⟩;rw [hT0, hT1, show mkS [32] = ⟨#[32]⟩ from rfl] at had1;rw [hT1, hDV, hT2] at had2;rw [hT0];have HT2 := hide hT2;have HDV := hide hDV;clear hT0 hT1 hT2 hDV;go_wp2_with fail;refine ((unhide HA) _ HBX.out).mono ?_;rintro e w2 ⟨rfl, hE2⟩;go_wp2_with fail;refine (digits_ref (v.toNat + 1) v _ hab.1 (by omega) hab.2).mono ?_;rintro e w3 ⟨rfl, hE3⟩;have HB3 := hide (HBX.out.trans ((hE2.trans (hE3.mono hE2.size)).mono HBX.out.size));rw [HDV.out];clear hE2 hE3;go_wp2_with fail;go_roundw
      case rel => exact ⟨x + 1, by omega, by rw [HR.out, HT2.out], by go_num, HB3⟩
      case measure => simp [intOf]; omega
     ·obtain rfl : x = 0 := by omega
      have hrow : rowsTxt a y ++ rowTxt a y (0 + 1) = (rowsTxt a y ++ rowTxt a y 0) ++ digs v := by
       rw [← HV.out]; simp [rowTxt]
      obtain ⟨L, hL⟩ : ∃ L, rowsTxt a y ++ rowTxt a y 0 = L := ⟨_, rfl⟩;rw [hL] at hf0 hrow ⊢;have had2 := fun (W0 : World) => add_mk L (digs v) (by omega) (by omega) W0;have HR := hide hrow;clear hrow hL;obtain ⟨T0, hT0⟩ : ∃ T0, mkS L = T0 := ⟨_, rfl⟩;obtain ⟨T2, hT2⟩ : ∃ T2, mkS (L ++ digs v) = T2 := ⟨_, rfl⟩;obtain ⟨DV, hDV⟩ : ∃ DV, mkS (digs v) = DV := ⟨_, rfl⟩;rw [hT0, hDV, hT2] at had2;rw [hT0];have HT2 := hide hT2;have HDV := hide hDV;clear hT0 hT2 hDV;go_wp2_with fail;refine ((unhide HA) _ HBX.out).mono ?_;rintro e w2 ⟨rfl, hE2⟩;go_wp2_with fail;refine (digits_ref (v.toNat + 1) v _ hab.1 (by omega) hab.2).mono ?_;rintro e w3 ⟨rfl, hE3⟩;have HB3 := hide (HBX.out.trans ((hE2.trans (hE3.mono hE2.size)).mono HBX.out.size));rw [HDV.out];clear hE2 hE3;go_wp2_with fail;go_roundw
      case rel => exact ⟨0 + 1, by omega, by rw [HR.out, HT2.out], by go_num, HB3⟩
      case measure => simp [intOf]; omega
    ·have hxw : (x : Int) = W := by omega
     have hrow : rowsTxt a (y + 1) = (rowsTxt a y ++ rowTxt a y x) ++ [10] := by
      simp only [rowsTxt];rw [show a.W.toNat = x by rw [HAW.out]; omega]
     obtain ⟨L, hL⟩ : ∃ L, rowsTxt a y ++ rowTxt a y x = L := ⟨_, rfl⟩;rw [hL] at hf0 hrow ⊢;have had1 := fun (W0 : World) => add_mk L [10] (by omega) (by simp) W0;have HR := hide hrow;clear hrow hL;obtain ⟨T0, hT0⟩ : ∃ T0, mkS L = T0 := ⟨_, rfl⟩;obtain ⟨T1, hT1⟩ : ∃ T1, mkS (L ++ [10]) = T1 := ⟨_, rfl⟩;rw [hT0, hT1, show mkS [10] = ⟨#[10]⟩ from rfl] at had1;rw [hT0];have HT1 := hide hT1;clear hT0 hT1 hxw;go_wp2_with fail;go_roundw
     case rel => exact ⟨y + 1, by omega, by rw [HR.out, HT1.out], by go_num, HBX⟩
     case measure => simp [intOf]; omega
  ·have hyh : (y : Int) = H := by omega
   go_wp2_with fail;go_ret;refine ⟨?_, HB.out.trans (HBR.out.mono HB.out.size)⟩;rw [← HS0.out, ← HALL.out, ← hyh];rfl
end Go.Proofs.YtibpmogmeoappaaGreatDoor
namespace Go.Proofs.YtibpmogmeoappaaGreatDoor
open Go.RowKit
def Tab (w : World) : Prop := 0 < w.heap.size ∧ Lib.TabIs Tryz.prog w "internal/strconv.uint64pow10" .u64 Lib.pow10Tab
theorem tab_at : Tryz.prog.globalNamed "internal/strconv.uint64pow10" = some 0 := by kernel_rfl
theorem Tab.keep {w w' : World} (h : Tab w) (hb : Below w.heap.size w w') : Tab w' :=
 ⟨Nat.lt_of_lt_of_le h.1 hb.size, var?_below hb tab_at h.1 h.2⟩
theorem str_cells (s : ByteArray) : Lib.strCells s = (strL s).map (Value.int .u8) := by
 simp [Lib.strCells, strL]
theorem bytes_cells {l : List Int} (h : Bytes l) : Lib.byteCells (mkS l).data.toList = l.map (Value.int .u8) := by
 conv => rhs; rw [← strL_mk h]
 simp [Lib.byteCells, strL]
theorem itoa_at (n : Int) (h0 : 0 ≤ n) (h1 : n ≤ 65535) (w : World) (ht : Tab w) : Calls Tryz.prog 15 #[.int .i64 n] w (RetStr w (digs n)) := by
 refine (Tryz.strconv_Itoa n (by omega) (by omega) w ht.2).mono ?_;rintro e w' ⟨rfl, k, os, rfl⟩;refine ⟨?_, rfl, rfl, rfl, ?_, fun j hj => ?_⟩
 ·rw [← strL_eq (digs_itoa n)]
 ·show w.heap.size ≤ (w.heap ++ os).size
  rw [Array.size_append]; omega
 ·show (w.heap ++ os)[j]? = w.heap[j]?
  exact Array.getElem?_append_left hj
theorem string_at (B b : Nat) (l : List Int) (hl : Bytes l) (w : World) (h : Bld B b (l.map (.int .u8)) w) (hB : B ≤ w.heap.size) : Calls Tryz.prog 17 #[.pointer (some ⟨b, 0, none⟩)] w fun e w' => e = .returned (.string (mkS l)) ∧ Below B w w' := by
 have h2 : Lib.IsBuilderF 45 5 B b (Lib.byteCells (mkS l).data.toList) w := by
  rw [bytes_cells hl];exact Lib.IsBuilderF.of h
 refine (Tryz.Builder_String_any_k B b (mkS l).data.toList w h2 hB).mono ?_;rintro e w' ⟨rfl, -, hb, -⟩;exact ⟨rfl, hb⟩
theorem show_any (W H : Int) (A : Option Addr) (n c : Nat) (P : List Int) (w : World) (hn : P.length = n) (hI : Ints w A P) (hl : n ≤ 9223372036854775807) (ht : Tab w) :
 Calls Tryz.prog 5 #[.agg #[.int .i64 W, .int .i64 H, .slice A n c]] w (RetStrE w (showAns ⟨W, H, P⟩) (showErr ⟨W, H, P⟩)) := by
 have hb := (Below.refl w.heap.size w).alloc (Nat.le_refl _) (.cells #[.int .i64 W, .int .i64 H, .slice A n c] 24);have hbx : ImgBox (w.alloc (.cells #[.int .i64 W, .int .i64 H, .slice A n c] 24)) w.heap.size W H A n c := Blk.new w 24 [.int .i64 W, .int .i64 H, .slice A n c];have hii := hI.keep hb;have htt := ht.keep hb;obtain ⟨w1, hw1⟩ : ∃ w1, w.alloc (.cells #[.int .i64 W, .int .i64 H, .slice A n c] 24) = w1 := ⟨_, rfl⟩;rw [hw1] at hb hbx hii htt;have hck := check_any W H A n c P w1 hn hii hl;have HB := hide hb;have HK := hide ((Keeps.blk hbx).and (Keeps.ints hii));have HT := hide htt;have HN := hide hn;by_cases hF : Img.Fine ⟨W, H, P⟩
 ·rw [checkErr_yes hF] at hck
  have e1 : showErr ⟨W, H, P⟩ = 0 := if_pos hF;have e2 : showAns ⟨W, H, P⟩ = txt W P n := by rw [← hn]; exact if_pos hF
  have hW := hF.1;have hbd : ∀ k, k < n → 0 ≤ P.getD k 0 ∧ P.getD k 0 ≤ 65535 := fun k hk => hF.2.2.2 _ (by rw [List.getD_eq_getElem?_getD, List.getElem?_eq_getElem (by omega)]; exact List.getElem_mem _)
  have hfew : ∀ k, k ≤ n → (txt W P k).length ≤ 1536 := fun k hk => by
   have h1 : (txt W P k).length ≤ k * 6 := txt_few (W := W) (P := P) hF.2.2.2 (k := k) (by omega);have h2 := mul_bd hF.1.1 hF.1.2 hF.2.1.1 hF.2.1.2;have h3 := hF.2.2.1;simp only at h2 h3;omega
  have hn2 : n ≤ 256 := by
   have h2 := mul_bd hF.1.1 hF.1.2 hF.2.1.1 hF.2.1.2;have h3 := hF.2.2.1;simp only at h2 h3;omega
  rw [e1, e2];simp only at hW;have HBD := hide hbd;have HFW := hide hfew;clear hbd hfew e1 e2 hF hn hI hb hbx hii htt ht;have HCK := hide hck;clear hck;go_enter Tryz.func5, Tryz.ntmps5
  obtain ⟨k0, k1, k2, k3⟩ := ImgBox.cells (show ImgBox _ _ W H A n c from HK.out.now.1);go_wp2_with fail;refine (unhide HCK).mono ?_;rintro e w2 ⟨rfl, hE2⟩;have HB2 := hide (HB.out.trans (hE2.mono HB.out.size));have HK2 := hide (HK.out.move hE2);have HT2 := hide (HT.out.keep hE2);clear hE2 HB HK HT k0 k1 k2 k3 hw1;obtain ⟨k0, k1, k2, k3⟩ := ImgBox.cells (show ImgBox _ _ W H A n c from HK2.out.now.1);have hal : Below w2.heap.size w2 (w2.alloc (.cells #[.pointer none, .slice none 0 0] 45)) := (Below.refl _ _).alloc (Nat.le_refl _) _;have HD2 := hide (show Bld w2.heap.size w2.heap.size [] (w2.alloc (.cells #[.pointer none, .slice none 0 0] 45)) from Lib.fresh_isBuilder 45 5 w2);have HA2 := hide hal;clear hal;go_wp2_with fail;go_loopw [16] (fun s16 wr => ∃ k : Nat, k ≤ n ∧ s16 = .int .i64 (k : Int) ∧ Hid (Bld w2.heap.size w2.heap.size ((txt W P k).map (.int .u8)) wr) ∧ Hid (Below w2.heap.size w2 wr)) (fun s16 _ => n - (intOf s16).toNat)
  case atStart => exact ⟨0, Nat.zero_le _, rfl, HD2, HA2⟩
  case round =>
   clear k0 k1 k2 k3;obtain ⟨k, hk, rfl, HD, HBR⟩ := hrel;obtain ⟨k0, k1, k2, k3⟩ := ImgBox.cells (show ImgBox _ _ W H A n c from (HK2.out.later _ HBR.out).1);by_cases hlt : k < n
   ·obtain ⟨g, o, x, rfl, hg, hx, hc⟩ := (HK2.out.later _ HBR.out).2.at_ k (by rw [HN.out]; exact hlt)
    have hgx : P.getD k 0 = x := by rw [List.getD_eq_getElem?_getD, hx]; rfl
    have hbx := HBD.out k hlt;rw [hgx] at hbx;have HX := hide hx;have HG := hide hgx;clear hx hgx;have hk0 : (0 : Int) ≤ (k : Int) := by omega
    have hk1 : (k : Int) < (n : Int) := by omega
    have hdf := digs_few hbx.1 hbx.2;have hff := HFW.out k hk;have HIT := hide (itoa_at x hbx.1 hbx.2 wr (HT2.out.keep HBR.out));have htm : ((k : Int) + 1).tmod W = ((k : Int) + 1) % W := Int.tmod_eq_emod_of_nonneg (by omega);have hW0 : (W == 0) = false := by simp only [beq_eq_false_iff_ne]; omega
    go_wp2_with fail;refine (unhide HIT).mono ?_;rintro e w3 ⟨rfl, hE3⟩;have HD3 := hide (HD.out.keep hE3);have HB3 := hide (HBR.out.trans (hE3.mono HBR.out.size));clear hE3 HD HBR k0 k1 k2 k3;obtain ⟨k0, k1, k2, k3⟩ := ImgBox.cells (show ImgBox _ _ W H (some ⟨g, o, none⟩) n c from (HK2.out.later _ HB3.out).1);go_wp2_with fail;refine (writeString_any w2.heap.size w2.heap.size _ (mkS (digs x)) _ HD3.out (by rw [List.length_map, mkS_size]; omega) HB3.out.size).mono ?_;rintro e w4 ⟨rfl, hD4, hE4⟩;rw [str_cells, strL_mk (digs_bytes x)] at hD4;have HD4 := hide hD4;have HB4 := hide (HB3.out.trans hE4);clear hD4 hE4 HD3 HB3 k0 k1 k2 k3;obtain ⟨k0, k1, k2, k3⟩ := ImgBox.cells (show ImgBox _ _ W H (some ⟨g, o, none⟩) n c from (HK2.out.later _ HB4.out).1);by_cases hs : ((k : Int) + 1) % W = 0
    ·have hsb : (((k : Int) + 1) % W == 0) = true := by simpa using hs
     have hsp : txt W P (k + 1) = txt W P k ++ digs x ++ [10] := by
      simp only [txt, sepAt];rw [HG.out, if_pos hs, List.append_assoc]
     have HSP := hide hsp;clear hs hsp;go_wp2_with fail;refine (writeByte_any w2.heap.size w2.heap.size _ 10 _ HD4.out (by rw [List.length_append, List.length_map, List.length_map]; omega) HB4.out.size).mono ?_;rintro e w5 ⟨rfl, hD5, hE5⟩;have HD5 := hide (show Bld w2.heap.size w2.heap.size ((txt W P (k + 1)).map (.int .u8)) w5 from by rw [HSP.out]; simpa using hD5);have HB5 := hide (HB4.out.trans hE5);clear hD5 hE5 k0 k1 k2 k3;go_wp2_with fail;go_roundw
     case rel => exact ⟨k + 1, by omega, by go_num, HD5, HB5⟩
     case measure => simp [intOf]; omega
    ·have hsb : (((k : Int) + 1) % W == 0) = false := by simpa using hs
     have hsp : txt W P (k + 1) = txt W P k ++ digs x ++ [32] := by
      simp only [txt, sepAt];rw [HG.out, if_neg hs, List.append_assoc]
     have HSP := hide hsp;clear hs hsp;go_wp2_with fail;refine (writeByte_any w2.heap.size w2.heap.size _ 32 _ HD4.out (by rw [List.length_append, List.length_map, List.length_map]; omega) HB4.out.size).mono ?_;rintro e w5 ⟨rfl, hD5, hE5⟩;have HD5 := hide (show Bld w2.heap.size w2.heap.size ((txt W P (k + 1)).map (.int .u8)) w5 from by rw [HSP.out]; simpa using hD5);have HB5 := hide (HB4.out.trans hE5);clear hD5 hE5 k0 k1 k2 k3;go_wp2_with fail;go_roundw
     case rel => exact ⟨k + 1, by omega, by go_num, HD5, HB5⟩
     case measure => simp [intOf]; omega
   ·obtain rfl : k = n := by omega
    go_wp2_with fail;refine (string_at w2.heap.size w2.heap.size _ (txt_bytes W P k) _ HD.out HBR.out.size).mono ?_;rintro e w3 ⟨rfl, hE3⟩;go_wp2_with fail;go_ret2;exact ⟨rfl, HB2.out.trans ((HBR.out.trans hE3).mono HB2.out.size)⟩
 ·rw [checkErr_no hF] at hck
  have e1 : showErr ⟨W, H, P⟩ = 1 := if_neg hF;have e2 : showAns ⟨W, H, P⟩ = [] := if_neg hF;rw [e1, e2];clear e1 e2 hF hn hI hb hbx hii htt ht;have HCK := hide hck;clear hck;go_enter Tryz.func5, Tryz.ntmps5
  obtain ⟨k0, k1, k2, k3⟩ := ImgBox.cells (show ImgBox _ _ W H A n c from HK.out.now.1);go_wp2_with fail;refine (unhide HCK).mono ?_;rintro e w2 ⟨rfl, hE2⟩;go_wp2_with fail;go_ret2;exact ⟨rfl, HB.out.trans (hE2.mono HB.out.size)⟩
end Go.Proofs.YtibpmogmeoappaaGreatDoor
