/- Walk: the law DeskDraws. -/
import Derived.Test.YtibpmogmeoappaaGreatDoorJDesG
set_option maxRecDepth 100000
set_option maxHeartbeats 8000000
namespace Go.Proofs.YtibpmogmeoappaaGreatDoor
open Go.RowKit
theorem deskDraws_any (W H : Int) (A : Option Addr) (n c : Nat) (P : List Int) (z : ByteArray) (room : Int) (w : World) (hn : P.length = n) (hI : Ints w A P) (hl : n ≤ 9223372036854775807) (hzl : z.size ≤ 9223372036854775807) (hr1 : -9223372036854775808 ≤ room) (hr2 : room ≤ 9223372036854775807) (ht : Tab w) :
 Calls Tryz.prog 3 #[.agg #[.int .i64 W, .int .i64 H, .slice A n c], .string z, .int .i64 room] w fun e w' => e = .returned (.bool true) ∧ Below w.heap.size w w' := by
 have hb := (Below.refl w.heap.size w).alloc (Nat.le_refl _) (.cells #[.int .i64 W, .int .i64 H, .slice A n c] 24);have hbx : ImgBox (w.alloc (.cells #[.int .i64 W, .int .i64 H, .slice A n c] 24)) w.heap.size W H A n c := Blk.new w 24 [.int .i64 W, .int .i64 H, .slice A n c];have hii := hI.keep hb;have htt := ht.keep hb;obtain ⟨w1, hw1⟩ : ∃ w1, w.alloc (.cells #[.int .i64 W, .int .i64 H, .slice A n c] 24) = w1 := ⟨_, rfl⟩;rw [hw1] at hb hbx hii htt;have hsh := fun (W0 : World) (h1 : Ints W0 A P) (h2 : Tab W0) => show_any W H A n c P W0 hn h1 hl h2;have hdr := fun (W0 : World) (h2 : Tab W0) => deskDraw_any z room W0 hr1 hr2 h2;have hdn := fun (W0 : World) => drawn_ref z room W0 hr1 hr2 hzl;have hfn := fun (W0 : World) (h1 : Ints W0 A P) => fine_any W H A n c P W0 hn h1 hl;have htx := fun (hF : Img.Fine ⟨W, H, P⟩) (W0 : World) (h1 : Ints W0 A P) => imageText_ref W H A n c P W0 hF hn h1;unfold RetStrE at hsh hdr hdn;unfold RetStr at htx;obtain ⟨dz, hdz⟩ : ∃ dz, drawErr (strL z) room = dz := ⟨_, rfl⟩;obtain ⟨DS, hDS⟩ : ∃ DS, mkS (drawAns (strL z) room) = DS := ⟨_, rfl⟩;rw [hdz, hDS] at hdr hdn;have hqd : (DS.toList == DS.toList) = true := by simp
 have HB := hide hb;have HK := hide ((Keeps.blk hbx).and (Keeps.ints hii));have HT := hide htt;have HSH := hide hsh;have HDR := hide hdr;have HDN := hide hdn;have HFN := hide hfn;have HTX := hide htx;clear hb hbx hii htt hsh hdr hdn hfn htx hdz hDS hn hI ht;by_cases hF : Img.Fine ⟨W, H, P⟩
 all_goals
  first
   | (have e1 : showErr ⟨W, H, P⟩ = 0 := if_pos hF
      have e2 : showAns ⟨W, H, P⟩ = showTxt ⟨W, H, P⟩ := if_pos hF;have HTX2 := hide ((unhide HTX) hF);rw [e1, e2] at HSH
      rw [decide_eq_true hF] at HFN)
   | (have e1 : showErr ⟨W, H, P⟩ = 1 := if_neg hF
      have e2 : showAns ⟨W, H, P⟩ = [] := if_neg hF;rw [e1, e2] at HSH
      rw [decide_eq_false hF] at HFN)
  clear e1 e2 HTX hF;try (obtain ⟨TX, hTX⟩ : ∃ TX, mkS (showTxt ⟨W, H, P⟩) = TX := ⟨_, rfl⟩; rw [hTX] at HSH HTX2; clear hTX)
  try rw [show mkS [] = ⟨#[]⟩ from rfl] at HSH
  go_enter Tryz.func3, Tryz.ntmps3
  obtain ⟨k0, k1, k2, k3⟩ := ImgBox.cells (show ImgBox _ _ W H A n c from HK.out.now.1);go_wp2_with fail;refine ((unhide HSH) _ HK.out.now.2 HT.out).mono ?_;rintro e w2 ⟨rfl, hE2⟩;have HB2 := hide (HB.out.trans (hE2.mono HB.out.size));have HK2 := hide (HK.out.move hE2);have HT2 := hide (HT.out.keep hE2);clear hE2 HB HK HT k0 k1 k2 k3 HSH;obtain ⟨k0, k1, k2, k3⟩ := ImgBox.cells (show ImgBox _ _ W H A n c from HK2.out.now.1);go_wp2_with fail;refine ((unhide HFN) _ HK2.out.now.2).mono ?_;rintro e w3 ⟨rfl, hE3⟩;have HB3 := hide (HB2.out.trans (hE3.mono HB2.out.size));have HK3 := hide (HK2.out.move hE3);have HT3 := hide (HT2.out.keep hE3);clear hE3 HB2 HK2 HT2 k0 k1 k2 k3 HFN;obtain ⟨k0, k1, k2, k3⟩ := ImgBox.cells (show ImgBox _ _ W H A n c from HK3.out.now.1);go_wp2_with fail
  first
   | (refine ((unhide HTX2) _ HK3.out.now.2).mono ?_
      rintro e w4 ⟨rfl, hE4⟩;have HB4 := hide (HB3.out.trans (hE4.mono HB3.out.size));have HT4 := hide (HT3.out.keep hE4);clear hE4 HB3 HT3 HK3 k0 k1 k2 k3 HTX2
      go_wp2_with fail)
   | (have HB4 := HB3
      have HT4 := HT3
      clear HB3 HT3)
  refine ((unhide HDR) _ HT4.out).mono ?_;rintro e w5 ⟨rfl, hE5⟩;have HB5 := hide (HB4.out.trans (hE5.mono HB4.out.size));have HT5 := hide (HT4.out.keep hE5);clear hE5 HB4 HT4 HDR;go_wp2_with fail;refine ((unhide HDN) _).mono ?_;rintro e w6 ⟨rfl, hE6⟩;have HB6 := hide (HB5.out.trans (hE6.mono HB5.out.size));have HT6 := hide (HT5.out.keep hE6);clear hE6 HB5 HT5 HDN;go_wp2_with fail;refine (deskBegun_any _ HT6.out).mono ?_;rintro e w7 ⟨rfl, hE7⟩;go_wp2_with fail;go_ret;exact ⟨rfl, HB6.out.trans (hE7.mono HB6.out.size)⟩
end Go.Proofs.YtibpmogmeoappaaGreatDoor
