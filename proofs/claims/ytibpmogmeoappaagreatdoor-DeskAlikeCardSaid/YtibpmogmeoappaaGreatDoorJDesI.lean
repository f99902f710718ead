/- Walk: the law DeskAlike. -/
import Derived.Test.YtibpmogmeoappaaGreatDoorJDesG
import Derived.Test.YtibpmogmeoappaaGreatDoorJFrmR
set_option maxRecDepth 100000
set_option maxHeartbeats 8000000
namespace Go.Proofs.YtibpmogmeoappaaGreatDoor
open Go.RowKit
theorem draw_more {s : List Int} {one two : Int} (h1 : drawErr s one = 0) (h2 : drawErr s two ≠ 0) (h3 : one ≤ two) : drawErr s two = 3:=by
 have hz : readZ s = 0:=Classical.byContradiction fun h=>by
  unfold drawErr at h1;rw [if_pos h] at h1;exact h h1
 unfold drawErr at h1 h2 ⊢;rw [hz,if_neg (by decide)] at h1 h2 ⊢;by_cases ha : 0 ≤ one ∧ one ≤ 4096
 ·rw [if_neg (by simpa using ha)] at h1
  by_cases hp : one < peakOf (readF s) (comp (readF s))
  ·rw [if_pos hp] at h1; omega
  ·by_cases hb : 0 ≤ two ∧ two ≤ 4096
   ·rw [if_neg (by simpa using hb),if_neg (by omega)] at h2
    exact absurd rfl h2
   ·rw [if_pos hb]
 ·rw [if_pos ha] at h1; omega
theorem draw_read {s : List Int} {one : Int} (h1 : drawErr s one = 0) : readZ s = 0 ∧ drawAns s one = showTxt (frAns (readF s)):=by
 refine ⟨Classical.byContradiction fun h=>?_,if_pos h1⟩;unfold drawErr at h1;rw [if_pos h] at h1;exact h h1
theorem deskAlike_any (z : ByteArray) (one two : Int) (w : World) (h1a : -9223372036854775808 ≤ one) (h1b : one ≤ 9223372036854775807) (h2a : -9223372036854775808 ≤ two) (h2b : two ≤ 9223372036854775807) (ht : Tab w) :
 Calls Tryz.prog 4 #[.string z,.int .i64 one,.int .i64 two] w fun e w'=>e = .returned (.bool true) ∧ Below w.heap.size w w':=by
 have hd1:=deskDraw_any z one w h1a h1b ht;have hd2:=fun (W0 : World) (h2 : Tab W0)=>deskDraw_any z two W0 h2a h2b h2;have hby:=strL_bytes z;have hrd:=fun (W0 : World)=>read_any z W0;obtain ⟨s,hs⟩ : ∃ s,strL z = s:=⟨_,rfl⟩;rw [hs] at hd1 hd2 hby hrd;unfold RetStrE at hd1 hd2;obtain ⟨z1,hz1⟩ : ∃ z1,drawErr s one = z1:=⟨_,rfl⟩;obtain ⟨z2,hz2⟩ : ∃ z2,drawErr s two = z2:=⟨_,rfl⟩;have hmo:=fun (a : drawErr s one = 0) (b : drawErr s two ≠ 0) (c : one ≤ two)=>draw_more a b c;have hda:=fun (a : drawErr s one = 0)=>draw_read a;have hdb:=fun (a : drawErr s two = 0)=>draw_read a;have hok:=fun (a : drawErr s one = 0)=>read_ok hby (draw_read a).1;rw [hz1] at hd1 hmo hda hok;rw [hz2] at hd2 hmo hdb;obtain ⟨T1,hT1⟩ : ∃ T,drawAns s one = T:=⟨_,rfl⟩;obtain ⟨T2,hT2⟩ : ∃ T,drawAns s two = T:=⟨_,rfl⟩;rw [hT1] at hd1 hda;rw [hT2] at hd2 hdb;have HT:=hide ht;have HD1:=hide hd1;have HD2:=hide hd2;have HMO:=hide hmo;have HDA:=hide hda;have HDB:=hide hdb;have HOK:=hide hok;have HRD:=hide hrd;clear hd1 hd2 hby hrd hs hz1 hz2 hmo hda hdb hok hT1 hT2 ht;go_enter Tryz.func4,Tryz.ntmps4
 go_wp2_with fail;refine (unhide HD1).mono ?_;rintro e w1 ⟨rfl,hE1⟩;have HB1:=hide hE1;have HT1:=hide (HT.out.keep hE1);clear hE1 HT HD1;go_wp2_with fail;refine ((unhide HD2) _ HT1.out).mono ?_;rintro e w2 ⟨rfl,hE2⟩;have HB2:=hide (HB1.out.trans (hE2.mono HB1.out.size));have HT2:=hide (HT1.out.keep hE2);clear hE2 HB1 HT1 HD2;by_cases h1 : z1 = 0
 ·have h1b : (z1 != 0) = false:=by rw [h1]; rfl
  by_cases h2 : z2 = 0
  ·have h2b : (z2 != 0) = false:=by rw [h2]; rfl
   obtain ⟨e1,e2⟩:=HDA.out h1;have e3:=(HDB.out h2).2;have hok:=HOK.out h1;rw [← e2] at e3;subst h1 h2;subst e3;subst e2;unfold Hid at HRD;rw [e1] at HRD;clear HMO HDA HDB HOK e1;obtain ⟨f,hf⟩ : ∃ f,readF s = f:=⟨_,rfl⟩;rw [hf] at HRD hok ⊢;have HRD:=hide HRD;obtain ⟨W,H,S,O,ps⟩:=f;have hfi:=(frShown_fine hok).1;have hfa : frAns ⟨W,H,S,O,ps⟩ = frShown ⟨W,H,S,O,ps⟩:=if_pos (frErr_zero.2 hok);have hrn:=fun (PA : Option Addr) (n c : Nat) (W0 : World) (hn : ps.length = n) (h1 : Passes W0 PA ps)=>render_any W H S O PA n c ps W0 hn h1;rw [frErr_zero.2 hok,hfa] at hrn;rw [hfa];obtain ⟨fa,hfav⟩ : ∃ fa,frShown ⟨W,H,S,O,ps⟩ = fa:=⟨_,rfl⟩;rw [hfav] at hrn hfi ⊢;obtain ⟨TX,hTX⟩ : ∃ TX,mkS (showTxt fa) = TX:=⟨_,rfl⟩;have HTX:=hide hTX;rw [hTX];have HRN:=hide hrn;have HFI:=hide hfi;clear hrn hfi hfav hfa hok hf hTX;go_wp2_with fail;refine ((unhide HRD) _).mono ?_;rintro e w3 ⟨PA,n,c,rfl,hn,hP,hE3⟩;have HN:=hide (show ps.length = n from hn);have hal:=(Below.refl w3.heap.size w3).alloc (Nat.le_refl _) (.cells #[.int .i64 W,.int .i64 H,.int .i64 S,.int .i64 O,.slice PA n c] 35);have hE3a:=hE3.trans (hal.mono hE3.size);have HB3:=hide (HB2.out.trans (hE3a.mono HB2.out.size));have HT3:=hide (HT2.out.keep hE3a);have HK3:=hide ((Keeps.blk (Blk.new w3 35 (frmCells W H S O PA n c))).and (Keeps.passes ((show Passes w3 PA ps from hP).keep hal)));clear hn hP hE3 hal hE3a HB2 HT2 HRD;obtain ⟨x,q0,q1,q2,q3,q4⟩:=FrmBox.cells (show FrmBox _ _ W H S O PA n c from HK3.out.now.1);go_wp2_with fail;refine ((unhide HRN) PA n c _ HN.out HK3.out.now.2).mono ?_;rintro e w4 ⟨U,V,P,A,m,d,hr,hm,rfl,hI4,hE4⟩;have hal:=(Below.refl w4.heap.size w4).alloc (Nat.le_refl _) (.cells #[.int .i64 U,.int .i64 V,.slice A m d] 24);have hE4a:=hE4.trans (hal.mono hE4.size);have HB4:=hide (HB3.out.trans (hE4a.mono HB3.out.size));have HT4:=hide (HT3.out.keep hE4a);have hfi : Img.Fine ⟨U,V,P⟩:=by rw [hr]; exact HFI.out
   have hsh:=show_any U V A m d P _ hm (hI4.keep hal) (by have:=fine_few hfi; simp only at this; omega) HT4.out;rw [show showAns ⟨U,V,P⟩ = showTxt ⟨U,V,P⟩ from if_pos hfi,show showErr ⟨U,V,P⟩ = 0 from if_pos hfi,hr] at hsh;unfold RetStrE at hsh;rw [HTX.out] at hsh;have HSH:=hide hsh;have hbx:=Blk.new w4 24 [.int .i64 U,.int .i64 V,.slice A m d];obtain ⟨k0,k1,k2,k3⟩:=ImgBox.cells (show ImgBox _ _ U V A m d from hbx);clear hfi hsh hI4 hE4 hal hE4a HB3 HT3 HK3 HRN HFI hbx hr hm x q0 q1 q2 q3 q4 HTX;go_wp2_with fail;refine (unhide HSH).mono ?_;rintro e w5 ⟨rfl,hE5⟩;have HB5:=hide (HB4.out.trans (hE5.mono HB4.out.size));have HT5:=hide (HT4.out.keep hE5);clear hE5 HB4 HT4 HSH k0 k1 k2 k3;go_wp2_with fail;refine (deskBegun_any _ HT5.out).mono ?_;rintro e w6 ⟨rfl,hE6⟩;go_wp2_with fail;go_ret;exact ⟨rfl,HB5.out.trans (hE6.mono HB5.out.size)⟩
  ·have h2b : (z2 != 0) = true:=by simpa using h2
   have hmo:=HMO.out h1 h2;subst h1;clear HMO HDA HDB HOK HRD;by_cases hgt : one ≤ two
   ·have h3:=hmo hgt
    subst h3;clear hmo;by_cases hneg : one < 0
    all_goals
     go_wp2_with fail;refine (deskBegun_any _ HT2.out).mono ?_;rintro e w3 ⟨rfl,hE3⟩;go_wp2_with fail;all_goals try (exfalso; omega)
     all_goals go_ret
     all_goals exact ⟨rfl,HB2.out.trans (hE3.mono HB2.out.size)⟩
   ·clear hmo
    have hgt2 : two < one:=by omega
    go_wp2_with fail;refine (deskBegun_any _ HT2.out).mono ?_;rintro e w3 ⟨rfl,hE3⟩;go_wp2_with fail;go_ret;exact ⟨rfl,HB2.out.trans (hE3.mono HB2.out.size)⟩
 ·have h1b : (z1 != 0) = true:=by simpa using h1
  clear HMO HDA HDB HOK HRD;by_cases hgt : two < one
  all_goals
   go_wp2_with fail;refine (deskBegun_any _ HT2.out).mono ?_;rintro e w3 ⟨rfl,hE3⟩;go_wp2_with fail;all_goals try (exfalso; omega)
   all_goals go_ret
   all_goals exact ⟨rfl,HB2.out.trans (hE3.mono HB2.out.size)⟩
end Go.Proofs.YtibpmogmeoappaaGreatDoor
