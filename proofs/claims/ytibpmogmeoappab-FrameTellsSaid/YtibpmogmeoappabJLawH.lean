/- Walk of the law FrameTells. -/
import Derived.Test.YtibpmogmeoappabJFrmU
import Derived.Deep.DeepCutAuto
import Derived.Deep.RegionHeld3
set_option maxRecDepth 100000
set_option maxHeartbeats 8000000
namespace Go.Proofs.Ytibpmogmeoappab
open Go.RowKit
theorem tells_len (f : Frm) : (frSizes f).length = (frSources f).length:=by
 unfold frSizes frSources;split
 ·simp [frAll,srcsTo]
 ·rfl
theorem sizes_le (f : Frm) : (frSizes f).length ≤ 12:=by
 unfold frSizes;split
 ·rename_i h
  have:=(frErr_zero.1 h).many.2;simp only [frAll,List.length_map,List.length_range];exact this
 ·exact Nat.zero_le _
theorem frameTells_any (W H S O : Int) (PA : Option Addr) (n c : Nat) (ps : List Pas) (w : World) (hn : ps.length = n) (hP : Passes w PA ps) (hl : n ≤ 9223372036854775807) :
 Calls Try.prog 6 #[.agg #[.int .i64 W,.int .i64 H,.int .i64 S,.int .i64 O,.slice PA n c]] w fun e w'=>e = .returned (.bool true) ∧ Below w.heap.size w w':=by
 have hb:=(Below.refl w.heap.size w).alloc (Nat.le_refl _) (.cells #[.int .i64 W,.int .i64 H,.int .i64 S,.int .i64 O,.slice PA n c] 24);have HBX:=hide (show FrmBox (w.alloc (.cells #[.int .i64 W,.int .i64 H,.int .i64 S,.int .i64 O,.slice PA n c] 24)) w.heap.size W H S O PA n c from Blk.new w 24 (frmCells W H S O PA n c));have HS:=hide (fun (W0 : World) (h1 : Passes W0 PA ps)=>sizes_any W H S O PA n c ps W0 hn h1);have HR:=hide (fun (W0 : World) (h1 : Passes W0 PA ps)=>sources_any W H S O PA n c ps W0 hn h1);have HC:=hide (fun (W0 : World) (h1 : Passes W0 PA ps)=>checkFrame_ref W H S O PA n c ps W0 hn h1 hl);have HK:=hide (fun (W0 : World) (h1 : Passes W0 PA ps)=>frameCheck_any W H S O PA n c ps W0 hn h1);have HO:=hide (fun (W0 : World) (h1 : Passes W0 PA ps) (h2 : FrmOk ⟨W,H,S,O,ps⟩)=>sourcesOf_ref W H S O PA n c ps W0 hn h1 (by have:=h2.many.2; simp only at this; omega));have HFS : Hid (frErr ⟨W,H,S,O,ps⟩ = 0 → frSources ⟨W,H,S,O,ps⟩ = srcsTo ⟨W,H,S,O,ps⟩ n):=hide (fun h=>by unfold frSources; rw [if_pos h,hn]);have HTL:=hide (tells_len ⟨W,H,S,O,ps⟩);have HB0:=hide hb;have HP:=hide (Keeps.passes hP);obtain ⟨f,hf⟩ : ∃ f : Frm,f = ⟨W,H,S,O,ps⟩:=⟨_,rfl⟩;rw [← hf] at HS HR HC HK HO HFS HTL;clear hn hP hl hb hf;go_enter Try.func6,Try.ntmps6
 go_wp2_with fail;refine ((unhide HS) _ (HP.out.later _ HB0.out)).mono ?_;rintro e w1 ⟨A1,n1,c1,rfl,hn1,hS1,hE1⟩;have HB1:=hide (HB0.out.trans (hE1.mono HB0.out.size));have HX1:=hide (Blk.keep HBX.out hE1);have HK1:=hide (show Keeps w1 (fun W0=>Sizes W0 A1 (frSizes f)) from ⟨hS1,fun _ h=>Cells.keep hS1 h⟩);have HN1:=hide hn1;clear HB0 HBX hE1 hS1 hn1 HS;obtain ⟨x,q0,q1,q2,q3,q4⟩:=FrmBox.cells HX1.out;go_wp2_with fail;refine ((unhide HR) _ (HP.out.later _ HB1.out)).mono ?_;rintro e w2 ⟨A2,n2,c2,rfl,hn2,hS2,hE2⟩;have HB2:=hide (HB1.out.trans (hE2.mono HB1.out.size));have HX2:=hide (Blk.keep HX1.out hE2);have HK2:=hide ((HK1.out.move hE2).and (Keeps.intRows hS2));have HN2:=hide hn2;clear HB1 HX1 HK1 hE2 hS2 hn2 HR q0 q1 q2 q3 q4 x;obtain ⟨x,q0,q1,q2,q3,q4⟩:=FrmBox.cells HX2.out;go_wp2_with fail;refine ((unhide HC) _ (HP.out.later _ HB2.out)).mono ?_;rintro e w3 ⟨A3,n3,c3,rfl,hn3,hS3,hE3⟩;have hn31 : n3 = n1:=hn3.symm.trans HN1.out;subst hn31;have HB3:=hide (HB2.out.trans (hE3.mono HB2.out.size));have HX3:=hide (Blk.keep HX2.out hE3);have HK3:=hide ((HK2.out.move hE3).and (show Keeps w3 (fun W0=>Sizes W0 A3 (frSizes f)) from ⟨hS3,fun _ h=>Cells.keep hS3 h⟩));clear HB2 HX2 HK2 hE3 hS3 hn3 HC q0 q1 q2 q3 q4 x;obtain ⟨x,q0,q1,q2,q3,q4⟩:=FrmBox.cells HX3.out;obtain ⟨z,hze⟩ : ∃ z,z = frErr f:=⟨_,rfl⟩;rw [← hze];rw [← hze] at HK;have HZE:=hide hze;clear hze;go_upto_if 27 with fail
 go_cut [9] (fun s9 wx=>∃ (A4 : Option Addr) (c4 : Nat),s9 = .slice A4 n2 c4 ∧ Hid (IntRows wx A4 (frSources f)) ∧ Hid (Below w3.heap.size w3 wx))
 case first =>
  by_cases hz : z = 0
  ·have HOK:=hide (frErr_zero.1 (show frErr f = 0 from by rw [← HZE.out]; exact hz))
   have HFE:=hide (HFS.out (show frErr f = 0 from by rw [← HZE.out]; exact hz));have hz1 : (z == 0) = true:=by simpa using hz
   clear hz;go_wp2_with fail;refine ((unhide HO) _ (HP.out.later _ HB3.out) HOK.out).mono ?_;rintro e w4 ⟨A4,n4,c4,rfl,hn4,hR4,hE4⟩;have hn42 : n4 = n2:=by rw [← hn4,← HN2.out,HFE.out]
   subst hn42;have HR4:=hide hR4;have HE4:=hide hE4;clear hR4 hE4 hn4;go_wp2_with fail;go_meet
   exact ⟨A4,c4,rfl,hide (by rw [HFE.out]; exact HR4.out),HE4⟩
  ·have hz1 : (z == 0) = false:=by simpa using hz
   have h0 : frSources f = []:=frSources_no (by rw [← HZE.out]; exact hz);have hn20 : n2 = 0:=by rw [← HN2.out,h0]; rfl
   have H0:=hide h0;subst hn20;clear hz h0;go_wp2_with fail;go_meet
   exact ⟨none,0,rfl,hide (by rw [H0.out]; intro i x h; simp at h),hide (Below.refl _ _)⟩
 case rest =>
  obtain ⟨A4,c4,rfl,HR4,HB4⟩:=hcut;have HKc:=hide (HK3.out.move HB4.out);have HXc:=hide (Blk.keep HX3.out HB4.out);have HBc:=hide (HB3.out.trans (HB4.out.mono HB3.out.size));have HRc:=hide (Keeps.intRows HR4.out);have hmn : n3 = n2:=by rw [← HN1.out,← HN2.out]; exact HTL.out
  subst hmn;clear HB3 HX3 HK3 HR4 HB4 q0 q1 q2 q3 q4 x;go_wp2_with fail;obtain ⟨wo,hwo⟩ : ∃ wo : World,wo = wc:=⟨_,rfl⟩;subst hwo;have hn12 : n3 ≤ 12:=by have h1:=HN1.out; have h2:=sizes_le f; omega
  go_loopw [10] (fun i wr=>∃ k : Nat,k ≤ n3 ∧ i = .int .i64 k ∧ Hid (Below wo.heap.size wo wr)) (fun i _=>n3 - (intOf i).toNat)
  case atStart=>exact ⟨0,Nat.zero_le _,rfl,hide (Below.refl _ _)⟩
  case round =>
   obtain ⟨k,hk,rfl,HBr⟩:=hrel;by_cases hlt : k < n3
   ·have hk0 : (0 : Int) ≤ (k : Int):=by omega
    have hk1 : (k : Int) < (n3 : Int):=by omega
    have hsz : k < (frSizes f).length:=by have:=HN1.out; omega
    obtain ⟨⟨k1,k2⟩,k3⟩:=HKc.out.later _ HBr.out;obtain ⟨ab,ao,rfl,_,a0,a1⟩:=k1.at_ hsz;obtain ⟨bb,bo,rfl,_,b0,b1⟩:=k3.at_ hsz;have hrk : k < (frSources f).length:=by have:=HN2.out; omega
    obtain ⟨lb,lo,LB,lm,ld,rfl,_,l0,hlm,hLI⟩:=k2 k _ (List.getElem?_eq_getElem hrk);obtain ⟨mb,mo,MB,mm,md,rfl,_,m0,hmm,hMI⟩:=(HRc.out.later _ HBr.out) k _ (List.getElem?_eq_getElem hrk);have hmm2 : mm = lm:=hmm.symm.trans hlm;subst hmm2;generalize hxx : (frSources f)[k] = xx at *
    have hlen2 : mm ≤ 9223372036854775807:=by
     have h2 : xx.length ≤ 2:=by
      have hmem : xx ∈ frSources f:=by rw [← hxx]; exact List.getElem_mem hrk
      unfold frSources at hmem;split at hmem
      ·simp only [srcsTo,List.mem_map] at hmem
       obtain ⟨i,_,rfl⟩:=hmem;exact srcs_len f i
      ·cases hmem
     omega
    generalize (szAt (frSizes f) (k : Int)).W = sw at *;generalize (szAt (frSizes f) (k : Int)).H = sh at *;have hcmp:=neqSz_same sw sh;have HLI:=hide hLI;have HMI:=hide hMI;have HLM:=hide hlm;have HKS:=hide (show Keeps wr (fun w'=>w'.cell? ⟨ab,ao + k * 2,none⟩ = some (.int .i64 sw) ∧ w'.cell? ⟨ab,ao + k * 2 + 1,none⟩ = some (.int .i64 sh) ∧ w'.cell? ⟨bb,bo + k * 2,none⟩ = some (.int .i64 sw) ∧ w'.cell? ⟨bb,bo + k * 2 + 1,none⟩ = some (.int .i64 sh) ∧ w'.cell? ⟨lb,lo + k,none⟩ = some (.slice LB mm ld) ∧ w'.cell? ⟨mb,mo + k,none⟩ = some (.slice MB mm md)) from ⟨⟨a0,a1,b0,b1,l0,m0⟩,fun _ hb=>⟨keepC hb a0,keepC hb a1,keepC hb b0,keepC hb b1,keepC hb l0,keepC hb m0⟩⟩);clear hLI hMI hlm hmm k1 k2 k3 hxx;go_wp2_with fail
    go_region_held3 (fun w'=>w'.cell? ⟨ab,ao + k * 2,none⟩ = some (.int .i64 sw) ∧ w'.cell? ⟨ab,ao + k * 2 + 1,none⟩ = some (.int .i64 sh) ∧ w'.cell? ⟨bb,bo + k * 2,none⟩ = some (.int .i64 sw) ∧ w'.cell? ⟨bb,bo + k * 2 + 1,none⟩ = some (.int .i64 sh) ∧ w'.cell? ⟨lb,lo + k,none⟩ = some (.slice LB mm ld) ∧ w'.cell? ⟨mb,mo + k,none⟩ = some (.slice MB mm md))
     (first | exact HKS.out.later _ ((Below.refl _ _).drew.trans hE5) | exact HKS.out.later _ (Below.refl _ _).drew)
     ((go_simp; go_at_call 28; refine (sameNums LB MB mm ld md xx wr.drew HLM.out (HLI.out.keep (Below.refl _ _).drew) (HMI.out.keep (Below.refl _ _).drew) hlen2).mono ?_; rintro e w5 ⟨rfl,hE5⟩))
    go_wp2_with fail;go_roundw
    case rel=>exact ⟨k + 1,by omega,by go_num,hide (HBr.out.trans (((Below.refl _ _).drew.trans hE5).mono HBr.out.size))⟩
    case measure=>simp [intOf]; omega
   ·have HXr:=hide (Blk.keep HXc.out HBr.out)
    have HBf:=hide (HBc.out.trans (HBr.out.mono HBc.out.size));clear HKc HXc HBc HRc HBr;go_wp2_with fail;refine (frameBegun_any _).mono ?_;rintro e w6 ⟨rfl,hE6⟩;have HB6:=hide (HBf.out.trans (hE6.mono HBf.out.size));obtain ⟨x,q0,q1,q2,q3,q4⟩:=FrmBox.cells (Blk.keep HXr.out hE6);clear hE6 HBf HXr;go_wp2_with fail;refine ((unhide HK) _ (HP.out.later _ HB6.out)).mono ?_;rintro e w7 ⟨rfl,hE7⟩;have HB7:=hide (HB6.out.trans (hE7.mono HB6.out.size));clear hE7 HB6 q0 q1 q2 q3 q4;go_wp2_with fail;go_ret;exact ⟨ret_bool (by simp),HB7.out⟩
end Go.Proofs.Ytibpmogmeoappab
