/- Walk: the law WireBack. -/
import Derived.Test.YtibpmogmeoappaaJLawW
set_option maxRecDepth 100000
set_option maxHeartbeats 16000000
namespace Go.Proofs.Ytibpmogmeoappaa
open Go.RowKit
theorem frm_len {f : Frm} (h : FrmOk f) : ¬ 2048 < (frmBytes f).length:=by
 have hm:=h.many
 have h1:=flatMap_bd (l:=f.P) (f:=pasBytes) (k:=48) (fun q hq=>by
  obtain ⟨j,hj,rfl⟩:=List.getElem_of_mem hq;have h2:=(h.pass (k:=j) hj).fewW;have e : f.pas j = f.P[j]:=by show f.P.getD j noPas = _; rw [List.getD_eq_getElem?_getD,List.getElem?_eq_getElem hj]; rfl
  rw [e] at h2;rw [pas_len]
  omega)
 rw [frm_low];simp only [List.length_append,List.length_map,List.length_cons,List.length_nil];omega
theorem back_read {f : Frm} (h : frErr f = 0) : readF (strL (mkS (frmBytes f))) = f ∧ readZ (strL (mkS (frmBytes f))) = 0:=by
 have hk:=frErr_zero.1 h;rw [strL_mk (frm_bytes f)];unfold readF readZ;rw [if_neg (frm_len hk),if_neg (frm_len hk),read_written hk];exact ⟨rfl,rfl⟩
theorem back_write {z : ByteArray} (h : readZ (strL z) = 0) : frErr (readF (strL z)) = 0 ∧ mkS (writeAns (readF (strL z))) = z:=by
 unfold readZ at h;unfold readF;by_cases hm : 2048 < (strL z).length
 ·rw [if_pos hm] at h; omega
 ·rw [if_neg hm] at h
  rw [if_neg hm]
  cases hr : readFrm (strL z) with
  | none=>rw [hr] at h; simp at h
  | some f =>
    obtain ⟨h1,h2⟩:=read_some (strL_bytes z) hr;simp only;refine ⟨h1,?_⟩;unfold writeAns;rw [if_pos h1,h2];exact (strL_eq rfl).symm
theorem wireBack_any (W H S O : Int) (PA : Option Addr) (n c : Nat) (ps : List Pas) (z : ByteArray) (w : World) (hn : ps.length = n) (hP : Passes w PA ps) (hl : n ≤ 9223372036854775807) (_hzl : z.size ≤ 9223372036854775807) :
 Calls Try.prog 11 #[.agg #[.int .i64 W,.int .i64 H,.int .i64 S,.int .i64 O,.slice PA n c],.string z] w fun e w'=>e = .returned (.bool true) ∧ Below w.heap.size w w':=by
 have hb:=(Below.refl w.heap.size w).alloc (Nat.le_refl _) (.cells #[.int .i64 W,.int .i64 H,.int .i64 S,.int .i64 O,.slice PA n c] 63);have hbx:=(show FrmBox (w.alloc (.cells #[.int .i64 W,.int .i64 H,.int .i64 S,.int .i64 O,.slice PA n c] 63)) w.heap.size W H S O PA n c from Blk.new w 63 (frmCells W H S O PA n c));have hwr:=fun (W0 : World) (h1 : Passes W0 PA ps)=>write_any W H S O PA n c ps W0 hn h1;have hpp:=hP.keep hb;obtain ⟨w1,hw1⟩ : ∃ w1,w.alloc (.cells #[.int .i64 W,.int .i64 H,.int .i64 S,.int .i64 O,.slice PA n c] 63) = w1:=⟨_,rfl⟩;rw [hw1] at hb hbx hpp;have hs1 : w1.heap.size = w.heap.size + 1:=by rw [← hw1]; simp
 obtain ⟨f,hf⟩ : ∃ f : Frm,f = ⟨W,H,S,O,ps⟩:=⟨_,rfl⟩;rw [← hf] at hwr;have hwa0 : frErr f = 0 → writeAns f = frmBytes f:=fun h=>if_pos h;obtain ⟨er,her⟩ : ∃ er,frErr f = er:=⟨_,rfl⟩;obtain ⟨T,hT⟩ : ∃ T,mkS (writeAns f) = T:=⟨_,rfl⟩;have hwr2 : ∀ W0 : World,Passes W0 PA ps → Calls Try.prog 37 #[.agg #[.int .i64 W,.int .i64 H,.int .i64 S,.int .i64 O,.slice PA n c]] W0 (fun e w'=>e = .returned (.tuple #[.string T,.int .i64 er]) ∧ Below W0.heap.size W0 w'):=fun W0 h1=>by rw [← hT,← her]; exact hwr W0 h1
 have hback : er = 0 → ∀ W0 : World,Calls Try.prog 40 #[.string T] W0 (fun e w'=>∃ (A : Option Addr) (m d : Nat),e = .returned (.tuple #[.agg #[.int .i64 W,.int .i64 H,.int .i64 S,.int .i64 O,.slice A m d],.int .i64 0]) ∧ ps.length = m ∧ Passes w' A ps ∧ Below W0.heap.size W0 w'):=fun h W0=>by
  have h1:=read_any T W0;rw [← hT,hwa0 (her.trans h),(back_read (her.trans h)).1,(back_read (her.trans h)).2,hf] at h1;rw [← hT,hwa0 (her.trans h),hf];exact h1
 have HWR:=hide hwr2;have HBK:=hide hback;have HBX:=hide (Keeps.blk hbx);have HB:=hide hb;have HP:=hide (Keeps.passes hpp);have HN:=hide hn;have hrd:=fun W0 : World=>read_any z W0;obtain ⟨rz,hrz⟩ : ∃ rz,readZ (strL z) = rz:=⟨_,rfl⟩;obtain ⟨R,hR⟩ : ∃ R,readF (strL z) = R:=⟨_,rfl⟩;have hbw:=fun h : rz = 0=>back_write (hrz.trans h);rw [hR] at hbw;rw [hR,hrz] at hrd;obtain ⟨RW,RH,RS,RO,RP⟩:=R;have HRE:=hide (fun W0 : World=>(show Calls Try.prog 40 #[.string z] W0 (fun e w'=>∃ (A : Option Addr) (n c : Nat),e = .returned (.tuple #[.agg #[.int .i64 RW,.int .i64 RH,.int .i64 RS,.int .i64 RO,.slice A n c],.int .i64 rz]) ∧ RP.length = n ∧ Passes w' A RP ∧ Below W0.heap.size W0 w') from hrd W0))
 have HW2:=hide (fun (h : rz = 0) (A : Option Addr) (m d : Nat) (W0 : World) (hm : RP.length = m) (h1 : Passes W0 A RP)=>(show Calls Try.prog 37 #[.agg #[.int .i64 RW,.int .i64 RH,.int .i64 RS,.int .i64 RO,.slice A m d]] W0 (fun e w'=>e = .returned (.tuple #[.string z,.int .i64 0]) ∧ Below W0.heap.size W0 w') from by
  have h2:=write_any RW RH RS RO A m d RP W0 hm h1;unfold RetStrE at h2;rw [(hbw h).1,(hbw h).2] at h2
  exact h2))
 obtain ⟨x,q0,q1,q2,q3,q4⟩:=FrmBox.cells hbx;clear hn hP hb hbx hpp hwr hwr2 hback hf hwa0 hT her hrz hR hbw hrd;go_enter Try.func11,Try.ntmps11
 go_wp2_with fail;refine ((unhide HWR) _ HP.out.now).mono ?_;rintro e w2 ⟨rfl,hE2⟩;have HE2:=hide hE2;clear x q0 q1 q2 q3 q4 hE2 HWR hw1
 have hcase : er = 0 ∨ (er == 0) = false:=by
  by_cases h : er = 0
  ·exact .inl h
  ·exact .inr (by simpa using h)
 rcases hcase with h0 | h0
 all_goals
  go_wp2_with fail
  first
   | (subst h0
      refine ((unhide HBK) rfl _).mono ?_;rintro e w3 ⟨A3,n3,c3,rfl,hn3,hP3,hE3⟩;obtain rfl : n = n3:=by have:=HN.out; omega
      have hal : Below w3.heap.size w3 (w3.alloc (.cells #[.int .i64 W,.int .i64 H,.int .i64 S,.int .i64 O,.slice A3 n c3] 63)):=(Below.refl _ _).alloc (Nat.le_refl _) _;have hx3 : FrmBox (w3.alloc (.cells #[.int .i64 W,.int .i64 H,.int .i64 S,.int .i64 O,.slice A3 n c3] 63)) w3.heap.size W H S O A3 n c3:=Blk.new w3 63 (frmCells W H S O A3 n c3);have hbb:=(HE2.out.trans (hE3.mono HE2.out.size)).trans (hal.mono (HE2.out.trans (hE3.mono HE2.out.size)).size);have hp3:=hP3.keep hal;obtain ⟨x,q0,q1,q2,q3,q4⟩:=FrmBox.cells (show FrmBox _ _ W H S O PA n c from HBX.out.later _ hbb);obtain ⟨y,r0,r1,r2,r3,r4⟩:=FrmBox.cells hx3;have HSF:=hide (sameFrames_any W H S O A3 PA n c3 c ps _ HN.out hp3 (HP.out.later _ hbb) hl);have HE3:=hide hbb;clear hal hx3 hbb hp3 hn3 hP3 hE3 HBK;go_wp2_with fail;refine (unhide HSF).mono ?_;rintro e w4 ⟨rfl,hE4⟩;have HE4:=hide (HE3.out.trans (hE4.mono HE3.out.size));clear hE4 HSF x q0 q1 q2 q3 q4 y r0 r1 r2 r3 r4
      go_wp2_with fail)
   | (obtain ⟨w4, hw4⟩ : ∃ w4, w4 = w2 := ⟨_, rfl⟩
      have HE4 : Hid (Below w1.heap.size w1 w4):=by rw [hw4]; exact HE2
      rw [← hw4]
      clear hw4 HBK)
  refine ((unhide HRE) _).mono ?_;rintro e w5 ⟨A5,n5,c5,rfl,hn5,hP5,hE5⟩;have hal : Below w5.heap.size w5 (w5.alloc (.cells #[.int .i64 RW,.int .i64 RH,.int .i64 RS,.int .i64 RO,.slice A5 n5 c5] 63)):=(Below.refl _ _).alloc (Nat.le_refl _) _;have hx5 : FrmBox (w5.alloc (.cells #[.int .i64 RW,.int .i64 RH,.int .i64 RS,.int .i64 RO,.slice A5 n5 c5] 63)) w5.heap.size RW RH RS RO A5 n5 c5:=Blk.new w5 63 (frmCells RW RH RS RO A5 n5 c5);have hbb:=(HE4.out.trans (hE5.mono HE4.out.size)).trans (hal.mono (HE4.out.trans (hE5.mono HE4.out.size)).size);have hp5:=hP5.keep hal;obtain ⟨y,r0,r1,r2,r3,r4⟩:=FrmBox.cells hx5;have HE5:=hide (HB.out.trans (hbb.mono HB.out.size));have HP5:=hide hp5;have HN5:=hide hn5;clear hal hx5 hbb hp5 hn5 hP5 hE5
  have hcase : rz = 0 ∨ (rz != 0) = true:=by
   by_cases h : rz = 0
   ·exact .inl h
   ·exact .inr (by simpa using h)
  rcases hcase with h1 | h1
  ·have HWZ:=hide ((unhide HW2) h1 A5 n5 c5 _ HN5.out HP5.out)
   subst h1;go_wp2_with fail;refine (unhide HWZ).mono ?_;rintro e w6 ⟨rfl,hE6⟩;have HE6:=hide (HE5.out.trans (hE6.mono HE5.out.size));clear hE6 HWZ y r0 r1 r2 r3 r4;go_wp2_with fail;refine (wireBegun_any _).mono ?_;rintro e w7 ⟨rfl,hE7⟩;have HE7:=hide (HE6.out.trans (hE7.mono HE6.out.size));clear hE7;go_wp2_with fail;go_ret;exact ⟨rfl,HE7.out⟩
  ·go_wp2_with fail
   refine (wireBegun_any _).mono ?_;rintro e w7 ⟨rfl,hE7⟩;have HE7:=hide (HE5.out.trans (hE7.mono HE5.out.size));clear hE7;go_wp2_with fail;go_ret;exact ⟨rfl,HE7.out⟩
end Go.Proofs.Ytibpmogmeoappaa
