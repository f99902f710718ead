/- Walk: the law WireWrites. -/
import Derived.Test.YtibpmogmeoappaaJWirJ
set_option maxRecDepth 100000
set_option maxHeartbeats 16000000
namespace Go.Proofs.Ytibpmogmeoappaa
open Go.RowKit
theorem from_read (s : List Int) (hb : Bytes s) (h : ¬ 2048 < s.length) : (fromFrm s).getD noFrm = readF s ∧ ((fromFrm s).isSome = true ∧ readZ s = 0 ∨ (fromFrm s).isSome = false ∧ readZ s = 1):=by
 unfold readF readZ;rw [if_neg h,if_neg h,← read_from hb]
 cases readFrm s with
 | none=>exact ⟨rfl,.inr ⟨rfl,rfl⟩⟩
 | some f=>exact ⟨rfl,.inl ⟨rfl,rfl⟩⟩
theorem read_len (s : List Int) {W H S O : Int} {P : List Pas} (h : readF s = ⟨W,H,S,O,P⟩) : P.length ≤ 9223372036854775807:=by
 unfold readF at h;by_cases h1 : 2048 < s.length
 ·rw [if_pos h1] at h
  injection h with _ _ _ _ h;subst h;simp
 ·rw [if_neg h1] at h
  cases hr : readFrm s with
  | none =>
    rw [hr] at h;injection h with _ _ _ _ h;subst h;simp
  | some f =>
    rw [hr] at h;simp only at h;unfold readFrm at hr;split at hr
    ·rename_i g hg
     split at hr
     ·rename_i h0
      injection hr with hr;subst hr;have h2:=(frErr_zero.1 h0).many;rw [h] at h2;simp only at h2;omega
     ·cases hr
    ·cases hr
theorem wireWrites_any (W H S O : Int) (PA : Option Addr) (n c : Nat) (ps : List Pas) (z : ByteArray) (w : World) (hn : ps.length = n) (hP : Passes w PA ps) (hl : n ≤ 9223372036854775807) (hzl : z.size ≤ 9223372036854775807) :
 Calls Try.prog 10 #[.agg #[.int .i64 W,.int .i64 H,.int .i64 S,.int .i64 O,.slice PA n c],.string z] w fun e w'=>e = .returned (.bool true) ∧ Below w.heap.size w w':=by
 have hb:=(Below.refl w.heap.size w).alloc (Nat.le_refl _) (.cells #[.int .i64 W,.int .i64 H,.int .i64 S,.int .i64 O,.slice PA n c] 63);have hbx:=(show FrmBox (w.alloc (.cells #[.int .i64 W,.int .i64 H,.int .i64 S,.int .i64 O,.slice PA n c] 63)) w.heap.size W H S O PA n c from Blk.new w 63 (frmCells W H S O PA n c));have hwr:=fun (W0 : World) (h1 : Passes W0 PA ps)=>write_any W H S O PA n c ps W0 hn h1;have hcf:=fun (W0 : World) (h1 : Passes W0 PA ps)=>checkFrame_ref W H S O PA n c ps W0 hn h1 hl;have hfb:=fun (h0 : frErr ⟨W,H,S,O,ps⟩ = 0) (W0 : World) (h1 : Passes W0 PA ps)=>frameBytes_ref W H S O PA n c ps W0 hn h1 (frErr_zero.1 h0);have hpp:=hP.keep hb;obtain ⟨f,hf⟩ : ∃ f : Frm,f = ⟨W,H,S,O,ps⟩:=⟨_,rfl⟩;rw [← hf] at hwr hcf hfb;have hwa0 : frErr f = 0 → writeAns f = frmBytes f:=fun h=>if_pos h;have hwa1 : frErr f ≠ 0 → writeAns f = []:=fun h=>if_neg h;obtain ⟨er,her⟩ : ∃ er,frErr f = er:=⟨_,rfl⟩;rw [her] at hwr hcf hfb hwa0 hwa1;obtain ⟨T,hT⟩ : ∃ T,mkS (writeAns f) = T:=⟨_,rfl⟩;have hwr2 : ∀ W0 : World,Passes W0 PA ps → Calls Try.prog 37 #[.agg #[.int .i64 W,.int .i64 H,.int .i64 S,.int .i64 O,.slice PA n c]] W0 (fun e w'=>e = .returned (.tuple #[.string T,.int .i64 er]) ∧ Below W0.heap.size W0 w'):=fun W0 h1=>by rw [← hT]; exact hwr W0 h1
 have HWR:=hide hwr2;have HCF:=hide hcf;have HBX:=hide (Keeps.blk hbx);have HB:=hide hb;have HP:=hide (Keeps.passes hpp);have HRD:=hide (fun W0 : World=>read_any z W0);have HFR:=hide (fun W0 : World=>from_any z W0);have hby:=strL_bytes z;have hsl:=strL_len z;obtain ⟨s,hs⟩ : ∃ s,strL z = s:=⟨_,rfl⟩;rw [hs] at HRD HFR hby hsl;have HFO:=hide (fun h : ¬ 2048 < s.length=>from_read s hby h);obtain ⟨x,q0,q1,q2,q3,q4⟩:=FrmBox.cells hbx
 have hcase : (er = 0 ∧ ∀ W0 : World,Passes W0 PA ps → Calls Try.prog 39 #[.agg #[.int .i64 W,.int .i64 H,.int .i64 S,.int .i64 O,.slice PA n c]] W0 (fun e w'=>e = .returned (.string T) ∧ Below W0.heap.size W0 w')) ∨ ((er == 0) = false ∧ T = ⟨#[]⟩):=by
  by_cases h0 : er = 0
  ·exact .inl ⟨h0,fun W0 h1=>by rw [← hT,hwa0 h0]; exact hfb h0 W0 h1⟩
  ·exact .inr ⟨by simpa using h0,by rw [← hT,hwa1 h0]; rfl⟩
 obtain ⟨R,hR⟩ : ∃ R,readF s = R:=⟨_,rfl⟩;obtain ⟨rz,hrz⟩ : ∃ rz,readZ s = rz:=⟨_,rfl⟩;rw [hR,hrz] at HRD HFO;have HMANY:=hide (show 2048 < s.length → R = noFrm ∧ rz = 2 from fun h=>by rw [← hR,← hrz]; unfold readF readZ; rw [if_pos h,if_pos h]; exact ⟨rfl,rfl⟩);have hsz : (z.size : Int) = (s.length : Int):=by omega
 obtain ⟨RW,RH,RS,RO,RP⟩:=R;have HRE:=hide (fun W0 : World=>(show Calls Try.prog 40 #[.string z] W0 (fun e w'=>∃ (A : Option Addr) (n c : Nat),e = .returned (.tuple #[.agg #[.int .i64 RW,.int .i64 RH,.int .i64 RS,.int .i64 RO,.slice A n c],.int .i64 rz]) ∧ RP.length = n ∧ Passes w' A RP ∧ Below W0.heap.size W0 w') from (unhide HRD) W0));have hrpl : RP.length ≤ 9223372036854775807:=read_len s hR;clear HRD hR hrz;clear hn hP hl hb hbx hpp hwr hwr2 hcf hfb hf hwa0 hwa1 hT hby her;rcases hcase with ⟨h0,hfb⟩ | ⟨h0,hT0⟩
 all_goals
  first
   | (have HFB := hide hfb
      subst h0;clear hfb
      go_enter Try.func10,Try.ntmps10)
   | (subst hT0
      have HFB : True:=trivial
      go_enter Try.func10,Try.ntmps10)
  go_wp2_with fail;refine ((unhide HWR) _ HP.out.now).mono ?_;rintro e w2 ⟨rfl,hE2⟩;have HE2:=hide hE2;clear x q0 q1 q2 q3 q4 hE2;obtain ⟨x,q0,q1,q2,q3,q4⟩:=FrmBox.cells (show FrmBox _ _ W H S O PA n c from HBX.out.later _ HE2.out);go_wp2_with fail;refine ((unhide HCF) _ (HP.out.later _ HE2.out)).mono ?_;rintro e w3 ⟨ZA,zn,zc,rfl,-,-,hE3⟩;have HE3:=hide (HE2.out.trans (hE3.mono HE2.out.size));clear x q0 q1 q2 q3 q4 hE3;obtain ⟨x,q0,q1,q2,q3,q4⟩:=FrmBox.cells (show FrmBox _ _ W H S O PA n c from HBX.out.later _ HE3.out);go_wp2_with fail;clear x q0 q1 q2 q3 q4
  first
   | (refine ((unhide HFB) _ (HP.out.later _ HE3.out)).mono ?_
      rintro e w4 ⟨rfl,hE4⟩;have HE4:=hide (HE3.out.trans (hE4.mono HE3.out.size));clear hE4 HFB
      go_wp2_with fail)
   | (obtain ⟨w4, hw4⟩ : ∃ w4, w4 = w3 := ⟨_, rfl⟩
      have HE4 : Hid (Below (w.alloc (.cells #[.int .i64 W,.int .i64 H,.int .i64 S,.int .i64 O,.slice PA n c] 63)).heap.size (w.alloc (.cells #[.int .i64 W,.int .i64 H,.int .i64 S,.int .i64 O,.slice PA n c] 63)) w4):=by rw [hw4]; exact HE3
      rw [← hw4]
      clear hw4 HFB)
  refine ((unhide HRE) _).mono ?_;rintro e w5 ⟨A5,n5,c5,rfl,hn5,hP5,hE5⟩;have hal : Below w5.heap.size w5 (w5.alloc (.cells #[.int .i64 RW,.int .i64 RH,.int .i64 RS,.int .i64 RO,.slice A5 n5 c5] 63)):=(Below.refl _ _).alloc (Nat.le_refl _) _;have hba:=HE4.out.trans (hE5.mono HE4.out.size);have hbf:=hba.trans (hal.mono hba.size);have hx5 : FrmBox (w5.alloc (.cells #[.int .i64 RW,.int .i64 RH,.int .i64 RS,.int .i64 RO,.slice A5 n5 c5] 63)) w5.heap.size RW RH RS RO A5 n5 c5:=Blk.new w5 63 (frmCells RW RH RS RO A5 n5 c5);have hPf:=hP5.keep hal;obtain ⟨wf,hwf⟩ : ∃ wf,w5.alloc (.cells #[.int .i64 RW,.int .i64 RH,.int .i64 RS,.int .i64 RO,.slice A5 n5 c5] 63) = wf:=⟨_,rfl⟩;rw [hwf] at hbf hx5 hPf;have HBF:=hide (HB.out.trans (hbf.mono HB.out.size));have HPF:=hide (Keeps.passes hPf);have HXF:=hide (Keeps.blk hx5);have HN5:=hide hn5;clear hal hba hbf hx5 hPf hE5 hP5 hn5 HE4 HE3 HE2;by_cases hlen : 2048 < s.length
  ·have hlz : (2048 : Int) < (z.size : Int):=by omega
   obtain ⟨hr1,hr2⟩:=HMANY.out hlen;injection hr1 with x1 x2 x3 x4 x5;subst x1 x2 x3 x4 x5 hr2;clear hlen;obtain rfl : n5 = 0:=HN5.out.symm;go_wp2_with fail;refine (wireBegun_any _).mono ?_;rintro e w6 ⟨rfl,hE6⟩;obtain ⟨x,q0,q1,q2,q3,q4⟩:=FrmBox.cells (show FrmBox _ _ 0 0 0 0 A5 0 c5 from HXF.out.later _ hE6);have HSF:=hide (sameFrames_any 0 0 0 0 A5 none 0 c5 0 [] w6 rfl (HPF.out.later _ hE6) (fun k hk=>by simp at hk) (by omega));have HE6:=hide hE6;clear hE6;go_wp2_with fail;refine (unhide HSF).mono ?_;rintro e w7 ⟨rfl,hE7⟩;have HE7:=hide (HE6.out.trans (hE7.mono HE6.out.size));clear hE7 HSF;go_wp2_with fail;go_ret;exact ⟨rfl,HBF.out.trans (HE7.out.mono HBF.out.size)⟩
  ·have hlz : ¬ (2048 : Int) < (z.size : Int):=by omega
   obtain ⟨hfo1,hfo2⟩:=HFO.out hlen;clear hlen
   have hfr : ∃ ib : Bool,(ib = true ∧ rz = 0 ∨ ib = false ∧ rz = 1) ∧ ∀ W0 : World,Calls Try.prog 43 #[.string z] W0 (fun e w'=>∃ (A : Option Addr) (n c : Nat),e = .returned (.tuple #[.agg #[.int .i64 RW,.int .i64 RH,.int .i64 RS,.int .i64 RO,.slice A n c],.bool ib]) ∧ RP.length = n ∧ Passes w' A RP ∧ Below W0.heap.size W0 w'):=by
    refine ⟨_,hfo2,fun W0=>?_⟩;have h:=(unhide HFR) W0;unfold RetFrom at h;rw [hfo1] at h;exact h
   obtain ⟨ib,hib,hfr⟩:=hfr;have HFF:=hide hfr;clear hfr hfo1 hfo2;go_wp2_with fail;refine ((unhide HFF) _).mono ?_;rintro e w6 ⟨A6,n6,c6,rfl,hn6,hP6,hE6⟩;obtain rfl : n6 = n5:=by have:=HN5.out; omega
   have hal : Below w6.heap.size w6 (w6.alloc (.cells #[.int .i64 RW,.int .i64 RH,.int .i64 RS,.int .i64 RO,.slice A6 n6 c6] 63)):=(Below.refl _ _).alloc (Nat.le_refl _) _;have hx6 : FrmBox (w6.alloc (.cells #[.int .i64 RW,.int .i64 RH,.int .i64 RS,.int .i64 RO,.slice A6 n6 c6] 63)) w6.heap.size RW RH RS RO A6 n6 c6:=Blk.new w6 63 (frmCells RW RH RS RO A6 n6 c6);have hP6':=hP6.keep hal;have hbb:=hE6.trans (hal.mono hE6.size);obtain ⟨wg,hwg⟩ : ∃ wg,w6.alloc (.cells #[.int .i64 RW,.int .i64 RH,.int .i64 RS,.int .i64 RO,.slice A6 n6 c6] 63) = wg:=⟨_,rfl⟩;rw [hwg] at hal hx6 hP6' hbb;have HG:=hide hbb;have HXG:=hide (Keeps.blk hx6);have HPG:=hide (Keeps.passes hP6');clear hal hx6 hP6' hbb hn6 hP6 hE6 HFF;rcases hib with ⟨rfl,rfl⟩ | ⟨rfl,rfl⟩
   all_goals
    go_wp2_with fail;refine (wireBegun_any _).mono ?_;rintro e w7 ⟨rfl,hE7⟩;have HE7:=hide (HG.out.trans (hE7.mono HG.out.size));obtain ⟨x,q0,q1,q2,q3,q4⟩:=FrmBox.cells (show FrmBox _ _ RW RH RS RO A5 n6 c5 from HXF.out.later _ HE7.out);obtain ⟨y,r0,r1,r2,r3,r4⟩:=FrmBox.cells (show FrmBox _ _ RW RH RS RO A6 n6 c6 from HXG.out.later _ hE7);have HSF:=hide (sameFrames_any RW RH RS RO A5 A6 n6 c5 c6 RP w7 HN5.out (HPF.out.later _ HE7.out) (HPG.out.later _ hE7) (by have:=HN5.out; omega));clear hE7;go_wp2_with fail;refine (unhide HSF).mono ?_;rintro e w8 ⟨rfl,hE8⟩;have HE8:=hide (HE7.out.trans (hE8.mono HE7.out.size));clear hE8 HSF;go_wp2_with fail;go_ret;exact ⟨rfl,HBF.out.trans (HE8.out.mono HBF.out.size)⟩
end Go.Proofs.Ytibpmogmeoappaa
