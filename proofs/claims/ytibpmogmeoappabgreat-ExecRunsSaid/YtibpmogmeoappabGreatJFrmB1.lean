/- Walks: passError, the class 'fill'. (Printed by gen_passerr.py.) -/
import Derived.Test.YtibpmogmeoappabGreatJFrmA
set_option maxRecDepth 100000
set_option maxHeartbeats 8000000
namespace Go.Proofs.YtibpmogmeoappabGreat
open Go.RowKit
theorem passErr_fill (W H S O : Int) (PA : Option Addr) (n c : Nat) (p : Pas) (LA : Option Addr) (m d : Nat) (SA : Option Addr) (N cN : Nat) (st : List Sz) (w : World)
 (hS : 1 ≤ S ∧ S ≤ 8) (hN : (N : Int) = S) (hst : st.length = N) (hsz : Sizes w SA st) (hbd : ∀ i : Int,(0 ≤ (szAt st i).W ∧ (szAt st i).W ≤ 16) ∧ (0 ≤ (szAt st i).H ∧ (szAt st i).H ≤ 16))
 (hm : p.L.length = m) (hL : Lamps w LA p.L) (hl : m ≤ 9223372036854775807) (h0 : inR p.Op 1 13 = true) (ha : hasA p.Op = false) (hb : hasB p.Op = false) (hk : hasK p.Op = true) (hl' : hasL p.Op = false) (h11 : ¬ p.Op = 11) (h12 : ¬ p.Op = 12) :
 Calls Tryz.prog 37 #[.agg #[.int .i64 W,.int .i64 H,.int .i64 S,.int .i64 O,.slice PA n c],.agg #[.int .i64 p.Op,.int .i64 p.To,.int .i64 p.A,.int .i64 p.B,.int .i64 p.K,.slice LA m d],.slice SA N cN] w (RetE w (passErr S p st)):=by
 have HKF:=hide (fun (W0 : World)=>kFine_any p LA m d W0);have HHA:=hide (fun (W0 : World)=>has_any p.Op W0);have HCL:=hide (fun (W0 : World) (h : Lamps W0 LA p.L)=>checkLights_ref LA m d p.L W0 hm h hl);have HK:=hide (passMem_start (p:=p) hL hsz W H S O PA n c m d);have HHH:=hide (fun (x : Int) (W0 : World) (h : FrmBox W0 w.heap.size W H S O PA n c)=>slot_any S w.heap.size W H O PA n c x W0 hS h);have HSZ:=hide (fun (x : Int) (W0 : World) (h : Sizes W0 SA st) (hx : slotIn S x = true)=>sizes_at h hst hN hx);have HBD:=hide hbd;obtain ⟨op,to,a,b,k,L⟩:=p;simp only at *;unfold RetHas at HHA;rw [ha,hb,hk,hl'] at HHA;unfold RetK at HKF;have H0:=hide h0;have HA:=hide ha;have HB:=hide hb;have HKK:=hide hk;have HLL:=hide hl';have HM:=hide hm;clear hbd hL hsz ha hb hk hl' hst hm;have b11 : (op == 11) = false:=by simpa using h11
 have b12 : (op == 12) = false:=by simpa using h12
 have H11:=hide h11;have H12:=hide h12;clear h11 h12;go_enter Tryz.func37,Tryz.ntmps37
 go_wp2_with fail;refine (within_any _ _ _ _).mono ?_;rintro e w1 ⟨rfl,he⟩;subst he;rw [h0];clear h0;go_wp2_with fail;refine ((unhide HHA) _).mono ?_;rintro e w1 ⟨rfl,he⟩;subst he;obtain ⟨p,p0,p1,p2,p3,p4,p5⟩:=PasBox.cells HK.out.2.1;simp only at p0 p1 p2 p3 p4 p5;go_wp2_with fail;refine ((unhide HHH) to _ HK.out.1).mono ?_;rintro e w1 ⟨rfl,he⟩;subst he
 cases hs0 : slotIn S to with
 | false =>
   have Hs0:=hide hs0;clear hs0;go_wp2_with fail;go_ret;exact ⟨ret_int (pe_of (fe_range H0.out (by simp [rangeBad,Hs0.out])) (by omega)).symm,HK.out.2.2.2.2⟩
 | true =>
   have Hs0:=hide hs0;obtain ⟨ls0,us0⟩:=slot_bd hs0;clear hs0;go_wp2_with fail;refine ((unhide HKF) _).mono ?_;rintro e w1 ⟨rfl,hE⟩;have HK0:=HK;clear HK p p0 p1 p2 p3 p4 p5;have HK:=hide (HK0.out.keep hE);clear HK0 hE;obtain ⟨p,p0,p1,p2,p3,p4,p5⟩:=PasBox.cells HK.out.2.1;simp only at p0 p1 p2 p3 p4 p5
   cases hkf : kFineB op k with
   | false =>
     have Hkf:=hide hkf;clear hkf;go_wp2_with fail;go_ret;exact ⟨ret_int (pe_of (fe_range H0.out (by simp [rangeBad,Hkf.out])) (by omega)).symm,HK.out.2.2.2.2⟩
   | true =>
     have Hkf:=hide hkf;clear hkf;have HRB : Hid (rangeBad S ⟨op,to,a,b,k,L⟩ = false):=hide (by simp [rangeBad,Hs0.out,HA.out,HB.out,Hkf.out]);by_cases fa : a = 0
     ·have Gfa:=hide fa
      have bfa : (a != 0) = false:=by simpa using fa
      clear fa;by_cases fb : b = 0
      ·have Gfb:=hide fb
       have bfb : (b != 0) = false:=by simpa using fb
       clear fb;by_cases fl : m = 0
       ·skip
        have E1:=hide (show L.length = 0 from HM.out.trans fl);obtain rfl : m = 0:=fl;have HFE : Hid (fieldsErr S ⟨op,to,a,b,k,L⟩ = 0):=hide (fe_ok H0.out HRB.out (fun h=>by rw [HLL.out] at h; cases h) (by simp [formBad,HA.out,HB.out,HKK.out,HLL.out,Gfa.out,Gfb.out,E1.out]));go_wp2_with fail;go_quiet (fail)
        go_wp2_with fail;all_goals try (exfalso; omega)
        go_ret;exact ⟨ret_int ((pe_rest HFE.out).trans (by simp [restErr,HA.out,HB.out,H11.out,H12.out])).symm,below_drewN HK.out.2.2.2.2 _⟩
       ·have mfl : 0 < m:=by omega
        have mfl' : (0 : Int) < (m : Int):=by omega
        have E2:=hide (show 0 < L.length from by have:=HM.out; omega);clear fl;go_wp2_with fail;go_ret;exact ⟨ret_int (pe_of (fe_form H0.out HRB.out (fun h=>by rw [HLL.out] at h; cases h) (by simp [formBad,HLL.out,E2.out])) (by omega)).symm,HK.out.2.2.2.2⟩
      ·have Gfb:=hide fb
       have bfb : (b != 0) = true:=by simpa using fb
       clear fb;go_wp2_with fail;go_ret;exact ⟨ret_int (pe_of (fe_form H0.out HRB.out (fun h=>by rw [HLL.out] at h; cases h) (by simp [formBad,HB.out,Gfb.out])) (by omega)).symm,HK.out.2.2.2.2⟩
     ·have Gfa:=hide fa
      have bfa : (a != 0) = true:=by simpa using fa
      clear fa;go_wp2_with fail;go_ret;exact ⟨ret_int (pe_of (fe_form H0.out HRB.out (fun h=>by rw [HLL.out] at h; cases h) (by simp [formBad,HA.out,Gfa.out])) (by omega)).symm,HK.out.2.2.2.2⟩
end Go.Proofs.YtibpmogmeoappabGreat
namespace Go.Proofs.YtibpmogmeoappabGreat
open Go.RowKit
theorem passErr_one (W H S O : Int) (PA : Option Addr) (n c : Nat) (p : Pas) (LA : Option Addr) (m d : Nat) (SA : Option Addr) (N cN : Nat) (st : List Sz) (w : World)
 (hS : 1 ≤ S ∧ S ≤ 8) (hN : (N : Int) = S) (hst : st.length = N) (hsz : Sizes w SA st) (hbd : ∀ i : Int,(0 ≤ (szAt st i).W ∧ (szAt st i).W ≤ 16) ∧ (0 ≤ (szAt st i).H ∧ (szAt st i).H ≤ 16))
 (hm : p.L.length = m) (hL : Lamps w LA p.L) (hl : m ≤ 9223372036854775807) (h0 : inR p.Op 1 13 = true) (ha : hasA p.Op = true) (hb : hasB p.Op = false) (hk : hasK p.Op = false) (hl' : hasL p.Op = false) (hops : p.Op = 11 ∨ p.Op = 12 ∨ (¬ p.Op = 11 ∧ ¬ p.Op = 12)) :
 Calls Tryz.prog 37 #[.agg #[.int .i64 W,.int .i64 H,.int .i64 S,.int .i64 O,.slice PA n c],.agg #[.int .i64 p.Op,.int .i64 p.To,.int .i64 p.A,.int .i64 p.B,.int .i64 p.K,.slice LA m d],.slice SA N cN] w (RetE w (passErr S p st)):=by
 have HKF:=hide (fun (W0 : World)=>kFine_any p LA m d W0);have HHA:=hide (fun (W0 : World)=>has_any p.Op W0);have HCL:=hide (fun (W0 : World) (h : Lamps W0 LA p.L)=>checkLights_ref LA m d p.L W0 hm h hl);have HK:=hide (passMem_start (p:=p) hL hsz W H S O PA n c m d);have HHH:=hide (fun (x : Int) (W0 : World) (h : FrmBox W0 w.heap.size W H S O PA n c)=>slot_any S w.heap.size W H O PA n c x W0 hS h);have HSZ:=hide (fun (x : Int) (W0 : World) (h : Sizes W0 SA st) (hx : slotIn S x = true)=>sizes_at h hst hN hx);have HBD:=hide hbd;obtain ⟨op,to,a,b,k,L⟩:=p;simp only at *;unfold RetHas at HHA;rw [ha,hb,hk,hl'] at HHA;unfold RetK at HKF;have H0:=hide h0;have HA:=hide ha;have HB:=hide hb;have HKK:=hide hk;have HLL:=hide hl';have HM:=hide hm;clear hbd hL hsz ha hb hk hl' hst hm;go_enter Tryz.func37,Tryz.ntmps37
 go_wp2_with fail;refine (within_any _ _ _ _).mono ?_;rintro e w1 ⟨rfl,he⟩;subst he;rw [h0];clear h0;go_wp2_with fail;refine ((unhide HHA) _).mono ?_;rintro e w1 ⟨rfl,he⟩;subst he;obtain ⟨p,p0,p1,p2,p3,p4,p5⟩:=PasBox.cells HK.out.2.1;simp only at p0 p1 p2 p3 p4 p5;go_wp2_with fail;refine ((unhide HHH) to _ HK.out.1).mono ?_;rintro e w1 ⟨rfl,he⟩;subst he
 cases hs0 : slotIn S to with
 | false =>
   have Hs0:=hide hs0;clear hs0;go_wp2_with fail;go_ret;exact ⟨ret_int (pe_of (fe_range H0.out (by simp [rangeBad,Hs0.out])) (by omega)).symm,HK.out.2.2.2.2⟩
 | true =>
   have Hs0:=hide hs0;obtain ⟨ls0,us0⟩:=slot_bd hs0;clear hs0;go_wp2_with fail;refine ((unhide HHH) a _ HK.out.1).mono ?_;rintro e w1 ⟨rfl,he⟩;subst he
   cases hs1 : slotIn S a with
   | false =>
     have Hs1:=hide hs1;clear hs1;go_wp2_with fail;go_ret;exact ⟨ret_int (pe_of (fe_range H0.out (by simp [rangeBad,HA.out,Hs1.out])) (by omega)).symm,HK.out.2.2.2.2⟩
   | true =>
     have Hs1:=hide hs1;obtain ⟨ls1,us1⟩:=slot_bd hs1;clear hs1;go_wp2_with fail;refine ((unhide HKF) _).mono ?_;rintro e w1 ⟨rfl,hE⟩;have HK0:=HK;clear HK p p0 p1 p2 p3 p4 p5;have HK:=hide (HK0.out.keep hE);clear HK0 hE;obtain ⟨p,p0,p1,p2,p3,p4,p5⟩:=PasBox.cells HK.out.2.1;simp only at p0 p1 p2 p3 p4 p5
     cases hkf : kFineB op k with
     | false =>
       have Hkf:=hide hkf;clear hkf;go_wp2_with fail;go_ret;exact ⟨ret_int (pe_of (fe_range H0.out (by simp [rangeBad,Hkf.out])) (by omega)).symm,HK.out.2.2.2.2⟩
     | true =>
       have Hkf:=hide hkf;clear hkf;have HRB : Hid (rangeBad S ⟨op,to,a,b,k,L⟩ = false):=hide (by simp [rangeBad,Hs0.out,HA.out,Hs1.out,HB.out,Hkf.out]);by_cases fb : b = 0
       ·have Gfb:=hide fb
        have bfb : (b != 0) = false:=by simpa using fb
        clear fb;by_cases fk : k = 0
        ·have Gfk:=hide fk
         have bfk : (k != 0) = false:=by simpa using fk
         clear fk;by_cases fl : m = 0
         ·skip
          have E1:=hide (show L.length = 0 from HM.out.trans fl);obtain rfl : m = 0:=fl;by_cases ft : ¬ a = to
          ·have Gft:=hide ft
           have bft : (a == to) = false:=by simpa using ft
           clear ft;have HFE : Hid (fieldsErr S ⟨op,to,a,b,k,L⟩ = 0):=hide (fe_ok H0.out HRB.out (fun h=>by rw [HLL.out] at h; cases h) (by simp [formBad,HA.out,HB.out,HKK.out,HLL.out,Gfb.out,Gfk.out,E1.out,Gft.out]));obtain ⟨sb,so,rfl,sl,sc0,sc1⟩:=HSZ.out a _ HK.out.2.2.2.1 Hs1.out;obtain ⟨⟨bw0,bw1⟩,⟨bh0,bh1⟩⟩:=HBD.out a;have la : a < (N : Int):=by omega
           cases hsa' : szAt st a with
           | mk WA HA' =>
             rw [hsa'] at sc0 sc1 bw0 bw1 bh0 bh1;simp only at sc0 sc1 bw0 bw1 bh0 bh1;have HSA:=hide hsa';clear hsa';by_cases nz : WA = 0
             ·subst nz
              go_wp2_with fail;go_ret;exact ⟨ret_int ((pe_rest HFE.out).trans (by simp [restErr,HA.out,HSA.out])).symm,HK.out.2.2.2.2⟩
             ·have NZ:=hide nz
              have bnz : (WA == 0) = false:=by simpa using nz
              clear nz;rcases hops with rfl | rfl | ⟨h11,h12⟩
              ·by_cases ow : WA % 2 = 1
               ·have OW:=hide ow
                go_wp2_with fail;go_quiet (fail)
                go_wp2_with fail;all_goals try (exfalso; omega)
                go_ret;exact ⟨ret_int ((pe_rest HFE.out).trans (by simp [restErr,HA.out,HB.out,HSA.out,NZ.out,OW.out])).symm,below_drewN HK.out.2.2.2.2 _⟩
               ·have OW:=hide ow
                by_cases oh : HA' % 2 = 1
                ·have OH:=hide oh
                 go_wp2_with fail;go_quiet (fail)
                 go_wp2_with fail;all_goals try (exfalso; omega)
                 go_ret;exact ⟨ret_int ((pe_rest HFE.out).trans (by simp [restErr,HA.out,HB.out,HSA.out,NZ.out,OH.out])).symm,below_drewN HK.out.2.2.2.2 _⟩
                ·have OH:=hide oh
                 go_wp2_with fail;go_quiet (fail)
                 go_wp2_with fail;all_goals try (exfalso; omega)
                 go_ret;exact ⟨ret_int ((pe_rest HFE.out).trans (by simp [restErr,HA.out,HB.out,HSA.out,NZ.out,OW.out,OH.out])).symm,below_drewN HK.out.2.2.2.2 _⟩
              ·by_cases ow : 16 < 2 * WA
               ·have OW:=hide ow
                go_wp2_with fail;go_quiet (fail)
                go_wp2_with fail;all_goals try (exfalso; omega)
                go_ret;exact ⟨ret_int ((pe_rest HFE.out).trans (by simp [restErr,HA.out,HB.out,HSA.out,NZ.out,OW.out])).symm,below_drewN HK.out.2.2.2.2 _⟩
               ·have OW:=hide ow
                by_cases oh : 16 < 2 * HA'
                ·have OH:=hide oh
                 go_wp2_with fail;go_quiet (fail)
                 go_wp2_with fail;all_goals try (exfalso; omega)
                 go_ret;exact ⟨ret_int ((pe_rest HFE.out).trans (by simp [restErr,HA.out,HB.out,HSA.out,NZ.out,OH.out])).symm,below_drewN HK.out.2.2.2.2 _⟩
                ·have OH:=hide oh
                 go_wp2_with fail;go_quiet (fail)
                 go_wp2_with fail;all_goals try (exfalso; omega)
                 go_ret;exact ⟨ret_int ((pe_rest HFE.out).trans (by simp [restErr,HA.out,HB.out,HSA.out,NZ.out,OW.out,OH.out])).symm,below_drewN HK.out.2.2.2.2 _⟩
              ·have b11 : (op == 11) = false:=by simpa using h11
               have b12 : (op == 12) = false:=by simpa using h12
               have H11:=hide h11;have H12:=hide h12;clear h11 h12;go_wp2_with fail;go_quiet (fail)
               go_wp2_with fail;all_goals try (exfalso; omega)
               go_ret;exact ⟨ret_int ((pe_rest HFE.out).trans (by simp [restErr,HA.out,HB.out,HSA.out,NZ.out,H11.out,H12.out])).symm,below_drewN HK.out.2.2.2.2 _⟩
          ·have eft : a = to:=Classical.byContradiction ft
           have Gft:=hide eft;have bft : (a == to) = true:=by simpa using eft
           clear eft ft;go_wp2_with fail;go_ret;exact ⟨ret_int (pe_of (fe_form H0.out HRB.out (fun h=>by rw [HLL.out] at h; cases h) (by simp [formBad,HA.out,Gft.out])) (by omega)).symm,HK.out.2.2.2.2⟩
         ·have mfl : 0 < m:=by omega
          have mfl' : (0 : Int) < (m : Int):=by omega
          have E2:=hide (show 0 < L.length from by have:=HM.out; omega);clear fl;go_wp2_with fail;go_ret;exact ⟨ret_int (pe_of (fe_form H0.out HRB.out (fun h=>by rw [HLL.out] at h; cases h) (by simp [formBad,HLL.out,E2.out])) (by omega)).symm,HK.out.2.2.2.2⟩
        ·have Gfk:=hide fk
         have bfk : (k != 0) = true:=by simpa using fk
         clear fk;go_wp2_with fail;go_ret;exact ⟨ret_int (pe_of (fe_form H0.out HRB.out (fun h=>by rw [HLL.out] at h; cases h) (by simp [formBad,HKK.out,Gfk.out])) (by omega)).symm,HK.out.2.2.2.2⟩
       ·have Gfb:=hide fb
        have bfb : (b != 0) = true:=by simpa using fb
        clear fb;go_wp2_with fail;go_ret;exact ⟨ret_int (pe_of (fe_form H0.out HRB.out (fun h=>by rw [HLL.out] at h; cases h) (by simp [formBad,HB.out,Gfb.out])) (by omega)).symm,HK.out.2.2.2.2⟩
end Go.Proofs.YtibpmogmeoappabGreat
namespace Go.Proofs.YtibpmogmeoappabGreat
open Go.RowKit
theorem passErr_cut (W H S O : Int) (PA : Option Addr) (n c : Nat) (p : Pas) (LA : Option Addr) (m d : Nat) (SA : Option Addr) (N cN : Nat) (st : List Sz) (w : World)
 (hS : 1 ≤ S ∧ S ≤ 8) (hN : (N : Int) = S) (hst : st.length = N) (hsz : Sizes w SA st) (hbd : ∀ i : Int,(0 ≤ (szAt st i).W ∧ (szAt st i).W ≤ 16) ∧ (0 ≤ (szAt st i).H ∧ (szAt st i).H ≤ 16))
 (hm : p.L.length = m) (hL : Lamps w LA p.L) (hl : m ≤ 9223372036854775807) (h0 : inR p.Op 1 13 = true) (ha : hasA p.Op = true) (hb : hasB p.Op = false) (hk : hasK p.Op = true) (hl' : hasL p.Op = false) (h11 : ¬ p.Op = 11) (h12 : ¬ p.Op = 12) :
 Calls Tryz.prog 37 #[.agg #[.int .i64 W,.int .i64 H,.int .i64 S,.int .i64 O,.slice PA n c],.agg #[.int .i64 p.Op,.int .i64 p.To,.int .i64 p.A,.int .i64 p.B,.int .i64 p.K,.slice LA m d],.slice SA N cN] w (RetE w (passErr S p st)):=by
 have HKF:=hide (fun (W0 : World)=>kFine_any p LA m d W0);have HHA:=hide (fun (W0 : World)=>has_any p.Op W0);have HCL:=hide (fun (W0 : World) (h : Lamps W0 LA p.L)=>checkLights_ref LA m d p.L W0 hm h hl);have HK:=hide (passMem_start (p:=p) hL hsz W H S O PA n c m d);have HHH:=hide (fun (x : Int) (W0 : World) (h : FrmBox W0 w.heap.size W H S O PA n c)=>slot_any S w.heap.size W H O PA n c x W0 hS h);have HSZ:=hide (fun (x : Int) (W0 : World) (h : Sizes W0 SA st) (hx : slotIn S x = true)=>sizes_at h hst hN hx);have HBD:=hide hbd;obtain ⟨op,to,a,b,k,L⟩:=p;simp only at *;unfold RetHas at HHA;rw [ha,hb,hk,hl'] at HHA;unfold RetK at HKF;have H0:=hide h0;have HA:=hide ha;have HB:=hide hb;have HKK:=hide hk;have HLL:=hide hl';have HM:=hide hm;clear hbd hL hsz ha hb hk hl' hst hm;have b11 : (op == 11) = false:=by simpa using h11
 have b12 : (op == 12) = false:=by simpa using h12
 have H11:=hide h11;have H12:=hide h12;clear h11 h12;go_enter Tryz.func37,Tryz.ntmps37
 go_wp2_with fail;refine (within_any _ _ _ _).mono ?_;rintro e w1 ⟨rfl,he⟩;subst he;rw [h0];clear h0;go_wp2_with fail;refine ((unhide HHA) _).mono ?_;rintro e w1 ⟨rfl,he⟩;subst he;obtain ⟨p,p0,p1,p2,p3,p4,p5⟩:=PasBox.cells HK.out.2.1;simp only at p0 p1 p2 p3 p4 p5;go_wp2_with fail;refine ((unhide HHH) to _ HK.out.1).mono ?_;rintro e w1 ⟨rfl,he⟩;subst he
 cases hs0 : slotIn S to with
 | false =>
   have Hs0:=hide hs0;clear hs0;go_wp2_with fail;go_ret;exact ⟨ret_int (pe_of (fe_range H0.out (by simp [rangeBad,Hs0.out])) (by omega)).symm,HK.out.2.2.2.2⟩
 | true =>
   have Hs0:=hide hs0;obtain ⟨ls0,us0⟩:=slot_bd hs0;clear hs0;go_wp2_with fail;refine ((unhide HHH) a _ HK.out.1).mono ?_;rintro e w1 ⟨rfl,he⟩;subst he
   cases hs1 : slotIn S a with
   | false =>
     have Hs1:=hide hs1;clear hs1;go_wp2_with fail;go_ret;exact ⟨ret_int (pe_of (fe_range H0.out (by simp [rangeBad,HA.out,Hs1.out])) (by omega)).symm,HK.out.2.2.2.2⟩
   | true =>
     have Hs1:=hide hs1;obtain ⟨ls1,us1⟩:=slot_bd hs1;clear hs1;go_wp2_with fail;refine ((unhide HKF) _).mono ?_;rintro e w1 ⟨rfl,hE⟩;have HK0:=HK;clear HK p p0 p1 p2 p3 p4 p5;have HK:=hide (HK0.out.keep hE);clear HK0 hE;obtain ⟨p,p0,p1,p2,p3,p4,p5⟩:=PasBox.cells HK.out.2.1;simp only at p0 p1 p2 p3 p4 p5
     cases hkf : kFineB op k with
     | false =>
       have Hkf:=hide hkf;clear hkf;go_wp2_with fail;go_ret;exact ⟨ret_int (pe_of (fe_range H0.out (by simp [rangeBad,Hkf.out])) (by omega)).symm,HK.out.2.2.2.2⟩
     | true =>
       have Hkf:=hide hkf;clear hkf;have HRB : Hid (rangeBad S ⟨op,to,a,b,k,L⟩ = false):=hide (by simp [rangeBad,Hs0.out,HA.out,Hs1.out,HB.out,Hkf.out]);by_cases fb : b = 0
       ·have Gfb:=hide fb
        have bfb : (b != 0) = false:=by simpa using fb
        clear fb;by_cases fl : m = 0
        ·skip
         have E1:=hide (show L.length = 0 from HM.out.trans fl);obtain rfl : m = 0:=fl;by_cases ft : ¬ a = to
         ·have Gft:=hide ft
          have bft : (a == to) = false:=by simpa using ft
          clear ft;have HFE : Hid (fieldsErr S ⟨op,to,a,b,k,L⟩ = 0):=hide (fe_ok H0.out HRB.out (fun h=>by rw [HLL.out] at h; cases h) (by simp [formBad,HA.out,HB.out,HKK.out,HLL.out,Gfb.out,E1.out,Gft.out]));obtain ⟨sb,so,rfl,sl,sc0,sc1⟩:=HSZ.out a _ HK.out.2.2.2.1 Hs1.out;obtain ⟨⟨bw0,bw1⟩,⟨bh0,bh1⟩⟩:=HBD.out a;have la : a < (N : Int):=by omega
          cases hsa' : szAt st a with
          | mk WA HA' =>
            rw [hsa'] at sc0 sc1 bw0 bw1 bh0 bh1;simp only at sc0 sc1 bw0 bw1 bh0 bh1;have HSA:=hide hsa';clear hsa';by_cases nz : WA = 0
            ·subst nz
             go_wp2_with fail;go_ret;exact ⟨ret_int ((pe_rest HFE.out).trans (by simp [restErr,HA.out,HSA.out])).symm,HK.out.2.2.2.2⟩
            ·have NZ:=hide nz
             have bnz : (WA == 0) = false:=by simpa using nz
             clear nz;go_wp2_with fail;go_quiet (fail)
             go_wp2_with fail;all_goals try (exfalso; omega)
             go_ret;exact ⟨ret_int ((pe_rest HFE.out).trans (by simp [restErr,HA.out,HB.out,HSA.out,NZ.out,H11.out,H12.out])).symm,below_drewN HK.out.2.2.2.2 _⟩
         ·have eft : a = to:=Classical.byContradiction ft
          have Gft:=hide eft;have bft : (a == to) = true:=by simpa using eft
          clear eft ft;go_wp2_with fail;go_ret;exact ⟨ret_int (pe_of (fe_form H0.out HRB.out (fun h=>by rw [HLL.out] at h; cases h) (by simp [formBad,HA.out,Gft.out])) (by omega)).symm,HK.out.2.2.2.2⟩
        ·have mfl : 0 < m:=by omega
         have mfl' : (0 : Int) < (m : Int):=by omega
         have E2:=hide (show 0 < L.length from by have:=HM.out; omega);clear fl;go_wp2_with fail;go_ret;exact ⟨ret_int (pe_of (fe_form H0.out HRB.out (fun h=>by rw [HLL.out] at h; cases h) (by simp [formBad,HLL.out,E2.out])) (by omega)).symm,HK.out.2.2.2.2⟩
       ·have Gfb:=hide fb
        have bfb : (b != 0) = true:=by simpa using fb
        clear fb;go_wp2_with fail;go_ret;exact ⟨ret_int (pe_of (fe_form H0.out HRB.out (fun h=>by rw [HLL.out] at h; cases h) (by simp [formBad,HB.out,Gfb.out])) (by omega)).symm,HK.out.2.2.2.2⟩
end Go.Proofs.YtibpmogmeoappabGreat
namespace Go.Proofs.YtibpmogmeoappabGreat
open Go.RowKit
theorem passErr_two (W H S O : Int) (PA : Option Addr) (n c : Nat) (p : Pas) (LA : Option Addr) (m d : Nat) (SA : Option Addr) (N cN : Nat) (st : List Sz) (w : World)
 (hS : 1 ≤ S ∧ S ≤ 8) (hN : (N : Int) = S) (hst : st.length = N) (hsz : Sizes w SA st) (hbd : ∀ i : Int,(0 ≤ (szAt st i).W ∧ (szAt st i).W ≤ 16) ∧ (0 ≤ (szAt st i).H ∧ (szAt st i).H ≤ 16))
 (hm : p.L.length = m) (hL : Lamps w LA p.L) (hl : m ≤ 9223372036854775807) (h0 : inR p.Op 1 13 = true) (ha : hasA p.Op = true) (hb : hasB p.Op = true) (hk : hasK p.Op = false) (hl' : hasL p.Op = false) (h11 : ¬ p.Op = 11) (h12 : ¬ p.Op = 12) :
 Calls Tryz.prog 37 #[.agg #[.int .i64 W,.int .i64 H,.int .i64 S,.int .i64 O,.slice PA n c],.agg #[.int .i64 p.Op,.int .i64 p.To,.int .i64 p.A,.int .i64 p.B,.int .i64 p.K,.slice LA m d],.slice SA N cN] w (RetE w (passErr S p st)):=by
 have HKF:=hide (fun (W0 : World)=>kFine_any p LA m d W0);have HHA:=hide (fun (W0 : World)=>has_any p.Op W0);have HCL:=hide (fun (W0 : World) (h : Lamps W0 LA p.L)=>checkLights_ref LA m d p.L W0 hm h hl);have HK:=hide (passMem_start (p:=p) hL hsz W H S O PA n c m d);have HHH:=hide (fun (x : Int) (W0 : World) (h : FrmBox W0 w.heap.size W H S O PA n c)=>slot_any S w.heap.size W H O PA n c x W0 hS h);have HSZ:=hide (fun (x : Int) (W0 : World) (h : Sizes W0 SA st) (hx : slotIn S x = true)=>sizes_at h hst hN hx);have HBD:=hide hbd;obtain ⟨op,to,a,b,k,L⟩:=p;simp only at *;unfold RetHas at HHA;rw [ha,hb,hk,hl'] at HHA;unfold RetK at HKF;have H0:=hide h0;have HA:=hide ha;have HB:=hide hb;have HKK:=hide hk;have HLL:=hide hl';have HM:=hide hm;clear hbd hL hsz ha hb hk hl' hst hm;have b11 : (op == 11) = false:=by simpa using h11
 have b12 : (op == 12) = false:=by simpa using h12
 have H11:=hide h11;have H12:=hide h12;clear h11 h12;go_enter Tryz.func37,Tryz.ntmps37
 go_wp2_with fail;refine (within_any _ _ _ _).mono ?_;rintro e w1 ⟨rfl,he⟩;subst he;rw [h0];clear h0;go_wp2_with fail;refine ((unhide HHA) _).mono ?_;rintro e w1 ⟨rfl,he⟩;subst he;obtain ⟨p,p0,p1,p2,p3,p4,p5⟩:=PasBox.cells HK.out.2.1;simp only at p0 p1 p2 p3 p4 p5;go_wp2_with fail;refine ((unhide HHH) to _ HK.out.1).mono ?_;rintro e w1 ⟨rfl,he⟩;subst he
 cases hs0 : slotIn S to with
 | false =>
   have Hs0:=hide hs0;clear hs0;go_wp2_with fail;go_ret;exact ⟨ret_int (pe_of (fe_range H0.out (by simp [rangeBad,Hs0.out])) (by omega)).symm,HK.out.2.2.2.2⟩
 | true =>
   have Hs0:=hide hs0;obtain ⟨ls0,us0⟩:=slot_bd hs0;clear hs0;go_wp2_with fail;refine ((unhide HHH) a _ HK.out.1).mono ?_;rintro e w1 ⟨rfl,he⟩;subst he
   cases hs1 : slotIn S a with
   | false =>
     have Hs1:=hide hs1;clear hs1;go_wp2_with fail;go_ret;exact ⟨ret_int (pe_of (fe_range H0.out (by simp [rangeBad,HA.out,Hs1.out])) (by omega)).symm,HK.out.2.2.2.2⟩
   | true =>
     have Hs1:=hide hs1;obtain ⟨ls1,us1⟩:=slot_bd hs1;clear hs1;go_wp2_with fail;refine ((unhide HHH) b _ HK.out.1).mono ?_;rintro e w1 ⟨rfl,he⟩;subst he
     cases hs2 : slotIn S b with
     | false =>
       have Hs2:=hide hs2;clear hs2;go_wp2_with fail;go_ret;exact ⟨ret_int (pe_of (fe_range H0.out (by simp [rangeBad,HB.out,Hs2.out])) (by omega)).symm,HK.out.2.2.2.2⟩
     | true =>
       have Hs2:=hide hs2;obtain ⟨ls2,us2⟩:=slot_bd hs2;clear hs2;go_wp2_with fail;refine ((unhide HKF) _).mono ?_;rintro e w1 ⟨rfl,hE⟩;have HK0:=HK;clear HK p p0 p1 p2 p3 p4 p5;have HK:=hide (HK0.out.keep hE);clear HK0 hE;obtain ⟨p,p0,p1,p2,p3,p4,p5⟩:=PasBox.cells HK.out.2.1;simp only at p0 p1 p2 p3 p4 p5
       cases hkf : kFineB op k with
       | false =>
         have Hkf:=hide hkf;clear hkf;go_wp2_with fail;go_ret;exact ⟨ret_int (pe_of (fe_range H0.out (by simp [rangeBad,Hkf.out])) (by omega)).symm,HK.out.2.2.2.2⟩
       | true =>
         have Hkf:=hide hkf;clear hkf;have HRB : Hid (rangeBad S ⟨op,to,a,b,k,L⟩ = false):=hide (by simp [rangeBad,Hs0.out,HA.out,Hs1.out,HB.out,Hs2.out,Hkf.out]);by_cases fk : k = 0
         ·have Gfk:=hide fk
          have bfk : (k != 0) = false:=by simpa using fk
          clear fk;by_cases fl : m = 0
          ·skip
           have E1:=hide (show L.length = 0 from HM.out.trans fl);obtain rfl : m = 0:=fl;by_cases ft : ¬ a = to
           ·have Gft:=hide ft
            have bft : (a == to) = false:=by simpa using ft
            clear ft;by_cases fu : ¬ b = to
            ·have Gfu:=hide fu
             have bfu : (b == to) = false:=by simpa using fu
             clear fu;have HFE : Hid (fieldsErr S ⟨op,to,a,b,k,L⟩ = 0):=hide (fe_ok H0.out HRB.out (fun h=>by rw [HLL.out] at h; cases h) (by simp [formBad,HA.out,HB.out,HKK.out,HLL.out,Gfk.out,E1.out,Gft.out,Gfu.out]));obtain ⟨sb,so,rfl,sl,sc0,sc1⟩:=HSZ.out a _ HK.out.2.2.2.1 Hs1.out;obtain ⟨sb',so',hsa,_,sd0,sd1⟩:=HSZ.out b _ HK.out.2.2.2.1 Hs2.out;injection hsa with hsa;injection hsa with e1 e2;subst e1 e2;obtain ⟨⟨bw0,bw1⟩,⟨bh0,bh1⟩⟩:=HBD.out a;have la : a < (N : Int):=by omega
             have lb : b < (N : Int):=by omega
             cases hsa' : szAt st a with
             | mk WA HA' =>
               rw [hsa'] at sc0 sc1 bw0 bw1 bh0 bh1;simp only at sc0 sc1 bw0 bw1 bh0 bh1;have HSA:=hide hsa';clear hsa'
               cases hsb' : szAt st b with
               | mk WB HB' =>
                 rw [hsb'] at sd0 sd1;simp only at sd0 sd1;have HSB:=hide hsb';clear hsb';by_cases nz : WA = 0
                 ·subst nz
                  go_wp2_with fail;go_ret;exact ⟨ret_int ((pe_rest HFE.out).trans (by simp [restErr,HA.out,HSA.out])).symm,HK.out.2.2.2.2⟩
                 ·have NZ:=hide nz
                  have bnz : (WA == 0) = false:=by simpa using nz
                  clear nz;by_cases nz2 : WB = 0
                  ·subst nz2
                   go_wp2_with fail;go_ret;exact ⟨ret_int ((pe_rest HFE.out).trans (by simp [restErr,HA.out,HB.out,HSA.out,HSB.out])).symm,HK.out.2.2.2.2⟩
                  ·have NZ2:=hide nz2
                   have bnz2 : (WB == 0) = false:=by simpa using nz2
                   clear nz2;by_cases sw : WA = WB
                   ·by_cases sh : HA' = HB'
                    ·subst sw sh
                     go_wp2_with fail;go_quiet (fail)
                     go_wp2_with fail;all_goals try (exfalso; omega)
                     go_ret;exact ⟨ret_int ((pe_rest HFE.out).trans (by simp [restErr,HA.out,HB.out,HSA.out,HSB.out,NZ.out,H11.out,H12.out])).symm,below_drewN HK.out.2.2.2.2 _⟩
                    ·have SH:=hide sh
                     have bsh : (HA' == HB') = false:=by simpa using sh
                     clear sh;subst sw;go_wp2_with fail;go_quiet (fail)
                     go_wp2_with fail;all_goals try (exfalso; omega)
                     go_ret;exact ⟨ret_int ((pe_rest HFE.out).trans (by simp [restErr,HA.out,HB.out,HSA.out,HSB.out,NZ.out,SH.out])).symm,below_drewN HK.out.2.2.2.2 _⟩
                   ·have SW:=hide sw
                    have bsw : (WA == WB) = false:=by simpa using sw
                    clear sw;go_wp2_with fail;go_quiet (fail)
                    go_wp2_with fail;all_goals try (exfalso; omega)
                    go_ret;exact ⟨ret_int ((pe_rest HFE.out).trans (by simp [restErr,HA.out,HB.out,HSA.out,HSB.out,NZ.out,NZ2.out,SW.out])).symm,below_drewN HK.out.2.2.2.2 _⟩
            ·have efu : b = to:=Classical.byContradiction fu
             have Gfu:=hide efu;have bfu : (b == to) = true:=by simpa using efu
             clear efu fu;go_wp2_with fail;go_ret;exact ⟨ret_int (pe_of (fe_form H0.out HRB.out (fun h=>by rw [HLL.out] at h; cases h) (by simp [formBad,HB.out,Gfu.out])) (by omega)).symm,HK.out.2.2.2.2⟩
           ·have eft : a = to:=Classical.byContradiction ft
            have Gft:=hide eft;have bft : (a == to) = true:=by simpa using eft
            clear eft ft;go_wp2_with fail;go_ret;exact ⟨ret_int (pe_of (fe_form H0.out HRB.out (fun h=>by rw [HLL.out] at h; cases h) (by simp [formBad,HA.out,Gft.out])) (by omega)).symm,HK.out.2.2.2.2⟩
          ·have mfl : 0 < m:=by omega
           have mfl' : (0 : Int) < (m : Int):=by omega
           have E2:=hide (show 0 < L.length from by have:=HM.out; omega);clear fl;go_wp2_with fail;go_ret;exact ⟨ret_int (pe_of (fe_form H0.out HRB.out (fun h=>by rw [HLL.out] at h; cases h) (by simp [formBad,HLL.out,E2.out])) (by omega)).symm,HK.out.2.2.2.2⟩
         ·have Gfk:=hide fk
          have bfk : (k != 0) = true:=by simpa using fk
          clear fk;go_wp2_with fail;go_ret;exact ⟨ret_int (pe_of (fe_form H0.out HRB.out (fun h=>by rw [HLL.out] at h; cases h) (by simp [formBad,HKK.out,Gfk.out])) (by omega)).symm,HK.out.2.2.2.2⟩
end Go.Proofs.YtibpmogmeoappabGreat
namespace Go.Proofs.YtibpmogmeoappabGreat
open Go.RowKit
theorem passErr_lit (W H S O : Int) (PA : Option Addr) (n c : Nat) (p : Pas) (LA : Option Addr) (m d : Nat) (SA : Option Addr) (N cN : Nat) (st : List Sz) (w : World)
 (hS : 1 ≤ S ∧ S ≤ 8) (hN : (N : Int) = S) (hst : st.length = N) (hsz : Sizes w SA st) (hbd : ∀ i : Int,(0 ≤ (szAt st i).W ∧ (szAt st i).W ≤ 16) ∧ (0 ≤ (szAt st i).H ∧ (szAt st i).H ≤ 16))
 (hm : p.L.length = m) (hL : Lamps w LA p.L) (hl : m ≤ 9223372036854775807) (h0 : inR p.Op 1 13 = true) (ha : hasA p.Op = true) (hb : hasB p.Op = false) (hk : hasK p.Op = true) (hl' : hasL p.Op = true) (h11 : ¬ p.Op = 11) (h12 : ¬ p.Op = 12) :
 Calls Tryz.prog 37 #[.agg #[.int .i64 W,.int .i64 H,.int .i64 S,.int .i64 O,.slice PA n c],.agg #[.int .i64 p.Op,.int .i64 p.To,.int .i64 p.A,.int .i64 p.B,.int .i64 p.K,.slice LA m d],.slice SA N cN] w (RetE w (passErr S p st)):=by
 have HKF:=hide (fun (W0 : World)=>kFine_any p LA m d W0);have HHA:=hide (fun (W0 : World)=>has_any p.Op W0);have HCL:=hide (fun (W0 : World) (h : Lamps W0 LA p.L)=>checkLights_ref LA m d p.L W0 hm h hl);have HK:=hide (passMem_start (p:=p) hL hsz W H S O PA n c m d);have HHH:=hide (fun (x : Int) (W0 : World) (h : FrmBox W0 w.heap.size W H S O PA n c)=>slot_any S w.heap.size W H O PA n c x W0 hS h);have HSZ:=hide (fun (x : Int) (W0 : World) (h : Sizes W0 SA st) (hx : slotIn S x = true)=>sizes_at h hst hN hx);have HBD:=hide hbd;obtain ⟨op,to,a,b,k,L⟩:=p;simp only at *;unfold RetHas at HHA;rw [ha,hb,hk,hl'] at HHA;unfold RetK at HKF;have H0:=hide h0;have HA:=hide ha;have HB:=hide hb;have HKK:=hide hk;have HLL:=hide hl';have HM:=hide hm;clear hbd hL hsz ha hb hk hl' hst hm;have b11 : (op == 11) = false:=by simpa using h11
 have b12 : (op == 12) = false:=by simpa using h12
 have H11:=hide h11;have H12:=hide h12;clear h11 h12;go_enter Tryz.func37,Tryz.ntmps37
 go_wp2_with fail;refine (within_any _ _ _ _).mono ?_;rintro e w1 ⟨rfl,he⟩;subst he;rw [h0];clear h0;go_wp2_with fail;refine ((unhide HHA) _).mono ?_;rintro e w1 ⟨rfl,he⟩;subst he;obtain ⟨p,p0,p1,p2,p3,p4,p5⟩:=PasBox.cells HK.out.2.1;simp only at p0 p1 p2 p3 p4 p5;go_wp2_with fail;refine ((unhide HHH) to _ HK.out.1).mono ?_;rintro e w1 ⟨rfl,he⟩;subst he
 cases hs0 : slotIn S to with
 | false =>
   have Hs0:=hide hs0;clear hs0;go_wp2_with fail;go_ret;exact ⟨ret_int (pe_of (fe_range H0.out (by simp [rangeBad,Hs0.out])) (by omega)).symm,HK.out.2.2.2.2⟩
 | true =>
   have Hs0:=hide hs0;obtain ⟨ls0,us0⟩:=slot_bd hs0;clear hs0;go_wp2_with fail;refine ((unhide HHH) a _ HK.out.1).mono ?_;rintro e w1 ⟨rfl,he⟩;subst he
   cases hs1 : slotIn S a with
   | false =>
     have Hs1:=hide hs1;clear hs1;go_wp2_with fail;go_ret;exact ⟨ret_int (pe_of (fe_range H0.out (by simp [rangeBad,HA.out,Hs1.out])) (by omega)).symm,HK.out.2.2.2.2⟩
   | true =>
     have Hs1:=hide hs1;obtain ⟨ls1,us1⟩:=slot_bd hs1;clear hs1;go_wp2_with fail;refine ((unhide HKF) _).mono ?_;rintro e w1 ⟨rfl,hE⟩;have HK0:=HK;clear HK p p0 p1 p2 p3 p4 p5;have HK:=hide (HK0.out.keep hE);clear HK0 hE;obtain ⟨p,p0,p1,p2,p3,p4,p5⟩:=PasBox.cells HK.out.2.1;simp only at p0 p1 p2 p3 p4 p5
     cases hkf : kFineB op k with
     | false =>
       have Hkf:=hide hkf;clear hkf;go_wp2_with fail;go_ret;exact ⟨ret_int (pe_of (fe_range H0.out (by simp [rangeBad,Hkf.out])) (by omega)).symm,HK.out.2.2.2.2⟩
     | true =>
       have Hkf:=hide hkf;clear hkf;have HRB : Hid (rangeBad S ⟨op,to,a,b,k,L⟩ = false):=hide (by simp [rangeBad,Hs0.out,HA.out,Hs1.out,HB.out,Hkf.out]);go_wp2_with fail;refine ((unhide HCL) _ HK.out.2.2.1).mono ?_;rintro e w9 ⟨rfl,he⟩;subst he;by_cases hle : lampsErr L = 0
       ·have Hle:=hide hle
        rw [hle];clear hle;by_cases fb : b = 0
        ·have Gfb:=hide fb
         have bfb : (b != 0) = false:=by simpa using fb
         clear fb;by_cases ft : ¬ a = to
         ·have Gft:=hide ft
          have bft : (a == to) = false:=by simpa using ft
          clear ft;have HFE : Hid (fieldsErr S ⟨op,to,a,b,k,L⟩ = 0):=hide (fe_ok H0.out HRB.out (fun _=>Hle.out) (by simp [formBad,HA.out,HB.out,HKK.out,HLL.out,Gfb.out,Gft.out]));obtain ⟨sb,so,rfl,sl,sc0,sc1⟩:=HSZ.out a _ HK.out.2.2.2.1 Hs1.out;obtain ⟨⟨bw0,bw1⟩,⟨bh0,bh1⟩⟩:=HBD.out a;have la : a < (N : Int):=by omega
          cases hsa' : szAt st a with
          | mk WA HA' =>
            rw [hsa'] at sc0 sc1 bw0 bw1 bh0 bh1;simp only at sc0 sc1 bw0 bw1 bh0 bh1;have HSA:=hide hsa';clear hsa';by_cases nz : WA = 0
            ·subst nz
             go_wp2_with fail;go_ret;exact ⟨ret_int ((pe_rest HFE.out).trans (by simp [restErr,HA.out,HSA.out])).symm,HK.out.2.2.2.2⟩
            ·have NZ:=hide nz
             have bnz : (WA == 0) = false:=by simpa using nz
             clear nz;go_wp2_with fail;go_quiet (fail)
             go_wp2_with fail;all_goals try (exfalso; omega)
             go_ret;exact ⟨ret_int ((pe_rest HFE.out).trans (by simp [restErr,HA.out,HB.out,HSA.out,NZ.out,H11.out,H12.out])).symm,below_drewN HK.out.2.2.2.2 _⟩
         ·have eft : a = to:=Classical.byContradiction ft
          have Gft:=hide eft;have bft : (a == to) = true:=by simpa using eft
          clear eft ft;go_wp2_with fail;go_ret;exact ⟨ret_int (pe_of (fe_form H0.out HRB.out (fun _=>Hle.out) (by simp [formBad,HA.out,Gft.out])) (by omega)).symm,HK.out.2.2.2.2⟩
        ·have Gfb:=hide fb
         have bfb : (b != 0) = true:=by simpa using fb
         clear fb;go_wp2_with fail;go_ret;exact ⟨ret_int (pe_of (fe_form H0.out HRB.out (fun _=>Hle.out) (by simp [formBad,HB.out,Gfb.out])) (by omega)).symm,HK.out.2.2.2.2⟩
       ·have Hle:=hide hle
        have ble : (lampsErr L != 0) = true:=by simpa using hle
        clear hle;have HPE:=hide (pe_of (st:=st) (fe_lamps (S:=S) (p:=⟨op,to,a,b,k,L⟩) H0.out HRB.out HLL.out Hle.out) Hle.out);simp only at HPE;generalize lampsErr L = z at *;go_wp2_with fail;refine ((unhide HCL) _ HK.out.2.2.1).mono ?_;rintro e w9 ⟨rfl,he⟩;subst he;go_wp2_with fail;go_ret;exact ⟨ret_int (HPE.out).symm,HK.out.2.2.2.2⟩
end Go.Proofs.YtibpmogmeoappabGreat
