/- Walk: the law FitTrue. -/
import Derived.Test.YtibpmogmeoappabJFitJ
set_option maxRecDepth 100000
set_option maxHeartbeats 8000000
namespace Go.Proofs.Ytibpmogmeoappab
open Go.RowKit
def sameTo (f : Frm) : Nat → Bool
 | 0=>true
 | k + 1=>if keptAt f k = true then sameTo f k && decide (areaOf f k = areaOf f (co f 0)) else sameTo f k
theorem same_at {f : Frm} : ∀ {n k : Nat},sameTo f n = true → k < n → keptAt f k = true → areaOf f k = areaOf f (co f 0)
 | n + 1, k, h, hk, hkp => by
   simp only [sameTo] at h;by_cases e : k = n
   ·subst e
    rw [if_pos hkp] at h;simp only [Bool.and_eq_true,decide_eq_true_eq] at h;exact h.2
   ·refine same_at (n:=n) ?_ (by omega) hkp
    split at h
    ·simp only [Bool.and_eq_true] at h; exact h.1
    ·exact h
theorem sumk_bd {f : Frm} (hf : FrmOk f) : ∀ k,k ≤ f.P.length → 0 ≤ sumIf (keptAt f) (areaOf f) k ∧ sumIf (keptAt f) (areaOf f) k ≤ 256 * k
 | 0,_=>by simp [sumIf]
 | k + 1, hk => by
   have h1:=sumk_bd hf k (by omega);have h2:=area_bd hf (k:=k) (by omega);simp only [sumIf];split <;> omega
theorem true_plain {f : Frm} (hf : FrmOk f) : planErr f (comp f) = 0 ∧ pckErr f (comp f) (peakAns f (comp f)) = 0 ∧ (0 ≤ peakAns f (comp f) ∧ peakAns f (comp f) ≤ 4352) ∧ floorAns f (comp f) ≤ peakAns f (comp f) ∧ peakAns f (comp f) ≤ sumIf (keptAt f) (areaOf f) f.P.length ∧ (sameTo f f.P.length = true → peakAns f (comp f) = floorAns f (comp f)):=by
 have hin:=comp_in hf;have he : planErr f (comp f) = 0:=by unfold planErr; rw [if_neg (by simpa using frErr_zero.2 hf),if_pos hin]
 have hpk : peakAns f (comp f) = peakOf f (comp f):=by unfold peakAns; rw [if_pos he]
 have hfl : floorAns f (comp f) = floorOf f (comp f):=by unfold floorAns; rw [if_pos he]
 have hb:=peakTo_bd hf hin f.P.length (Nat.le_refl _);have hb : 0 ≤ peakOf f (comp f) ∧ peakOf f (comp f) ≤ 4352:=hb;have h1:=comp_peak hf;have h2:=areas_le hf;have h3:=areas_all (f:=f);have hck : pckErr f (comp f) (peakOf f (comp f)) = 0:=by rw [pckErr_of hf (by omega) hin,if_pos (comp_fits hf)]
 have h4:=plan_true hck;rw [hpk];refine ⟨he,hck,hb,by rw [← hpk]; exact h4.2.1,by omega,fun h=>?_⟩;rw [hfl];exact comp_even hf fun i hi=>same_at h (co_at hi).2.1 (co_at hi).2.2
theorem place_cell {w : World} {A : Option Addr} {l : List Int} (h : Ints w A l) {k : Nat} (hk : k < l.length) : ∃ b o,A = some ⟨b,o,none⟩ ∧ b < w.heap.size ∧ w.cell? ⟨b,o + k,none⟩ = some (.int .i64 (l.getD k 0)):=by
 obtain ⟨b,o,h1,h2,h3⟩:=h k (by simpa using hk);refine ⟨b,o,h1,h2,?_⟩;rw [h3,List.getD_eq_getElem?_getD,List.getElem?_map,List.getD_eq_getElem?_getD,List.getElem?_eq_getElem hk];rfl
theorem szs_cell {w : World} {A : Option Addr} {f : Frm} (hf : FrmOk f) (h : Sizes w A (frSizes f)) {k : Nat} (hk : k < f.P.length) : ∃ b o a1 a2,A = some ⟨b,o,none⟩ ∧ b < w.heap.size ∧ w.cell? ⟨b,o + k * 2,none⟩ = some (.int .i64 a1) ∧ w.cell? ⟨b,o + k * 2 + 1,none⟩ = some (.int .i64 a2) ∧ a1 * a2 = areaOf f k:=by
 obtain ⟨b,o,h1,h2,h3,h4⟩:=h.at_ (i:=k) (by rw [sizes_len hf]; exact hk)
 have e : szAt (frSizes f) (k : Int) = frSize f k:=by
  unfold szAt frSizes frAll;rw [if_pos (frErr_zero.2 hf),Int.toNat_natCast,List.getD_eq_getElem?_getD,List.getElem?_map,List.getElem?_range hk];rfl
 rw [e] at h3 h4;exact ⟨b,o,_,_,h1,h2,h3,h4,rfl⟩
theorem fitTrue_any (W H S O : Int) (PA : Option Addr) (n c : Nat) (ps : List Pas) (w : World) (hn : ps.length = n) (hP : Passes w PA ps) (_hl : n ≤ 9223372036854775807) :
 Calls Try.prog 13 #[.agg #[.int .i64 W,.int .i64 H,.int .i64 S,.int .i64 O,.slice PA n c]] w fun e w'=>e = .returned (.bool true) ∧ Below w.heap.size w w':=by
 have hb:=(Below.refl w.heap.size w).alloc (Nat.le_refl _) (.cells #[.int .i64 W,.int .i64 H,.int .i64 S,.int .i64 O,.slice PA n c] 24);have hbx:=(show FrmBox (w.alloc (.cells #[.int .i64 W,.int .i64 H,.int .i64 S,.int .i64 O,.slice PA n c] 24)) w.heap.size W H S O PA n c from Blk.new w 24 (frmCells W H S O PA n c));have hpp:=hP.keep hb;obtain ⟨w1,hw1⟩ : ∃ w1,w.alloc (.cells #[.int .i64 W,.int .i64 H,.int .i64 S,.int .i64 O,.slice PA n c] 24) = w1:=⟨_,rfl⟩;rw [hw1] at hb hbx hpp;have hs1 : w1.heap.size = w.heap.size + 1:=by rw [← hw1]; simp
 obtain ⟨f,hf⟩ : ∃ f : Frm,f = ⟨W,H,S,O,ps⟩:=⟨_,rfl⟩;have hnf : f.P.length = n:=by rw [hf]; exact hn
 have hcm:=fun (W0 : World) (h1 : Passes W0 PA ps)=>compile_any W H S O PA n c ps W0 hn h1;rw [← hf] at hcm;have HBX:=hide (Keeps.blk hbx);have HB:=hide hb;have HP:=hide (Keeps.passes hpp);by_cases hz : frErr f = 0
 ·have hok:=frErr_zero.1 hz
  have hca : compAns f = comp f:=if_pos hz;obtain ⟨e1,e2,e3,e4,e5,e6⟩:=true_plain hok;have hpk:=fun (OA : Option Addr) (on oc : Nat) (QA : Option Addr) (qn qc : Nat) (W0 : World) (h1 : Passes W0 PA ps) (hon : (comp f).Order.length = on) (hol : on ≤ 9223372036854775807) (hqn : (comp f).Places.length = qn) (hql : qn ≤ 9223372036854775807) (h2 : Ints W0 OA (comp f).Order) (h3 : Ints W0 QA (comp f).Places)=>planPeak_any W H S O PA n c ps OA on oc QA qn qc (comp f) W0 hn h1 h2 hon hol h3 hqn hql;have hfl:=fun (OA : Option Addr) (on oc : Nat) (QA : Option Addr) (qn qc : Nat) (W0 : World) (h1 : Passes W0 PA ps) (hon : (comp f).Order.length = on) (hol : on ≤ 9223372036854775807) (hqn : (comp f).Places.length = qn) (hql : qn ≤ 9223372036854775807) (h2 : Ints W0 OA (comp f).Order) (h3 : Ints W0 QA (comp f).Places)=>planFloor_any W H S O PA n c ps OA on oc QA qn qc (comp f) W0 hn h1 h2 hon hol h3 hqn hql;have hck:=fun (OA : Option Addr) (on oc : Nat) (QA : Option Addr) (qn qc : Nat) (W0 : World) (h1 : Passes W0 PA ps) (hon : (comp f).Order.length = on) (hol : on ≤ 9223372036854775807) (hoc : on ≤ oc) (hqn : (comp f).Places.length = qn) (hql : qn ≤ 9223372036854775807) (h2 : Ints W0 OA (comp f).Order) (h3 : Ints W0 QA (comp f).Places)=>planCheck_any W H S O PA n c ps OA on oc QA qn qc (comp f) (peakAns f (comp f)) W0 hn h1 h2 hon hol hoc h3 hqn hql;have hsz:=fun (W0 : World) (h1 : Passes W0 PA ps)=>sizes_any W H S O PA n c ps W0 hn h1;rw [← hf,e1] at hpk hfl;rw [← hf,e2] at hck;rw [← hf,hz] at hsz;rw [hca,hz] at hcm;obtain ⟨pk,hpke⟩ : ∃ v,peakAns f (comp f) = v:=⟨_,rfl⟩;obtain ⟨fl,hfle⟩ : ∃ v,floorAns f (comp f) = v:=⟨_,rfl⟩;rw [hpke] at hpk hck e3 e4 e5 e6;rw [hfle] at hfl e4 e6;have hpos:=compO_pos hok;have hco:=compO_len hok;have hpl : (comp f).Places.length = n:=by rw [← hnf]; show (placesTo f _ _).length = _; rw [placesTo_len]; simp
  have hor : (comp f).Order.length ≤ 12:=hco;have hord : 0 < (comp f).Order.length:=hpos;have hmany:=hok.many;have HCM:=hide hcm;have HPK:=hide hpk;have HFL:=hide hfl;have HCK:=hide hck;have HSZ:=hide hsz;have HOK:=hide hok;have HSL:=hide (sizes_len hok);have HE5:=hide e5;have HE6:=hide e6;have HPLN:=hide hpl;have HF:=hide hnf;have hn12 : n ≤ 12 ∧ 1 ≤ n:=by omega
  clear hcm hpk hfl hck hsz hok e1 e2 e5 e6 hpl hpke hfle hca hz hf hn hP hb hbx hpp hmany hpos hco hs1;obtain ⟨x,q0,q1,q2,q3,q4⟩:=FrmBox.cells (show FrmBox _ _ W H S O PA n c from HBX.out.now);go_enter Try.func13,Try.ntmps13
  go_wp2_with fail;refine ((unhide HCM) _ HP.out.now).mono ?_;rintro e w2 ⟨OA,on,oc,QA,qn,qc,rfl,hon,hqn,hO,hQ,hoc,-,-,-,hE2⟩;have hal : Below w2.heap.size w2 (w2.alloc (.cells #[.slice OA on oc,.slice QA qn qc] 27)):=(Below.refl _ _).alloc (Nat.le_refl _) _;have hpx:=Blk.new w2 27 [.slice OA on oc,.slice QA qn qc];have hE2a:=hE2.trans (hal.mono hE2.size);have HB2:=hide (HB.out.trans (hE2a.mono HB.out.size));have HBX2:=hide (HBX.out.move hE2a);have HP2:=hide (HP.out.move hE2a);have HPX2:=hide (Keeps.blk hpx);have HIO2:=hide (Keeps.ints (hO.keep hal));have HIQ2:=hide (Keeps.ints (hQ.keep hal));obtain rfl : qn = n:=by rw [← hqn]; exact HPLN.out
  have hon1 : 1 ≤ on ∧ on ≤ 12:=by omega
  have HON:=hide hon;have HQN:=hide hqn;clear hal hpx hE2a hE2 hO hQ HB HBX HP HCM hw1 x q0 q1 q2 q3 q4 hon hqn hor hord;obtain ⟨x,q0,q1,q2,q3,q4⟩:=FrmBox.cells (show FrmBox _ _ W H S O PA qn c from HBX2.out.now);obtain ⟨y,r0,r1⟩:=plan_box HPX2.out.now;go_wp2_with fail;refine ((unhide HPK) OA on oc QA qn qc _ HP2.out.now HON.out (by omega) HQN.out (by omega) HIO2.out.now HIQ2.out.now).mono ?_;rintro e w3 ⟨rfl,hE3⟩;have HB3:=hide (HB2.out.trans (hE3.mono HB2.out.size));have HBX3:=hide (HBX2.out.move hE3);have HPX3:=hide (HPX2.out.move hE3);have HIO3:=hide (HIO2.out.move hE3);have HIQ3:=hide (HIQ2.out.move hE3);have HP3:=hide (HP2.out.move hE3);clear hE3 HB2 HBX2 HPX2 HIO2 HIQ2 HP2 HPK x q0 q1 q2 q3 q4 y r0 r1;obtain ⟨x,q0,q1,q2,q3,q4⟩:=FrmBox.cells (show FrmBox _ _ W H S O PA qn c from HBX3.out.now);obtain ⟨y,r0,r1⟩:=plan_box HPX3.out.now;go_wp2_with fail;refine ((unhide HFL) OA on oc QA qn qc _ HP3.out.now HON.out (by omega) HQN.out (by omega) HIO3.out.now HIQ3.out.now).mono ?_;rintro e w4 ⟨rfl,hE4⟩;have HB4:=hide (HB3.out.trans (hE4.mono HB3.out.size));have HBX4:=hide (HBX3.out.move hE4);have HPX4:=hide (HPX3.out.move hE4);have HIO4:=hide (HIO3.out.move hE4);have HIQ4:=hide (HIQ3.out.move hE4);have HP4:=hide (HP3.out.move hE4);clear hE4 HB3 HBX3 HPX3 HIO3 HIQ3 HP3 HFL x q0 q1 q2 q3 q4 y r0 r1;obtain ⟨x,q0,q1,q2,q3,q4⟩:=FrmBox.cells (show FrmBox _ _ W H S O PA qn c from HBX4.out.now);go_wp2_with fail;refine ((unhide HSZ) _ HP4.out.now).mono ?_;rintro e w5 ⟨SA,sn,sc,rfl,hsn,hSZ,hE5⟩;obtain rfl : qn = sn:=by rw [← hsn,HSL.out]; exact HF.out.symm
  have HB5:=hide (HB4.out.trans (hE5.mono HB4.out.size));have HBX5:=hide (HBX4.out.move hE5);have HPX5:=hide (HPX4.out.move hE5);have HIO5:=hide (HIO4.out.move hE5);have HIQ5:=hide (HIQ4.out.move hE5);have HP5:=hide (HP4.out.move hE5);have HZ5:=hide (show Keeps w5 (fun W9=>Sizes W9 SA (frSizes f)) from ⟨hSZ,fun _ hb=>Cells.keep hSZ hb⟩);clear hE5 HB4 HBX4 HPX4 HIO4 HIQ4 HP4 HSZ x q0 q1 q2 q3 q4 hsn hSZ;obtain ⟨x,q0,q1,q2,q3,q4⟩:=FrmBox.cells (show FrmBox _ _ W H S O PA qn c from HBX5.out.now);obtain ⟨y,r0,r1⟩:=plan_box HPX5.out.now;have hon0 : ((on : Int) == 0) = false:=by simp; omega
  go_wp2_with fail;refine ((unhide HCK) OA on oc QA qn qc _ HP5.out.now HON.out (by omega) hoc HQN.out (by omega) HIO5.out.now HIQ5.out.now).mono ?_;rintro e w6 ⟨rfl,hE6⟩;have HB6:=hide (HB5.out.trans (hE6.mono HB5.out.size));have hpx6:=HPX5.out.later _ hE6;have HPX6:=hide hpx6;have HIO6:=hide (HIO5.out.later _ hE6);have HIQ6:=hide (HIQ5.out.later _ hE6);have HZ6:=hide (HZ5.out.later _ hE6);clear hE6 HB5 HBX5 HPX5 HIO5 HIQ5 HP5 HZ5 HCK x q0 q1 q2 q3 q4 y r0 r1 hon0;obtain ⟨y,r0,r1⟩:=plan_box hpx6;clear hpx6;have hp0 : 0 < (compO f).length:=by have:=HON.out; show 0 < (comp f).Order.length; omega
  obtain ⟨ob,oo,o0,rfl,hob,ho0,co0⟩:=HIO6.out.at_ 0 hp0;obtain ⟨kc,hkc⟩ : ∃ kc,co f 0 = kc:=⟨_,rfl⟩;have hcc:=co_at hp0;obtain rfl : o0 = ((kc : Nat) : Int):=by rw [show (comp f).Order = compO f from rfl,hcc.1,hkc] at ho0; injection ho0 with h; exact h.symm
  rw [hkc] at hcc;have hkcn : kc < qn:=by have:=hcc.2.1; have:=HF.out; omega
  obtain ⟨zb,zo,y1,y2,rfl,hzb,cy1,cy2,hy12⟩:=szs_cell HOK.out HZ6.out hcc.2.1;have har0:=area_bd HOK.out hcc.2.1;have HKC:=hide hkc;obtain ⟨a0,ha0⟩ : ∃ a,areaOf f kc = a:=⟨_,rfl⟩;rw [ha0] at hy12 har0;have hwr0 : IntKind.i64.wrap (y1 * y2) = y1 * y2:=IntWalk.i64_in _ (by omega);have HA0:=hide ha0;clear ho0 hcc hkc ha0 hob hzb;go_wp2_with fail;go_loopw [11,12,13] (fun s11 s12 s13 wr=>∃ k : Nat,k ≤ qn ∧ s13 = .int .i64 (k : Int) ∧ s11 = .int .i64 (sumIf (keptAt f) (areaOf f) k) ∧ s12 = .bool (sameTo f k) ∧ Hid (Below w6.heap.size w6 wr)) (fun _ _ s13 _=>qn - (intOf s13).toNat)
  case atStart=>exact ⟨0,Nat.zero_le _,rfl,rfl,rfl,hide (Below.refl _ _)⟩
  case round =>
   obtain ⟨k,hk,rfl,rfl,rfl,HBR⟩:=hrel;obtain ⟨y',r0',r1'⟩:=plan_box (Blk.keep HPX6.out HBR.out);by_cases hlt : k < qn
   ·have hk0 : (0 : Int) ≤ (k : Int):=by omega
    have hk1 : (k : Int) < (qn : Int):=by omega
    have hkf : k < f.P.length:=by have:=HF.out; omega
    obtain ⟨pb,po,rfl,hpb,cp⟩:=place_cell (HIQ6.out.keep HBR.out) (k:=k) (by rw [HQN.out]; exact hlt);have hpl:=comp_placed HOK.out hkf;rw [show (comp f).pl k = (comp f).Places.getD k 0 from rfl] at hpl;obtain ⟨v,hv⟩ : ∃ v,(comp f).Places.getD k 0 = v:=⟨_,rfl⟩;rw [hv] at cp hpl;obtain ⟨kb,hkb⟩ : ∃ kb,keptAt f k = kb:=⟨_,rfl⟩;rw [hkb] at hpl;have hs1 : sumIf (keptAt f) (areaOf f) (k + 1) = if kb = true then sumIf (keptAt f) (areaOf f) k + areaOf f k else sumIf (keptAt f) (areaOf f) k:=by rw [← hkb]; rfl
    have hs2 : sameTo f (k + 1) = if kb = true then sameTo f k && decide (areaOf f k = areaOf f (co f 0)) else sameTo f k:=by rw [← hkb]; rfl
    have hbd:=sumk_bd HOK.out k (by omega);obtain ⟨sm,hsm⟩ : ∃ s,sumIf (keptAt f) (areaOf f) k = s:=⟨_,rfl⟩;obtain ⟨sb,hsb⟩ : ∃ s,sameTo f k = s:=⟨_,rfl⟩;rw [hsm] at hs1 hbd;rw [hsb] at hs2;rw [hsm,hsb]
    cases kb with
    | false =>
      have hneg : ¬ 0 ≤ v:=fun h=>by have:=hpl.1 h; cases this
      have HS1:=hide (show sumIf (keptAt f) (areaOf f) (k + 1) = sm from by rw [hs1,if_neg (by simp)]);have HS2:=hide (show sameTo f (k + 1) = sb from by rw [hs2,if_neg (by simp)]);clear hs1 hs2 hsm hsb hkb hpl hv hpb;go_wp2_with fail;go_roundw
      case rel=>exact ⟨k + 1,by omega,by go_num,by rw [HS1.out],by rw [HS2.out],HBR⟩
      case measure=>simp [intOf]; omega
    | true =>
      have hpos9 : 0 ≤ v:=hpl.2 rfl;obtain ⟨zb',zo',x1,x2,ez,hzb',cx1,cx2,hx12⟩:=szs_cell HOK.out (Cells.keep HZ6.out HBR.out) hkf;obtain ⟨rfl,rfl⟩ : zb = zb' ∧ zo = zo':=by simpa using ez
      have har:=area_bd HOK.out hkf;have cz1:=keepC HBR.out cy1;have cz2:=keepC HBR.out cy2;have cz0:=keepC HBR.out co0;rw [HKC.out,HA0.out] at hs2;obtain ⟨ak,hak⟩ : ∃ a,areaOf f k = a:=⟨_,rfl⟩;rw [hak] at hs1 hs2 har hx12;have hv1 : wrap64 (x1 * x2) = ak:=by rw [hx12]; exact wrap64_of (by omega) (by omega)
      have hv2 : wrap64 (y1 * y2) = a0:=by rw [hy12]; exact wrap64_of (by omega) (by omega)
      have hv3 : wrap64 (sm + ak) = sm + ak:=wrap64_of (by omega) (by omega);have hu1 : IntKind.i64.wrap (x1 * x2) = ak:=by rw [hx12]; exact IntWalk.i64_in _ (by omega)
      have hu2 : IntKind.i64.wrap (y1 * y2) = a0:=by rw [hy12]; exact IntWalk.i64_in _ (by omega)
      have hu3 : IntKind.i64.wrap (sm + ak) = sm + ak:=IntWalk.i64_in _ (by omega);have hu4 : IntKind.i64.wrap ak = ak:=IntWalk.i64_in _ (by omega);have hu5 : IntKind.i64.wrap a0 = a0:=IntWalk.i64_in _ (by omega);obtain ⟨qm,hqm⟩ : ∃ qm,(qn : Int) - 1 = qm:=⟨_,rfl⟩;have hv6 : wrap64 ((qn : Int) - 1) = qm:=by rw [hqm]; exact wrap64_of (by omega) (by omega)
      have hu6 : IntKind.i64.wrap ((qn : Int) - 1) = qm:=by rw [hqm]; exact IntWalk.i64_in _ (by omega)
      have hu7 : IntKind.i64.wrap qm = qm:=IntWalk.i64_in _ (by omega);have hmn : ¬ qm < (kc : Int):=by omega
      have hmx : ¬ (kc : Int) < 0:=by omega
      have hkc0 : (0 : Int) ≤ (kc : Int):=by omega
      have hkc1 : (kc : Int) < (qn : Int):=by omega
      have hon2 : (0 : Int) < (on : Int):=by omega
      have hkm : (kc : Int) ≤ qm:=by omega
      obtain ⟨sb2,hsb2⟩ : ∃ b,(ak == a0) = b:=⟨_,rfl⟩;have HS1:=hide (show sumIf (keptAt f) (areaOf f) (k + 1) = sm + ak from by rw [hs1,if_pos rfl]);have HS2:=hide (show sameTo f (k + 1) = (sb && sb2) from by rw [hs2,if_pos rfl,← hsb2]; rfl);clear hs1 hs2 hsm hsb hkb hpl hv hpb hzb' ez hak hx12 hqm hwr0
      cases sb with
      | false =>
        go_upto_region 15 with fail
        go_quiet (fail)
        go_upto_region 16 with fail
        go_quiet (fail)
        go_wp2_with fail;go_roundw
        case rel=>exact ⟨k + 1,by omega,by go_num,by rw [HS1.out],by rw [HS2.out]; rfl,hide (by repeat (first | exact HBR.out | refine below_drewN ?_ _ | refine Below.drew ?_))⟩
        case measure=>simp [intOf]; omega
      | true =>
        have HY:=hide hy12;clear hy12;go_upto_region 15 with fail
        go_quiet (fail)
        have HS00:=hide (show wr.cell? ⟨w2.heap.size,0,none⟩ = some (.slice (some ⟨ob,oo,none⟩) on oc) ∧ wr.cell? ⟨ob,oo,none⟩ = some (.int .i64 (kc : Int)) ∧ wr.cell? ⟨zb,zo + k * 2,none⟩ = some (.int .i64 x1) ∧ wr.cell? ⟨zb,zo + k * 2 + 1,none⟩ = some (.int .i64 x2) ∧ wr.cell? ⟨zb,zo + kc * 2,none⟩ = some (.int .i64 y1) ∧ wr.cell? ⟨zb,zo + kc * 2 + 1,none⟩ = some (.int .i64 y2) from ⟨r0',cz0,cx1,cx2,cz1,cz2⟩);go_upto_region 16 with fail
        have hS0:=HS00.out;refine wp_region_B (fun w' : World=>w'.cell? ⟨w2.heap.size,0,none⟩ = some (.slice (some ⟨ob,oo,none⟩) on oc) ∧ w'.cell? ⟨ob,oo,none⟩ = some (.int .i64 (kc : Int)) ∧ w'.cell? ⟨zb,zo + k * 2,none⟩ = some (.int .i64 x1) ∧ w'.cell? ⟨zb,zo + k * 2 + 1,none⟩ = some (.int .i64 x2) ∧ w'.cell? ⟨zb,zo + kc * 2,none⟩ = some (.int .i64 y1) ∧ w'.cell? ⟨zb,zo + kc * 2 + 1,none⟩ = some (.int .i64 y2)) (fun _=>false) (by kernel_rfl) ?_;refine AnyB.fr (i:=0) (.bool true) rfl (by kernel_rfl) (fun w'=>?_) ?_
        ·go_simp
        try simp only [Act.put,lsa]
        refine AnyB.fr (i:=1) (.bool true) rfl (by kernel_rfl) (fun w'=>?_) ?_
        ·go_simp
        try simp only [Act.put]
        refine AnyB.fr (i:=2) (.slice (some ⟨zb,zo,none⟩) qn sc) rfl (by kernel_rfl) (fun w'=>?_) ?_
        ·go_simp
        try simp only [Act.put]
        refine AnyB.fr (i:=3) (.int .i64 (k : Int)) rfl (by kernel_rfl) (fun w'=>?_) ?_
        ·go_simp
        try simp only [Act.put]
        refine AnyB.fr (i:=4) (.pointer (some ⟨zb,zo + k * 2,none⟩)) rfl (by kernel_rfl) (fun w'=>?_) ?_
        ·go_simp
        try simp only [Act.put]
        refine AnyB.fr (i:=5) (.pointer (some ⟨zb,zo + k * 2,none⟩)) rfl (by kernel_rfl) (fun w'=>?_) ?_
        ·go_simp
        try simp only [Act.put]
        refine AnyB.tk (i:=6) (.int .i64 x1) rfl (by kernel_rfl) (fun w' hS'=>?_) hS0 ?_
        ·obtain ⟨e0,e1,e2,e3,e4,e5⟩:=hS'
         go_simp
        try simp only [Act.put]
        refine AnyB.fr (i:=7) (.slice (some ⟨zb,zo,none⟩) qn sc) rfl (by kernel_rfl) (fun w'=>?_) ?_
        ·go_simp
        try simp only [Act.put]
        refine AnyB.fr (i:=8) (.int .i64 (k : Int)) rfl (by kernel_rfl) (fun w'=>?_) ?_
        ·go_simp
        try simp only [Act.put]
        refine AnyB.fr (i:=9) (.pointer (some ⟨zb,zo + k * 2,none⟩)) rfl (by kernel_rfl) (fun w'=>?_) ?_
        ·go_simp
        try simp only [Act.put]
        refine AnyB.fr (i:=10) (.pointer (some ⟨zb,zo + k * 2 + 1,none⟩)) rfl (by kernel_rfl) (fun w'=>?_) ?_
        ·go_simp
        try simp only [Act.put]
        refine AnyB.tk (i:=11) (.int .i64 x2) rfl (by kernel_rfl) (fun w' hS'=>?_) hS0 ?_
        ·obtain ⟨e0,e1,e2,e3,e4,e5⟩:=hS'
         go_simp
        try simp only [Act.put]
        refine AnyB.fr (i:=12) (.int .i64 ak) rfl (by kernel_rfl) (fun w'=>?_) ?_
        ·go_simp
        try simp only [Act.put]
        refine AnyB.fr (i:=13) (.slice (some ⟨zb,zo,none⟩) qn sc) rfl (by kernel_rfl) (fun w'=>?_) ?_
        ·go_simp
        try simp only [Act.put]
        refine AnyB.fr (i:=14) (.slice (some ⟨zb,zo,none⟩) qn sc) rfl (by kernel_rfl) (fun w'=>?_) ?_
        ·go_simp
        try simp only [Act.put]
        refine AnyB.fr (i:=15) (.int .i64 (qn : Int)) rfl (by kernel_rfl) (fun w'=>?_) ?_
        ·go_simp
        try simp only [Act.put]
        refine AnyB.fr (i:=16) (.int .i64 qm) rfl (by kernel_rfl) (fun w'=>?_) ?_
        ·go_simp
        try simp only [Act.put]
        refine AnyB.fr (i:=17) (.pointer (some ⟨w2.heap.size,0,none⟩)) rfl (by kernel_rfl) (fun w'=>?_) ?_
        ·go_simp
        try simp only [Act.put]
        refine AnyB.tk (i:=18) (.slice (some ⟨ob,oo,none⟩) on oc) rfl (by kernel_rfl) (fun w' hS'=>?_) hS0 ?_
        ·obtain ⟨e0,e1,e2,e3,e4,e5⟩:=hS'
         go_simp
        try simp only [Act.put]
        refine AnyB.fr (i:=19) (.pointer (some ⟨ob,oo,none⟩)) rfl (by kernel_rfl) (fun w'=>?_) ?_
        ·go_simp
         first | (intro hh; omega) | (intro hh; exfalso; omega)
        try simp only [Act.put]
        refine AnyB.tk (i:=20) (.int .i64 (kc : Int)) rfl (by kernel_rfl) (fun w' hS'=>?_) hS0 ?_
        ·obtain ⟨e0,e1,e2,e3,e4,e5⟩:=hS'
         go_simp
        try simp only [Act.put]
        refine AnyB.fr (i:=21) (.int .i64 (kc : Int)) rfl (by kernel_rfl) (fun w'=>?_) ?_
        ·go_simp
         first | (intro hh; omega) | (intro hh; exfalso; omega)
        try simp only [Act.put]
        refine AnyB.fr (i:=22) (.int .i64 (kc : Int)) rfl (by kernel_rfl) (fun w'=>?_) ?_
        ·go_simp
         first | (intro hh; omega) | (intro hh; exfalso; omega)
        try simp only [Act.put]
        refine AnyB.fr (i:=23) (.pointer (some ⟨zb,zo + kc * 2,none⟩)) rfl (by kernel_rfl) (fun w'=>?_) ?_
        ·go_simp
        try simp only [Act.put]
        refine AnyB.fr (i:=24) (.pointer (some ⟨zb,zo + kc * 2,none⟩)) rfl (by kernel_rfl) (fun w'=>?_) ?_
        ·go_simp
        try simp only [Act.put]
        refine AnyB.tk (i:=25) (.int .i64 y1) rfl (by kernel_rfl) (fun w' hS'=>?_) hS0 ?_
        ·obtain ⟨e0,e1,e2,e3,e4,e5⟩:=hS'
         go_simp
        try simp only [Act.put]
        refine AnyB.fr (i:=26) (.slice (some ⟨zb,zo,none⟩) qn sc) rfl (by kernel_rfl) (fun w'=>?_) ?_
        ·go_simp
        try simp only [Act.put]
        refine AnyB.fr (i:=27) (.slice (some ⟨zb,zo,none⟩) qn sc) rfl (by kernel_rfl) (fun w'=>?_) ?_
        ·go_simp
        try simp only [Act.put]
        refine AnyB.fr (i:=28) (.int .i64 (qn : Int)) rfl (by kernel_rfl) (fun w'=>?_) ?_
        ·go_simp
        try simp only [Act.put]
        refine AnyB.fr (i:=29) (.int .i64 qm) rfl (by kernel_rfl) (fun w'=>?_) ?_
        ·go_simp
        try simp only [Act.put]
        refine AnyB.fr (i:=30) (.pointer (some ⟨w2.heap.size,0,none⟩)) rfl (by kernel_rfl) (fun w'=>?_) ?_
        ·go_simp
        try simp only [Act.put]
        refine AnyB.tk (i:=31) (.slice (some ⟨ob,oo,none⟩) on oc) rfl (by kernel_rfl) (fun w' hS'=>?_) hS0 ?_
        ·obtain ⟨e0,e1,e2,e3,e4,e5⟩:=hS'
         go_simp
        try simp only [Act.put]
        refine AnyB.fr (i:=32) (.pointer (some ⟨ob,oo,none⟩)) rfl (by kernel_rfl) (fun w'=>?_) ?_
        ·go_simp
         first | (intro hh; omega) | (intro hh; exfalso; omega)
        try simp only [Act.put]
        refine AnyB.tk (i:=33) (.int .i64 (kc : Int)) rfl (by kernel_rfl) (fun w' hS'=>?_) hS0 ?_
        ·obtain ⟨e0,e1,e2,e3,e4,e5⟩:=hS'
         go_simp
        try simp only [Act.put]
        refine AnyB.fr (i:=34) (.int .i64 (kc : Int)) rfl (by kernel_rfl) (fun w'=>?_) ?_
        ·go_simp
         first | (intro hh; omega) | (intro hh; exfalso; omega)
        try simp only [Act.put]
        refine AnyB.fr (i:=35) (.int .i64 (kc : Int)) rfl (by kernel_rfl) (fun w'=>?_) ?_
        ·go_simp
         first | (intro hh; omega) | (intro hh; exfalso; omega)
        try simp only [Act.put]
        refine AnyB.fr (i:=36) (.pointer (some ⟨zb,zo + kc * 2,none⟩)) rfl (by kernel_rfl) (fun w'=>?_) ?_
        ·go_simp
        try simp only [Act.put]
        refine AnyB.fr (i:=37) (.pointer (some ⟨zb,zo + kc * 2 + 1,none⟩)) rfl (by kernel_rfl) (fun w'=>?_) ?_
        ·go_simp
        try simp only [Act.put]
        refine AnyB.tk (i:=38) (.int .i64 y2) rfl (by kernel_rfl) (fun w' hS'=>?_) hS0 ?_
        ·obtain ⟨e0,e1,e2,e3,e4,e5⟩:=hS'
         go_simp
        try simp only [Act.put]
        refine AnyB.fr (i:=39) (.int .i64 a0) rfl (by kernel_rfl) (fun w'=>?_) ?_
        ·go_simp
        try simp only [Act.put]
        refine AnyB.fr (i:=40) (.bool sb2) rfl (by kernel_rfl) (fun w'=>?_) ?_
        ·go_simp
        try simp only [Act.put]
        refine AnyB.fr (i:=41) (.bool sb2) rfl (by kernel_rfl) (fun w'=>?_) ?_
        ·go_simp
        try simp only [Act.put]
        refine AnyB.fr (i:=42) (.bool sb2) rfl (by kernel_rfl) (fun w'=>?_) ?_
        ·go_simp
        try simp only [Act.put]
        refine AnyB.done (by kernel_rfl) ?_;go_wp2_with fail;go_roundw
        case rel=>exact ⟨k + 1,by omega,by go_num,by rw [HS1.out],by rw [HS2.out]; rfl,hide (by repeat (first | exact HBR.out | refine below_drewN ?_ _ | refine Below.drew ?_))⟩
        case measure=>simp [intOf]; omega
   ·obtain rfl : k = qn:=by omega
    have h5:=HE5.out;have h6:=HE6.out;rw [HF.out] at h5 h6;obtain ⟨sm,hsm⟩ : ∃ s,sumIf (keptAt f) (areaOf f) k = s:=⟨_,rfl⟩;obtain ⟨sb,hsb⟩ : ∃ s,sameTo f k = s:=⟨_,rfl⟩;rw [hsm] at h5;rw [hsb] at h6;rw [hsm,hsb];clear hsm hsb;have HB8:=hide (HB6.out.trans (HBR.out.mono HB6.out.size));clear r0' r1' y' cy1 cy2 co0
    cases sb with
    | false =>
      clear h6;go_wp2_with fail;refine (fitBegun_any _).mono ?_;rintro e w9 ⟨rfl,hE9⟩;have HB9:=hide (HB8.out.trans (hE9.mono HB8.out.size));clear hE9;go_wp2_with fail;all_goals try (exfalso; omega)
      go_ret;exact ⟨rfl,HB9.out⟩
    | true =>
      have h7 : (pk == fl) = true:=by simpa using h6 rfl
      clear h6;go_wp2_with fail;refine (fitBegun_any _).mono ?_;rintro e w9 ⟨rfl,hE9⟩;have HB9:=hide (HB8.out.trans (hE9.mono HB8.out.size));clear hE9;go_wp2_with fail;all_goals try (exfalso; omega)
      go_ret;exact ⟨rfl,HB9.out⟩
 ·have hca : compAns f = ⟨[],[]⟩:=if_neg hz
  rw [hca] at hcm;obtain ⟨er,her⟩ : ∃ er,frErr f = er:=⟨_,rfl⟩;rw [her] at hcm hz;have hz2 : (er != 0) = true:=by simpa using hz
  have HCM:=hide hcm;clear hcm hca her hz hf hn hP hb hbx hpp hs1 hnf;obtain ⟨x,q0,q1,q2,q3,q4⟩:=FrmBox.cells (show FrmBox _ _ W H S O PA n c from HBX.out.now);go_enter Try.func13,Try.ntmps13
  go_wp2_with fail;refine ((unhide HCM) _ HP.out.now).mono ?_;rintro e w2 ⟨OA,on,oc,QA,qn,qc,rfl,-,-,-,-,-,-,-,-,hE2⟩;have hal : Below w2.heap.size w2 (w2.alloc (.cells #[.slice OA on oc,.slice QA qn qc] 27)):=(Below.refl _ _).alloc (Nat.le_refl _) _;have hE2a:=hE2.trans (hal.mono hE2.size);have HB2:=hide (HB.out.trans (hE2a.mono HB.out.size));clear hal hE2a hE2 HB HBX HP HCM hw1 x q0 q1 q2 q3 q4;go_wp2_with fail;refine (fitBegun_any _).mono ?_;rintro e w3 ⟨rfl,hE3⟩;have HB3:=hide (HB2.out.trans (hE3.mono HB2.out.size));clear hE3 HB2;go_wp2_with fail;go_ret;exact ⟨rfl,HB3.out⟩
end Go.Proofs.Ytibpmogmeoappab
