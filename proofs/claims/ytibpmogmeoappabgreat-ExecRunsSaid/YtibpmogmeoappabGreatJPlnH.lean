/- Walks: area, meet, InOrder. -/
import Derived.Test.YtibpmogmeoappabGreatJPlnA
import Derived.Test.YtibpmogmeoappabGreatJPlnE
import Derived.Test.YtibpmogmeoappabGreatJNeed2
import Derived.Deep.RegionHeld3
import Derived.BigQuiet
set_option maxRecDepth 100000
set_option maxHeartbeats 8000000
namespace Go.Proofs.YtibpmogmeoappabGreat
open Go.RowKit
theorem area_ref (W H : Int) (w : World) (h : 0 ≤ W * H ∧ W * H ≤ 256) : Calls Tryz.prog 39 #[.agg #[.int .i64 W,.int .i64 H]] w fun e w'=>e = .returned (.int .i64 (W * H)) ∧ Below w.heap.size w w':=by
 have hwr : IntKind.i64.wrap (W * H) = W * H:=IntWalk.i64_in _ (by omega);go_enter Tryz.func39,Tryz.ntmps39
 go_wp2_with fail;go_ret;exact ⟨rfl,(Below.refl _ _).alloc (Nat.le_refl _) _⟩
theorem meet_ref (a b : Spn) (w : World) : Calls Tryz.prog 54 #[.agg #[.int .i64 a.First,.int .i64 a.Last],.agg #[.int .i64 b.First,.int .i64 b.Last]] w fun e w'=>e = .returned (.bool (meetB a b)) ∧ Below w.heap.size w w':=by
 obtain ⟨af,al⟩:=a;obtain ⟨bf,bl⟩:=b;have hb : Below w.heap.size w ((w.alloc (.cells #[.int .i64 af,.int .i64 al] 109)).alloc (.cells #[.int .i64 bf,.int .i64 bl] 109)):=((Below.refl _ _).alloc (Nat.le_refl _) _).alloc (by simp) _;have HB:=hide hb;clear hb;unfold meetB;by_cases h1 : af ≤ bl
 ·by_cases h2 : bf ≤ al
  ·go_enter Tryz.func54,Tryz.ntmps54
   go_wp2_with fail;go_ret;exact ⟨ret_bool (decide_eq_true (by omega)).symm,HB.out⟩
  ·go_enter Tryz.func54,Tryz.ntmps54
   go_wp2_with fail;go_ret;exact ⟨ret_bool (decide_eq_false (by omega)).symm,HB.out⟩
 ·go_enter Tryz.func54,Tryz.ntmps54
  go_wp2_with fail;go_ret;exact ⟨ret_bool (by have h : decide (af ≤ bl) = false:=decide_eq_false (by omega); rw [h]; rfl),HB.out⟩
theorem within_still (x lo hi : Int) (w : World) (k : Nat) : Calls Tryz.prog 32 #[.int .i64 x,.int .i64 lo,.int .i64 hi] (w.drewN k) fun e w'=>e = .returned (.bool (inR x lo hi)) ∧ ∃ q,w' = w.drewN q :=
 (within_any x lo hi (w.drewN k)).mono fun _ _ ⟨e1,e2⟩=>⟨e1,k,e2.symm⟩
theorem within_yes {x lo hi : Int} (h : lo ≤ x ∧ x ≤ hi) (w : World) (k : Nat) : Calls Tryz.prog 32 #[.int .i64 x,.int .i64 lo,.int .i64 hi] (w.drewN k) fun e w'=>e = .returned (.bool true) ∧ ∃ q,w' = w.drewN q:=by
 have e : inR x lo hi = true:=by unfold inR; simp; omega
 have:=within_still x lo hi w k
 rwa [e] at this
theorem within_not {x lo hi : Int} (h : ¬ (lo ≤ x ∧ x ≤ hi)) (w : World) (k : Nat) : Calls Tryz.prog 32 #[.int .i64 x,.int .i64 lo,.int .i64 hi] (w.drewN k) fun e w'=>e = .returned (.bool false) ∧ ∃ q,w' = w.drewN q:=by
 have e : inR x lo hi = false:=by
  cases hh : inR x lo hi with
  | false=>rfl
  | true=>unfold inR at hh; simp at hh; omega
 have:=within_still x lo hi w k
 rwa [e] at this
theorem stepOf_still (A : Option Addr) (n c : Nat) (l : List Int) (x : Int) (w : World) (hn : l.length = n) (hI : Ints w A l) (hl : n ≤ 9223372036854775807) (k : Nat) : Calls Tryz.prog 52 #[.slice A n c,.int .i64 x] (w.drewN k) fun e w'=>e = .returned (.int .i64 (stepOf l x)) ∧ ∃ q,w' = w.drewN q :=
 (stepOf_ref A n c l x (w.drewN k) hn (hI.keep (below_drewN (Below.refl _ _) k)) hl).mono fun _ _ ⟨e1,e2⟩=>⟨e1,k,e2.symm⟩
theorem inOrder_ref (W H S O : Int) (PA : Option Addr) (n c : Nat) (ps : List Pas) (OA : Option Addr) (on oc : Nat) (QA : Option Addr) (qn qc : Nat) (p : Pln) (w : World) (hn : ps.length = n) (hP : Passes w PA ps)
 (hO : Ints w OA p.Order) (hon : p.Order.length = on) (hol : on ≤ 9223372036854775807) (hQ : Ints w QA p.Places) (hqn : p.Places.length = qn) (hql : qn ≤ 9223372036854775807) (hok : FrmOk ⟨W,H,S,O,ps⟩) :
 Calls Tryz.prog 33 #[.agg #[.int .i64 W,.int .i64 H,.int .i64 S,.int .i64 O,.slice PA n c],.agg #[.slice OA on oc,.slice QA qn qc]] w (RetTest w (InOrder ⟨W,H,S,O,ps⟩ p)):=by
 have hb:=((Below.refl w.heap.size w).alloc (Nat.le_refl _) (.cells #[.int .i64 W,.int .i64 H,.int .i64 S,.int .i64 O,.slice PA n c] 24)).alloc (by simp) (.cells #[.slice OA on oc,.slice QA qn qc] 27);have hbx:=(show FrmBox (w.alloc (.cells #[.int .i64 W,.int .i64 H,.int .i64 S,.int .i64 O,.slice PA n c] 24)) w.heap.size W H S O PA n c from Blk.new w 24 (frmCells W H S O PA n c)).alloc (.cells #[.slice OA on oc,.slice QA qn qc] 27);have hpx : Blk ((w.alloc (.cells #[.int .i64 W,.int .i64 H,.int .i64 S,.int .i64 O,.slice PA n c] 24)).alloc (.cells #[.slice OA on oc,.slice QA qn qc] 27)) (w.heap.size + 1) 27 [.slice OA on oc,.slice QA qn qc]:=Blk.newE (by simp);have hSO:=fun (W0 : World) (h1 : Passes W0 PA ps)=>sourcesOf_ref W H S O PA n c ps W0 hn h1 (by have:=hok.many.2; simp only at this; omega);have hKO:=fun (W0 : World) (h1 : Passes W0 PA ps)=>keptOf_ref W H S O PA n c ps W0 hn h1 hok;have HP:=hide (Keeps.passes (hP.keep hb))
 have hks : Keeps ((w.alloc (.cells #[.int .i64 W,.int .i64 H,.int .i64 S,.int .i64 O,.slice PA n c] 24)).alloc (.cells #[.slice OA on oc,.slice QA qn qc] 27)) (fun w'=>Ints w' OA p.Order ∧ Ints w' QA p.Places ∧ w'.cell? ⟨w.heap.size + 1,0,none⟩ = some (.slice OA on oc) ∧ w'.cell? ⟨w.heap.size + 1,1,none⟩ = some (.slice QA qn qc)):=by
  have h1:=hO.keep hb;have h2:=hQ.keep hb;have h3:=hpx.cell 0;have h4:=hpx.cell 1;exact ⟨⟨h1,h2,h3,h4⟩,fun _ hb=>⟨h1.keep hb,h2.keep hb,keepC hb h3,keepC hb h4⟩⟩
 obtain ⟨f,hf⟩ : ∃ f : Frm,f = ⟨W,H,S,O,ps⟩:=⟨_,rfl⟩;have HFN:=hide (show f.P.length = n from by rw [hf]; exact hn);rw [← hf] at hok hSO hKO ⊢;obtain ⟨w1,hw1⟩ : ∃ w1,(w.alloc (.cells #[.int .i64 W,.int .i64 H,.int .i64 S,.int .i64 O,.slice PA n c] 24)).alloc (.cells #[.slice OA on oc,.slice QA qn qc] 27) = w1:=⟨_,rfl⟩;rw [hw1] at hb hbx hks HP;have HB:=hide hb;have HBX:=hide (Keeps.blk hbx);have HKS:=hide hks;have HSO:=hide hSO;have HKO:=hide hKO;have HOK:=hide hok;have HON:=hide hon;have HQN:=hide hqn;have h12:=hok.many;rw [HFN.out] at h12;obtain ⟨x,q0,q1,q2,q3,q4⟩:=FrmBox.cells (show FrmBox _ _ W H S O PA n c from hbx);obtain ⟨-,-,r0,r1⟩:=hks.now;clear hn hP hO hQ hpx hSO hKO hok hf hon hqn hb hbx hks;by_cases hq : qn = n
 ·by_cases hle : on ≤ n
  ·subst hq
   go_enter Tryz.func33,Tryz.ntmps33
   go_wp2_with fail;clear hw1;have HCS:=hide (show Keeps w1 (fun w'=>w'.cell? ⟨w.heap.size,0,none⟩ = some (.int .i64 W) ∧ w'.cell? ⟨w.heap.size,1,none⟩ = some (.int .i64 H) ∧ w'.cell? ⟨w.heap.size,2,none⟩ = some (.int .i64 S) ∧ w'.cell? ⟨w.heap.size,3,none⟩ = some (.int .i64 O) ∧ w'.cell? ⟨w.heap.size,4,none⟩ = some (.slice PA qn c)) from ⟨⟨q0,q1,q2,q3,q4⟩,fun _ hb=>⟨keepC hb q0,keepC hb q1,keepC hb q2,keepC hb q3,keepC hb q4⟩⟩)
   go_region_held3 (fun w'=>w'.cell? ⟨w.heap.size,0,none⟩ = some (.int .i64 W) ∧ w'.cell? ⟨w.heap.size,1,none⟩ = some (.int .i64 H) ∧ w'.cell? ⟨w.heap.size,2,none⟩ = some (.int .i64 S) ∧ w'.cell? ⟨w.heap.size,3,none⟩ = some (.int .i64 O) ∧ w'.cell? ⟨w.heap.size,4,none⟩ = some (.slice PA qn c))
    (first | exact HCS.out.later _ (Below.refl _ _).drew | exact HCS.out.later _ hB2 | exact HCS.out.later _ hB3)
    (first
      | (go_simp; go_at_call 35; refine ((unhide HSO) _ (HP.out.later _ (Below.refl _ _).drew)).mono ?_; rintro e w2 ⟨RA,rn,rc,rfl,hrn,hRI,hE2⟩; have hB2 : Below w1.heap.size w1 w2:=(Below.refl _ _).drew.trans hE2)
      | (go_simp; go_at_call 51; refine ((unhide HKO) _ (HP.out.later _ hB2)).mono ?_; rintro e w3 ⟨KA,kn,kc,rfl,hkn,hKC,hE3⟩; have hB3 : Below w1.heap.size w1 w3:=hB2.trans (hE3.mono hB2.size)))
   obtain rfl : qn = rn:=by rw [← hrn]; simp [srcsTo]
   obtain rfl : qn = kn:=by rw [keptL_len,HFN.out] at hkn; exact hkn
   have hri : ∀ m,m < qn → (srcsTo f qn)[m]? = some (srcs f m):=fun m hm=>by unfold srcsTo; rw [List.getElem?_map,List.getElem?_range hm]; rfl
   have HB3:=hide hB3;have HKL:=hide hkn;have HRI:=hide hri;have HRC:=hide (show Keeps w3 (fun W'=>IntRows W' RA (srcsTo f qn) ∧ Cells W' KA ((keptL f).map Value.bool)) from ⟨⟨hRI.keep hE3,hKC⟩,fun _ hb=>⟨(hRI.keep hE3).keep hb,hKC.keep hb⟩⟩);have HK3:=hide (HKS.out.move hB3);clear hRI hKC hE2 hE3 hB2 hB3 hrn hkn hri x q0 q1 q2 q3 q4 r0 r1 HCS HBX HKS HSO HKO HP;go_wp2_with fail;go_loopw [8,9,10] (fun s _ _ wr=>∃ i : Nat,i ≤ on ∧ s = .int .i64 i ∧ Hid (∀ t,t < i → StepOk f p t) ∧ Hid (Below w3.heap.size w3 wr)) (fun s _ _ _=>on - (intOf s).toNat)
   case atStart=>exact ⟨0,Nat.zero_le _,rfl,hide (fun t ht=>by omega),hide (Below.refl _ _)⟩
   case round =>
    obtain ⟨i,hi,rfl,HST,HBW⟩:=hrel;obtain ⟨hOr,-,r0,r1⟩:=HK3.out.later _ HBW.out;have HOR:=hide hOr;clear hOr;by_cases hil : i < on
    ·have hi0 : (0 : Int) ≤ (i : Int):=by omega
     have hi1 : (i : Int) < (on : Int):=by omega
     obtain ⟨ob,oo,hOA,hob,co⟩:=ints_at HOR.out (k:=i) (by rw [HON.out]; exact hil);obtain rfl:=hOA;obtain ⟨v,hv⟩ : ∃ v,p.ord i = v:=⟨_,rfl⟩;rw [show p.Order.getD i 0 = p.ord i from rfl,hv] at co;have HV:=hide hv;clear hv;have hno : ¬ StepOk f p i → ¬ InOrder f p:=fun h1 h2=>h1 (h2.step i (by rw [HON.out]; exact hil));have HNO:=hide hno;clear hno;by_cases hin : 0 ≤ v ∧ v ≤ (qn : Int) - 1
     ·have HW:=hide (within_yes hin wr)
      obtain ⟨m,rfl⟩ : ∃ m : Nat,v = (m : Int):=⟨v.toNat,by omega⟩;have hm0 : (0 : Int) ≤ (m : Int):=by omega
      have hmk : m < qn:=by omega
      have hm1 : (m : Int) < (qn : Int):=by omega
      by_cases hst : stepOf p.Order (m : Int) = i
      ·have hsq:=stepOf_still (some ⟨ob,oo,none⟩) on oc p.Order (m : Int) wr HON.out HOR.out hol
       rw [hst] at hsq;have HSQ:=hide hsq;have HSE:=hide hst;clear hsq hst hin;go_wp2_with fail;go_quiet ((first | (go_at_call 32; exact (unhide HW) _) | (go_at_call 52; exact (unhide HSQ) _)))
       generalize hq2 : World.drewN wr _ = w4;have hb2 : Below wr.heap.size wr w4:=by rw [← hq2]; exact below_drewN (Below.refl _ _) _
       have HB4:=hide (HBW.out.trans (hb2.mono HBW.out.size));clear hq2 hb2 HW HSQ HOR r0 r1 co hob;go_wp2_with fail;go_loopw [9,10] (fun s _ wz=>∃ j : Nat,j ≤ (srcs f m).length ∧ s = .int .i64 j ∧ Hid (∀ y ∈ (srcs f m).take j,0 ≤ stepOf p.Order y ∧ stepOf p.Order y < i) ∧ Hid (Below w3.heap.size w3 wz)) (fun s _ _=>(srcs f m).length - (intOf s).toNat)
       case atStart=>exact ⟨0,Nat.zero_le _,rfl,hide (fun y hy=>by simp at hy),HB4⟩
       case round =>
        obtain ⟨j,hj,rfl,HJ,HBZ⟩:=hrel;obtain ⟨hOz,-,r0,r1⟩:=HK3.out.later _ HBZ.out;obtain ⟨ob',oo',e1,hob,co⟩:=ints_at hOz (k:=i) (by rw [HON.out]; exact hil);cases e1;rw [show p.Order.getD i 0 = p.ord i from rfl,HV.out] at co;have HOZ:=hide hOz;obtain ⟨rb,ro,B,sm,sd,hRA,hrb,cr,hsm,hsI⟩:=(HRC.out.later _ HBZ.out).1 m (srcs f m) (HRI.out m hmk);obtain rfl:=hRA;have hs2 : sm ≤ 2:=by rw [← hsm]; exact srcs_le f m
        have HSM:=hide hsm;by_cases hjl : j < sm
        ·have hj0 : (0 : Int) ≤ (j : Int):=by omega
         have hj1 : (j : Int) < (sm : Int):=by omega
         have hjs : j < (srcs f m).length:=by rw [hsm]; exact hjl
         obtain ⟨sb,so,hB,hsb,cs⟩:=ints_at hsI hjs;obtain rfl:=hB;obtain ⟨y,hy⟩ : ∃ y,(srcs f m)[j] = y:=⟨_,rfl⟩;rw [show (srcs f m).getD j 0 = y from by rw [List.getD_eq_getElem?_getD,List.getElem?_eq_getElem hjs,hy]; rfl] at cs;have HY:=hide hy;obtain ⟨st,hst⟩ : ∃ st,stepOf p.Order y = st:=⟨_,rfl⟩;have hsq:=stepOf_still (some ⟨ob,oo,none⟩) on oc p.Order y wr HON.out HOZ.out hol;rw [hst] at hsq;have HSQ:=hide hsq;have HST2:=hide hst
         have hbad : ¬ (0 ≤ st ∧ st < i) → ¬ InOrder f p:=fun h1=>HNO.out (fun h2=>h1 (by
          have h3:=h2.2.2 y (by rw [HV.out,Int.toNat_natCast,← HY.out]; exact List.getElem_mem hjs);rw [HST2.out] at h3
          exact h3))
         have HBAD:=hide hbad;clear hOz hsm hsI hy hsq hst hbad;by_cases hs0 : st < 0
         ·go_wp2_with fail
          go_quiet ((go_at_call 52; exact (unhide HSQ) _))
          go_wp2_with fail;go_ret;exact retTest_no (HBAD.out (by omega)) (HB.out.trans ((below_drewN (HB3.out.trans (HBZ.out.mono HB3.out.size)) _).mono HB.out.size))
         ·by_cases hs1 : (i : Int) ≤ st
          ·go_wp2_with fail
           go_quiet ((go_at_call 52; exact (unhide HSQ) _))
           go_wp2_with fail;go_ret;exact retTest_no (HBAD.out (by omega)) (HB.out.trans ((below_drewN (HB3.out.trans (HBZ.out.mono HB3.out.size)) _).mono HB.out.size))
          ·go_wp2_with fail
           go_quiet ((go_at_call 52; exact (unhide HSQ) _))
           go_wp2_with fail;all_goals try (exfalso; omega)
           go_roundw
           case rel =>
            refine ⟨j + 1,by have:=HSM.out; omega,by go_num,hide (fun u hu=>?_),hide (below_drewN HBZ.out _)⟩;rw [List.take_add_one,List.getElem?_eq_getElem hjs] at hu;rcases List.mem_append.1 hu with h | h
            ·exact HJ.out u h
            ·simp only [Option.toList_some,List.mem_singleton] at h
             rw [h,HY.out,HST2.out];omega
           case measure=>have:=HSM.out; simp [intOf]; omega
        ·have hje : j = sm:=by omega
         subst hje;clear hOz hsm hsI;go_wp2_with fail;go_roundw
         case rel =>
          refine ⟨i + 1,by omega,by go_num,hide (fun t ht=>?_),HBZ⟩;by_cases hti : t < i
          ·exact HST.out t hti
          ·obtain rfl : t = i:=by omega
           refine ⟨?_,?_,fun u hu=>?_⟩
           ·rw [HV.out,HFN.out]; omega
           ·rw [HV.out]; exact HSE.out
           ·rw [HV.out,Int.toNat_natCast] at hu
            exact HJ.out u (by rw [List.take_of_length_le (by rw [HSM.out]; exact Nat.le_refl _)]; exact hu)
         case measure=>simp [intOf]; omega
      ·have hsq:=stepOf_still (some ⟨ob,oo,none⟩) on oc p.Order (m : Int) wr HON.out HOR.out hol
       obtain ⟨st,hste⟩ : ∃ st,stepOf p.Order (m : Int) = st:=⟨_,rfl⟩;rw [hste] at hsq hst;have hb1 : (st == (i : Int)) = false:=by simpa using hst
       have HSQ:=hide hsq;have HSE:=hide hste;have HST2:=hide hst;clear hsq hst hin hste;go_wp2_with fail;go_quiet ((first | (go_at_call 32; exact (unhide HW) _) | (go_at_call 52; exact (unhide HSQ) _)))
       go_wp2_with fail;go_ret;exact retTest_no (HNO.out (fun h=>by have h2:=h.2.1; rw [HV.out,HSE.out] at h2; exact HST2.out h2)) (HB.out.trans ((below_drewN (HB3.out.trans (HBW.out.mono HB3.out.size)) _).mono HB.out.size))
     ·have HW:=hide (within_not hin wr)
      have HNI:=hide hin;clear hin;go_wp2_with fail;go_quiet ((go_at_call 32; exact (unhide HW) _))
      go_wp2_with fail;go_ret;exact retTest_no (HNO.out (fun h=>by have h2:=h.1; rw [HV.out,HFN.out] at h2; exact HNI.out h2)) (HB.out.trans ((below_drewN (HB3.out.trans (HBW.out.mono HB3.out.size)) _).mono HB.out.size))
    ·obtain rfl : i = on:=by omega
     go_wp2_with fail;go_loop [11,12] (fun s _=>∃ k : Nat,k ≤ qn ∧ s = .int .i64 k ∧ Hid (∀ t,t < k → PlaceOk f p t)) (fun s _=>qn - (intOf s).toNat)
     case atStart=>exact ⟨0,Nat.zero_le _,rfl,hide (fun t ht=>by omega)⟩
     case round =>
      obtain ⟨k,hk,rfl,HPO⟩:=hrel;obtain ⟨-,hQz,-,-⟩:=HK3.out.later _ HBW.out;by_cases hkl : k < qn
      ·have hk0 : (0 : Int) ≤ (k : Int):=by omega
       have hk1 : (k : Int) < (qn : Int):=by omega
       obtain ⟨pb,po,hQA,hpb,cp⟩:=ints_at hQz (k:=k) (by rw [HQN.out]; exact hkl);obtain rfl:=hQA;obtain ⟨v,hv⟩ : ∃ v,p.pl k = v:=⟨_,rfl⟩;rw [show p.Places.getD k 0 = p.pl k from rfl,hv] at cp;have hkk : k < (keptL f).length:=by rw [HKL.out]; exact hkl
       obtain ⟨kb,ko,hKA,hkb,ck⟩:=(HRC.out.later _ HBW.out).2 k (by rw [List.length_map]; exact hkk);obtain rfl:=hKA;obtain ⟨b,hb⟩ : ∃ b,(keptL f).getD k false = b:=⟨_,rfl⟩
       have ev : ((keptL f).map Value.bool).getD k undef = .bool b:=by
        rw [← hb,List.getD_eq_getElem?_getD,List.getElem?_map,List.getD_eq_getElem?_getD,List.getElem?_eq_getElem hkk];rfl
       rw [ev] at ck;obtain ⟨st,hst⟩ : ∃ st,stepOf p.Order (k : Int) = st:=⟨_,rfl⟩;have hsq:=stepOf_ref OA i oc p.Order (k : Int) wr HON.out HOR.out hol;rw [hst] at hsq;have HSQ:=hide hsq
       have hok2 : ((b = true → 0 ≤ st) ∧ (0 ≤ st → 0 ≤ v ∧ v ≤ 4096) ∧ (¬ 0 ≤ st → v = -1)) ↔ PlaceOk f p k:=by
        unfold PlaceOk;rw [hb,hst,hv]
       have HOK2:=hide hok2;have hno : ¬ PlaceOk f p k → ¬ InOrder f p:=fun h1 h2=>h1 (h2.pass k (by rw [HFN.out]; exact hkl));have HNO:=hide hno
       have hnx : PlaceOk f p k → ∀ t,t < k + 1 → PlaceOk f p t:=fun h1 t ht=>by
        by_cases htk : t < k
        ·exact HPO.out t htk
        ·obtain rfl : t = k:=by omega
         exact h1
       have HNX:=hide hnx;clear hQz hv hb ev hst hsq hok2 hno hnx;by_cases hs0 : 0 ≤ st
       ·by_cases hv1 : 0 ≤ v ∧ v ≤ 4096
        ·have hwi : inR v 0 4096 = true:=by unfold inR; simp; omega
         have hW:=within_any v 0 4096 wr;rw [hwi] at hW;have HW:=hide hW;have HGO:=hide (HNX.out (HOK2.out.1 ⟨fun _=>hs0,fun _=>hv1,fun h=>absurd hs0 h⟩));clear hwi hW hv1
         cases b with
         | true =>
           go_wp2_with (first | (go_at_call 52; refine (unhide HSQ).mono ?_; rintro e w5 ⟨rfl,rfl⟩) | (go_at_call 32; refine (unhide HW).mono ?_; rintro e w5 ⟨rfl,rfl⟩))
           go_round
           case rel=>exact ⟨k + 1,by omega,by go_num,HGO⟩
           case measure=>simp [intOf]; omega
         | false =>
           go_wp2_with (first | (go_at_call 52; refine (unhide HSQ).mono ?_; rintro e w5 ⟨rfl,rfl⟩) | (go_at_call 32; refine (unhide HW).mono ?_; rintro e w5 ⟨rfl,rfl⟩))
           go_round
           case rel=>exact ⟨k + 1,by omega,by go_num,HGO⟩
           case measure=>simp [intOf]; omega
        ·have hwi : inR v 0 4096 = false:=by
          cases hh : inR v 0 4096 with
          | false=>rfl
          | true=>unfold inR at hh; simp at hh; omega
         have hW:=within_any v 0 4096 wr;rw [hwi] at hW;have HW:=hide hW;have HBD:=hide (HNO.out (fun h=>hv1 ((HOK2.out.2 h).2.1 hs0)));clear hwi hW hv1
         cases b with
         | true =>
           go_wp2_with (first | (go_at_call 52; refine (unhide HSQ).mono ?_; rintro e w5 ⟨rfl,rfl⟩) | (go_at_call 32; refine (unhide HW).mono ?_; rintro e w5 ⟨rfl,rfl⟩))
           go_ret;exact retTest_no HBD.out (HB.out.trans ((HB3.out.trans (HBW.out.mono HB3.out.size)).mono HB.out.size))
         | false =>
           go_wp2_with (first | (go_at_call 52; refine (unhide HSQ).mono ?_; rintro e w5 ⟨rfl,rfl⟩) | (go_at_call 32; refine (unhide HW).mono ?_; rintro e w5 ⟨rfl,rfl⟩))
           go_ret;exact retTest_no HBD.out (HB.out.trans ((HB3.out.trans (HBW.out.mono HB3.out.size)).mono HB.out.size))
       ·cases b with
        | true =>
          have HBD:=hide (HNO.out (fun h=>hs0 ((HOK2.out.2 h).1 rfl)));go_wp2_with (go_at_call 52; refine (unhide HSQ).mono ?_; rintro e w5 ⟨rfl,rfl⟩)
          go_ret;exact retTest_no HBD.out (HB.out.trans ((HB3.out.trans (HBW.out.mono HB3.out.size)).mono HB.out.size))
        | false =>
          by_cases hv1 : v = -1
          ·have HGO:=hide (HNX.out (HOK2.out.1 ⟨(fun h=>by cases h),fun h=>absurd h hs0,fun _=>hv1⟩))
           have hb1 : (v == -1) = true:=by simpa using hv1
           clear hv1;go_wp2_with (go_at_call 52; refine (unhide HSQ).mono ?_; rintro e w5 ⟨rfl,rfl⟩)
           go_round
           case rel=>exact ⟨k + 1,by omega,by go_num,HGO⟩
           case measure=>simp [intOf]; omega
          ·have HBD:=hide (HNO.out (fun h=>hv1 ((HOK2.out.2 h).2.2 hs0)))
           have hb1 : (v == -1) = false:=by simpa using hv1
           go_wp2_with (go_at_call 52; refine (unhide HSQ).mono ?_; rintro e w5 ⟨rfl,rfl⟩)
           all_goals try (exfalso; omega)
           go_ret;exact retTest_no HBD.out (HB.out.trans ((HB3.out.trans (HBW.out.mono HB3.out.size)).mono HB.out.size))
      ·obtain rfl : k = qn:=by omega
       go_wp2_with fail;go_ret;exact retTest_yes ⟨by rw [HQN.out,HFN.out],by rw [HON.out,HFN.out]; exact hle,fun t ht=>HST.out t (by rw [HON.out] at ht; exact ht),fun t ht=>HPO.out t (by rw [HFN.out] at ht; exact ht)⟩ (HB.out.trans ((HB3.out.trans (HBW.out.mono HB3.out.size)).mono HB.out.size))
  ·have hn1 : (n : Int) < (on : Int):=by omega
   subst hq;go_enter Tryz.func33,Tryz.ntmps33
   go_wp2_with fail;go_ret;exact retTest_no (fun h=>by have h1:=h.len; rw [HON.out,HFN.out] at h1; omega) HB.out
 ·have hn1 : ¬ ((qn : Int) = (n : Int)):=by omega
  have hn2 : ((qn : Int) == (n : Int)) = false:=by simpa using hn1
  go_enter Tryz.func33,Tryz.ntmps33
  go_wp2_with fail;go_ret;exact retTest_no (fun h=>by have h1:=h.places; rw [HQN.out,HFN.out] at h1; omega) HB.out
end Go.Proofs.YtibpmogmeoappabGreat
namespace Go.Proofs.YtibpmogmeoappabGreat
open Go.RowKit
def RetSpns (w : World) (L : List Spn) (e : Ending) (w' : World) : Prop :=
 ∃ (A : Option Addr) (n c : Nat),e = .returned (.slice A n c) ∧ L.length = n ∧ Spns w' A L ∧ Below w.heap.size w w'
theorem plan_box {w : World} {OA QA : Option Addr} {on oc qn qc : Nat} {g : Nat} (h : Blk w g 27 [.slice OA on oc,.slice QA qn qc]) : g < w.heap.size ∧ w.cell? ⟨g,0,none⟩ = some (.slice OA on oc) ∧ w.cell? ⟨g,1,none⟩ = some (.slice QA qn qc):=⟨h.lt,(h.cell 0).trans rfl,(h.cell 1).trans rfl⟩
theorem own_other {w : World} {base : Nat} {e : TypeId} {size : Nat} {A : Option Addr} {n c : Nat} {cs : List Value} (h : Own w base e size A n c cs) {p : Addr} (hne : ∀ q,(Value.slice A n c).ownBlock = some q → q ≠ p.block) (u : Value) : Own (w.setCell p u) base e size A n c cs:=by
 refine World.ownsRow.kept h (row:=some p.block) (grown_put w p u) ?_
 cases hx : (Value.slice A n c).ownBlock with
 | none=>exact .inl rfl
 | some k=>exact .inr (fun e=>hne k hx (by injection e))
theorem spansOf_ord (W H S O : Int) (PA : Option Addr) (n c : Nat) (ps : List Pas) (OA : Option Addr) (on oc : Nat) (QA : Option Addr) (qn qc : Nat) (p : Pln) (w : World) (hn : ps.length = n) (hP : Passes w PA ps)
 (hO : Ints w OA p.Order) (hon : p.Order.length = on) (hol : on ≤ 9223372036854775807) (hok : FrmOk ⟨W,H,S,O,ps⟩) (hot : OrdTo ⟨W,H,S,O,ps⟩ p p.Order.length) (hle0 : p.Order.length ≤ ps.length) :
 Calls Tryz.prog 53 #[.agg #[.int .i64 W,.int .i64 H,.int .i64 S,.int .i64 O,.slice PA n c],.agg #[.slice OA on oc,.slice QA qn qc]] w (RetSpns w (spansTo ⟨W,H,S,O,ps⟩ p n)):=by
 have hb:=((Below.refl w.heap.size w).alloc (Nat.le_refl _) (.cells #[.int .i64 W,.int .i64 H,.int .i64 S,.int .i64 O,.slice PA n c] 24)).alloc (by simp) (.cells #[.slice OA on oc,.slice QA qn qc] 27);have hbx:=(show FrmBox (w.alloc (.cells #[.int .i64 W,.int .i64 H,.int .i64 S,.int .i64 O,.slice PA n c] 24)) w.heap.size W H S O PA n c from Blk.new w 24 (frmCells W H S O PA n c)).alloc (.cells #[.slice OA on oc,.slice QA qn qc] 27);have hpx : Blk ((w.alloc (.cells #[.int .i64 W,.int .i64 H,.int .i64 S,.int .i64 O,.slice PA n c] 24)).alloc (.cells #[.slice OA on oc,.slice QA qn qc] 27)) (w.heap.size + 1) 27 [.slice OA on oc,.slice QA qn qc]:=Blk.newE (by simp);have h12:=hok.many;have hSO:=fun (W0 : World) (h1 : Passes W0 PA ps)=>sourcesOf_ref W H S O PA n c ps W0 hn h1 (by have:=hok.many.2; simp only at this; omega);have hLA:=fun (W0 : World) (h1 : Passes W0 PA ps)=>lastOf_ref W H S O PA n c ps W0 hn h1 (by have:=hok.many.2; simp only at this; omega);have HP:=hide (Keeps.passes (hP.keep hb));have hio:=hO.keep hb;obtain ⟨f,hf⟩ : ∃ f : Frm,f = ⟨W,H,S,O,ps⟩:=⟨_,rfl⟩;have HFN:=hide (show f.P.length = n from by rw [hf]; exact hn);rw [← hf] at hok hot hSO hLA h12 ⊢;rw [HFN.out] at h12;obtain ⟨w1,hw1⟩ : ∃ w1,(w.alloc (.cells #[.int .i64 W,.int .i64 H,.int .i64 S,.int .i64 O,.slice PA n c] 24)).alloc (.cells #[.slice OA on oc,.slice QA qn qc] 27) = w1:=⟨_,rfl⟩;rw [hw1] at hb hbx hpx HP hio;have HB:=hide hb;have HBX:=hide (Keeps.blk hbx);have HPX:=hide (Keeps.blk hpx);have HIO:=hide (Keeps.ints hio);have HSO:=hide hSO;have HLA:=hide hLA;have HOK:=hide hok;have HON:=hide hon;have HOT:=hide hot;have hle:=hle0;rw [hon,hn] at hle;obtain ⟨x,q0,q1,q2,q3,q4⟩:=FrmBox.cells (show FrmBox _ _ W H S O PA n c from hbx);obtain ⟨y,r0,r1⟩:=plan_box hpx;obtain ⟨i0,hi0,hz0,hz1,hz2⟩:=info_parts Tryz.infoSpn;clear hn hP hO hbx hpx hb hio hSO hLA hok hf hon hot hle0;go_enter Tryz.func53,Tryz.ntmps53
 go_wp2_with fail;refine ((unhide HSO) _ HP.out.now).mono ?_;rintro e w2 ⟨RA,rn,rc,rfl,hrn,hRI,hE2⟩;obtain rfl : n = rn:=by rw [← hrn]; simp [srcsTo]
 have hri : ∀ m,m < n → (srcsTo f n)[m]? = some (srcs f m):=fun m hm=>by unfold srcsTo; rw [List.getElem?_map,List.getElem?_range hm]; rfl
 have HRI:=hide hri;have HB2:=hide (HB.out.trans (hE2.mono HB.out.size));have HBX2:=hide (HBX.out.move hE2);have HPX2:=hide (HPX.out.move hE2);have HIO2:=hide (HIO.out.move hE2);have HP2:=hide (HP.out.move hE2);have HR2:=hide (Keeps.intRows hRI);clear hw1 hE2 hRI hrn hri x q0 q1 q2 q3 q4 y r0 r1 HB HBX HPX HIO HP HSO;go_wp2_with fail;go_loopw [6,7,8,9] (fun a s _ _ wr=>∃ (k : Nat) (A : Option Addr) (d : Nat),k ≤ n ∧ s = .int .i64 k ∧ a = .slice A k d ∧ Hid (Own wr w2.heap.size 109 2 A k d ((spansTo f p k).flatMap spnCells)) ∧ Hid (Below w2.heap.size w2 wr)) (fun _ s _ _ _=>n - (intOf s).toNat)
 case atStart=>exact ⟨0,none,0,Nat.zero_le _,rfl,rfl,hide (Own.nil _ _ _ _),hide (Below.refl _ _)⟩
 case round =>
  obtain ⟨k,A,d,hk,rfl,rfl,HOW,HBW⟩:=hrel;obtain ⟨x,q0,q1,q2,q3,q4⟩:=FrmBox.cells (show FrmBox _ _ W H S O PA n c from HBX2.out.later _ HBW.out);obtain ⟨y,r0,r1⟩:=plan_box (HPX2.out.later _ HBW.out);by_cases hlt : k < n
  ·have hk0 : (0 : Int) ≤ (k : Int):=by omega
   have hk1 : (k : Int) < (n : Int):=by omega
   obtain ⟨st,hst⟩ : ∃ st,stepOf p.Order (k : Int) = st:=⟨_,rfl⟩;have HSE:=hide hst;have hKS : Keeps wr (fun w'=>w'.cell? ⟨w.heap.size + 1,0,none⟩ = some (.slice OA on oc) ∧ Ints w' OA p.Order):=⟨⟨r0,HIO2.out.later _ HBW.out⟩,fun _ hb=>⟨keepC hb r0,(HIO2.out.later _ HBW.out).keep hb⟩⟩;have HKS:=hide hKS
   have HSQ:=hide (show ∀ W0 : World,Below wr.heap.size wr W0 → Calls Tryz.prog 52 #[.slice OA on oc,.int .i64 (k : Int)] W0 fun e w'=>e = .returned (.int .i64 st) ∧ W0 = w' from fun W0 hb=>by
    have h:=stepOf_ref OA on oc p.Order (k : Int) W0 HON.out (hKS.later _ hb).2 hol;rw [hst] at h
    exact h)
   clear hst hKS;go_upto_region 6 with fail
   go_cut [8] (fun s8 wx=>∃ gx : Nat,s8 = .pointer (some ⟨gx,0,none⟩) ∧ wr.heap.size ≤ gx ∧ Hid (Blk wx gx 109 [.int .i64 st,.int .i64 st]) ∧ Hid (Below wr.heap.size wr wx))
   case first =>
    go_region_held3 (fun w'=>w'.cell? ⟨w.heap.size + 1,0,none⟩ = some (.slice OA on oc))
     (exact (HKS.out.later _ (by repeat (first | exact Below.refl _ _ | exact (Below.refl _ _).drew | with_reducible (refine Below.drew ?_) | with_reducible (refine Below.alloc ?_ (by simp) _) | with_reducible (refine Below.setCell ?_ (by simp) _)))).1)
     (first | (go_simp; go_at_call 52; refine ((unhide HSQ) _ (by repeat (first | exact Below.refl _ _ | exact (Below.refl _ _).drew | with_reducible (refine Below.drew ?_) | with_reducible (refine Below.alloc ?_ (by simp) _) | with_reducible (refine Below.setCell ?_ (by simp) _)))).mono ?_; rintro e w5 ⟨rfl,rfl⟩))
    all_goals (go_wp2_with fail; go_meet; exact ⟨wr.heap.size,rfl,Nat.le_refl _,hide (Blk.new wr 109 [.int .i64 st,.int .i64 st]).drew,hide ((Below.refl _ _).alloc (Nat.le_refl _) _).drew⟩)
   case rest =>
    obtain ⟨gx,rfl,hgx,HXB,HWC⟩:=hcut;have HGX:=hide (show w2.heap.size ≤ gx from Nat.le_trans HBW.out.size hgx);have HGO:=hide (show ∀ q,(Value.slice A k d).ownBlock = some q → q ≠ gx from fun q hq=>by have:=(HOW.out.lt hq).2; omega);clear x q0 q1 q2 q3 q4 y r0 r1;go_wp2_with fail;go_loopw [9] (fun s wz=>∃ i : Nat,i ≤ on ∧ s = .int .i64 i ∧ Hid (Blk wz gx 109 [.int .i64 st,.int .i64 (lastUse f p (k : Int) i)]) ∧ Hid (Below wr.heap.size wr wz)) (fun s _=>on - (intOf s).toNat)
    case atStart=>exact ⟨0,Nat.zero_le _,rfl,hide (by rw [show lastUse f p (k : Int) 0 = stepOf p.Order (k : Int) from rfl,HSE.out]; exact HXB.out),HWC⟩
    case round =>
     obtain ⟨i,hi,rfl,HXI,HBI⟩:=hrel;have hBz:=HBW.out.trans (HBI.out.mono HBW.out.size);obtain ⟨y,r0,r1⟩:=plan_box (HPX2.out.later _ hBz);have HBZ:=hide hBz;by_cases hil : i < on
     ·have hi0' : (0 : Int) ≤ (i : Int):=by omega
      have hi1' : (i : Int) < (on : Int):=by omega
      obtain ⟨ob,oo,hOA,hob,co⟩:=ints_at (HIO2.out.later _ hBz) (k:=i) (by rw [HON.out]; exact hil);obtain rfl:=hOA;have hrg:=HOT.out.rng i (by rw [HON.out]; exact hil);obtain ⟨m,hm⟩ : ∃ m : Nat,p.ord i = (m : Int):=⟨(p.ord i).toNat,by omega⟩;rw [show p.Order.getD i 0 = p.ord i from rfl,hm] at co;rw [hm] at hrg;have HMI:=hide hm;have hm0 : (0 : Int) ≤ (m : Int):=by omega
      have hmk : m < n:=by have:=HFN.out; omega
      have hm1 : (m : Int) < (n : Int):=by omega
      obtain ⟨rb,ro,B,sm,sd,hRA,hrb,cr,hsm,hsI⟩:=(HR2.out.later _ hBz) m (srcs f m) (HRI.out m hmk);obtain rfl:=hRA;have hs2 : sm ≤ 2:=by rw [← hsm]; exact srcs_le f m
      obtain ⟨sv,hsv⟩ : ∃ sv,stepOf (srcs f m) (k : Int) = sv:=⟨_,rfl⟩;have hsq:=stepOf_ref B sm sd (srcs f m) (k : Int) _ hsm hsI (by omega);rw [hsv] at hsq;have HSQ:=hide hsq;have hx1:=HXI.out.cell 1;have hx2:=HXI.out.frozen 1;have hx3:=HXI.out.lt;by_cases hin : (k : Int) ∈ srcs f m
      ·have hs0 : 0 ≤ sv:=by rw [← hsv]; exact stepOf_mem.2 hin
       have HLU:=hide (show lastUse f p (k : Int) (i + 1) = (i : Int) from by simp only [lastUse]; rw [HMI.out,Int.toNat_natCast,if_pos hin]);have HXN:=hide (HXI.out.set_ 1 (.int .i64 (i : Int)));clear hm hrg hsm hsI hsv hsq hBz hin;go_wp2_with (go_at_call 52; refine (unhide HSQ).mono ?_; rintro e w5 ⟨rfl,rfl⟩)
       go_roundw
       case rel=>exact ⟨i + 1,by omega,by go_num,hide (by rw [HLU.out]; exact HXN.out),hide (HBI.out.setCell (p:=⟨gx,1,none⟩) hgx _)⟩
       case measure=>simp [intOf]; omega
      ·have hs0 : ¬ 0 ≤ sv:=by rw [← hsv]; exact fun h=>hin (stepOf_mem.1 h)
       have HLU:=hide (show lastUse f p (k : Int) (i + 1) = lastUse f p (k : Int) i from by simp only [lastUse]; rw [HMI.out,Int.toNat_natCast,if_neg hin]);clear hm hrg hsm hsI hsv hsq hBz hin;go_wp2_with (go_at_call 52; refine (unhide HSQ).mono ?_; rintro e w5 ⟨rfl,rfl⟩)
       go_roundw
       case rel=>exact ⟨i + 1,by omega,by go_num,hide (by rw [HLU.out]; exact HXI.out),HBI⟩
       case measure=>simp [intOf]; omega
     ·obtain rfl : i = on:=by omega
      obtain ⟨x,q0,q1,q2,q3,q4⟩:=FrmBox.cells (show FrmBox _ _ W H S O PA n c from HBX2.out.later _ hBz);have hOz:=HOW.out.keep HBI.out;have HOZ:=hide hOz;have HLC:=hide ((unhide HLA) _ (HP2.out.later _ hBz));clear hBz hOz;go_wp2_with fail;refine (unhide HLC).mono ?_;rintro e w6 ⟨rfl,hE6⟩;have HB6:=hide (HBZ.out.trans (hE6.mono HBZ.out.size));have HO6:=hide (HOZ.out.keep hE6);have HX6:=hide (HXI.out.keep hE6);obtain ⟨y',r0',r1'⟩:=plan_box (HPX2.out.later _ HB6.out);have x1:=HX6.out.cell 1;have x2:=HX6.out.frozen 1;have x3:=HX6.out.lt;have hwr : IntKind.i64.wrap ((i : Int) - 1) = (i : Int) - 1:=IntWalk.i64_in _ (by omega);obtain ⟨lu,hlu⟩ : ∃ lu,lastUse f p (k : Int) i = lu:=⟨_,rfl⟩;rw [hlu] at HX6 x1;have HLU:=hide hlu;obtain ⟨la,hla⟩ : ∃ la,frLast f = la:=⟨_,rfl⟩;rw [hla];have HLAE:=hide hla;clear hlu hla hE6 x q0 q1 q2 q3 q4 y r0 r1 HLC;by_cases hl : (k : Int) = la
      ·have HLE:=hide (show (k : Int) = frLast f from by rw [HLAE.out]; exact hl)
       have hl1 : ((k : Int) == la) = true:=by simpa using hl
       clear hl;have hB7 : Below w2.heap.size w2 (w6.setCell ⟨gx,1,none⟩ (.int .i64 ((i : Int) - 1))):=(HB6.out.setCell (p:=⟨gx,1,none⟩) HGX.out _);have hO7 : Own (w6.setCell ⟨gx,1,none⟩ (.int .i64 ((i : Int) - 1))) w2.heap.size 109 2 A k d ((spansTo f p k).flatMap spnCells):=own_other HO6.out (p:=⟨gx,1,none⟩) HGO.out _;have HO7:=hide hO7;have HB7:=hide hB7;have hX7:=HX6.out.set_ 1 (.int .i64 ((i : Int) - 1));have e0 : (w6.setCell ⟨gx,1,none⟩ (.int .i64 ((i : Int) - 1))).cell? ⟨gx,0,none⟩ = some (.int .i64 st):=(hX7.cell 0).trans rfl;have e1 : (w6.setCell ⟨gx,1,none⟩ (.int .i64 ((i : Int) - 1))).cell? ⟨gx,1,none⟩ = some (.int .i64 ((i : Int) - 1)):=(hX7.cell 1).trans rfl;have e2:=hX7.lt;have hb7:=hB7.size;clear hB7 hO7 hX7;go_wp2_with (at_builtin; go_loud (refine wpList_app1A (w6.setCell ⟨gx,1,none⟩ (.int .i64 ((i : Int) - 1))) w6.heap.size (by simp [World.setCell]) rfl _ _ 105 rfl w2.heap.size 109 i0 _ 2 16 Tryz.underlying105 hi0 hz0 hz1 hz2 rfl (by omega) A k d _ [.int .i64 st,.int .i64 ((i : Int) - 1)] rfl HO7.out rfl rfl (by intro u hu; simp at hu; rcases hu with rfl | rfl <;> rfl) (by omega) (by omega) hb7 ?_; intro A9 c9 w9 hown9 hg9 hat9))
       have HO9:=hide hown9;have HB9:=hide (Below.grownOwn (HB7.out.alloc HB7.out.size (.cells #[.int .i64 st,.int .i64 ((i : Int) - 1)] 109)) (HO7.out.alloc _) hg9 (by have:=HB7.out.size; simp only [World.size_alloc]; omega) (Nat.le_refl _));clear hown9 hg9 hat9;refine ⟨⟨k + 1,A9,c9,by omega,by simp,rfl,hide ?_,HB9⟩,by simp [intOf]; omega⟩;rw [spansTo_succ,List.flatMap_append]
       have hsp : [spanOf f p k].flatMap spnCells = [.int .i64 st,.int .i64 ((i : Int) - 1)]:=by
        simp only [List.flatMap_cons,List.flatMap_nil,List.append_nil,spnCells,spanOf];rw [if_pos HLE.out,HSE.out,HON.out]
       rw [hsp];exact HO9.out
      ·have HLE:=hide (show ¬ (k : Int) = frLast f from by rw [HLAE.out]; exact hl)
       have hl1 : ((k : Int) == la) = false:=by simpa using hl
       have hB7 : Below w2.heap.size w2 w6:=HB6.out;have hO7 : Own w6 w2.heap.size 109 2 A k d ((spansTo f p k).flatMap spnCells):=HO6.out;have HO7:=hide hO7;have HB7:=hide hB7;have hX7:=HX6.out;have e0 : (w6).cell? ⟨gx,0,none⟩ = some (.int .i64 st):=(hX7.cell 0).trans rfl;have e1 : (w6).cell? ⟨gx,1,none⟩ = some (.int .i64 lu):=(hX7.cell 1).trans rfl;have e2:=hX7.lt;have hb7:=hB7.size;clear hB7 hO7 hX7;go_wp2_with (at_builtin; go_loud (refine wpList_app1A (w6) w6.heap.size (rfl) rfl _ _ 105 rfl w2.heap.size 109 i0 _ 2 16 Tryz.underlying105 hi0 hz0 hz1 hz2 rfl (by omega) A k d _ [.int .i64 st,.int .i64 lu] rfl HO7.out rfl rfl (by intro u hu; simp at hu; rcases hu with rfl | rfl <;> rfl) (by omega) (by omega) hb7 ?_; intro A9 c9 w9 hown9 hg9 hat9))
       have HO9:=hide hown9;have HB9:=hide (Below.grownOwn (HB7.out.alloc HB7.out.size (.cells #[.int .i64 st,.int .i64 lu] 109)) (HO7.out.alloc _) hg9 (by have:=HB7.out.size; simp only [World.size_alloc]; omega) (Nat.le_refl _));clear hown9 hg9 hat9;refine ⟨⟨k + 1,A9,c9,by omega,by simp,rfl,hide ?_,HB9⟩,by simp [intOf]; omega⟩;rw [spansTo_succ,List.flatMap_append]
       have hsp : [spanOf f p k].flatMap spnCells = [.int .i64 st,.int .i64 lu]:=by
        simp only [List.flatMap_cons,List.flatMap_nil,List.append_nil,spnCells,spanOf];rw [if_neg HLE.out,HSE.out,HON.out,HLU.out]
       rw [hsp];exact HO9.out
  ·obtain rfl : k = n:=by omega
   go_wp2_with fail;go_ret;exact ⟨A,k,d,rfl,by simp [spansTo],HOW.out.cells,HB2.out.trans (HBW.out.mono HB2.out.size)⟩
theorem spansOf_ref (W H S O : Int) (PA : Option Addr) (n c : Nat) (ps : List Pas) (OA : Option Addr) (on oc : Nat) (QA : Option Addr) (qn qc : Nat) (p : Pln) (w : World) (hn : ps.length = n) (hP : Passes w PA ps)
 (hO : Ints w OA p.Order) (hon : p.Order.length = on) (hol : on ≤ 9223372036854775807) (hok : FrmOk ⟨W,H,S,O,ps⟩) (hin : InOrder ⟨W,H,S,O,ps⟩ p) :
 Calls Tryz.prog 53 #[.agg #[.int .i64 W,.int .i64 H,.int .i64 S,.int .i64 O,.slice PA n c],.agg #[.slice OA on oc,.slice QA qn qc]] w (RetSpns w (spansTo ⟨W,H,S,O,ps⟩ p n)) :=
 spansOf_ord W H S O PA n c ps OA on oc QA qn qc p w hn hP hO hon hol hok (ordTo_of hin) hin.len
end Go.Proofs.YtibpmogmeoappabGreat
namespace Go.Proofs.YtibpmogmeoappabGreat
open Go.RowKit
theorem area_is {W H a : Int} (ha : W * H = a) (hb : 0 ≤ a ∧ a ≤ 256) (w : World) : Calls Tryz.prog 39 #[.agg #[.int .i64 W,.int .i64 H]] w fun e w'=>e = .returned (.int .i64 a) ∧ Below w.heap.size w w':=by
 subst ha;exact area_ref W H w hb
theorem meet_is {a b : Spn} {v : Bool} (h : meetB a b = v) (w : World) : Calls Tryz.prog 54 #[.agg #[.int .i64 a.First,.int .i64 a.Last],.agg #[.int .i64 b.First,.int .i64 b.Last]] w fun e w'=>e = .returned (.bool v) ∧ Below w.heap.size w w':=by
 subst h;exact meet_ref a b w
theorem size_cells {w : World} {A : Option Addr} {f : Frm} (hok : FrmOk f) (h : Sizes w A (frSizes f)) {k : Nat} (hk : k < f.P.length) : ∃ b o,A = some ⟨b,o,none⟩ ∧ b < w.heap.size ∧ w.cell? ⟨b,o + k * 2,none⟩ = some (.int .i64 (frSize f k).W) ∧ w.cell? ⟨b,o + k * 2 + 1,none⟩ = some (.int .i64 (frSize f k).H):=by
 obtain ⟨b,o,e,h1,h2,h3⟩:=Sizes.at_ h (i:=k) (by rw [sizes_len hok]; exact hk);rw [size_at hok hk] at h2 h3;exact ⟨b,o,e,h1,h2,h3⟩
theorem place_of {f : Frm} {p : Pln} (h : InOrder f p) {k : Nat} (hk : k < f.P.length) : p.pl k = -1 ∨ (0 ≤ p.pl k ∧ p.pl k ≤ 4096):=by
 have hd:=h.pass k hk;by_cases hs : 0 ≤ stepOf p.Order (k : Int)
 ·exact .inr (hd.2.1 hs)
 ·exact .inl (hd.2.2 hs)
end Go.Proofs.YtibpmogmeoappabGreat
