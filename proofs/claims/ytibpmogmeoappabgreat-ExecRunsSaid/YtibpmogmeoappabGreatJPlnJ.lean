/- A region that draws its order, walked once, in the order of the text: each operation yields one value in every world of a class. -/
import Derived.Deep.QuietTactic
import Derived.Test.YtibpmogmeoappabGreatJPlnH
set_option maxRecDepth 100000
set_option maxHeartbeats 8000000
namespace Go.Proofs.YtibpmogmeoappabGreat
structure CalmAt (P : Program) (ops : Array Oper) (C : World → Prop) (Q : Act → Prop) (l : List Oper) (a : Act) : Prop where
 out : wpQuiet P ops C Q l a
section
variable {P : Program} {ops : Array Oper} {C : World → Prop} {Q : Act → Prop} {o : Oper} {rest : List Oper} {a : Act}
theorem calm_one (h : ∀ K : Act → Prop,(∀ a,CalmAt P ops C Q rest a → K a) → Region.wanted o (yielded ops a.tmps) = true ∧ ∃ v,(∀ w,C w → o.quietAt P a C w v) ∧ K (a.put o.dst v)) : CalmAt P ops C Q (o :: rest) a:=by
 refine ⟨wpQuiet_step fun K hK=>?_⟩;obtain ⟨h1,v,h2,h3⟩:=h K (fun a h=>hK a h.out);rw [if_pos h1];exact ⟨v,h2,h3⟩
theorem calm_not (h : ∀ K : Act → Prop,(∀ a,CalmAt P ops C Q rest a → K a) → Region.wanted o (yielded ops a.tmps) = false ∧ K (a.put o.dst undef)) : CalmAt P ops C Q (o :: rest) a:=by
 refine ⟨wpQuiet_step fun K hK=>?_⟩;obtain ⟨h1,h2⟩:=h K (fun a h=>hK a h.out);rw [if_neg (by rw [h1]; simp)];exact h2
theorem calm_nil (h : Q a) : CalmAt P ops C Q [] a:=⟨wpQuiet_nil h⟩
theorem calm_region {id : Nat} {l : List Oper} {Q : Exit → Act → World → Prop} {w : World} (C : World → Prop) (hm : P.follows .mixedOrders = true) (hB : Region.lexB .any l.toArray = true) (hC : C w.drew)
 (h : CalmAt P l.toArray C (fun a'=>∀ w',C w' → Q .normal a' w') l a) : (Code.region id l.toArray true).wp P Q a w :=
 wp_region_quiet hm hB hC (by simpa using h.out)
end
end Go.Proofs.YtibpmogmeoappabGreat
namespace Go.Proofs.YtibpmogmeoappabGreat
open Go.RowKit
theorem fits_ref (W H S O : Int) (PA : Option Addr) (n c : Nat) (ps : List Pas) (OA : Option Addr) (on oc : Nat) (QA : Option Addr) (qn qc : Nat) (p : Pln) (room : Int) (w : World) (hn : ps.length = n) (hP : Passes w PA ps)
 (hO : Ints w OA p.Order) (hon : p.Order.length = on) (hol : on ≤ 9223372036854775807) (hQ : Ints w QA p.Places) (hqn : p.Places.length = qn) (hok : FrmOk ⟨W,H,S,O,ps⟩) (hin : InOrder ⟨W,H,S,O,ps⟩ p) (hr : 0 ≤ room ∧ room ≤ 4096) :
 Calls Tryz.prog 34 #[.agg #[.int .i64 W,.int .i64 H,.int .i64 S,.int .i64 O,.slice PA n c],.agg #[.slice OA on oc,.slice QA qn qc],.int .i64 room] w (RetTest w (Fits ⟨W,H,S,O,ps⟩ p room)):=by
 have hb:=((Below.refl w.heap.size w).alloc (Nat.le_refl _) (.cells #[.int .i64 W,.int .i64 H,.int .i64 S,.int .i64 O,.slice PA n c] 24)).alloc (by simp) (.cells #[.slice OA on oc,.slice QA qn qc] 27);have hbx:=(show FrmBox (w.alloc (.cells #[.int .i64 W,.int .i64 H,.int .i64 S,.int .i64 O,.slice PA n c] 24)) w.heap.size W H S O PA n c from Blk.new w 24 (frmCells W H S O PA n c)).alloc (.cells #[.slice OA on oc,.slice QA qn qc] 27);have hpx : Blk ((w.alloc (.cells #[.int .i64 W,.int .i64 H,.int .i64 S,.int .i64 O,.slice PA n c] 24)).alloc (.cells #[.slice OA on oc,.slice QA qn qc] 27)) (w.heap.size + 1) 27 [.slice OA on oc,.slice QA qn qc]:=Blk.newE (by simp);have h12:=hok.many;have hpl:=hin.places;have hle:=hin.len;have hCF:=fun (W0 : World) (h1 : Passes W0 PA ps)=>checkFrame_ref W H S O PA n c ps W0 hn h1 (by have:=hok.many.2; simp only at this; omega);have hSP:=fun (W0 : World) (h1 : Passes W0 PA ps) (h2 : Ints W0 OA p.Order)=>spansOf_ref W H S O PA n c ps OA on oc QA qn qc p W0 hn h1 h2 hon hol hok hin;have HP:=hide (Keeps.passes (hP.keep hb));have hio:=hO.keep hb;have hiq:=hQ.keep hb;obtain ⟨f,hf⟩ : ∃ f : Frm,f = ⟨W,H,S,O,ps⟩:=⟨_,rfl⟩;have HFN:=hide (show f.P.length = n from by rw [hf]; exact hn);rw [← hf] at hok hin hCF hSP h12 hpl hle ⊢;rw [HFN.out] at h12 hpl hle;rw [hon] at hle;rw [hqn] at hpl;obtain rfl : n = qn:=hpl.symm;rw [frErr_zero.2 hok] at hCF;obtain ⟨w1,hw1⟩ : ∃ w1,(w.alloc (.cells #[.int .i64 W,.int .i64 H,.int .i64 S,.int .i64 O,.slice PA n c] 24)).alloc (.cells #[.slice OA on oc,.slice QA n qc] 27) = w1:=⟨_,rfl⟩;rw [hw1] at hb hbx hpx HP hio hiq;have HB:=hide hb;have HBX:=hide (Keeps.blk hbx);have HPX:=hide (Keeps.blk hpx);have HIO:=hide (Keeps.ints hio);have HIQ:=hide (Keeps.ints hiq);have HCF:=hide hCF;have HSP:=hide hSP;have HOK:=hide hok;have HIN:=hide hin;have HON:=hide hon;have HQN:=hide hqn;obtain ⟨x,q0,q1,q2,q3,q4⟩:=FrmBox.cells (show FrmBox _ _ W H S O PA n c from hbx);obtain ⟨y,r0,r1⟩:=plan_box hpx;clear hn hP hO hQ hbx hpx hb hio hiq hCF hSP hok hf hon hqn hin hpl;go_enter Tryz.func34,Tryz.ntmps34
 go_wp2_with fail;refine ((unhide HCF) _ HP.out.now).mono ?_;rintro e w2 ⟨ZA,zn,zc,rfl,hzn,hZ,hE2⟩;obtain rfl : n = zn:=by rw [← hzn,sizes_len HOK.out]; exact HFN.out.symm
 have HB2:=hide (HB.out.trans (hE2.mono HB.out.size));have HBX2:=hide (HBX.out.move hE2);have HPX2:=hide (HPX.out.move hE2);have HIO2:=hide (HIO.out.move hE2);have HIQ2:=hide (HIQ.out.move hE2);have HP2:=hide (HP.out.move hE2);have HZ2:=hide (show Keeps w2 (fun W'=>Sizes W' ZA (frSizes f)) from ⟨hZ,fun _ hb=>Cells.keep hZ hb⟩);clear hw1 hE2 hZ hzn x q0 q1 q2 q3 q4 y r0 r1 HB HBX HPX HIO HIQ HP HCF;obtain ⟨x,q0,q1,q2,q3,q4⟩:=FrmBox.cells (show FrmBox _ _ W H S O PA n c from HBX2.out.now);obtain ⟨y,r0,r1⟩:=plan_box HPX2.out.now;go_wp2_with fail;refine ((unhide HSP) _ HP2.out.now HIO2.out.now).mono ?_;rintro e w3 ⟨XA,xn,xc,rfl,hxn,hX,hE3⟩;obtain rfl : n = xn:=by rw [← hxn]; simp [spansTo]
 have HB3:=hide (HB2.out.trans (hE3.mono HB2.out.size));have HPX3:=hide (HPX2.out.move hE3);have HIO3:=hide (HIO2.out.move hE3);have HIQ3:=hide (HIQ2.out.move hE3);have HZ3:=hide (HZ2.out.move hE3);have HX3:=hide (show Keeps w3 (fun W'=>Spns W' XA (spansTo f p n)) from ⟨hX,fun _ hb=>Cells.keep hX hb⟩);clear hE3 hX hxn x q0 q1 q2 q3 q4 y r0 r1 HB2 HPX2 HIO2 HIQ2 HZ2 HP2 HBX2 HSP;go_wp2_with fail;go_loopw [10,11] (fun s _ wr=>∃ k : Nat,k ≤ n ∧ s = .int .i64 k ∧ Hid (∀ t,t < k → FitAt f p room t) ∧ Hid (Below w3.heap.size w3 wr)) (fun s _ _=>n - (intOf s).toNat)
 case atStart=>exact ⟨0,Nat.zero_le _,rfl,hide (fun t ht=>by omega),hide (Below.refl _ _)⟩
 case round =>
  obtain ⟨k,hk,rfl,HFT,HBW⟩:=hrel;obtain ⟨y,r0,r1⟩:=plan_box (HPX3.out.later _ HBW.out);by_cases hlt : k < n
  ·have hk0 : (0 : Int) ≤ (k : Int):=by omega
   have hk1 : (k : Int) < (n : Int):=by omega
   have hkf : k < f.P.length:=by rw [HFN.out]; exact hlt
   obtain ⟨pb,po,hQA,hpb,cp⟩:=ints_at (HIQ3.out.later _ HBW.out) (k:=k) (by rw [HQN.out]; exact hlt);obtain rfl:=hQA;obtain ⟨pk,hpk⟩ : ∃ v,p.pl k = v:=⟨_,rfl⟩;rw [show p.Places.getD k 0 = p.pl k from rfl,hpk] at cp;have HPK:=hide hpk
   have hnx : FitAt f p room k → ∀ t,t < k + 1 → FitAt f p room t:=fun h1 t ht=>by
    by_cases htk : t < k
    ·exact HFT.out t htk
    ·obtain rfl : t = k:=by omega
     exact h1
   have HNX:=hide hnx;have hnoo : ¬ FitAt f p room k → ¬ Fits f p room:=fun h1 h2=>h1 (h2 k (by rw [HFN.out]; exact hlt));have HNO:=hide hnoo;clear hnx hnoo;by_cases hm1 : pk = -1
   ·have hb1 : (pk == -1) = true:=by simpa using hm1
    have HGO:=hide (HNX.out (.inl (by rw [HPK.out]; exact hm1)));clear hm1 hpk;go_wp2_with fail;go_roundw
    case rel=>exact ⟨k + 1,by omega,by go_num,HGO,HBW⟩
    case measure=>simp [intOf]; omega
   ·have hb1 : (pk == -1) = false:=by simpa using hm1
    have hdone:=(HIN.out.pass k hkf)
    have hpb2 : 0 ≤ pk ∧ pk ≤ 4096:=by
     rw [← hpk];by_cases hd : 0 ≤ stepOf p.Order (k : Int)
     ·exact hdone.2.1 hd
     ·exact absurd (hdone.2.2 hd) (by rw [hpk]; exact hm1)
    have HM1:=hide hm1;obtain ⟨zb,zo,hZA,hzb,z0,z1⟩:=size_cells HOK.out (HZ3.out.later _ HBW.out) hkf;obtain rfl:=hZA;obtain ⟨ak,hak⟩ : ∃ a,areaOf f k = a:=⟨_,rfl⟩;have hab:=area_bd HOK.out hkf;rw [hak] at hab;have HAK:=hide hak;obtain ⟨sw,hsw⟩ : ∃ a,(frSize f k).W = a:=⟨_,rfl⟩;obtain ⟨sh,hsh⟩ : ∃ a,(frSize f k).H = a:=⟨_,rfl⟩;rw [hsw] at z0;rw [hsh] at z1;have HSW:=hide hsw;have HSH:=hide hsh;have HAR:=hide (area_is (W:=sw) (H:=sh) (a:=ak) (by rw [← hsw,← hsh,← hak]; rfl) (by omega));have hwr : IntKind.i64.wrap (room - ak) = room - ak:=IntWalk.i64_in _ (by omega);have HKS:=hide (show Keeps wr (fun w'=>w'.cell? ⟨w.heap.size + 1,1,none⟩ = some (.slice (some ⟨pb,po,none⟩) n qc) ∧ w'.cell? ⟨pb,po + k,none⟩ = some (.int .i64 pk) ∧ w'.cell? ⟨zb,zo + k * 2,none⟩ = some (.int .i64 sw) ∧ w'.cell? ⟨zb,zo + k * 2 + 1,none⟩ = some (.int .i64 sh)) from ⟨⟨r1,cp,z0,z1⟩,fun _ hb=>⟨keepC hb r1,keepC hb cp,keepC hb z0,keepC hb z1⟩⟩);obtain ⟨inb,hinb⟩ : ∃ b,inR pk 0 (room - ak) = b:=⟨_,rfl⟩;have hwi:=fun W0=>within_any pk 0 (room - ak) W0;rw [hinb] at hwi;have HWI:=hide hwi;have HINB:=hide hinb;clear hm1 hpk hdone hak hsw hsh hwi hinb;go_upto_region 7 with fail
    go_region_held3 (fun w'=>w'.cell? ⟨w.heap.size + 1,1,none⟩ = some (.slice (some ⟨pb,po,none⟩) n qc) ∧ w'.cell? ⟨pb,po + k,none⟩ = some (.int .i64 pk) ∧ w'.cell? ⟨zb,zo + k * 2,none⟩ = some (.int .i64 sw) ∧ w'.cell? ⟨zb,zo + k * 2 + 1,none⟩ = some (.int .i64 sh))
     (first | exact HKS.out.later _ hB5 | exact HKS.out.later _ (Below.refl _ _).drew)
     (first
       | (go_simp; go_at_call 39; refine ((unhide HAR) _).mono ?_; rintro e w5 ⟨rfl,hE5⟩; have hB5 : Below wr.heap.size wr w5:=(Below.refl _ _).drew.trans hE5)
       | (go_simp; go_at_call 32; refine ((unhide HWI) _).mono ?_; rintro e w6 ⟨rfl,rfl⟩))
    have HB5:=hide (HBW.out.trans (hB5.mono HBW.out.size));clear HKS hE5 hB5 r0 r1 cp z0 z1 hzb hpb y HWI
    cases inb with
    | false =>
      go_wp2_with fail;go_ret;refine retTest_no (HNO.out (fun h=>?_)) (HB3.out.trans (HB5.out.mono HB3.out.size));rcases h with h | ⟨h,-⟩
      ·exact HM1.out (by rw [← HPK.out]; exact h)
      ·rw [HPK.out,HAK.out] at h
       have h2:=HINB.out;unfold inR at h2;simp at h2
       omega
    | true =>
      have hinr : 0 ≤ pk ∧ pk ≤ room - ak:=by
       have h2:=HINB.out;unfold inR at h2;simp at h2
       omega
      have HINR:=hide hinr;clear hinr;go_wp2_with fail;go_loopw [11] (fun s wz=>∃ j : Nat,j ≤ k ∧ s = .int .i64 j ∧ Hid (∀ t,t < j → p.pl t = -1 ∨ ¬ Clash f p k t) ∧ Hid (Below w3.heap.size w3 wz)) (fun s _=>k - (intOf s).toNat)
      case atStart=>exact ⟨0,Nat.zero_le _,rfl,hide (fun t ht=>by omega),HB5⟩
      case round =>
       obtain ⟨j,hj,rfl,HJ,HBZ⟩:=hrel;by_cases hjl : j < k
       ·have hj0 : (0 : Int) ≤ (j : Int):=by omega
        have hj1 : (j : Int) < (k : Int):=by omega
        have hj2 : (j : Int) < (n : Int):=by omega
        have hjf : j < f.P.length:=by rw [HFN.out]; omega
        obtain ⟨y,-,r1⟩:=plan_box (HPX3.out.later _ HBZ.out);obtain ⟨pb',po',e1,hpb,cpk⟩:=ints_at (HIQ3.out.later _ HBZ.out) (k:=k) (by rw [HQN.out]; exact hlt);cases e1;obtain ⟨pb',po',e1,-,cpj⟩:=ints_at (HIQ3.out.later _ HBZ.out) (k:=j) (by rw [HQN.out]; omega);cases e1;rw [show p.Places.getD k 0 = p.pl k from rfl,HPK.out] at cpk;obtain ⟨pj,hpj⟩ : ∃ v,p.pl j = v:=⟨_,rfl⟩;rw [show p.Places.getD j 0 = p.pl j from rfl,hpj] at cpj;obtain ⟨zb',zo',e1,hzb,zk0,zk1⟩:=size_cells HOK.out (HZ3.out.later _ HBZ.out) hkf;cases e1;obtain ⟨zb',zo',e1,-,zj0,zj1⟩:=size_cells HOK.out (HZ3.out.later _ HBZ.out) hjf;cases e1;obtain ⟨xb,xo,hXA,hxb,xk0,xk1⟩:=spns_at (HX3.out.later _ HBZ.out) hlt;obtain ⟨xb',xo',e1,-,xj0,xj1⟩:=spns_at (HX3.out.later _ HBZ.out) (show j < n by omega);obtain rfl:=hXA;cases e1;obtain ⟨sk,hsk⟩ : ∃ s,spanOf f p k = s:=⟨_,rfl⟩;obtain ⟨sj,hsj⟩ : ∃ s,spanOf f p j = s:=⟨_,rfl⟩;obtain ⟨mt,hmt⟩ : ∃ b,meetB sk sj = b:=⟨_,rfl⟩;obtain ⟨aj,haj⟩ : ∃ a,areaOf f j = a:=⟨_,rfl⟩;obtain ⟨tw,htw⟩ : ∃ a,(frSize f j).W = a:=⟨_,rfl⟩;obtain ⟨th,hth⟩ : ∃ a,(frSize f j).H = a:=⟨_,rfl⟩;have hab2:=area_bd HOK.out hjf;rw [haj] at hab2;rw [hsk] at xk0 xk1;rw [hsj] at xj0 xj1;rw [HSW.out] at zk0;rw [HSH.out] at zk1;rw [htw] at zj0;rw [hth] at zj1;have HAJ:=hide (area_is (W:=tw) (H:=th) (a:=aj) (by rw [← htw,← hth,← haj]; rfl) (by omega));have HME:=hide (meet_is (a:=sk) (b:=sj) hmt);have HKS:=hide (show Keeps wr (fun w'=>w'.cell? ⟨w.heap.size + 1,1,none⟩ = some (.slice (some ⟨pb,po,none⟩) n qc) ∧ w'.cell? ⟨pb,po + k,none⟩ = some (.int .i64 pk) ∧ w'.cell? ⟨pb,po + j,none⟩ = some (.int .i64 pj) ∧ w'.cell? ⟨zb,zo + k * 2,none⟩ = some (.int .i64 sw) ∧ w'.cell? ⟨zb,zo + k * 2 + 1,none⟩ = some (.int .i64 sh) ∧ w'.cell? ⟨zb,zo + j * 2,none⟩ = some (.int .i64 tw) ∧ w'.cell? ⟨zb,zo + j * 2 + 1,none⟩ = some (.int .i64 th) ∧ w'.cell? ⟨xb,xo + k * 2,none⟩ = some (.int .i64 sk.First) ∧ w'.cell? ⟨xb,xo + k * 2 + 1,none⟩ = some (.int .i64 sk.Last) ∧ w'.cell? ⟨xb,xo + j * 2,none⟩ = some (.int .i64 sj.First) ∧ w'.cell? ⟨xb,xo + j * 2 + 1,none⟩ = some (.int .i64 sj.Last)) from ⟨⟨r1,cpk,cpj,zk0,zk1,zj0,zj1,xk0,xk1,xj0,xj1⟩,fun _ hb=>⟨keepC hb r1,keepC hb cpk,keepC hb cpj,keepC hb zk0,keepC hb zk1,keepC hb zj0,keepC hb zj1,keepC hb xk0,keepC hb xk1,keepC hb xj0,keepC hb xj1⟩⟩)
        have hcl : Clash f p k j ↔ mt = true ∧ pk < pj + aj ∧ pj < pk + ak:=by
         unfold Clash;rw [hsk,hsj,hmt,HPK.out,hpj,haj,HAK.out]
        have HCL:=hide hcl;have HPJ:=hide hpj
        have hgo : (pj = -1 ∨ ¬ Clash f p k j) → ∀ t,t < j + 1 → p.pl t = -1 ∨ ¬ Clash f p k t:=fun h t ht=>by
         by_cases htj : t < j
         ·exact HJ.out t htj
         ·obtain rfl : t = j:=by omega
          rw [HPJ.out];exact h
        have HGG:=hide hgo;have hpjb:=place_of HIN.out hjf;rw [hpj] at hpjb;clear hsk hsj hmt haj htw hth hpj hcl hgo;by_cases hp1 : pj = -1
        ·have HGO:=hide (HGG.out (.inl hp1))
         have hb2 : (pj == -1) = true:=by simpa using hp1
         have hn2 : (pj != -1) = false:=by simpa using hp1
         clear hp1 hpjb;go_upto_region 12 with fail
         go_quiet (fail)
         go_wp2_with fail;go_roundw
         case rel=>exact ⟨j + 1,by omega,by go_num,HGO,hide (below_drewN HBZ.out _)⟩
         case measure=>simp [intOf]; omega
        ·have hb2 : (pj == -1) = false:=by simpa using hp1
         have hn2 : (pj != -1) = true:=by simpa using hp1
         have hpj2 : 0 ≤ pj ∧ pj ≤ 4096:=by omega
         have hw1 : IntKind.i64.wrap (pj + aj) = pj + aj:=IntWalk.i64_in _ (by omega);have hw2 : IntKind.i64.wrap (pk + ak) = pk + ak:=IntWalk.i64_in _ (by omega);clear hp1 hpjb
         cases mt with
         | false =>
           have HGO:=hide (HGG.out (.inr (fun h=>by have h2:=(HCL.out.1 h).1; cases h2)));go_upto_region 12 with fail
           refine calm_region (Below wr.heap.size wr) (by kernel_rfl) (by kernel_rfl) (Below.refl _ _).drew ?_;refine calm_one (fun K hK=>⟨by kernel_rfl,.pointer (some ⟨w.heap.size + 1,1,none⟩),fun w9 hC9=>?_,?_⟩)
           ·go_simp
           try simp only [Act.put,lsa,lsz,lss]
           refine hK _ ?_;clear hK K;refine calm_one (fun K hK=>⟨by kernel_rfl,.slice (some ⟨pb,po,none⟩) n qc,fun w9 hC9=>?_,?_⟩)
           ·obtain ⟨s0,s1,s2,s3,s4,s5,s6,s7,s8,s9,s10⟩:=HKS.out.later _ hC9
            go_simp
           try simp only [Act.put,lsa,lsz,lss]
           refine hK _ ?_;clear hK K;refine calm_one (fun K hK=>⟨by kernel_rfl,.int .i64 (j : Int),fun w9 hC9=>?_,?_⟩)
           ·go_simp
           try simp only [Act.put,lsa,lsz,lss]
           refine hK _ ?_;clear hK K;refine calm_one (fun K hK=>⟨by kernel_rfl,.pointer (some ⟨pb,po + j,none⟩),fun w9 hC9=>?_,?_⟩)
           ·go_simp
           try simp only [Act.put,lsa,lsz,lss]
           refine hK _ ?_;clear hK K;refine calm_one (fun K hK=>⟨by kernel_rfl,.int .i64 pj,fun w9 hC9=>?_,?_⟩)
           ·obtain ⟨s0,s1,s2,s3,s4,s5,s6,s7,s8,s9,s10⟩:=HKS.out.later _ hC9
            go_simp
           try simp only [Act.put,lsa,lsz,lss]
           refine hK _ ?_;clear hK K;refine calm_one (fun K hK=>⟨by kernel_rfl,.bool true,fun w9 hC9=>?_,?_⟩)
           ·go_simp
           try simp only [Act.put,lsa,lsz,lss]
           refine hK _ ?_;clear hK K;refine calm_one (fun K hK=>⟨by kernel_rfl,.bool true,fun w9 hC9=>?_,?_⟩)
           ·go_simp
           try simp only [Act.put,lsa,lsz,lss]
           refine hK _ ?_;clear hK K;refine calm_one (fun K hK=>⟨by kernel_rfl,.slice (some ⟨xb,xo,none⟩) n xc,fun w9 hC9=>?_,?_⟩)
           ·go_simp
           try simp only [Act.put,lsa,lsz,lss]
           refine hK _ ?_;clear hK K;refine calm_one (fun K hK=>⟨by kernel_rfl,.int .i64 (k : Int),fun w9 hC9=>?_,?_⟩)
           ·go_simp
           try simp only [Act.put,lsa,lsz,lss]
           refine hK _ ?_;clear hK K;refine calm_one (fun K hK=>⟨by kernel_rfl,.pointer (some ⟨xb,xo + k * 2,none⟩),fun w9 hC9=>?_,?_⟩)
           ·go_simp
           try simp only [Act.put,lsa,lsz,lss]
           refine hK _ ?_;clear hK K;refine calm_one (fun K hK=>⟨by kernel_rfl,.agg #[.int .i64 sk.First,.int .i64 sk.Last],fun w9 hC9=>?_,?_⟩)
           ·obtain ⟨s0,s1,s2,s3,s4,s5,s6,s7,s8,s9,s10⟩:=HKS.out.later _ hC9
            go_simp
           try simp only [Act.put,lsa,lsz,lss]
           refine hK _ ?_;clear hK K;refine calm_one (fun K hK=>⟨by kernel_rfl,.slice (some ⟨xb,xo,none⟩) n xc,fun w9 hC9=>?_,?_⟩)
           ·go_simp
           try simp only [Act.put,lsa,lsz,lss]
           refine hK _ ?_;clear hK K;refine calm_one (fun K hK=>⟨by kernel_rfl,.int .i64 (j : Int),fun w9 hC9=>?_,?_⟩)
           ·go_simp
           try simp only [Act.put,lsa,lsz,lss]
           refine hK _ ?_;clear hK K;refine calm_one (fun K hK=>⟨by kernel_rfl,.pointer (some ⟨xb,xo + j * 2,none⟩),fun w9 hC9=>?_,?_⟩)
           ·go_simp
           try simp only [Act.put,lsa,lsz,lss]
           refine hK _ ?_;clear hK K;refine calm_one (fun K hK=>⟨by kernel_rfl,.agg #[.int .i64 sj.First,.int .i64 sj.Last],fun w9 hC9=>?_,?_⟩)
           ·obtain ⟨s0,s1,s2,s3,s4,s5,s6,s7,s8,s9,s10⟩:=HKS.out.later _ hC9
            go_simp
           try simp only [Act.put,lsa,lsz,lss]
           refine hK _ ?_;clear hK K;refine calm_one (fun K hK=>⟨by kernel_rfl,.bool false,fun w9 hC9=>?_,?_⟩)
           ·go_simp
            go_at_call 54;refine ((unhide HME) _).mono ?_;rintro e w8 ⟨rfl,hE8⟩;exact ⟨rfl,hC9.trans (hE8.mono hC9.size)⟩
           try simp only [Act.put,lsa,lsz,lss]
           refine hK _ ?_;clear hK K;refine calm_one (fun K hK=>⟨by kernel_rfl,.bool false,fun w9 hC9=>?_,?_⟩)
           ·go_simp
           try simp only [Act.put,lsa,lsz,lss]
           refine hK _ ?_;clear hK K;refine calm_one (fun K hK=>⟨by kernel_rfl,.bool false,fun w9 hC9=>?_,?_⟩)
           ·go_simp
           try simp only [Act.put,lsa,lsz,lss]
           refine hK _ ?_;clear hK K;refine calm_not (fun K hK=>⟨by kernel_rfl,?_⟩);try simp only [Act.put,lsa,lsz,lss]
           refine hK _ ?_;clear hK K;refine calm_not (fun K hK=>⟨by kernel_rfl,?_⟩);try simp only [Act.put,lsa,lsz,lss]
           refine hK _ ?_;clear hK K;refine calm_not (fun K hK=>⟨by kernel_rfl,?_⟩);try simp only [Act.put,lsa,lsz,lss]
           refine hK _ ?_;clear hK K;refine calm_not (fun K hK=>⟨by kernel_rfl,?_⟩);try simp only [Act.put,lsa,lsz,lss]
           refine hK _ ?_;clear hK K;refine calm_not (fun K hK=>⟨by kernel_rfl,?_⟩);try simp only [Act.put,lsa,lsz,lss]
           refine hK _ ?_;clear hK K;refine calm_not (fun K hK=>⟨by kernel_rfl,?_⟩);try simp only [Act.put,lsa,lsz,lss]
           refine hK _ ?_;clear hK K;refine calm_not (fun K hK=>⟨by kernel_rfl,?_⟩);try simp only [Act.put,lsa,lsz,lss]
           refine hK _ ?_;clear hK K;refine calm_not (fun K hK=>⟨by kernel_rfl,?_⟩);try simp only [Act.put,lsa,lsz,lss]
           refine hK _ ?_;clear hK K;refine calm_not (fun K hK=>⟨by kernel_rfl,?_⟩);try simp only [Act.put,lsa,lsz,lss]
           refine hK _ ?_;clear hK K;refine calm_not (fun K hK=>⟨by kernel_rfl,?_⟩);try simp only [Act.put,lsa,lsz,lss]
           refine hK _ ?_;clear hK K;refine calm_not (fun K hK=>⟨by kernel_rfl,?_⟩);try simp only [Act.put,lsa,lsz,lss]
           refine hK _ ?_;clear hK K;refine calm_not (fun K hK=>⟨by kernel_rfl,?_⟩);try simp only [Act.put,lsa,lsz,lss]
           refine hK _ ?_;clear hK K;refine calm_not (fun K hK=>⟨by kernel_rfl,?_⟩);try simp only [Act.put,lsa,lsz,lss]
           refine hK _ ?_;clear hK K;refine calm_not (fun K hK=>⟨by kernel_rfl,?_⟩);try simp only [Act.put,lsa,lsz,lss]
           refine hK _ ?_;clear hK K;refine calm_not (fun K hK=>⟨by kernel_rfl,?_⟩);try simp only [Act.put,lsa,lsz,lss]
           refine hK _ ?_;clear hK K;refine calm_not (fun K hK=>⟨by kernel_rfl,?_⟩);try simp only [Act.put,lsa,lsz,lss]
           refine hK _ ?_;clear hK K;refine calm_not (fun K hK=>⟨by kernel_rfl,?_⟩);try simp only [Act.put,lsa,lsz,lss]
           refine hK _ ?_;clear hK K;refine calm_one (fun K hK=>⟨by kernel_rfl,.bool false,fun w9 hC9=>?_,?_⟩)
           ·go_simp
           try simp only [Act.put,lsa,lsz,lss]
           refine hK _ ?_;clear hK K;refine calm_one (fun K hK=>⟨by kernel_rfl,.bool false,fun w9 hC9=>?_,?_⟩)
           ·go_simp
           try simp only [Act.put,lsa,lsz,lss]
           refine hK _ ?_;clear hK K;refine calm_not (fun K hK=>⟨by kernel_rfl,?_⟩);try simp only [Act.put,lsa,lsz,lss]
           refine hK _ ?_;clear hK K;refine calm_not (fun K hK=>⟨by kernel_rfl,?_⟩);try simp only [Act.put,lsa,lsz,lss]
           refine hK _ ?_;clear hK K;refine calm_not (fun K hK=>⟨by kernel_rfl,?_⟩);try simp only [Act.put,lsa,lsz,lss]
           refine hK _ ?_;clear hK K;refine calm_not (fun K hK=>⟨by kernel_rfl,?_⟩);try simp only [Act.put,lsa,lsz,lss]
           refine hK _ ?_;clear hK K;refine calm_not (fun K hK=>⟨by kernel_rfl,?_⟩);try simp only [Act.put,lsa,lsz,lss]
           refine hK _ ?_;clear hK K;refine calm_not (fun K hK=>⟨by kernel_rfl,?_⟩);try simp only [Act.put,lsa,lsz,lss]
           refine hK _ ?_;clear hK K;refine calm_not (fun K hK=>⟨by kernel_rfl,?_⟩);try simp only [Act.put,lsa,lsz,lss]
           refine hK _ ?_;clear hK K;refine calm_not (fun K hK=>⟨by kernel_rfl,?_⟩);try simp only [Act.put,lsa,lsz,lss]
           refine hK _ ?_;clear hK K;refine calm_not (fun K hK=>⟨by kernel_rfl,?_⟩);try simp only [Act.put,lsa,lsz,lss]
           refine hK _ ?_;clear hK K;refine calm_not (fun K hK=>⟨by kernel_rfl,?_⟩);try simp only [Act.put,lsa,lsz,lss]
           refine hK _ ?_;clear hK K;refine calm_not (fun K hK=>⟨by kernel_rfl,?_⟩);try simp only [Act.put,lsa,lsz,lss]
           refine hK _ ?_;clear hK K;refine calm_not (fun K hK=>⟨by kernel_rfl,?_⟩);try simp only [Act.put,lsa,lsz,lss]
           refine hK _ ?_;clear hK K;refine calm_not (fun K hK=>⟨by kernel_rfl,?_⟩);try simp only [Act.put,lsa,lsz,lss]
           refine hK _ ?_;clear hK K;refine calm_not (fun K hK=>⟨by kernel_rfl,?_⟩);try simp only [Act.put,lsa,lsz,lss]
           refine hK _ ?_;clear hK K;refine calm_not (fun K hK=>⟨by kernel_rfl,?_⟩);try simp only [Act.put,lsa,lsz,lss]
           refine hK _ ?_;clear hK K;refine calm_not (fun K hK=>⟨by kernel_rfl,?_⟩);try simp only [Act.put,lsa,lsz,lss]
           refine hK _ ?_;clear hK K;refine calm_not (fun K hK=>⟨by kernel_rfl,?_⟩);try simp only [Act.put,lsa,lsz,lss]
           refine hK _ ?_;clear hK K;refine calm_one (fun K hK=>⟨by kernel_rfl,.bool false,fun w9 hC9=>?_,?_⟩)
           ·go_simp
           try simp only [Act.put,lsa,lsz,lss]
           refine hK _ ?_;clear hK K;refine calm_nil ?_;intro w9 hC9;go_wp2_with fail;go_roundw
           case rel=>exact ⟨j + 1,by omega,by go_num,HGO,hide (HBZ.out.trans (hC9.mono HBZ.out.size))⟩
           case measure=>simp [intOf]; omega
         | true =>
           by_cases c3 : pk < pj + aj
           ·by_cases c4 : pj < pk + ak
            ·have HBD:=hide (HCL.out.2 ⟨rfl,c3,c4⟩)
             go_upto_region 12 with fail
             refine calm_region (Below wr.heap.size wr) (by kernel_rfl) (by kernel_rfl) (Below.refl _ _).drew ?_;refine calm_one (fun K hK=>⟨by kernel_rfl,.pointer (some ⟨w.heap.size + 1,1,none⟩),fun w9 hC9=>?_,?_⟩)
             ·go_simp
             try simp only [Act.put,lsa,lsz,lss]
             refine hK _ ?_;clear hK K;refine calm_one (fun K hK=>⟨by kernel_rfl,.slice (some ⟨pb,po,none⟩) n qc,fun w9 hC9=>?_,?_⟩)
             ·obtain ⟨s0,s1,s2,s3,s4,s5,s6,s7,s8,s9,s10⟩:=HKS.out.later _ hC9
              go_simp
             try simp only [Act.put,lsa,lsz,lss]
             refine hK _ ?_;clear hK K;refine calm_one (fun K hK=>⟨by kernel_rfl,.int .i64 (j : Int),fun w9 hC9=>?_,?_⟩)
             ·go_simp
             try simp only [Act.put,lsa,lsz,lss]
             refine hK _ ?_;clear hK K;refine calm_one (fun K hK=>⟨by kernel_rfl,.pointer (some ⟨pb,po + j,none⟩),fun w9 hC9=>?_,?_⟩)
             ·go_simp
             try simp only [Act.put,lsa,lsz,lss]
             refine hK _ ?_;clear hK K;refine calm_one (fun K hK=>⟨by kernel_rfl,.int .i64 pj,fun w9 hC9=>?_,?_⟩)
             ·obtain ⟨s0,s1,s2,s3,s4,s5,s6,s7,s8,s9,s10⟩:=HKS.out.later _ hC9
              go_simp
             try simp only [Act.put,lsa,lsz,lss]
             refine hK _ ?_;clear hK K;refine calm_one (fun K hK=>⟨by kernel_rfl,.bool true,fun w9 hC9=>?_,?_⟩)
             ·go_simp
             try simp only [Act.put,lsa,lsz,lss]
             refine hK _ ?_;clear hK K;refine calm_one (fun K hK=>⟨by kernel_rfl,.bool true,fun w9 hC9=>?_,?_⟩)
             ·go_simp
             try simp only [Act.put,lsa,lsz,lss]
             refine hK _ ?_;clear hK K;refine calm_one (fun K hK=>⟨by kernel_rfl,.slice (some ⟨xb,xo,none⟩) n xc,fun w9 hC9=>?_,?_⟩)
             ·go_simp
             try simp only [Act.put,lsa,lsz,lss]
             refine hK _ ?_;clear hK K;refine calm_one (fun K hK=>⟨by kernel_rfl,.int .i64 (k : Int),fun w9 hC9=>?_,?_⟩)
             ·go_simp
             try simp only [Act.put,lsa,lsz,lss]
             refine hK _ ?_;clear hK K;refine calm_one (fun K hK=>⟨by kernel_rfl,.pointer (some ⟨xb,xo + k * 2,none⟩),fun w9 hC9=>?_,?_⟩)
             ·go_simp
             try simp only [Act.put,lsa,lsz,lss]
             refine hK _ ?_;clear hK K;refine calm_one (fun K hK=>⟨by kernel_rfl,.agg #[.int .i64 sk.First,.int .i64 sk.Last],fun w9 hC9=>?_,?_⟩)
             ·obtain ⟨s0,s1,s2,s3,s4,s5,s6,s7,s8,s9,s10⟩:=HKS.out.later _ hC9
              go_simp
             try simp only [Act.put,lsa,lsz,lss]
             refine hK _ ?_;clear hK K;refine calm_one (fun K hK=>⟨by kernel_rfl,.slice (some ⟨xb,xo,none⟩) n xc,fun w9 hC9=>?_,?_⟩)
             ·go_simp
             try simp only [Act.put,lsa,lsz,lss]
             refine hK _ ?_;clear hK K;refine calm_one (fun K hK=>⟨by kernel_rfl,.int .i64 (j : Int),fun w9 hC9=>?_,?_⟩)
             ·go_simp
             try simp only [Act.put,lsa,lsz,lss]
             refine hK _ ?_;clear hK K;refine calm_one (fun K hK=>⟨by kernel_rfl,.pointer (some ⟨xb,xo + j * 2,none⟩),fun w9 hC9=>?_,?_⟩)
             ·go_simp
             try simp only [Act.put,lsa,lsz,lss]
             refine hK _ ?_;clear hK K;refine calm_one (fun K hK=>⟨by kernel_rfl,.agg #[.int .i64 sj.First,.int .i64 sj.Last],fun w9 hC9=>?_,?_⟩)
             ·obtain ⟨s0,s1,s2,s3,s4,s5,s6,s7,s8,s9,s10⟩:=HKS.out.later _ hC9
              go_simp
             try simp only [Act.put,lsa,lsz,lss]
             refine hK _ ?_;clear hK K;refine calm_one (fun K hK=>⟨by kernel_rfl,.bool true,fun w9 hC9=>?_,?_⟩)
             ·go_simp
              go_at_call 54;refine ((unhide HME) _).mono ?_;rintro e w8 ⟨rfl,hE8⟩;exact ⟨rfl,hC9.trans (hE8.mono hC9.size)⟩
             try simp only [Act.put,lsa,lsz,lss]
             refine hK _ ?_;clear hK K;refine calm_one (fun K hK=>⟨by kernel_rfl,.bool true,fun w9 hC9=>?_,?_⟩)
             ·go_simp
             try simp only [Act.put,lsa,lsz,lss]
             refine hK _ ?_;clear hK K;refine calm_one (fun K hK=>⟨by kernel_rfl,.bool true,fun w9 hC9=>?_,?_⟩)
             ·go_simp
             try simp only [Act.put,lsa,lsz,lss]
             refine hK _ ?_;clear hK K;refine calm_one (fun K hK=>⟨by kernel_rfl,.pointer (some ⟨w.heap.size + 1,1,none⟩),fun w9 hC9=>?_,?_⟩)
             ·go_simp
             try simp only [Act.put,lsa,lsz,lss]
             refine hK _ ?_;clear hK K;refine calm_one (fun K hK=>⟨by kernel_rfl,.slice (some ⟨pb,po,none⟩) n qc,fun w9 hC9=>?_,?_⟩)
             ·obtain ⟨s0,s1,s2,s3,s4,s5,s6,s7,s8,s9,s10⟩:=HKS.out.later _ hC9
              go_simp
             try simp only [Act.put,lsa,lsz,lss]
             refine hK _ ?_;clear hK K;refine calm_one (fun K hK=>⟨by kernel_rfl,.int .i64 (k : Int),fun w9 hC9=>?_,?_⟩)
             ·go_simp
             try simp only [Act.put,lsa,lsz,lss]
             refine hK _ ?_;clear hK K;refine calm_one (fun K hK=>⟨by kernel_rfl,.pointer (some ⟨pb,po + k,none⟩),fun w9 hC9=>?_,?_⟩)
             ·go_simp
             try simp only [Act.put,lsa,lsz,lss]
             refine hK _ ?_;clear hK K;refine calm_one (fun K hK=>⟨by kernel_rfl,.int .i64 pk,fun w9 hC9=>?_,?_⟩)
             ·obtain ⟨s0,s1,s2,s3,s4,s5,s6,s7,s8,s9,s10⟩:=HKS.out.later _ hC9
              go_simp
             try simp only [Act.put,lsa,lsz,lss]
             refine hK _ ?_;clear hK K;refine calm_one (fun K hK=>⟨by kernel_rfl,.pointer (some ⟨w.heap.size + 1,1,none⟩),fun w9 hC9=>?_,?_⟩)
             ·go_simp
             try simp only [Act.put,lsa,lsz,lss]
             refine hK _ ?_;clear hK K;refine calm_one (fun K hK=>⟨by kernel_rfl,.slice (some ⟨pb,po,none⟩) n qc,fun w9 hC9=>?_,?_⟩)
             ·obtain ⟨s0,s1,s2,s3,s4,s5,s6,s7,s8,s9,s10⟩:=HKS.out.later _ hC9
              go_simp
             try simp only [Act.put,lsa,lsz,lss]
             refine hK _ ?_;clear hK K;refine calm_one (fun K hK=>⟨by kernel_rfl,.int .i64 (j : Int),fun w9 hC9=>?_,?_⟩)
             ·go_simp
             try simp only [Act.put,lsa,lsz,lss]
             refine hK _ ?_;clear hK K;refine calm_one (fun K hK=>⟨by kernel_rfl,.pointer (some ⟨pb,po + j,none⟩),fun w9 hC9=>?_,?_⟩)
             ·go_simp
             try simp only [Act.put,lsa,lsz,lss]
             refine hK _ ?_;clear hK K;refine calm_one (fun K hK=>⟨by kernel_rfl,.int .i64 pj,fun w9 hC9=>?_,?_⟩)
             ·obtain ⟨s0,s1,s2,s3,s4,s5,s6,s7,s8,s9,s10⟩:=HKS.out.later _ hC9
              go_simp
             try simp only [Act.put,lsa,lsz,lss]
             refine hK _ ?_;clear hK K;refine calm_one (fun K hK=>⟨by kernel_rfl,.slice (some ⟨zb,zo,none⟩) n zc,fun w9 hC9=>?_,?_⟩)
             ·go_simp
             try simp only [Act.put,lsa,lsz,lss]
             refine hK _ ?_;clear hK K;refine calm_one (fun K hK=>⟨by kernel_rfl,.int .i64 (j : Int),fun w9 hC9=>?_,?_⟩)
             ·go_simp
             try simp only [Act.put,lsa,lsz,lss]
             refine hK _ ?_;clear hK K;refine calm_one (fun K hK=>⟨by kernel_rfl,.pointer (some ⟨zb,zo + j * 2,none⟩),fun w9 hC9=>?_,?_⟩)
             ·go_simp
             try simp only [Act.put,lsa,lsz,lss]
             refine hK _ ?_;clear hK K;refine calm_one (fun K hK=>⟨by kernel_rfl,.agg #[.int .i64 tw,.int .i64 th],fun w9 hC9=>?_,?_⟩)
             ·obtain ⟨s0,s1,s2,s3,s4,s5,s6,s7,s8,s9,s10⟩:=HKS.out.later _ hC9
              go_simp
             try simp only [Act.put,lsa,lsz,lss]
             refine hK _ ?_;clear hK K;refine calm_one (fun K hK=>⟨by kernel_rfl,.int .i64 aj,fun w9 hC9=>?_,?_⟩)
             ·go_simp
              go_at_call 39;refine ((unhide HAJ) _).mono ?_;rintro e w8 ⟨rfl,hE8⟩;exact ⟨rfl,hC9.trans (hE8.mono hC9.size)⟩
             try simp only [Act.put,lsa,lsz,lss]
             refine hK _ ?_;clear hK K;refine calm_one (fun K hK=>⟨by kernel_rfl,.int .i64 (pj + aj),fun w9 hC9=>?_,?_⟩)
             ·go_simp
             try simp only [Act.put,lsa,lsz,lss]
             refine hK _ ?_;clear hK K;refine calm_one (fun K hK=>⟨by kernel_rfl,.bool true,fun w9 hC9=>?_,?_⟩)
             ·go_simp
             try simp only [Act.put,lsa,lsz,lss]
             refine hK _ ?_;clear hK K;refine calm_one (fun K hK=>⟨by kernel_rfl,.bool true,fun w9 hC9=>?_,?_⟩)
             ·go_simp
             try simp only [Act.put,lsa,lsz,lss]
             refine hK _ ?_;clear hK K;refine calm_one (fun K hK=>⟨by kernel_rfl,.bool true,fun w9 hC9=>?_,?_⟩)
             ·go_simp
             try simp only [Act.put,lsa,lsz,lss]
             refine hK _ ?_;clear hK K;refine calm_one (fun K hK=>⟨by kernel_rfl,.pointer (some ⟨w.heap.size + 1,1,none⟩),fun w9 hC9=>?_,?_⟩)
             ·go_simp
             try simp only [Act.put,lsa,lsz,lss]
             refine hK _ ?_;clear hK K;refine calm_one (fun K hK=>⟨by kernel_rfl,.slice (some ⟨pb,po,none⟩) n qc,fun w9 hC9=>?_,?_⟩)
             ·obtain ⟨s0,s1,s2,s3,s4,s5,s6,s7,s8,s9,s10⟩:=HKS.out.later _ hC9
              go_simp
             try simp only [Act.put,lsa,lsz,lss]
             refine hK _ ?_;clear hK K;refine calm_one (fun K hK=>⟨by kernel_rfl,.int .i64 (j : Int),fun w9 hC9=>?_,?_⟩)
             ·go_simp
             try simp only [Act.put,lsa,lsz,lss]
             refine hK _ ?_;clear hK K;refine calm_one (fun K hK=>⟨by kernel_rfl,.pointer (some ⟨pb,po + j,none⟩),fun w9 hC9=>?_,?_⟩)
             ·go_simp
             try simp only [Act.put,lsa,lsz,lss]
             refine hK _ ?_;clear hK K;refine calm_one (fun K hK=>⟨by kernel_rfl,.int .i64 pj,fun w9 hC9=>?_,?_⟩)
             ·obtain ⟨s0,s1,s2,s3,s4,s5,s6,s7,s8,s9,s10⟩:=HKS.out.later _ hC9
              go_simp
             try simp only [Act.put,lsa,lsz,lss]
             refine hK _ ?_;clear hK K;refine calm_one (fun K hK=>⟨by kernel_rfl,.pointer (some ⟨w.heap.size + 1,1,none⟩),fun w9 hC9=>?_,?_⟩)
             ·go_simp
             try simp only [Act.put,lsa,lsz,lss]
             refine hK _ ?_;clear hK K;refine calm_one (fun K hK=>⟨by kernel_rfl,.slice (some ⟨pb,po,none⟩) n qc,fun w9 hC9=>?_,?_⟩)
             ·obtain ⟨s0,s1,s2,s3,s4,s5,s6,s7,s8,s9,s10⟩:=HKS.out.later _ hC9
              go_simp
             try simp only [Act.put,lsa,lsz,lss]
             refine hK _ ?_;clear hK K;refine calm_one (fun K hK=>⟨by kernel_rfl,.int .i64 (k : Int),fun w9 hC9=>?_,?_⟩)
             ·go_simp
             try simp only [Act.put,lsa,lsz,lss]
             refine hK _ ?_;clear hK K;refine calm_one (fun K hK=>⟨by kernel_rfl,.pointer (some ⟨pb,po + k,none⟩),fun w9 hC9=>?_,?_⟩)
             ·go_simp
             try simp only [Act.put,lsa,lsz,lss]
             refine hK _ ?_;clear hK K;refine calm_one (fun K hK=>⟨by kernel_rfl,.int .i64 pk,fun w9 hC9=>?_,?_⟩)
             ·obtain ⟨s0,s1,s2,s3,s4,s5,s6,s7,s8,s9,s10⟩:=HKS.out.later _ hC9
              go_simp
             try simp only [Act.put,lsa,lsz,lss]
             refine hK _ ?_;clear hK K;refine calm_one (fun K hK=>⟨by kernel_rfl,.slice (some ⟨zb,zo,none⟩) n zc,fun w9 hC9=>?_,?_⟩)
             ·go_simp
             try simp only [Act.put,lsa,lsz,lss]
             refine hK _ ?_;clear hK K;refine calm_one (fun K hK=>⟨by kernel_rfl,.int .i64 (k : Int),fun w9 hC9=>?_,?_⟩)
             ·go_simp
             try simp only [Act.put,lsa,lsz,lss]
             refine hK _ ?_;clear hK K;refine calm_one (fun K hK=>⟨by kernel_rfl,.pointer (some ⟨zb,zo + k * 2,none⟩),fun w9 hC9=>?_,?_⟩)
             ·go_simp
             try simp only [Act.put,lsa,lsz,lss]
             refine hK _ ?_;clear hK K;refine calm_one (fun K hK=>⟨by kernel_rfl,.agg #[.int .i64 sw,.int .i64 sh],fun w9 hC9=>?_,?_⟩)
             ·obtain ⟨s0,s1,s2,s3,s4,s5,s6,s7,s8,s9,s10⟩:=HKS.out.later _ hC9
              go_simp
             try simp only [Act.put,lsa,lsz,lss]
             refine hK _ ?_;clear hK K;refine calm_one (fun K hK=>⟨by kernel_rfl,.int .i64 ak,fun w9 hC9=>?_,?_⟩)
             ·go_simp
              go_at_call 39;refine ((unhide HAR) _).mono ?_;rintro e w8 ⟨rfl,hE8⟩;exact ⟨rfl,hC9.trans (hE8.mono hC9.size)⟩
             try simp only [Act.put,lsa,lsz,lss]
             refine hK _ ?_;clear hK K;refine calm_one (fun K hK=>⟨by kernel_rfl,.int .i64 (pk + ak),fun w9 hC9=>?_,?_⟩)
             ·go_simp
             try simp only [Act.put,lsa,lsz,lss]
             refine hK _ ?_;clear hK K;refine calm_one (fun K hK=>⟨by kernel_rfl,.bool true,fun w9 hC9=>?_,?_⟩)
             ·go_simp
             try simp only [Act.put,lsa,lsz,lss]
             refine hK _ ?_;clear hK K;refine calm_one (fun K hK=>⟨by kernel_rfl,.bool true,fun w9 hC9=>?_,?_⟩)
             ·go_simp
             try simp only [Act.put,lsa,lsz,lss]
             refine hK _ ?_;clear hK K;refine calm_nil ?_;intro w9 hC9;go_wp2_with fail;go_ret;refine retTest_no (HNO.out (fun h=>?_)) (HB3.out.trans ((HBZ.out.trans (hC9.mono HBZ.out.size)).mono HB3.out.size));rcases h with h | ⟨-,h⟩
             ·exact HM1.out (by rw [← HPK.out]; exact h)
             ·rcases h j hjl with h | h
              ·rw [HPJ.out] at h; omega
              ·exact h HBD.out
            ·have HGO:=hide (HGG.out (.inr (fun h=>c4 (HCL.out.1 h).2.2)))
             go_upto_region 12 with fail
             refine calm_region (Below wr.heap.size wr) (by kernel_rfl) (by kernel_rfl) (Below.refl _ _).drew ?_;refine calm_one (fun K hK=>⟨by kernel_rfl,.pointer (some ⟨w.heap.size + 1,1,none⟩),fun w9 hC9=>?_,?_⟩)
             ·go_simp
             try simp only [Act.put,lsa,lsz,lss]
             refine hK _ ?_;clear hK K;refine calm_one (fun K hK=>⟨by kernel_rfl,.slice (some ⟨pb,po,none⟩) n qc,fun w9 hC9=>?_,?_⟩)
             ·obtain ⟨s0,s1,s2,s3,s4,s5,s6,s7,s8,s9,s10⟩:=HKS.out.later _ hC9
              go_simp
             try simp only [Act.put,lsa,lsz,lss]
             refine hK _ ?_;clear hK K;refine calm_one (fun K hK=>⟨by kernel_rfl,.int .i64 (j : Int),fun w9 hC9=>?_,?_⟩)
             ·go_simp
             try simp only [Act.put,lsa,lsz,lss]
             refine hK _ ?_;clear hK K;refine calm_one (fun K hK=>⟨by kernel_rfl,.pointer (some ⟨pb,po + j,none⟩),fun w9 hC9=>?_,?_⟩)
             ·go_simp
             try simp only [Act.put,lsa,lsz,lss]
             refine hK _ ?_;clear hK K;refine calm_one (fun K hK=>⟨by kernel_rfl,.int .i64 pj,fun w9 hC9=>?_,?_⟩)
             ·obtain ⟨s0,s1,s2,s3,s4,s5,s6,s7,s8,s9,s10⟩:=HKS.out.later _ hC9
              go_simp
             try simp only [Act.put,lsa,lsz,lss]
             refine hK _ ?_;clear hK K;refine calm_one (fun K hK=>⟨by kernel_rfl,.bool true,fun w9 hC9=>?_,?_⟩)
             ·go_simp
             try simp only [Act.put,lsa,lsz,lss]
             refine hK _ ?_;clear hK K;refine calm_one (fun K hK=>⟨by kernel_rfl,.bool true,fun w9 hC9=>?_,?_⟩)
             ·go_simp
             try simp only [Act.put,lsa,lsz,lss]
             refine hK _ ?_;clear hK K;refine calm_one (fun K hK=>⟨by kernel_rfl,.slice (some ⟨xb,xo,none⟩) n xc,fun w9 hC9=>?_,?_⟩)
             ·go_simp
             try simp only [Act.put,lsa,lsz,lss]
             refine hK _ ?_;clear hK K;refine calm_one (fun K hK=>⟨by kernel_rfl,.int .i64 (k : Int),fun w9 hC9=>?_,?_⟩)
             ·go_simp
             try simp only [Act.put,lsa,lsz,lss]
             refine hK _ ?_;clear hK K;refine calm_one (fun K hK=>⟨by kernel_rfl,.pointer (some ⟨xb,xo + k * 2,none⟩),fun w9 hC9=>?_,?_⟩)
             ·go_simp
             try simp only [Act.put,lsa,lsz,lss]
             refine hK _ ?_;clear hK K;refine calm_one (fun K hK=>⟨by kernel_rfl,.agg #[.int .i64 sk.First,.int .i64 sk.Last],fun w9 hC9=>?_,?_⟩)
             ·obtain ⟨s0,s1,s2,s3,s4,s5,s6,s7,s8,s9,s10⟩:=HKS.out.later _ hC9
              go_simp
             try simp only [Act.put,lsa,lsz,lss]
             refine hK _ ?_;clear hK K;refine calm_one (fun K hK=>⟨by kernel_rfl,.slice (some ⟨xb,xo,none⟩) n xc,fun w9 hC9=>?_,?_⟩)
             ·go_simp
             try simp only [Act.put,lsa,lsz,lss]
             refine hK _ ?_;clear hK K;refine calm_one (fun K hK=>⟨by kernel_rfl,.int .i64 (j : Int),fun w9 hC9=>?_,?_⟩)
             ·go_simp
             try simp only [Act.put,lsa,lsz,lss]
             refine hK _ ?_;clear hK K;refine calm_one (fun K hK=>⟨by kernel_rfl,.pointer (some ⟨xb,xo + j * 2,none⟩),fun w9 hC9=>?_,?_⟩)
             ·go_simp
             try simp only [Act.put,lsa,lsz,lss]
             refine hK _ ?_;clear hK K;refine calm_one (fun K hK=>⟨by kernel_rfl,.agg #[.int .i64 sj.First,.int .i64 sj.Last],fun w9 hC9=>?_,?_⟩)
             ·obtain ⟨s0,s1,s2,s3,s4,s5,s6,s7,s8,s9,s10⟩:=HKS.out.later _ hC9
              go_simp
             try simp only [Act.put,lsa,lsz,lss]
             refine hK _ ?_;clear hK K;refine calm_one (fun K hK=>⟨by kernel_rfl,.bool true,fun w9 hC9=>?_,?_⟩)
             ·go_simp
              go_at_call 54;refine ((unhide HME) _).mono ?_;rintro e w8 ⟨rfl,hE8⟩;exact ⟨rfl,hC9.trans (hE8.mono hC9.size)⟩
             try simp only [Act.put,lsa,lsz,lss]
             refine hK _ ?_;clear hK K;refine calm_one (fun K hK=>⟨by kernel_rfl,.bool true,fun w9 hC9=>?_,?_⟩)
             ·go_simp
             try simp only [Act.put,lsa,lsz,lss]
             refine hK _ ?_;clear hK K;refine calm_one (fun K hK=>⟨by kernel_rfl,.bool true,fun w9 hC9=>?_,?_⟩)
             ·go_simp
             try simp only [Act.put,lsa,lsz,lss]
             refine hK _ ?_;clear hK K;refine calm_one (fun K hK=>⟨by kernel_rfl,.pointer (some ⟨w.heap.size + 1,1,none⟩),fun w9 hC9=>?_,?_⟩)
             ·go_simp
             try simp only [Act.put,lsa,lsz,lss]
             refine hK _ ?_;clear hK K;refine calm_one (fun K hK=>⟨by kernel_rfl,.slice (some ⟨pb,po,none⟩) n qc,fun w9 hC9=>?_,?_⟩)
             ·obtain ⟨s0,s1,s2,s3,s4,s5,s6,s7,s8,s9,s10⟩:=HKS.out.later _ hC9
              go_simp
             try simp only [Act.put,lsa,lsz,lss]
             refine hK _ ?_;clear hK K;refine calm_one (fun K hK=>⟨by kernel_rfl,.int .i64 (k : Int),fun w9 hC9=>?_,?_⟩)
             ·go_simp
             try simp only [Act.put,lsa,lsz,lss]
             refine hK _ ?_;clear hK K;refine calm_one (fun K hK=>⟨by kernel_rfl,.pointer (some ⟨pb,po + k,none⟩),fun w9 hC9=>?_,?_⟩)
             ·go_simp
             try simp only [Act.put,lsa,lsz,lss]
             refine hK _ ?_;clear hK K;refine calm_one (fun K hK=>⟨by kernel_rfl,.int .i64 pk,fun w9 hC9=>?_,?_⟩)
             ·obtain ⟨s0,s1,s2,s3,s4,s5,s6,s7,s8,s9,s10⟩:=HKS.out.later _ hC9
              go_simp
             try simp only [Act.put,lsa,lsz,lss]
             refine hK _ ?_;clear hK K;refine calm_one (fun K hK=>⟨by kernel_rfl,.pointer (some ⟨w.heap.size + 1,1,none⟩),fun w9 hC9=>?_,?_⟩)
             ·go_simp
             try simp only [Act.put,lsa,lsz,lss]
             refine hK _ ?_;clear hK K;refine calm_one (fun K hK=>⟨by kernel_rfl,.slice (some ⟨pb,po,none⟩) n qc,fun w9 hC9=>?_,?_⟩)
             ·obtain ⟨s0,s1,s2,s3,s4,s5,s6,s7,s8,s9,s10⟩:=HKS.out.later _ hC9
              go_simp
             try simp only [Act.put,lsa,lsz,lss]
             refine hK _ ?_;clear hK K;refine calm_one (fun K hK=>⟨by kernel_rfl,.int .i64 (j : Int),fun w9 hC9=>?_,?_⟩)
             ·go_simp
             try simp only [Act.put,lsa,lsz,lss]
             refine hK _ ?_;clear hK K;refine calm_one (fun K hK=>⟨by kernel_rfl,.pointer (some ⟨pb,po + j,none⟩),fun w9 hC9=>?_,?_⟩)
             ·go_simp
             try simp only [Act.put,lsa,lsz,lss]
             refine hK _ ?_;clear hK K;refine calm_one (fun K hK=>⟨by kernel_rfl,.int .i64 pj,fun w9 hC9=>?_,?_⟩)
             ·obtain ⟨s0,s1,s2,s3,s4,s5,s6,s7,s8,s9,s10⟩:=HKS.out.later _ hC9
              go_simp
             try simp only [Act.put,lsa,lsz,lss]
             refine hK _ ?_;clear hK K;refine calm_one (fun K hK=>⟨by kernel_rfl,.slice (some ⟨zb,zo,none⟩) n zc,fun w9 hC9=>?_,?_⟩)
             ·go_simp
             try simp only [Act.put,lsa,lsz,lss]
             refine hK _ ?_;clear hK K;refine calm_one (fun K hK=>⟨by kernel_rfl,.int .i64 (j : Int),fun w9 hC9=>?_,?_⟩)
             ·go_simp
             try simp only [Act.put,lsa,lsz,lss]
             refine hK _ ?_;clear hK K;refine calm_one (fun K hK=>⟨by kernel_rfl,.pointer (some ⟨zb,zo + j * 2,none⟩),fun w9 hC9=>?_,?_⟩)
             ·go_simp
             try simp only [Act.put,lsa,lsz,lss]
             refine hK _ ?_;clear hK K;refine calm_one (fun K hK=>⟨by kernel_rfl,.agg #[.int .i64 tw,.int .i64 th],fun w9 hC9=>?_,?_⟩)
             ·obtain ⟨s0,s1,s2,s3,s4,s5,s6,s7,s8,s9,s10⟩:=HKS.out.later _ hC9
              go_simp
             try simp only [Act.put,lsa,lsz,lss]
             refine hK _ ?_;clear hK K;refine calm_one (fun K hK=>⟨by kernel_rfl,.int .i64 aj,fun w9 hC9=>?_,?_⟩)
             ·go_simp
              go_at_call 39;refine ((unhide HAJ) _).mono ?_;rintro e w8 ⟨rfl,hE8⟩;exact ⟨rfl,hC9.trans (hE8.mono hC9.size)⟩
             try simp only [Act.put,lsa,lsz,lss]
             refine hK _ ?_;clear hK K;refine calm_one (fun K hK=>⟨by kernel_rfl,.int .i64 (pj + aj),fun w9 hC9=>?_,?_⟩)
             ·go_simp
             try simp only [Act.put,lsa,lsz,lss]
             refine hK _ ?_;clear hK K;refine calm_one (fun K hK=>⟨by kernel_rfl,.bool true,fun w9 hC9=>?_,?_⟩)
             ·go_simp
             try simp only [Act.put,lsa,lsz,lss]
             refine hK _ ?_;clear hK K;refine calm_one (fun K hK=>⟨by kernel_rfl,.bool true,fun w9 hC9=>?_,?_⟩)
             ·go_simp
             try simp only [Act.put,lsa,lsz,lss]
             refine hK _ ?_;clear hK K;refine calm_one (fun K hK=>⟨by kernel_rfl,.bool true,fun w9 hC9=>?_,?_⟩)
             ·go_simp
             try simp only [Act.put,lsa,lsz,lss]
             refine hK _ ?_;clear hK K;refine calm_one (fun K hK=>⟨by kernel_rfl,.pointer (some ⟨w.heap.size + 1,1,none⟩),fun w9 hC9=>?_,?_⟩)
             ·go_simp
             try simp only [Act.put,lsa,lsz,lss]
             refine hK _ ?_;clear hK K;refine calm_one (fun K hK=>⟨by kernel_rfl,.slice (some ⟨pb,po,none⟩) n qc,fun w9 hC9=>?_,?_⟩)
             ·obtain ⟨s0,s1,s2,s3,s4,s5,s6,s7,s8,s9,s10⟩:=HKS.out.later _ hC9
              go_simp
             try simp only [Act.put,lsa,lsz,lss]
             refine hK _ ?_;clear hK K;refine calm_one (fun K hK=>⟨by kernel_rfl,.int .i64 (j : Int),fun w9 hC9=>?_,?_⟩)
             ·go_simp
             try simp only [Act.put,lsa,lsz,lss]
             refine hK _ ?_;clear hK K;refine calm_one (fun K hK=>⟨by kernel_rfl,.pointer (some ⟨pb,po + j,none⟩),fun w9 hC9=>?_,?_⟩)
             ·go_simp
             try simp only [Act.put,lsa,lsz,lss]
             refine hK _ ?_;clear hK K;refine calm_one (fun K hK=>⟨by kernel_rfl,.int .i64 pj,fun w9 hC9=>?_,?_⟩)
             ·obtain ⟨s0,s1,s2,s3,s4,s5,s6,s7,s8,s9,s10⟩:=HKS.out.later _ hC9
              go_simp
             try simp only [Act.put,lsa,lsz,lss]
             refine hK _ ?_;clear hK K;refine calm_one (fun K hK=>⟨by kernel_rfl,.pointer (some ⟨w.heap.size + 1,1,none⟩),fun w9 hC9=>?_,?_⟩)
             ·go_simp
             try simp only [Act.put,lsa,lsz,lss]
             refine hK _ ?_;clear hK K;refine calm_one (fun K hK=>⟨by kernel_rfl,.slice (some ⟨pb,po,none⟩) n qc,fun w9 hC9=>?_,?_⟩)
             ·obtain ⟨s0,s1,s2,s3,s4,s5,s6,s7,s8,s9,s10⟩:=HKS.out.later _ hC9
              go_simp
             try simp only [Act.put,lsa,lsz,lss]
             refine hK _ ?_;clear hK K;refine calm_one (fun K hK=>⟨by kernel_rfl,.int .i64 (k : Int),fun w9 hC9=>?_,?_⟩)
             ·go_simp
             try simp only [Act.put,lsa,lsz,lss]
             refine hK _ ?_;clear hK K;refine calm_one (fun K hK=>⟨by kernel_rfl,.pointer (some ⟨pb,po + k,none⟩),fun w9 hC9=>?_,?_⟩)
             ·go_simp
             try simp only [Act.put,lsa,lsz,lss]
             refine hK _ ?_;clear hK K;refine calm_one (fun K hK=>⟨by kernel_rfl,.int .i64 pk,fun w9 hC9=>?_,?_⟩)
             ·obtain ⟨s0,s1,s2,s3,s4,s5,s6,s7,s8,s9,s10⟩:=HKS.out.later _ hC9
              go_simp
             try simp only [Act.put,lsa,lsz,lss]
             refine hK _ ?_;clear hK K;refine calm_one (fun K hK=>⟨by kernel_rfl,.slice (some ⟨zb,zo,none⟩) n zc,fun w9 hC9=>?_,?_⟩)
             ·go_simp
             try simp only [Act.put,lsa,lsz,lss]
             refine hK _ ?_;clear hK K;refine calm_one (fun K hK=>⟨by kernel_rfl,.int .i64 (k : Int),fun w9 hC9=>?_,?_⟩)
             ·go_simp
             try simp only [Act.put,lsa,lsz,lss]
             refine hK _ ?_;clear hK K;refine calm_one (fun K hK=>⟨by kernel_rfl,.pointer (some ⟨zb,zo + k * 2,none⟩),fun w9 hC9=>?_,?_⟩)
             ·go_simp
             try simp only [Act.put,lsa,lsz,lss]
             refine hK _ ?_;clear hK K;refine calm_one (fun K hK=>⟨by kernel_rfl,.agg #[.int .i64 sw,.int .i64 sh],fun w9 hC9=>?_,?_⟩)
             ·obtain ⟨s0,s1,s2,s3,s4,s5,s6,s7,s8,s9,s10⟩:=HKS.out.later _ hC9
              go_simp
             try simp only [Act.put,lsa,lsz,lss]
             refine hK _ ?_;clear hK K;refine calm_one (fun K hK=>⟨by kernel_rfl,.int .i64 ak,fun w9 hC9=>?_,?_⟩)
             ·go_simp
              go_at_call 39;refine ((unhide HAR) _).mono ?_;rintro e w8 ⟨rfl,hE8⟩;exact ⟨rfl,hC9.trans (hE8.mono hC9.size)⟩
             try simp only [Act.put,lsa,lsz,lss]
             refine hK _ ?_;clear hK K;refine calm_one (fun K hK=>⟨by kernel_rfl,.int .i64 (pk + ak),fun w9 hC9=>?_,?_⟩)
             ·go_simp
             try simp only [Act.put,lsa,lsz,lss]
             refine hK _ ?_;clear hK K;refine calm_one (fun K hK=>⟨by kernel_rfl,.bool false,fun w9 hC9=>?_,?_⟩)
             ·go_simp
             try simp only [Act.put,lsa,lsz,lss]
             refine hK _ ?_;clear hK K;refine calm_one (fun K hK=>⟨by kernel_rfl,.bool false,fun w9 hC9=>?_,?_⟩)
             ·go_simp
             try simp only [Act.put,lsa,lsz,lss]
             refine hK _ ?_;clear hK K;refine calm_nil ?_;intro w9 hC9;go_wp2_with fail;go_roundw
             case rel=>exact ⟨j + 1,by omega,by go_num,HGO,hide (HBZ.out.trans (hC9.mono HBZ.out.size))⟩
             case measure=>simp [intOf]; omega
           ·have HGO:=hide (HGG.out (.inr (fun h=>c3 (HCL.out.1 h).2.1)))
            go_upto_region 12 with fail
            refine calm_region (Below wr.heap.size wr) (by kernel_rfl) (by kernel_rfl) (Below.refl _ _).drew ?_;refine calm_one (fun K hK=>⟨by kernel_rfl,.pointer (some ⟨w.heap.size + 1,1,none⟩),fun w9 hC9=>?_,?_⟩)
            ·go_simp
            try simp only [Act.put,lsa,lsz,lss]
            refine hK _ ?_;clear hK K;refine calm_one (fun K hK=>⟨by kernel_rfl,.slice (some ⟨pb,po,none⟩) n qc,fun w9 hC9=>?_,?_⟩)
            ·obtain ⟨s0,s1,s2,s3,s4,s5,s6,s7,s8,s9,s10⟩:=HKS.out.later _ hC9
             go_simp
            try simp only [Act.put,lsa,lsz,lss]
            refine hK _ ?_;clear hK K;refine calm_one (fun K hK=>⟨by kernel_rfl,.int .i64 (j : Int),fun w9 hC9=>?_,?_⟩)
            ·go_simp
            try simp only [Act.put,lsa,lsz,lss]
            refine hK _ ?_;clear hK K;refine calm_one (fun K hK=>⟨by kernel_rfl,.pointer (some ⟨pb,po + j,none⟩),fun w9 hC9=>?_,?_⟩)
            ·go_simp
            try simp only [Act.put,lsa,lsz,lss]
            refine hK _ ?_;clear hK K;refine calm_one (fun K hK=>⟨by kernel_rfl,.int .i64 pj,fun w9 hC9=>?_,?_⟩)
            ·obtain ⟨s0,s1,s2,s3,s4,s5,s6,s7,s8,s9,s10⟩:=HKS.out.later _ hC9
             go_simp
            try simp only [Act.put,lsa,lsz,lss]
            refine hK _ ?_;clear hK K;refine calm_one (fun K hK=>⟨by kernel_rfl,.bool true,fun w9 hC9=>?_,?_⟩)
            ·go_simp
            try simp only [Act.put,lsa,lsz,lss]
            refine hK _ ?_;clear hK K;refine calm_one (fun K hK=>⟨by kernel_rfl,.bool true,fun w9 hC9=>?_,?_⟩)
            ·go_simp
            try simp only [Act.put,lsa,lsz,lss]
            refine hK _ ?_;clear hK K;refine calm_one (fun K hK=>⟨by kernel_rfl,.slice (some ⟨xb,xo,none⟩) n xc,fun w9 hC9=>?_,?_⟩)
            ·go_simp
            try simp only [Act.put,lsa,lsz,lss]
            refine hK _ ?_;clear hK K;refine calm_one (fun K hK=>⟨by kernel_rfl,.int .i64 (k : Int),fun w9 hC9=>?_,?_⟩)
            ·go_simp
            try simp only [Act.put,lsa,lsz,lss]
            refine hK _ ?_;clear hK K;refine calm_one (fun K hK=>⟨by kernel_rfl,.pointer (some ⟨xb,xo + k * 2,none⟩),fun w9 hC9=>?_,?_⟩)
            ·go_simp
            try simp only [Act.put,lsa,lsz,lss]
            refine hK _ ?_;clear hK K;refine calm_one (fun K hK=>⟨by kernel_rfl,.agg #[.int .i64 sk.First,.int .i64 sk.Last],fun w9 hC9=>?_,?_⟩)
            ·obtain ⟨s0,s1,s2,s3,s4,s5,s6,s7,s8,s9,s10⟩:=HKS.out.later _ hC9
             go_simp
            try simp only [Act.put,lsa,lsz,lss]
            refine hK _ ?_;clear hK K;refine calm_one (fun K hK=>⟨by kernel_rfl,.slice (some ⟨xb,xo,none⟩) n xc,fun w9 hC9=>?_,?_⟩)
            ·go_simp
            try simp only [Act.put,lsa,lsz,lss]
            refine hK _ ?_;clear hK K;refine calm_one (fun K hK=>⟨by kernel_rfl,.int .i64 (j : Int),fun w9 hC9=>?_,?_⟩)
            ·go_simp
            try simp only [Act.put,lsa,lsz,lss]
            refine hK _ ?_;clear hK K;refine calm_one (fun K hK=>⟨by kernel_rfl,.pointer (some ⟨xb,xo + j * 2,none⟩),fun w9 hC9=>?_,?_⟩)
            ·go_simp
            try simp only [Act.put,lsa,lsz,lss]
            refine hK _ ?_;clear hK K;refine calm_one (fun K hK=>⟨by kernel_rfl,.agg #[.int .i64 sj.First,.int .i64 sj.Last],fun w9 hC9=>?_,?_⟩)
            ·obtain ⟨s0,s1,s2,s3,s4,s5,s6,s7,s8,s9,s10⟩:=HKS.out.later _ hC9
             go_simp
            try simp only [Act.put,lsa,lsz,lss]
            refine hK _ ?_;clear hK K;refine calm_one (fun K hK=>⟨by kernel_rfl,.bool true,fun w9 hC9=>?_,?_⟩)
            ·go_simp
             go_at_call 54;refine ((unhide HME) _).mono ?_;rintro e w8 ⟨rfl,hE8⟩;exact ⟨rfl,hC9.trans (hE8.mono hC9.size)⟩
            try simp only [Act.put,lsa,lsz,lss]
            refine hK _ ?_;clear hK K;refine calm_one (fun K hK=>⟨by kernel_rfl,.bool true,fun w9 hC9=>?_,?_⟩)
            ·go_simp
            try simp only [Act.put,lsa,lsz,lss]
            refine hK _ ?_;clear hK K;refine calm_one (fun K hK=>⟨by kernel_rfl,.bool true,fun w9 hC9=>?_,?_⟩)
            ·go_simp
            try simp only [Act.put,lsa,lsz,lss]
            refine hK _ ?_;clear hK K;refine calm_one (fun K hK=>⟨by kernel_rfl,.pointer (some ⟨w.heap.size + 1,1,none⟩),fun w9 hC9=>?_,?_⟩)
            ·go_simp
            try simp only [Act.put,lsa,lsz,lss]
            refine hK _ ?_;clear hK K;refine calm_one (fun K hK=>⟨by kernel_rfl,.slice (some ⟨pb,po,none⟩) n qc,fun w9 hC9=>?_,?_⟩)
            ·obtain ⟨s0,s1,s2,s3,s4,s5,s6,s7,s8,s9,s10⟩:=HKS.out.later _ hC9
             go_simp
            try simp only [Act.put,lsa,lsz,lss]
            refine hK _ ?_;clear hK K;refine calm_one (fun K hK=>⟨by kernel_rfl,.int .i64 (k : Int),fun w9 hC9=>?_,?_⟩)
            ·go_simp
            try simp only [Act.put,lsa,lsz,lss]
            refine hK _ ?_;clear hK K;refine calm_one (fun K hK=>⟨by kernel_rfl,.pointer (some ⟨pb,po + k,none⟩),fun w9 hC9=>?_,?_⟩)
            ·go_simp
            try simp only [Act.put,lsa,lsz,lss]
            refine hK _ ?_;clear hK K;refine calm_one (fun K hK=>⟨by kernel_rfl,.int .i64 pk,fun w9 hC9=>?_,?_⟩)
            ·obtain ⟨s0,s1,s2,s3,s4,s5,s6,s7,s8,s9,s10⟩:=HKS.out.later _ hC9
             go_simp
            try simp only [Act.put,lsa,lsz,lss]
            refine hK _ ?_;clear hK K;refine calm_one (fun K hK=>⟨by kernel_rfl,.pointer (some ⟨w.heap.size + 1,1,none⟩),fun w9 hC9=>?_,?_⟩)
            ·go_simp
            try simp only [Act.put,lsa,lsz,lss]
            refine hK _ ?_;clear hK K;refine calm_one (fun K hK=>⟨by kernel_rfl,.slice (some ⟨pb,po,none⟩) n qc,fun w9 hC9=>?_,?_⟩)
            ·obtain ⟨s0,s1,s2,s3,s4,s5,s6,s7,s8,s9,s10⟩:=HKS.out.later _ hC9
             go_simp
            try simp only [Act.put,lsa,lsz,lss]
            refine hK _ ?_;clear hK K;refine calm_one (fun K hK=>⟨by kernel_rfl,.int .i64 (j : Int),fun w9 hC9=>?_,?_⟩)
            ·go_simp
            try simp only [Act.put,lsa,lsz,lss]
            refine hK _ ?_;clear hK K;refine calm_one (fun K hK=>⟨by kernel_rfl,.pointer (some ⟨pb,po + j,none⟩),fun w9 hC9=>?_,?_⟩)
            ·go_simp
            try simp only [Act.put,lsa,lsz,lss]
            refine hK _ ?_;clear hK K;refine calm_one (fun K hK=>⟨by kernel_rfl,.int .i64 pj,fun w9 hC9=>?_,?_⟩)
            ·obtain ⟨s0,s1,s2,s3,s4,s5,s6,s7,s8,s9,s10⟩:=HKS.out.later _ hC9
             go_simp
            try simp only [Act.put,lsa,lsz,lss]
            refine hK _ ?_;clear hK K;refine calm_one (fun K hK=>⟨by kernel_rfl,.slice (some ⟨zb,zo,none⟩) n zc,fun w9 hC9=>?_,?_⟩)
            ·go_simp
            try simp only [Act.put,lsa,lsz,lss]
            refine hK _ ?_;clear hK K;refine calm_one (fun K hK=>⟨by kernel_rfl,.int .i64 (j : Int),fun w9 hC9=>?_,?_⟩)
            ·go_simp
            try simp only [Act.put,lsa,lsz,lss]
            refine hK _ ?_;clear hK K;refine calm_one (fun K hK=>⟨by kernel_rfl,.pointer (some ⟨zb,zo + j * 2,none⟩),fun w9 hC9=>?_,?_⟩)
            ·go_simp
            try simp only [Act.put,lsa,lsz,lss]
            refine hK _ ?_;clear hK K;refine calm_one (fun K hK=>⟨by kernel_rfl,.agg #[.int .i64 tw,.int .i64 th],fun w9 hC9=>?_,?_⟩)
            ·obtain ⟨s0,s1,s2,s3,s4,s5,s6,s7,s8,s9,s10⟩:=HKS.out.later _ hC9
             go_simp
            try simp only [Act.put,lsa,lsz,lss]
            refine hK _ ?_;clear hK K;refine calm_one (fun K hK=>⟨by kernel_rfl,.int .i64 aj,fun w9 hC9=>?_,?_⟩)
            ·go_simp
             go_at_call 39;refine ((unhide HAJ) _).mono ?_;rintro e w8 ⟨rfl,hE8⟩;exact ⟨rfl,hC9.trans (hE8.mono hC9.size)⟩
            try simp only [Act.put,lsa,lsz,lss]
            refine hK _ ?_;clear hK K;refine calm_one (fun K hK=>⟨by kernel_rfl,.int .i64 (pj + aj),fun w9 hC9=>?_,?_⟩)
            ·go_simp
            try simp only [Act.put,lsa,lsz,lss]
            refine hK _ ?_;clear hK K;refine calm_one (fun K hK=>⟨by kernel_rfl,.bool false,fun w9 hC9=>?_,?_⟩)
            ·go_simp
            try simp only [Act.put,lsa,lsz,lss]
            refine hK _ ?_;clear hK K;refine calm_one (fun K hK=>⟨by kernel_rfl,.bool false,fun w9 hC9=>?_,?_⟩)
            ·go_simp
            try simp only [Act.put,lsa,lsz,lss]
            refine hK _ ?_;clear hK K;refine calm_one (fun K hK=>⟨by kernel_rfl,.bool false,fun w9 hC9=>?_,?_⟩)
            ·go_simp
            try simp only [Act.put,lsa,lsz,lss]
            refine hK _ ?_;clear hK K;refine calm_not (fun K hK=>⟨by kernel_rfl,?_⟩);try simp only [Act.put,lsa,lsz,lss]
            refine hK _ ?_;clear hK K;refine calm_not (fun K hK=>⟨by kernel_rfl,?_⟩);try simp only [Act.put,lsa,lsz,lss]
            refine hK _ ?_;clear hK K;refine calm_not (fun K hK=>⟨by kernel_rfl,?_⟩);try simp only [Act.put,lsa,lsz,lss]
            refine hK _ ?_;clear hK K;refine calm_not (fun K hK=>⟨by kernel_rfl,?_⟩);try simp only [Act.put,lsa,lsz,lss]
            refine hK _ ?_;clear hK K;refine calm_not (fun K hK=>⟨by kernel_rfl,?_⟩);try simp only [Act.put,lsa,lsz,lss]
            refine hK _ ?_;clear hK K;refine calm_not (fun K hK=>⟨by kernel_rfl,?_⟩);try simp only [Act.put,lsa,lsz,lss]
            refine hK _ ?_;clear hK K;refine calm_not (fun K hK=>⟨by kernel_rfl,?_⟩);try simp only [Act.put,lsa,lsz,lss]
            refine hK _ ?_;clear hK K;refine calm_not (fun K hK=>⟨by kernel_rfl,?_⟩);try simp only [Act.put,lsa,lsz,lss]
            refine hK _ ?_;clear hK K;refine calm_not (fun K hK=>⟨by kernel_rfl,?_⟩);try simp only [Act.put,lsa,lsz,lss]
            refine hK _ ?_;clear hK K;refine calm_not (fun K hK=>⟨by kernel_rfl,?_⟩);try simp only [Act.put,lsa,lsz,lss]
            refine hK _ ?_;clear hK K;refine calm_not (fun K hK=>⟨by kernel_rfl,?_⟩);try simp only [Act.put,lsa,lsz,lss]
            refine hK _ ?_;clear hK K;refine calm_not (fun K hK=>⟨by kernel_rfl,?_⟩);try simp only [Act.put,lsa,lsz,lss]
            refine hK _ ?_;clear hK K;refine calm_not (fun K hK=>⟨by kernel_rfl,?_⟩);try simp only [Act.put,lsa,lsz,lss]
            refine hK _ ?_;clear hK K;refine calm_not (fun K hK=>⟨by kernel_rfl,?_⟩);try simp only [Act.put,lsa,lsz,lss]
            refine hK _ ?_;clear hK K;refine calm_not (fun K hK=>⟨by kernel_rfl,?_⟩);try simp only [Act.put,lsa,lsz,lss]
            refine hK _ ?_;clear hK K;refine calm_not (fun K hK=>⟨by kernel_rfl,?_⟩);try simp only [Act.put,lsa,lsz,lss]
            refine hK _ ?_;clear hK K;refine calm_not (fun K hK=>⟨by kernel_rfl,?_⟩);try simp only [Act.put,lsa,lsz,lss]
            refine hK _ ?_;clear hK K;refine calm_one (fun K hK=>⟨by kernel_rfl,.bool false,fun w9 hC9=>?_,?_⟩)
            ·go_simp
            try simp only [Act.put,lsa,lsz,lss]
            refine hK _ ?_;clear hK K;refine calm_nil ?_;intro w9 hC9;go_wp2_with fail;go_roundw
            case rel=>exact ⟨j + 1,by omega,by go_num,HGO,hide (HBZ.out.trans (hC9.mono HBZ.out.size))⟩
            case measure=>simp [intOf]; omega
       ·obtain rfl : j = k:=by omega
        go_wp2_with fail;go_roundw
        case rel=>exact ⟨j + 1,by omega,by go_num,hide (HNX.out (.inr ⟨by rw [HPK.out,HAK.out]; exact HINR.out,HJ.out⟩)),HBZ⟩
        case measure=>simp [intOf]; omega
  ·obtain rfl : k = n:=by omega
   go_wp2_with fail;go_ret;exact retTest_yes (fun t ht=>HFT.out t (by rw [HFN.out] at ht; exact ht)) (HB3.out.trans (HBW.out.mono HB3.out.size))
end Go.Proofs.YtibpmogmeoappabGreat
