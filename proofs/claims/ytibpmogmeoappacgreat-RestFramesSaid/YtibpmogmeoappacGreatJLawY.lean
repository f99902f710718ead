/- Walk: the law RestFrames. -/
import Derived.Deep.DeepCutAuto
import Derived.Test.YtibpmogmeoappacGreatJLawY0
import Derived.Test.YtibpmogmeoappacGreatJExcK
import Derived.Test.YtibpmogmeoappacGreatJFitJ
import Derived.Test.YtibpmogmeoappacGreatJFitK
import Derived.Test.YtibpmogmeoappacGreatJFrmR
import Derived.Test.YtibpmogmeoappacGreatJNeedE
import Derived.Test.YtibpmogmeoappacGreatJImgH
set_option maxRecDepth 100000
set_option maxHeartbeats 16000000
namespace Go.Proofs.YtibpmogmeoappacGreat
open Go.RowKit
def Mem25 (b9 b : Nat) (W H S O : Int) (PA : Option Addr) (n c : Nat) (OA : Option Addr) (on oc : Nat) (QA : Option Addr) (qn qc : Nat) (U V : Int) (A : Option Addr) (m d : Nat) (w : World) : Prop :=
 (w.cell? ⟨b9,0,none⟩ = some (.int .i64 W) ∧ w.cell? ⟨b9,1,none⟩ = some (.int .i64 H) ∧ w.cell? ⟨b9,2,none⟩ = some (.int .i64 S) ∧ w.cell? ⟨b9,3,none⟩ = some (.int .i64 O) ∧ w.cell? ⟨b9,4,none⟩ = some (.slice PA n c)) ∧
  (w.cell? ⟨b9 + 1,0,none⟩ = some (.slice OA on oc) ∧ w.cell? ⟨b9 + 1,1,none⟩ = some (.slice QA qn qc)) ∧
  (w.cell? ⟨b,0,none⟩ = some (.int .i64 U) ∧ w.cell? ⟨b,1,none⟩ = some (.int .i64 V) ∧ w.cell? ⟨b,2,none⟩ = some (.slice A m d))
theorem Mem25.keep {b9 b : Nat} {W H S O : Int} {PA : Option Addr} {n c : Nat} {OA : Option Addr} {on oc : Nat} {QA : Option Addr} {qn qc : Nat} {U V : Int} {A : Option Addr} {m d : Nat} {w w' : World} (h : Mem25 b9 b W H S O PA n c OA on oc QA qn qc U V A m d w) (hb : Below w.heap.size w w') : Mem25 b9 b W H S O PA n c OA on oc QA qn qc U V A m d w' :=
 ⟨⟨keepC hb h.1.1,keepC hb h.1.2.1,keepC hb h.1.2.2.1,keepC hb h.1.2.2.2.1,keepC hb h.1.2.2.2.2⟩,⟨keepC hb h.2.1.1,keepC hb h.2.1.2⟩,⟨keepC hb h.2.2.1,keepC hb h.2.2.2.1,keepC hb h.2.2.2.2⟩⟩
def Mem28 (b9 b8 b : Nat) (W H S O : Int) (PA : Option Addr) (n c : Nat) (OA : Option Addr) (on oc : Nat) (QA : Option Addr) (qn qc : Nat) (U V : Int) (A : Option Addr) (m d : Nat) (w : World) : Prop :=
 (w.cell? ⟨b9,0,none⟩ = some (.int .i64 W) ∧ w.cell? ⟨b9,1,none⟩ = some (.int .i64 H) ∧ w.cell? ⟨b9,2,none⟩ = some (.int .i64 S) ∧ w.cell? ⟨b9,3,none⟩ = some (.int .i64 O) ∧ w.cell? ⟨b9,4,none⟩ = some (.slice PA n c)) ∧
  (w.cell? ⟨b8,0,none⟩ = some (.slice OA on oc) ∧ w.cell? ⟨b8,1,none⟩ = some (.slice QA qn qc)) ∧
  (w.cell? ⟨b,0,none⟩ = some (.int .i64 U) ∧ w.cell? ⟨b,1,none⟩ = some (.int .i64 V) ∧ w.cell? ⟨b,2,none⟩ = some (.slice A m d))
theorem Mem28.keep {b9 b8 b : Nat} {W H S O : Int} {PA : Option Addr} {n c : Nat} {OA : Option Addr} {on oc : Nat} {QA : Option Addr} {qn qc : Nat} {U V : Int} {A : Option Addr} {m d : Nat} {w w' : World} (h : Mem28 b9 b8 b W H S O PA n c OA on oc QA qn qc U V A m d w) (hb : Below w.heap.size w w') : Mem28 b9 b8 b W H S O PA n c OA on oc QA qn qc U V A m d w' :=
 ⟨⟨keepC hb h.1.1,keepC hb h.1.2.1,keepC hb h.1.2.2.1,keepC hb h.1.2.2.2.1,keepC hb h.1.2.2.2.2⟩,⟨keepC hb h.2.1.1,keepC hb h.2.1.2⟩,⟨keepC hb h.2.2.1,keepC hb h.2.2.2.1,keepC hb h.2.2.2.2⟩⟩
theorem restFrames_any (W H S O : Int) (PA : Option Addr) (n c : Nat) (ps : List Pas) (OA : Option Addr) (on oc : Nat) (Od : List Int) (QA : Option Addr) (qn qc : Nat) (Pl : List Int) (GA : Option Addr) (gn gc : Nat) (l : List Int) (w : World) (hn : ps.length = n) (hP : Passes w PA ps) (hl : n * 64 ≤ 140737488351232) (hl8 : ∀ p ∈ ps,p.L.length * 32 ≤ 140737488351232)
 (hon : Od.length = on) (hO : Ints w OA Od) (hol : on ≤ 9223372036854775807) (hoc : on ≤ oc) (hqn : Pl.length = qn) (hQ : Ints w QA Pl) (hql : qn ≤ 9223372036854775807) (hgn : l.length = gn) (hG : Ints w GA l) (hgl : gn * 8 ≤ 140737488351232) (hgc : gn ≤ gc) :
 Calls Tryz.prog 3 #[.agg #[.int .i64 W,.int .i64 H,.int .i64 S,.int .i64 O,.slice PA n c],.agg #[.slice OA on oc,.slice QA qn qc],.slice GA gn gc] w fun e w'=>e = .returned (.bool true) ∧ Below w.heap.size w w':=by
 have hb:=((Below.refl w.heap.size w).alloc (Nat.le_refl _) (.cells #[.int .i64 W,.int .i64 H,.int .i64 S,.int .i64 O,.slice PA n c] 24)).alloc (by simp) (.cells #[.slice OA on oc,.slice QA qn qc] 27);have hbx:=(show FrmBox (w.alloc (.cells #[.int .i64 W,.int .i64 H,.int .i64 S,.int .i64 O,.slice PA n c] 24)) w.heap.size W H S O PA n c from Blk.new w 24 (frmCells W H S O PA n c)).alloc (.cells #[.slice OA on oc,.slice QA qn qc] 27);have hpx : Blk ((w.alloc (.cells #[.int .i64 W,.int .i64 H,.int .i64 S,.int .i64 O,.slice PA n c] 24)).alloc (.cells #[.slice OA on oc,.slice QA qn qc] 27)) (w.heap.size + 1) 27 [.slice OA on oc,.slice QA qn qc]:=Blk.newE (by simp);obtain ⟨p,hp⟩ : ∃ p : Pln,p = ⟨Od,Pl⟩:=⟨_,rfl⟩;have hop : p.Order = Od:=by rw [hp]
 have hqp : p.Places = Pl:=by rw [hp]
 rw [← hop] at hon hO;rw [← hqp] at hqn hQ;have hrn:=fun (W0 : World) (h1 : Passes W0 PA ps)=>render_new W H S O PA n c ps W0 hn h1;have hst:=fun (W0 : World) (h1 : Passes W0 PA ps) (h2 : Ints W0 OA p.Order) (h3 : Ints W0 QA p.Places) (h4 : Ints W0 GA l)=>execRun_any W H S O PA n c ps OA on oc QA qn qc p GA gn gc l W0 hn h1 h2 hon hol hoc h3 hqn hql h4 hgn (by omega);have hcm:=fun (W0 : World) (h1 : Passes W0 PA ps)=>compile_any W H S O PA n c ps W0 hn h1
 have how:=fun (W0 : World) (h1 : Passes W0 PA ps)=>(show Calls Tryz.prog 7 #[.agg #[.int .i64 W,.int .i64 H,.int .i64 S,.int .i64 O,.slice PA n c]] W0 (fun e w'=>∃ (A : Option Addr) (d : Nat),e = .returned (.agg #[.int .i64 W,.int .i64 H,.int .i64 S,.int .i64 O,.slice A n d]) ∧ Passes w' A ps ∧ Below W0.heap.size W0 w') from
  (ownFrame_gen W H S O PA n c ps W0 hn h1 hl hl8).mono (fun e w' ⟨A,m,d,es,g1,g2,g3,_,g5⟩=>by
   obtain rfl : m = n:=g2.symm.trans hn
   exact ⟨A,d,g1,g3.passes,g5⟩))
 have hio:=hO.keep hb;have hiq:=hQ.keep hb;have hig:=hG.keep hb;have hpa:=hP.keep hb;obtain ⟨f,hf⟩ : ∃ f : Frm,f = ⟨W,H,S,O,ps⟩:=⟨_,rfl⟩;have hfs : f.W = W ∧ f.H = H ∧ f.S = S ∧ f.O = O ∧ f.P = ps:=by rw [hf]; exact ⟨rfl,rfl,rfl,rfl,rfl⟩
 rw [← hf] at hrn hst hcm;obtain ⟨w1,hw1⟩ : ∃ w1,((w.alloc (.cells #[.int .i64 W,.int .i64 H,.int .i64 S,.int .i64 O,.slice PA n c] 24)).alloc (.cells #[.slice OA on oc,.slice QA qn qc] 27)) = w1:=⟨_,rfl⟩;rw [hw1] at hb hbx hpx hio hiq hig hpa;obtain ⟨z,hz⟩ : ∃ z,execErr f p l = z:=⟨_,rfl⟩;obtain ⟨er,hee⟩ : ∃ z,frErr f = z:=⟨_,rfl⟩;rw [hz] at hst;rw [hee] at hcm hrn;have HZ:=hide hz;have HEE:=hide hee;have hxe:=fun (W0 : World) (h1 : Passes W0 PA ps) (h2 : Ints W0 OA p.Order) (h3 : Ints W0 QA p.Places) (h4 : Ints W0 GA l)=>execError_ref W H S O PA n c ps OA on oc QA qn qc p GA gn gc l W0 hn h1 (by omega) h2 hon hol h3 hqn hql h4 hgn (by omega)
 have hxr:=fun (g s : Nat) (h : GA = some ⟨g,s,none⟩) (W0 : World) (h1 : Passes W0 PA ps) (h2 : Ints W0 OA p.Order) (h3 : Ints W0 QA p.Places) (h4 : Ints W0 GA l) (hok : ArOk ⟨W,H,S,O,ps⟩ p l)=>(show Calls Tryz.prog 15 #[.agg #[.int .i64 W,.int .i64 H,.int .i64 S,.int .i64 O,.slice PA n c],.agg #[.slice OA on oc,.slice QA qn qc],.slice GA gn gc] W0 (RetImg W0 (runImg ⟨W,H,S,O,ps⟩ p l)) from by
  subst h; exact runOf_ref W H S O PA n c ps OA on oc QA qn qc p g s gn gc l W0 hn h1 (by omega) h2 hon h3 hqn h4 hgn hgc hok)
 rw [← hf,hz] at hxe;rw [← hf] at hxr;have hxc:=fun (W0 : World) (h1 : Passes W0 PA ps)=>checkFrame_ref W H S O PA n c ps W0 hn h1 (by omega);have hxp:=fun (hok : FrmOk ⟨W,H,S,O,ps⟩) (W0 : World) (h1 : Passes W0 PA ps)=>compileOf_ref W H S O PA n c ps W0 hn h1 hok;have hxf:=fun (hok : FrmOk ⟨W,H,S,O,ps⟩) (W0 : World) (h1 : Passes W0 PA ps)=>renderOf_ref W H S O PA n c ps W0 hn h1 hok;rw [← hf] at hxc hxp hxf;rw [hee] at hxc;have HCF:=hide hxc;have HCP:=hide hxp;have HRF:=hide hxf;have HXE:=hide hxe;have HXR:=hide hxr;have HB:=hide hb;have HK1:=hide (((((Keeps.blk hbx).and (Keeps.blk hpx)).and (Keeps.passes hpa)).and ((Keeps.ints hio).and (Keeps.ints hiq))).and (Keeps.ints hig));have HRN:=hide hrn;have HST:=hide hst;have HCM:=hide hcm;have HOW:=hide how;have HGN:=hide hgn;have HNN:=hide hn;have HFW:=hide (show (runAns f p l).P.length ≤ 65536 ∧ (compAns f).Order.length ≤ 65536 ∧ (compAns f).Places.length ≤ 65536 ∧ (frAns f).P.length ≤ 65536 from ⟨runAns_few f p l,(compAns_few f).1,(compAns_few f).2,frAns_few f⟩);have HFS:=hide hfs;have HFE:=hide hf;clear hn hP hl8 hon hO hol hoc hqn hQ hql hG hb hbx hpx hio hiq hig hpa hp hop hqp hf hrn hst hcm how hgn hfs hz hee hxe hxr hxc hxp hxf;go_enter Tryz.func3,Tryz.ntmps3
 go_wp2_with fail;refine (execBegun_any _).mono ?_;rintro e w2 ⟨rfl,hE2⟩;have HB2:=hide (HB.out.trans (hE2.mono HB.out.size));have HK2:=hide (HK1.out.move hE2);clear hw1 hE2 HB HK1;go_wp2_with fail;refine (fitBegun_any _).mono ?_;rintro e w3 ⟨rfl,hE3⟩;have HB3:=hide (HB2.out.trans (hE3.mono HB2.out.size));have HK3:=hide (HK2.out.move hE3);clear hE3 HB2 HK2;obtain ⟨x,q0,q1,q2,q3,q4⟩:=FrmBox.cells (show FrmBox _ _ W H S O PA n c from HK3.out.now.1.1.1.1);go_wp2_with fail;refine ((unhide HOW) _ HK3.out.now.1.1.2).mono ?_;rintro e w4 ⟨A4,c4,rfl,hP4,hE4⟩;have hal : Below w4.heap.size w4 ((w4.alloc (.cells #[.int .i64 W,.int .i64 H,.int .i64 S,.int .i64 O,.slice A4 n c4] 24)).alloc (.cells #[] 3)):=((Below.refl _ _).alloc (Nat.le_refl _) _).alloc (by simp) _;have hbx4:=(show FrmBox ((w4.alloc (.cells #[.int .i64 W,.int .i64 H,.int .i64 S,.int .i64 O,.slice A4 n c4] 24)).alloc (.cells #[] 3)) w4.heap.size W H S O A4 n c4 from (Blk.new w4 24 (frmCells W H S O A4 n c4)).alloc _);have hE4a:=hE4.trans (hal.mono hE4.size);have HB4:=hide (HB3.out.trans (hE4a.mono HB3.out.size));have HK4:=hide ((HK3.out.move hE4a).and ((Keeps.blk hbx4).and (Keeps.passes (hP4.keep hal))));clear hal hbx4 hE4a hE4 hP4 HB3 HK3 x q0 q1 q2 q3 q4 HOW;obtain ⟨i0,hi0,hz0,hz1,hz2⟩:=info_parts Tryz.info3;go_wp2_with (at_builtin; go_loud (refine wpList_copy ((w4.alloc (.cells #[.int .i64 W,.int .i64 H,.int .i64 S,.int .i64 O,.slice A4 n c4] 24)).alloc (.cells #[] 3)) rfl _ _ 25 rfl 3 i0 _ 1 8 Tryz.underlying25 hi0 hz0 hz1 hz2 rfl (by omega) _ rfl GA gn gc (l.map (.int .i64)) rfl (by rw [List.length_map,HGN.out]; omega) HK4.out.now.1.2 (fun u hu=>by obtain ⟨v,-,rfl⟩:=List.mem_map.1 hu; rfl) (by simp only [maxLen]; omega) (by omega) ?_; intro A5 c5 w5 hc5 hn5 hE5; have HB5:=hide (HB4.out.trans (hE5.mono HB4.out.size)); have HK5:=hide ((HK4.out.move hE5).and (Keeps.ints (show Ints w5 A5 l from hc5))); clear hE5 hc5 hn5; obtain ⟨x,q0,q1,q2,q3,q4⟩:=FrmBox.cells (show FrmBox _ _ W H S O PA n c from HK5.out.now.1.1.1.1.1.1); obtain ⟨y,r0,r1⟩:=plan_box HK5.out.now.1.1.1.1.1.2))
 clear HB4 HK4;refine ((unhide HST) _ HK5.out.now.1.1.1.1.2 HK5.out.now.1.1.1.2.1 HK5.out.now.1.1.1.2.2 HK5.out.now.1.1.2).mono ?_;rintro e w6 ⟨U6,V6,P6,A6,n6,c6,hr6,hn6,rfl,hI6,hM6,hE6⟩;obtain ⟨B5,hB5⟩ : ∃ B,w5.heap.size = B:=⟨_,rfl⟩;have hal : Below w6.heap.size w6 (w6.alloc (.cells #[.int .i64 U6,.int .i64 V6,.slice A6 n6 c6] 31)):=(Below.refl _ _).alloc (Nat.le_refl _) _;have HB6:=hide (hE6.trans (hal.mono hE6.size));have HX6:=hide (Blk.new w6 31 [.int .i64 U6,.int .i64 V6,.slice A6 n6 c6]);have HW6:=hide (Wrt.of hI6 hn6 (fun _=>hM6) (.cells #[.int .i64 U6,.int .i64 V6,.slice A6 n6 c6] 31));have HS6:=hide (show w5.heap.size ≤ w6.heap.size from hE6.size)
 have hl6 : n6 ≤ 9223372036854775807:=by
  have h:=HFW.out.1;rw [← hr6] at h;simp only at h;omega
 clear hr6 hn6 hI6 hM6 hE6 hal x q0 q1 q2 q3 q4 y r0 r1;go_wp2_with fail;go_loopw [11] (fun s wr=>∃ k : Nat,k ≤ n6 ∧ s = .int .i64 (k : Int) ∧ Hid (Blk wr w6.heap.size 31 [.int .i64 U6,.int .i64 V6,.slice A6 n6 c6]) ∧ Hid (Wrt w5.heap.size A6 n6 w6.heap.size wr) ∧ Hid (Below w5.heap.size w5 wr)) (fun s _=>n6 - (intOf s).toNat)
 case atStart=>exact ⟨0,Nat.zero_le _,rfl,HX6,HW6,HB6⟩
 case round =>
  obtain ⟨k,hk,rfl,HX,HW,HBR⟩:=hrel;have k0 : wr.cell? ⟨w6.heap.size,2,none⟩ = some (.slice A6 n6 c6):=(HX.out.cell 2).trans rfl;have k1:=HX.out.lt;by_cases hlt : k < n6
  ·obtain ⟨g,v,rfl,hg,hc,hf,hb,hx,hw⟩:=HW.out.cell hlt (.int .i64 (-1))
   have hk0 : (0 : Int) ≤ (k : Int):=by omega
   have hk1 : (k : Int) < (n6 : Int):=by omega
   have HW2:=hide hw;have HX2:=hide (HX.out.far (p:=⟨g,k,none⟩) (fun e=>hx e.symm) (.int .i64 (-1)));have HB2:=hide (HBR.out.setCell (p:=⟨g,k,none⟩) hb (.int .i64 (-1)));clear hw hx hb;go_wp2_with fail;go_roundw
   case rel=>exact ⟨k + 1,by omega,by go_num,HX2,HW2,HB2⟩
   case measure=>simp [intOf]; omega
  ·obtain rfl : k = n6:=by omega
   obtain ⟨x,q0,q1,q2,q3,q4⟩:=FrmBox.cells (show FrmBox _ _ W H S O PA n c from (HK5.out.later _ HBR.out).1.1.1.1.1.1);go_wp2_with fail;refine ((unhide HCM) _ (HK5.out.later _ HBR.out).1.1.1.1.2).mono ?_;rintro e w7 ⟨OB,bn,bc,QB,m,d,rfl,hbn,hm,hO7,hQ7,hbc,-,hM7,-,hE7⟩;have hal : Below w7.heap.size w7 (w7.alloc (.cells #[.slice OB bn bc,.slice QB m d] 27)):=(Below.refl _ _).alloc (Nat.le_refl _) _;have hE7a:=hE7.trans (hal.mono hE7.size);have HB7:=hide (HBR.out.trans (hE7a.mono HBR.out.size));have HX7:=hide (Blk.new w7 27 [.slice OB bn bc,.slice QB m d]);have HW7:=hide (Wrt.of hO7 hbn (fun _=>hM7.mono HBR.out.size) (.cells #[.slice OB bn bc,.slice QB m d] 27));have hl7 : bn ≤ 65536:=by have:=HFW.out.2.1; omega
   clear hbn hm hO7 hQ7 hbc hM7 hE7 hE7a hal x q0 q1 q2 q3 q4 k0 k1 HX HW;go_wp2_with fail;go_loopw [14] (fun s wr=>∃ k : Nat,k ≤ bn ∧ s = .int .i64 (k : Int) ∧ Hid (Blk wr w7.heap.size 27 [.slice OB bn bc,.slice QB m d]) ∧ Hid (Wrt w5.heap.size OB bn w7.heap.size wr) ∧ Hid (Below w5.heap.size w5 wr)) (fun s _=>bn - (intOf s).toNat)
   case atStart=>exact ⟨0,Nat.zero_le _,rfl,HX7,HW7,HB7⟩
   case round =>
    clear HBR HX7 HW7 HB7;obtain ⟨k2,hk2,rfl,HX,HW,HBR⟩:=hrel;have k0 : wr.cell? ⟨w7.heap.size,0,none⟩ = some (.slice OB bn bc):=(HX.out.cell 0).trans rfl;have k1:=HX.out.lt;by_cases hlt2 : k2 < bn
    ·obtain ⟨g,v,rfl,hg,hc,hf,hb,hx,hw⟩:=HW.out.cell hlt2 (.int .i64 (-1))
     have hk0 : (0 : Int) ≤ (k2 : Int):=by omega
     have hk1 : (k2 : Int) < (bn : Int):=by omega
     have HW2:=hide hw;have HX2:=hide (HX.out.far (p:=⟨g,k2,none⟩) (fun e=>hx e.symm) (.int .i64 (-1)));have HB2:=hide (HBR.out.setCell (p:=⟨g,k2,none⟩) hb (.int .i64 (-1)));clear hw hx hb;go_wp2_with fail;go_roundw
     case rel=>exact ⟨k2 + 1,by omega,by go_num,HX2,HW2,HB2⟩
     case measure=>simp [intOf]; omega
    ·obtain rfl : k2 = bn:=by omega
     obtain ⟨x,q0,q1,q2,q3,q4⟩:=FrmBox.cells (show FrmBox _ _ W H S O PA n c from (HK5.out.later _ HBR.out).1.1.1.1.1.1);go_wp2_with fail;refine ((unhide HRN) _ (HK5.out.later _ HBR.out).1.1.1.1.2).mono ?_;rintro e w8 ⟨U8,V8,P8,A8,n8,c8,hr8,hn8,rfl,hI8,hM8,hE8⟩;have hal : Below w8.heap.size w8 (w8.alloc (.cells #[.int .i64 U8,.int .i64 V8,.slice A8 n8 c8] 31)):=(Below.refl _ _).alloc (Nat.le_refl _) _;have hE8a:=hE8.trans (hal.mono hE8.size);have HB8:=hide (HBR.out.trans (hE8a.mono HBR.out.size));have HX8:=hide (Blk.new w8 31 [.int .i64 U8,.int .i64 V8,.slice A8 n8 c8]);have HW8:=hide (Wrt.of hI8 hn8 (fun h=>(hM8 h).mono HBR.out.size) (.cells #[.int .i64 U8,.int .i64 V8,.slice A8 n8 c8] 31))
     have hl8 : n8 ≤ 65536:=by
      have h:=HFW.out.2.2.2;rw [← hr8] at h;simp only at h;omega
     clear hr8 hn8 hI8 hM8 hE8 hE8a hal x q0 q1 q2 q3 q4 k0 k1 HX HW;go_wp2_with fail;go_loopw [17] (fun s wr=>∃ k : Nat,k ≤ n8 ∧ s = .int .i64 (k : Int) ∧ Hid (Blk wr w8.heap.size 31 [.int .i64 U8,.int .i64 V8,.slice A8 n8 c8]) ∧ Hid (Wrt w5.heap.size A8 n8 w8.heap.size wr) ∧ Hid (Below w5.heap.size w5 wr)) (fun s _=>n8 - (intOf s).toNat)
     case atStart=>exact ⟨0,Nat.zero_le _,rfl,HX8,HW8,HB8⟩
     case round =>
      clear HBR HX8 HW8 HB8;obtain ⟨k3,hk3,rfl,HX,HW,HBR⟩:=hrel;have k0 : wr.cell? ⟨w8.heap.size,2,none⟩ = some (.slice A8 n8 c8):=(HX.out.cell 2).trans rfl;have k1:=HX.out.lt;by_cases hlt3 : k3 < n8
      ·obtain ⟨g,v,rfl,hg,hc,hf,hb,hx,hw⟩:=HW.out.cell hlt3 (.int .i64 (-1))
       have hk0 : (0 : Int) ≤ (k3 : Int):=by omega
       have hk1 : (k3 : Int) < (n8 : Int):=by omega
       have HW2:=hide hw;have HX2:=hide (HX.out.far (p:=⟨g,k3,none⟩) (fun e=>hx e.symm) (.int .i64 (-1)));have HB2:=hide (HBR.out.setCell (p:=⟨g,k3,none⟩) hb (.int .i64 (-1)));clear hw hx hb;go_wp2_with fail;go_roundw
       case rel=>exact ⟨k3 + 1,by omega,by go_num,HX2,HW2,HB2⟩
       case measure=>simp [intOf]; omega
      ·obtain rfl : k3 = n8:=by omega
       obtain ⟨x,q0,q1,q2,q3,q4⟩:=FrmBox.cells (show FrmBox _ _ W H S O PA n c from (HK5.out.later _ HBR.out).1.1.1.1.1.1);obtain ⟨y,r0,r1⟩:=plan_box (HK5.out.later _ HBR.out).1.1.1.1.1.2;go_wp2_with fail;have hkk:=HK5.out.later _ HBR.out;refine ((unhide HST) _ hkk.1.1.1.1.2 hkk.1.1.1.2.1 hkk.1.1.1.2.2 hkk.1.1.2).mono ?_;rintro e w9 ⟨U9,V9,P9,A9,n9,c9,hr9,hn9,rfl,hI9,-,hE9⟩;have hal : Below w9.heap.size w9 (w9.alloc (.cells #[.int .i64 U9,.int .i64 V9,.slice A9 n9 c9] 31)):=(Below.refl _ _).alloc (Nat.le_refl _) _;have hE9a:=hE9.trans (hal.mono hE9.size);have HB9:=hide (HBR.out.trans (hE9a.mono HBR.out.size));have HC9:=hide ((Keeps.blk (Blk.new w9 31 [.int .i64 U9,.int .i64 V9,.slice A9 n9 c9])).and (Keeps.ints (hI9.keep hal)));have HR9:=hide (show Img.mk U9 V9 P9 = runAns f p l ∧ P9.length = n9 from ⟨hr9,hn9⟩)
       have hl9 : n9 ≤ 65536:=by
        have h:=HFW.out.1;rw [← hr9] at h;simp only at h;omega
       clear hr9 hn9 hI9 hE9 hal hE9a hkk k0 k1 HX HW x q0 q1 q2 q3 q4 y r0 r1 HBR;obtain ⟨x,q0,q1,q2,q3,q4⟩:=FrmBox.cells (show FrmBox _ _ W H S O PA n c from (HK5.out.later _ HB9.out).1.1.1.1.1.1);go_wp2_with fail;refine ((unhide HCM) _ (HK5.out.later _ HB9.out).1.1.1.1.2).mono ?_;rintro e w10 ⟨OR,rn,rc,QR,sn,sc,rfl,hrn,hsn,hO10,hQ10,-,-,-,-,hE10⟩;have hal : Below w10.heap.size w10 (w10.alloc (.cells #[.slice OR rn rc,.slice QR sn sc] 27)):=(Below.refl _ _).alloc (Nat.le_refl _) _;have hE10a:=hE10.trans (hal.mono hE10.size);have HB10:=hide (HB9.out.trans (hE10a.mono HB9.out.size));have HC10:=hide (HC9.out.move hE10a);have HD10:=hide (((Keeps.blk (Blk.new w10 27 [.slice OR rn rc,.slice QR sn sc])).and (Keeps.ints (hO10.keep hal))).and (Keeps.ints (hQ10.keep hal)));have HR10:=hide (show (compAns f).Order.length = rn ∧ (compAns f).Places.length = sn from ⟨hrn,hsn⟩);clear hrn hsn hO10 hQ10 hE10 hal hE10a HB9 HC9 x q0 q1 q2 q3 q4;obtain ⟨x,q0,q1,q2,q3,q4⟩:=FrmBox.cells (show FrmBox _ _ W H S O PA n c from (HK5.out.later _ HB10.out).1.1.1.1.1.1);go_wp2_with fail;refine ((unhide HRN) _ (HK5.out.later _ HB10.out).1.1.1.1.2).mono ?_;rintro e w11 ⟨U11,V11,P11,A11,n11,c11,hr11,hn11,rfl,hI11,-,hE11⟩;have hal : Below w11.heap.size w11 (w11.alloc (.cells #[.int .i64 U11,.int .i64 V11,.slice A11 n11 c11] 31)):=(Below.refl _ _).alloc (Nat.le_refl _) _;have hE11a:=hE11.trans (hal.mono hE11.size);have HB11:=hide (HB10.out.trans (hE11a.mono HB10.out.size));have HC11:=hide ((HC10.out.move hE11a).and (HD10.out.move hE11a));have HD11:=hide ((Keeps.blk (Blk.new w11 31 [.int .i64 U11,.int .i64 V11,.slice A11 n11 c11])).and (Keeps.ints (hI11.keep hal)));have HR11:=hide (show Img.mk U11 V11 P11 = frAns f ∧ P11.length = n11 from ⟨hr11,hn11⟩)
       have hl11 : n11 ≤ 65536:=by
        have h:=HFW.out.2.2.2;rw [← hr11] at h;simp only at h;omega
       clear hr11 hn11 hI11 hE11 hal hE11a HB10 HC10 HD10 x q0 q1 q2 q3 q4;have hkk:=HK5.out.later _ HB11.out;obtain ⟨x,q0,q1,q2,q3,q4⟩:=FrmBox.cells (show FrmBox _ _ W H S O PA n c from hkk.1.1.1.1.1.1);obtain ⟨x',p0,p1,p2,p3,p4⟩:=FrmBox.cells (show FrmBox _ _ W H S O A4 n c4 from hkk.1.2.1);have HSF:=hide (sameFrames_any W H S O PA A4 n c c4 ps _ HNN.out hkk.1.1.1.1.2 hkk.1.2.2 (by omega));have HSI:=hide (fun (W9 : World) (hb : Below w5.heap.size w5 W9)=>(show Calls Tryz.prog 12 #[.slice GA gn gc,.slice A5 gn c5] W9 (fun e w'=>e = .returned (.bool true) ∧ Below W9.heap.size W9 w') from (sameInts_any GA A5 gn gc gn c5 l l W9 HGN.out HGN.out (HK5.out.later _ hb).1.1.2 (HK5.out.later _ hb).2 (by omega)).mono fun _ _ ⟨h1,h2⟩=>⟨by rw [h1,decide_eq_true rfl],h2⟩));clear hkk;go_wp2_with fail;refine (unhide HSF).mono ?_;rintro e w12 ⟨rfl,hE12⟩;have HB12:=hide (HB11.out.trans (hE12.mono HB11.out.size));have HC12:=hide (HC11.out.move hE12);have HD12:=hide (HD11.out.move hE12);clear hE12 HSF HB11 HC11 HD11 x q0 q1 q2 q3 q4 x' p0 p1 p2 p3 p4;go_wp2_with fail;refine ((unhide HSI) _ HB12.out).mono ?_;rintro e w13 ⟨rfl,hE13⟩;have HB13:=hide (HB12.out.trans (hE13.mono HB12.out.size));have HC13:=hide (HC12.out.move hE13);have HD13:=hide (HD12.out.move hE13);clear hE13 HSI HB12 HC12 HD12;have hkk:=HK5.out.later _ HB13.out;obtain ⟨x,q0,q1,q2,q3,q4⟩:=FrmBox.cells (show FrmBox _ _ W H S O PA n c from hkk.1.1.1.1.1.1);obtain ⟨y,r0,r1⟩:=plan_box hkk.1.1.1.1.1.2;have HER:=hide (fun (W9 : World) (hb : Below w5.heap.size w5 W9)=>(unhide HXE) W9 (HK5.out.later _ hb).1.1.1.1.2 (HK5.out.later _ hb).1.1.1.2.1 (HK5.out.later _ hb).1.1.1.2.2 (HK5.out.later _ hb).1.1.2);have hm:=HC13.out.now.1.1;have hS00 : Mem25 w.heap.size w9.heap.size W H S O PA n c OA on oc QA qn qc U9 V9 A9 n9 c9 w13.drew:=⟨⟨q0,q1,q2,q3,q4⟩,⟨r0,r1⟩,⟨(hm.cell 0).trans rfl,(hm.cell 1).trans rfl,(hm.cell 2).trans rfl⟩⟩;have HS00:=hide hS00;clear hm hS00;go_upto_region 25 with fail
       go_cut [149] (fun s25 wx=>s25 = .bool false ∧ Hid (Below w5.heap.size w5 wx) ∧ Hid (Below w13.heap.size w13 wx))
       case first =>
        by_cases h0 : z = 0
        ·have hok:=execErr_zero.1 (HZ.out.trans h0)
         obtain ⟨gb,go,gv,hGA,_,_,_⟩:=(HK5.out.later _ HB13.out).1.1.2.at_ 0 hok.pos
         have HRO:=hide (fun (W9 : World) (hb : Below w5.heap.size w5 W9)=>(show Calls Tryz.prog 15 #[.agg #[.int .i64 W,.int .i64 H,.int .i64 S,.int .i64 O,.slice PA n c],.agg #[.slice OA on oc,.slice QA qn qc],.slice GA gn gc] W9 (fun e w'=>∃ (A : Option Addr) (d : Nat),e = .returned (.agg #[.int .i64 U9,.int .i64 V9,.slice A n9 d]) ∧ Ints w' A P9 ∧ Below W9.heap.size W9 w') from
          ((unhide HXR) gb go hGA W9 (HK5.out.later _ hb).1.1.1.1.2 (HK5.out.later _ hb).1.1.1.2.1 (HK5.out.later _ hb).1.1.1.2.2 (HK5.out.later _ hb).1.1.2 hok).mono (fun e w' ⟨U, V, P, A, m, d, g1, g2, g3, g4, _, g6⟩ => by
            have hi : runAns f p l = runImg f p l:=if_pos (HZ.out.trans h0);have hj:=HR9.out.1.trans (hi.trans g1.symm);injection hj with a1 a2 a3;subst a1 a2 a3;obtain rfl : n9 = m:=HR9.out.2.symm.trans g2
            exact ⟨A,d,g3,g4,g6⟩)))
         have HSM:=hide (fun (A : Option Addr) (d : Nat) (W9 : World) (h1 : Ints W9 A P9) (h2 : Ints W9 A9 P9)=>(show Calls Tryz.prog 14 #[.agg #[.int .i64 U9,.int .i64 V9,.slice A9 n9 c9],.agg #[.int .i64 U9,.int .i64 V9,.slice A n9 d]] W9 (fun e w'=>e = .returned (.bool true) ∧ Below W9.heap.size W9 w') from
          (sameImages_any U9 V9 U9 V9 A9 A n9 c9 n9 d P9 P9 W9 HR9.out.2 HR9.out.2 h2 h1 (by omega)).mono fun _ _ ⟨h1,h2⟩=>⟨by rw [h1,decide_eq_true rfl],h2⟩))
         subst h0;clear hok hGA;have hS0:=HS00.out;refine wp_region_B (Mem25 w.heap.size w9.heap.size W H S O PA n c OA on oc QA qn qc U9 V9 A9 n9 c9) (fun _=>false) (by kernel_rfl) ?_;refine AnyB.fr (i:=0) (.int .i64 0) rfl (by kernel_rfl) (fun w'=>?_) ?_
         ·go_simp
         try simp only [Act.put,lsa]
         refine AnyB.fr (i:=1) (.bool true) rfl (by kernel_rfl) (fun w'=>?_) ?_
         ·go_simp
         try simp only [Act.put]
         refine AnyB.tk (i:=2) (.agg #[.int .i64 W,.int .i64 H,.int .i64 S,.int .i64 O,.slice PA n c]) rfl (by kernel_rfl) (fun w' hS'=>?_) hS0 ?_
         ·obtain ⟨⟨e0,e1,e2,e3,e4⟩,⟨e5,e6⟩,⟨e7,e8,e9⟩⟩:=hS'
          go_simp
         try simp only [Act.put]
         refine AnyB.tk (i:=3) (.agg #[.slice OA on oc,.slice QA qn qc]) rfl (by kernel_rfl) (fun w' hS'=>?_) hS0 ?_
         ·obtain ⟨⟨e0,e1,e2,e3,e4⟩,⟨e5,e6⟩,⟨e7,e8,e9⟩⟩:=hS'
          go_simp
         try simp only [Act.put]
         refine AnyB.fr (i:=4) (.slice GA gn gc) rfl (by kernel_rfl) (fun w'=>?_) ?_
         ·go_simp
         try simp only [Act.put]
         refine AnyB.one (i:=5) (by kernel_rfl) rfl (fun K hK=>?_)
         go_simp;go_at_call 13;refine ((unhide HER) _ (HB13.out.drew)).mono ?_;rintro e w14 ⟨rfl,hE14⟩;have hB14:=(show Below w5.heap.size w5 w13.drew from HB13.out.drew).trans (hE14.mono (show w5.heap.size ≤ w13.drew.heap.size from HB13.out.size));have hS14:=Mem25.keep hS0 hE14;have hE14' : Below w13.heap.size w13 w14:=(Below.refl _ _).drew.trans hE14;refine hK.out _ _ (fun _ hs=>hs.keep hE14) ?_;clear hK K;try simp only [Act.put,lsa,lsz,lss]
         refine AnyB.fr (i:=6) (.bool true) rfl (by kernel_rfl) (fun w'=>?_) ?_
         ·go_simp
         try simp only [Act.put,lsa]
         refine AnyB.fr (i:=7) (.bool false) rfl (by kernel_rfl) (fun w'=>?_) ?_
         ·go_simp
         try simp only [Act.put]
         refine AnyB.fr (i:=8) (.bool false) rfl (by kernel_rfl) (fun w'=>?_) ?_
         ·go_simp
         try simp only [Act.put]
         refine AnyB.fr (i:=9) (.int .i64 0) rfl (by kernel_rfl) (fun w'=>?_) ?_
         ·go_simp
         try simp only [Act.put]
         refine AnyB.fr (i:=10) (.bool true) rfl (by kernel_rfl) (fun w'=>?_) ?_
         ·go_simp
         try simp only [Act.put]
         refine AnyB.fr (i:=11) (.bool true) rfl (by kernel_rfl) (fun w'=>?_) ?_
         ·go_simp
         try simp only [Act.put]
         refine AnyB.tk (i:=12) (.agg #[.int .i64 U9,.int .i64 V9,.slice A9 n9 c9]) rfl (by kernel_rfl) (fun w' hS'=>?_) hS14 ?_
         ·obtain ⟨⟨e0,e1,e2,e3,e4⟩,⟨e5,e6⟩,⟨e7,e8,e9⟩⟩:=hS'
          go_simp
         try simp only [Act.put]
         refine AnyB.tk (i:=13) (.agg #[.int .i64 W,.int .i64 H,.int .i64 S,.int .i64 O,.slice PA n c]) rfl (by kernel_rfl) (fun w' hS'=>?_) hS14 ?_
         ·obtain ⟨⟨e0,e1,e2,e3,e4⟩,⟨e5,e6⟩,⟨e7,e8,e9⟩⟩:=hS'
          go_simp
         try simp only [Act.put]
         refine AnyB.tk (i:=14) (.agg #[.slice OA on oc,.slice QA qn qc]) rfl (by kernel_rfl) (fun w' hS'=>?_) hS14 ?_
         ·obtain ⟨⟨e0,e1,e2,e3,e4⟩,⟨e5,e6⟩,⟨e7,e8,e9⟩⟩:=hS'
          go_simp
         try simp only [Act.put]
         refine AnyB.fr (i:=15) (.slice GA gn gc) rfl (by kernel_rfl) (fun w'=>?_) ?_
         ·go_simp
         try simp only [Act.put]
         refine AnyB.one (i:=16) (by kernel_rfl) rfl (fun K hK=>?_)
         go_simp;go_at_call 15;refine ((unhide HRO) _ hB14).mono ?_;rintro e w15 ⟨A15,c15,rfl,hI15,hE15⟩;have hB15:=hB14.trans (hE15.mono hB14.size);refine hK.out _ _ (fun _ hs=>hs.keep hE15) ?_;clear hK K;try simp only [Act.put,lsa,lsz,lss]
         refine AnyB.one (i:=17) (by kernel_rfl) rfl (fun K hK=>?_)
         go_simp;go_at_call 14;refine ((unhide HSM) A15 c15 _ hI15 (HC13.out.later _ (hE14'.trans (hE15.mono hE14'.size))).1.2).mono ?_;rintro e w16 ⟨rfl,hE16⟩;have hB16:=hB15.trans (hE16.mono hB15.size);refine hK.out _ _ (fun _ hs=>hs.keep hE16) ?_;clear hK K;try simp only [Act.put,lsa,lsz,lss]
         refine AnyB.fr (i:=18) (.bool false) rfl (by kernel_rfl) (fun w'=>?_) ?_
         ·go_simp
         try simp only [Act.put,lsa]
         refine AnyB.fr (i:=19) (.bool false) rfl (by kernel_rfl) (fun w'=>?_) ?_
         ·go_simp
         try simp only [Act.put]
         refine AnyB.fr (i:=20) (.bool false) rfl (by kernel_rfl) (fun w'=>?_) ?_
         ·go_simp
         try simp only [Act.put]
         refine AnyB.done (by kernel_rfl) ?_;simp only [List.getElem_toArray,List.getElem_cons_succ,List.getElem_cons_zero,List.setIfInBounds_toArray,List.set_cons_zero,List.set_cons_succ];go_wp2_with fail;go_meet
         exact ⟨rfl,hide hB16,hide (hE14'.trans ((hE15.trans (hE16.mono hE15.size)).mono hE14'.size))⟩
        ·have h0b : (z == 0) = false:=by simpa using h0
         have hS0:=HS00.out;refine wp_region_B (Mem25 w.heap.size w9.heap.size W H S O PA n c OA on oc QA qn qc U9 V9 A9 n9 c9) (fun _=>false) (by kernel_rfl) ?_;refine AnyB.fr (i:=0) (.int .i64 z) rfl (by kernel_rfl) (fun w'=>?_) ?_
         ·go_simp
         try simp only [Act.put,lsa]
         refine AnyB.fr (i:=1) (.bool false) rfl (by kernel_rfl) (fun w'=>?_) ?_
         ·go_simp
         try simp only [Act.put]
         refine AnyB.tk (i:=2) (.agg #[.int .i64 W,.int .i64 H,.int .i64 S,.int .i64 O,.slice PA n c]) rfl (by kernel_rfl) (fun w' hS'=>?_) hS0 ?_
         ·obtain ⟨⟨e0,e1,e2,e3,e4⟩,⟨e5,e6⟩,⟨e7,e8,e9⟩⟩:=hS'
          go_simp
         try simp only [Act.put]
         refine AnyB.tk (i:=3) (.agg #[.slice OA on oc,.slice QA qn qc]) rfl (by kernel_rfl) (fun w' hS'=>?_) hS0 ?_
         ·obtain ⟨⟨e0,e1,e2,e3,e4⟩,⟨e5,e6⟩,⟨e7,e8,e9⟩⟩:=hS'
          go_simp
         try simp only [Act.put]
         refine AnyB.fr (i:=4) (.slice GA gn gc) rfl (by kernel_rfl) (fun w'=>?_) ?_
         ·go_simp
         try simp only [Act.put]
         refine AnyB.one (i:=5) (by kernel_rfl) rfl (fun K hK=>?_)
         go_simp;go_at_call 13;refine ((unhide HER) _ (HB13.out.drew)).mono ?_;rintro e w14 ⟨rfl,hE14⟩;have hB14:=(show Below w5.heap.size w5 w13.drew from HB13.out.drew).trans (hE14.mono (show w5.heap.size ≤ w13.drew.heap.size from HB13.out.size));have hE14' : Below w13.heap.size w13 w14:=(Below.refl _ _).drew.trans hE14;refine hK.out _ _ (fun _ hs=>hs.keep hE14) ?_;clear hK K;try simp only [Act.put,lsa,lsz,lss]
         refine AnyB.fr (i:=6) (.bool false) rfl (by kernel_rfl) (fun w'=>?_) ?_
         ·go_simp
         try simp only [Act.put,lsa]
         refine AnyB.fr (i:=7) (.bool false) rfl (by kernel_rfl) (fun w'=>?_) ?_
         ·go_simp
         try simp only [Act.put]
         refine AnyB.fr (i:=8) (.bool false) rfl (by kernel_rfl) (fun w'=>?_) ?_
         ·go_simp
         try simp only [Act.put]
         refine AnyB.fr (i:=9) (.int .i64 z) rfl (by kernel_rfl) (fun w'=>?_) ?_
         ·go_simp
         try simp only [Act.put]
         refine AnyB.fr (i:=10) (.bool false) rfl (by kernel_rfl) (fun w'=>?_) ?_
         ·go_simp
         try simp only [Act.put]
         refine AnyB.fr (i:=11) (.bool false) rfl (by kernel_rfl) (fun w'=>?_) ?_
         ·go_simp
         try simp only [Act.put]
         refine AnyB.free (i:=12) undef rfl (by kernel_rfl) (by kernel_rfl) (by kernel_rfl) (fun _ _ _ h=>h) (Or.inr ⟨by kernel_rfl,rfl⟩) ?_;try simp only [Act.put]
         refine AnyB.free (i:=13) undef rfl (by kernel_rfl) (by kernel_rfl) (by kernel_rfl) (fun _ _ _ h=>h) (Or.inr ⟨by kernel_rfl,rfl⟩) ?_;try simp only [Act.put]
         refine AnyB.free (i:=14) undef rfl (by kernel_rfl) (by kernel_rfl) (by kernel_rfl) (fun _ _ _ h=>h) (Or.inr ⟨by kernel_rfl,rfl⟩) ?_;try simp only [Act.put]
         refine AnyB.free (i:=15) undef rfl (by kernel_rfl) (by kernel_rfl) (by kernel_rfl) (fun _ _ _ h=>h) (Or.inr ⟨by kernel_rfl,rfl⟩) ?_;try simp only [Act.put]
         refine AnyB.free (i:=16) undef rfl (by kernel_rfl) (by kernel_rfl) (by kernel_rfl) (fun _ _ _ h=>h) (Or.inr ⟨by kernel_rfl,rfl⟩) ?_;try simp only [Act.put]
         refine AnyB.free (i:=17) undef rfl (by kernel_rfl) (by kernel_rfl) (by kernel_rfl) (fun _ _ _ h=>h) (Or.inr ⟨by kernel_rfl,rfl⟩) ?_;try simp only [Act.put]
         refine AnyB.free (i:=18) undef rfl (by kernel_rfl) (by kernel_rfl) (by kernel_rfl) (fun _ _ _ h=>h) (Or.inr ⟨by kernel_rfl,rfl⟩) ?_;try simp only [Act.put]
         refine AnyB.fr (i:=19) (.bool false) rfl (by kernel_rfl) (fun w'=>?_) ?_
         ·go_simp
         try simp only [Act.put]
         refine AnyB.fr (i:=20) (.bool false) rfl (by kernel_rfl) (fun w'=>?_) ?_
         ·go_simp
         try simp only [Act.put]
         refine AnyB.done (by kernel_rfl) ?_;simp only [List.getElem_toArray,List.getElem_cons_succ,List.getElem_cons_zero,List.setIfInBounds_toArray,List.set_cons_zero,List.set_cons_succ];go_wp2_with fail;go_meet
         exact ⟨rfl,hide hB14,hide hE14'⟩
       case rest =>
        obtain ⟨rfl,HB16,HE16⟩:=hcut;have HC16:=hide (HC13.out.move HE16.out);have HD16:=hide (HD13.out.move HE16.out);clear HB13 HC13 HD13 HE16 HS00 HER x q0 q1 q2 q3 q4 y r0 r1;obtain ⟨x,q0,q1,q2,q3,q4⟩:=FrmBox.cells (show FrmBox _ _ W H S O PA n c from (HK5.out.later _ HB16.out).1.1.1.1.1.1);go_wp2_with fail;refine ((unhide HCF) _ (HK5.out.later _ HB16.out).1.1.1.1.2).mono ?_;rintro e w17 ⟨A17,n17,c17,rfl,-,-,hE17⟩;have HB17:=hide (HB16.out.trans (hE17.mono HB16.out.size));have HC17:=hide (HC16.out.move hE17);have HD17:=hide (HD16.out.move hE17);clear hE17 HB16 HC16 HD16 x q0 q1 q2 q3 q4;obtain ⟨x,q0,q1,q2,q3,q4⟩:=FrmBox.cells (show FrmBox _ _ W H S O PA n c from (HK5.out.later _ HB17.out).1.1.1.1.1.1);have hm:=HD17.out.now.1;obtain ⟨y9,m0,m1⟩:=plan_box HC17.out.now.2.1.1;have HS28:=hide (show Mem28 w.heap.size w10.heap.size w11.heap.size W H S O PA n c OR rn rc QR sn sc U11 V11 A11 n11 c11 w17.drew from ⟨⟨q0,q1,q2,q3,q4⟩,⟨m0,m1⟩,⟨(hm.cell 0).trans rfl,(hm.cell 1).trans rfl,(hm.cell 2).trans rfl⟩⟩);clear hm m0 m1 y9;go_upto_region 28 with fail
        go_cut [180] (fun s28 wx=>s28 = .bool false ∧ Hid (Below w5.heap.size w5 wx) ∧ Hid (Below w17.heap.size w17 wx))
        case first =>
         by_cases h2 : er = 0
         ·have hok2:=frErr_zero.1 (HEE.out.trans h2)
          have HCO:=hide (fun (W9 : World) (hb : Below w5.heap.size w5 W9)=>(unhide HCP) hok2 W9 (HK5.out.later _ hb).1.1.1.1.2)
          have HRE:=hide (fun (W9 : World) (hb : Below w5.heap.size w5 W9)=>(show Calls Tryz.prog 19 #[.agg #[.int .i64 W,.int .i64 H,.int .i64 S,.int .i64 O,.slice PA n c]] W9 (fun e w'=>∃ (A : Option Addr) (d : Nat),e = .returned (.agg #[.int .i64 U11,.int .i64 V11,.slice A n11 d]) ∧ Ints w' A P11 ∧ Below W9.heap.size W9 w') from
           ((unhide HRF) hok2 W9 (HK5.out.later _ hb).1.1.1.1.2).mono (fun e w' ⟨U, V, P, A, m, d, g1, g2, g3, g4, _, g6⟩ => by
             have hi : frAns f = frShown f:=if_pos (HEE.out.trans h2);have hj:=HR11.out.1.trans (hi.trans g1.symm);injection hj with a1 a2 a3;subst a1 a2 a3;obtain rfl : n11 = m:=HR11.out.2.symm.trans g2
             exact ⟨A,d,g3,g4,g6⟩)))
          have HSM:=hide (fun (A : Option Addr) (d : Nat) (W9 : World) (h1 : Ints W9 A P11) (h2 : Ints W9 A11 P11)=>(show Calls Tryz.prog 14 #[.agg #[.int .i64 U11,.int .i64 V11,.slice A11 n11 c11],.agg #[.int .i64 U11,.int .i64 V11,.slice A n11 d]] W9 (fun e w'=>e = .returned (.bool true) ∧ Below W9.heap.size W9 w') from
           (sameImages_any U11 V11 U11 V11 A11 A n11 c11 n11 d P11 P11 W9 HR11.out.2 HR11.out.2 h2 h1 (by omega)).mono fun _ _ ⟨h1,h2⟩=>⟨by rw [h1,decide_eq_true rfl],h2⟩))
          have HCE:=hide (show comp f = compAns f from (if_pos (HEE.out.trans h2)).symm);subst h2;clear hok2;have hS0:=HS28.out;refine wp_region_B (Mem28 w.heap.size w10.heap.size w11.heap.size W H S O PA n c OR rn rc QR sn sc U11 V11 A11 n11 c11) (fun _=>false) (by kernel_rfl) ?_;refine AnyB.fr (i:=0) (.int .i64 0) rfl (by kernel_rfl) (fun w'=>?_) ?_
          ·go_simp
          try simp only [Act.put,lsa]
          refine AnyB.fr (i:=1) (.int .i64 0) rfl (by kernel_rfl) (fun w'=>?_) ?_
          ·go_simp
          try simp only [Act.put]
          refine AnyB.fr (i:=2) (.bool false) rfl (by kernel_rfl) (fun w'=>?_) ?_
          ·go_simp
          try simp only [Act.put]
          refine AnyB.fr (i:=3) (.bool false) rfl (by kernel_rfl) (fun w'=>?_) ?_
          ·go_simp
          try simp only [Act.put]
          refine AnyB.fr (i:=4) (.int .i64 0) rfl (by kernel_rfl) (fun w'=>?_) ?_
          ·go_simp
          try simp only [Act.put]
          refine AnyB.fr (i:=5) (.int .i64 0) rfl (by kernel_rfl) (fun w'=>?_) ?_
          ·go_simp
          try simp only [Act.put]
          refine AnyB.fr (i:=6) (.bool false) rfl (by kernel_rfl) (fun w'=>?_) ?_
          ·go_simp
          try simp only [Act.put]
          refine AnyB.fr (i:=7) (.bool false) rfl (by kernel_rfl) (fun w'=>?_) ?_
          ·go_simp
          try simp only [Act.put]
          refine AnyB.fr (i:=8) (.bool false) rfl (by kernel_rfl) (fun w'=>?_) ?_
          ·go_simp
          try simp only [Act.put]
          refine AnyB.fr (i:=9) (.int .i64 0) rfl (by kernel_rfl) (fun w'=>?_) ?_
          ·go_simp
          try simp only [Act.put]
          refine AnyB.fr (i:=10) (.bool true) rfl (by kernel_rfl) (fun w'=>?_) ?_
          ·go_simp
          try simp only [Act.put]
          refine AnyB.fr (i:=11) (.bool true) rfl (by kernel_rfl) (fun w'=>?_) ?_
          ·go_simp
          try simp only [Act.put]
          refine AnyB.tk (i:=12) (.agg #[.slice OR rn rc,.slice QR sn sc]) rfl (by kernel_rfl) (fun w' hS'=>?_) hS0 ?_
          ·obtain ⟨⟨e0,e1,e2,e3,e4⟩,⟨e5,e6⟩,⟨e7,e8,e9⟩⟩:=hS'
           go_simp
          try simp only [Act.put]
          refine AnyB.tk (i:=13) (.agg #[.int .i64 W,.int .i64 H,.int .i64 S,.int .i64 O,.slice PA n c]) rfl (by kernel_rfl) (fun w' hS'=>?_) hS0 ?_
          ·obtain ⟨⟨e0,e1,e2,e3,e4⟩,⟨e5,e6⟩,⟨e7,e8,e9⟩⟩:=hS'
           go_simp
          try simp only [Act.put]
          refine AnyB.one (i:=14) (by kernel_rfl) rfl (fun K hK=>?_)
          go_simp;go_at_call 18;refine ((unhide HCO) _ (HB17.out.drew)).mono ?_;rintro e w18 ⟨OX,xn,xc,QX,yn,yc,rfl,hxn,hyn,hO18,hQ18,-,-,hE18⟩;have hE18' : Below w17.heap.size w17 w18:=(Below.refl _ _).drew.trans hE18;have hS18:=Mem28.keep hS0 hE18;refine hK.out _ _ (fun _ hs=>hs.keep hE18) ?_;clear hK K;try simp only [Act.put,lsa,lsz,lss]
          refine AnyB.one (i:=15) (by kernel_rfl) rfl (fun K hK=>?_)
          go_simp;go_at_call 17;refine ((samePlans_any OR QR OX QX rn rc sn sc xn xc yn yc (compAns f) (compAns f) _ HR10.out.1 HR10.out.2 (by rw [← HCE.out]; exact hxn) (by rw [← HCE.out]; exact hyn) (HC17.out.later _ hE18').2.1.2 (HC17.out.later _ hE18').2.2 (by rw [← HCE.out]; exact hO18) (by rw [← HCE.out]; exact hQ18) (by have:=HFW.out.2.1; have:=HR10.out.1; omega) (by have:=HFW.out.2.2.1; have:=HR10.out.2; omega))).mono ?_;rintro e w19 ⟨rfl,hE19⟩;have hE19' : Below w17.heap.size w17 w19:=hE18'.trans (hE19.mono hE18'.size);have hS19:=Mem28.keep hS18 hE19;rw [decide_eq_true rfl];refine hK.out _ _ (fun _ hs=>hs.keep hE19) ?_;clear hK K;try simp only [Act.put,lsa,lsz,lss]
          refine AnyB.fr (i:=16) (.bool false) rfl (by kernel_rfl) (fun w'=>?_) ?_
          ·go_simp
          try simp only [Act.put,lsa]
          refine AnyB.fr (i:=17) (.bool false) rfl (by kernel_rfl) (fun w'=>?_) ?_
          ·go_simp
          try simp only [Act.put]
          refine AnyB.tk (i:=18) (.agg #[.int .i64 U11,.int .i64 V11,.slice A11 n11 c11]) rfl (by kernel_rfl) (fun w' hS'=>?_) hS19 ?_
          ·obtain ⟨⟨e0,e1,e2,e3,e4⟩,⟨e5,e6⟩,⟨e7,e8,e9⟩⟩:=hS'
           go_simp
          try simp only [Act.put]
          refine AnyB.tk (i:=19) (.agg #[.int .i64 W,.int .i64 H,.int .i64 S,.int .i64 O,.slice PA n c]) rfl (by kernel_rfl) (fun w' hS'=>?_) hS19 ?_
          ·obtain ⟨⟨e0,e1,e2,e3,e4⟩,⟨e5,e6⟩,⟨e7,e8,e9⟩⟩:=hS'
           go_simp
          try simp only [Act.put]
          refine AnyB.one (i:=20) (by kernel_rfl) rfl (fun K hK=>?_)
          go_simp;go_at_call 19;refine ((unhide HRE) _ (HB17.out.trans (hE19'.mono HB17.out.size))).mono ?_;rintro e w20 ⟨A20,c20,rfl,hI20,hE20⟩;have hE20' : Below w17.heap.size w17 w20:=hE19'.trans (hE20.mono hE19'.size);refine hK.out _ _ (fun _ hs=>hs.keep hE20) ?_;clear hK K;try simp only [Act.put,lsa,lsz,lss]
          refine AnyB.one (i:=21) (by kernel_rfl) rfl (fun K hK=>?_)
          go_simp;go_at_call 14;refine ((unhide HSM) A20 c20 _ hI20 (HD17.out.later _ hE20').2).mono ?_;rintro e w21 ⟨rfl,hE21⟩;have hE21' : Below w17.heap.size w17 w21:=hE20'.trans (hE21.mono hE20'.size);refine hK.out _ _ (fun _ hs=>hs.keep hE21) ?_;clear hK K;try simp only [Act.put,lsa,lsz,lss]
          refine AnyB.fr (i:=22) (.bool false) rfl (by kernel_rfl) (fun w'=>?_) ?_
          ·go_simp
          try simp only [Act.put,lsa]
          refine AnyB.fr (i:=23) (.bool false) rfl (by kernel_rfl) (fun w'=>?_) ?_
          ·go_simp
          try simp only [Act.put]
          refine AnyB.fr (i:=24) (.bool false) rfl (by kernel_rfl) (fun w'=>?_) ?_
          ·go_simp
          try simp only [Act.put]
          refine AnyB.fr (i:=25) (.bool false) rfl (by kernel_rfl) (fun w'=>?_) ?_
          ·go_simp
          try simp only [Act.put]
          refine AnyB.done (by kernel_rfl) ?_;simp only [List.getElem_toArray,List.getElem_cons_succ,List.getElem_cons_zero,List.setIfInBounds_toArray,List.set_cons_zero,List.set_cons_succ];go_wp2_with fail;go_meet
          exact ⟨rfl,hide (HB17.out.trans (hE21'.mono HB17.out.size)),hide hE21'⟩
         ·have h2b : (er == 0) = false:=by simpa using h2
          have hS0:=HS28.out;refine wp_region_B (Mem28 w.heap.size w10.heap.size w11.heap.size W H S O PA n c OR rn rc QR sn sc U11 V11 A11 n11 c11) (fun _=>false) (by kernel_rfl) ?_;refine AnyB.fr (i:=0) (.int .i64 er) rfl (by kernel_rfl) (fun w'=>?_) ?_
          ·go_simp
          try simp only [Act.put,lsa]
          refine AnyB.fr (i:=1) (.int .i64 er) rfl (by kernel_rfl) (fun w'=>?_) ?_
          ·go_simp
          try simp only [Act.put]
          refine AnyB.fr (i:=2) (.bool false) rfl (by kernel_rfl) (fun w'=>?_) ?_
          ·go_simp
          try simp only [Act.put]
          refine AnyB.fr (i:=3) (.bool false) rfl (by kernel_rfl) (fun w'=>?_) ?_
          ·go_simp
          try simp only [Act.put]
          refine AnyB.fr (i:=4) (.int .i64 er) rfl (by kernel_rfl) (fun w'=>?_) ?_
          ·go_simp
          try simp only [Act.put]
          refine AnyB.fr (i:=5) (.int .i64 er) rfl (by kernel_rfl) (fun w'=>?_) ?_
          ·go_simp
          try simp only [Act.put]
          refine AnyB.fr (i:=6) (.bool false) rfl (by kernel_rfl) (fun w'=>?_) ?_
          ·go_simp
          try simp only [Act.put]
          refine AnyB.fr (i:=7) (.bool false) rfl (by kernel_rfl) (fun w'=>?_) ?_
          ·go_simp
          try simp only [Act.put]
          refine AnyB.fr (i:=8) (.bool false) rfl (by kernel_rfl) (fun w'=>?_) ?_
          ·go_simp
          try simp only [Act.put]
          refine AnyB.fr (i:=9) (.int .i64 er) rfl (by kernel_rfl) (fun w'=>?_) ?_
          ·go_simp
          try simp only [Act.put]
          refine AnyB.fr (i:=10) (.bool false) rfl (by kernel_rfl) (fun w'=>?_) ?_
          ·go_simp
          try simp only [Act.put]
          refine AnyB.fr (i:=11) (.bool false) rfl (by kernel_rfl) (fun w'=>?_) ?_
          ·go_simp
          try simp only [Act.put]
          refine AnyB.free (i:=12) undef rfl (by kernel_rfl) (by kernel_rfl) (by kernel_rfl) (fun _ _ _ h=>h) (Or.inr ⟨by kernel_rfl,rfl⟩) ?_;try simp only [Act.put]
          refine AnyB.free (i:=13) undef rfl (by kernel_rfl) (by kernel_rfl) (by kernel_rfl) (fun _ _ _ h=>h) (Or.inr ⟨by kernel_rfl,rfl⟩) ?_;try simp only [Act.put]
          refine AnyB.free (i:=14) undef rfl (by kernel_rfl) (by kernel_rfl) (by kernel_rfl) (fun _ _ _ h=>h) (Or.inr ⟨by kernel_rfl,rfl⟩) ?_;try simp only [Act.put]
          refine AnyB.free (i:=15) undef rfl (by kernel_rfl) (by kernel_rfl) (by kernel_rfl) (fun _ _ _ h=>h) (Or.inr ⟨by kernel_rfl,rfl⟩) ?_;try simp only [Act.put]
          refine AnyB.free (i:=16) undef rfl (by kernel_rfl) (by kernel_rfl) (by kernel_rfl) (fun _ _ _ h=>h) (Or.inr ⟨by kernel_rfl,rfl⟩) ?_;try simp only [Act.put]
          refine AnyB.free (i:=17) undef rfl (by kernel_rfl) (by kernel_rfl) (by kernel_rfl) (fun _ _ _ h=>h) (Or.inr ⟨by kernel_rfl,rfl⟩) ?_;try simp only [Act.put]
          refine AnyB.free (i:=18) undef rfl (by kernel_rfl) (by kernel_rfl) (by kernel_rfl) (fun _ _ _ h=>h) (Or.inr ⟨by kernel_rfl,rfl⟩) ?_;try simp only [Act.put]
          refine AnyB.free (i:=19) undef rfl (by kernel_rfl) (by kernel_rfl) (by kernel_rfl) (fun _ _ _ h=>h) (Or.inr ⟨by kernel_rfl,rfl⟩) ?_;try simp only [Act.put]
          refine AnyB.free (i:=20) undef rfl (by kernel_rfl) (by kernel_rfl) (by kernel_rfl) (fun _ _ _ h=>h) (Or.inr ⟨by kernel_rfl,rfl⟩) ?_;try simp only [Act.put]
          refine AnyB.free (i:=21) undef rfl (by kernel_rfl) (by kernel_rfl) (by kernel_rfl) (fun _ _ _ h=>h) (Or.inr ⟨by kernel_rfl,rfl⟩) ?_;try simp only [Act.put]
          refine AnyB.free (i:=22) undef rfl (by kernel_rfl) (by kernel_rfl) (by kernel_rfl) (fun _ _ _ h=>h) (Or.inr ⟨by kernel_rfl,rfl⟩) ?_;try simp only [Act.put]
          refine AnyB.free (i:=23) undef rfl (by kernel_rfl) (by kernel_rfl) (by kernel_rfl) (fun _ _ _ h=>h) (Or.inr ⟨by kernel_rfl,rfl⟩) ?_;try simp only [Act.put]
          refine AnyB.fr (i:=24) (.bool false) rfl (by kernel_rfl) (fun w'=>?_) ?_
          ·go_simp
          try simp only [Act.put]
          refine AnyB.fr (i:=25) (.bool false) rfl (by kernel_rfl) (fun w'=>?_) ?_
          ·go_simp
          try simp only [Act.put]
          refine AnyB.done (by kernel_rfl) ?_;simp only [List.getElem_toArray,List.getElem_cons_succ,List.getElem_cons_zero,List.setIfInBounds_toArray,List.set_cons_zero,List.set_cons_succ];go_wp2_with fail;go_meet
          exact ⟨rfl,hide HB17.out.drew,hide (Below.refl _ _).drew⟩
        case rest =>
         obtain ⟨rfl,HB22,HE22⟩:=hcut;have HD22:=hide (HD17.out.move HE22.out);clear HB17 HC17 HD17 HE22 HS28 x q0 q1 q2 q3 q4;go_wp2_with fail;refine (execBegun_any _).mono ?_;rintro e w23 ⟨rfl,hE23⟩;have HD23:=hide (HD22.out.move hE23);have HB23:=hide (HB22.out.trans (hE23.mono HB22.out.size));clear hE23 HB22 HD22;have hm:=HD23.out.now.1;have c0 : w23.cell? ⟨w11.heap.size,0,none⟩ = some (.int .i64 U11):=(hm.cell 0).trans rfl;have c1 : w23.cell? ⟨w11.heap.size,1,none⟩ = some (.int .i64 V11):=(hm.cell 1).trans rfl;have c2 : w23.cell? ⟨w11.heap.size,2,none⟩ = some (.slice A11 n11 c11):=(hm.cell 2).trans rfl;have c3:=hm.lt;clear hm;by_cases h2 : er = 0
         ·have h2b : (er != 0) = false:=by rw [h2]; rfl
          have hfin : Img.Fine ⟨U11,V11,P11⟩:=by
           rw [HR11.out.1,show frAns f = frShown f from if_pos (HEE.out.trans h2)];exact (frShown_fine (frErr_zero.1 (HEE.out.trans h2))).1
          have hck:=check_any U11 V11 A11 n11 c11 P11 w23 HR11.out.2 HD23.out.now.2 (by omega);rw [checkErr_yes hfin] at hck;have HCK:=hide hck;clear hck hfin;go_wp2_with fail;refine (unhide HCK).mono ?_;rintro e w24 ⟨rfl,hE24⟩;go_wp2_with fail;go_ret;exact ⟨rfl,HB5.out.trans ((HB23.out.trans (hE24.mono HB23.out.size)).mono HB5.out.size)⟩
         ·have h2b : (er != 0) = true:=by simpa using h2
          go_wp2_with fail;go_ret;exact ⟨rfl,HB5.out.trans (HB23.out.mono HB5.out.size)⟩
end Go.Proofs.YtibpmogmeoappacGreat
