/- Walk: the law ExecSteps. -/
import Derived.Test.YtibpmogmeoappabJExcA
import Derived.Test.YtibpmogmeoappabJExcF
import Derived.Test.YtibpmogmeoappabJExcH
set_option maxRecDepth 100000
set_option maxHeartbeats 8000000
namespace Go.Proofs.Ytibpmogmeoappab
open Go.RowKit
theorem execSteps_any (W H S O : Int) (PA : Option Addr) (n c : Nat) (ps : List Pas) (OA : Option Addr) (on oc : Nat) (Od : List Int) (QA : Option Addr) (qn qc : Nat) (Pl : List Int) (GA : Option Addr) (gn gc : Nat) (l : List Int) (m : Int) (w : World) (hn : ps.length = n) (hP : Passes w PA ps) (hl : n ≤ 9223372036854775807)
 (hon : Od.length = on) (hO : Ints w OA Od) (hol : on ≤ 9223372036854775807) (hoc : on ≤ oc) (hqn : Pl.length = qn) (hQ : Ints w QA Pl) (hql : qn ≤ 9223372036854775807) (hgn : l.length = gn) (hG : Ints w GA l) (hgl : gn ≤ 9223372036854775807) (hgc : gn ≤ gc) :
 Calls Try.prog 10 #[.agg #[.int .i64 W,.int .i64 H,.int .i64 S,.int .i64 O,.slice PA n c],.agg #[.slice OA on oc,.slice QA qn qc],.slice GA gn gc,.int .i64 m] w fun e w'=>e = .returned (.bool true) ∧ Below w.heap.size w w':=by
 have hb:=((Below.refl w.heap.size w).alloc (Nat.le_refl _) (.cells #[.int .i64 W,.int .i64 H,.int .i64 S,.int .i64 O,.slice PA n c] 24)).alloc (by simp) (.cells #[.slice OA on oc,.slice QA qn qc] 27);have hbx:=(show FrmBox (w.alloc (.cells #[.int .i64 W,.int .i64 H,.int .i64 S,.int .i64 O,.slice PA n c] 24)) w.heap.size W H S O PA n c from Blk.new w 24 (frmCells W H S O PA n c)).alloc (.cells #[.slice OA on oc,.slice QA qn qc] 27);have hpx : Blk ((w.alloc (.cells #[.int .i64 W,.int .i64 H,.int .i64 S,.int .i64 O,.slice PA n c] 24)).alloc (.cells #[.slice OA on oc,.slice QA qn qc] 27)) (w.heap.size + 1) 27 [.slice OA on oc,.slice QA qn qc]:=Blk.newE (by simp);obtain ⟨p,hp⟩ : ∃ p : Pln,p = ⟨Od,Pl⟩:=⟨_,rfl⟩;have hop : p.Order = Od:=by rw [hp]
 have hqp : p.Places = Pl:=by rw [hp]
 rw [← hop] at hon hO;rw [← hqp] at hqn hQ;have hst:=execStep_any W H S O PA n c ps OA on oc QA qn qc p GA gn gc l m _ hn (hP.keep hb) (hO.keep hb) hon hol hoc (hQ.keep hb) hqn hql (hG.keep hb) hgn hgl;have her:=fun (W0 : World) (h1 : Passes W0 PA ps) (h2 : Ints W0 OA p.Order) (h3 : Ints W0 QA p.Places) (h4 : Ints W0 GA l)=>execError_ref W H S O PA n c ps OA on oc QA qn qc p GA gn gc l W0 hn h1 hl h2 hon hol h3 hqn hql h4 hgn hgl
 have hsr:=fun (g s : Nat) (h : GA = some ⟨g,s,none⟩) (i : Nat) (W0 : World) (h1 : Passes W0 PA ps) (h2 : Ints W0 OA p.Order) (h3 : Ints W0 QA p.Places) (h4 : Ints W0 GA l) (hok : ArOk ⟨W,H,S,O,ps⟩ p l) (hi : i < on)=>(show Calls Try.prog 44 #[.agg #[.int .i64 W,.int .i64 H,.int .i64 S,.int .i64 O,.slice PA n c],.agg #[.slice OA on oc,.slice QA qn qc],.slice GA gn gc,.int .i64 (i : Int)] W0 (RetArena W0 (stepAr ⟨W,H,S,O,ps⟩ p l (p.ord i).toNat)) from by
  subst h; exact stepOf_run W H S O PA n c ps OA on oc QA qn qc p g s gn gc l i W0 hn h1 hl h2 hon h3 hqn h4 hgn hgc hok hi)
 have hio:=hO.keep hb;have hiq:=hQ.keep hb;have hig:=hG.keep hb;have hpa:=hP.keep hb;obtain ⟨f,hf⟩ : ∃ f : Frm,f = ⟨W,H,S,O,ps⟩:=⟨_,rfl⟩;rw [← hf] at hst her hsr;obtain ⟨w1,hw1⟩ : ∃ w1,((w.alloc (.cells #[.int .i64 W,.int .i64 H,.int .i64 S,.int .i64 O,.slice PA n c] 24)).alloc (.cells #[.slice OA on oc,.slice QA qn qc] 27)) = w1:=⟨_,rfl⟩;rw [hw1] at hb hbx hpx hio hiq hig hpa hst;have HB:=hide hb;have HBX:=hide (Keeps.blk hbx);have HPX:=hide (Keeps.blk hpx);have HIO:=hide (Keeps.ints hio);have HIQ:=hide (Keeps.ints hiq);have HIG:=hide (Keeps.ints hig);have HP:=hide (Keeps.passes hpa);have HSR:=hide hsr;have HON:=hide hon;obtain ⟨z,hz⟩ : ∃ z,execErr f p l = z:=⟨_,rfl⟩;obtain ⟨t,ht⟩ : ∃ t,stepErr f p l m = t:=⟨_,rfl⟩;obtain ⟨L,hL⟩ : ∃ L,stepAns f p l m = L:=⟨_,rfl⟩;rw [ht,hL] at hst;rw [hz] at her;have HST:=hide hst;have HER:=hide her;have HZ:=hide hz;have HT:=hide ht;have HL:=hide hL;obtain ⟨x,q0,q1,q2,q3,q4⟩:=FrmBox.cells (show FrmBox _ _ W H S O PA n c from hbx);obtain ⟨y,r0,r1⟩:=plan_box hpx;clear hn hP hl hon hO hol hoc hqn hQ hql hgn hG hgl hgc hb hbx hpx hio hiq hig hpa hp hop hqp hf hst her hsr hz ht hL;go_enter Try.func10,Try.ntmps10
 go_wp2_with fail;refine (unhide HST).mono ?_;rintro e w2 ⟨A2,n2,c2,rfl,hn2,hI2,hE2⟩;have HI2:=hide (Keeps.ints hI2);have HN2:=hide hn2;have HE2:=hide hE2;clear hw1 x q0 q1 q2 q3 q4 y r0 r1 hn2 hI2 hE2 HST;obtain ⟨x,q0,q1,q2,q3,q4⟩:=FrmBox.cells (show FrmBox _ _ W H S O PA n c from HBX.out.later _ HE2.out);obtain ⟨y,r0,r1⟩:=plan_box (HPX.out.later _ HE2.out);go_wp2_with fail;refine ((unhide HER) _ (HP.out.later _ HE2.out) (HIO.out.later _ HE2.out) (HIQ.out.later _ HE2.out) (HIG.out.later _ HE2.out)).mono ?_;rintro e w3 ⟨rfl,hE3⟩;have HE3:=hide (HE2.out.trans (hE3.mono HE2.out.size));have HI3:=hide (HI2.out.move hE3);clear x q0 q1 q2 q3 q4 y r0 r1 hE3 HE2 HI2 HER;obtain ⟨x,q0,q1,q2,q3,q4⟩:=FrmBox.cells (show FrmBox _ _ W H S O PA n c from HBX.out.later _ HE3.out);obtain ⟨y,r0,r1⟩:=plan_box (HPX.out.later _ HE3.out);by_cases h0 : z = 0
 ·have hok:=execErr_zero.1 (HZ.out.trans h0)
  subst h0;by_cases hbad : m < 0 ∨ (on : Int) ≤ m
  ·have ht3 : t = 3:=by rw [← HT.out]; unfold stepErr; rw [if_neg (fun e=>e HZ.out),if_pos (by rw [HON.out]; exact hbad)]
   subst ht3;have hl0 : L = []:=by rw [← HL.out]; exact stepAns_no (by rw [HT.out]; decide)
   subst hl0;obtain rfl : n2 = 0:=HN2.out.symm;clear hok;rcases hbad with hb1 | hb1
   all_goals
    by_cases hmn : m < 0
    all_goals
     go_wp2_with fail;all_goals try (exfalso; omega)
     all_goals
      refine (execBegun_any _).mono ?_;rintro e w5 ⟨rfl,hE5⟩;have HI5:=hide (HI3.out.move hE5);have HE5:=hide (HE3.out.trans (hE5.mono HE3.out.size));clear hE5;go_wp2_with fail;refine (sameNums A2 none 0 c2 0 [] w5 rfl HI5.out.now (Ints.nil _ _) (by omega)).mono ?_;rintro e w6 ⟨rfl,hE6⟩;have HE6:=hide (HE5.out.trans (hE6.mono HE5.out.size));clear hE6;go_wp2_with fail;go_ret;exact ⟨rfl,HB.out.trans (HE6.out.mono HB.out.size)⟩
  ·obtain ⟨i,hi⟩ : ∃ i : Nat,m = (i : Int):=⟨m.toNat,by omega⟩
   subst hi;have hil : i < on:=by omega
   have ht0 : t = 0:=by rw [← HT.out]; unfold stepErr; rw [if_neg (fun e=>e HZ.out),if_neg (by rw [HON.out]; exact hbad)]
   subst ht0;have hans : stepAr f p l (p.ord i).toNat = L:=by rw [← HL.out]; unfold stepAns; rw [if_pos HT.out,Int.toNat_natCast]
   obtain ⟨gb,go,gv,hGA,_,_,_⟩:=(HIG.out.later _ HE3.out).at_ 0 hok.pos;have hsr:=(unhide HSR) gb go hGA i w3 (HP.out.later _ HE3.out) (HIO.out.later _ HE3.out) (HIQ.out.later _ HE3.out) (HIG.out.later _ HE3.out) hok hil;rw [hans] at hsr;have HS3:=hide hsr;have hoa:=hok.ordAt (i:=i) (by rw [HON.out]; exact hil);have hsl:=stepAr_len hok (k:=(p.ord i).toNat) (by omega) hoa.2;have hrm:=hok.room;have hl9 : L.length ≤ 9223372036854775807:=by rw [← hans,hsl]; omega
   have hi1 : (i : Int) < (on : Int):=by omega
   have hi0 : (0 : Int) ≤ (i : Int):=by omega
   clear hok hbad hans hsr hGA HSR hoa hsl hrm;go_wp2_with fail;all_goals try (exfalso; omega)
   refine (unhide HS3).mono ?_;rintro e w4 ⟨g4,d4,rfl,hd4,hI4,hg4,hE4⟩;have HI4:=hide ((HI3.out.move hE4).and (Keeps.ints hI4));have HE4:=hide (HE3.out.trans (hE4.mono HE3.out.size));obtain rfl : n2 = L.length:=HN2.out.symm;clear x q0 q1 q2 q3 q4 y r0 r1 hI4 hE4 HS3 HI3 HE3;go_wp2_with fail;refine (execBegun_any _).mono ?_;rintro e w5 ⟨rfl,hE5⟩;have HI5:=hide (HI4.out.move hE5);have HE5:=hide (HE4.out.trans (hE5.mono HE4.out.size));clear hE5 HI4 HE4;go_wp2_with fail;refine (sameNums A2 (some ⟨g4,0,none⟩) L.length c2 d4 L w5 rfl HI5.out.now.1 HI5.out.now.2 hl9).mono ?_;rintro e w6 ⟨rfl,hE6⟩;have HE6:=hide (HE5.out.trans (hE6.mono HE5.out.size));clear hE6;go_wp2_with fail;go_ret;exact ⟨rfl,HB.out.trans (HE6.out.mono HB.out.size)⟩
 ·have ht1 : t = z:=by rw [← HT.out]; unfold stepErr; rw [if_pos (by rw [HZ.out]; exact h0),HZ.out]
  subst ht1;have hl0 : L = []:=by rw [← HL.out]; exact stepAns_no (by rw [HT.out]; exact h0)
  subst hl0;obtain rfl : n2 = 0:=HN2.out.symm;have hz2 : (t == 0) = false:=by simpa using h0
  clear h0;go_wp2_with fail;refine (execBegun_any _).mono ?_;rintro e w5 ⟨rfl,hE5⟩;have HI5:=hide (HI3.out.move hE5);have HE5:=hide (HE3.out.trans (hE5.mono HE3.out.size));clear hE5 HI3 HE3;go_wp2_with fail;refine (sameNums A2 none 0 c2 0 [] w5 rfl HI5.out.now (Ints.nil _ _) (by omega)).mono ?_;rintro e w6 ⟨rfl,hE6⟩;have HE6:=hide (HE5.out.trans (hE6.mono HE5.out.size));clear hE6;go_wp2_with fail;go_ret;exact ⟨rfl,HB.out.trans (HE6.out.mono HB.out.size)⟩
end Go.Proofs.Ytibpmogmeoappab
