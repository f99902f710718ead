/- What ExecSame needs beside: plain laws and contracts. -/
import Derived.Test.YtibpmogmeoappacGreatJExcA
import Derived.Test.YtibpmogmeoappacGreatJFitI
import Derived.Test.YtibpmogmeoappacGreatJFitJ
import Derived.Test.YtibpmogmeoappacGreatJFrmR
import Derived.Test.YtibpmogmeoappacGreatJImgH
import Derived.Test.YtibpmogmeoappacGreatJLawY0
import Derived.Test.YtibpmogmeoappacGreatJPlnK
import Derived.Test.YtibpmogmeoappacGreatJPure
import Derived.Test.YtibpmogmeoappacGreatJQPure
set_option maxRecDepth 100000
set_option maxHeartbeats 8000000
namespace Go.Proofs.YtibpmogmeoappacGreat
open Go.RowKit
section
def peakTo (f : Frm) (p : Pln) : Nat → Int
 | 0=>0
 | k + 1=>if p.pl k = -1 then peakTo f p k else max (peakTo f p k) (p.pl k + areaOf f k)
end
section
def peakOf (f : Frm) (p : Pln) : Int:=peakTo f p f.P.length
end
section
def peakAns (f : Frm) (p : Pln) : Int:=if planErr f p = 0 then peakOf f p else 0
end
section
variable {f : Frm} {p : Pln}
def peakOrd (f : Frm) (p : Pln) : Nat → Int
 | 0=>0
 | m + 1=>max (peakOrd f p m) (p.pl (p.ord m).toNat + areaOf f (p.ord m).toNat)
end
section
variable {f : Frm} {p : Pln}
theorem peakOrd_le {m : Nat} {M : Int} : peakOrd f p m ≤ M ↔ 0 ≤ M ∧ ∀ i,i < m → p.pl (p.ord i).toNat + areaOf f (p.ord i).toNat ≤ M:=by
 induction m with
 | zero=>simp [peakOrd]
 | succ m ih =>
   simp only [peakOrd,Int.max_le,ih]
   constructor
   ·rintro ⟨⟨h0,h1⟩,h2⟩
    refine ⟨h0,fun i hi=>?_⟩;by_cases e : i < m
    ·exact h1 i e
    ·rw [show i = m by omega]; exact h2
   ·rintro ⟨h0,h1⟩
    exact ⟨⟨h0,fun i hi=>h1 i (by omega)⟩,h1 m (by omega)⟩
end
section
variable {f : Frm} {p : Pln}
theorem peakTo_le {n : Nat} {M : Int} : peakTo f p n ≤ M ↔ 0 ≤ M ∧ ∀ k,k < n → p.pl k ≠ -1 → p.pl k + areaOf f k ≤ M:=by
 induction n with
 | zero=>simp [peakTo]
 | succ n ih =>
   simp only [peakTo];by_cases e : p.pl n = -1
   ·rw [if_pos e,ih]
    constructor
    ·rintro ⟨h0,h1⟩
     refine ⟨h0,fun k hk hn=>?_⟩;by_cases e2 : k < n
     ·exact h1 k e2 hn
     ·rw [show k = n by omega] at hn; exact absurd e hn
    ·rintro ⟨h0,h1⟩
     exact ⟨h0,fun k hk hn=>h1 k (by omega) hn⟩
   ·rw [if_neg e,Int.max_le,ih]
    constructor
    ·rintro ⟨⟨h0,h1⟩,h2⟩
     refine ⟨h0,fun k hk hn=>?_⟩;by_cases e2 : k < n
     ·exact h1 k e2 hn
     ·rw [show k = n by omega]; exact h2
    ·rintro ⟨h0,h1⟩
     exact ⟨⟨h0,fun k hk hn=>h1 k (by omega) hn⟩,h1 n (by omega) e⟩
end
section
variable {f : Frm} {p : Pln}
theorem peak_ord (h : InOrder f p) : peakOrd f p p.Order.length = peakOf f p:=by
 have ho:=ordTo_of h
 apply Int.le_antisymm
 ·rw [peakOrd_le]
  have:=(peakTo_le (f:=f) (p:=p) (n:=f.P.length) (M:=peakOf f p)).1 (Int.le_refl _);refine ⟨this.1,fun i hi=>?_⟩;have hr:=ho.rng i hi;exact this.2 _ (by omega) ((placed h (by omega)).2 ⟨i,hi,by omega⟩)
 ·unfold peakOf
  rw [peakTo_le];have:=(peakOrd_le (f:=f) (p:=p) (m:=p.Order.length) (M:=peakOrd f p p.Order.length)).1 (Int.le_refl _);refine ⟨this.1,fun k hk hn=>?_⟩;obtain ⟨m,hm,em⟩:=(placed h hk).1 hn;have:=this.2 m hm;rw [show (p.ord m).toNat = k by omega] at this;exact this
end
section
variable {f : Frm} {p : Pln}
theorem fits_peak {room : Int} (hf : FrmOk f) (hr : Fits f p room) (h0 : 0 ≤ room) : peakOf f p ≤ room:=by
 unfold peakOf;rw [peakTo_le];refine ⟨h0,fun k hk hn=>?_⟩;rcases hr k hk with e | ⟨e,_⟩
 ·exact absurd e hn
 ·have:=area_bd hf hk; omega
end
section
variable {f : Frm} {p : Pln}
theorem fits_iff {room r : Int} (hf : FrmOk f) (hr : Fits f p room) (h0 : 0 ≤ r) : Fits f p r ↔ peakOf f p ≤ r:=by
 constructor
 ·intro h1; exact fits_peak hf h1 h0
 ·intro hp k hk
  unfold peakOf at hp;rw [peakTo_le] at hp;by_cases e : p.pl k = -1
  ·exact .inl e
  ·rcases hr k hk with e2 | ⟨e2,e3⟩
   ·exact absurd e2 e
   ·have:=hp.2 k hk e
    exact .inr ⟨by omega,e3⟩
end
section
theorem Gives2.later {P : Program} {g : FuncId} {lb : Array Value} {cw ch : Int} {f : Int → Int → Int} {w W : World} (h : Gives2 P g lb cw ch f w) (hb : Below w.heap.size w W) : Gives2 P g lb cw ch f W :=
 fun W' x y hb'=>h W' x y (hb.trans (hb'.mono hb.size))
end
section
variable {w w' : World} {P Q : World → Prop}
theorem Keeps.lt {g : Nat} (h : g < w.heap.size) : Keeps w (fun W=>g < W.heap.size):=⟨h,fun _ hb=>Nat.lt_of_lt_of_le h hb.size⟩
end
section
variable {α : Type} {E : Kind α} {k : Nat} {ty : TypeId} {w w' : World} {base : Nat} {A A' : Option Addr} {n c c' : Nat} {xs : List α} {es : List (List Value × Option Addr × List Value)}
theorem GRow.alloc (h : GRow E k ty w base A n c xs es) (o : Obj) : GRow E k ty (w.alloc o) base A n c xs es:=h.keep ((Below.refl _ _).alloc (Nat.le_refl _) o)
end
section
def RetIm (w : World) (r : Img) (x : Int) (e : Ending) (w' : World) : Prop :=
 ∃ (W H : Int) (P : List Int) (A : Option Addr) (n c : Nat),Img.mk W H P = r ∧ P.length = n ∧ e = .returned (.tuple #[.agg #[.int .i64 W,.int .i64 H,.slice A n c],.int .i64 x]) ∧ Ints w' A P ∧ Below w.heap.size w w'
end
section
theorem render_any (W H S O : Int) (PA : Option Addr) (n c : Nat) (ps : List Pas) (w : World) (hn : ps.length = n) (hP : Passes w PA ps) :
 Calls Tryz.prog 10 #[.agg #[.int .i64 W,.int .i64 H,.int .i64 S,.int .i64 O,.slice PA n c]] w (RetIm w (frAns ⟨W,H,S,O,ps⟩) (frErr ⟨W,H,S,O,ps⟩)) :=
 (render_new W H S O PA n c ps w hn hP).mono fun _ _ ⟨W1,H1,P1,A1,n1,c1,h1,h2,h3,h4,_,h5⟩=>⟨W1,H1,P1,A1,n1,c1,h1,h2,h3,h4,h5⟩
end
section
variable {w w' : World} {base : Nat} {A : Option Addr} {n c : Nat} {cs : List Value}
theorem Que.keep (h : Que w base A n c cs) (hb : Below w.heap.size w w') : Que w' base A n c cs:=by
 obtain ⟨b,o,rfl,h1,h2,-⟩:=id h;exact h.moved (fun b' o' e=>by cases e; exact hb.block _ h2) hb.size
end
section
variable {w w' : World} {base : Nat} {A : Option Addr} {n c : Nat} {cs : List Value}
theorem Que.alloc (h : Que w base A n c cs) (o : Obj) : Que (w.alloc o) base A n c cs:=h.keep ((Below.refl _ _).alloc (Nat.le_refl _) o)
end
section
theorem peakOrd_bd {f : Frm} {p : Pln} (hf : FrmOk f) (h : InOrder f p) : ∀ m,m ≤ p.Order.length → 0 ≤ peakOrd f p m ∧ peakOrd f p m ≤ 4352
 | 0,_=>by simp [peakOrd]
 | m + 1, hm => by
   have h1:=peakOrd_bd hf h m (by omega);obtain ⟨k,hk,hkf,h2,h3⟩:=ord_in h (i:=m) (by omega);have h4:=area_bd hf hkf;simp only [peakOrd];rw [hk,Int.toNat_natCast];omega
end
section
theorem planPeak_any (W H S O : Int) (PA : Option Addr) (n c : Nat) (ps : List Pas) (OA : Option Addr) (on oc : Nat) (QA : Option Addr) (qn qc : Nat) (p : Pln) (w : World) (hn : ps.length = n) (hP : Passes w PA ps)
 (hO : Ints w OA p.Order) (hon : p.Order.length = on) (hol : on ≤ 9223372036854775807) (hQ : Ints w QA p.Places) (hqn : p.Places.length = qn) (hql : qn ≤ 9223372036854775807) :
 Calls Tryz.prog 21 #[.agg #[.int .i64 W,.int .i64 H,.int .i64 S,.int .i64 O,.slice PA n c],.agg #[.slice OA on oc,.slice QA qn qc]] w (RetIE w (peakAns ⟨W,H,S,O,ps⟩ p) (planErr ⟨W,H,S,O,ps⟩ p)):=by
 have hb:=((Below.refl w.heap.size w).alloc (Nat.le_refl _) (.cells #[.int .i64 W,.int .i64 H,.int .i64 S,.int .i64 O,.slice PA n c] 24)).alloc (by simp) (.cells #[.slice OA on oc,.slice QA qn qc] 27);have hbx:=(show FrmBox (w.alloc (.cells #[.int .i64 W,.int .i64 H,.int .i64 S,.int .i64 O,.slice PA n c] 24)) w.heap.size W H S O PA n c from Blk.new w 24 (frmCells W H S O PA n c)).alloc (.cells #[.slice OA on oc,.slice QA qn qc] 27);have hpx : Blk ((w.alloc (.cells #[.int .i64 W,.int .i64 H,.int .i64 S,.int .i64 O,.slice PA n c] 24)).alloc (.cells #[.slice OA on oc,.slice QA qn qc] 27)) (w.heap.size + 1) 27 [.slice OA on oc,.slice QA qn qc]:=Blk.newE (by simp);have hbg:=begin_any W H S O PA n c ps OA on oc QA qn qc p _ hn (hP.keep hb) (hO.keep hb) hon hol (hQ.keep hb) hqn hql;have hio:=hO.keep hb;have hiq:=hQ.keep hb;obtain ⟨f,hf⟩ : ∃ f : Frm,f = ⟨W,H,S,O,ps⟩:=⟨_,rfl⟩;rw [← hf] at hbg ⊢;obtain ⟨w1,hw1⟩ : ∃ w1,(w.alloc (.cells #[.int .i64 W,.int .i64 H,.int .i64 S,.int .i64 O,.slice PA n c] 24)).alloc (.cells #[.slice OA on oc,.slice QA qn qc] 27) = w1:=⟨_,rfl⟩;rw [hw1] at hb hbx hpx hbg hio hiq;have HB:=hide hb;have HPX:=hide (Keeps.blk hpx);have HIO:=hide (Keeps.ints hio);have HIQ:=hide (Keeps.ints hiq);have HBG:=hide hbg;have HON:=hide hon;have HQN:=hide hqn;obtain ⟨x,q0,q1,q2,q3,q4⟩:=FrmBox.cells (show FrmBox _ _ W H S O PA n c from hbx);obtain ⟨y,r0,r1⟩:=plan_box hpx;clear hn hP hO hQ hbx hpx hb hio hiq hbg hf hon hqn;go_enter Tryz.func21,Tryz.ntmps21
 go_wp2_with fail;refine (unhide HBG).mono ?_;rintro e w2 ⟨hE2,⟨hne,rfl⟩ | ⟨hz,g,⟨hni,rfl⟩ | ⟨hin,rfl,hLk⟩⟩⟩
 ·have HB2:=hide (HB.out.trans (hE2.mono HB.out.size))
  have hpe:=planErr_frm (p:=p) hne;have HSA:=hide (show peakAns f p = 0 from if_neg (by rw [hpe]; exact hne));obtain ⟨z,hz⟩ : ∃ z,frErr f = z:=⟨_,rfl⟩;rw [hz] at hpe hne ⊢;have HPE:=hide hpe;have hz2 : (z == 0) = false:=by simpa using hne
  clear hE2 hne hz hpe hw1 HBG x q0 q1 q2 q3 q4 y r0 r1;go_wp2_with fail;go_ret2;rw [HSA.out,HPE.out];exact ⟨rfl,HB2.out⟩
 ·have HB2:=hide (HB.out.trans (hE2.mono HB.out.size))
  have HPE:=hide (planErr_form hz hni);have HSA:=hide (show peakAns f p = 0 from if_neg (by rw [HPE.out]; omega));clear hE2 hz hni hw1 HBG x q0 q1 q2 q3 q4 y r0 r1;go_wp2_with fail;go_ret2;rw [HSA.out,HPE.out];exact ⟨rfl,HB2.out⟩
 ·have HB2:=hide (HB.out.trans (hE2.mono HB.out.size))
  have HOK:=hide (frErr_zero.1 hz);have HIN:=hide hin;have HPE:=hide (planErr_ok hz hin);have HSA:=hide (show peakAns f p = peakOf f p from if_pos HPE.out);have hpn:=hin.places;have hle:=hin.len;have h12:=HOK.out.many;obtain ⟨la,KA,kn,kc,SA,sc,RA,rn,rc,mb,XA,xc,hLB,hSA,-⟩:=hLk;obtain ⟨N,hN⟩ : ∃ N,f.P.length = N:=⟨_,rfl⟩;rw [hN] at hLB hSA hpn hle h12;have HNN:=hide hN;rw [HON.out] at hle;rw [HQN.out] at hpn;obtain rfl : qn = N:=hpn;have HLB:=hide (Keeps.blk hLB);have HSR:=hide (Keeps.ints hSA);have HPX2:=hide (HPX.out.move hE2);have HIO2:=hide (HIO.out.move hE2);have HIQ2:=hide (HIQ.out.move hE2);obtain ⟨y',r0',r1'⟩:=plan_box HPX2.out.now;clear hE2 hz hin hLB hSA hN hw1 HBG x q0 q1 q2 q3 q4 y r0 r1;go_wp2_with fail;clear y' r0' r1';go_loopw [8,10,23] (fun a _ s wr=>∃ i : Nat,i ≤ on ∧ s = .int .i64 i ∧ a = .int .i64 (peakOrd f p i) ∧ Hid (Below w2.heap.size w2 wr)) (fun _ _ s _=>on - (intOf s).toNat)
  case atStart=>exact ⟨0,Nat.zero_le _,rfl,rfl,hide (Below.refl _ _)⟩
  case round =>
   obtain ⟨i,hi,rfl,rfl,HBW⟩:=hrel;by_cases hil : i < on
   ·have hi0 : (0 : Int) ≤ (i : Int):=by omega
    have hi1 : (i : Int) < (on : Int):=by omega
    obtain ⟨m,hm,hmf,hp0,hp1⟩:=ord_in HIN.out (i:=i) (by rw [HON.out]; exact hil);obtain ⟨y,r0,r1⟩:=plan_box (HPX2.out.later _ HBW.out);obtain ⟨v,v0,v1,v2,v3,v4,v5,v6,v7⟩:=look_at (HLB.out.later _ HBW.out);obtain ⟨ob,oo,hOA,hob,co⟩:=ints_at (HIO2.out.later _ HBW.out) (k:=i) (by rw [HON.out]; exact hil);obtain rfl:=hOA;rw [show p.Order.getD i 0 = p.ord i from rfl,hm] at co;have hmq : m < qn:=by rw [← HNN.out]; exact hmf
    obtain ⟨pb,po,hQA,hpb,cp⟩:=ints_at (HIQ2.out.later _ HBW.out) (k:=m) (by rw [HQN.out]; exact hmq);obtain rfl:=hQA;rw [show p.Places.getD m 0 = p.pl m from rfl] at cp;obtain ⟨sb,so,hSB,hsb,cs⟩:=areas_at (HSR.out.later _ HBW.out) hmq;obtain rfl:=hSB;have hab:=area_bd HOK.out hmf;have hpk:=peakOrd_bd HOK.out HIN.out i (by rw [HON.out]; exact hi)
    have hsuc : peakOrd f p (i + 1) = max (peakOrd f p i) (p.pl m + areaOf f m):=by
     simp only [peakOrd];rw [hm,Int.toNat_natCast]
    obtain ⟨pm,hpm⟩ : ∃ v,p.pl m = v:=⟨_,rfl⟩;obtain ⟨am,ham⟩ : ∃ v,areaOf f m = v:=⟨_,rfl⟩;obtain ⟨pe,hpe⟩ : ∃ v,peakOrd f p i = v:=⟨_,rfl⟩;rw [hpm] at hp0 hp1 cp hsuc;rw [ham] at hab cs hsuc;rw [hpe] at hpk hsuc;rw [hpe];have HSU:=hide hsuc;have hwr : IntKind.i64.wrap (pm + am) = pm + am:=IntWalk.i64_in _ (by omega);have hm0 : (0 : Int) ≤ (m : Int):=by omega
    have hm1 : (m : Int) < (qn : Int):=by omega
    clear hm hmf hpm ham hpe hsuc;go_wp2_with fail;go_quiet (fail)
    go_wp2_with fail;refine ⟨⟨i + 1,by omega,by simp,by rw [HSU.out]; congr 1; (first | rfl | omega),hide (below_drewN HBW.out _)⟩,by simp [intOf]; omega⟩
   ·obtain rfl : i = on:=by omega
    have HPK:=hide (show peakOrd f p i = peakOf f p from by rw [← HON.out]; exact peak_ord HIN.out);go_wp2_with fail;go_ret2;rw [HSA.out,HPE.out];exact ⟨by rw [← HPK.out]; rfl,HB2.out.trans (HBW.out.mono HB2.out.size)⟩
end
section
variable {f : Frm}
theorem step_co (hf : FrmOk f) {i : Nat} (hi : i < (compO f).length) : stepOf (compO f) (co f i : Nat) = i:=by
 have:=(comp_ord hf (p:=ordP f) rfl).step (m:=i) hi;rw [ord_co rfl hi] at this;exact this
end
section
variable {f : Frm}
theorem laid_apart (hf : FrmOk f) {st : List Int} (h : st.length = f.P.length) {i j : Nat} (hij : j < i) (hi : i < (compO f).length) (hl : (i : Int) ≤ (cspan f (co f j)).Last) :
 let L:=placesTo f st (compO f).length
 ¬ (L.getD (co f j) 0 < L.getD (co f i) 0 + areaOf f (co f i) ∧ L.getD (co f i) 0 < L.getD (co f j) 0 + areaOf f (co f j)):=by
 intro L hc;have ha:=area_bd hf (co_at hi).2.1;have e1 : L.getD (co f i) 0 = placeOf (busyAt f (placesTo f st i) i) (areaOf f (co f i)):=placesTo_keep h hi (Nat.le_refl _);have e2 : L.getD (co f j) 0 = (placesTo f st i).getD (co f j) 0:=by rw [placesTo_keep h hij (by omega)]; exact placesTo_keep h (by omega) (Nat.le_refl _)
 have hp:=placeOf_is (busyAt f (placesTo f st i) i) (areaOf f (co f i));rw [← e1] at hp
 have hm : (⟨(placesTo f st i).getD (co f j) 0,(placesTo f st i).getD (co f j) 0 + areaOf f (co f j) - 1⟩ : Spn) ∈ busyAt f (placesTo f st i) i:=by
  unfold busyAt;exact List.mem_map.2 ⟨(co f j : Nat),mem_live.2 ⟨j,hij,by omega,rfl,hl⟩,by simp only [Int.toNat_natCast]⟩
 have:=freeB_iff.1 hp.free _ hm;simp only at this;rw [← e2] at this;omega
end
section
variable {f : Frm}
theorem comp_ordAt {i : Nat} (hi : i < (compO f).length) : ((comp f).ord i).toNat = co f i:=by rw [ord_co rfl hi]; omega
end
section
variable {f : Frm}
theorem cspan_first (hf : FrmOk f) {i : Nat} (hi : i < (compO f).length) : (cspan f (co f i)).First = i:=step_co hf hi
end
section
variable {f : Frm}
theorem comp_span {k : Nat} : spanOf f (comp f) k = cspan f k:=spanOf_congr (p:=comp f) (q:=ordP f) rfl k
end
section
variable {f : Frm}
theorem comp_fits (hf : FrmOk f) : Fits f (comp f) (peakOf f (comp f)):=by
 have hin:=comp_in hf;rw [← fits_ord hin];intro i hi;have hi : i < (compO f).length:=hi;refine ⟨?_,fun j hj hc=>?_⟩
 ·have:=(peakOrd_le (f:=f) (p:=comp f) (m:=(comp f).Order.length) (M:=peakOf f (comp f))).1 (by rw [peak_ord hin]; exact Int.le_refl _)
  exact this.2 i hi
 ·rw [comp_ordAt hi,comp_ordAt (by omega)] at hc
  unfold Clash meetB at hc;rw [comp_span,comp_span,decide_eq_true_iff,cspan_first hf hi] at hc;exact laid_apart hf (st:=List.replicate f.P.length (-1)) (by simp) hj hi hc.1.2 hc.2
end
section
theorem stepOf_lt {l : List Int} {k : Int} (h : 0 ≤ stepOf l k) : stepOf l k < l.length:=by
 rcases stepOf_cases l k with ⟨h1,_⟩ | ⟨i,h1,h2,_⟩
 ·omega
 ·have : i < l.length:=by
   by_cases e : i < l.length
   ·exact e
   ·rw [List.getElem?_eq_none (by omega)] at h2; cases h2
  omega
end
section
theorem lastUse_ge {f : Frm} {p : Pln} {k : Int} {i : Nat} : ∀ {m : Nat},i < m → k ∈ srcs f (p.ord i).toNat → (i : Int) ≤ lastUse f p k m:=by
 intro m
 induction m with
 | zero=>intro h; omega
 | succ m ih =>
   intro h hk;simp only [lastUse]
   by_cases e : k ∈ srcs f (p.ord m).toNat
   ·rw [if_pos e]; omega
   ·rw [if_neg e]
    have : i ≠ m:=fun h=>e (h ▸ hk);exact ih (by omega) hk
end
section
theorem lastUse_step {f : Frm} {p : Pln} {k : Int} (hu : ∀ i,i < p.Order.length → k ∈ srcs f (p.ord i).toNat → stepOf p.Order k ≤ i) : ∀ m : Nat,m ≤ p.Order.length → stepOf p.Order k ≤ lastUse f p k m:=by
 intro m
 induction m with
 | zero=>intro _; exact Int.le_refl _
 | succ m ih =>
   intro h;simp only [lastUse]
   by_cases e : k ∈ srcs f (p.ord m).toNat
   ·rw [if_pos e]; exact hu m (by omega) e
   ·rw [if_neg e]; exact ih (by omega)
end
section
theorem span_ge {f : Frm} {p : Pln} (h : InOrder f p) {k : Nat} (hd : 0 ≤ stepOf p.Order k) : stepOf p.Order k ≤ (spanOf f p k).Last:=by
 simp only [spanOf];by_cases e : (k : Int) = frLast f
 ·rw [if_pos e]
  have:=stepOf_lt hd;omega
 ·rw [if_neg e]
  exact lastUse_step (fun i hi hk=>by have:=(h.step i hi).2.2 _ hk; omega) _ (Nat.le_refl _)
end
section
theorem part_put {l vs : List Int} {i a n : Nat} (hi : i + vs.length ≤ l.length) (h : a + n ≤ i ∨ i + vs.length ≤ a) : ((putAt l i vs).drop a).take n = (l.drop a).take n:=by
 apply List.ext_getElem
 ·simp only [List.length_take,List.length_drop,putAt_len hi]
 ·intro j h1 h2
  simp only [List.length_take,List.length_drop,putAt_len hi] at h1;simp only [List.getElem_take,List.getElem_drop,putAt];rcases h with h | h
  ·rw [List.getElem_append_left (by simp only [List.length_append,List.length_take]; omega),List.getElem_append_left (by simp only [List.length_take]; omega),List.getElem_take]
  ·rw [List.getElem_append_right (by simp only [List.length_append,List.length_take]; omega),List.getElem_drop]
   congr 1
   simp only [List.length_append,List.length_take];omega
end
section
theorem put_part {l vs : List Int} {i : Nat} (hi : i + vs.length ≤ l.length) : ((putAt l i vs).drop i).take vs.length = vs:=by
 apply List.ext_getElem
 ·simp only [List.length_take,List.length_drop,putAt_len hi]; omega
 ·intro j h1 h2
  simp only [List.getElem_take,List.getElem_drop,putAt];rw [List.getElem_append_left (by simp only [List.length_append,List.length_take]; omega),List.getElem_append_right (by simp only [List.length_take]; omega)]
  congr 1
  simp only [List.length_take];omega
end
section
def Right (f : Frm) (p : Pln) (l : List Int) (i : Nat) : Prop:=∀ k,k < f.P.length → 0 ≤ stepOf p.Order k → stepOf p.Order k < i → (i : Int) - 1 ≤ (spanOf f p k).Last → lieAt l f p k = frImg f k
end
section
theorem lieOf_right {f : Frm} {p : Pln} {l : List Int} {i : Nat} (h : ArOk f p l) (hR : Right f p l i) (hi : i < p.Order.length) {j : Int} (hj : j ∈ srcs f (p.ord i).toNat) : lieOf l f p j = imgOf (frImgs f (p.ord i).toNat) j:=by
 have ho:=h.ordAt hi;have hs:=(h.ord.step i hi).2.2 j hj;have hb:=h.frm.src (k:=(p.ord i).toNat) (by omega) hj;rw [imgOf_at f hb.1 hb.2];unfold lieOf;rw [if_neg (by omega)];have e : ((j.toNat : Nat) : Int) = j:=Int.toNat_of_nonneg hb.1;refine hR j.toNat (by omega) (by rw [e]; exact hs.1) (by rw [e]; exact hs.2) ?_
 have hx : ¬ (j.toNat : Int) = frLast f → (i : Int) ≤ (spanOf f p j.toNat).Last:=fun hl=>by
  simp only [spanOf];rw [if_neg hl,e];exact lastUse_ge hi hj
 by_cases hl : (j.toNat : Int) = frLast f
 ·simp only [spanOf]
  rw [if_pos hl];omega
 ·have:=hx hl; omega
end
section
theorem passImg_congr {W H : Int} {p : Pas} {a b a' b' : Img} (ha : hasA p.Op = true → a = a') (hb : hasB p.Op = true → b = b') : passImg W H p a b = passImg W H p a' b':=by
 unfold passImg;by_cases h1 : hasA p.Op = false
 ·rw [if_pos h1,if_pos h1]
 ·have h1' : hasA p.Op = true:=by simpa using h1
  rw [if_neg h1,if_neg h1,ha h1'];by_cases h2 : hasB p.Op = true
  ·rw [if_pos h2,if_pos h2,hb h2]
  ·rw [if_neg h2,if_neg h2]
end
section
theorem doImg_right {f : Frm} {p : Pln} {l : List Int} {i : Nat} (h : ArOk f p l) (hR : Right f p l i) (hi : i < p.Order.length) : doImg f p l (p.ord i).toNat = frImg f (p.ord i).toNat:=by
 unfold doImg frImg;exact passImg_congr (fun e=>lieOf_right h hR hi (srcA_mem e)) (fun e=>lieOf_right h hR hi (srcB_mem e))
end
section
theorem right_step {f : Frm} {p : Pln} {l : List Int} {i : Nat} (h : ArOk f p l) (hR : Right f p l i) (hi : i < p.Order.length) : Right f p (stepAr f p l (p.ord i).toNat) (i + 1):=by
 have ho:=h.ordAt hi;have hkn : (p.ord i).toNat < f.P.length:=by omega
 have hdi:=doImg_right h hR hi;have hdl:=doImg_len h hkn ho.2;have hpl:=h.place hkn ho.2;have hst:=(h.ord.step i hi).2.1;have e : (((p.ord i).toNat : Nat) : Int) = p.ord i:=Int.toNat_of_nonneg ho.1.1;have hsp:=span_ge h.ord ho.2;rw [e,hst] at hsp;intro k hk hd hlt hlast;have hpk:=h.place hk hd;by_cases he : stepOf p.Order k = i
 ·
  have hkk : k = (p.ord i).toNat:=by
   rcases stepOf_cases p.Order k with ⟨h1,_⟩ | ⟨m,h1,h2,_⟩
   ·omega
   ·have hm : m = i:=by omega
    subst hm;rw [p.ord_at hi] at h2;injection h2 with h2;omega
  subst hkk;have hs:=doImg_fine h hkn ho.2;unfold lieAt stepAr;rw [show (areaOf f (p.ord i).toNat).toNat = (doImg f p l (p.ord i).toNat).P.length by omega,put_part (by omega),← hs.2.1,← hs.2.2,← hdi]
 ·have hlt' : stepOf p.Order k < i:=by omega
  rw [← hR k hk hd hlt' (by omega)];unfold lieAt stepAr
  congr 1
  have hne : k ≠ (p.ord i).toNat:=fun e2=>he (by rw [e2,e]; exact hst)
  have hm1 : meetB (spanOf f p k) (spanOf f p (p.ord i).toNat) = true:=by
   unfold meetB;refine decide_eq_true ⟨?_,?_⟩
   ·show stepOf p.Order k ≤ _
    omega
   ·show stepOf p.Order ((p.ord i).toNat : Int) ≤ _
    rw [e,hst]; omega
  have ha:=(frSize_bd h.frm hk).2;have ha2:=(frSize_bd h.frm hkn).2
  have hnc : ¬ Clash f p k (p.ord i).toNat:=by
   by_cases hlt2 : k < (p.ord i).toNat
   ·rcases h.fits _ hkn with e2 | ⟨-,e2⟩
    ·omega
    ·rcases e2 k hlt2 with e3 | e3
     ·omega
     ·exact fun hc=>e3 hc.symm
   ·rcases h.fits _ hk with e2 | ⟨-,e2⟩
    ·omega
    ·rcases e2 _ (show (p.ord i).toNat < k by omega) with e3 | e3
     ·omega
     ·exact e3
  have hap : p.pl k + areaOf f k ≤ p.pl (p.ord i).toNat ∨ p.pl (p.ord i).toNat + areaOf f (p.ord i).toNat ≤ p.pl k:=by
   by_cases e2 : p.pl k < p.pl (p.ord i).toNat + areaOf f (p.ord i).toNat
   ·by_cases e3 : p.pl (p.ord i).toNat < p.pl k + areaOf f k
    ·exact absurd ⟨hm1,e2,e3⟩ hnc
    ·left; omega
   ·right; omega
  exact part_put (by omega) (by omega)
end
section
theorem runTo_right {f : Frm} {p : Pln} {l : List Int} (h : ArOk f p l) {i : Nat} (hi : i ≤ p.Order.length) : Right f p (runTo f p l i) i:=by
 induction i with
 | zero=>intro k _ h1 h2; omega
 | succ i ih=>exact right_step (runTo_ok h (by omega)).1 (ih (by omega)) (by omega)
end
section
theorem run_shown {f : Frm} {p : Pln} {l : List Int} (h : ArOk f p l) : runImg f p l = frShown f:=by
 have hl:=h.last;have e : (((frLast f).toNat : Nat) : Int) = frLast f:=Int.toNat_of_nonneg hl.1.1;unfold runImg frShown;rw [imgOf_at f hl.1.1 hl.1.2];have hsb:=stepOf_lt hl.2;refine runTo_right h (Nat.le_refl _) _ (by omega) hl.2 (by omega) ?_;simp only [spanOf];rw [if_pos e];omega
end
end Go.Proofs.YtibpmogmeoappacGreat
