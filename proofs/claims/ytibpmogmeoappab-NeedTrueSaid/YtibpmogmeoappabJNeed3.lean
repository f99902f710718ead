/- Walk: needBegun. -/
import Derived.Test.YtibpmogmeoappabJNeedE
import Derived.Test.YtibpmogmeoappabJGlow
import Derived.Test.YtibpmogmeoappabJPure
import Derived.Test.YtibpmogmeoappabJPlain
import Derived.Test.YtibpmogmeoappabJMem
set_option maxRecDepth 100000
set_option maxHeartbeats 4000000
namespace Go.Proofs.Ytibpmogmeoappab
open Go.RowKit
theorem gn1 : lastAns glowF = 4:=by decide +kernel
theorem gn2 : keptAns glowF = [true,false,false,true,true]:=by decide +kernel
theorem gn3 : cullAns glowF = ⟨4,2,3,1,[⟨2,0,0,0,100,[]⟩,⟨1,2,0,0,9,[]⟩,⟨4,1,0,2,0,[]⟩]⟩:=by decide +kernel
theorem needBegun_any (w : World) : Calls Try.prog 36 #[] w fun e w'=>e = .returned (.bool true) ∧ Below w.heap.size w w':=by
 have HL:=hide (fun (A : Option Addr) (c : Nat) (W0 : World) (h1 : Passes W0 A glowF.P)=>last_any 4 2 3 1 A 5 c glowF.P W0 rfl h1);have HK:=hide (fun (A : Option Addr) (c : Nat) (W0 : World) (h1 : Passes W0 A glowF.P)=>kept_any 4 2 3 1 A 5 c glowF.P W0 rfl h1);have HC:=hide (fun (A : Option Addr) (c : Nat) (W0 : World) (h1 : Passes W0 A glowF.P)=>cull_any 4 2 3 1 A 5 c glowF.P W0 rfl h1);have e : (⟨4,2,3,1,glowF.P⟩ : Frm) = glowF:=rfl;rw [e,gf1,gn1] at HL;rw [e,gf1,gn2] at HK;rw [e,gf1,gn3] at HC;clear e;go_enter Try.func36,Try.ntmps36
 go_wp2_with fail;refine (glow_any _).mono ?_;rintro e w1 ⟨A1,c1,rfl,hP1,hE1⟩;have HB1:=hide hE1;have HP1:=hide hP1;clear hE1 hP1;go_wp2_with fail;refine ((unhide HL) A1 c1 _ HP1.out).mono ?_;rintro e w2 ⟨rfl,hE2⟩;have HB2:=hide (HB1.out.trans (hE2.mono HB1.out.size));clear hE2 HB1 HP1 HL;go_wp2_with fail;refine (glow_any _).mono ?_;rintro e w3 ⟨A3,c3,rfl,hP3,hE3⟩;have HB3:=hide (HB2.out.trans (hE3.mono HB2.out.size));have HP3:=hide hP3;clear hE3 hP3 HB2;go_wp2_with fail;refine ((unhide HK) A3 c3 _ HP3.out).mono ?_;rintro e w4 ⟨A4,n4,c4,rfl,hn4,hK4,hE4⟩;have HB4:=hide (HB3.out.trans (hE4.mono HB3.out.size));obtain rfl : n4 = 5:=hn4.symm;have HK4:=hide (show Keeps w4 (fun W'=>Cells W' A4 ([true,false,false,true,true].map Value.bool)) from ⟨hK4,fun _ hb=>hK4.keep hb⟩);clear hE4 HB3 HP3 hK4 hn4 HK;go_wp2_with fail;refine (glow_any _).mono ?_;rintro e w5 ⟨A5,c5,rfl,hP5,hE5⟩;have HB5:=hide (HB4.out.trans (hE5.mono HB4.out.size));have HK5:=hide (HK4.out.move hE5);have HP5:=hide hP5;clear hE5 hP5 HB4 HK4;go_wp2_with fail;refine ((unhide HC) A5 c5 _ HP5.out).mono ?_;rintro e w6 ⟨A6,n6,c6,rfl,hn6,hP6,hE6⟩;obtain rfl : n6 = 3:=hn6.symm;have hal : Below w6.heap.size w6 (w6.alloc (.cells #[.int .i64 4,.int .i64 2,.int .i64 3,.int .i64 1,.slice A6 3 c6] 24)):=(Below.refl _ _).alloc (Nat.le_refl _) _;have HB6:=hide ((HB5.out.trans (hE6.mono HB5.out.size)).trans (hal.mono (HB5.out.trans (hE6.mono HB5.out.size)).size));obtain ⟨b,o,LA,m,d,p,rfl,hb,hp,d0,d1,d2,d3,d4,d5,-⟩:=(hP6.keep hal).at_ 1 (by decide);have hpk : p.K = 9:=by rw [← hp]; rfl
 rw [hpk] at d4;have hks:=(HK5.out.move hE6).later _ hal;obtain ⟨kb,ko,rfl,-,k0⟩:=hks 0 (by decide);obtain ⟨_,_,e1,-,k1⟩:=hks 1 (by decide);cases e1;obtain ⟨_,_,e1,-,k2⟩:=hks 2 (by decide);cases e1;obtain ⟨_,_,e1,-,k3⟩:=hks 3 (by decide);cases e1;obtain ⟨_,_,e1,-,k4⟩:=hks 4 (by decide);cases e1;simp only [List.map_cons,List.map_nil,List.getD_cons_zero,List.getD_cons_succ,Nat.add_zero] at k0 k1 k2 k3 k4;obtain ⟨x,q0,q1,q2,q3,q4⟩:=FrmBox.cells (show FrmBox (w6.alloc (.cells #[.int .i64 4,.int .i64 2,.int .i64 3,.int .i64 1,.slice (some ⟨b,o,none⟩) 3 c6] 24)) w6.heap.size 4 2 3 1 (some ⟨b,o,none⟩) 3 c6 from Blk.new w6 24 (frmCells 4 2 3 1 (some ⟨b,o,none⟩) 3 c6));clear hP6 hE6 hn6 HB5 HK5 HP5 hal hks hp;go_wp2_with fail;go_ret;exact ⟨rfl,HB6.out⟩
end Go.Proofs.Ytibpmogmeoappab
namespace Go.Proofs.Ytibpmogmeoappab
theorem passErr_congr {S : Int} {p : Pas} {st st' : List Sz} (ha : hasA p.Op = true → szAt st' p.A = szAt st p.A) (hb : hasB p.Op = true → szAt st' p.B = szAt st p.B) (h11 : p.Op = 11 → hasA p.Op = true) (h12 : p.Op = 12 → hasA p.Op = true) (hba : hasB p.Op = true → hasA p.Op = true) :
 passErr S p st' = passErr S p st:=by
 unfold passErr restErr;by_cases a : hasA p.Op = true
 ·by_cases b : hasB p.Op = true
  ·rw [ha a,hb b]
  ·rw [ha a]; simp [b]
 ·have b : ¬ hasB p.Op = true:=fun h=>a (hba h)
  have c : ¬ p.Op = 11:=fun h=>a (h11 h);have d : ¬ p.Op = 12:=fun h=>a (h12 h);simp [a,b,c,d]
theorem passSize_congr {W H : Int} {p : Pas} {st st' : List Sz} (ha : hasA p.Op = true → szAt st' p.A = szAt st p.A) : passSize W H p st' = passSize W H p st:=by
 unfold passSize;by_cases a : hasA p.Op = true
 ·rw [ha a]
 ·rw [if_neg a,if_neg a]
theorem passImg_congr {W H : Int} {p : Pas} {a b a' b' : Img} (ha : hasA p.Op = true → a' = a) (hb : hasB p.Op = true → b' = b) : passImg W H p a' b' = passImg W H p a b:=by
 unfold passImg;by_cases h : hasA p.Op = true
 ·rw [ha h]
  by_cases h2 : hasB p.Op = true
  ·rw [hb h2]
  ·simp [h2]
 ·have e : hasA p.Op = false:=Bool.eq_false_iff.2 h
  rw [if_pos e,if_pos e]
structure Emb (f g : Frm) (K : Nat → Prop) (r : Nat → Nat) : Prop where
 w : g.W = f.W
 h : g.H = f.H
 s : g.S = f.S
 lt : ∀ i,K i → i < f.P.length
 closed : ∀ i,K i → ∀ j ∈ srcs f i,K j.toNat
 pas : ∀ i,K i → g.pas (r i) = f.pas i
 wr : ∀ i,K i → ∀ s,0 ≤ writerTo f i s → K (writerTo f i s).toNat → writerTo g (r i) s = (r (writerTo f i s).toNat : Int)
section
variable {f g : Frm} {K : Nat → Prop} {r : Nat → Nat}
theorem memA {f : Frm} {k : Nat} (ha : hasA (f.pas k).Op = true) : writerTo f k (f.pas k).A ∈ srcs f k:=by unfold srcs; rw [if_pos ha]; simp
theorem memB {f : Frm} {k : Nat} (hb : hasB (f.pas k).Op = true) : writerTo f k (f.pas k).B ∈ srcs f k:=by unfold srcs; rw [if_pos hb]; simp
theorem Emb.step (E : Emb f g K r) (hf : FrmOk f) {i : Nat} (hi : K i) (he : frErrTo g (r i) = 0) (hs : ∀ j,j < i → K j → frSize g (r j) = frSize f j) :
 frSize g (r i) = frSize f i ∧ passErr g.S (g.pas (r i)) (frSt g (r i)) = 0:=by
 have hlt:=E.lt i hi;have hok:=hf.pass hlt;have hp:=E.pas i hi;obtain ⟨f1,f2,-⟩:=has_facts hok.kind
 have key : ∀ s : Int,slotIn f.S s = true → 0 ≤ writerTo f i s → writerTo f i s < i → K (writerTo f i s).toNat → szAt (frSt g (r i)) s = szAt (frSt f i) s:=fun s h1 h2 h3 h4=>by
  have hw:=E.wr i hi s h2 h4;rw [writer_size he (by rw [E.s]; exact h1) (by rw [hw]; omega),writer_size (hf.err (Nat.le_of_lt hlt)) h1 h2,hw,Int.toNat_natCast];exact hs _ (by omega) h4
 have ka : hasA (f.pas i).Op = true → szAt (frSt g (r i)) (f.pas i).A = szAt (frSt f i) (f.pas i).A:=fun a=>by
  have h:=hf.srcA hlt a;exact key _ (slot_iff.2 (hok.a a)) h.1 h.2 (E.closed i hi _ (memA a))
 have kb : hasB (f.pas i).Op = true → szAt (frSt g (r i)) (f.pas i).B = szAt (frSt f i) (f.pas i).B:=fun b=>by
  have h:=hf.srcB hlt b;exact key _ (slot_iff.2 (hok.b b)) h.1 h.2 (E.closed i hi _ (memB b))
 have hba : hasB (f.pas i).Op = true → hasA (f.pas i).Op = true:=fun b=>by
  have h4:=f2.1 b
  cases ha : hasA (f.pas i).Op with
  | true=>rfl
  | false=>have:=f1.1 ha; omega
 constructor
 ·unfold frSize
  rw [hp,E.w,E.h];exact passSize_congr ka
 ·rw [hp,E.s,passErr_congr ka kb (fun h=>by rw [h]; rfl) (fun h=>by rw [h]; rfl) hba]
  have:=hf.err (k:=i + 1) hlt;simp only [frErrTo] at this;rw [if_neg (by simpa using hf.err (Nat.le_of_lt hlt))] at this;exact this
theorem Emb.size (E : Emb f g K r) (hf : FrmOk f) (hg : ∀ i,K i → frErrTo g (r i) = 0) : ∀ (n i : Nat),i < n → K i → frSize g (r i) = frSize f i
 | 0,_,h,_=>by omega
 | n + 1,i,h,hi=>(E.step hf hi (hg i hi) (fun j hj hk=>Emb.size E hf hg n j (by omega) hk)).1
theorem Emb.img (E : Emb f g K r) (hf : FrmOk f) : ∀ (n i : Nat),i < n → K i → frImg g (r i) = frImg f i
 | 0,_,h,_=>by omega
 | n + 1, i, h, hi => by
   have hlt:=E.lt i hi;unfold frImg;rw [E.pas i hi,E.w,E.h]
   have key : ∀ s : Int,0 ≤ writerTo f i s → writerTo f i s < i → K (writerTo f i s).toNat → imgOf (frImgs g (r i)) (writerTo g (r i) s) = imgOf (frImgs f i) (writerTo f i s):=fun s h2 h3 h4=>by
    have hw:=E.wr i hi s h2 h4;have hb:=writerTo_bd g (r i) s;rw [imgOf_at g (by rw [hw]; omega) hb.2,imgOf_at f h2 h3,hw,Int.toNat_natCast];exact Emb.img E hf n _ (by omega) h4
   refine passImg_congr (fun a=>?_) (fun b=>?_)
   ·have h:=hf.srcA hlt a
    exact key _ h.1 h.2 (E.closed i hi _ (memA a))
   ·have h:=hf.srcB hlt b
    exact key _ h.1 h.2 (E.closed i hi _ (memB b))
theorem Emb.shown (E : Emb f g K r) (hf : FrmOk f) (hg : frLast g = (r (frLast f).toNat : Int)) (hk : K (frLast f).toNat) : frShown g = frShown f:=by
 have hl:=hf.last;have hb:=writerTo_bd g g.P.length g.O;have e : frLast g < (g.P.length : Int):=hb.2;unfold frShown;rw [imgOf_at g (by rw [hg]; omega) e,imgOf_at f hl.1 hl.2,hg,Int.toNat_natCast];exact E.img hf _ _ (Nat.lt_succ_self _) hk
end
def rank (f : Frm) (k : Nat) : Nat:=(cullTo f k).length
def Kep (f : Frm) (i : Nat) : Prop:=(keptL f).getD i false = true
theorem cull_yes {f : Frm} {k : Nat} (h : Kep f k) : cullTo f (k + 1) = cullTo f k ++ [f.pas k]:=by
 unfold Kep at h; rw [cullTo_succ,if_pos h]
theorem cull_no {f : Frm} {k : Nat} (h : ¬ Kep f k) : cullTo f (k + 1) = cullTo f k:=by
 unfold Kep at h; rw [cullTo_succ,if_neg h,List.append_nil]
theorem rank_yes {f : Frm} {k : Nat} (h : Kep f k) : rank f (k + 1) = rank f k + 1:=by
 unfold rank; rw [cull_yes h,List.length_append]; rfl
theorem rank_no {f : Frm} {k : Nat} (h : ¬ Kep f k) : rank f (k + 1) = rank f k:=by
 unfold rank; rw [cull_no h]
theorem rank_mono {f : Frm} {j k : Nat} (h : j ≤ k) : rank f j ≤ rank f k:=by
 induction k with
 | zero => have : j = 0 := by omega
           subst this; exact Nat.le_refl _
 | succ k ih =>
   by_cases e : j = k + 1
   ·subst e; exact Nat.le_refl _
   ·have:=ih (by omega)
    by_cases hk : Kep f k
    ·rw [rank_yes hk]; omega
    ·rw [rank_no hk]; exact this
theorem cull_prefix (f : Frm) {j k : Nat} (h : j ≤ k) : ∃ t,cullTo f k = cullTo f j ++ t:=by
 induction k with
 | zero => have : j = 0 := by omega
           subst this; exact ⟨[],by simp⟩
 | succ k ih =>
   by_cases e : j = k + 1
   ·subst e; exact ⟨[],by simp⟩
   ·obtain ⟨t,ht⟩:=ih (by omega)
    rw [cullTo_succ,ht];exact ⟨_,List.append_assoc _ _ _⟩
theorem cull_pas {f : Frm} {i : Nat} (hi : i < f.P.length) (hk : Kep f i) : (frCull f).pas (rank f i) = f.pas i:=by
 obtain ⟨t,ht⟩:=cull_prefix f (show i + 1 ≤ f.P.length from hi);unfold Frm.pas frCull rank;simp only;rw [ht,cull_yes hk,List.append_assoc,List.getD_eq_getElem?_getD,List.getElem?_append_right (Nat.le_refl _)];simp [Frm.pas]
theorem cull_wr {f : Frm} {s : Int} : ∀ (i : Nat),i ≤ f.P.length → 0 ≤ writerTo f i s → Kep f (writerTo f i s).toNat → writerTo (frCull f) (rank f i) s = (rank f (writerTo f i s).toNat : Int)
 | 0,_,h,_=>by simp [writerTo] at h
 | i + 1, hi, h, hk => by
   simp only [writerTo] at h hk ⊢;by_cases e : (f.pas i).To = s
   ·rw [if_pos e] at h hk ⊢
    rw [Int.toNat_natCast] at hk ⊢;rw [rank_yes hk];simp only [writerTo];rw [cull_pas (by omega) hk,if_pos e]
   ·rw [if_neg e] at h hk ⊢
    have ih:=cull_wr i (by omega) h hk;by_cases hki : Kep f i
    ·rw [rank_yes hki]
     simp only [writerTo];rw [cull_pas (by omega) hki,if_neg e];exact ih
    ·rw [rank_no hki]; exact ih
theorem cull_emb {f : Frm} (hf : FrmOk f) : Emb f (frCull f) (Kep f) (rank f) where
 w:=rfl
 h:=rfl
 s:=rfl
 lt:=fun i hi=>by have:=lt_of_mark hi; rwa [keptL_len] at this
 closed:=fun i hi j hj=>(keptL_marks hf).closed i hi j hj
 pas:=fun i hi=>cull_pas (by have:=lt_of_mark hi; rwa [keptL_len] at this) hi
 wr:=fun i hi s h1 h2=>cull_wr i (by have:=lt_of_mark hi; rw [keptL_len] at this; omega) h1 h2
theorem cull_errs {f : Frm} (hf : FrmOk f) : ∀ k,k ≤ f.P.length → frErrTo (frCull f) (rank f k) = 0 ∧ ∀ j,j < k → Kep f j → frSize (frCull f) (rank f j) = frSize f j
 | 0,_=>⟨rfl,fun j h=>by omega⟩
 | k + 1, hk => by
   obtain ⟨h1,h2⟩:=cull_errs hf k (by omega);by_cases hkk : Kep f k
   ·obtain ⟨s1,s2⟩:=(cull_emb hf).step hf hkk h1 h2
    refine ⟨?_,fun j hj hkj=>?_⟩
    ·rw [rank_yes hkk]
     simp only [frErrTo];rw [if_neg (by simpa using h1)];exact s2
    ·by_cases e : j = k
     ·subst e; exact s1
     ·exact h2 j (by omega) hkj
   ·refine ⟨by rw [rank_no hkk]; exact h1,fun j hj hkj=>?_⟩
    by_cases e : j = k
    ·subst e; exact absurd hkj hkk
    ·exact h2 j (by omega) hkj
theorem cull_last {f : Frm} (hf : FrmOk f) : frLast (frCull f) = (rank f (frLast f).toNat : Int) :=
 cull_wr f.P.length (Nat.le_refl _) hf.last.1 (keptL_marks hf).last
theorem cull_ok_ {f : Frm} (hf : FrmOk f) : FrmOk (frCull f):=by
 have hl:=hf.last;have hm:=hf.many;have hkl : Kep f (frLast f).toNat:=(keptL_marks hf).last;obtain ⟨h1,h2⟩:=cull_errs hf f.P.length (Nat.le_refl _);have hlen : (frCull f).P.length = rank f f.P.length:=rfl;refine ⟨hf.bounds,⟨?_,?_⟩,h1,?_⟩
 ·have a:=rank_yes hkl
  have b:=rank_mono (f:=f) (show (frLast f).toNat + 1 ≤ f.P.length by omega);rw [hlen]; omega
 ·rw [hlen]; have:=cullTo_len f f.P.length; unfold rank; omega
 ·have hs:=slot_iff.2 hf.bounds.2.2.2
  have e1:=writer_size (f:=frCull f) h1 (s:=f.O) hs (by have:=cull_last hf; unfold frLast at this; rw [show writerTo (frCull f) (rank f f.P.length) f.O = _ from this]; omega);have e2:=writer_size hf.errs hs hl.1;have e3 : writerTo (frCull f) (rank f f.P.length) f.O = (rank f (frLast f).toNat : Int):=cull_last hf;rw [e3,Int.toNat_natCast] at e1
  show (szAt (frSt (frCull f) (rank f f.P.length)) f.O).W ≠ 0
  rw [e1,h2 _ (by omega) hkl];have:=hf.out;rw [e2] at this;exact this
theorem cull_shown {f : Frm} (hf : FrmOk f) : frShown (frCull f) = frShown f:=(cull_emb hf).shown hf (cull_last hf) (keptL_marks hf).last
theorem rank_onto (f : Frm) : ∀ (k q : Nat),q < rank f k → ∃ i,i < k ∧ Kep f i ∧ rank f i = q
 | 0,q,h=>by simp [rank,cullTo] at h
 | k + 1, q, h => by
   by_cases hk : Kep f k
   ·rw [rank_yes hk] at h
    by_cases e : q = rank f k
    ·exact ⟨k,Nat.lt_succ_self k,hk,e.symm⟩
    ·obtain ⟨i,h1,h2,h3⟩:=rank_onto f k q (by omega)
     exact ⟨i,by omega,h2,h3⟩
   ·rw [rank_no hk] at h
    obtain ⟨i,h1,h2,h3⟩:=rank_onto f k q h;exact ⟨i,by omega,h2,h3⟩
theorem cull_needs {f : Frm} (hf : FrmOk f) {i : Nat} (h : Needs f i) : Needs (frCull f) (rank f i):=by
 have hm:=keptL_marks hf
 induction h with
 | last =>
   have:=Needs.last (f:=frCull f);rw [cull_last hf,Int.toNat_natCast] at this;exact this
 | @src k j hk hj ih =>
   have hkk : Kep f k:=(hm.iff k).2 hk;have hlt : k < f.P.length:=by have:=lt_of_mark hkk; rwa [keptL_len] at this
   have hjk : Kep f j.toNat:=hm.closed k hkk j hj;have hsrc:=hf.src hlt hj;have hp:=cull_pas hlt hkk
   have hmem : ((rank f j.toNat : Nat) : Int) ∈ srcs (frCull f) (rank f k):=by
    unfold srcs at hj ⊢;rw [hp];rw [List.mem_append] at hj ⊢;rcases hj with hj | hj
    ·left
     by_cases a : hasA (f.pas k).Op = true
     ·rw [if_pos a] at hj ⊢
      simp only [List.mem_singleton] at hj ⊢;subst hj;exact ((cull_emb hf).wr k hkk _ hsrc.1 hjk).symm
     ·rw [if_neg a] at hj; simp at hj
    ·right
     by_cases a : hasB (f.pas k).Op = true
     ·rw [if_pos a] at hj ⊢
      simp only [List.mem_singleton] at hj ⊢;subst hj;exact ((cull_emb hf).wr k hkk _ hsrc.1 hjk).symm
     ·rw [if_neg a] at hj; simp at hj
   have:=Needs.src ih hmem
   rwa [Int.toNat_natCast] at this
theorem cull_twice {f : Frm} (hf : FrmOk f) : frCull (frCull f) = frCull f:=by
 have hc:=cull_ok_ hf;have hm:=keptL_marks hf;have hmc:=keptL_marks hc
 have hall : ∀ q,q < (frCull f).P.length → Kep (frCull f) q:=fun q hq=>by
  obtain ⟨i,h1,h2,rfl⟩:=rank_onto f f.P.length q hq;exact (hmc.iff _).2 (cull_needs hf ((hm.iff i).1 h2))
 have e : cullTo (frCull f) (frCull f).P.length = (frCull f).P:=by
  have h1 : ∀ k,k ≤ (frCull f).P.length → cullTo (frCull f) k = (frCull f).P.take k:=by
   intro k
   induction k with
   | zero=>intro _; simp [cullTo]
   | succ k ih =>
     intro hk;rw [cull_yes (hall k (by omega)),ih (by omega),List.take_add_one,List.getElem?_eq_getElem (show k < (frCull f).P.length by omega)];simp [Frm.pas,List.getD_eq_getElem?_getD,List.getElem?_eq_getElem (show k < (frCull f).P.length by omega)]
  rw [h1 _ (Nat.le_refl _),List.take_length]
 show (⟨f.W,f.H,f.S,f.O,cullTo (frCull f) (frCull f).P.length⟩ : Frm) = frCull f
 rw [e];rfl
def withK (p : Pas) (k : Int) : Pas:=⟨p.Op,p.To,p.A,p.B,k,p.L⟩
def setK (f : Frm) (x : Nat) (k : Int) : Frm:=⟨f.W,f.H,f.S,f.O,f.P.set x (withK (f.pas x) k)⟩
theorem setK_pas {f : Frm} {x : Nat} {k : Int} (hx : x < f.P.length) (i : Nat) : (setK f x k).pas i = if i = x then withK (f.pas x) k else f.pas i:=by
 unfold setK;simp only [Frm.pas,List.getD_eq_getElem?_getD,List.getElem?_set];by_cases e : x = i
 ·subst e; simp [hx]
 ·rw [if_neg e,if_neg (fun h=>e h.symm)]
theorem setK_wr {f : Frm} {x : Nat} {k : Int} (hx : x < f.P.length) (s : Int) : ∀ i,writerTo (setK f x k) i s = writerTo f i s
 | 0=>rfl
 | i + 1 => by
   simp only [writerTo];rw [setK_wr hx s i,setK_pas hx];by_cases e : i = x
   ·subst e; rw [if_pos rfl]; rfl
   ·rw [if_neg e]
theorem setK_shown {f : Frm} (hf : FrmOk f) {x : Nat} {k : Int} (hx : x < f.P.length) (hn : (keptL f).getD x false = false) : frShown (setK f x k) = frShown f:=by
 have hm:=keptL_marks hf;have hne : ∀ i,Kep f i → i ≠ x:=fun i hi e=>by subst e; unfold Kep at hi; rw [hn] at hi; cases hi
 have E : Emb f (setK f x k) (Kep f) (fun i=>i):=by
  refine ⟨rfl,rfl,rfl,(cull_emb hf).lt,(cull_emb hf).closed,fun i hi=>?_,fun i hi s h1 h2=>?_⟩
  ·rw [setK_pas hx,if_neg (hne i hi)]
  ·rw [setK_wr hx]; omega
 refine E.shown hf ?_ hm.last;have hl:=hf.last;have e : (setK f x k).P.length = f.P.length:=by unfold setK; simp
 unfold frLast;rw [e,setK_wr hx]
 show writerTo f f.P.length f.O = _
 unfold frLast at hl;omega
end Go.Proofs.Ytibpmogmeoappab
namespace Go.Proofs.Ytibpmogmeoappab
open Go.RowKit
theorem pasK_len : ∀ (x : Pas) (cs : List Value) (B : Option Addr) (ds : List Value),PasK x cs B ds → cs.length = 6:=by
 rintro x cs B ds ⟨m,d,rfl,-⟩;rfl
theorem passes_setK {w : World} {base : Nat} {A : Option Addr} {n c : Nat} {ps : List Pas} {es : List (List Value × Option Addr × List Value)} (h : GRow PasK 6 73 w base A n c ps es) {x : Nat} (hx : x < ps.length) (k : Int) :
 ∃ g v,A = some ⟨g,0,none⟩ ∧ base ≤ g ∧ g < w.heap.size ∧ w.cell? ⟨g,x * 6 + 4,none⟩ = some v ∧ w.frozen? ⟨g,x * 6 + 4,none⟩ = false ∧ Passes (w.setCell ⟨g,x * 6 + 4,none⟩ (.int .i64 k)) A (ps.set x (withK (ps.getD x noPas) k)):=by
 obtain ⟨g,cs,B,ds,rfl,hb,hg,-,-,-,-,hcs⟩:=h.at2 pasK_len (List.getElem?_eq_getElem hx) (by omega);refine ⟨g,_,rfl,hb,hg,(hcs 4 (by omega)).1,(hcs 4 (by omega)).2,fun i hi=>?_⟩;rw [List.length_set] at hi;obtain ⟨g',cs',LB,ds',e1,-,-,-,⟨m,d,rfl,hm,rfl,h8⟩,hcl,hne,hc'⟩:=h.at2 pasK_len (List.getElem?_eq_getElem hi) (by omega);cases e1;have eP : ∀ j (hj : j < ps.length),ps.getD j noPas = ps[j]:=fun j hj=>by rw [List.getD_eq_getElem?_getD,List.getElem?_eq_getElem hj]; rfl
 have hlam : Lamps (w.setCell ⟨g,x * 6 + 4,none⟩ (.int .i64 k)) LB ps[i].L:=by
  by_cases hd : ps[i].L.flatMap lampCells = []
  ·exact cells_lamps (by rw [hd]; exact Cells.nil _ _)
  ·have hs : Sat w none LB (ps[i].L.flatMap lampCells):=⟨hcl,fun _ _ _ e=>by cases e⟩
   exact cells_lamps (hs.far (p:=⟨g,x * 6 + 4,none⟩) (fun b o e=>hne hd ⟨b,o,none⟩ e) _).1
 by_cases hix : i = x
 ·subst hix
  have e : (ps.set i (withK (ps.getD i noPas) k)).getD i noPas = withK ps[i] k:=by
   rw [List.getD_eq_getElem?_getD,List.getElem?_set,if_pos rfl,if_pos hi,eP i hi]; rfl
  rw [e];refine ⟨g,0,LB,m,d,rfl,by simpa [World.setCell] using hg,fun j hj=>?_,hm,hlam,by omega⟩;rw [Nat.zero_add];by_cases hj4 : j = 4
  ·subst hj4
   rw [World.cell?_setCell_same' _ _ _ (by rw [(hcs 4 (by omega)).1]; rfl)];rfl
  ·rw [World.cell?_setCell_other _ _ _ _ (by intro e; injection e with _ e _; omega),(hc' j hj).1]
   congr 1
   rcases (show j = 0 ∨ j = 1 ∨ j = 2 ∨ j = 3 ∨ j = 5 from by omega) with rfl | rfl | rfl | rfl | rfl <;> rfl
 ·have e : (ps.set x (withK (ps.getD x noPas) k)).getD i noPas = ps[i]:=by
   rw [List.getD_eq_getElem?_getD,List.getElem?_set,if_neg (fun h=>hix h.symm),List.getElem?_eq_getElem hi]; rfl
  rw [e];refine ⟨g,0,LB,m,d,rfl,by simpa [World.setCell] using hg,fun j hj=>?_,hm,hlam,by omega⟩;rw [Nat.zero_add,World.cell?_setCell_other _ _ _ _ (by intro e; injection e with _ e _; omega)];exact (hc' j hj).1
end Go.Proofs.Ytibpmogmeoappab
