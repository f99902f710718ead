/- Walk: needBegun. -/
import Derived.Test.YtibpmogmeoappaaJNeedE
import Derived.Test.YtibpmogmeoappaaJGlow
import Derived.Test.YtibpmogmeoappaaJPure
import Derived.Test.YtibpmogmeoappaaJPlain
import Derived.Test.YtibpmogmeoappaaJMem
set_option maxRecDepth 100000
set_option maxHeartbeats 4000000
namespace Go.Proofs.Ytibpmogmeoappaa
open Go.RowKit
theorem gn1 : lastAns glowF = 4:=by decide +kernel
theorem gn2 : keptAns glowF = [true,false,false,true,true]:=by decide +kernel
theorem gn3 : cullAns glowF = ⟨4,2,3,1,[⟨2,0,0,0,100,[]⟩,⟨1,2,0,0,9,[]⟩,⟨4,1,0,2,0,[]⟩]⟩:=by decide +kernel
theorem needBegun_any (w : World) : Calls Try.prog 50 #[] w fun e w'=>e = .returned (.bool true) ∧ Below w.heap.size w w':=by
 have HL:=hide (fun (A : Option Addr) (c : Nat) (W0 : World) (h1 : Passes W0 A glowF.P)=>last_any 4 2 3 1 A 5 c glowF.P W0 rfl h1);have HK:=hide (fun (A : Option Addr) (c : Nat) (W0 : World) (h1 : Passes W0 A glowF.P)=>kept_any 4 2 3 1 A 5 c glowF.P W0 rfl h1);have HC:=hide (fun (A : Option Addr) (c : Nat) (W0 : World) (h1 : Passes W0 A glowF.P)=>cull_any 4 2 3 1 A 5 c glowF.P W0 rfl h1);have e : (⟨4,2,3,1,glowF.P⟩ : Frm) = glowF:=rfl;rw [e,gf1,gn1] at HL;rw [e,gf1,gn2] at HK;rw [e,gf1,gn3] at HC;clear e;go_enter Try.func50,Try.ntmps50
 go_wp2_with fail;refine (glow_any _).mono ?_;rintro e w1 ⟨A1,c1,rfl,hP1,hE1⟩;have HB1:=hide hE1;have HP1:=hide hP1;clear hE1 hP1;go_wp2_with fail;refine ((unhide HL) A1 c1 _ HP1.out).mono ?_;rintro e w2 ⟨rfl,hE2⟩;have HB2:=hide (HB1.out.trans (hE2.mono HB1.out.size));clear hE2 HB1 HP1 HL;go_wp2_with fail;refine (glow_any _).mono ?_;rintro e w3 ⟨A3,c3,rfl,hP3,hE3⟩;have HB3:=hide (HB2.out.trans (hE3.mono HB2.out.size));have HP3:=hide hP3;clear hE3 hP3 HB2;go_wp2_with fail;refine ((unhide HK) A3 c3 _ HP3.out).mono ?_;rintro e w4 ⟨A4,n4,c4,rfl,hn4,hK4,hE4⟩;have HB4:=hide (HB3.out.trans (hE4.mono HB3.out.size));obtain rfl : n4 = 5:=hn4.symm;have HK4:=hide (show Keeps w4 (fun W'=>Cells W' A4 ([true,false,false,true,true].map Value.bool)) from ⟨hK4,fun _ hb=>hK4.keep hb⟩);clear hE4 HB3 HP3 hK4 hn4 HK;go_wp2_with fail;refine (glow_any _).mono ?_;rintro e w5 ⟨A5,c5,rfl,hP5,hE5⟩;have HB5:=hide (HB4.out.trans (hE5.mono HB4.out.size));have HK5:=hide (HK4.out.move hE5);have HP5:=hide hP5;clear hE5 hP5 HB4 HK4;go_wp2_with fail;refine ((unhide HC) A5 c5 _ HP5.out).mono ?_;rintro e w6 ⟨A6,n6,c6,rfl,hn6,hP6,hE6⟩;obtain rfl : n6 = 3:=hn6.symm;have hal : Below w6.heap.size w6 (w6.alloc (.cells #[.int .i64 4,.int .i64 2,.int .i64 3,.int .i64 1,.slice A6 3 c6] 63)):=(Below.refl _ _).alloc (Nat.le_refl _) _;have HB6:=hide ((HB5.out.trans (hE6.mono HB5.out.size)).trans (hal.mono (HB5.out.trans (hE6.mono HB5.out.size)).size));obtain ⟨b,o,LA,m,d,p,rfl,hb,hp,d0,d1,d2,d3,d4,d5,-⟩:=(hP6.keep hal).at_ 1 (by decide);have hpk : p.K = 9:=by rw [← hp]; rfl
 rw [hpk] at d4;have hks:=(HK5.out.move hE6).later _ hal;obtain ⟨kb,ko,rfl,-,k0⟩:=hks 0 (by decide);obtain ⟨_,_,e1,-,k1⟩:=hks 1 (by decide);cases e1;obtain ⟨_,_,e1,-,k2⟩:=hks 2 (by decide);cases e1;obtain ⟨_,_,e1,-,k3⟩:=hks 3 (by decide);cases e1;obtain ⟨_,_,e1,-,k4⟩:=hks 4 (by decide);cases e1;simp only [List.map_cons,List.map_nil,List.getD_cons_zero,List.getD_cons_succ,Nat.add_zero] at k0 k1 k2 k3 k4;obtain ⟨x,q0,q1,q2,q3,q4⟩:=FrmBox.cells (show FrmBox (w6.alloc (.cells #[.int .i64 4,.int .i64 2,.int .i64 3,.int .i64 1,.slice (some ⟨b,o,none⟩) 3 c6] 63)) w6.heap.size 4 2 3 1 (some ⟨b,o,none⟩) 3 c6 from Blk.new w6 63 (frmCells 4 2 3 1 (some ⟨b,o,none⟩) 3 c6));clear hP6 hE6 hn6 HB5 HK5 HP5 hal hks hp;go_wp2_with fail;go_ret;exact ⟨rfl,HB6.out⟩
end Go.Proofs.Ytibpmogmeoappaa
namespace Go.Proofs.Ytibpmogmeoappaa
theorem passErr_congr {S : Int} {p : Pas} {st st' : List Sz} (ha : hasA p.Op = true → szAt st' p.A = szAt st p.A) (hb : hasB p.Op = true → szAt st' p.B = szAt st p.B) (h11 : p.Op = 11 → hasA p.Op = true) (h12 : p.Op = 12 → hasA p.Op = true) (hba : hasB p.Op = true → hasA p.Op = true) :
 passErr S p st' = passErr S p st:=by
 unfold passErr restErr;by_cases a : hasA p.Op = true
 ·by_cases b : hasB p.Op = true
  ·rw [ha a,hb b]
  ·rw [ha a]; simp [b]
 ·have b : ¬ hasB p.Op = true:=fun h=>a (hba h)
  have c : ¬ p.Op = 11:=fun h=>a (h11 h);have d : ¬ p.Op = 12:=fun h=>a (h12 h);simp [a,b,c,d]
theorem passSize_congr {W H : Int} {p : Pas} {st st' : List Sz} (ha : hasA p.Op = true → szAt st' p.A = szAt st p.A) : passSize W H p st' = passSize W H p st:=by
 unfold passSize;by_cases a : hasA p.Op = true
 ·rw [ha a]
 ·rw [if_neg a,if_neg a]
theorem passImg_congr {W H : Int} {p : Pas} {a b a' b' : Img} (ha : hasA p.Op = true → a' = a) (hb : hasB p.Op = true → b' = b) : passImg W H p a' b' = passImg W H p a b:=by
 unfold passImg;by_cases h : hasA p.Op = true
 ·rw [ha h]
  by_cases h2 : hasB p.Op = true
  ·rw [hb h2]
  ·simp [h2]
 ·have e : hasA p.Op = false:=Bool.eq_false_iff.2 h
  rw [if_pos e,if_pos e]
structure Emb (f g : Frm) (K : Nat → Prop) (r : Nat → Nat) : Prop where
 w : g.W = f.W
 h : g.H = f.H
 s : g.S = f.S
 lt : ∀ i,K i → i < f.P.length
 closed : ∀ i,K i → ∀ j ∈ srcs f i,K j.toNat
 pas : ∀ i,K i → g.pas (r i) = f.pas i
 wr : ∀ i,K i → ∀ s,0 ≤ writerTo f i s → K (writerTo f i s).toNat → writerTo g (r i) s = (r (writerTo f i s).toNat : Int)
section
variable {f g : Frm} {K : Nat → Prop} {r : Nat → Nat}
theorem memA {f : Frm} {k : Nat} (ha : hasA (f.pas k).Op = true) : writerTo f k (f.pas k).A ∈ srcs f k:=by unfold srcs; rw [if_pos ha]; simp
theorem memB {f : Frm} {k : Nat} (hb : hasB (f.pas k).Op = true) : writerTo f k (f.pas k).B ∈ srcs f k:=by unfold srcs; rw [if_pos hb]; simp
theorem Emb.step (E : Emb f g K r) (hf : FrmOk f) {i : Nat} (hi : K i) (he : frErrTo g (r i) = 0) (hs : ∀ j,j < i → K j → frSize g (r j) = frSize f j) :
 frSize g (r i) = frSize f i ∧ passErr g.S (g.pas (r i)) (frSt g (r i)) = 0:=by
 have hlt:=E.lt i hi;have hok:=hf.pass hlt;have hp:=E.pas i hi;obtain ⟨f1,f2,-⟩:=has_facts hok.kind
 have key : ∀ s : Int,slotIn f.S s = true → 0 ≤ writerTo f i s → writerTo f i s < i → K (writerTo f i s).toNat → szAt (frSt g (r i)) s = szAt (frSt f i) s:=fun s h1 h2 h3 h4=>by
  have hw:=E.wr i hi s h2 h4;rw [writer_size he (by rw [E.s]; exact h1) (by rw [hw]; omega),writer_size (hf.err (Nat.le_of_lt hlt)) h1 h2,hw,Int.toNat_natCast];exact hs _ (by omega) h4
 have ka : hasA (f.pas i).Op = true → szAt (frSt g (r i)) (f.pas i).A = szAt (frSt f i) (f.pas i).A:=fun a=>by
  have h:=hf.srcA hlt a;exact key _ (slot_iff.2 (hok.a a)) h.1 h.2 (E.closed i hi _ (memA a))
 have kb : hasB (f.pas i).Op = true → szAt (frSt g (r i)) (f.pas i).B = szAt (frSt f i) (f.pas i).B:=fun b=>by
  have h:=hf.srcB hlt b;exact key _ (slot_iff.2 (hok.b b)) h.1 h.2 (E.closed i hi _ (memB b))
 have hba : hasB (f.pas i).Op = true → hasA (f.pas i).Op = true:=fun b=>by
  have h4:=f2.1 b
  cases ha : hasA (f.pas i).Op with
  | true=>rfl
  | false=>have:=f1.1 ha; omega
 constructor
 ·unfold frSize
  rw [hp,E.w,E.h];exact passSize_congr ka
 ·rw [hp,E.s,passErr_congr ka kb (fun h=>by rw [h]; rfl) (fun h=>by rw [h]; rfl) hba]
  have:=hf.err (k:=i + 1) hlt;simp only [frErrTo] at this;rw [if_neg (by simpa using hf.err (Nat.le_of_lt hlt))] at this;exact this
theorem Emb.size (E : Emb f g K r) (hf : FrmOk f) (hg : ∀ i,K i → frErrTo g (r i) = 0) : ∀ (n i : Nat),i < n → K i → frSize g (r i) = frSize f i
 | 0,_,h,_=>by omega
 | n + 1,i,h,hi=>(E.step hf hi (hg i hi) (fun j hj hk=>Emb.size E hf hg n j (by omega) hk)).1
theorem Emb.img (E : Emb f g K r) (hf : FrmOk f) : ∀ (n i : Nat),i < n → K i → frImg g (r i) = frImg f i
 | 0,_,h,_=>by omega
 | n + 1, i, h, hi => by
   have hlt:=E.lt i hi;unfold frImg;rw [E.pas i hi,E.w,E.h]
   have key : ∀ s : Int,0 ≤ writerTo f i s → writerTo f i s < i → K (writerTo f i s).toNat → imgOf (frImgs g (r i)) (writerTo g (r i) s) = imgOf (frImgs f i) (writerTo f i s):=fun s h2 h3 h4=>by
    have hw:=E.wr i hi s h2 h4;have hb:=writerTo_bd g (r i) s;rw [imgOf_at g (by rw [hw]; omega) hb.2,imgOf_at f h2 h3,hw,Int.toNat_natCast];exact Emb.img E hf n _ (by omega) h4
   refine passImg_congr (fun a=>?_) (fun b=>?_)
   ·have h:=hf.srcA hlt a
    exact key _ h.1 h.2 (E.closed i hi _ (memA a))
   ·have h:=hf.srcB hlt b
    exact key _ h.1 h.2 (E.closed i hi _ (memB b))
theorem Emb.shown (E : Emb f g K r) (hf : FrmOk f) (hg : frLast g = (r (frLast f).toNat : Int)) (hk : K (frLast f).toNat) : frShown g = frShown f:=by
 have hl:=hf.last;have hb:=writerTo_bd g g.P.length g.O;have e : frLast g < (g.P.length : Int):=hb.2;unfold frShown;rw [imgOf_at g (by rw [hg]; omega) e,imgOf_at f hl.1 hl.2,hg,Int.toNat_natCast];exact E.img hf _ _ (Nat.lt_succ_self _) hk
end
def rank (f : Frm) (k : Nat) : Nat:=(cullTo f k).length
def Kep (f : Frm) (i : Nat) : Prop:=(keptL f).getD i false = true
def withK (p : Pas) (k : Int) : Pas:=⟨p.Op,p.To,p.A,p.B,k,p.L⟩
def setK (f : Frm) (x : Nat) (k : Int) : Frm:=⟨f.W,f.H,f.S,f.O,f.P.set x (withK (f.pas x) k)⟩
end Go.Proofs.Ytibpmogmeoappaa
namespace Go.Proofs.Ytibpmogmeoappaa
open Go.RowKit
theorem pasK_len : ∀ (x : Pas) (cs : List Value) (B : Option Addr) (ds : List Value),PasK x cs B ds → cs.length = 6:=by
 rintro x cs B ds ⟨m,d,rfl,-⟩;rfl
end Go.Proofs.Ytibpmogmeoappaa
