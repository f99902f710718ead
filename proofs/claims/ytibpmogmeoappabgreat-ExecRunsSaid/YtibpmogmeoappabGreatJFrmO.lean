/- Walks: underpaintref.Made. (Printed by gen_made.py.) -/
import Derived.Test.YtibpmogmeoappabGreatJFrmC
import Derived.Test.YtibpmogmeoappabGreatJMem
import Derived.Test.YtibpmogmeoappabGreatJPure
import Derived.Test.YtibpmogmeoappabGreatJLitB
import Derived.Test.YtibpmogmeoappabGreatJImgL
import Derived.Test.YtibpmogmeoappabGreatJImgA
import Derived.Deep.RegionHeld3
import Derived.Test.YtibpmogmeoappabGreatJPlain
set_option maxRecDepth 100000
set_option maxHeartbeats 4000000
namespace Go.Proofs.YtibpmogmeoappabGreat
open Go.RowKit
theorem retPut {w w0 w1 : World} {r : Nat} {img : Img} {W1 H1 : Int} {P1 : List Int} {A1 : Option Addr} {n1 c1 : Nat} (hr : Img.mk W1 H1 P1 = img) (hn : P1.length = n1) (hI : Ints w1 A1 P1) (hA : Mine w1 w0.heap.size A1) (hlt : r < w0.heap.size) (hwr : w.heap.size ≤ r) (hB : Below w.heap.size w w1) (u0 u1 u2 : Value) :
 RetImg w img (.returned (.agg #[.int .i64 W1,.int .i64 H1,.slice A1 n1 c1])) (((w1.setCell ⟨r,0,none⟩ u0).setCell ⟨r,1,none⟩ u1).setCell ⟨r,2,none⟩ u2) :=
 ⟨W1, H1, P1, A1, n1, c1, hr, hn, rfl, ((hI.far hA.new (p := ⟨r, 0, none⟩) hlt u0).far hA.new (p := ⟨r, 1, none⟩) hlt u1).far hA.new (p := ⟨r, 2, none⟩) hlt u2,
   (((hA.far (p:=⟨r,0,none⟩) hlt u0).far (p:=⟨r,1,none⟩) hlt u1).far (p:=⟨r,2,none⟩) hlt u2).mono (by omega),((hB.setCell (p:=⟨r,0,none⟩) hwr u0).setCell (p:=⟨r,1,none⟩) hwr u1).setCell (p:=⟨r,2,none⟩) hwr u2⟩
theorem retPut2 {w w0 w1 : World} {r s : Nat} {img : Img} {W1 H1 : Int} {P1 : List Int} {A1 : Option Addr} {n1 c1 : Nat} (hr : Img.mk W1 H1 P1 = img) (hn : P1.length = n1) (hI : Ints w1 A1 P1) (hA : Mine w1 w0.heap.size A1) (hlt : r < w0.heap.size) (hwr : w.heap.size ≤ r) (hls : s < w0.heap.size) (hws : w.heap.size ≤ s) (hB : Below w.heap.size w w1) (v0 v1 v2 u0 u1 u2 : Value) :
 RetImg w img (.returned (.agg #[.int .i64 W1,.int .i64 H1,.slice A1 n1 c1])) ((((((w1.setCell ⟨s,0,none⟩ v0).setCell ⟨s,1,none⟩ v1).setCell ⟨s,2,none⟩ v2).setCell ⟨r,0,none⟩ u0).setCell ⟨r,1,none⟩ u1).setCell ⟨r,2,none⟩ u2) :=
 retPut hr hn (((hI.far hA.new (p:=⟨s,0,none⟩) hls v0).far hA.new (p:=⟨s,1,none⟩) hls v1).far hA.new (p:=⟨s,2,none⟩) hls v2) (((hA.far (p:=⟨s,0,none⟩) hls v0).far (p:=⟨s,1,none⟩) hls v1).far (p:=⟨s,2,none⟩) hls v2) hlt hwr
  (((hB.setCell (p:=⟨s,0,none⟩) hws v0).setCell (p:=⟨s,1,none⟩) hws v1).setCell (p:=⟨s,2,none⟩) hws v2) u0 u1 u2
theorem Imgs.pick {w : World} {IA : Option Addr} {L : List Img} {a : Img} (h : Imgs w IA L) (i : Nat) (ha : L[i]? = some a) (hl : a.P.length ≤ 65536) :
 ∃ b o B m d,IA = some ⟨b,o,none⟩ ∧ b < w.heap.size ∧ w.cell? ⟨b,o + i * 3,none⟩ = some (.int .i64 a.W) ∧ w.cell? ⟨b,o + i * 3 + 1,none⟩ = some (.int .i64 a.H) ∧ w.cell? ⟨b,o + i * 3 + 2,none⟩ = some (.slice B m d) ∧ a.P.length = m ∧ m ≤ 65536 ∧ Ints w B a.P:=by
 obtain ⟨b,o,B,m,d,h1,h2,h3,h4,h5,h6,h7⟩:=h i a ha;exact ⟨b,o,B,m,d,h1,h2,h3,h4,h5,h6,by omega,h7⟩
theorem fine_small {a : Img} (h : a.Fine) : a.P.length ≤ 65536:=by
 obtain ⟨⟨h1,h2⟩,⟨h3,h4⟩,h5,_⟩:=h;have:=(mul_bd h1 h2 h3 h4).2;omega
theorem imgEta (a : Img) : (⟨a.W,a.H,a.P⟩ : Img) = a:=rfl
structure MadeMem (w : World) (W H S O : Int) (PA : Option Addr) (n c : Nat) (p : Pas) (LA : Option Addr) (m d : Nat) (IA : Option Addr) (L : List Img) (W' : World) : Prop where
 frm : FrmBox W' w.heap.size W H S O PA n c
 pas : PasBox W' (w.heap.size + 1) p LA m d
 res : Blk W' (w.heap.size + 2) 29 [.int .i64 0,.int .i64 0,.slice none 0 0]
 lamps : Lamps W' LA p.L
 imgs : Imgs W' IA L
 below : Below w.heap.size w W'
theorem MadeMem.keep {w : World} {W H S O : Int} {PA : Option Addr} {n c : Nat} {p : Pas} {LA : Option Addr} {m d : Nat} {IA : Option Addr} {L : List Img} {w1 w2 : World} (h : MadeMem w W H S O PA n c p LA m d IA L w1) (hb : Below w1.heap.size w1 w2) : MadeMem w W H S O PA n c p LA m d IA L w2 :=
 ⟨Blk.keep h.frm hb,Blk.keep h.pas hb,h.res.keep hb,h.lamps.keep hb,h.imgs.keep hb,h.below.trans (hb.mono h.below.size)⟩
theorem madeMem_start {w : World} {p : Pas} {LA IA : Option Addr} {L : List Img} (hL : Lamps w LA p.L) (hI : Imgs w IA L) (W H S O : Int) (PA : Option Addr) (n c m d : Nat) :
 MadeMem w W H S O PA n c p LA m d IA L (((w.alloc (.cells (frmCells W H S O PA n c).toArray 24)).alloc (.cells (passCells p LA m d).toArray 72)).alloc (.cells #[.int .i64 0,.int .i64 0,.slice none 0 0] 29)):=by
 have hb : Below w.heap.size w (((w.alloc (.cells (frmCells W H S O PA n c).toArray 24)).alloc (.cells (passCells p LA m d).toArray 72)).alloc (.cells #[.int .i64 0,.int .i64 0,.slice none 0 0] 29)):=(((Below.refl _ _).alloc (Nat.le_refl _) _).alloc (by simp) _).alloc (by simp only [World.size_alloc]; omega) _;exact ⟨((Blk.new w 24 (frmCells W H S O PA n c)).alloc _).alloc _,(Blk.newE (by simp)).alloc _,Blk.newE (by simp),hL.keep hb,hI.keep hb,hb⟩
theorem MadeMem.resCells {w : World} {W H S O : Int} {PA : Option Addr} {n c : Nat} {p : Pas} {LA : Option Addr} {m d : Nat} {IA : Option Addr} {L : List Img} {w1 : World} (h : MadeMem w W H S O PA n c p LA m d IA L w1) :
 w.heap.size + 2 < w1.heap.size ∧ w1.cell? ⟨w.heap.size + 2,0,none⟩ = some (.int .i64 0) ∧ w1.cell? ⟨w.heap.size + 2,1,none⟩ = some (.int .i64 0) ∧ w1.cell? ⟨w.heap.size + 2,2,none⟩ = some (.slice none 0 0) ∧ w1.frozen? ⟨w.heap.size + 2,0,none⟩ = false ∧ w1.frozen? ⟨w.heap.size + 2,1,none⟩ = false ∧ w1.frozen? ⟨w.heap.size + 2,2,none⟩ = false :=
 ⟨h.res.lt,(h.res.cell 0).trans rfl,(h.res.cell 1).trans rfl,(h.res.cell 2).trans rfl,h.res.frozen 0,h.res.frozen 1,h.res.frozen 2⟩
theorem resKeep {w1 w2 : World} {g : Nat} (hb : Below w1.heap.size w1 w2) (h : Blk w1 g 29 [.int .i64 0,.int .i64 0,.slice none 0 0]) :
 g < w2.heap.size ∧ w2.cell? ⟨g,0,none⟩ = some (.int .i64 0) ∧ w2.cell? ⟨g,1,none⟩ = some (.int .i64 0) ∧ w2.cell? ⟨g,2,none⟩ = some (.slice none 0 0) ∧ w2.frozen? ⟨g,0,none⟩ = false ∧ w2.frozen? ⟨g,1,none⟩ = false ∧ w2.frozen? ⟨g,2,none⟩ = false :=
 have h:=h.keep hb
 ⟨h.lt,(h.cell 0).trans rfl,(h.cell 1).trans rfl,(h.cell 2).trans rfl,h.frozen 0,h.frozen 1,h.frozen 2⟩
theorem makeRef (op cw ch k : Int) (w : World) (h : makeErr op cw ch k = 0) :
 Calls Tryz.prog 56 #[.int .i64 op,.int .i64 cw,.int .i64 ch,.int .i64 k] w (RetImg w (makeAns op cw ch k)):=by
 have hA : makeAns op cw ch k = drawn cw ch (makePix op k):=by unfold makeAns; rw [if_pos h]; rfl
 rw [hA];unfold makeErr at h;split at h
 ·omega
 ·split at h
  ·omega
  ·exact makeOf_any op cw ch k w (by omega) (by omega) (by omega) (by omega) (by omega) (by omega) (by omega)
theorem oneRef (op : Int) (W H : Int) (A : Option Addr) (n c : Nat) (P : List Int) (k : Int) (w : World) (hF : Img.Fine ⟨W,H,P⟩) (hn : P.length = n) (hI : Ints w A P) (hE : oneErr op ⟨W,H,P⟩ k = 0) :
 Calls Tryz.prog 60 #[.int .i64 op,.agg #[.int .i64 W,.int .i64 H,.slice A n c],.int .i64 k] w (RetImg w (oneAns op ⟨W,H,P⟩ k)):=by
 have hAll : oneErrAll op ⟨W,H,P⟩ k = 0:=(if_pos hF).trans hE;have : oneAns op ⟨W,H,P⟩ k = oneImg op ⟨W,H,P⟩ k:=by unfold oneAns; rw [hAll]; rfl
 rw [this];exact oneOf_any op W H A n c P k w hF hn hI hE
theorem twoRef (op : Int) (W H : Int) (A : Option Addr) (n c : Nat) (P : List Int) (W' H' : Int) (B : Option Addr) (m d : Nat) (Q : List Int) (w : World)
 (hE : twoErr op ⟨W,H,P⟩ ⟨W',H',Q⟩ = 0) (hn : P.length = n) (hI : Ints w A P) (hm : Q.length = m) (hI' : Ints w B Q) :
 Calls Tryz.prog 58 #[.int .i64 op,.agg #[.int .i64 W,.int .i64 H,.slice A n c],.agg #[.int .i64 W',.int .i64 H',.slice B m d]] w (RetImg w (twoAns op ⟨W,H,P⟩ ⟨W',H',Q⟩)):=by
 have h:=two_both hE;rw [h.2.2.2.2.2.2];exact twoOf_any op W H A n c P W' H' B m d Q w h.2.2.1 h.1 hn hI h.2.1 hm hI' h.2.2.2.1 h.2.2.2.2.1
theorem refMade_make (W H S O : Int) (PA : Option Addr) (n c : Nat) (p : Pas) (LA : Option Addr) (m d : Nat) (IA : Option Addr) (N cN : Nat) (L : List Img) (ia ib : Img) (w : World) (hL : Lamps w LA p.L) (hm : p.L.length = m) (hI : Imgs w IA L) (_hN : L.length = N) (hM : MadeOk W H p ia ib)
 (h0 : hasA p.Op = true → L[0]? = some ia) (h1 : hasB p.Op = true → L[1]? = some ib) (ha : hasA p.Op = false) :
 Calls Tryz.prog 36 #[.agg #[.int .i64 W,.int .i64 H,.int .i64 S,.int .i64 O,.slice PA n c],.agg #[.int .i64 p.Op,.int .i64 p.To,.int .i64 p.A,.int .i64 p.B,.int .i64 p.K,.slice LA m d],.slice IA N cN] w (RetImg w (passImg W H p ia ib)):=by
 have HK:=hide (madeMem_start (p:=p) hL hI W H S O PA n c m d);have hkind:=hM.kind;obtain ⟨f1,f2,f3⟩:=has_facts hkind;have hans : passImg W H p ia ib = makeAns p.Op W H p.K:=by unfold passImg makeAns; rw [if_pos ha,if_pos (hM.make ha)]
 have hE:=hM.make ha;have hop:=f1.1 ha;have hfl : hasB p.Op = false:=by rcases hop with e | e <;> rw [e] <;> rfl
 rw [hans];have HC:=hide (fun (W0 : World)=>makeRef p.Op W H p.K W0 hE);obtain ⟨op,to,a,b,k,LL⟩:=p;simp only at *;clear f1 f2 f3 h0 h1 hM hL hI hm _hN hans hE;clear hkind;rcases hop with rfl | rfl
 all_goals
  go_enter Tryz.func36,Tryz.ntmps36
  go_wp2_with fail;refine ((unhide HC) _).mono ?_;rintro e w1 ⟨W1,H1,P1,A1,n1,c1,hr,hn1,rfl,hI1,hA1,hE1⟩;obtain ⟨r0,r1,r2,r3,r4,r5,r6⟩:=resKeep hE1 HK.out.res;have HB:=hide (HK.out.below.trans (hE1.mono HK.out.below.size));have HI1:=hide hI1;have HA1:=hide hA1;clear hI1 hA1 hE1;go_wp2_with fail;refine bodyPost_ret (v:=.agg #[.int .i64 W1,.int .i64 H1,.slice A1 n1 c1]) ?_ rfl ?_
  ·simp [results,Tryz.results36,go_sem,r1,r2,r3]
  ·exact retPut (w0:=(((w.alloc (.cells #[.int .i64 W,.int .i64 H,.int .i64 S,.int .i64 O,.slice PA n c] 24)).alloc (.cells #[.int .i64 _,.int .i64 to,.int .i64 a,.int .i64 b,.int .i64 k,.slice LA m d] 72)).alloc (.cells #[.int .i64 0,.int .i64 0,.slice none 0 0] 29))) hr hn1 HI1.out HA1.out (by simp) (by omega) HB.out _ _ _
theorem refMade_two (W H S O : Int) (PA : Option Addr) (n c : Nat) (p : Pas) (LA : Option Addr) (m d : Nat) (IA : Option Addr) (N cN : Nat) (L : List Img) (ia ib : Img) (w : World) (hL : Lamps w LA p.L) (hm : p.L.length = m) (hI : Imgs w IA L) (hN : L.length = N) (hM : MadeOk W H p ia ib)
 (h0 : hasA p.Op = true → L[0]? = some ia) (h1 : hasB p.Op = true → L[1]? = some ib) (hb : hasB p.Op = true) :
 Calls Tryz.prog 36 #[.agg #[.int .i64 W,.int .i64 H,.int .i64 S,.int .i64 O,.slice PA n c],.agg #[.int .i64 p.Op,.int .i64 p.To,.int .i64 p.A,.int .i64 p.B,.int .i64 p.K,.slice LA m d],.slice IA N cN] w (RetImg w (passImg W H p ia ib)):=by
 have HK:=hide (madeMem_start (p:=p) hL hI W H S O PA n c m d);have hkind:=hM.kind;obtain ⟨f1,f2,f3⟩:=has_facts hkind
 have hA : hasA p.Op = true:=by
  have h2:=f2.1 hb
  cases e : hasA p.Op with
  | true=>rfl
  | false=>have:=f1.1 e; omega
 have hE : twoErr p.Op ia ib = 0:=by
  obtain ⟨b1,b2,b3,b4⟩:=hM.two hb;have h4:=f2.1 hb;unfold twoErr;rw [if_neg (by simp only [not_or,Decidable.not_not]; exact ⟨b1,b2⟩),if_neg (by omega),if_neg (by omega)]
 have hans : passImg W H p ia ib = twoAns p.Op ia ib:=by unfold passImg twoAns; rw [if_neg (by rw [hA]; simp),if_pos hb,if_pos hE]
 have hFa:=(hM.two hb).1;have hFb:=(hM.two hb).2.1;have hop:=f2.1 hb;rw [hans];obtain ⟨gb,go,GB,gm,gd,rfl,glt,gc0,gc1,gc2,gl,gl2,gI⟩:=Imgs.pick hI 0 (h0 hA) (fine_small hFa)
 have hN1 : 0 < N:=by
  rw [← hN];by_cases e : 0 < L.length
  ·exact e
  ·have:=h0 hA; rw [List.getElem?_eq_none (by omega)] at this; cases this
 have gN : (0 : Int) < (N : Int):=by omega
 simp only [Nat.zero_mul,Nat.add_zero] at gc0 gc1 gc2;obtain ⟨gb',go',GB',gm',gd',hgg,_,ec0,ec1,ec2,el,el2,eI⟩:=Imgs.pick hI 1 (h1 hb) (fine_small hFb);injection hgg with hgg;injection hgg with e1 e2;subst e1 e2;simp only [Nat.one_mul] at ec0 ec1 ec2
 have hN2 : 1 < N:=by
  rw [← hN];by_cases e : 1 < L.length
  ·exact e
  ·have:=h1 hb; rw [List.getElem?_eq_none (by omega)] at this; cases this
 have gN2 : (1 : Int) < (N : Int):=by omega
 have HC:=hide (fun (W0 : World) (hb0 : Below w.heap.size w W0)=>twoRef p.Op ia.W ia.H GB gm gd ia.P ib.W ib.H GB' gm' gd' ib.P W0 hE gl (gI.keep hb0) el (eI.keep hb0));rw [imgEta,imgEta] at HC;obtain ⟨op,to,a,b,k,LL⟩:=p;simp only at *;clear hkind;clear f1 f2 f3 h0 h1 hM hL hI hm hN hans hE hFa hFb gI eI;have b1 : (op == 1) = false:=by simp; omega
 have b2 : (op == 2) = false:=by simp; omega
 have hdec : decide (4 ≤ op ∧ op ≤ 7) = true:=decide_eq_true hop;have HDEC:=hide hdec;clear hdec;go_enter Tryz.func36,Tryz.ntmps36
 go_wp2_with fail;all_goals try (exfalso; omega)
 refine (isTwoR _ _).mono ?_;rintro e w1 ⟨rfl,he⟩;subst he;rw [hb];have hw3 : ∃ x,x = (((w.alloc (.cells #[.int .i64 W,.int .i64 H,.int .i64 S,.int .i64 O,.slice PA n c] 24)).alloc (.cells #[.int .i64 op,.int .i64 to,.int .i64 a,.int .i64 b,.int .i64 k,.slice LA m d] 72)).alloc (.cells #[.int .i64 0,.int .i64 0,.slice none 0 0] 29)):=⟨_,rfl⟩;obtain ⟨w3,hw3⟩:=hw3;rw [← hw3];have HK3 : Hid (MadeMem w W H S O PA n c ⟨op,to,a,b,k,LL⟩ LA m d (some ⟨gb,go,none⟩) L w3):=hide (by rw [hw3]; exact HK.out);have hs3 : w3.heap.size = w.heap.size + 3:=by rw [hw3]; simp
 have HS3:=hide hs3;clear hs3 hw3 HK;obtain ⟨y,y0,y1,y2,y3,y4,y5⟩:=PasBox.cells HK3.out.pas;simp only at y0 y1 y2 y3 y4 y5;obtain ⟨r0,r1,r2,r3,r4,r5,r6⟩:=HK3.out.resCells;have x0:=keepC HK3.out.below gc0;have x1:=keepC HK3.out.below gc1;have x2:=keepC HK3.out.below gc2;have z0:=keepC HK3.out.below ec0;have z1:=keepC HK3.out.below ec1;have z2:=keepC HK3.out.below ec2;have HKS:=hide (show Keeps w3 (fun w' : World=>w'.cell? ⟨w.heap.size + 1,0,none⟩ = some (.int .i64 op) ∧ w'.cell? ⟨gb,go,none⟩ = some (.int .i64 ia.W) ∧ w'.cell? ⟨gb,go + 1,none⟩ = some (.int .i64 ia.H) ∧ w'.cell? ⟨gb,go + 2,none⟩ = some (.slice GB gm gd) ∧ w'.cell? ⟨gb,go + 3,none⟩ = some (.int .i64 ib.W) ∧ w'.cell? ⟨gb,go + 3 + 1,none⟩ = some (.int .i64 ib.H) ∧ w'.cell? ⟨gb,go + 3 + 2,none⟩ = some (.slice GB' gm' gd')) from ⟨⟨y0,x0,x1,x2,z0,z1,z2⟩,fun _ hb=>⟨keepC hb y0,keepC hb x0,keepC hb x1,keepC hb x2,keepC hb z0,keepC hb z1,keepC hb z2⟩⟩);have hgn : gb < w.heap.size:=glt;go_wp2_with fail
 go_region_held3 (fun w' : World=>w'.cell? ⟨w.heap.size + 1,0,none⟩ = some (.int .i64 op) ∧ w'.cell? ⟨gb,go,none⟩ = some (.int .i64 ia.W) ∧ w'.cell? ⟨gb,go + 1,none⟩ = some (.int .i64 ia.H) ∧ w'.cell? ⟨gb,go + 2,none⟩ = some (.slice GB gm gd) ∧ w'.cell? ⟨gb,go + 3,none⟩ = some (.int .i64 ib.W) ∧ w'.cell? ⟨gb,go + 3 + 1,none⟩ = some (.int .i64 ib.H) ∧ w'.cell? ⟨gb,go + 3 + 2,none⟩ = some (.slice GB' gm' gd'))
  (first | (refine HKS.out.later _ ?_; first | exact (Below.refl _ _).drew.trans hE1 | exact Below.refl _ _ | exact (Below.refl _ _).drew; done) | (have q9:=HKS.out.later _ ((Below.refl _ _).drew.trans hE1); refine ⟨?_,?_,?_,?_,?_,?_,?_⟩ <;> (repeat (first | with_reducible (first | exact q9.1 | exact q9.2.1 | exact q9.2.2.1 | exact q9.2.2.2.1 | exact q9.2.2.2.2.1 | exact q9.2.2.2.2.2.1 | exact q9.2.2.2.2.2.2) | with_reducible (refine cellDrew ?_) | with_reducible (refine cellFar ?_ (by simp only; omega))))))
  ((go_simp; go_at_call 58; refine ((unhide HC) _ (HK3.out.below.trans ((Below.refl _ _).drew.mono HK3.out.below.size))).mono ?_; rintro e w1 ⟨W1,H1,P1,A1,n1,c1,hr,hn1,rfl,hI1,hA1,hE1⟩; obtain ⟨r0,r1,r2,r3,r4,r5,r6⟩:=resKeep hE1 HK3.out.res.drew))
 have hss:=HS3.out;go_wp2_with fail;refine bodyPost_ret (v:=.agg #[.int .i64 W1,.int .i64 H1,.slice A1 n1 c1]) ?_ rfl ?_
 ·simp [results,Tryz.results36,go_sem,r1,r2,r3]
 ·exact retPut (w0:=w3) hr hn1 hI1 hA1 (by omega) (by omega) (HK3.out.below.drew.trans (hE1.mono HK3.out.below.size)) _ _ _
theorem refMade_lit (W H S O : Int) (PA : Option Addr) (n c : Nat) (p : Pas) (LA : Option Addr) (m d : Nat) (IA : Option Addr) (N cN : Nat) (L : List Img) (ia ib : Img) (w : World) (hL : Lamps w LA p.L) (hm : p.L.length = m) (hI : Imgs w IA L) (hN : L.length = N) (hM : MadeOk W H p ia ib)
 (h0 : hasA p.Op = true → L[0]? = some ia) (h1 : hasB p.Op = true → L[1]? = some ib) (h13 : p.Op = 13) :
 Calls Tryz.prog 36 #[.agg #[.int .i64 W,.int .i64 H,.int .i64 S,.int .i64 O,.slice PA n c],.agg #[.int .i64 p.Op,.int .i64 p.To,.int .i64 p.A,.int .i64 p.B,.int .i64 p.K,.slice LA m d],.slice IA N cN] w (RetImg w (passImg W H p ia ib)):=by
 have HK:=hide (madeMem_start (p:=p) hL hI W H S O PA n c m d);have hkind:=hM.kind;obtain ⟨f1,f2,f3⟩:=has_facts hkind;obtain ⟨hFa,hz,hk1,hk2⟩:=hM.lit h13;have hA : hasA p.Op = true:=by rw [h13]; rfl
 have hans : passImg W H p ia ib = litImg ia p.L:=by unfold passImg; rw [if_neg (by rw [hA]; simp),if_neg (by rw [h13]; decide),if_pos h13]
 have hE : litErr ia p.L p.K = 0:=by unfold litErr; rw [if_pos hFa,if_pos hz,if_pos ⟨hk1,hk2⟩]
 have hAN : litAns ia p.L p.K = litImg ia p.L:=if_pos hE;have h8 : p.L.length ≤ 8:=(lampsErr_zero hz).1;have hm8 : m ≤ 9223372036854775807:=by omega
 rw [hans];obtain ⟨gb,go,GB,gm,gd,rfl,glt,gc0,gc1,gc2,gl,gl2,gI⟩:=Imgs.pick hI 0 (h0 hA) (fine_small hFa)
 have hN1 : 0 < N:=by
  rw [← hN];by_cases e : 0 < L.length
  ·exact e
  ·have:=h0 hA; rw [List.getElem?_eq_none (by omega)] at this; cases this
 have gN : (0 : Int) < (N : Int):=by omega
 simp only [Nat.zero_mul,Nat.add_zero] at gc0 gc1 gc2;have HC:=hide (fun (W0 : World) (hb0 : Below w.heap.size w W0)=>litOf_ref ia.W ia.H GB gm gd ia.P LA m d p.L W0 hFa gl (gI.keep hb0) hm (hL.keep hb0) hz);rw [imgEta] at HC;obtain ⟨op,to,a,b,k,LL⟩:=p;simp only at *;clear hkind;clear f1 f2 f3 h0 h1 hM hL hI hm hN hans hE hFa gI hz hk1 hk2 hAN h8 hm8;subst h13;go_enter Tryz.func36,Tryz.ntmps36
 go_wp2_with fail;all_goals try (exfalso; omega)
 refine (isTwoR _ _).mono ?_;rintro e w1 ⟨rfl,he⟩;subst he;have hq : hasB 13 = false:=rfl;rw [hq];have hw3 : ∃ x,x = (((w.alloc (.cells #[.int .i64 W,.int .i64 H,.int .i64 S,.int .i64 O,.slice PA n c] 24)).alloc (.cells #[.int .i64 13,.int .i64 to,.int .i64 a,.int .i64 b,.int .i64 k,.slice LA m d] 72)).alloc (.cells #[.int .i64 0,.int .i64 0,.slice none 0 0] 29)):=⟨_,rfl⟩;obtain ⟨w3,hw3⟩:=hw3;rw [← hw3];have HK3 : Hid (MadeMem w W H S O PA n c ⟨13,to,a,b,k,LL⟩ LA m d (some ⟨gb,go,none⟩) L w3):=hide (by rw [hw3]; exact HK.out);have hs3 : w3.heap.size = w.heap.size + 3:=by rw [hw3]; simp
 have HS3:=hide hs3;clear hs3 hw3 HK;obtain ⟨y,y0,y1,y2,y3,y4,y5⟩:=PasBox.cells HK3.out.pas;simp only at y0 y1 y2 y3 y4 y5;obtain ⟨r0,r1,r2,r3,r4,r5,r6⟩:=HK3.out.resCells;have x0:=keepC HK3.out.below gc0;have x1:=keepC HK3.out.below gc1;have x2:=keepC HK3.out.below gc2;have HKS:=hide (show Keeps w3 (fun w' : World=>w'.cell? ⟨gb,go,none⟩ = some (.int .i64 ia.W) ∧ w'.cell? ⟨gb,go + 1,none⟩ = some (.int .i64 ia.H) ∧ w'.cell? ⟨gb,go + 2,none⟩ = some (.slice GB gm gd) ∧ w'.cell? ⟨w.heap.size + 1,5,none⟩ = some (.slice LA m d)) from ⟨⟨x0,x1,x2,y5⟩,fun _ hb=>⟨keepC hb x0,keepC hb x1,keepC hb x2,keepC hb y5⟩⟩);have hgn : gb < w.heap.size:=glt;go_wp2_with fail
 go_region_held3 (fun w' : World=>w'.cell? ⟨gb,go,none⟩ = some (.int .i64 ia.W) ∧ w'.cell? ⟨gb,go + 1,none⟩ = some (.int .i64 ia.H) ∧ w'.cell? ⟨gb,go + 2,none⟩ = some (.slice GB gm gd) ∧ w'.cell? ⟨w.heap.size + 1,5,none⟩ = some (.slice LA m d))
  (first | (refine HKS.out.later _ ?_; first | exact (Below.refl _ _).drew.trans hE1 | exact Below.refl _ _ | exact (Below.refl _ _).drew; done) | (have q9:=HKS.out.later _ ((Below.refl _ _).drew.trans hE1); refine ⟨?_,?_,?_,?_⟩ <;> (repeat (first | with_reducible (first | exact q9.1 | exact q9.2.1 | exact q9.2.2.1 | exact q9.2.2.2) | with_reducible (refine cellDrew ?_) | with_reducible (refine cellFar ?_ (by simp only; omega))))))
  ((go_simp; go_at_call 59; refine ((unhide HC) _ (HK3.out.below.trans ((Below.refl _ _).drew.mono HK3.out.below.size))).mono ?_; rintro e w1 ⟨W1,H1,P1,A1,n1,c1,hr,hn1,rfl,hI1,hA1,hE1⟩; obtain ⟨r0,r1,r2,r3,r4,r5,r6⟩:=resKeep hE1 HK3.out.res.drew))
 have hss:=HS3.out;go_wp2_with fail;refine bodyPost_ret (v:=.agg #[.int .i64 W1,.int .i64 H1,.slice A1 n1 c1]) ?_ rfl ?_
 ·simp [results,Tryz.results36,go_sem,r1,r2,r3]
 ·exact retPut (w0:=w3) hr hn1 hI1 hA1 (by omega) (by omega) (HK3.out.below.drew.trans (hE1.mono HK3.out.below.size)) _ _ _
theorem refMade_one (W H S O : Int) (PA : Option Addr) (n c : Nat) (p : Pas) (LA : Option Addr) (m d : Nat) (IA : Option Addr) (N cN : Nat) (L : List Img) (ia ib : Img) (w : World) (hL : Lamps w LA p.L) (hm : p.L.length = m) (hI : Imgs w IA L) (hN : L.length = N) (hM : MadeOk W H p ia ib)
 (h0 : hasA p.Op = true → L[0]? = some ia) (h1 : hasB p.Op = true → L[1]? = some ib) (ha : hasA p.Op = true) (hb : hasB p.Op = false) (h13 : ¬ p.Op = 13) :
 Calls Tryz.prog 36 #[.agg #[.int .i64 W,.int .i64 H,.int .i64 S,.int .i64 O,.slice PA n c],.agg #[.int .i64 p.Op,.int .i64 p.To,.int .i64 p.A,.int .i64 p.B,.int .i64 p.K,.slice LA m d],.slice IA N cN] w (RetImg w (passImg W H p ia ib)):=by
 have HK:=hide (madeMem_start (p:=p) hL hI W H S O PA n c m d);have hkind:=hM.kind;obtain ⟨f1,f2,f3⟩:=has_facts hkind;obtain ⟨hFa,hE⟩:=hM.one ha hb h13;have hA:=ha;have hAll : oneErrAll p.Op ia p.K = 0:=by unfold oneErrAll; rw [if_pos hFa]; exact hE
 have hans : passImg W H p ia ib = oneAns p.Op ia p.K:=by unfold passImg oneAns; rw [if_neg (by rw [ha]; simp),if_neg (by rw [hb]; simp),if_neg h13,if_pos hAll]
 have g1 : ¬ p.Op = 1:=fun e=>by rw [f1.2 (.inl e)] at ha; cases ha
 have g2 : ¬ p.Op = 2:=fun e=>by rw [f1.2 (.inr e)] at ha; cases ha
 have b1 : (p.Op == 1) = false:=by simpa using g1
 have b2 : (p.Op == 2) = false:=by simpa using g2
 have b13 : (p.Op == 13) = false:=by simpa using h13
 rw [hans];obtain ⟨gb,go,GB,gm,gd,rfl,glt,gc0,gc1,gc2,gl,gl2,gI⟩:=Imgs.pick hI 0 (h0 hA) (fine_small hFa)
 have hN1 : 0 < N:=by
  rw [← hN];by_cases e : 0 < L.length
  ·exact e
  ·have:=h0 hA; rw [List.getElem?_eq_none (by omega)] at this; cases this
 have gN : (0 : Int) < (N : Int):=by omega
 simp only [Nat.zero_mul,Nat.add_zero] at gc0 gc1 gc2;have HC:=hide (fun (W0 : World) (hb0 : Below w.heap.size w W0)=>oneRef p.Op ia.W ia.H GB gm gd ia.P p.K W0 hFa gl (gI.keep hb0) hE);rw [imgEta] at HC;obtain ⟨op,to,a,b,k,LL⟩:=p;simp only at *;clear hkind;clear f1 f2 f3 h0 h1 hM hL hI hm hN hans hE hAll hFa gI h13 g1 g2;have HDEC : Hid (hasB op = false):=hide hb;clear hb ha hA;go_enter Tryz.func36,Tryz.ntmps36
 go_wp2_with fail;all_goals try (exfalso; omega)
 refine (isTwoR _ _).mono ?_;rintro e w1 ⟨rfl,he⟩;subst he;rw [HDEC.out];have hw3 : ∃ x,x = (((w.alloc (.cells #[.int .i64 W,.int .i64 H,.int .i64 S,.int .i64 O,.slice PA n c] 24)).alloc (.cells #[.int .i64 op,.int .i64 to,.int .i64 a,.int .i64 b,.int .i64 k,.slice LA m d] 72)).alloc (.cells #[.int .i64 0,.int .i64 0,.slice none 0 0] 29)):=⟨_,rfl⟩;obtain ⟨w3,hw3⟩:=hw3;rw [← hw3];have HK3 : Hid (MadeMem w W H S O PA n c ⟨op,to,a,b,k,LL⟩ LA m d (some ⟨gb,go,none⟩) L w3):=hide (by rw [hw3]; exact HK.out);have hs3 : w3.heap.size = w.heap.size + 3:=by rw [hw3]; simp
 have HS3:=hide hs3;clear hs3 hw3 HK;obtain ⟨y,y0,y1,y2,y3,y4,y5⟩:=PasBox.cells HK3.out.pas;simp only at y0 y1 y2 y3 y4 y5;obtain ⟨r0,r1,r2,r3,r4,r5,r6⟩:=HK3.out.resCells;have x0:=keepC HK3.out.below gc0;have x1:=keepC HK3.out.below gc1;have x2:=keepC HK3.out.below gc2;have HKS:=hide (show Keeps w3 (fun w' : World=>w'.cell? ⟨w.heap.size + 1,0,none⟩ = some (.int .i64 op) ∧ w'.cell? ⟨gb,go,none⟩ = some (.int .i64 ia.W) ∧ w'.cell? ⟨gb,go + 1,none⟩ = some (.int .i64 ia.H) ∧ w'.cell? ⟨gb,go + 2,none⟩ = some (.slice GB gm gd) ∧ w'.cell? ⟨w.heap.size + 1,4,none⟩ = some (.int .i64 k)) from ⟨⟨y0,x0,x1,x2,y4⟩,fun _ hb=>⟨keepC hb y0,keepC hb x0,keepC hb x1,keepC hb x2,keepC hb y4⟩⟩);have hgn : gb < w.heap.size:=glt;go_wp2_with fail
 go_region_held3 (fun w' : World=>w'.cell? ⟨w.heap.size + 1,0,none⟩ = some (.int .i64 op) ∧ w'.cell? ⟨gb,go,none⟩ = some (.int .i64 ia.W) ∧ w'.cell? ⟨gb,go + 1,none⟩ = some (.int .i64 ia.H) ∧ w'.cell? ⟨gb,go + 2,none⟩ = some (.slice GB gm gd) ∧ w'.cell? ⟨w.heap.size + 1,4,none⟩ = some (.int .i64 k))
  (first | (refine HKS.out.later _ ?_; first | exact (Below.refl _ _).drew.trans hE1 | exact Below.refl _ _ | exact (Below.refl _ _).drew; done) | (have q9:=HKS.out.later _ ((Below.refl _ _).drew.trans hE1); refine ⟨?_,?_,?_,?_,?_⟩ <;> (repeat (first | with_reducible (first | exact q9.1 | exact q9.2.1 | exact q9.2.2.1 | exact q9.2.2.2.1 | exact q9.2.2.2.2) | with_reducible (refine cellDrew ?_) | with_reducible (refine cellFar ?_ (by simp only; omega))))))
  ((go_simp; go_at_call 60; refine ((unhide HC) _ (HK3.out.below.trans ((Below.refl _ _).drew.mono HK3.out.below.size))).mono ?_; rintro e w1 ⟨W1,H1,P1,A1,n1,c1,hr,hn1,rfl,hI1,hA1,hE1⟩; obtain ⟨r0,r1,r2,r3,r4,r5,r6⟩:=resKeep hE1 HK3.out.res.drew))
 have hss:=HS3.out;go_wp2_with fail;refine bodyPost_ret (v:=.agg #[.int .i64 W1,.int .i64 H1,.slice A1 n1 c1]) ?_ rfl ?_
 ·simp [results,Tryz.results36,go_sem,r1,r2,r3]
 ·exact retPut (w0:=w3) hr hn1 hI1 hA1 (by omega) (by omega) (HK3.out.below.drew.trans (hE1.mono HK3.out.below.size)) _ _ _
theorem refMade_all (W H S O : Int) (PA : Option Addr) (n c : Nat) (p : Pas) (LA : Option Addr) (m d : Nat) (IA : Option Addr) (N cN : Nat) (L : List Img) (ia ib : Img) (w : World) (hL : Lamps w LA p.L) (hm : p.L.length = m) (hI : Imgs w IA L) (hN : L.length = N) (hM : MadeOk W H p ia ib)
 (h0 : hasA p.Op = true → L[0]? = some ia) (h1 : hasB p.Op = true → L[1]? = some ib) :
 Calls Tryz.prog 36 #[.agg #[.int .i64 W,.int .i64 H,.int .i64 S,.int .i64 O,.slice PA n c],.agg #[.int .i64 p.Op,.int .i64 p.To,.int .i64 p.A,.int .i64 p.B,.int .i64 p.K,.slice LA m d],.slice IA N cN] w (RetImg w (passImg W H p ia ib)):=by
 cases ha : hasA p.Op with
 | false=>exact refMade_make W H S O PA n c p LA m d IA N cN L ia ib w hL hm hI hN hM h0 h1 ha
 | true =>
   cases hb : hasB p.Op with
   | true=>exact refMade_two W H S O PA n c p LA m d IA N cN L ia ib w hL hm hI hN hM h0 h1 hb
   | false =>
     by_cases h13 : p.Op = 13
     ·exact refMade_lit W H S O PA n c p LA m d IA N cN L ia ib w hL hm hI hN hM h0 h1 h13
     ·exact refMade_one W H S O PA n c p LA m d IA N cN L ia ib w hL hm hI hN hM h0 h1 ha hb h13
end Go.Proofs.YtibpmogmeoappabGreat
namespace Go.Proofs.YtibpmogmeoappabGreat
open Go.RowKit
theorem made_make (W H S O : Int) (PA : Option Addr) (n c : Nat) (p : Pas) (LA : Option Addr) (m d : Nat) (IA : Option Addr) (N cN : Nat) (L : List Img) (ia ib : Img) (w : World) (hL : Lamps w LA p.L) (hm : p.L.length = m) (hI : Imgs w IA L) (_hN : L.length = N) (hM : MadeOk W H p ia ib)
 (h0 : hasA p.Op = true → L[0]? = some ia) (h1 : hasB p.Op = true → L[1]? = some ib) (ha : hasA p.Op = false) :
 Calls Tryz.prog 29 #[.agg #[.int .i64 W,.int .i64 H,.int .i64 S,.int .i64 O,.slice PA n c],.agg #[.int .i64 p.Op,.int .i64 p.To,.int .i64 p.A,.int .i64 p.B,.int .i64 p.K,.slice LA m d],.slice IA N cN] w (RetImg w (passImg W H p ia ib)):=by
 have HK:=hide (madeMem_start (p:=p) hL hI W H S O PA n c m d);have hkind:=hM.kind;obtain ⟨f1,f2,f3⟩:=has_facts hkind;have hans : passImg W H p ia ib = makeAns p.Op W H p.K:=by unfold passImg makeAns; rw [if_pos ha,if_pos (hM.make ha)]
 have hE:=hM.make ha;have hop:=f1.1 ha;have hfl : hasB p.Op = false:=by rcases hop with e | e <;> rw [e] <;> rfl
 rw [hans];have HC:=hide (fun (W0 : World)=>make_any p.Op W H p.K W0);rw [hE] at HC;have HOF:=hide (fun W0 : World=>of_any p.Op W0);have hin : inR p.Op 1 13 = true:=inR_iff.2 hkind;unfold RetOf at HOF;rw [hin] at HOF;simp only [Bool.true_and] at HOF;rw [ha,hfl] at HOF;obtain ⟨op,to,a,b,k,LL⟩:=p;simp only at *;clear f1 f2 f3 h0 h1 hM hL hI hm _hN hans hE;clear hkind;generalize hasK op = bk at *;generalize hasL op = bl at *;clear ha hfl;clear hin;go_enter Tryz.func29,Tryz.ntmps29
 go_wp2_with fail;refine ((unhide HOF) _).mono ?_;rintro e w1 ⟨rfl,hE0⟩;have HKa:=hide (HK.out.keep ((Below.refl _ _).alloc (Nat.le_refl _) (.cells #[.int .i64 0,.int .i64 0,.slice none 0 0] 29)));have HOa:=hide (show Blk ((((w.alloc (.cells #[.int .i64 W,.int .i64 H,.int .i64 S,.int .i64 O,.slice PA n c] 24)).alloc (.cells #[.int .i64 op,.int .i64 to,.int .i64 a,.int .i64 b,.int .i64 k,.slice LA m d] 72)).alloc (.cells #[.int .i64 0,.int .i64 0,.slice none 0 0] 29)).alloc (.cells #[.int .i64 0,.int .i64 0,.slice none 0 0] 29)) (w.heap.size + 3) 29 [.int .i64 0,.int .i64 0,.slice none 0 0] from Blk.newE (by simp));have hal : Below w1.heap.size w1 (w1.alloc (.cells #[.bool false,.bool false,.bool bk,.bool bl] 94)):=(Below.refl _ _).alloc (Nat.le_refl _) _;have HK3:=hide ((HKa.out.keep hE0).keep hal);have HO3:=hide ((HOa.out.keep hE0).keep hal);have HSH:=hide (Blk.new w1 94 [.bool false,.bool false,.bool bk,.bool bl]);have hw1 : w.heap.size + 3 < w1.heap.size:=(HOa.out.keep hE0).lt;clear hal hE0 HKa HOa HK HOF;have z0 : (w1.alloc (.cells #[.bool false,.bool false,.bool bk,.bool bl] 94)).cell? ⟨w1.heap.size,0,none⟩ = some (.bool false):=(HSH.out.cell 0).trans rfl;have z1 : (w1.alloc (.cells #[.bool false,.bool false,.bool bk,.bool bl] 94)).cell? ⟨w1.heap.size,1,none⟩ = some (.bool false):=(HSH.out.cell 1).trans rfl;have z2 : (w1.alloc (.cells #[.bool false,.bool false,.bool bk,.bool bl] 94)).cell? ⟨w1.heap.size,2,none⟩ = some (.bool bk):=(HSH.out.cell 2).trans rfl;have z3 : (w1.alloc (.cells #[.bool false,.bool false,.bool bk,.bool bl] 94)).cell? ⟨w1.heap.size,3,none⟩ = some (.bool bl):=(HSH.out.cell 3).trans rfl;obtain ⟨y,y0,y1,y2,y3,y4,y5⟩:=PasBox.cells HK3.out.pas;simp only at y0 y1 y2 y3 y4 y5;obtain ⟨q,q0,q1,q2,q3,q4⟩:=FrmBox.cells HK3.out.frm;go_wp2_with fail;refine ((unhide HC) _).mono ?_;rintro e w9 ⟨W1,H1,P1,A1,n1,c1,hr,hn1,rfl,hI1,hA1,hE1⟩;obtain ⟨r0,r1,r2,r3,r4,r5,r6⟩:=resKeep hE1 HK3.out.res;obtain ⟨v0,v1,v2,v3,v4,v5,v6⟩:=resKeep hE1 HO3.out;have HI1:=hide hI1;have HA1:=hide hA1;have HE1:=hide hE1;clear hI1 hA1 hE1 y0 y1 y2 y3 y4 y5 q0 q1 q2 q3 q4 z0 z1 z2 z3;have ne1 : ¬ w.heap.size + 2 = w.heap.size + 3:=by omega
 have ne2 : ¬ w.heap.size + 3 = w.heap.size + 2:=by omega
 go_wp2_with fail;refine bodyPost_ret (v:=.agg #[.int .i64 W1,.int .i64 H1,.slice A1 n1 c1]) ?_ rfl ?_
 ·simp [results,Tryz.results29,go_sem,r1,r2,r3]
 ·exact retPut2 (w0:=(w1.alloc (.cells #[.bool false,.bool false,.bool bk,.bool bl] 94))) hr hn1 HI1.out HA1.out (by first | omega | (simp; omega)) (by omega) (by first | omega | (simp; omega)) (by omega) (HK3.out.below.trans (HE1.out.mono HK3.out.below.size)) _ _ _ _ _ _
theorem made_two (W H S O : Int) (PA : Option Addr) (n c : Nat) (p : Pas) (LA : Option Addr) (m d : Nat) (IA : Option Addr) (N cN : Nat) (L : List Img) (ia ib : Img) (w : World) (hL : Lamps w LA p.L) (hm : p.L.length = m) (hI : Imgs w IA L) (hN : L.length = N) (hM : MadeOk W H p ia ib)
 (h0 : hasA p.Op = true → L[0]? = some ia) (h1 : hasB p.Op = true → L[1]? = some ib) (hb : hasB p.Op = true) :
 Calls Tryz.prog 29 #[.agg #[.int .i64 W,.int .i64 H,.int .i64 S,.int .i64 O,.slice PA n c],.agg #[.int .i64 p.Op,.int .i64 p.To,.int .i64 p.A,.int .i64 p.B,.int .i64 p.K,.slice LA m d],.slice IA N cN] w (RetImg w (passImg W H p ia ib)):=by
 have HK:=hide (madeMem_start (p:=p) hL hI W H S O PA n c m d);have hkind:=hM.kind;obtain ⟨f1,f2,f3⟩:=has_facts hkind
 have hA : hasA p.Op = true:=by
  have h2:=f2.1 hb
  cases e : hasA p.Op with
  | true=>rfl
  | false=>have:=f1.1 e; omega
 have hE : twoErr p.Op ia ib = 0:=by
  obtain ⟨b1,b2,b3,b4⟩:=hM.two hb;have h4:=f2.1 hb;unfold twoErr;rw [if_neg (by simp only [not_or,Decidable.not_not]; exact ⟨b1,b2⟩),if_neg (by omega),if_neg (by omega)]
 have hans : passImg W H p ia ib = twoAns p.Op ia ib:=by unfold passImg twoAns; rw [if_neg (by rw [hA]; simp),if_pos hb,if_pos hE]
 have hFa:=(hM.two hb).1;have hFb:=(hM.two hb).2.1;have hop:=f2.1 hb;rw [hans];obtain ⟨gb,go,GB,gm,gd,rfl,glt,gc0,gc1,gc2,gl,gl2,gI⟩:=Imgs.pick hI 0 (h0 hA) (fine_small hFa)
 have hN1 : 0 < N:=by
  rw [← hN];by_cases e : 0 < L.length
  ·exact e
  ·have:=h0 hA; rw [List.getElem?_eq_none (by omega)] at this; cases this
 have gN : (0 : Int) < (N : Int):=by omega
 simp only [Nat.zero_mul,Nat.add_zero] at gc0 gc1 gc2;obtain ⟨gb',go',GB',gm',gd',hgg,_,ec0,ec1,ec2,el,el2,eI⟩:=Imgs.pick hI 1 (h1 hb) (fine_small hFb);injection hgg with hgg;injection hgg with e1 e2;subst e1 e2;simp only [Nat.one_mul] at ec0 ec1 ec2
 have hN2 : 1 < N:=by
  rw [← hN];by_cases e : 1 < L.length
  ·exact e
  ·have:=h1 hb; rw [List.getElem?_eq_none (by omega)] at this; cases this
 have gN2 : (1 : Int) < (N : Int):=by omega
 have HC:=hide (fun (W0 : World) (hb0 : Below w.heap.size w W0)=>two_any p.Op ia.W ia.H GB gm gd ia.P ib.W ib.H GB' gm' gd' ib.P W0 gl (gI.keep hb0) (by omega) el (eI.keep hb0) (by omega));rw [imgEta,imgEta,hE] at HC;have HOF:=hide (fun W0 : World=>of_any p.Op W0);have hin : inR p.Op 1 13 = true:=inR_iff.2 hkind;unfold RetOf at HOF;rw [hin] at HOF;simp only [Bool.true_and] at HOF;rw [hA,hb] at HOF;obtain ⟨op,to,a,b,k,LL⟩:=p;simp only at *;clear hkind;clear f1 f2 f3 h0 h1 hM hL hI hm hN hans hE hFa hFb gI eI;generalize hasK op = bk at *;generalize hasL op = bl at *;clear hb hA;clear hin;go_enter Tryz.func29,Tryz.ntmps29
 go_wp2_with fail;refine ((unhide HOF) _).mono ?_;rintro e w1 ⟨rfl,hE0⟩;have HKa:=hide (HK.out.keep ((Below.refl _ _).alloc (Nat.le_refl _) (.cells #[.int .i64 0,.int .i64 0,.slice none 0 0] 29)));have HOa:=hide (show Blk ((((w.alloc (.cells #[.int .i64 W,.int .i64 H,.int .i64 S,.int .i64 O,.slice PA n c] 24)).alloc (.cells #[.int .i64 op,.int .i64 to,.int .i64 a,.int .i64 b,.int .i64 k,.slice LA m d] 72)).alloc (.cells #[.int .i64 0,.int .i64 0,.slice none 0 0] 29)).alloc (.cells #[.int .i64 0,.int .i64 0,.slice none 0 0] 29)) (w.heap.size + 3) 29 [.int .i64 0,.int .i64 0,.slice none 0 0] from Blk.newE (by simp));have hal : Below w1.heap.size w1 (w1.alloc (.cells #[.bool true,.bool true,.bool bk,.bool bl] 94)):=(Below.refl _ _).alloc (Nat.le_refl _) _;have HK3:=hide ((HKa.out.keep hE0).keep hal);have HO3:=hide ((HOa.out.keep hE0).keep hal);have HSH:=hide (Blk.new w1 94 [.bool true,.bool true,.bool bk,.bool bl]);have hw1 : w.heap.size + 3 < w1.heap.size:=(HOa.out.keep hE0).lt;clear hal hE0 HKa HOa HK HOF;have z0 : (w1.alloc (.cells #[.bool true,.bool true,.bool bk,.bool bl] 94)).cell? ⟨w1.heap.size,0,none⟩ = some (.bool true):=(HSH.out.cell 0).trans rfl;have z1 : (w1.alloc (.cells #[.bool true,.bool true,.bool bk,.bool bl] 94)).cell? ⟨w1.heap.size,1,none⟩ = some (.bool true):=(HSH.out.cell 1).trans rfl;have z2 : (w1.alloc (.cells #[.bool true,.bool true,.bool bk,.bool bl] 94)).cell? ⟨w1.heap.size,2,none⟩ = some (.bool bk):=(HSH.out.cell 2).trans rfl;have z3 : (w1.alloc (.cells #[.bool true,.bool true,.bool bk,.bool bl] 94)).cell? ⟨w1.heap.size,3,none⟩ = some (.bool bl):=(HSH.out.cell 3).trans rfl;obtain ⟨y,y0,y1,y2,y3,y4,y5⟩:=PasBox.cells HK3.out.pas;simp only at y0 y1 y2 y3 y4 y5;obtain ⟨q,q0,q1,q2,q3,q4⟩:=FrmBox.cells HK3.out.frm;go_wp2_with fail;all_goals try (exfalso; omega)
 generalize hw3 : (w1.alloc (.cells #[.bool true,.bool true,.bool bk,.bool bl] 94)) = w3 at *;have hs3 : w.heap.size + 3 < w3.heap.size:=by rw [← hw3,World.size_alloc]; omega
 have HS3:=hide hs3;clear hw3 hw1 HSH z0 z1 z2 z3 q0 q1 q2 q3 q4 hs3;have x0:=keepC HK3.out.below gc0;have x1:=keepC HK3.out.below gc1;have x2:=keepC HK3.out.below gc2;have z0:=keepC HK3.out.below ec0;have z1:=keepC HK3.out.below ec1;have z2:=keepC HK3.out.below ec2;have HKS:=hide (show Keeps w3 (fun w' : World=>w'.cell? ⟨w.heap.size + 1,0,none⟩ = some (.int .i64 op) ∧ w'.cell? ⟨gb,go,none⟩ = some (.int .i64 ia.W) ∧ w'.cell? ⟨gb,go + 1,none⟩ = some (.int .i64 ia.H) ∧ w'.cell? ⟨gb,go + 2,none⟩ = some (.slice GB gm gd) ∧ w'.cell? ⟨gb,go + 3,none⟩ = some (.int .i64 ib.W) ∧ w'.cell? ⟨gb,go + 3 + 1,none⟩ = some (.int .i64 ib.H) ∧ w'.cell? ⟨gb,go + 3 + 2,none⟩ = some (.slice GB' gm' gd')) from ⟨⟨y0,x0,x1,x2,z0,z1,z2⟩,fun _ hb=>⟨keepC hb y0,keepC hb x0,keepC hb x1,keepC hb x2,keepC hb z0,keepC hb z1,keepC hb z2⟩⟩);have hgn : gb < w.heap.size:=glt
 go_region_held3 (fun w' : World=>w'.cell? ⟨w.heap.size + 1,0,none⟩ = some (.int .i64 op) ∧ w'.cell? ⟨gb,go,none⟩ = some (.int .i64 ia.W) ∧ w'.cell? ⟨gb,go + 1,none⟩ = some (.int .i64 ia.H) ∧ w'.cell? ⟨gb,go + 2,none⟩ = some (.slice GB gm gd) ∧ w'.cell? ⟨gb,go + 3,none⟩ = some (.int .i64 ib.W) ∧ w'.cell? ⟨gb,go + 3 + 1,none⟩ = some (.int .i64 ib.H) ∧ w'.cell? ⟨gb,go + 3 + 2,none⟩ = some (.slice GB' gm' gd'))
  (first | (refine HKS.out.later _ ?_; first | exact (Below.refl _ _).drew.trans hE1 | exact Below.refl _ _ | exact (Below.refl _ _).drew; done) | (have q9:=HKS.out.later _ ((Below.refl _ _).drew.trans hE1); refine ⟨?_,?_,?_,?_,?_,?_,?_⟩ <;> (repeat (first | with_reducible (first | exact q9.1 | exact q9.2.1 | exact q9.2.2.1 | exact q9.2.2.2.1 | exact q9.2.2.2.2.1 | exact q9.2.2.2.2.2.1 | exact q9.2.2.2.2.2.2) | with_reducible (refine cellDrew ?_) | with_reducible (refine cellFar ?_ (by simp only; omega))))))
  ((go_simp; go_at_call 47; refine ((unhide HC) _ (HK3.out.below.trans ((Below.refl _ _).drew.mono HK3.out.below.size))).mono ?_; rintro e w9 ⟨W1,H1,P1,A1,n1,c1,hr,hn1,rfl,hI1,hA1,hE1⟩; obtain ⟨r0,r1,r2,r3,r4,r5,r6⟩:=resKeep hE1 HK3.out.res.drew; obtain ⟨v0,v1,v2,v3,v4,v5,v6⟩:=resKeep hE1 HO3.out.drew))
 have hss:=HS3.out;have ne1 : ¬ w.heap.size + 2 = w.heap.size + 3:=by omega
 have ne2 : ¬ w.heap.size + 3 = w.heap.size + 2:=by omega
 go_wp2_with fail;refine bodyPost_ret (v:=.agg #[.int .i64 W1,.int .i64 H1,.slice A1 n1 c1]) ?_ rfl ?_
 ·simp [results,Tryz.results29,go_sem,r1,r2,r3]
 ·exact retPut2 (w0:=w3) hr hn1 hI1 hA1 (by first | omega | (simp; omega)) (by omega) (by first | omega | (simp; omega)) (by omega) (HK3.out.below.drew.trans (hE1.mono HK3.out.below.size)) _ _ _ _ _ _
theorem made_lit (W H S O : Int) (PA : Option Addr) (n c : Nat) (p : Pas) (LA : Option Addr) (m d : Nat) (IA : Option Addr) (N cN : Nat) (L : List Img) (ia ib : Img) (w : World) (hL : Lamps w LA p.L) (hm : p.L.length = m) (hI : Imgs w IA L) (hN : L.length = N) (hM : MadeOk W H p ia ib)
 (h0 : hasA p.Op = true → L[0]? = some ia) (h1 : hasB p.Op = true → L[1]? = some ib) (h13 : p.Op = 13) :
 Calls Tryz.prog 29 #[.agg #[.int .i64 W,.int .i64 H,.int .i64 S,.int .i64 O,.slice PA n c],.agg #[.int .i64 p.Op,.int .i64 p.To,.int .i64 p.A,.int .i64 p.B,.int .i64 p.K,.slice LA m d],.slice IA N cN] w (RetImg w (passImg W H p ia ib)):=by
 have HK:=hide (madeMem_start (p:=p) hL hI W H S O PA n c m d);have hkind:=hM.kind;obtain ⟨f1,f2,f3⟩:=has_facts hkind;obtain ⟨hFa,hz,hk1,hk2⟩:=hM.lit h13;have hA : hasA p.Op = true:=by rw [h13]; rfl
 have hans : passImg W H p ia ib = litImg ia p.L:=by unfold passImg; rw [if_neg (by rw [hA]; simp),if_neg (by rw [h13]; decide),if_pos h13]
 have hE : litErr ia p.L p.K = 0:=by unfold litErr; rw [if_pos hFa,if_pos hz,if_pos ⟨hk1,hk2⟩]
 have hAN : litAns ia p.L p.K = litImg ia p.L:=if_pos hE;have h8 : p.L.length ≤ 8:=(lampsErr_zero hz).1;have hm8 : m ≤ 9223372036854775807:=by omega
 rw [hans];obtain ⟨gb,go,GB,gm,gd,rfl,glt,gc0,gc1,gc2,gl,gl2,gI⟩:=Imgs.pick hI 0 (h0 hA) (fine_small hFa)
 have hN1 : 0 < N:=by
  rw [← hN];by_cases e : 0 < L.length
  ·exact e
  ·have:=h0 hA; rw [List.getElem?_eq_none (by omega)] at this; cases this
 have gN : (0 : Int) < (N : Int):=by omega
 simp only [Nat.zero_mul,Nat.add_zero] at gc0 gc1 gc2;have HC:=hide (fun (W0 : World) (hb0 : Below w.heap.size w W0)=>lit_any ia.W ia.H GB gm gd ia.P LA m d p.L p.K W0 gl (gI.keep hb0) (by omega) hm (hL.keep hb0) hm8);rw [imgEta,hE,hAN] at HC;have HOF:=hide (fun W0 : World=>of_any p.Op W0);have hin : inR p.Op 1 13 = true:=inR_iff.2 hkind;unfold RetOf at HOF;rw [hin] at HOF;simp only [Bool.true_and] at HOF;have hfb : hasB p.Op = false:=by rw [h13]; rfl
 have hfl : hasL p.Op = true:=f3.2 h13;rw [hA,hfb,hfl] at HOF;obtain ⟨op,to,a,b,k,LL⟩:=p;simp only at *;clear hkind;clear f1 f2 f3 h0 h1 hM hL hI hm hN hans hE hFa gI hz hk1 hk2 hAN h8 hm8;subst h13;generalize hasK 13 = bk at *;clear hA hfb hfl;clear hin;go_enter Tryz.func29,Tryz.ntmps29
 go_wp2_with fail;refine ((unhide HOF) _).mono ?_;rintro e w1 ⟨rfl,hE0⟩;have HKa:=hide (HK.out.keep ((Below.refl _ _).alloc (Nat.le_refl _) (.cells #[.int .i64 0,.int .i64 0,.slice none 0 0] 29)));have HOa:=hide (show Blk ((((w.alloc (.cells #[.int .i64 W,.int .i64 H,.int .i64 S,.int .i64 O,.slice PA n c] 24)).alloc (.cells #[.int .i64 13,.int .i64 to,.int .i64 a,.int .i64 b,.int .i64 k,.slice LA m d] 72)).alloc (.cells #[.int .i64 0,.int .i64 0,.slice none 0 0] 29)).alloc (.cells #[.int .i64 0,.int .i64 0,.slice none 0 0] 29)) (w.heap.size + 3) 29 [.int .i64 0,.int .i64 0,.slice none 0 0] from Blk.newE (by simp));have hal : Below w1.heap.size w1 (w1.alloc (.cells #[.bool true,.bool false,.bool bk,.bool true] 94)):=(Below.refl _ _).alloc (Nat.le_refl _) _;have HK3:=hide ((HKa.out.keep hE0).keep hal);have HO3:=hide ((HOa.out.keep hE0).keep hal);have HSH:=hide (Blk.new w1 94 [.bool true,.bool false,.bool bk,.bool true]);have hw1 : w.heap.size + 3 < w1.heap.size:=(HOa.out.keep hE0).lt;clear hal hE0 HKa HOa HK HOF;have z0 : (w1.alloc (.cells #[.bool true,.bool false,.bool bk,.bool true] 94)).cell? ⟨w1.heap.size,0,none⟩ = some (.bool true):=(HSH.out.cell 0).trans rfl;have z1 : (w1.alloc (.cells #[.bool true,.bool false,.bool bk,.bool true] 94)).cell? ⟨w1.heap.size,1,none⟩ = some (.bool false):=(HSH.out.cell 1).trans rfl;have z2 : (w1.alloc (.cells #[.bool true,.bool false,.bool bk,.bool true] 94)).cell? ⟨w1.heap.size,2,none⟩ = some (.bool bk):=(HSH.out.cell 2).trans rfl;have z3 : (w1.alloc (.cells #[.bool true,.bool false,.bool bk,.bool true] 94)).cell? ⟨w1.heap.size,3,none⟩ = some (.bool true):=(HSH.out.cell 3).trans rfl;obtain ⟨y,y0,y1,y2,y3,y4,y5⟩:=PasBox.cells HK3.out.pas;simp only at y0 y1 y2 y3 y4 y5;obtain ⟨q,q0,q1,q2,q3,q4⟩:=FrmBox.cells HK3.out.frm;go_wp2_with fail;all_goals try (exfalso; omega)
 generalize hw3 : (w1.alloc (.cells #[.bool true,.bool false,.bool bk,.bool true] 94)) = w3 at *;have hs3 : w.heap.size + 3 < w3.heap.size:=by rw [← hw3,World.size_alloc]; omega
 have HS3:=hide hs3;clear hw3 hw1 HSH z0 z1 z2 z3 q0 q1 q2 q3 q4 hs3;have x0:=keepC HK3.out.below gc0;have x1:=keepC HK3.out.below gc1;have x2:=keepC HK3.out.below gc2;have HKS:=hide (show Keeps w3 (fun w' : World=>w'.cell? ⟨gb,go,none⟩ = some (.int .i64 ia.W) ∧ w'.cell? ⟨gb,go + 1,none⟩ = some (.int .i64 ia.H) ∧ w'.cell? ⟨gb,go + 2,none⟩ = some (.slice GB gm gd) ∧ w'.cell? ⟨w.heap.size + 1,5,none⟩ = some (.slice LA m d) ∧ w'.cell? ⟨w.heap.size + 1,4,none⟩ = some (.int .i64 k)) from ⟨⟨x0,x1,x2,y5,y4⟩,fun _ hb=>⟨keepC hb x0,keepC hb x1,keepC hb x2,keepC hb y5,keepC hb y4⟩⟩);have hgn : gb < w.heap.size:=glt
 go_region_held3 (fun w' : World=>w'.cell? ⟨gb,go,none⟩ = some (.int .i64 ia.W) ∧ w'.cell? ⟨gb,go + 1,none⟩ = some (.int .i64 ia.H) ∧ w'.cell? ⟨gb,go + 2,none⟩ = some (.slice GB gm gd) ∧ w'.cell? ⟨w.heap.size + 1,5,none⟩ = some (.slice LA m d) ∧ w'.cell? ⟨w.heap.size + 1,4,none⟩ = some (.int .i64 k))
  (first | (refine HKS.out.later _ ?_; first | exact (Below.refl _ _).drew.trans hE1 | exact Below.refl _ _ | exact (Below.refl _ _).drew; done) | (have q9:=HKS.out.later _ ((Below.refl _ _).drew.trans hE1); refine ⟨?_,?_,?_,?_,?_⟩ <;> (repeat (first | with_reducible (first | exact q9.1 | exact q9.2.1 | exact q9.2.2.1 | exact q9.2.2.2.1 | exact q9.2.2.2.2) | with_reducible (refine cellDrew ?_) | with_reducible (refine cellFar ?_ (by simp only; omega))))))
  ((go_simp; go_at_call 48; refine ((unhide HC) _ (HK3.out.below.trans ((Below.refl _ _).drew.mono HK3.out.below.size))).mono ?_; rintro e w9 ⟨W1,H1,P1,A1,n1,c1,hr,hn1,rfl,hI1,hA1,hE1⟩; obtain ⟨r0,r1,r2,r3,r4,r5,r6⟩:=resKeep hE1 HK3.out.res.drew; obtain ⟨v0,v1,v2,v3,v4,v5,v6⟩:=resKeep hE1 HO3.out.drew))
 have hss:=HS3.out;have ne1 : ¬ w.heap.size + 2 = w.heap.size + 3:=by omega
 have ne2 : ¬ w.heap.size + 3 = w.heap.size + 2:=by omega
 go_wp2_with fail;refine bodyPost_ret (v:=.agg #[.int .i64 W1,.int .i64 H1,.slice A1 n1 c1]) ?_ rfl ?_
 ·simp [results,Tryz.results29,go_sem,r1,r2,r3]
 ·exact retPut2 (w0:=w3) hr hn1 hI1 hA1 (by first | omega | (simp; omega)) (by omega) (by first | omega | (simp; omega)) (by omega) (HK3.out.below.drew.trans (hE1.mono HK3.out.below.size)) _ _ _ _ _ _
theorem made_one (W H S O : Int) (PA : Option Addr) (n c : Nat) (p : Pas) (LA : Option Addr) (m d : Nat) (IA : Option Addr) (N cN : Nat) (L : List Img) (ia ib : Img) (w : World) (hL : Lamps w LA p.L) (hm : p.L.length = m) (hI : Imgs w IA L) (hN : L.length = N) (hM : MadeOk W H p ia ib)
 (h0 : hasA p.Op = true → L[0]? = some ia) (h1 : hasB p.Op = true → L[1]? = some ib) (ha : hasA p.Op = true) (hb : hasB p.Op = false) (h13 : ¬ p.Op = 13) :
 Calls Tryz.prog 29 #[.agg #[.int .i64 W,.int .i64 H,.int .i64 S,.int .i64 O,.slice PA n c],.agg #[.int .i64 p.Op,.int .i64 p.To,.int .i64 p.A,.int .i64 p.B,.int .i64 p.K,.slice LA m d],.slice IA N cN] w (RetImg w (passImg W H p ia ib)):=by
 have HK:=hide (madeMem_start (p:=p) hL hI W H S O PA n c m d);have hkind:=hM.kind;obtain ⟨f1,f2,f3⟩:=has_facts hkind;obtain ⟨hFa,hE⟩:=hM.one ha hb h13;have hA:=ha;have hAll : oneErrAll p.Op ia p.K = 0:=by unfold oneErrAll; rw [if_pos hFa]; exact hE
 have hans : passImg W H p ia ib = oneAns p.Op ia p.K:=by unfold passImg oneAns; rw [if_neg (by rw [ha]; simp),if_neg (by rw [hb]; simp),if_neg h13,if_pos hAll]
 have g1 : ¬ p.Op = 1:=fun e=>by rw [f1.2 (.inl e)] at ha; cases ha
 have g2 : ¬ p.Op = 2:=fun e=>by rw [f1.2 (.inr e)] at ha; cases ha
 have b1 : (p.Op == 1) = false:=by simpa using g1
 have b2 : (p.Op == 2) = false:=by simpa using g2
 have b13 : (p.Op == 13) = false:=by simpa using h13
 rw [hans];obtain ⟨gb,go,GB,gm,gd,rfl,glt,gc0,gc1,gc2,gl,gl2,gI⟩:=Imgs.pick hI 0 (h0 hA) (fine_small hFa)
 have hN1 : 0 < N:=by
  rw [← hN];by_cases e : 0 < L.length
  ·exact e
  ·have:=h0 hA; rw [List.getElem?_eq_none (by omega)] at this; cases this
 have gN : (0 : Int) < (N : Int):=by omega
 simp only [Nat.zero_mul,Nat.add_zero] at gc0 gc1 gc2;have HC:=hide (fun (W0 : World) (hb0 : Below w.heap.size w W0)=>one_any p.Op ia.W ia.H GB gm gd ia.P p.K W0 gl (gI.keep hb0) (by omega));rw [imgEta,hAll] at HC;have HOF:=hide (fun W0 : World=>of_any p.Op W0);have hin : inR p.Op 1 13 = true:=inR_iff.2 hkind;unfold RetOf at HOF;rw [hin] at HOF;simp only [Bool.true_and] at HOF
 have hfl : hasL p.Op = false:=by
  cases e : hasL p.Op with
  | false=>rfl
  | true=>exact absurd (f3.1 e) h13
 rw [ha,hb,hfl] at HOF;obtain ⟨op,to,a,b,k,LL⟩:=p;simp only at *;clear hkind;clear f1 f2 f3 h0 h1 hM hL hI hm hN hans hE hAll hFa gI h13 g1 g2;generalize hasK op = bk at *;clear hb ha hA;clear hin;go_enter Tryz.func29,Tryz.ntmps29
 go_wp2_with fail;refine ((unhide HOF) _).mono ?_;rintro e w1 ⟨rfl,hE0⟩;have HKa:=hide (HK.out.keep ((Below.refl _ _).alloc (Nat.le_refl _) (.cells #[.int .i64 0,.int .i64 0,.slice none 0 0] 29)));have HOa:=hide (show Blk ((((w.alloc (.cells #[.int .i64 W,.int .i64 H,.int .i64 S,.int .i64 O,.slice PA n c] 24)).alloc (.cells #[.int .i64 op,.int .i64 to,.int .i64 a,.int .i64 b,.int .i64 k,.slice LA m d] 72)).alloc (.cells #[.int .i64 0,.int .i64 0,.slice none 0 0] 29)).alloc (.cells #[.int .i64 0,.int .i64 0,.slice none 0 0] 29)) (w.heap.size + 3) 29 [.int .i64 0,.int .i64 0,.slice none 0 0] from Blk.newE (by simp));have hal : Below w1.heap.size w1 (w1.alloc (.cells #[.bool true,.bool false,.bool bk,.bool false] 94)):=(Below.refl _ _).alloc (Nat.le_refl _) _;have HK3:=hide ((HKa.out.keep hE0).keep hal);have HO3:=hide ((HOa.out.keep hE0).keep hal);have HSH:=hide (Blk.new w1 94 [.bool true,.bool false,.bool bk,.bool false]);have hw1 : w.heap.size + 3 < w1.heap.size:=(HOa.out.keep hE0).lt;clear hal hE0 HKa HOa HK HOF;have z0 : (w1.alloc (.cells #[.bool true,.bool false,.bool bk,.bool false] 94)).cell? ⟨w1.heap.size,0,none⟩ = some (.bool true):=(HSH.out.cell 0).trans rfl;have z1 : (w1.alloc (.cells #[.bool true,.bool false,.bool bk,.bool false] 94)).cell? ⟨w1.heap.size,1,none⟩ = some (.bool false):=(HSH.out.cell 1).trans rfl;have z2 : (w1.alloc (.cells #[.bool true,.bool false,.bool bk,.bool false] 94)).cell? ⟨w1.heap.size,2,none⟩ = some (.bool bk):=(HSH.out.cell 2).trans rfl;have z3 : (w1.alloc (.cells #[.bool true,.bool false,.bool bk,.bool false] 94)).cell? ⟨w1.heap.size,3,none⟩ = some (.bool false):=(HSH.out.cell 3).trans rfl;obtain ⟨y,y0,y1,y2,y3,y4,y5⟩:=PasBox.cells HK3.out.pas;simp only at y0 y1 y2 y3 y4 y5;obtain ⟨q,q0,q1,q2,q3,q4⟩:=FrmBox.cells HK3.out.frm;go_wp2_with fail;all_goals try (exfalso; omega)
 generalize hw3 : (w1.alloc (.cells #[.bool true,.bool false,.bool bk,.bool false] 94)) = w3 at *;have hs3 : w.heap.size + 3 < w3.heap.size:=by rw [← hw3,World.size_alloc]; omega
 have HS3:=hide hs3;clear hw3 hw1 HSH z0 z1 z2 z3 q0 q1 q2 q3 q4 hs3;have x0:=keepC HK3.out.below gc0;have x1:=keepC HK3.out.below gc1;have x2:=keepC HK3.out.below gc2;have HKS:=hide (show Keeps w3 (fun w' : World=>w'.cell? ⟨w.heap.size + 1,0,none⟩ = some (.int .i64 op) ∧ w'.cell? ⟨gb,go,none⟩ = some (.int .i64 ia.W) ∧ w'.cell? ⟨gb,go + 1,none⟩ = some (.int .i64 ia.H) ∧ w'.cell? ⟨gb,go + 2,none⟩ = some (.slice GB gm gd) ∧ w'.cell? ⟨w.heap.size + 1,4,none⟩ = some (.int .i64 k)) from ⟨⟨y0,x0,x1,x2,y4⟩,fun _ hb=>⟨keepC hb y0,keepC hb x0,keepC hb x1,keepC hb x2,keepC hb y4⟩⟩);have hgn : gb < w.heap.size:=glt
 go_region_held3 (fun w' : World=>w'.cell? ⟨w.heap.size + 1,0,none⟩ = some (.int .i64 op) ∧ w'.cell? ⟨gb,go,none⟩ = some (.int .i64 ia.W) ∧ w'.cell? ⟨gb,go + 1,none⟩ = some (.int .i64 ia.H) ∧ w'.cell? ⟨gb,go + 2,none⟩ = some (.slice GB gm gd) ∧ w'.cell? ⟨w.heap.size + 1,4,none⟩ = some (.int .i64 k))
  (first | (refine HKS.out.later _ ?_; first | exact (Below.refl _ _).drew.trans hE1 | exact Below.refl _ _ | exact (Below.refl _ _).drew; done) | (have q9:=HKS.out.later _ ((Below.refl _ _).drew.trans hE1); refine ⟨?_,?_,?_,?_,?_⟩ <;> (repeat (first | with_reducible (first | exact q9.1 | exact q9.2.1 | exact q9.2.2.1 | exact q9.2.2.2.1 | exact q9.2.2.2.2) | with_reducible (refine cellDrew ?_) | with_reducible (refine cellFar ?_ (by simp only; omega))))))
  ((go_simp; go_at_call 49; refine ((unhide HC) _ (HK3.out.below.trans ((Below.refl _ _).drew.mono HK3.out.below.size))).mono ?_; rintro e w9 ⟨W1,H1,P1,A1,n1,c1,hr,hn1,rfl,hI1,hA1,hE1⟩; obtain ⟨r0,r1,r2,r3,r4,r5,r6⟩:=resKeep hE1 HK3.out.res.drew; obtain ⟨v0,v1,v2,v3,v4,v5,v6⟩:=resKeep hE1 HO3.out.drew))
 have hss:=HS3.out;have ne1 : ¬ w.heap.size + 2 = w.heap.size + 3:=by omega
 have ne2 : ¬ w.heap.size + 3 = w.heap.size + 2:=by omega
 go_wp2_with fail;refine bodyPost_ret (v:=.agg #[.int .i64 W1,.int .i64 H1,.slice A1 n1 c1]) ?_ rfl ?_
 ·simp [results,Tryz.results29,go_sem,r1,r2,r3]
 ·exact retPut2 (w0:=w3) hr hn1 hI1 hA1 (by first | omega | (simp; omega)) (by omega) (by first | omega | (simp; omega)) (by omega) (HK3.out.below.drew.trans (hE1.mono HK3.out.below.size)) _ _ _ _ _ _
theorem made_all (W H S O : Int) (PA : Option Addr) (n c : Nat) (p : Pas) (LA : Option Addr) (m d : Nat) (IA : Option Addr) (N cN : Nat) (L : List Img) (ia ib : Img) (w : World) (hL : Lamps w LA p.L) (hm : p.L.length = m) (hI : Imgs w IA L) (hN : L.length = N) (hM : MadeOk W H p ia ib)
 (h0 : hasA p.Op = true → L[0]? = some ia) (h1 : hasB p.Op = true → L[1]? = some ib) :
 Calls Tryz.prog 29 #[.agg #[.int .i64 W,.int .i64 H,.int .i64 S,.int .i64 O,.slice PA n c],.agg #[.int .i64 p.Op,.int .i64 p.To,.int .i64 p.A,.int .i64 p.B,.int .i64 p.K,.slice LA m d],.slice IA N cN] w (RetImg w (passImg W H p ia ib)):=by
 cases ha : hasA p.Op with
 | false=>exact made_make W H S O PA n c p LA m d IA N cN L ia ib w hL hm hI hN hM h0 h1 ha
 | true =>
   cases hb : hasB p.Op with
   | true=>exact made_two W H S O PA n c p LA m d IA N cN L ia ib w hL hm hI hN hM h0 h1 hb
   | false =>
     by_cases h13 : p.Op = 13
     ·exact made_lit W H S O PA n c p LA m d IA N cN L ia ib w hL hm hI hN hM h0 h1 h13
     ·exact made_one W H S O PA n c p LA m d IA N cN L ia ib w hL hm hI hN hM h0 h1 ha hb h13
end Go.Proofs.YtibpmogmeoappabGreat
namespace Go.Proofs.YtibpmogmeoappabGreat
open Go.RowKit
theorem Tryz.infoImg : (Tryz.prog.info? 29).map (fun i=>(i.zero,i.size,i.bytes)) = some (some (.agg #[.int .i64 0,.int .i64 0,.slice none 0 0]),3,40):=by kernel_rfl
theorem one_img (x y : Int) (A : Option Addr) (n c : Nat) : ∀ u ∈ [Value.int .i64 x,.int .i64 y,.slice A n c],u.oneCell' = true:=by
 intro u hu;simp only [List.mem_cons,List.not_mem_nil,or_false] at hu;rcases hu with rfl | rfl | rfl <;> rfl
theorem hasA_of_B {op : Int} (h : hasB op = true) : hasA op = true:=by
 unfold hasB hasA at *;have:=inR_iff.1 h;exact inR_iff.2 (by omega)
end Go.Proofs.YtibpmogmeoappabGreat
