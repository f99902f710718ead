/- Walks: frame.Render. (Printed by gen_render.py.) -/
import Derived.Test.YtibpmogmeoappabJFrmO
import Derived.Test.YtibpmogmeoappabJFrmM
import Derived.Test.YtibpmogmeoappabJFrmQ
set_option maxRecDepth 100000
set_option maxHeartbeats 8000000
namespace Go.Proofs.Ytibpmogmeoappab
open Go.RowKit
theorem run_make_images (i : TypeInfo) (hi : Try.prog.info? 56 = some i) (hz : i.zero = some (.agg #[.int .i64 0,.int .i64 0,.slice none 0 0])) (hs : i.size = 3) (hb : i.bytes = 40) (S : Int) (h0 : 0 ≤ S) (h1 : S ≤ 65536) (w : World) :
 (Instr.makeSlice 111 (.int .i64 S) (.int .i64 S)).run Try.prog w = .ok (.slice (some ⟨w.heap.size,0,none⟩) S.toNat S.toNat) (w.alloc (.cells ((List.replicate S.toNat (([Value.int .i64 0,.int .i64 0,.slice none 0 0],none,[]) : Sp)).flatMap (·.1)).toArray 56)):=by
 obtain ⟨N,rfl⟩:=Int.eq_ofNat_of_zero_le h0;have hr:=run_make (P:=Try.prog) w 111 56 i (.agg #[.int .i64 0,.int .i64 0,.slice none 0 0]) Try.underlying111 hi hz .i64 .i64 (N : Int) (N : Int) (by omega) (by omega) (by rw [hb]; omega) (by omega);simp only [Int.toNat_natCast] at hr;rw [hr,hs,Int.toNat_natCast]
 have e1 : madeCells (Value.agg #[Value.int .i64 0,Value.int .i64 0,.slice none 0 0]).cells (N * 3) = ((List.replicate N (([Value.int .i64 0,.int .i64 0,.slice none 0 0],none,[]) : Sp)).flatMap (·.1)).toArray:=by
  have hf : ∀ M : Nat,((List.replicate M (([Value.int .i64 0,.int .i64 0,.slice none 0 0],none,[]) : Sp)).flatMap (·.1)).length = M * 3:=by
   intro M; rw [flatLen (fun e he=>by rw [List.eq_of_mem_replicate he]; rfl),List.length_replicate]
  apply Array.ext
  ·simp only [List.size_toArray,hf]; simp [madeCells,Value.cells]
  ·intro j h1 h2
   have hj3 : j = (j / 3) * 3 + j % 3:=by omega
   have hlt : j / 3 < N:=by simp only [List.size_toArray,hf] at h2; omega
   have hg:=flatGet (List.replicate N (([Value.int .i64 0,.int .i64 0,.slice none 0 0],none,[]) : Sp)) (j / 3) (j % 3) (by rw [List.length_replicate]; exact hlt) (fun e he=>by rw [List.eq_of_mem_replicate he]; rfl) (by omega);rw [← hj3,List.getElem_replicate,List.getElem?_eq_getElem (by rw [hf]; omega)] at hg;simp only [madeCells,Value.cells] at h1 ⊢;have hm : j % 3 = 0 ∨ j % 3 = 1 ∨ j % 3 = 2:=by omega
   rcases hm with hm | hm | hm
   ·rw [hm] at hg; simp at hg; simp [hm,hg]
   ·rw [hm] at hg; simp at hg; simp [hm,hg]
   ·rw [hm] at hg; simp at hg; simp [hm,hg]
 rw [e1]
theorem slots_new (w : World) (N : Nat) : ABlk ImgK 56 (w.alloc (.cells ((List.replicate N (([Value.int .i64 0,.int .i64 0,.slice none 0 0],none,[]) : Sp)).flatMap (·.1)).toArray 56)) w.heap.size (List.replicate N Img.none) (List.replicate N ([.int .i64 0,.int .i64 0,.slice none 0 0],none,[])):=by
 refine ⟨Blk.new w _ _,⟨by simp,fun i x e h1 h2=>?_⟩,fun e he=>by rw [List.eq_of_mem_replicate he]; rfl⟩;rw [List.getElem?_replicate] at h1 h2;by_cases hlt : i < N
 ·rw [if_pos hlt] at h1 h2
  injection h1 with h1;injection h2 with h2;subst h1 h2;exact ⟨⟨0,0,rfl,rfl,rfl⟩,Cells.nil _ _,fun h=>absurd rfl h⟩
 ·rw [if_neg hlt] at h1; cases h1
theorem ABlk.atNew {α : Type} {E : Kind α} {ty : TypeId} {w : World} {g : Nat} {R : Option Addr → Prop} {xs : List α} {es : List Sp} (h : ABlk E ty w g xs es) (hn : ∀ e ∈ es,e.2.2 ≠ [] → R e.2.1) {i : Nat} {x : α} (hx : xs[i]? = some x) :
 ∃ cs B ds,E x cs B ds ∧ Cells w B ds ∧ (ds ≠ [] → R B) ∧ (∀ j,j < 3 → w.cell? ⟨g,i * 3 + j,none⟩ = some (cs.getD j undef)):=by
 have hi : i < xs.length:=by
  by_cases e : i < xs.length
  ·exact e
  ·rw [List.getElem?_eq_none (by omega)] at hx; cases hx
 have hie : i < es.length:=by rw [h.spelt.1]; exact hi
 obtain ⟨hE,hS⟩:=h.spelt.2 i x es[i] hx (List.getElem?_eq_getElem hie);refine ⟨_,_,_,hE,hS.1,hn _ (List.getElem_mem hie),fun j hj=>?_⟩;have hl:=h.len _ (List.getElem_mem hie);rw [h.blk.cell,flatGet es i j hie h.len hj,List.getD_eq_getElem?_getD,List.getElem?_eq_getElem (by omega)];rfl
theorem intsFar3 {w : World} {B : Nat} {A : Option Addr} {P : List Int} (h : Ints w A P) (hn : P.map (Value.int .i64) ≠ [] → NewFrom B A) {r : Nat} (hr : r < B) (u0 u1 u2 : Value) :
 Ints (((w.setCell ⟨r,0,none⟩ u0).setCell ⟨r,1,none⟩ u1).setCell ⟨r,2,none⟩ u2) A P:=by
 by_cases e : P.map (Value.int .i64) = []
 ·show Cells _ _ _; rw [e]; exact Cells.nil _ _
 ·exact ((h.far (hn e) (p:=⟨r,0,none⟩) hr u0).far (hn e) (p:=⟨r,1,none⟩) hr u1).far (hn e) (p:=⟨r,2,none⟩) hr u2
theorem pass_slots {S : Int} {p : Pas} {st : List Sz} (h : PassOk S p st) (hS : 1 ≤ S) : slotIn S p.A = true ∧ slotIn S p.B = true:=by
 have hf:=h.form;unfold formBad at hf;simp only [or_false',Bool.and_eq_false_iff] at hf;obtain ⟨⟨⟨⟨⟨f1,f2⟩,_⟩,_⟩,_⟩,_⟩:=hf
 constructor
 ·cases ha : hasA p.Op with
  | true=>exact slot_iff.2 (h.a ha)
  | false =>
    rw [ha] at f1;have : p.A = 0:=by simpa using f1
    rw [this]; exact slot_iff.2 (by omega)
 ·cases hb : hasB p.Op with
  | true=>exact slot_iff.2 (h.b hb)
  | false =>
    rw [hb] at f2;have : p.B = 0:=by simpa using f2
    rw [this]; exact slot_iff.2 (by omega)
theorem imgs_two {w : World} {xa xb : Img} {BA BB : Option Addr} {mA dA mB dB : Nat} (hA : xa.P.length = mA) (hB : xb.P.length = mB) (cA : Ints w BA xa.P) (cB : Ints w BB xb.P) :
 Imgs (w.alloc (.cells #[.int .i64 xa.W,.int .i64 xa.H,.slice BA mA dA,.int .i64 xb.W,.int .i64 xb.H,.slice BB mB dB] 56)) (some ⟨w.heap.size,0,none⟩) [xa,xb]:=by
 have hb:=Blk.new w 56 [.int .i64 xa.W,.int .i64 xa.H,.slice BA mA dA,.int .i64 xb.W,.int .i64 xb.H,.slice BB mB dB];have hal : Below w.heap.size w (w.alloc (.cells #[.int .i64 xa.W,.int .i64 xa.H,.slice BA mA dA,.int .i64 xb.W,.int .i64 xb.H,.slice BB mB dB] 56)):=(Below.refl _ _).alloc (Nat.le_refl _) _;intro i x hx
 match i,hx with
 | 0,hx=>simp at hx; subst hx; exact ⟨_,_,BA,mA,dA,rfl,hb.lt,(hb.cell 0).trans rfl,(hb.cell 1).trans rfl,(hb.cell 2).trans rfl,hA,cA.keep hal⟩
 | 1,hx=>simp at hx; subst hx; exact ⟨_,_,BB,mB,dB,rfl,hb.lt,(hb.cell 3).trans rfl,(hb.cell 4).trans rfl,(hb.cell 5).trans rfl,hB,cB.keep hal⟩
 | i + 2,hx=>simp at hx
def RetImN (w : World) (r : Img) (x : Int) (e : Ending) (w' : World) : Prop :=
 ∃ (W H : Int) (P : List Int) (A : Option Addr) (n c : Nat),Img.mk W H P = r ∧ P.length = n ∧ e = .returned (.tuple #[.agg #[.int .i64 W,.int .i64 H,.slice A n c],.int .i64 x]) ∧ Ints w' A P ∧ (P.map (Value.int .i64) ≠ [] → Mine w' w.heap.size A) ∧ Below w.heap.size w w'
def RetIm (w : World) (r : Img) (x : Int) (e : Ending) (w' : World) : Prop :=
 ∃ (W H : Int) (P : List Int) (A : Option Addr) (n c : Nat),Img.mk W H P = r ∧ P.length = n ∧ e = .returned (.tuple #[.agg #[.int .i64 W,.int .i64 H,.slice A n c],.int .i64 x]) ∧ Ints w' A P ∧ Below w.heap.size w w'
theorem render_new (W H S O : Int) (PA : Option Addr) (n c : Nat) (ps : List Pas) (w : World) (hn : ps.length = n) (hP : Passes w PA ps) :
 Calls Try.prog 31 #[.agg #[.int .i64 W,.int .i64 H,.int .i64 S,.int .i64 O,.slice PA n c]] w (RetImN w (frAns ⟨W,H,S,O,ps⟩) (frErr ⟨W,H,S,O,ps⟩)):=by
 obtain ⟨f,hf⟩ : ∃ f : Frm,f = ⟨W,H,S,O,ps⟩:=⟨_,rfl⟩;have hb:=((Below.refl w.heap.size w).alloc (Nat.le_refl _) (.cells #[.int .i64 W,.int .i64 H,.int .i64 S,.int .i64 O,.slice PA n c] 24)).alloc (by simp) (.cells #[.int .i64 0,.int .i64 0,.slice none 0 0] 56);have HC:=hide (frameCheck_any W H S O PA n c ps _ hn (hP.keep hb));have hbx : FrmBox ((w.alloc (.cells #[.int .i64 W,.int .i64 H,.int .i64 S,.int .i64 O,.slice PA n c] 24)).alloc (.cells #[.int .i64 0,.int .i64 0,.slice none 0 0] 56)) w.heap.size W H S O PA n c:=(Blk.new w 24 (frmCells W H S O PA n c)).alloc _;have hrs : Blk ((w.alloc (.cells #[.int .i64 W,.int .i64 H,.int .i64 S,.int .i64 O,.slice PA n c] 24)).alloc (.cells #[.int .i64 0,.int .i64 0,.slice none 0 0] 56)) (w.heap.size + 1) 56 [.int .i64 0,.int .i64 0,.slice none 0 0]:=Blk.newE (by simp);rw [← hf] at HC ⊢;have HFW:=hide (show f.W = W ∧ f.H = H ∧ f.P = ps ∧ f.S = S ∧ f.O = O from by rw [hf]; exact ⟨rfl,rfl,rfl,rfl,rfl⟩);have HN:=hide hn;have HP:=hide (Keeps.passes hP);have HB:=hide hb;have HBX:=hide hbx;have HRS:=hide hrs;obtain ⟨i0,hi0,hz0,hz1,hz2⟩:=info_parts Try.infoImg;have HMK:=hide (fun (h0 : 0 ≤ S) (h1 : S ≤ 65536) (wx : World)=>run_make_images i0 hi0 hz0 hz1 hz2 S h0 h1 wx);clear hn hP hf hb hbx hrs hi0 hz0 hz1 hz2;go_enter Try.func31,Try.ntmps31
 go_wp2_with fail;refine (unhide HC).mono ?_;rintro e w1 ⟨rfl,hE⟩;have HX1:=hide (Blk.keep HBX.out hE);have HR1:=hide (HRS.out.keep hE);have HB1:=hide (HB.out.trans (hE.mono HB.out.size));have hw1:=hE.size;simp only [World.size_alloc] at hw1;obtain ⟨r0,r1,r2,r3,r4,r5,r6⟩:=resKeep (Below.refl _ _) HR1.out;obtain ⟨x,q0,q1,q2,q3,q4⟩:=FrmBox.cells HX1.out;clear hE HBX HRS HB HC;by_cases hz : frErr f = 0
 ·have hok:=frErr_zero.1 hz
  have HOK:=hide hok;have hans : frAns f = frShown f:=if_pos hz;have HZ:=hide hz;have HANS:=hide hans;rw [hz];have hBd:=hok.bounds;obtain ⟨_,_,⟨b5,b6⟩,⟨b7,b8⟩⟩:=hBd;rw [HFW.out.2.2.2.1] at b5 b6 b8;rw [HFW.out.2.2.2.2] at b7 b8;have h12:=hok.many;rw [HFW.out.2.2.1,HN.out] at h12;have hmk:=HMK.out (by omega) (by omega);clear hz hans hok;obtain ⟨N,hNS⟩ : ∃ N,N = S.toNat:=⟨_,rfl⟩;rw [← hNS] at hmk;have HNS:=hide hNS;have hNI : (N : Int) = S:=by omega
  have HNI:=hide hNI;clear hNS hNI;go_wp2_with fail;have hsl:=slots_new w1 N;have hba : Below w1.heap.size w1 (w1.alloc (.cells ((List.replicate N (([Value.int .i64 0,.int .i64 0,.slice none 0 0],none,[]) : Sp)).flatMap (·.1)).toArray 56)):=(Below.refl _ _).alloc (Nat.le_refl _) _
  have HSL0 : Hid (ABlk ImgK 56 (w1.alloc (.cells ((List.replicate N (([Value.int .i64 0,.int .i64 0,.slice none 0 0],none,[]) : Sp)).flatMap (·.1)).toArray 56)) w1.heap.size (frSl f 0) (List.replicate N ([.int .i64 0,.int .i64 0,.slice none 0 0],none,[]))):=hide (by
   have e : frSl f 0 = List.replicate N Img.none:=by unfold frSl; rw [HFW.out.2.2.2.1,HNS.out]
   rw [e]; exact hsl)
  have HBA:=hide hba;clear hsl hba hmk;go_loopw [7,20] (fun _ i wr=>∃ (k : Nat) (es : List Sp),k ≤ n ∧ i = .int .i64 k ∧ Hid (ABlk ImgK 56 wr w1.heap.size (frSl f k) es) ∧ Hid (Below w1.heap.size w1 wr) ∧ Hid (∀ e ∈ es,e.2.2 ≠ [] → NewFrom w1.heap.size e.2.1 ∧ Mine wr (w1.heap.size + 1) e.2.1)) (fun _ i _=>n - (intOf i).toNat)
  case atStart=>exact ⟨0,_,Nat.zero_le _,rfl,HSL0,HBA,hide (fun e he h=>by rw [List.eq_of_mem_replicate he] at h; exact absurd rfl h)⟩
  case round =>
   obtain ⟨k,es,hk,rfl,HSL,HBW,HNW⟩:=hrel;clear HSL0 HBA;by_cases hlt : k < n
   ·have hk0 : (0 : Int) ≤ (k : Int):=by omega
    have hk1 : (k : Int) < (n : Int):=by omega
    obtain ⟨b,o,LA,m,dd,p,rfl,hb,hp,c0,c1,c2,c3,c4,c5,hm,hL,hml⟩:=(HP.out.later _ (HB1.out.trans (HBW.out.mono HB1.out.size))).at_ k (by have:=HN.out; omega);have hPK : f.pas k = p:=by unfold Frm.pas; rw [HFW.out.2.2.1]; exact hp
    have hpo:=HOK.out.pass (k:=k) (by rw [HFW.out.2.2.1,HN.out]; exact hlt);rw [hPK,HFW.out.2.2.2.1] at hpo;have HPK:=hide hPK;have HPO:=hide hpo;have HBW2:=HBW;go_wp2_with fail;have hal : Below wr.heap.size wr (wr.alloc (.cells (passCells p LA m dd).toArray 73)):=(Below.refl _ _).alloc (Nat.le_refl _) _;have HSL1:=hide (HSL.out.keep hal);have HBW1:=hide (HBW.out.trans (hal.mono HBW.out.size));have HPB:=hide (show PasBox (wr.alloc (.cells (passCells p LA m dd).toArray 73)) wr.heap.size p LA m dd from Blk.new wr 73 (passCells p LA m dd));have HLP:=hide (hL.keep hal);have HNW1:=hide (fun e he hd=>(⟨(HNW.out e he hd).1,(HNW.out e he hd).2.keep hal⟩ : NewFrom w1.heap.size e.2.1 ∧ Mine (wr.alloc (.cells (passCells p LA m dd).toArray 73)) (w1.heap.size + 1) e.2.1));have hwr:=HBW.out.size;have hgs:=HSL.out.blk.lt;have hsz : (wr.alloc (.cells (passCells p LA m dd).toArray 73)).heap.size = wr.heap.size + 1:=by simp
    clear c0 c1 c2 c3 c4 c5 q0 q1 q2 q3 q4 x r0 r1 r2 r3 r4 r5 r6 hL hal hpo hp hPK;generalize hwp : (wr.alloc (.cells #[.int .i64 p.Op,.int .i64 p.To,.int .i64 p.A,.int .i64 p.B,.int .i64 p.K,.slice LA m dd] 73)) = wp at *;have HSL2 : Hid (ABlk ImgK 56 wp w1.heap.size (frSl f k) es):=hide (hwp ▸ HSL1.out);have HBW3 : Hid (Below w1.heap.size w1 wp):=hide (hwp ▸ HBW1.out);have HNW2 : Hid (∀ e ∈ es,e.2.2 ≠ [] → NewFrom w1.heap.size e.2.1 ∧ Mine wp (w1.heap.size + 1) e.2.1):=hide (hwp ▸ HNW1.out);have HPB2 : Hid (PasBox wp wr.heap.size p LA m dd):=hide (hwp ▸ HPB.out);have HLP2 : Hid (Lamps wp LA p.L):=hide (hwp ▸ HLP.out);have HSZ2 : Hid (wp.heap.size = wr.heap.size + 1):=hide (by rw [← hwp]; simp);clear HSL1 HBW1 HPB HLP hwp hsz HSL HBW HBW2 HNW HNW1;obtain ⟨to0,to1⟩:=HPO.out.to;obtain ⟨hsa,hsb⟩:=pass_slots HPO.out b5;obtain ⟨a0,a1⟩:=slot_bd hsa;obtain ⟨bb0,bb1⟩:=slot_bd hsb;have hlen : (frSl f k).length = N:=by rw [frSl_len,HFW.out.2.2.2.1,HNS.out]
    have hxa : (frSl f k)[p.A.toNat]? = some ((frSl f k).getD p.A.toNat Img.none):=by
     have:=HNI.out;rw [List.getD_eq_getElem?_getD,List.getElem?_eq_getElem (by omega)]; rfl
    have hxb : (frSl f k)[p.B.toNat]? = some ((frSl f k).getD p.B.toNat Img.none):=by
     have:=HNI.out;rw [List.getD_eq_getElem?_getD,List.getElem?_eq_getElem (by omega)]; rfl
    have hEk:=HOK.out.err (k:=k) (by rw [HFW.out.2.2.1,HN.out]; exact hk);have hatA:=frSl_at hEk (s:=p.A) (by rw [HFW.out.2.2.2.1]; exact hsa);have hatB:=frSl_at hEk (s:=p.B) (by rw [HFW.out.2.2.2.1]; exact hsb);rw [hatA] at hxa;rw [hatB] at hxb;have hM:=frMade HOK.out (k:=k) (by rw [HFW.out.2.2.1,HN.out]; exact hlt);have hfr : frImg f k = passImg f.W f.H (f.pas k) (imgOf (frImgs f k) (writerTo f k (f.pas k).A)) (imgOf (frImgs f k) (writerTo f k (f.pas k).B)):=rfl;rw [HPK.out,HFW.out.1,HFW.out.2.1] at hM hfr;generalize imgOf (frImgs f k) (writerTo f k p.A) = xa at *;generalize imgOf (frImgs f k) (writerTo f k p.B) = xb at *;obtain ⟨csA,BA,dsA,⟨mA,dA,rfl,hlA,rfl⟩,hCA,hneA,hcA⟩:=HSL2.out.at_ hxa;obtain ⟨csB,BB,dsB,⟨mB,dB,rfl,hlB,rfl⟩,hCB,hneB,hcB⟩:=HSL2.out.at_ hxb;have HCA:=hide (Keeps.ints hCA);have HCB:=hide (Keeps.ints hCB);have HMD:=hide (fun (W0 : World) (IA : Option Addr) (h1 : Lamps W0 LA p.L) (h2 : Imgs W0 IA [xa,xb])=>made_all W H S O (some ⟨b,o,none⟩) n c p LA m dd IA 2 2 [xa,xb] xa xb W0 h1 hm h2 rfl hM (fun _=>rfl) (fun _=>rfl));rw [← hfr] at HMD;have HLA:=hide hlA;have HLB:=hide hlB;obtain ⟨x,q0,q1,q2,q3,q4⟩:=FrmBox.cells (Blk.keep HX1.out HBW3.out);obtain ⟨y,y0,y1,y2,y3,y4,y5⟩:=PasBox.cells HPB2.out;have g0 : wp.cell? ⟨w1.heap.size,p.A.toNat * 3,none⟩ = some (.int .i64 xa.W):=hcA 0 (by omega);have g1 : wp.cell? ⟨w1.heap.size,p.A.toNat * 3 + 1,none⟩ = some (.int .i64 xa.H):=hcA 1 (by omega);have g2 : wp.cell? ⟨w1.heap.size,p.A.toNat * 3 + 2,none⟩ = some (.slice BA mA dA):=hcA 2 (by omega);have h0 : wp.cell? ⟨w1.heap.size,p.B.toNat * 3,none⟩ = some (.int .i64 xb.W):=hcB 0 (by omega);have h1 : wp.cell? ⟨w1.heap.size,p.B.toNat * 3 + 1,none⟩ = some (.int .i64 xb.H):=hcB 1 (by omega);have h2 : wp.cell? ⟨w1.heap.size,p.B.toNat * 3 + 2,none⟩ = some (.slice BB mB dB):=hcB 2 (by omega);have hNI:=HNI.out;have ta1 : p.A < (N : Int):=by omega
    have tb1 : p.B < (N : Int):=by omega
    have tt1 : p.To < (N : Int):=by omega
    have hto4 : p.To.toNat < (frSl f k).length:=by omega
    clear hNI
    have hto5 : ∃ v0 v1 v2,wp.cell? ⟨w1.heap.size,p.To.toNat * 3,none⟩ = some v0 ∧ wp.cell? ⟨w1.heap.size,p.To.toNat * 3 + 1,none⟩ = some v1 ∧ wp.cell? ⟨w1.heap.size,p.To.toNat * 3 + 2,none⟩ = some v2:=by
     obtain ⟨csT,BT,dsT,⟨mT,dT,rfl,hlT,rfl⟩,hCT,hneT,hcT⟩:=HSL2.out.at_ (List.getElem?_eq_getElem hto4);exact ⟨_,_,_,hcT 0 (by omega),hcT 1 (by omega),hcT 2 (by omega)⟩
    obtain ⟨tv0,tv1,tv2,t0,t1,t2⟩:=hto5;have HT:=hide (Keeps.and (Keeps.cell t0) (Keeps.and (Keeps.cell t1) (Keeps.cell t2)));have HTO:=hide hto4;have HGS:=hide (show w1.heap.size < wp.heap.size from by have:=HSZ2.out; omega);clear hCA hCB hcA hcB hneA hneB hlA hlB hM hfr hxa hxb hatA hatB hEk hlen t0 t1 t2 hto4;have HSS:=hide (show ∀ x1 x2 : World,Below x1.heap.size x1 x2 → (fun w' : World=>w'.cell? ⟨w.heap.size,0,none⟩ = some (.int .i64 W) ∧ w'.cell? ⟨w.heap.size,1,none⟩ = some (.int .i64 H) ∧ w'.cell? ⟨w.heap.size,2,none⟩ = some (.int .i64 S) ∧ w'.cell? ⟨w.heap.size,3,none⟩ = some (.int .i64 O) ∧ w'.cell? ⟨w.heap.size,4,none⟩ = some (.slice (some ⟨b,o,none⟩) n c) ∧ w'.cell? ⟨wr.heap.size,0,none⟩ = some (.int .i64 p.Op) ∧ w'.cell? ⟨wr.heap.size,1,none⟩ = some (.int .i64 p.To) ∧ w'.cell? ⟨wr.heap.size,2,none⟩ = some (.int .i64 p.A) ∧ w'.cell? ⟨wr.heap.size,3,none⟩ = some (.int .i64 p.B) ∧ w'.cell? ⟨wr.heap.size,4,none⟩ = some (.int .i64 p.K) ∧ w'.cell? ⟨wr.heap.size,5,none⟩ = some (.slice LA m dd) ∧ w'.cell? ⟨w1.heap.size,p.A.toNat * 3,none⟩ = some (.int .i64 xa.W) ∧ w'.cell? ⟨w1.heap.size,p.A.toNat * 3 + 1,none⟩ = some (.int .i64 xa.H) ∧ w'.cell? ⟨w1.heap.size,p.A.toNat * 3 + 2,none⟩ = some (.slice BA mA dA) ∧ w'.cell? ⟨w1.heap.size,p.B.toNat * 3,none⟩ = some (.int .i64 xb.W) ∧ w'.cell? ⟨w1.heap.size,p.B.toNat * 3 + 1,none⟩ = some (.int .i64 xb.H) ∧ w'.cell? ⟨w1.heap.size,p.B.toNat * 3 + 2,none⟩ = some (.slice BB mB dB)) x1 → (fun w' : World=>w'.cell? ⟨w.heap.size,0,none⟩ = some (.int .i64 W) ∧ w'.cell? ⟨w.heap.size,1,none⟩ = some (.int .i64 H) ∧ w'.cell? ⟨w.heap.size,2,none⟩ = some (.int .i64 S) ∧ w'.cell? ⟨w.heap.size,3,none⟩ = some (.int .i64 O) ∧ w'.cell? ⟨w.heap.size,4,none⟩ = some (.slice (some ⟨b,o,none⟩) n c) ∧ w'.cell? ⟨wr.heap.size,0,none⟩ = some (.int .i64 p.Op) ∧ w'.cell? ⟨wr.heap.size,1,none⟩ = some (.int .i64 p.To) ∧ w'.cell? ⟨wr.heap.size,2,none⟩ = some (.int .i64 p.A) ∧ w'.cell? ⟨wr.heap.size,3,none⟩ = some (.int .i64 p.B) ∧ w'.cell? ⟨wr.heap.size,4,none⟩ = some (.int .i64 p.K) ∧ w'.cell? ⟨wr.heap.size,5,none⟩ = some (.slice LA m dd) ∧ w'.cell? ⟨w1.heap.size,p.A.toNat * 3,none⟩ = some (.int .i64 xa.W) ∧ w'.cell? ⟨w1.heap.size,p.A.toNat * 3 + 1,none⟩ = some (.int .i64 xa.H) ∧ w'.cell? ⟨w1.heap.size,p.A.toNat * 3 + 2,none⟩ = some (.slice BA mA dA) ∧ w'.cell? ⟨w1.heap.size,p.B.toNat * 3,none⟩ = some (.int .i64 xb.W) ∧ w'.cell? ⟨w1.heap.size,p.B.toNat * 3 + 1,none⟩ = some (.int .i64 xb.H) ∧ w'.cell? ⟨w1.heap.size,p.B.toNat * 3 + 2,none⟩ = some (.slice BB mB dB)) x2 from fun _ _ hb h=>⟨keepC hb h.1,keepC hb h.2.1,keepC hb h.2.2.1,keepC hb h.2.2.2.1,keepC hb h.2.2.2.2.1,keepC hb h.2.2.2.2.2.1,keepC hb h.2.2.2.2.2.2.1,keepC hb h.2.2.2.2.2.2.2.1,keepC hb h.2.2.2.2.2.2.2.2.1,keepC hb h.2.2.2.2.2.2.2.2.2.1,keepC hb h.2.2.2.2.2.2.2.2.2.2.1,keepC hb h.2.2.2.2.2.2.2.2.2.2.2.1,keepC hb h.2.2.2.2.2.2.2.2.2.2.2.2.1,keepC hb h.2.2.2.2.2.2.2.2.2.2.2.2.2.1,keepC hb h.2.2.2.2.2.2.2.2.2.2.2.2.2.2.1,keepC hb h.2.2.2.2.2.2.2.2.2.2.2.2.2.2.2.1,keepC hb h.2.2.2.2.2.2.2.2.2.2.2.2.2.2.2.2⟩)
    have hS0 : (fun w' : World=>w'.cell? ⟨w.heap.size,0,none⟩ = some (.int .i64 W) ∧ w'.cell? ⟨w.heap.size,1,none⟩ = some (.int .i64 H) ∧ w'.cell? ⟨w.heap.size,2,none⟩ = some (.int .i64 S) ∧ w'.cell? ⟨w.heap.size,3,none⟩ = some (.int .i64 O) ∧ w'.cell? ⟨w.heap.size,4,none⟩ = some (.slice (some ⟨b,o,none⟩) n c) ∧ w'.cell? ⟨wr.heap.size,0,none⟩ = some (.int .i64 p.Op) ∧ w'.cell? ⟨wr.heap.size,1,none⟩ = some (.int .i64 p.To) ∧ w'.cell? ⟨wr.heap.size,2,none⟩ = some (.int .i64 p.A) ∧ w'.cell? ⟨wr.heap.size,3,none⟩ = some (.int .i64 p.B) ∧ w'.cell? ⟨wr.heap.size,4,none⟩ = some (.int .i64 p.K) ∧ w'.cell? ⟨wr.heap.size,5,none⟩ = some (.slice LA m dd) ∧ w'.cell? ⟨w1.heap.size,p.A.toNat * 3,none⟩ = some (.int .i64 xa.W) ∧ w'.cell? ⟨w1.heap.size,p.A.toNat * 3 + 1,none⟩ = some (.int .i64 xa.H) ∧ w'.cell? ⟨w1.heap.size,p.A.toNat * 3 + 2,none⟩ = some (.slice BA mA dA) ∧ w'.cell? ⟨w1.heap.size,p.B.toNat * 3,none⟩ = some (.int .i64 xb.W) ∧ w'.cell? ⟨w1.heap.size,p.B.toNat * 3 + 1,none⟩ = some (.int .i64 xb.H) ∧ w'.cell? ⟨w1.heap.size,p.B.toNat * 3 + 2,none⟩ = some (.slice BB mB dB)) wp.drew:=⟨q0,q1,q2,q3,q4,y0,y1,y2,y3,y4,y5,g0,g1,g2,h0,h1,h2⟩;refine wp_region_B (fun w' : World=>w'.cell? ⟨w.heap.size,0,none⟩ = some (.int .i64 W) ∧ w'.cell? ⟨w.heap.size,1,none⟩ = some (.int .i64 H) ∧ w'.cell? ⟨w.heap.size,2,none⟩ = some (.int .i64 S) ∧ w'.cell? ⟨w.heap.size,3,none⟩ = some (.int .i64 O) ∧ w'.cell? ⟨w.heap.size,4,none⟩ = some (.slice (some ⟨b,o,none⟩) n c) ∧ w'.cell? ⟨wr.heap.size,0,none⟩ = some (.int .i64 p.Op) ∧ w'.cell? ⟨wr.heap.size,1,none⟩ = some (.int .i64 p.To) ∧ w'.cell? ⟨wr.heap.size,2,none⟩ = some (.int .i64 p.A) ∧ w'.cell? ⟨wr.heap.size,3,none⟩ = some (.int .i64 p.B) ∧ w'.cell? ⟨wr.heap.size,4,none⟩ = some (.int .i64 p.K) ∧ w'.cell? ⟨wr.heap.size,5,none⟩ = some (.slice LA m dd) ∧ w'.cell? ⟨w1.heap.size,p.A.toNat * 3,none⟩ = some (.int .i64 xa.W) ∧ w'.cell? ⟨w1.heap.size,p.A.toNat * 3 + 1,none⟩ = some (.int .i64 xa.H) ∧ w'.cell? ⟨w1.heap.size,p.A.toNat * 3 + 2,none⟩ = some (.slice BA mA dA) ∧ w'.cell? ⟨w1.heap.size,p.B.toNat * 3,none⟩ = some (.int .i64 xb.W) ∧ w'.cell? ⟨w1.heap.size,p.B.toNat * 3 + 1,none⟩ = some (.int .i64 xb.H) ∧ w'.cell? ⟨w1.heap.size,p.B.toNat * 3 + 2,none⟩ = some (.slice BB mB dB)) (fun j=>decide (j = 18)) (by kernel_rfl) ?_;refine AnyB.fr (i:=0) (.slice (some ⟨w1.heap.size,0,none⟩) N N) rfl (by kernel_rfl) (fun w'=>?_) ?_
    ·go_simp
    try simp only [Act.put,lsa]
    refine AnyB.fr (i:=1) (.pointer (some ⟨wr.heap.size,1,none⟩)) rfl (by kernel_rfl) (fun w'=>?_) ?_
    ·go_simp
    try simp only [Act.put]
    refine AnyB.tk (i:=2) (.int .i64 p.To) rfl (by kernel_rfl) (fun w' hS'=>?_) hS0 ?_
    ·obtain ⟨e0,e1,e2,e3,e4,e5,e6,e7,e8,e9,e10,e11,e12,e13,e14,e15,e16⟩:=hS'
     go_simp
    try simp only [Act.put]
    refine AnyB.tk (i:=3) (.agg #[.int .i64 W,.int .i64 H,.int .i64 S,.int .i64 O,.slice (some ⟨b,o,none⟩) n c]) rfl (by kernel_rfl) (fun w' hS'=>?_) hS0 ?_
    ·obtain ⟨e0,e1,e2,e3,e4,e5,e6,e7,e8,e9,e10,e11,e12,e13,e14,e15,e16⟩:=hS'
     go_simp
    try simp only [Act.put]
    refine AnyB.tk (i:=4) (.agg #[.int .i64 p.Op,.int .i64 p.To,.int .i64 p.A,.int .i64 p.B,.int .i64 p.K,.slice LA m dd]) rfl (by kernel_rfl) (fun w' hS'=>?_) hS0 ?_
    ·obtain ⟨e0,e1,e2,e3,e4,e5,e6,e7,e8,e9,e10,e11,e12,e13,e14,e15,e16⟩:=hS'
     go_simp
    try simp only [Act.put]
    refine AnyB.fr (i:=5) (.slice (some ⟨w1.heap.size,0,none⟩) N N) rfl (by kernel_rfl) (fun w'=>?_) ?_
    ·go_simp
    try simp only [Act.put]
    refine AnyB.fr (i:=6) (.pointer (some ⟨wr.heap.size,2,none⟩)) rfl (by kernel_rfl) (fun w'=>?_) ?_
    ·go_simp
    try simp only [Act.put]
    refine AnyB.tk (i:=7) (.int .i64 p.A) rfl (by kernel_rfl) (fun w' hS'=>?_) hS0 ?_
    ·obtain ⟨e0,e1,e2,e3,e4,e5,e6,e7,e8,e9,e10,e11,e12,e13,e14,e15,e16⟩:=hS'
     go_simp
    try simp only [Act.put]
    refine AnyB.fr (i:=8) (.pointer (some ⟨w1.heap.size,p.A.toNat * 3,none⟩)) rfl (by kernel_rfl) (fun w'=>?_) ?_
    ·go_simp
    try simp only [Act.put]
    refine AnyB.tk (i:=9) (.agg #[.int .i64 xa.W,.int .i64 xa.H,.slice BA mA dA]) rfl (by kernel_rfl) (fun w' hS'=>?_) hS0 ?_
    ·obtain ⟨e0,e1,e2,e3,e4,e5,e6,e7,e8,e9,e10,e11,e12,e13,e14,e15,e16⟩:=hS'
     go_simp
    try simp only [Act.put]
    refine AnyB.fr (i:=10) (.slice (some ⟨w1.heap.size,0,none⟩) N N) rfl (by kernel_rfl) (fun w'=>?_) ?_
    ·go_simp
    try simp only [Act.put]
    refine AnyB.fr (i:=11) (.pointer (some ⟨wr.heap.size,3,none⟩)) rfl (by kernel_rfl) (fun w'=>?_) ?_
    ·go_simp
    try simp only [Act.put]
    refine AnyB.tk (i:=12) (.int .i64 p.B) rfl (by kernel_rfl) (fun w' hS'=>?_) hS0 ?_
    ·obtain ⟨e0,e1,e2,e3,e4,e5,e6,e7,e8,e9,e10,e11,e12,e13,e14,e15,e16⟩:=hS'
     go_simp
    try simp only [Act.put]
    refine AnyB.fr (i:=13) (.pointer (some ⟨w1.heap.size,p.B.toNat * 3,none⟩)) rfl (by kernel_rfl) (fun w'=>?_) ?_
    ·go_simp
    try simp only [Act.put]
    refine AnyB.tk (i:=14) (.agg #[.int .i64 xb.W,.int .i64 xb.H,.slice BB mB dB]) rfl (by kernel_rfl) (fun w' hS'=>?_) hS0 ?_
    ·obtain ⟨e0,e1,e2,e3,e4,e5,e6,e7,e8,e9,e10,e11,e12,e13,e14,e15,e16⟩:=hS'
     go_simp
    try simp only [Act.put]
    refine AnyB.one (i:=15) (by kernel_rfl) rfl (fun K hK=>?_)
    go_simp;refine hK.out _ _ (fun _ hs=>HSS.out _ _ ((Below.refl _ _).alloc (Nat.le_refl _) _) hs) ?_;clear hK K;try simp only [Act.put,lsa,lsz,lss]
    have hbi : Below wp.heap.size wp ((wp.alloc (.cells #[.int .i64 xa.W,.int .i64 xa.H,.slice BA mA dA,.int .i64 xb.W,.int .i64 xb.H,.slice BB mB dB] 56)).drew):=((Below.refl _ _).alloc (Nat.le_refl _) _).drew;have hit : Imgs ((wp.alloc (.cells #[.int .i64 xa.W,.int .i64 xa.H,.slice BA mA dA,.int .i64 xb.W,.int .i64 xb.H,.slice BB mB dB] 56)).drew) (some ⟨wp.heap.size,0,none⟩) [xa,xb]:=(imgs_two HLA.out HLB.out HCA.out.now HCB.out.now).keep (Below.refl _ _).drew;refine AnyB.one (i:=16) (by kernel_rfl) rfl (fun K hK=>?_)
    go_simp;go_at_call 69;refine ((unhide HMD) _ _ (HLP2.out.keep hbi) hit).mono ?_;rintro e w3 ⟨W1,H1,P1,A1,n1,c1,hr,hn1,rfl,hI1,hA1,hE1⟩;try go_simp
    refine hK.out _ _ (fun _ hs=>HSS.out _ _ hE1 hs) ?_;clear hK K;try simp only [Act.put,lsa,lsz,lss]
    have hb3 : Below wp.heap.size wp w3:=hbi.trans (hE1.mono hbi.size);have HSL3:=hide (HSL2.out.keep hb3);obtain ⟨t0,t1,t2⟩:=HT.out.later _ hb3;have z0:=HSL3.out.blk.frozen (p.To.toNat * 3);have z1:=HSL3.out.blk.frozen (p.To.toNat * 3 + 1);have z2:=HSL3.out.blk.frozen (p.To.toNat * 3 + 2);refine AnyB.fr (i:=17) (.pointer (some ⟨w1.heap.size,p.To.toNat * 3,none⟩)) rfl (by kernel_rfl) (fun w'=>?_) ?_
    ·go_simp
    try simp only [Act.put,lsa]
    refine AnyB.one (i:=18) (by kernel_rfl) rfl (fun K hK=>?_)
    go_simp;refine hK.out _ _ (fun h _=>by cases h) ?_;clear hK K;try simp only [Act.put,lsa,lsz,lss]
    refine AnyB.done (by kernel_rfl) ?_;go_wp2_with fail;go_roundw
    case rel =>
     refine ⟨k + 1,es.set p.To.toNat ([.int .i64 W1,.int .i64 H1,.slice A1 n1 c1],A1,P1.map (.int .i64)),by omega,by go_num,?_,hide ((((HBW3.out.trans (hb3.mono HBW3.out.size)).setCell (p:=⟨w1.heap.size,p.To.toNat * 3,none⟩) (by simp) _).setCell (p:=⟨w1.heap.size,p.To.toNat * 3 + 1,none⟩) (by simp) _).setCell (p:=⟨w1.heap.size,p.To.toNat * 3 + 2,none⟩) (by simp) _),?_⟩
     rotate_left
     ·refine hide (fun e he hd=>?_)
      rcases List.mem_or_eq_of_mem_set he with he | rfl
      ·obtain ⟨g1,g2⟩:=HNW2.out e he hd
       exact ⟨g1,(((g2.keep hb3).far (p:=⟨w1.heap.size,p.To.toNat * 3,none⟩) (Nat.lt_succ_self _) _).far (p:=⟨w1.heap.size,p.To.toNat * 3 + 1,none⟩) (Nat.lt_succ_self _) _).far (p:=⟨w1.heap.size,p.To.toNat * 3 + 2,none⟩) (Nat.lt_succ_self _) _⟩
      ·have h2:=HGS.out
       have h3:=hbi.size
       refine ⟨fun a ha=>by
        have h1:=hA1.new a ha
        omega,?_⟩
       exact ((((hA1.mono (Nat.le_trans (Nat.succ_le_of_lt h2) h3)).far (p:=⟨w1.heap.size,p.To.toNat * 3,none⟩) (Nat.lt_succ_self _) _).far (p:=⟨w1.heap.size,p.To.toNat * 3 + 1,none⟩) (Nat.lt_succ_self _) _).far (p:=⟨w1.heap.size,p.To.toNat * 3 + 2,none⟩) (Nat.lt_succ_self _) _)
     have e : frSl f (k + 1) = (frSl f k).set p.To.toNat ⟨W1,H1,P1⟩:=by rw [hr,← HPK.out]; rfl
     rw [e];refine hide (HSL3.out.store HTO.out (x:=⟨W1,H1,P1⟩) (B:=A1) (ds:=P1.map (.int .i64)) ⟨n1,c1,rfl,hn1,rfl⟩ hI1 (fun _ a ha e=>?_));have h1:=hA1.new a ha;have h2:=HGS.out;have h3:=hbi.size;omega
    case measure=>simp [intOf]; omega
   ·obtain rfl : k = n:=by omega
    have hEk:=HOK.out.err (k:=k) (by rw [HFW.out.2.2.1,HN.out]; exact Nat.le_refl _);have hatO:=frSl_at hEk (s:=O) (by rw [HFW.out.2.2.2.1]; exact slot_iff.2 ⟨b7,b8⟩);have hlen : (frSl f k).length = N:=by rw [frSl_len,HFW.out.2.2.2.1,HNS.out]
    have hxo : (frSl f k)[O.toNat]? = some (frShown f):=by
     have hNI:=HNI.out;have e : frShown f = (frSl f k).getD O.toNat Img.none:=by unfold frShown frLast; rw [hatO,HFW.out.2.2.1,HN.out,HFW.out.2.2.2.2]
     rw [e,List.getD_eq_getElem?_getD,List.getElem?_eq_getElem (by omega)]; rfl
    obtain ⟨csO,BO,dsO,⟨mO,dO,rfl,hlO,rfl⟩,hCO,hneO,hcO⟩:=HSL.out.atNew (R:=fun B=>NewFrom w1.heap.size B ∧ Mine wr (w1.heap.size + 1) B) HNW.out hxo;have g0 : wr.cell? ⟨w1.heap.size,O.toNat * 3,none⟩ = some (.int .i64 (frShown f).W):=hcO 0 (by omega);have g1 : wr.cell? ⟨w1.heap.size,O.toNat * 3 + 1,none⟩ = some (.int .i64 (frShown f).H):=hcO 1 (by omega);have g2 : wr.cell? ⟨w1.heap.size,O.toNat * 3 + 2,none⟩ = some (.slice BO mO dO):=hcO 2 (by omega);have hNI:=HNI.out;have to1 : O < (N : Int):=by omega
    clear hNI;have HRE:=hide (HR1.out.keep HBW.out);clear q0 q1 q2 q3 q4 x r0 r1 r2 r3 r4 r5 r6;obtain ⟨x,q0,q1,q2,q3,q4⟩:=FrmBox.cells (Blk.keep HX1.out HBW.out);obtain ⟨r0,r1,r2,r3,r4,r5,r6⟩:=resKeep (Below.refl _ _) HRE.out;have n1 : ¬ w.heap.size + 1 = w1.heap.size:=by omega
    have n2 : ¬ w1.heap.size = w.heap.size + 1:=by omega
    have HLO:=hide hlO;have HCO:=hide hCO;have hbw:=HB1.out.trans (HBW.out.mono HB1.out.size);have HNO:=hide hneO;clear hatO hEk hlen hxo hcO hneO hCO hlO;go_wp2_with fail;refine bodyPost_ret (v:=.tuple #[.agg #[.int .i64 (frShown f).W,.int .i64 (frShown f).H,.slice BO mO dO],.int .i64 0]) ?_ rfl ?_
    ·simp [results,Try.results31,go_sem,r1,r2,r3]
    ·rw [HZ.out,HANS.out]
     refine ⟨_,_,(frShown f).P,BO,mO,dO,rfl,HLO.out,rfl,?_,(fun h=>(((((HNO.out h).2.mono (show w.heap.size + 2 ≤ w1.heap.size + 1 from by omega)).far (p:=⟨w.heap.size + 1,0,none⟩) (Nat.lt_succ_self _) _).far (p:=⟨w.heap.size + 1,1,none⟩) (Nat.lt_succ_self _) _).far (p:=⟨w.heap.size + 1,2,none⟩) (Nat.lt_succ_self _) _).mono (by omega)),((hbw.setCell (p:=⟨w.heap.size + 1,0,none⟩) (by simp) _).setCell (p:=⟨w.heap.size + 1,1,none⟩) (by simp) _).setCell (p:=⟨w.heap.size + 1,2,none⟩) (by simp) _⟩;exact intsFar3 HCO.out (fun h=>(HNO.out h).1) (by omega) _ _ _
 ·have hans : frAns f = Img.none:=if_neg hz
  have HANS:=hide hans;obtain ⟨z,hze⟩ : ∃ z,z = frErr f:=⟨_,rfl⟩;rw [← hze];have hz2 : (z != 0) = true:=by rw [hze]; simpa using hz
  have HZE:=hide hze;clear hz hans hze;go_wp2_with fail;refine bodyPost_ret (v:=.tuple #[.agg #[.int .i64 0,.int .i64 0,.slice none 0 0],.int .i64 z]) ?_ rfl ?_
  ·simp [results,Try.results31,go_sem,r1,r2,r3]
  ·rw [HANS.out,← HZE.out]
   exact ⟨0,0,[],none,0,0,rfl,rfl,rfl,Ints.nil _ _,(fun h=>absurd rfl h),((HB1.out.setCell (p:=⟨w.heap.size + 1,0,none⟩) (by simp) _).setCell (p:=⟨w.heap.size + 1,1,none⟩) (by simp) _).setCell (p:=⟨w.heap.size + 1,2,none⟩) (by simp) _⟩
theorem render_any (W H S O : Int) (PA : Option Addr) (n c : Nat) (ps : List Pas) (w : World) (hn : ps.length = n) (hP : Passes w PA ps) :
 Calls Try.prog 31 #[.agg #[.int .i64 W,.int .i64 H,.int .i64 S,.int .i64 O,.slice PA n c]] w (RetIm w (frAns ⟨W,H,S,O,ps⟩) (frErr ⟨W,H,S,O,ps⟩)) :=
 (render_new W H S O PA n c ps w hn hP).mono fun _ _ ⟨W1,H1,P1,A1,n1,c1,h1,h2,h3,h4,_,h5⟩=>⟨W1,H1,P1,A1,n1,c1,h1,h2,h3,h4,h5⟩
end Go.Proofs.Ytibpmogmeoappab
namespace Go.Proofs.Ytibpmogmeoappab
open Go.RowKit
def RetPl (w : World) (r : Img) (e : Ending) (w' : World) : Prop :=
 ∃ (W H : Int) (P : List Int) (A : Option Addr) (n c : Nat),Img.mk W H P = r ∧ P.length = n ∧ e = .returned (.agg #[.int .i64 W,.int .i64 H,.slice A n c]) ∧ Ints w' A P ∧ (P.map (Value.int .i64) ≠ [] → NewFrom (w.heap.size + 1) A) ∧ Below w.heap.size w w'
theorem renderOf_ref (W H S O : Int) (PA : Option Addr) (n c : Nat) (ps : List Pas) (w : World) (hn : ps.length = n) (hP : Passes w PA ps) (hf0 : FrmOk ⟨W,H,S,O,ps⟩) :
 Calls Try.prog 32 #[.agg #[.int .i64 W,.int .i64 H,.int .i64 S,.int .i64 O,.slice PA n c]] w (RetPl w (frShown ⟨W,H,S,O,ps⟩)):=by
 have hl:=hf0.last;have hl12:=hf0.many.2;simp only [hn] at hl hl12
 have hxo : (frImgs ⟨W,H,S,O,ps⟩ n)[(frLast ⟨W,H,S,O,ps⟩).toNat]? = some (frShown ⟨W,H,S,O,ps⟩):=by
  unfold frShown imgOf;rw [if_neg (by omega),List.getD_eq_getElem?_getD,hn,List.getElem?_eq_getElem (by rw [frImgs_len]; omega)];rfl
 obtain ⟨f,hf⟩ : ∃ f : Frm,f = ⟨W,H,S,O,ps⟩:=⟨_,rfl⟩;have hb:=((Below.refl w.heap.size w).alloc (Nat.le_refl _) (.cells #[.int .i64 W,.int .i64 H,.int .i64 S,.int .i64 O,.slice PA n c] 24)).alloc (by simp) (.cells #[.int .i64 0,.int .i64 0,.slice none 0 0] 56);have HIM:=hide (fun (W0 : World) (h1 : Passes W0 PA ps)=>images_ref W H S O PA n c ps W0 hn h1 hf0);have HLA:=hide (fun (W0 : World) (h1 : Passes W0 PA ps)=>lastOf_ref W H S O PA n c ps W0 hn h1 (by omega));have hbx : FrmBox ((w.alloc (.cells #[.int .i64 W,.int .i64 H,.int .i64 S,.int .i64 O,.slice PA n c] 24)).alloc (.cells #[.int .i64 0,.int .i64 0,.slice none 0 0] 56)) w.heap.size W H S O PA n c:=(Blk.new w 24 (frmCells W H S O PA n c)).alloc _;have hrs : Blk ((w.alloc (.cells #[.int .i64 W,.int .i64 H,.int .i64 S,.int .i64 O,.slice PA n c] 24)).alloc (.cells #[.int .i64 0,.int .i64 0,.slice none 0 0] 56)) (w.heap.size + 1) 56 [.int .i64 0,.int .i64 0,.slice none 0 0]:=Blk.newE (by simp);have hsz : ((w.alloc (.cells #[.int .i64 W,.int .i64 H,.int .i64 S,.int .i64 O,.slice PA n c] 24)).alloc (.cells #[.int .i64 0,.int .i64 0,.slice none 0 0] 56)).heap.size = w.heap.size + 2:=by simp
 rw [← hf] at hl hxo HIM HLA ⊢;have HP:=hide (Keeps.passes hP);have HXO:=hide hxo;clear hn hP hf hf0 hxo hl12;go_enter Try.func32,Try.ntmps32
 go_wp2_with fail;generalize ((w.alloc (.cells #[.int .i64 W,.int .i64 H,.int .i64 S,.int .i64 O,.slice PA n c] 24)).alloc (.cells #[.int .i64 0,.int .i64 0,.slice none 0 0] 56)) = w0 at *;obtain ⟨x,q0,q1,q2,q3,q4⟩:=FrmBox.cells hbx;have HRS:=hide hrs;have HB:=hide hb;have HSZ:=hide hsz;have HKS:=hide (show Keeps w0 (fun w'=>w'.cell? ⟨w.heap.size,0,none⟩ = some (.int .i64 W) ∧ w'.cell? ⟨w.heap.size,1,none⟩ = some (.int .i64 H) ∧ w'.cell? ⟨w.heap.size,2,none⟩ = some (.int .i64 S) ∧ w'.cell? ⟨w.heap.size,3,none⟩ = some (.int .i64 O) ∧ w'.cell? ⟨w.heap.size,4,none⟩ = some (.slice PA n c)) from ⟨⟨q0,q1,q2,q3,q4⟩,fun _ hb=>⟨keepC hb q0,keepC hb q1,keepC hb q2,keepC hb q3,keepC hb q4⟩⟩);obtain ⟨l0,l1⟩:=hl;clear hb hbx hrs hsz
 go_region_with (first
  | (go_simp; go_at_call 70; refine ((unhide HIM) _ (HP.out.later _ HB.out.drew)).mono ?_; rintro e w1 ⟨A1,n1,c1,rfl,hn1,hI1,hE1⟩; have hB1 : Below w0.heap.size w0 w1:=(Below.refl _ _).drew.trans hE1; have hnn : n1 = n:=(hn1.symm.trans (frImgs_len _ _)); subst hnn; obtain ⟨ib,io,IB,im,idd,rfl,hib,ic0,ic1,ic2,him,hII,hNW⟩:=hI1 _ _ HXO.out; obtain ⟨m0,m1,m2,m3,m4⟩:=HKS.out.later _ hB1)
  | (go_simp; go_at_call 61; refine ((unhide HLA) _ (HP.out.later _ (HB.out.trans (hB1.mono HB.out.size)))).mono ?_; rintro e w2 ⟨rfl,hE2⟩; have hB2 : Below w0.heap.size w0 w2:=hB1.trans (hE2.mono hB1.size); have j0:=keepC hE2 ic0; have j1:=keepC hE2 ic1; have j2:=keepC hE2 ic2; obtain ⟨r0,r1,r2,r3,r4,r5,r6⟩:=resKeep hB2 HRS.out))
 all_goals
  have hss:=HSZ.out;have HB2:=hide (HB.out.trans (hB2.mono HB.out.size));have HII:=hide (hII.keep hE2);have HNW2:=hide hNW;have HIM2:=hide him;clear hNW him hII hI1;go_wp2_with fail;refine bodyPost_ret (v:=.agg #[.int .i64 (frShown f).W,.int .i64 (frShown f).H,.slice IB im idd]) ?_ rfl ?_
  ·simp [results,Try.results32,go_sem,r1,r2,r3]
  ·refine ⟨_,_,(frShown f).P,IB,im,idd,rfl,HIM2.out,rfl,?_,(fun h=>(HNW2.out h).mono (show w.heap.size + 1 ≤ w0.heap.size from by omega)),((HB2.out.setCell (p:=⟨w.heap.size + 1,0,none⟩) (by simp) _).setCell (p:=⟨w.heap.size + 1,1,none⟩) (by simp) _).setCell (p:=⟨w.heap.size + 1,2,none⟩) (by simp) _⟩
   exact intsFar3 HII.out (fun h=>(HNW2.out h).mono (show w.heap.size + 2 ≤ _ from by show w.heap.size + 2 ≤ w0.heap.size; omega)) (by omega) _ _ _
end Go.Proofs.Ytibpmogmeoappab
