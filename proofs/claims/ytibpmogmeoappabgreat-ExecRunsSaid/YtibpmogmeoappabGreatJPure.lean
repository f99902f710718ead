/- Plain laws of images, with no program in sight: what comes is right; up and down; an image of one number; which comes first. -/
import Derived.Test.YtibpmogmeoappabGreatJPlain
namespace Go.Proofs.YtibpmogmeoappabGreat
theorem sum_bd (l : List Int) (h : ∀ v ∈ l,0 ≤ v ∧ v ≤ 65535) : 0 ≤ l.sum ∧ l.sum ≤ 65535 * (l.length : Int):=by
 induction l with
 | nil=>simp
 | cons x l ih =>
   have h1:=h x (by simp);have h2:=ih fun v hv=>h v (by simp [hv]);simp only [List.sum_cons,List.length_cons];omega
theorem mean_bd_list (l : List Int) (h : ∀ v ∈ l,0 ≤ v ∧ v ≤ 65535) : 0 ≤ l.sum / (l.length : Int) ∧ l.sum / (l.length : Int) ≤ 65535:=by
 obtain ⟨h1,h2⟩:=sum_bd l h;refine ⟨Int.ediv_nonneg h1 (by omega),?_⟩;by_cases h0 : l.length = 0
 ·rw [h0]; simp
 ·have : l.sum / (l.length : Int) < 65536:=Int.ediv_lt_of_lt_mul (by omega) (by omega)
  omega
theorem mem_meanList {a : Img} {x y u v t : Int} (h : t ∈ meanList a x y u v) : ∃ i j : Int,(max x 0 ≤ i ∧ i ≤ min u (a.W - 1)) ∧ (max y 0 ≤ j ∧ j ≤ min v (a.H - 1)) ∧ t = a.at_ i j:=by
 unfold meanList at h;rw [List.mem_flatMap] at h;obtain ⟨j,hj,h⟩:=h;rw [List.mem_map] at h;obtain ⟨i,hi,rfl⟩:=h;exact ⟨i,j,mem_irange.1 hi,mem_irange.1 hj,rfl⟩
theorem mean_bd {a : Img} (hF : a.Fine) (x y u v : Int) : 0 ≤ mean a x y u v ∧ mean a x y u v ≤ 65535:=by
 unfold mean;refine mean_bd_list _ fun t ht=>?_;obtain ⟨i,j,hi,hj,rfl⟩:=mem_meanList ht;exact hF.at_bd (by omega) (by omega) (by omega) (by omega)
theorem one_ops {op : Int} {a : Img} {k : Int} (h : oneErr op a k = 0) : op = 3 ∨ op = 10 ∨ (op = 8 ∧ 0 ≤ k ∧ k ≤ 65535) ∨ (op = 9 ∧ -16 ≤ k ∧ k ≤ 16) ∨ (op = 11 ∧ a.W % 2 ≠ 1 ∧ a.H % 2 ≠ 1) ∨ (op = 12 ∧ 2 * a.W ≤ 16 ∧ 2 * a.H ≤ 16):=by
 unfold oneErr at h;by_cases h3 : op = 3
 ·exact Or.inl h3
 by_cases h10 : op = 10
 ·exact Or.inr (Or.inl h10)
 rw [if_neg (by omega)] at h;by_cases h8 : op = 8
 ·rw [if_pos h8] at h; split at h
  ·exact Or.inr (Or.inr (Or.inl ⟨h8,by omega⟩))
  ·omega
 rw [if_neg h8] at h;by_cases h9 : op = 9
 ·rw [if_pos h9] at h; split at h
  ·exact Or.inr (Or.inr (Or.inr (Or.inl ⟨h9,by omega⟩)))
  ·omega
 rw [if_neg h9] at h;by_cases h11 : op = 11
 ·rw [if_pos h11] at h; split at h
  ·omega
  ·exact Or.inr (Or.inr (Or.inr (Or.inr (Or.inl ⟨h11,by omega⟩))))
 rw [if_neg h11] at h;by_cases h12 : op = 12
 ·rw [if_pos h12] at h; split at h
  ·omega
  ·exact Or.inr (Or.inr (Or.inr (Or.inr (Or.inr ⟨h12,by omega⟩))))
 rw [if_neg h12] at h;omega
theorem one_both {op : Int} {a : Img} {k : Int} (h : oneErrAll op a k = 0) : a.Fine ∧ oneErr op a k = 0 ∧ oneAns op a k = oneImg op a k:=by
 have h':=h;unfold oneErrAll at h;split at h
 ·rename_i hF
  exact ⟨hF,h,if_pos h'⟩
 ·omega
theorem oneAns_fine {op : Int} {a : Img} {k : Int} (h : oneErrAll op a k = 0) : (oneAns op a k).Fine:=by
 obtain ⟨hF,hE,e⟩:=one_both h;rw [e];obtain ⟨⟨d1,d2⟩,⟨d3,d4⟩,_⟩:=id hF;unfold oneImg;rcases one_ops hE with rfl | rfl | ⟨rfl,k1,k2⟩ | ⟨rfl,k1,k2⟩ | ⟨rfl,k1,k2⟩ | ⟨rfl,k1,k2⟩
 ·refine drawn_fine (by simp [sizeW]; omega) (by simp [sizeW]; omega) fun x y h1 h2 h3 h4=>?_
  simp [sizeW] at h2 h4
  simp only [onePix,if_true];exact hF.at_bd h1 h2 h3 h4
 ·refine drawn_fine (by simp [sizeW]; omega) (by simp [sizeW]; omega) fun x y h1 h2 h3 h4=>?_
  have : onePix 10 a k x y = mean a (x - 1) (y - 1) (x + 1) (y + 1):=by simp [onePix]
  rw [this]; exact mean_bd hF _ _ _ _
 ·refine drawn_fine (by simp [sizeW]; omega) (by simp [sizeW]; omega) fun x y h1 h2 h3 h4=>?_
  simp [sizeW] at h2 h4
  have : onePix 8 a k x y = if k ≤ a.at_ x y then a.at_ x y else 0:=by simp [onePix]
  rw [this];have:=hF.at_bd h1 h2 h3 h4;split <;> omega
 ·refine drawn_fine (by simp [sizeW]; omega) (by simp [sizeW]; omega) fun x y h1 h2 h3 h4=>?_
  simp [sizeW] at h2 h4
  have : onePix 9 a k x y = a.at_ (max 0 (min (a.W - 1) (x - k))) y:=by simp [onePix]
  rw [this];exact hF.at_bd (by omega) (by omega) h3 h4
 ·refine drawn_fine (by simp [sizeW]; omega) (by simp [sizeW]; omega) fun x y h1 h2 h3 h4=>?_
  have : onePix 11 a k x y = mean a (2 * x) (2 * y) (2 * x + 1) (2 * y + 1):=by simp [onePix]
  rw [this]; exact mean_bd hF _ _ _ _
 ·refine drawn_fine (by simp [sizeW]; omega) (by simp [sizeW]; omega) fun x y h1 h2 h3 h4=>?_
  simp [sizeW] at h2 h4
  have : onePix 12 a k x y = a.at_ (x / 2) (y / 2):=by simp [onePix]
  rw [this];exact hF.at_bd (by omega) (by omega) (by omega) (by omega)
theorem twoNum_bd {op x y : Int} (hx : 0 ≤ x ∧ x ≤ 65535) (hy : 0 ≤ y ∧ y ≤ 65535) : 0 ≤ twoNum op x y ∧ twoNum op x y ≤ 65535:=by
 unfold twoNum;split
 ·omega
 split
 ·omega
 split
 ·have h1 : 0 ≤ x * y:=Int.mul_nonneg hx.1 hy.1
  have h2 : x * y ≤ 65535 * 65535:=Int.mul_le_mul hx.2 hy.2 hy.1 (by omega);refine ⟨Int.ediv_nonneg h1 (by omega),?_⟩;have : x * y / 65535 < 65536:=Int.ediv_lt_of_lt_mul (by omega) (by omega);omega
 split
 ·omega
 ·omega
theorem two_both {op : Int} {a b : Img} (h : twoErr op a b = 0) : a.Fine ∧ b.Fine ∧ (4 ≤ op ∧ op ≤ 7) ∧ a.W = b.W ∧ a.H = b.H ∧ a.P.length = b.P.length ∧ twoAns op a b = twoImg op a b:=by
 have h':=h;unfold twoErr at h;split at h
 ·omega
 rename_i h1
 split at h
 ·omega
 rename_i h2
 split at h
 ·omega
 rename_i h3
 have ha : a.Fine:=Decidable.byContradiction fun e=>h1 (Or.inl e);have hb : b.Fine:=Decidable.byContradiction fun e=>h1 (Or.inr e);have hw : a.W = b.W:=Decidable.byContradiction fun e=>h3 (Or.inl e);have hh : a.H = b.H:=Decidable.byContradiction fun e=>h3 (Or.inr e);have l1:=ha.2.2.1;have l2:=hb.2.2.1;rw [hw,hh] at l1;exact ⟨ha,hb,Decidable.byContradiction fun e=>h2 e,hw,hh,by omega,if_pos h'⟩
theorem getD_bd {a : Img} (h : a.Fine) (i : Nat) : 0 ≤ a.P.getD i 0 ∧ a.P.getD i 0 ≤ 65535:=by
 by_cases hi : i < a.P.length
 ·rw [List.getD_eq_getElem?_getD,List.getElem?_eq_getElem hi]
  exact h.2.2.2 _ (List.getElem_mem hi)
 ·rw [List.getD_eq_getElem?_getD,List.getElem?_eq_none (by omega)]
  simp
theorem twoAns_fine {op : Int} {a b : Img} (h : twoErr op a b = 0) : (twoAns op a b).Fine:=by
 obtain ⟨ha,hb,_,_,_,_,e⟩:=two_both h;rw [e];unfold twoImg;refine ⟨ha.1,ha.2.1,?_,?_⟩
 ·simp only [List.length_map,List.length_range]; exact ha.2.2.1
 ·intro v hv
  simp only [List.mem_map] at hv;obtain ⟨i,_,rfl⟩:=hv;exact twoNum_bd (getD_bd ha i) (getD_bd hb i)
end Go.Proofs.YtibpmogmeoappabGreat
namespace Go.Proofs.YtibpmogmeoappabGreat
def passImg (W H : Int) (p : Pas) (a b : Img) : Img :=
 if hasA p.Op = false then makeImg p.Op W H p.K
 else if hasB p.Op = true then twoImg p.Op a b
 else if p.Op = 13 then litImg a p.L
 else oneImg p.Op a p.K
def imgOf (im : List Img) (i : Int) : Img:=if i < 0 then Img.none else im.getD i.toNat Img.none
def frImgs (f : Frm) : Nat → List Img
 | 0=>[]
 | k + 1=>frImgs f k ++ [passImg f.W f.H (f.pas k) (imgOf (frImgs f k) (writerTo f k (f.pas k).A)) (imgOf (frImgs f k) (writerTo f k (f.pas k).B))]
def frImg (f : Frm) (k : Nat) : Img:=passImg f.W f.H (f.pas k) (imgOf (frImgs f k) (writerTo f k (f.pas k).A)) (imgOf (frImgs f k) (writerTo f k (f.pas k).B))
theorem frImgs_succ (f : Frm) (k : Nat) : frImgs f (k + 1) = frImgs f k ++ [frImg f k]:=rfl
theorem frImgs_len (f : Frm) (k : Nat) : (frImgs f k).length = k:=by
 induction k with
 | zero=>rfl
 | succ k ih=>simp [frImgs,ih]
theorem frImgs_at (f : Frm) {k i : Nat} (h : i < k) : (frImgs f k).getD i Img.none = frImg f i:=by
 induction k with
 | zero=>omega
 | succ k ih =>
   rw [frImgs_succ,List.getD_eq_getElem?_getD];by_cases e : i < k
   ·rw [List.getElem?_append_left (by rw [frImgs_len]; exact e),← List.getD_eq_getElem?_getD]; exact ih e
   ·have : i = k:=by omega
    subst this;rw [List.getElem?_append_right (by rw [frImgs_len]; omega),frImgs_len]; simp
theorem imgOf_at (f : Frm) {k : Nat} {i : Int} (h0 : 0 ≤ i) (h : i < k) : imgOf (frImgs f k) i = frImg f i.toNat:=by
 unfold imgOf; rw [if_neg (by omega),frImgs_at f (by omega)]
def frSl (f : Frm) : Nat → List Img
 | 0=>List.replicate f.S.toNat Img.none
 | k + 1=>(frSl f k).set (f.pas k).To.toNat (frImg f k)
def frShown (f : Frm) : Img:=imgOf (frImgs f f.P.length) (frLast f)
def frAns (f : Frm) : Img:=if frErr f = 0 then frShown f else Img.none
theorem litImg_fine {a : Img} {ls : List Lamp} (hF : a.Fine) (hz : lampsErr ls = 0) : (litImg a ls).Fine:=by
 refine drawn_fine hF.1 hF.2.1 fun x y h1 h2 h3 h4=>?_;have h:=hF.at_bd h1 h2 h3 h4;have h5:=lightAt_bd (lampsErr_zero hz).2 x y;unfold litPix;omega
theorem makeImg_fine {op w h k : Int} (hE : makeErr op w h k = 0) : (makeImg op w h k).Fine ∧ (1 ≤ w ∧ w ≤ 16) ∧ (1 ≤ h ∧ h ≤ 16):=by
 unfold makeErr at hE;by_cases h1 : op ≠ 1 ∧ op ≠ 2
 ·rw [if_pos h1] at hE; omega
 ·rw [if_neg h1] at hE
  by_cases h2 : ¬ (1 ≤ w ∧ w ≤ 16) ∨ ¬ (1 ≤ h ∧ h ≤ 16) ∨ ¬ (0 ≤ k ∧ k ≤ 65535)
  ·rw [if_pos h2] at hE; omega
  ·have hw : 1 ≤ w ∧ w ≤ 16:=by omega
   have hh : 1 ≤ h ∧ h ≤ 16:=by omega
   have hk : 0 ≤ k ∧ k ≤ 65535:=by omega
   refine ⟨drawn_fine hw hh fun x y h1 h2 h3 h4=>?_,hw,hh⟩;unfold makePix;split
   ·have:=Int.emod_nonneg (x * k + y) (show (65536 : Int) ≠ 0 by omega)
    have:=Int.emod_lt_of_pos (x * k + y) (show (0 : Int) < 65536 by omega);omega
   ·exact hk
structure MadeOk (W H : Int) (p : Pas) (a b : Img) : Prop where
 make : hasA p.Op = false → makeErr p.Op W H p.K = 0
 one : hasA p.Op = true → hasB p.Op = false → p.Op ≠ 13 → a.Fine ∧ oneErr p.Op a p.K = 0
 two : hasB p.Op = true → a.Fine ∧ b.Fine ∧ a.W = b.W ∧ a.H = b.H
 lit : p.Op = 13 → a.Fine ∧ lampsErr p.L = 0 ∧ (1 ≤ p.K ∧ p.K ≤ 16)
 kind : 1 ≤ p.Op ∧ p.Op ≤ 13
theorem op_cases' {op : Int} (h : 1 ≤ op ∧ op ≤ 13) : op = 1 ∨ op = 2 ∨ op = 3 ∨ op = 4 ∨ op = 5 ∨ op = 6 ∨ op = 7 ∨ op = 8 ∨ op = 9 ∨ op = 10 ∨ op = 11 ∨ op = 12 ∨ op = 13:=by omega
theorem has_facts {op : Int} (h : 1 ≤ op ∧ op ≤ 13) : (hasA op = false ↔ op = 1 ∨ op = 2) ∧ (hasB op = true ↔ 4 ≤ op ∧ op ≤ 7) ∧ (hasL op = true ↔ op = 13):=by
 rcases op_cases' h with rfl | rfl | rfl | rfl | rfl | rfl | rfl | rfl | rfl | rfl | rfl | rfl | rfl <;> decide
def Sized (a : Img) (s : Sz) : Prop:=a.Fine ∧ a.W = s.W ∧ a.H = s.H
theorem madeOk_of {f : Frm} (hB : f.Bounds) {p : Pas} {st : List Sz} {a b : Img} (ho : PassOk f.S p st) (ha : hasA p.Op = true → Sized a (szAt st p.A)) (hb : hasB p.Op = true → Sized b (szAt st p.B)) : MadeOk f.W f.H p a b:=by
 have hk:=ho.k;obtain ⟨f1,f2,f3⟩:=has_facts ho.kind;refine ⟨fun h=>?_,fun h1 h2 h3=>?_,fun h=>?_,fun h=>?_,ho.kind⟩
 ·have hop:=f1.1 h
  unfold kFineB at hk;rw [if_pos (by omega)] at hk;have hk:=inR_iff.1 hk;have hW:=hB.1;have hH:=hB.2.1;unfold makeErr;rw [if_neg (by omega),if_neg (by omega)]
 ·have hs:=ha h1
  refine ⟨hs.1,?_⟩;have hd:=ho.down;have hu:=ho.up;rw [← hs.2.1,← hs.2.2] at hd hu
  have hop : p.Op = 3 ∨ p.Op = 8 ∨ p.Op = 9 ∨ p.Op = 10 ∨ p.Op = 11 ∨ p.Op = 12:=by
   have h4 : ¬ (p.Op = 1 ∨ p.Op = 2):=fun e=>by rw [f1.2 e] at h1; cases h1
   have h5 : ¬ (4 ≤ p.Op ∧ p.Op ≤ 7):=fun e=>by rw [f2.2 e] at h2; cases h2
   have:=ho.kind;omega
  unfold kFineB at hk;unfold oneErr;rcases hop with e | e | e | e | e | e
  ·rw [if_pos (.inl e)]
  ·rw [if_pos (by omega)] at hk
   have:=inR_iff.1 hk;rw [if_neg (by omega),if_pos e,if_pos this]
  ·rw [if_neg (by omega),if_pos e] at hk
   have:=inR_iff.1 hk;rw [if_neg (by omega),if_neg (by omega),if_pos e,if_pos this]
  ·rw [if_pos (.inr e)]
  ·have:=hd e
   rw [if_neg (by omega),if_neg (by omega),if_neg (by omega),if_pos e,if_neg (by omega)]
  ·have:=hu e
   rw [if_neg (by omega),if_neg (by omega),if_neg (by omega),if_neg (by omega),if_pos e,if_neg (by omega)]
 ·have hA : hasA p.Op = true:=by
   cases e : hasA p.Op with
   | true=>rfl
   | false=>have:=f1.1 e; have:=f2.1 h; omega
  have h1:=ha hA;have h2:=hb h;have hs:=ho.same h;exact ⟨h1.1,h2.1,by rw [h1.2.1,h2.2.1,hs],by rw [h1.2.2,h2.2.2,hs]⟩
 ·have hA : hasA p.Op = true:=by rw [h]; rfl
  refine ⟨(ha hA).1,ho.lamps (f3.2 h),?_⟩;unfold kFineB at hk;rw [if_neg (by omega),if_neg (by omega),if_pos h] at hk;exact inR_iff.1 hk
theorem MadeOk.fine {f : Frm} {p : Pas} {st : List Sz} {a b : Img} (h : MadeOk f.W f.H p a b) (ha : hasA p.Op = true → Sized a (szAt st p.A)) : Sized (passImg f.W f.H p a b) (passSize f.W f.H p st):=by
 obtain ⟨f1,f2,f3⟩:=has_facts h.kind;unfold passImg passSize;by_cases h1 : hasA p.Op = false
 ·rw [if_pos h1,if_neg (by rw [h1]; simp)]
  have:=makeImg_fine (h.make h1);exact ⟨this.1,rfl,rfl⟩
 ·have h1' : hasA p.Op = true:=by simpa using h1
  have hs:=ha h1';have hop : ¬ (p.Op = 1 ∨ p.Op = 2):=fun e=>h1 (f1.2 e);rw [if_neg h1,if_pos h1'];by_cases h2 : hasB p.Op = true
  ·have h4:=f2.1 h2
   rw [if_pos h2];obtain ⟨b1,b2,b3,b4⟩:=h.two h2
   have he : twoErr p.Op a b = 0:=by
    unfold twoErr;rw [if_neg (by simp only [not_or,Decidable.not_not]; exact ⟨b1,b2⟩),if_neg (by omega),if_neg (by omega)]
   have hf:=twoAns_fine he;rw [(two_both he).2.2.2.2.2.2] at hf;refine ⟨hf,?_,?_⟩
   ·simp only [twoImg,sizeW]; rw [if_neg (by omega),if_neg (by omega)]; exact hs.2.1
   ·simp only [twoImg,sizeW]; rw [if_neg (by omega),if_neg (by omega)]; exact hs.2.2
  ·rw [if_neg h2]
   have h2' : hasB p.Op = false:=by simpa using h2
   by_cases h3 : p.Op = 13
   ·rw [if_pos h3]
    obtain ⟨l1,l2,_⟩:=h.lit h3;refine ⟨litImg_fine l1 l2,?_,?_⟩
    ·simp only [litImg,drawn,sizeW]; rw [if_neg (by omega),if_neg (by omega)]; exact hs.2.1
    ·simp only [litImg,drawn,sizeW]; rw [if_neg (by omega),if_neg (by omega)]; exact hs.2.2
   ·rw [if_neg h3]
    obtain ⟨o1,o2⟩:=h.one h1' h2' h3;have he : oneErrAll p.Op a p.K = 0:=by unfold oneErrAll; rw [if_pos o1]; exact o2
    have hf:=oneAns_fine he;rw [(one_both he).2.2] at hf;refine ⟨hf,?_,?_⟩
    ·simp only [oneImg,drawn]; rw [hs.2.1]
    ·simp only [oneImg,drawn]; rw [hs.2.2]
theorem frImg_fine {f : Frm} (h : FrmOk f) : ∀ k,k < f.P.length → Sized (frImg f k) (frSize f k):=by
 intro k
 induction k using Nat.strongRecOn with
 | ind k ih =>
   intro hk;have ho:=h.pass hk
   have hsrc : ∀ s : Int,slotIn f.S s = true → (szAt (frSt f k) s).W ≠ 0 → Sized (imgOf (frImgs f k) (writerTo f k s)) (szAt (frSt f k) s):=by
    intro s hs hw;have h1:=wr_ok h.bounds (h.err (Nat.le_of_lt hk)) hs hw;rw [imgOf_at f h1.1 h1.2,writer_size (h.err (Nat.le_of_lt hk)) hs h1.1];exact ih _ (by omega) (by omega)
   have ha : hasA (f.pas k).Op = true → Sized (imgOf (frImgs f k) (writerTo f k (f.pas k).A)) (szAt (frSt f k) (f.pas k).A):=fun e=>hsrc _ (slot_iff.2 (ho.a e)) (ho.wa e);have hb : hasB (f.pas k).Op = true → Sized (imgOf (frImgs f k) (writerTo f k (f.pas k).B)) (szAt (frSt f k) (f.pas k).B):=fun e=>hsrc _ (slot_iff.2 (ho.b e)) (ho.wb e);exact (madeOk_of h.bounds ho ha hb).fine ha
end Go.Proofs.YtibpmogmeoappabGreat
