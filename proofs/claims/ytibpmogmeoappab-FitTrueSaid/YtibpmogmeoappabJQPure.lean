/- Plans that are made, as plain Lean: the first place that is free. -/
import Derived.Test.YtibpmogmeoappabJPlain
namespace Go.Proofs.Ytibpmogmeoappab
def freeB (b : List Spn) (size n : Int) : Bool:=b.all fun x=>!meetB x ⟨n,n + size - 1⟩
theorem freeB_iff {b : List Spn} {size n : Int} : freeB b size n = true ↔ ∀ x ∈ b,¬ (x.First ≤ n + size - 1 ∧ n ≤ x.Last):=by
 unfold freeB meetB;rw [List.all_eq_true]
 constructor
 ·intro h x hx e
  have:=h x hx;rw [Bool.not_eq_true',decide_eq_false_iff_not] at this;exact this e
 ·intro h x hx
  rw [Bool.not_eq_true',decide_eq_false_iff_not];exact h x hx
def seek (b : List Spn) (size : Int) : Nat → Int → Int
 | 0,n=>n
 | t + 1,n=>if freeB b size n = true then n else seek b size t (n + 1)
def topOf (b : List Spn) : Int:=b.foldr (fun x m=>max (x.Last + 1) m) 0
theorem topOf_ge {b : List Spn} : 0 ≤ topOf b ∧ ∀ x ∈ b,x.Last < topOf b:=by
 induction b with
 | nil=>exact ⟨Int.le_refl _,fun x hx=>by cases hx⟩
 | cons y b ih =>
   have e : topOf (y :: b) = max (y.Last + 1) (topOf b):=rfl;rw [e];refine ⟨by omega,fun x hx=>?_⟩;rcases List.mem_cons.1 hx with rfl | hx
   ·omega
   ·have:=ih.2 x hx; omega
theorem topOf_free {b : List Spn} {size n : Int} (h : topOf b ≤ n) : freeB b size n = true:=freeB_iff.2 fun x hx e=>by have:=topOf_ge.2 x hx; omega
def placeOf (b : List Spn) (size : Int) : Int:=seek b size (topOf b).toNat 0
structure IsPlace (b : List Spn) (size n : Int) : Prop where
 pos : 0 ≤ n
 free : freeB b size n = true
 least : ∀ m,0 ≤ m → m < n → freeB b size m = false
theorem IsPlace.eq {b : List Spn} {size n m : Int} (h : IsPlace b size n) (h' : IsPlace b size m) : n = m:=by
 by_cases e : n < m
 ·have:=h'.least n h.pos e; rw [h.free] at this; cases this
 ·by_cases e2 : m < n
  ·have:=h.least m h'.pos e2; rw [h'.free] at this; cases this
  ·omega
theorem seek_place {b : List Spn} {size : Int} : ∀ {t : Nat} {n : Int},0 ≤ n → topOf b ≤ n + t → (∀ m,0 ≤ m → m < n → freeB b size m = false) → IsPlace b size (seek b size t n):=by
 intro t
 induction t with
 | zero=>intro n h0 ht h; exact ⟨h0,topOf_free (show topOf b ≤ n by omega),h⟩
 | succ t ih =>
   intro n h0 ht h;simp only [seek];by_cases e : freeB b size n = true
   ·rw [if_pos e]; exact ⟨h0,e,h⟩
   ·rw [if_neg e]
    refine ih (by omega) (by omega) fun m hm hm'=>?_;by_cases e2 : m = n
    ·subst e2; simpa using e
    ·exact h m hm (by omega)
theorem placeOf_is (b : List Spn) (size : Int) : IsPlace b size (placeOf b size):=seek_place (Int.le_refl _) (by omega) fun m h1 h2=>by omega
theorem placeOf_le (b : List Spn) (size : Int) : placeOf b size ≤ topOf b:=by
 have h:=placeOf_is b size;by_cases e : placeOf b size ≤ topOf b
 ·exact e
 ·have:=h.least (topOf b) topOf_ge.1 (by omega)
  rw [topOf_free (Int.le_refl _)] at this;cases this
def gapFrom (size : Int) : List Spn → Int → Int
 | [],a=>a
 | x :: xs,a=>if a + size ≤ x.First then a else gapFrom size xs (max a (x.Last + 1))
def SortedS (l : List Spn) : Prop:=l.Pairwise fun x y=>x.First ≤ y.First
theorem gap_place {b : List Spn} {size : Int} : ∀ {l : List Spn} {a : Int},SortedS l → (∀ x ∈ b,x ∈ l ∨ x.Last < a) → (∀ x ∈ l,x ∈ b) → 0 ≤ a → (∀ m,0 ≤ m → m < a → freeB b size m = false) → IsPlace b size (gapFrom size l a):=by
 intro l
 induction l with
 | nil =>
   intro a _ hb _ h0 hl;refine ⟨h0,freeB_iff.2 fun x hx e=>?_,hl⟩;rcases hb x hx with h | h
   ·cases h
   ·simp only [gapFrom] at e; omega
 | cons y l ih =>
   intro a hS hb hm h0 hl;simp only [gapFrom];have hS':=List.pairwise_cons.1 hS;by_cases e : a + size ≤ y.First
   ·rw [if_pos e]
    refine ⟨h0,freeB_iff.2 fun x hx e2=>?_,hl⟩;rcases hb x hx with h | h
    ·rcases List.mem_cons.1 h with rfl | h
     ·omega
     ·have:=hS'.1 x h; omega
    ·omega
   ·rw [if_neg e]
    refine ih hS'.2 (fun x hx=>?_) (fun x hx=>hm x (by simp [hx])) (by omega) fun m h1 h2=>?_
    ·rcases hb x hx with h | h
     ·rcases List.mem_cons.1 h with rfl | h
      ·right; omega
      ·exact .inl h
     ·right; omega
    ·by_cases e2 : m < a
     ·exact hl m h1 e2
     ·rw [Bool.eq_false_iff]
      intro h;exact freeB_iff.1 h y (hm y (by simp)) (by omega)
theorem gap_eq {b l : List Spn} {size : Int} (hS : SortedS l) (hp : ∀ x,x ∈ l ↔ x ∈ b) : gapFrom size l 0 = placeOf b size :=
 (gap_place hS (fun x hx=>.inl ((hp x).2 hx)) (fun x hx=>(hp x).1 hx) (Int.le_refl _) (fun m h1 h2=>by omega)).eq (placeOf_is b size)
def badS (x : Spn) : Bool:=decide (x.First < 0 ∨ x.Last < x.First ∨ 4096 < x.Last)
def placeErr (b : List Spn) (size : Int) : Int:=if 12 < b.length then 2 else if ¬ (1 ≤ size ∧ size ≤ 4096) then 3 else if b.any badS = true then 3 else 0
def placeAns (b : List Spn) (size : Int) : Int:=if placeErr b size = 0 then placeOf b size else 0
def insertS (x : Spn) : List Spn → List Spn
 | []=>[x]
 | y :: ys=>if x.First < y.First then x :: y :: ys else y :: insertS x ys
end Go.Proofs.Ytibpmogmeoappab
namespace Go.Proofs.Ytibpmogmeoappab
def spAt (m : List Spn) (k : Nat) : Spn:=m.getD k ⟨0,0⟩
def fa (m : List Spn) (k : Nat) : Int:=(spAt m k).First
def Part (m : List Spn) (i : Nat) : Prop:=∀ a b,a < b → b < i → fa m a ≤ fa m b
structure Mid (m : List Spn) (i j : Nat) : Prop where
 le : j ≤ i
 rest : ∀ a b,a < b → b ≤ i → a ≠ j → b ≠ j → fa m a ≤ fa m b
 behind : ∀ b,j < b → b ≤ i → fa m j ≤ fa m b
def swapS (m : List Spn) (j : Nat) : List Spn:=(m.set j (spAt m (j - 1))).set (j - 1) (spAt m j)
theorem swapS_len (m : List Spn) (j : Nat) : (swapS m j).length = m.length:=by unfold swapS; simp
theorem spAt_set {m : List Spn} {k j : Nat} {x : Spn} (hk : k < m.length) : spAt (m.set j x) k = if j = k then x else spAt m k:=by
 unfold spAt;rw [List.getD_eq_getElem?_getD,List.getElem?_set];by_cases h : j = k
 ·rw [if_pos h,if_pos (by omega),if_pos h]; rfl
 ·rw [if_neg h,if_neg h,List.getD_eq_getElem?_getD]
theorem spAt_swap {m : List Spn} {j k : Nat} (_h0 : 0 < j) (_hj : j < m.length) (hk : k < m.length) : spAt (swapS m j) k = if k = j - 1 then spAt m j else if k = j then spAt m (j - 1) else spAt m k:=by
 unfold swapS;rw [spAt_set (by simpa using hk),spAt_set hk];by_cases h1 : k = j - 1
 ·rw [if_pos h1.symm,if_pos h1]
 ·rw [if_neg (fun e=>h1 e.symm),if_neg h1]
  by_cases h2 : k = j
  ·rw [if_pos h2.symm,if_pos h2]
  ·rw [if_neg (fun e=>h2 e.symm),if_neg h2]
theorem fa_swap {m : List Spn} {j k : Nat} (h0 : 0 < j) (hj : j < m.length) (hk : k < m.length) : fa (swapS m j) k = if k = j - 1 then fa m j else if k = j then fa m (j - 1) else fa m k:=by
 unfold fa;rw [spAt_swap h0 hj hk];split
 ·rfl
 ·split <;> rfl
theorem mid_start {m : List Spn} {i : Nat} (h : Part m i) : Mid m i i :=
 ⟨Nat.le_refl _,fun a b hab hb _ hbj=>h a b hab (by omega),fun b h1 h2=>by omega⟩
theorem mid_swap {m : List Spn} {i j : Nat} (h : Mid m i j) (hi : i < m.length) (h0 : 0 < j) (hlt : fa m j < fa m (j - 1)) : Mid (swapS m j) i (j - 1):=by
 have hj : j < m.length:=by have:=h.le; omega
 refine ⟨by have:=h.le; omega,fun a b hab hb ha hbj=>?_,fun b h1 h2=>?_⟩
 ·rw [fa_swap h0 hj (by omega),fa_swap h0 hj (by omega),if_neg ha,if_neg hbj]
  by_cases e1 : a = j
  ·rw [if_pos e1,if_neg (by omega)]
   exact h.rest _ _ (by omega) hb (by omega) (by omega)
  ·rw [if_neg e1]
   by_cases e2 : b = j
   ·rw [if_pos e2]
    exact h.rest _ _ (by omega) (by omega) (by omega) (by omega)
   ·rw [if_neg e2]
    exact h.rest _ _ hab hb e1 e2
 ·rw [fa_swap h0 hj (by omega),fa_swap h0 hj (by omega),if_pos rfl,if_neg (by omega)]
  by_cases e2 : b = j
  ·rw [if_pos e2]; omega
  ·rw [if_neg e2]
   exact h.behind b (by omega) h2
theorem mid_done {m : List Spn} {i j : Nat} (h : Mid m i j) (hd : j = 0 ∨ ¬ fa m j < fa m (j - 1)) : Part m (i + 1):=by
 intro a b hab hb;by_cases e1 : a = j
 ·subst e1; exact h.behind b hab (by omega)
 ·by_cases e2 : b = j
  ·subst e2
   rcases hd with hd | hd
   ·omega
   ·by_cases e3 : a = b - 1
    ·subst e3; omega
    ·have:=h.rest a (b - 1) (by omega) (by omega) (by omega) (by omega)
     omega
  ·exact h.rest a b hab (by omega) e1 e2
theorem spAt_mem {m : List Spn} {k : Nat} (h : k < m.length) : spAt m k ∈ m:=by
 unfold spAt;rw [List.getD_eq_getElem?_getD,List.getElem?_eq_getElem h];exact List.getElem_mem h
theorem mem_spAt {m : List Spn} {x : Spn} (h : x ∈ m) : ∃ k,k < m.length ∧ spAt m k = x:=by
 obtain ⟨k,hk,rfl⟩:=List.getElem_of_mem h;exact ⟨k,hk,by unfold spAt; rw [List.getD_eq_getElem?_getD,List.getElem?_eq_getElem hk]; rfl⟩
theorem mem_swap {m : List Spn} {j : Nat} {x : Spn} (h0 : 0 < j) (hj : j < m.length) : x ∈ swapS m j ↔ x ∈ m:=by
 constructor
 ·intro h
  obtain ⟨k,hk,rfl⟩:=mem_spAt h;rw [swapS_len] at hk;rw [spAt_swap h0 hj hk];split
  ·exact spAt_mem hj
  ·split
   ·exact spAt_mem (by omega)
   ·exact spAt_mem hk
 ·intro h
  obtain ⟨k,hk,rfl⟩:=mem_spAt h;by_cases e1 : k = j
  ·subst e1
   have h2:=spAt_swap (k:=k - 1) h0 hj (by omega);rw [if_pos rfl] at h2;rw [← h2];exact spAt_mem (by rw [swapS_len]; omega)
  ·by_cases e2 : k = j - 1
   ·have h2:=spAt_swap (k:=j) h0 hj hj
    rw [if_neg (by omega),if_pos rfl] at h2;rw [e2,← h2];exact spAt_mem (by rw [swapS_len]; omega)
   ·have h2:=spAt_swap (k:=k) h0 hj hk
    rw [if_neg e2,if_neg e1] at h2;rw [← h2];exact spAt_mem (by rw [swapS_len]; omega)
theorem part_all {m : List Spn} (h : Part m m.length) : SortedS m:=by
 unfold SortedS;rw [List.pairwise_iff_getElem];intro a b ha hb hab;have:=h a b hab hb;unfold fa spAt at this;rw [List.getD_eq_getElem?_getD,List.getD_eq_getElem?_getD,List.getElem?_eq_getElem ha,List.getElem?_eq_getElem hb] at this;exact this
def SortOf (l m : List Spn) : Prop:=m.length = l.length ∧ SortedS m ∧ ∀ x,x ∈ m ↔ x ∈ l
end Go.Proofs.Ytibpmogmeoappab
namespace Go.Proofs.Ytibpmogmeoappab
def keptAt (f : Frm) (k : Nat) : Bool:=(keptL f).getD k false
def compTo (f : Frm) (k : Nat) : List Int:=(List.range k).flatMap fun i=>if keptAt f i = true then [(i : Int)] else []
theorem compTo_succ (f : Frm) (k : Nat) : compTo f (k + 1) = compTo f k ++ if keptAt f k = true then [(k : Int)] else []:=by unfold compTo; rw [List.range_succ,List.flatMap_append]; simp
def compO (f : Frm) : List Int:=compTo f f.P.length
def co (f : Frm) (i : Nat) : Nat:=((compO f).getD i 0).toNat
def ordP (f : Frm) : Pln:=⟨compO f,[]⟩
def cspan (f : Frm) (k : Nat) : Spn:=spanOf f (ordP f) k
def liveAt (f : Frm) (i : Nat) : List Int:=((compO f).take i).filter fun x=>decide ((i : Int) ≤ (cspan f x.toNat).Last)
def busyAt (f : Frm) (L : List Int) (i : Nat) : List Spn:=(liveAt f i).map fun x=>⟨L.getD x.toNat 0,L.getD x.toNat 0 + areaOf f x.toNat - 1⟩
def placesTo (f : Frm) (st : List Int) : Nat → List Int
 | 0=>st
 | i + 1=>(placesTo f st i).set (co f i) (placeOf (busyAt f (placesTo f st i) i) (areaOf f (co f i)))
def comp (f : Frm) : Pln:=⟨compO f,placesTo f (List.replicate f.P.length (-1)) (compO f).length⟩
def compAns (f : Frm) : Pln:=if frErr f = 0 then comp f else ⟨[],[]⟩
section
variable {f : Frm}
theorem mem_compTo {k : Nat} {x : Int} : x ∈ compTo f k ↔ ∃ i : Nat,i < k ∧ x = i ∧ keptAt f i = true:=by
 unfold compTo;simp only [List.mem_flatMap,List.mem_range]
 constructor
 ·rintro ⟨i,hi,h⟩
  by_cases e : keptAt f i = true
  ·rw [if_pos e] at h; exact ⟨i,hi,by simpa using h,e⟩
  ·rw [if_neg e] at h; cases h
 ·rintro ⟨i,hi,rfl,e⟩
  exact ⟨i,hi,by rw [if_pos e]; simp⟩
theorem compTo_sorted (k : Nat) : (compTo f k).Pairwise (· < ·):=by
 induction k with
 | zero=>simp [compTo]
 | succ k ih =>
   rw [compTo_succ,List.pairwise_append];refine ⟨ih,by split <;> simp,fun a ha b hb=>?_⟩;obtain ⟨i,hi,rfl,-⟩:=mem_compTo.1 ha;split at hb
   ·simp only [List.mem_singleton] at hb; omega
   ·cases hb
theorem co_at {i : Nat} (h : i < (compO f).length) : (compO f)[i]? = some ((co f i : Nat) : Int) ∧ co f i < f.P.length ∧ keptAt f (co f i) = true:=by
 have h1 : (compO f)[i]? = some (compO f)[i]:=List.getElem?_eq_getElem h;obtain ⟨k,hk,e,hm⟩:=mem_compTo.1 (List.getElem_mem h);have e2 : co f i = k:=by unfold co; rw [List.getD_eq_getElem?_getD,h1,Option.getD_some,e]; omega
 rw [e2];exact ⟨by rw [h1,e],hk,hm⟩
theorem co_lt {i j : Nat} (h : i < j) (hj : j < (compO f).length) : co f i < co f j:=by
 have hs:=List.pairwise_iff_getElem.1 (compTo_sorted (f:=f) f.P.length) i j (Nat.lt_trans h hj) hj h;have h1:=(co_at (f:=f) (i:=i) (by omega)).1;have h2:=(co_at (f:=f) hj).1;rw [List.getElem?_eq_getElem (by omega)] at h1;rw [List.getElem?_eq_getElem hj] at h2;injection h1 with h1;injection h2 with h2;have h3 : (compO f)[i]'(by omega) < (compO f)[j]:=hs;omega
theorem co_of {k : Nat} (h : keptAt f k = true) (hk : k < f.P.length) : ∃ i,i < (compO f).length ∧ co f i = k:=by
 obtain ⟨i,hi,e⟩:=List.getElem_of_mem (mem_compTo.2 ⟨k,hk,rfl,h⟩ : ((k : Nat) : Int) ∈ compO f);refine ⟨i,hi,?_⟩;have hi' : i < (compO f).length:=hi;have h1:=(co_at hi').1;rw [List.getElem?_eq_getElem hi',show (compO f)[i]'hi' = ((k : Nat) : Int) from e] at h1;injection h1 with h1;omega
theorem lastUse_congr {p q : Pln} (h : p.Order = q.Order) (k : Int) : ∀ m,lastUse f p k m = lastUse f q k m:=by
 intro m
 induction m with
 | zero=>simp only [lastUse,h]
 | succ m ih =>
   have e : p.ord m = q.ord m:=by unfold Pln.ord; rw [h]
   simp only [lastUse,ih];rw [e]
theorem spanOf_congr {p q : Pln} (h : p.Order = q.Order) (k : Nat) : spanOf f p k = spanOf f q k:=by
 unfold spanOf;rw [lastUse_congr h,h]
theorem ord_co {p : Pln} (h : p.Order = compO f) {i : Nat} (hi : i < (compO f).length) : p.ord i = (co f i : Nat):=by
 unfold Pln.ord;rw [h,List.getD_eq_getElem?_getD,(co_at hi).1]; rfl
theorem comp_ord (hf : FrmOk f) {p : Pln} (h : p.Order = compO f) : OrdTo f p p.Order.length:=by
 refine ⟨Nat.le_refl _,fun m hm=>?_,fun m m' h1 h2=>?_,fun m hm j hj=>?_⟩
 ·rw [h] at hm
  rw [ord_co h hm];have:=(co_at hm).2.1;omega
 ·rw [h] at h2
  rw [ord_co h (by omega),ord_co h h2];have:=co_lt h1 h2;omega
 ·rw [h] at hm
  rw [ord_co h hm,Int.toNat_natCast] at hj;have hc:=co_at hm;have hs:=hf.src hc.2.1 hj;have hk:=(keptL_marks hf).closed _ hc.2.2 j hj;obtain ⟨i,hi,e⟩:=co_of (f:=f) (k:=j.toNat) hk (by omega);refine ⟨i,?_,by rw [ord_co h hi,e]; omega⟩;by_cases e2 : i < m
  ·exact e2
  ·by_cases e3 : i = m
   ·subst e3; omega
   ·have:=co_lt (f:=f) (show m < i by omega) hi
    omega
theorem comp_step {k : Nat} (hk : k < f.P.length) : 0 ≤ stepOf (compO f) k ↔ keptAt f k = true:=by
 rw [stepOf_mem]
 constructor
 ·intro h
  obtain ⟨i,-,e,hm⟩:=mem_compTo.1 h;rw [show k = i by omega]; exact hm
 ·intro h; exact mem_compTo.2 ⟨k,hk,rfl,h⟩
theorem step_co (hf : FrmOk f) {i : Nat} (hi : i < (compO f).length) : stepOf (compO f) (co f i : Nat) = i:=by
 have:=(comp_ord hf (p:=ordP f) rfl).step (m:=i) hi;rw [ord_co rfl hi] at this;exact this
theorem comp_inOrder (hf : FrmOk f) {L : List Int} (hl : L.length = f.P.length) (h1 : ∀ k,k < f.P.length → keptAt f k = true → 0 ≤ L.getD k 0 ∧ L.getD k 0 ≤ 4096) (h2 : ∀ k,k < f.P.length → keptAt f k = false → L.getD k 0 = -1) : InOrder f ⟨compO f,L⟩:=by
 refine inOrder_of (comp_ord hf rfl) hl fun k hk=>⟨fun h=>(comp_step hk).2 h,fun h=>h1 k hk ((comp_step hk).1 h),fun h=>h2 k hk ?_⟩
 cases e : keptAt f k with
 | true=>exact absurd ((comp_step hk).2 e) h
 | false=>rfl
def areas (f : Frm) : Nat → Int
 | 0=>0
 | i + 1=>areas f i + areaOf f (co f i)
theorem mem_live {i : Nat} {x : Int} : x ∈ liveAt f i ↔ ∃ j,j < i ∧ j < (compO f).length ∧ x = (co f j : Nat) ∧ (i : Int) ≤ (cspan f (co f j)).Last:=by
 unfold liveAt;rw [List.mem_filter,List.mem_iff_getElem?]
 constructor
 ·rintro ⟨⟨j,hj⟩,h⟩
  have h:=of_decide_eq_true h;rw [List.getElem?_take] at hj;by_cases e : j < i
  ·rw [if_pos e] at hj
   have hl : j < (compO f).length:=by
    by_cases e2 : j < (compO f).length
    ·exact e2
    ·rw [List.getElem?_eq_none (by omega)] at hj; cases hj
   rw [(co_at hl).1] at hj;injection hj with hj;subst hj;rw [Int.toNat_natCast] at h;exact ⟨j,e,hl,rfl,h⟩
  ·rw [if_neg e] at hj; cases hj
 ·rintro ⟨j,h1,h2,rfl,h3⟩
  refine ⟨⟨j,by rw [List.getElem?_take,if_pos h1]; exact (co_at h2).1⟩,decide_eq_true ?_⟩;rw [Int.toNat_natCast]; exact h3
theorem busy_congr {L L' : List Int} {i : Nat} (h : ∀ j,j < i → j < (compO f).length → L.getD (co f j) 0 = L'.getD (co f j) 0) : busyAt f L i = busyAt f L' i:=by
 unfold busyAt;refine List.map_congr_left fun x hx=>?_;obtain ⟨j,h1,h2,rfl,-⟩:=mem_live.1 hx;rw [Int.toNat_natCast,h j h1 h2]
theorem placesTo_len (st : List Int) (i : Nat) : (placesTo f st i).length = st.length:=by
 induction i with
 | zero=>rfl
 | succ i ih=>simp only [placesTo,List.length_set,ih]
theorem placesTo_same {st st' : List Int} (h : st.length = f.P.length) (h' : st'.length = f.P.length) {i : Nat} (hi : i ≤ (compO f).length) : ∀ j,j < i → (placesTo f st i).getD (co f j) 0 = (placesTo f st' i).getD (co f j) 0:=by
 induction i with
 | zero=>intro j hj; omega
 | succ i ih =>
   intro j hj;have ih:=ih (by omega);have hc:=(co_at (f:=f) (i:=i) (by omega)).2.1;simp only [placesTo];rw [getD_set (by rw [placesTo_len]; omega),getD_set (by rw [placesTo_len]; omega),busy_congr (fun a ha _=>ih a ha)];by_cases e : j < i
   ·have:=co_lt (f:=f) e (by omega)
    rw [if_neg (by omega),if_neg (by omega)];exact ih j e
   ·rw [show j = i by omega,if_pos rfl,if_pos rfl]
theorem placesTo_rest {st : List Int} (h : st.length = f.P.length) {i : Nat} (hi : i ≤ (compO f).length) {k : Nat} (hk : ∀ j,j < i → co f j ≠ k) : (placesTo f st i).getD k 0 = st.getD k 0:=by
 induction i with
 | zero=>rfl
 | succ i ih =>
   have hc:=(co_at (f:=f) (i:=i) (by omega)).2.1;simp only [placesTo];rw [getD_set (by rw [placesTo_len]; omega),if_neg (fun e=>hk i (by omega) e.symm)];exact ih (by omega) (fun j hj=>hk j (by omega))
theorem placesTo_keep {st : List Int} (h : st.length = f.P.length) {i j : Nat} (hj : j < i) (hi : i ≤ (compO f).length) : (placesTo f st i).getD (co f j) 0 = placeOf (busyAt f (placesTo f st j) j) (areaOf f (co f j)):=by
 induction i with
 | zero=>omega
 | succ i ih =>
   have hc:=(co_at (f:=f) (i:=i) (by omega)).2.1;simp only [placesTo];rw [getD_set (by rw [placesTo_len]; omega)];by_cases e : j < i
   ·have:=co_lt (f:=f) e (by omega)
    rw [if_neg (by omega)];exact ih e (by omega)
   ·rw [show j = i by omega,if_pos rfl]
theorem comp_eq {st : List Int} (h : st.length = f.P.length) (hs : ∀ k,k < f.P.length → keptAt f k = false → st.getD k 0 = -1) : placesTo f st (compO f).length = (comp f).Places:=by
 unfold comp;simp only
 apply List.ext_getElem
 ·rw [placesTo_len,placesTo_len,h]; simp
 ·intro k h1 h2
  rw [placesTo_len] at h1;have e1 : ∀ (l : List Int) (hl : k < l.length),l[k] = l.getD k 0:=fun l hl=>by rw [List.getD_eq_getElem?_getD,List.getElem?_eq_getElem hl]; rfl
  rw [e1,e1];by_cases hk : keptAt f k = true
  ·obtain ⟨j,hj,rfl⟩:=co_of hk (by omega)
   exact placesTo_same h (by simp) (Nat.le_refl _) j hj
  ·have hn : ∀ j,j < (compO f).length → co f j ≠ k:=fun j hj e=>hk (by rw [← e]; exact (co_at hj).2.2)
   rw [placesTo_rest h (Nat.le_refl _) hn,placesTo_rest (by simp) (Nat.le_refl _) hn,hs k (by omega) (by simpa using hk),List.getD_eq_getElem?_getD,List.getElem?_replicate,if_pos (by omega)];rfl
theorem areas_mono (hf : FrmOk f) {i j : Nat} (h : i ≤ j) (hj : j ≤ (compO f).length) : areas f i ≤ areas f j:=by
 induction j with
 | zero=>rw [show i = 0 by omega]; exact Int.le_refl _
 | succ j ih =>
   by_cases e : i = j + 1
   ·rw [e]; exact Int.le_refl _
   ·have:=ih (by omega) (by omega)
    have ha:=area_bd hf (co_at (f:=f) (i:=j) (by omega)).2.1;simp only [areas]; omega
theorem laid_bd (hf : FrmOk f) {st : List Int} (h : st.length = f.P.length) {i : Nat} (hi : i ≤ (compO f).length) : ∀ j,j < i → 0 ≤ (placesTo f st i).getD (co f j) 0 ∧ (placesTo f st i).getD (co f j) 0 + areaOf f (co f j) ≤ areas f (j + 1):=by
 induction i with
 | zero=>intro j hj; omega
 | succ i ih =>
   intro j hj;have ih:=ih (by omega);by_cases e : j < i
   ·rw [placesTo_keep h hj hi,← placesTo_keep h e (by omega)]
    exact ih j e
   ·obtain rfl : j = i:=by omega
    rw [placesTo_keep h hj hi];have hp:=placeOf_is (busyAt f (placesTo f st j) j) (areaOf f (co f j));have hl:=placeOf_le (busyAt f (placesTo f st j) j) (areaOf f (co f j));have h0 : 0 ≤ areas f j:=by have:=areas_mono hf (Nat.zero_le j) (by omega : j ≤ (compO f).length); simpa [areas] using this
    have ht : topOf (busyAt f (placesTo f st j) j) ≤ areas f j:=by
     have hall : ∀ x ∈ busyAt f (placesTo f st j) j,x.Last + 1 ≤ areas f j:=by
      intro x hx;unfold busyAt at hx;obtain ⟨y,hy,rfl⟩:=List.mem_map.1 hx;obtain ⟨m,m1,m2,rfl,-⟩:=mem_live.1 hy;have:=ih m m1;have hm:=areas_mono hf (show m + 1 ≤ j by omega) (by omega);simp only [Int.toNat_natCast];omega
     revert hall
     generalize busyAt f (placesTo f st j) j = b;intro hall
     induction b with
     | nil=>exact h0
     | cons y b ihb =>
       have e : topOf (y :: b) = max (y.Last + 1) (topOf b):=rfl;rw [e];have h1:=hall y (by simp);have h2:=ihb (fun x hx=>hall x (by simp [hx]));omega
    refine ⟨hp.pos,?_⟩;simp only [areas];omega
theorem laid_apart (hf : FrmOk f) {st : List Int} (h : st.length = f.P.length) {i j : Nat} (hij : j < i) (hi : i < (compO f).length) (hl : (i : Int) ≤ (cspan f (co f j)).Last) :
 let L:=placesTo f st (compO f).length
 ¬ (L.getD (co f j) 0 < L.getD (co f i) 0 + areaOf f (co f i) ∧ L.getD (co f i) 0 < L.getD (co f j) 0 + areaOf f (co f j)):=by
 intro L hc;have ha:=area_bd hf (co_at hi).2.1;have e1 : L.getD (co f i) 0 = placeOf (busyAt f (placesTo f st i) i) (areaOf f (co f i)):=placesTo_keep h hi (Nat.le_refl _);have e2 : L.getD (co f j) 0 = (placesTo f st i).getD (co f j) 0:=by rw [placesTo_keep h hij (by omega)]; exact placesTo_keep h (by omega) (Nat.le_refl _)
 have hp:=placeOf_is (busyAt f (placesTo f st i) i) (areaOf f (co f i));rw [← e1] at hp
 have hm : (⟨(placesTo f st i).getD (co f j) 0,(placesTo f st i).getD (co f j) 0 + areaOf f (co f j) - 1⟩ : Spn) ∈ busyAt f (placesTo f st i) i:=by
  unfold busyAt;exact List.mem_map.2 ⟨(co f j : Nat),mem_live.2 ⟨j,hij,by omega,rfl,hl⟩,by simp only [Int.toNat_natCast]⟩
 have:=freeB_iff.1 hp.free _ hm;simp only at this;rw [← e2] at this;omega
theorem areas_le (hf : FrmOk f) : areas f (compO f).length ≤ 4096:=by
 have hn : (compO f).length ≤ 12:=by
  have h1:=(inOrder_of (f:=f) (p:=⟨compO f,(List.range f.P.length).map fun k=>if keptAt f k = true then 0 else -1⟩) (comp_ord hf rfl) (by simp) (fun k hk=>?_)).len
  ·have:=hf.many.2; simp only at h1; omega
  ·have hg : (⟨compO f,(List.range f.P.length).map fun k=>if keptAt f k = true then 0 else -1⟩ : Pln).pl k = if keptAt f k = true then 0 else -1:=by
    unfold Pln.pl;simp only;rw [List.getD_eq_getElem?_getD,List.getElem?_map,List.getElem?_range hk]; rfl
   refine ⟨fun h=>(comp_step hk).2 h,fun h=>?_,fun h=>?_⟩
   ·rw [hg,if_pos ((comp_step hk).1 h)]; omega
   ·rw [hg,if_neg (fun e=>h ((comp_step hk).2 e))]
 have : ∀ i,i ≤ (compO f).length → areas f i ≤ 256 * i:=by
  intro i
  induction i with
  | zero=>intro _; simp [areas]
  | succ i ih =>
    intro hi;have:=ih (by omega);have ha:=area_bd hf (co_at (f:=f) (i:=i) (by omega)).2.1;simp only [areas]; omega
 have:=this _ (Nat.le_refl _);omega
theorem comp_in (hf : FrmOk f) : InOrder f (comp f):=by
 refine comp_inOrder hf (by rw [placesTo_len]; simp) (fun k hk h=>?_) (fun k hk h=>?_)
 ·obtain ⟨j,hj,rfl⟩:=co_of h hk
  have h1:=laid_bd hf (st:=List.replicate f.P.length (-1)) (by simp) (Nat.le_refl _) j hj;have h2:=areas_mono hf (show j + 1 ≤ (compO f).length by omega) (Nat.le_refl _);have h3:=areas_le hf;have h4:=area_bd hf hk;omega
 ·have hn : ∀ j,j < (compO f).length → co f j ≠ k:=fun j hj e=>by rw [← e,(co_at hj).2.2] at h; cases h
  rw [placesTo_rest (by simp) (Nat.le_refl _) hn,List.getD_eq_getElem?_getD,List.getElem?_replicate,if_pos hk];rfl
def startP (f : Frm) : List Int:=(List.range f.P.length).map fun k=>if keptAt f k = true then 0 else -1
theorem startP_at {k : Nat} (hk : k < f.P.length) : (startP f).getD k 0 = if keptAt f k = true then 0 else -1:=by
 unfold startP;rw [List.getD_eq_getElem?_getD,List.getElem?_map,List.getElem?_range hk]; rfl
theorem start_in (hf : FrmOk f) : InOrder f ⟨compO f,startP f⟩ :=
 comp_inOrder hf (by simp [startP]) (fun k hk h=>by rw [startP_at hk,if_pos h]; omega) (fun k hk h=>by rw [startP_at hk,if_neg (by rw [h]; simp)])
theorem start_eq : placesTo f (startP f) (compO f).length = (comp f).Places:=comp_eq (by simp [startP]) (fun k hk h=>by rw [startP_at hk,if_neg (by rw [h]; simp)])
end
end Go.Proofs.Ytibpmogmeoappab
namespace Go.Proofs.Ytibpmogmeoappab
theorem stepOf_under {l : List Int} {k : Int} (h : k ∈ l) : ∃ i : Nat,stepOf l k = i ∧ i < l.length ∧ l[i]? = some k:=by
 rcases stepOf_cases l k with ⟨_,h1⟩ | ⟨i,h1,h2,_⟩
 ·exact absurd h h1
 ·refine ⟨i,h1,?_,h2⟩
  by_cases e : i < l.length
  ·exact e
  ·rw [List.getElem?_eq_none (by omega)] at h2; cases h2
theorem mul_step {a b A : Int} (hA : 0 ≤ A) (h : a < b) : a * A + A ≤ b * A:=by
 have:=Int.mul_le_mul_of_nonneg_right (show a + 1 ≤ b by omega) hA;rw [Int.add_mul,Int.one_mul] at this;exact this
theorem mul_inv {a b A : Int} (hA : 1 ≤ A) (h : a * A < b * A + A) : a ≤ b:=by
 by_cases e : a ≤ b
 ·exact e
 ·have:=mul_step (A:=A) (by omega) (show b < a by omega); omega
theorem placeOf_multi {b : List Spn} {A : Int} (hA : 1 ≤ A) (hb : ∀ x ∈ b,∃ q : Nat,x.First = q * A ∧ x.Last = q * A + A - 1) : ∃ q : Nat,placeOf b A = q * A ∧ q ≤ b.length:=by
 have h1 : ∃ q : Nat,q ≤ b.length ∧ ∀ x ∈ b,x.First ≠ q * A:=by
  by_cases e : ∃ q : Nat,q ≤ b.length ∧ ∀ x ∈ b,x.First ≠ q * A
  ·exact e
  ·exfalso
   have hall : ∀ q : Nat,q ≤ b.length → (q : Int) * A ∈ b.map Spn.First:=by
    intro q hq;by_cases e2 : (q : Int) * A ∈ b.map Spn.First
    ·exact e2
    ·exact absurd ⟨q,hq,fun x hx h=>e2 (List.mem_map.2 ⟨x,hx,h⟩)⟩ e
   have:=pigeon b.length (fun q=>stepOf (b.map Spn.First) ((q : Int) * A)) (b.length + 1) (fun q hq=>?_) (fun q q' h2 h3 h4=>?_)
   ·omega
   ·obtain ⟨i,e1,e2,-⟩:=stepOf_under (hall q (by omega))
    rw [List.length_map] at e2;simp only [e1]; omega
   ·obtain ⟨i,e1,-,e3⟩:=stepOf_under (hall q (by omega))
    obtain ⟨i',e1',-,e3'⟩:=stepOf_under (hall q' (by omega));simp only [e1,e1'] at h4;have : i = i':=by omega
    subst this;rw [e3] at e3';injection e3' with e3';have:=mul_step (A:=A) (by omega) (show (q : Int) < q' by omega);omega
 obtain ⟨q,hq,hn⟩:=h1
 have hfree : freeB b A (q * A) = true:=by
  refine freeB_iff.2 fun x hx h=>?_;obtain ⟨q',e1,e2⟩:=hb x hx;have hne : (q' : Int) ≠ q:=fun e=>hn x hx (by rw [e1,e]);have a1 : (q' : Int) ≤ q:=mul_inv hA (by omega);have a2 : (q : Int) ≤ q':=mul_inv hA (by omega);omega
 have hp:=placeOf_is b A
 have hle : placeOf b A ≤ q * A:=by
  by_cases e : placeOf b A ≤ q * A
  ·exact e
  ·have:=hp.least (q * A) (Int.mul_nonneg (by omega) (by omega)) (by omega)
   rw [hfree] at this; cases this
 obtain ⟨n,hnn⟩ : ∃ n,placeOf b A = n:=⟨_,rfl⟩;rw [hnn] at hp hle;have hpos:=hp.pos;have hd0 : 0 ≤ n / A:=Int.ediv_nonneg hpos (by omega);have hm0 : 0 ≤ n % A:=Int.emod_nonneg n (by omega);have hm1 : n % A < A:=Int.emod_lt_of_pos n (by omega);have hdm : n / A * A + n % A = n:=by have:=Int.mul_ediv_add_emod n A; rw [Int.mul_comm] at this; exact this
 obtain ⟨r,hr⟩ : ∃ r,n / A = r:=⟨_,rfl⟩;rw [hr] at hd0 hdm
 have hz : r * A = n:=by
  by_cases e : r * A = n
  ·exact e
  ·exfalso
   have hf:=hp.least (r * A) (Int.mul_nonneg hd0 (by omega)) (by omega);rw [Bool.eq_false_iff] at hf;refine hf (freeB_iff.2 fun x hx h=>?_)
   obtain ⟨q',e1,e2⟩:=hb x hx;have a1 : (q' : Int) ≤ r:=mul_inv hA (by omega);have a2 : r ≤ (q' : Int):=mul_inv hA (by omega);have a3 : (q' : Int) = r:=by omega
   refine freeB_iff.1 hp.free x hx ?_;rw [e1,e2,a3];omega
 refine ⟨r.toNat,by rw [hnn,Int.toNat_of_nonneg hd0]; exact hz.symm,?_⟩;have : r ≤ (q : Int):=mul_inv hA (by omega);omega
section
variable {f : Frm}
theorem comp_ordAt {i : Nat} (hi : i < (compO f).length) : ((comp f).ord i).toNat = co f i:=by rw [ord_co rfl hi]; omega
theorem cspan_first (hf : FrmOk f) {i : Nat} (hi : i < (compO f).length) : (cspan f (co f i)).First = i:=step_co hf hi
theorem comp_span {k : Nat} : spanOf f (comp f) k = cspan f k:=spanOf_congr (p:=comp f) (q:=ordP f) rfl k
theorem comp_fits (hf : FrmOk f) : Fits f (comp f) (peakOf f (comp f)):=by
 have hin:=comp_in hf;rw [← fits_ord hin];intro i hi;have hi : i < (compO f).length:=hi;refine ⟨?_,fun j hj hc=>?_⟩
 ·have:=(peakOrd_le (f:=f) (p:=comp f) (m:=(comp f).Order.length) (M:=peakOf f (comp f))).1 (by rw [peak_ord hin]; exact Int.le_refl _)
  exact this.2 i hi
 ·rw [comp_ordAt hi,comp_ordAt (by omega)] at hc
  unfold Clash meetB at hc;rw [comp_span,comp_span,decide_eq_true_iff,cspan_first hf hi] at hc;exact laid_apart hf (st:=List.replicate f.P.length (-1)) (by simp) hj hi hc.1.2 hc.2
theorem comp_peak (hf : FrmOk f) : peakOf f (comp f) ≤ areas f (compO f).length:=by
 have hin:=comp_in hf;rw [← peak_ord hin,peakOrd_le];refine ⟨by have:=areas_mono hf (Nat.zero_le (compO f).length) (Nat.le_refl _); simpa [areas] using this,fun i hi=>?_⟩;have hi : i < (compO f).length:=hi;have h1:=laid_bd hf (st:=List.replicate f.P.length (-1)) (by simp) (Nat.le_refl _) i hi;have h2:=areas_mono hf (show i + 1 ≤ (compO f).length by omega) (Nat.le_refl _);rw [comp_ordAt hi];have e : (comp f).pl (co f i) = (placesTo f (List.replicate f.P.length (-1)) (compO f).length).getD (co f i) 0:=rfl;omega
def sumL (f : Frm) : List Int → Int
 | []=>0
 | x :: xs=>areaOf f x.toNat + sumL f xs
theorem sumL_append (l m : List Int) : sumL f (l ++ m) = sumL f l + sumL f m:=by
 induction l with
 | nil=>simp [sumL]
 | cons x l ih=>simp only [List.cons_append,sumL,ih]; omega
theorem areas_sum {i : Nat} (hi : i ≤ (compO f).length) : areas f i = sumL f ((compO f).take i):=by
 induction i with
 | zero=>rfl
 | succ i ih =>
   rw [List.take_add_one,(co_at (f:=f) (i:=i) (by omega)).1,sumL_append,← ih (by omega)];simp [areas,sumL]
theorem sumIf_comp (k : Nat) : sumIf (keptAt f) (areaOf f) k = sumL f (compTo f k):=by
 induction k with
 | zero=>rfl
 | succ k ih =>
   rw [compTo_succ,sumL_append,← ih];simp only [sumIf];split <;> simp [sumL]
theorem areas_all : areas f (compO f).length = sumIf (keptAt f) (areaOf f) f.P.length:=by
 rw [areas_sum (Nat.le_refl _),List.take_of_length_le (Nat.le_refl _),sumIf_comp]; rfl
theorem comp_placed (hf : FrmOk f) {k : Nat} (hk : k < f.P.length) : 0 ≤ (comp f).pl k ↔ keptAt f k = true:=by
 have h:=(comp_in hf).pass k hk;have hs:=comp_step (f:=f) hk
 constructor
 ·intro h1
  by_cases e : keptAt f k = true
  ·exact e
  ·have:=h.2.2 (fun h2=>e (hs.1 h2)); omega
 ·intro h1; exact (h.2.1 (hs.2 h1)).1
theorem compO_pos (hf : FrmOk f) : 0 < (compO f).length:=by
 have hl:=hf.last;obtain ⟨i,hi,-⟩:=co_of (f:=f) (k:=(frLast f).toNat) (keptL_marks hf).last (by omega);omega
theorem laid_multi (hf : FrmOk f) {A : Int} (hA : ∀ i,i < (compO f).length → areaOf f (co f i) = A) {st : List Int} (h : st.length = f.P.length) {i : Nat} (hi : i ≤ (compO f).length) : ∀ j,j < i → ∃ q : Nat,(placesTo f st i).getD (co f j) 0 = q * A ∧ q ≤ (liveAt f j).length:=by
 induction i with
 | zero=>intro j hj; omega
 | succ i ih =>
   intro j hj;have ih:=ih (by omega);by_cases e : j < i
   ·rw [placesTo_keep h hj hi,← placesTo_keep h e (by omega)]
    exact ih j e
   ·obtain rfl : j = i:=by omega
    rw [placesTo_keep h hj hi,hA j (by omega)];have ha:=area_bd hf (co_at (f:=f) (i:=j) (by omega)).2.1;rw [hA j (by omega)] at ha;have:=placeOf_multi (b:=busyAt f (placesTo f st j) j) (A:=A) ha.1 (fun x hx=>?_)
    ·have hl : (busyAt f (placesTo f st j) j).length = (liveAt f j).length:=by simp [busyAt]
     rw [hl] at this;exact this
    ·unfold busyAt at hx
     obtain ⟨y,hy,rfl⟩:=List.mem_map.1 hx;obtain ⟨m,m1,m2,rfl,-⟩:=mem_live.1 hy;obtain ⟨q,e1,-⟩:=ih m m1;refine ⟨q,?_,?_⟩
     ·simp only [Int.toNat_natCast]; exact e1
     ·simp only [Int.toNat_natCast]; rw [e1,hA m m2]
theorem need_live (hf : FrmOk f) {A : Int} (hA : ∀ i,i < (compO f).length → areaOf f (co f i) = A) {i : Nat} : ∀ m,m ≤ i → m ≤ (compO f).length → needOrd f (comp f) i m = ((((compO f).take m).filter fun x=>decide ((i : Int) ≤ (cspan f x.toNat).Last)).length : Nat) * A:=by
 intro m
 induction m with
 | zero=>intro _ _; simp [needOrd]
 | succ m ih =>
   intro hm hl;have hc:=co_at (f:=f) (i:=m) (by omega);simp only [needOrd];rw [comp_ordAt (by omega),comp_span,cspan_first hf (by omega),ih (by omega) (by omega),List.take_add_one,hc.1,List.filter_append,List.length_append,hA m (by omega)];by_cases e : (i : Int) ≤ (cspan f (co f m)).Last
   ·rw [if_pos ⟨by omega,e⟩]
    have e1 : (((some ((co f m : Nat) : Int)).toList).filter fun x=>decide ((i : Int) ≤ (cspan f x.toNat).Last)).length = 1:=by simp [e]
    rw [e1];simp only [Int.natCast_add,Int.add_mul];simp
   ·rw [if_neg (fun h=>e h.2)]
    have e1 : (((some ((co f m : Nat) : Int)).toList).filter fun x=>decide ((i : Int) ≤ (cspan f x.toNat).Last)).length = 0:=by simp [e]
    rw [e1,Nat.add_zero]
theorem needOrd_mono (hf : FrmOk f) {i : Int} {m n : Nat} (h : m ≤ n) (hn : n ≤ (compO f).length) : needOrd f (comp f) i m ≤ needOrd f (comp f) i n:=by
 induction n with
 | zero=>rw [show m = 0 by omega]; exact Int.le_refl _
 | succ n ih =>
   by_cases e : m = n + 1
   ·rw [e]; exact Int.le_refl _
   ·have:=ih (by omega) (by omega)
    have ha:=area_bd hf (co_at (f:=f) (i:=n) (by omega)).2.1;simp only [needOrd];rw [comp_ordAt (by omega)];split <;> omega
theorem floorTo_ge {p : Pln} : ∀ {m i : Nat},i < m → needTo f p i f.P.length ≤ floorTo f p m:=by
 intro m
 induction m with
 | zero=>intro i h; omega
 | succ m ih =>
   intro i h;simp only [floorTo];by_cases e : i < m
   ·have:=ih e; omega
   ·rw [show i = m by omega]; omega
theorem floorTo_pos {p : Pln} : ∀ m,0 ≤ floorTo f p m:=by
 intro m
 induction m with
 | zero=>exact Int.le_refl _
 | succ m ih=>simp only [floorTo]; omega
theorem lastUse_from {p : Pln} (h : InOrder f p) {k : Int} : ∀ m : Nat,m ≤ p.Order.length → stepOf p.Order k ≤ lastUse f p k m:=by
 intro m
 induction m with
 | zero=>intro _; exact Int.le_refl _
 | succ m ih =>
   intro hm;simp only [lastUse]
   by_cases e : k ∈ srcs f (p.ord m).toNat
   ·rw [if_pos e]; have:=(h.step m (by omega)).2.2 k e; omega
   ·rw [if_neg e]; exact ih (by omega)
theorem cspan_last (hf : FrmOk f) {i : Nat} (hi : i < (compO f).length) : (i : Int) ≤ (cspan f (co f i)).Last:=by
 have hin:=comp_in hf;rw [← comp_span];unfold spanOf;simp only;by_cases e : ((co f i : Nat) : Int) = frLast f
 ·rw [if_pos e]
  have : (comp f).Order.length = (compO f).length:=rfl;omega
 ·rw [if_neg e]
  have:=lastUse_from hin (k:=(co f i : Nat)) _ (Nat.le_refl _);rw [show stepOf (comp f).Order ((co f i : Nat) : Int) = i from step_co hf hi] at this;exact this
theorem comp_even (hf : FrmOk f) {A : Int} (hA : ∀ i,i < (compO f).length → areaOf f (co f i) = A) : peakOf f (comp f) = floorOf f (comp f):=by
 have hin:=comp_in hf;have hle:=floor_le hin hf (comp_fits hf)
 have hge : peakOf f (comp f) ≤ floorOf f (comp f):=by
  rw [← peak_ord hin,peakOrd_le];refine ⟨floorTo_pos _,fun i hi=>?_⟩;have hi : i < (compO f).length:=hi;rw [comp_ordAt hi,hA i hi];obtain ⟨q,e1,e2⟩:=laid_multi hf hA (st:=List.replicate f.P.length (-1)) (by simp) (Nat.le_refl _) i hi;have e : (comp f).pl (co f i) = q * A:=e1;rw [e];have h1 : needTo f (comp f) i f.P.length ≤ floorOf f (comp f):=floorTo_ge (f:=f) (p:=comp f) hi;rw [← need_ord hin] at h1;have h2:=needOrd_mono hf (i:=(i : Int)) (show i + 1 ≤ (compO f).length by omega) (Nat.le_refl _)
  have h3 : needOrd f (comp f) i (i + 1) = needOrd f (comp f) i i + A:=by
   simp only [needOrd];rw [comp_ordAt hi,comp_span,cspan_first hf hi,hA i hi,if_pos ⟨Int.le_refl _,cspan_last hf hi⟩]
  have h4:=need_live hf hA (i:=i) i (Nat.le_refl _) (by omega);have ha:=area_bd hf (co_at hi).2.1;rw [hA i hi] at ha;have h5 : (q : Int) * A ≤ ((liveAt f i).length : Nat) * A:=Int.mul_le_mul_of_nonneg_right (by omega) (by omega);have h6 : needOrd f (comp f) i i = ((liveAt f i).length : Nat) * A:=h4;have h7 : needOrd f (comp f) i (compO f).length ≤ floorOf f (comp f):=h1;omega
 omega
end
end Go.Proofs.Ytibpmogmeoappab
namespace Go.Proofs.Ytibpmogmeoappab
section
variable {f : Frm}
def stK (f : Frm) (k : Nat) : List Int:=(List.range f.P.length).map fun i=>if i < k ∧ keptAt f i = false then -1 else 0
theorem stK_len (k : Nat) : (stK f k).length = f.P.length:=by simp [stK]
theorem stK_at {k i : Nat} (hi : i < f.P.length) : (stK f k)[i]? = some (if i < k ∧ keptAt f i = false then -1 else 0):=by
 unfold stK;rw [List.getElem?_map,List.getElem?_range hi];rfl
theorem stK_zero : stK f 0 = List.replicate f.P.length 0:=by
 apply List.ext_getElem?
 intro i;by_cases hi : i < f.P.length
 ·rw [stK_at hi,List.getElem?_replicate,if_pos hi,if_neg (by omega)]
 ·rw [List.getElem?_eq_none (by rw [stK_len]; omega),List.getElem?_eq_none (by simp; omega)]
theorem stK_keep {k : Nat} (h : keptAt f k = true) : stK f (k + 1) = stK f k:=by
 apply List.ext_getElem?
 intro i;by_cases hi : i < f.P.length
 ·rw [stK_at hi,stK_at hi]
  by_cases e : i = k
  ·subst e; rw [h]; simp
  ·have : (i < k + 1) ↔ (i < k):=by omega
   simp only [this]
 ·rw [List.getElem?_eq_none (by rw [stK_len]; omega),List.getElem?_eq_none (by rw [stK_len]; omega)]
theorem stK_drop {k : Nat} (h : keptAt f k = false) (hk : k < f.P.length) : stK f (k + 1) = (stK f k).set k (-1):=by
 apply List.ext_getElem?
 intro i;by_cases hi : i < f.P.length
 ·rw [stK_at hi,List.getElem?_set]
  by_cases e : k = i
  ·subst e
   rw [if_pos rfl,if_pos ⟨by omega,h⟩,if_pos (by rw [stK_len]; exact hk)]
  ·rw [if_neg e,stK_at hi]
   have : (i < k + 1) ↔ (i < k):=by omega
   simp only [this]
 ·rw [List.getElem?_eq_none (by rw [stK_len]; omega),List.getElem?_eq_none (by rw [List.length_set,stK_len]; omega)]
theorem stK_all : stK f f.P.length = startP f:=by
 apply List.ext_getElem?
 intro i;by_cases hi : i < f.P.length
 ·rw [stK_at hi]
  unfold startP;rw [List.getElem?_map,List.getElem?_range hi];simp only [Option.map_some];cases keptAt f i <;> simp [hi]
 ·rw [List.getElem?_eq_none (by rw [stK_len]; omega),List.getElem?_eq_none (by simp [startP]; omega)]
def preLive (f : Frm) : Nat → List Int
 | 0=>[]
 | i + 1=>liveAt f i ++ [((co f i : Nat) : Int)]
theorem pre_live {i : Nat} (hi : i ≤ (compO f).length) : (preLive f i).filter (fun x=>!decide ((cspan f x.toNat).Last < i)) = liveAt f i:=by
 cases i with
 | zero=>simp [preLive,liveAt]
 | succ i =>
   have hp : (fun x : Int=>!decide ((cspan f x.toNat).Last < ((i + 1 : Nat) : Int))) = fun x=>decide (((i + 1 : Nat) : Int) ≤ (cspan f x.toNat).Last):=by
    funext x
    by_cases h : (cspan f x.toNat).Last < ((i + 1 : Nat) : Int)
    ·rw [decide_eq_true h,decide_eq_false (by omega)]; rfl
    ·rw [decide_eq_false h,decide_eq_true (by omega)]; rfl
   rw [hp];unfold preLive liveAt;rw [List.take_add_one,(co_at (f:=f) (i:=i) (by omega)).1];simp only [Option.toList_some,List.filter_append,List.filter_filter]
   congr 1
   refine List.filter_congr fun x _=>?_;by_cases h : ((i + 1 : Nat) : Int) ≤ (cspan f x.toNat).Last
   ·rw [decide_eq_true h,decide_eq_true (by omega)]; rfl
   ·rw [decide_eq_false h]; rfl
theorem preLive_len (i : Nat) : (preLive f i).length ≤ i:=by
 cases i with
 | zero=>exact Nat.le_refl _
 | succ i =>
   simp only [preLive,List.length_append,List.length_cons,List.length_nil];have h1 : (liveAt f i).length ≤ ((compO f).take i).length:=List.length_filter_le _ _;rw [List.length_take] at h1;omega
theorem mem_pre {i : Nat} {x : Int} (hi : i ≤ (compO f).length) (h : x ∈ preLive f i) : ∃ j,j < i ∧ j < (compO f).length ∧ x = ((co f j : Nat) : Int):=by
 cases i with
 | zero=>cases h
 | succ i =>
   rcases List.mem_append.1 h with h | h
   ·obtain ⟨j,h1,h2,h3,-⟩:=mem_live.1 h
    exact ⟨j,by omega,h2,h3⟩
   ·simp only [List.mem_singleton] at h
    exact ⟨i,by omega,by omega,h⟩
theorem compO_len (hf : FrmOk f) : (compO f).length ≤ 12:=by
 have h1:=comp_in hf;have h2:=h1.len;have h3:=hf.many;have e : (comp f).Order = compO f:=rfl;rw [e] at h2;omega
end
end Go.Proofs.Ytibpmogmeoappab
