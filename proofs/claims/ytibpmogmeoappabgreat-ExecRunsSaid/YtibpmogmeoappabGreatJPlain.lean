/- The plain meaning of images: lists of numbers, no program in sight. -/
namespace Go.Proofs.YtibpmogmeoappabGreat
def irange (lo hi : Int) : List Int:=(List.range (hi + 1 - lo).toNat).map fun (i : Nat)=>lo + (i : Int)
theorem irange_nil {lo hi : Int} (h : hi < lo) : irange lo hi = []:=by
 unfold irange; rw [show (hi + 1 - lo).toNat = 0 by omega]; rfl
theorem irange_snoc {lo hi : Int} (h : lo ≤ hi) : irange lo hi = irange lo (hi - 1) ++ [hi]:=by
 unfold irange;rw [show (hi + 1 - lo).toNat = (hi - 1 + 1 - lo).toNat + 1 by omega,List.range_succ,List.map_append];simp; omega
theorem mem_irange {lo hi x : Int} : x ∈ irange lo hi ↔ lo ≤ x ∧ x ≤ hi:=by
 unfold irange;simp only [List.mem_map,List.mem_range]
 constructor
 ·rintro ⟨i,hi,rfl⟩; omega
 ·intro h; exact ⟨(x - lo).toNat,by omega,by omega⟩
theorem irange_length (lo hi : Int) : (irange lo hi).length = (hi + 1 - lo).toNat:=by simp [irange]
theorem irange_cons {lo hi : Int} (h : lo ≤ hi) : irange lo hi = lo :: irange (lo + 1) hi:=by
 unfold irange;rw [show (hi + 1 - lo).toNat = (hi + 1 - (lo + 1)).toNat + 1 by omega,List.range_succ_eq_map,List.map_cons,List.map_map]
 congr 1
 ·simp
 ·apply List.map_congr_left; intro i _; simp; omega
structure Img where
 W : Int
 H : Int
 P : List Int
 deriving DecidableEq
def Img.Fine (a : Img) : Prop:=(1 ≤ a.W ∧ a.W ≤ 16) ∧ (1 ≤ a.H ∧ a.H ≤ 16) ∧ (a.P.length : Int) = a.W * a.H ∧ ∀ x ∈ a.P,0 ≤ x ∧ x ≤ 65535
instance (a : Img) : Decidable a.Fine:=by unfold Img.Fine; exact inferInstance
def Img.none : Img:=⟨0,0,[]⟩
def Img.at_ (a : Img) (x y : Int) : Int:=a.P.getD (y * a.W + x).toNat 0
theorem mul_bd {W H : Int} (h1 : 1 ≤ W) (h2 : W ≤ 16) (h3 : 1 ≤ H) (h4 : H ≤ 16) : 1 ≤ W * H ∧ W * H ≤ 256:=by
 have a:=Int.mul_le_mul h2 h4 (by omega) (by omega);have b:=Int.mul_le_mul h1 h3 (by omega) (by omega);omega
theorem place_bd {W H x y : Int} (hx : 0 ≤ x) (hx' : x < W) (hy : 0 ≤ y) (hy' : y < H) : 0 ≤ y * W + x ∧ y * W + x < W * H:=by
 have a:=Int.mul_nonneg hy (by omega : (0:Int) ≤ W);have b : (y + 1) * W ≤ H * W:=Int.mul_le_mul_of_nonneg_right (by omega) (by omega);rw [Int.add_mul] at b;rw [Int.mul_comm W H];omega
theorem Img.Fine.at_mem {a : Img} (h : a.Fine) {x y : Int} (hx : 0 ≤ x) (hx' : x < a.W) (hy : 0 ≤ y) (hy' : y < a.H) :
 (y * a.W + x).toNat < a.P.length ∧ a.at_ x y ∈ a.P:=by
 have hb:=place_bd hx hx' hy hy';have hl:=h.2.2.1;have hlt : (y * a.W + x).toNat < a.P.length:=by omega
 refine ⟨hlt,?_⟩;unfold Img.at_;rw [List.getD_eq_getElem?_getD,List.getElem?_eq_getElem hlt];simp
theorem Img.Fine.at_bd {a : Img} (h : a.Fine) {x y : Int} (hx : 0 ≤ x) (hx' : x < a.W) (hy : 0 ≤ y) (hy' : y < a.H) :
 0 ≤ a.at_ x y ∧ a.at_ x y ≤ 65535:=h.2.2.2 _ (h.at_mem hx hx' hy hy').2
def grid (w h : Nat) (f : Int → Int → Int) : List Int:=(List.range h).flatMap fun (y : Nat)=>(List.range w).map fun (x : Nat)=>f (x : Int) (y : Int)
theorem grid_length (w h : Nat) (f : Int → Int → Int) : (grid w h f).length = w * h:=by
 unfold grid
 induction h with
 | zero=>simp
 | succ h ih=>rw [List.range_succ,List.flatMap_append,List.length_append,ih]; simp [Nat.mul_succ]
theorem grid_succ (w h : Nat) (f : Int → Int → Int) : grid w (h + 1) f = grid w h f ++ (List.range w).map fun (x : Nat)=>f (x : Int) (h : Int):=by
 unfold grid;rw [List.range_succ,List.flatMap_append]; simp
theorem grid_eq (w h : Nat) (hw : 0 < w) (f : Int → Int → Int) : grid w h f = (List.range (w * h)).map fun i=>f ((i % w : Nat) : Int) ((i / w : Nat) : Int):=by
 induction h with
 | zero=>simp [grid]
 | succ h ih =>
   rw [grid_succ,ih,Nat.mul_succ,List.range_add,List.map_append,List.map_map]
   congr 1
   apply List.map_congr_left
   intro x hx;have hx' : x < w:=by simpa using hx
   simp only [Function.comp];rw [Nat.mul_add_mod,Nat.mod_eq_of_lt hx',Nat.mul_add_div hw,Nat.div_eq_of_lt hx',Nat.add_zero]
theorem grid_congr (w h : Nat) (f g : Int → Int → Int) (hfg : ∀ x y : Int,0 ≤ x → x < w → 0 ≤ y → y < h → f x y = g x y) : grid w h f = grid w h g:=by
 unfold grid;rw [List.flatMap_def,List.flatMap_def]
 congr 1
 apply List.map_congr_left
 intro y hy
 apply List.map_congr_left
 intro x hx;have hx' : x < w:=by simpa using hx
 have hy' : y < h:=by simpa using hy
 exact hfg _ _ (by omega) (by omega) (by omega) (by omega)
theorem mem_grid {w h : Nat} {f : Int → Int → Int} {v : Int} : v ∈ grid w h f ↔ ∃ x y : Int,0 ≤ x ∧ x < w ∧ 0 ≤ y ∧ y < h ∧ v = f x y:=by
 unfold grid;simp only [List.mem_flatMap,List.mem_map,List.mem_range]
 constructor
 ·rintro ⟨y,hy,x,hx,rfl⟩; exact ⟨x,y,by omega,by omega,by omega,by omega,rfl⟩
 ·rintro ⟨x,y,hx,hx',hy,hy',rfl⟩
  exact ⟨y.toNat,by omega,x.toNat,by omega,by rw [Int.toNat_of_nonneg hx,Int.toNat_of_nonneg hy]⟩
theorem grid_get (w h : Nat) (f : Int → Int → Int) {x y : Int} (hx : 0 ≤ x) (hx' : x < w) (hy : 0 ≤ y) (hy' : y < h) :
 (grid w h f).getD (y * w + x).toNat 0 = f x y:=by
 obtain ⟨x,rfl⟩:=Int.eq_ofNat_of_zero_le hx;obtain ⟨y,rfl⟩:=Int.eq_ofNat_of_zero_le hy;have hx2 : x < w:=by omega
 have hy2 : y < h:=by omega
 have hw : 0 < w:=by omega
 have hlt : w * y + x < w * h:=by
  have : w * (y + 1) ≤ w * h:=Nat.mul_le_mul_left _ hy2;rw [Nat.mul_succ] at this; omega
 have e : ((y : Int) * (w : Int) + (x : Int)).toNat = w * y + x:=by
  rw [← Int.natCast_mul,← Int.natCast_add,Int.toNat_natCast,Nat.mul_comm]
 rw [e,grid_eq w h hw,List.getD_eq_getElem?_getD,List.getElem?_map,List.getElem?_range hlt];have e1 : (w * y + x) % w = x:=by rw [Nat.mul_add_mod,Nat.mod_eq_of_lt hx2]
 have e2 : (w * y + x) / w = y:=by rw [Nat.mul_add_div hw,Nat.div_eq_of_lt hx2,Nat.add_zero]
 simp only [Option.map_some,Option.getD_some,e1,e2]
def drawn (w h : Int) (f : Int → Int → Int) : Img:=⟨w,h,grid w.toNat h.toNat f⟩
theorem drawn_fine {w h : Int} {f : Int → Int → Int} (hw : 1 ≤ w ∧ w ≤ 16) (hh : 1 ≤ h ∧ h ≤ 16) (hf : ∀ x y : Int,0 ≤ x → x < w → 0 ≤ y → y < h → 0 ≤ f x y ∧ f x y ≤ 65535) : (drawn w h f).Fine:=by
 refine ⟨hw,hh,?_,?_⟩
 ·simp only [drawn,grid_length,Int.natCast_mul]; rw [Int.toNat_of_nonneg (by omega),Int.toNat_of_nonneg (by omega)]
 ·intro v hv
  have hv' : v ∈ grid w.toNat h.toNat f:=hv;obtain ⟨x,y,h1,h2,h3,h4,rfl⟩:=mem_grid.1 hv';exact hf x y h1 (by omega) h3 (by omega)
theorem Img.Fine.eq_drawn {a : Img} (h : a.Fine) : a = drawn a.W a.H a.at_:=by
 obtain ⟨W,H,P⟩:=a;unfold drawn
 congr 1
 obtain ⟨h1,h2,h3,h4⟩:=h;simp only at h1 h2 h3 h4 ⊢;have hw : 0 < W.toNat:=by omega
 rw [grid_eq _ _ hw]
 apply List.ext_getElem
 ·simp only [List.length_map,List.length_range]
  have : ((W.toNat * H.toNat : Nat) : Int) = W * H:=by rw [Int.natCast_mul,Int.toNat_of_nonneg (by omega),Int.toNat_of_nonneg (by omega)]
  omega
 ·intro i hi hi'
  simp only [List.getElem_map,List.getElem_range,Img.at_]
  have e : (((i / W.toNat : Nat) : Int) * W + ((i % W.toNat : Nat) : Int)).toNat = i:=by
   have hd:=Nat.div_add_mod i W.toNat
   have e2 : (((i / W.toNat : Nat) : Int) * W + ((i % W.toNat : Nat) : Int)) = ((W.toNat * (i / W.toNat) + i % W.toNat : Nat) : Int):=by
    rw [Int.natCast_add,Int.natCast_mul,Int.toNat_of_nonneg (by omega),Int.mul_comm]
   rw [e2,hd]; simp
  rw [e,List.getD_eq_getElem?_getD,List.getElem?_eq_getElem hi]; simp
def makeErr (op w h k : Int) : Int :=
 if op ≠ 1 ∧ op ≠ 2 then 4 else if ¬ (1 ≤ w ∧ w ≤ 16) ∨ ¬ (1 ≤ h ∧ h ≤ 16) ∨ ¬ (0 ≤ k ∧ k ≤ 65535) then 3 else 0
def makePix (op k x y : Int) : Int:=if op = 2 then (x * k + y) % 65536 else k
def makeImg (op w h k : Int) : Img:=drawn w h (makePix op k)
def makeAns (op w h k : Int) : Img:=if makeErr op w h k = 0 then makeImg op w h k else Img.none
def meanList (a : Img) (x y u v : Int) : List Int :=
 (irange (max y 0) (min v (a.H - 1))).flatMap fun j=>(irange (max x 0) (min u (a.W - 1))).map fun i=>a.at_ i j
def mean (a : Img) (x y u v : Int) : Int:=(meanList a x y u v).sum / ((meanList a x y u v).length : Int)
def oneErr (op : Int) (a : Img) (k : Int) : Int :=
 if op = 3 ∨ op = 10 then 0
 else if op = 8 then (if 0 ≤ k ∧ k ≤ 65535 then 0 else 3)
 else if op = 9 then (if -16 ≤ k ∧ k ≤ 16 then 0 else 3)
 else if op = 11 then (if a.W % 2 = 1 ∨ a.H % 2 = 1 then 6 else 0)
 else if op = 12 then (if 16 < 2 * a.W ∨ 16 < 2 * a.H then 6 else 0)
 else 4
def sizeW (op w : Int) : Int:=if op = 11 then w / 2 else if op = 12 then 2 * w else w
def onePix (op : Int) (a : Img) (k x y : Int) : Int :=
 if op = 3 then a.at_ x y
 else if op = 8 then (if k ≤ a.at_ x y then a.at_ x y else 0)
 else if op = 9 then a.at_ (max 0 (min (a.W - 1) (x - k))) y
 else if op = 10 then mean a (x - 1) (y - 1) (x + 1) (y + 1)
 else if op = 11 then mean a (2 * x) (2 * y) (2 * x + 1) (2 * y + 1)
 else if op = 12 then a.at_ (x / 2) (y / 2)
 else 0
def oneImg (op : Int) (a : Img) (k : Int) : Img:=drawn (sizeW op a.W) (sizeW op a.H) (onePix op a k)
def oneErrAll (op : Int) (a : Img) (k : Int) : Int:=if a.Fine then oneErr op a k else 1
def oneAns (op : Int) (a : Img) (k : Int) : Img:=if oneErrAll op a k = 0 then oneImg op a k else Img.none
def twoNum (op x y : Int) : Int :=
 if op = 4 then min 65535 (x + y) else if op = 5 then max 0 (x - y) else if op = 6 then x * y / 65535 else if op = 7 then max x y else 0
def twoImg (op : Int) (a b : Img) : Img:=⟨a.W,a.H,(List.range a.P.length).map fun i=>twoNum op (a.P.getD i 0) (b.P.getD i 0)⟩
def twoErr (op : Int) (a b : Img) : Int :=
 if ¬ a.Fine ∨ ¬ b.Fine then 1 else if ¬ (4 ≤ op ∧ op ≤ 7) then 4 else if a.W ≠ b.W ∨ a.H ≠ b.H then 6 else 0
def twoAns (op : Int) (a b : Img) : Img:=if twoErr op a b = 0 then twoImg op a b else Img.none
end Go.Proofs.YtibpmogmeoappabGreat
namespace Go.Proofs.YtibpmogmeoappabGreat
structure Lamp where
 X : Int
 Y : Int
 R : Int
 K : Int
 deriving DecidableEq
def Lamp.Fine (l : Lamp) : Prop:=(0 ≤ l.X ∧ l.X ≤ 15) ∧ (0 ≤ l.Y ∧ l.Y ≤ 15) ∧ (1 ≤ l.R ∧ l.R ≤ 32) ∧ (0 ≤ l.K ∧ l.K ≤ 65535)
instance (l : Lamp) : Decidable l.Fine:=by unfold Lamp.Fine; exact inferInstance
def lampsErr (ls : List Lamp) : Int:=if 8 < ls.length then 2 else if ∀ l ∈ ls,l.Fine then 0 else 3
theorem lampsErr_zero {ls : List Lamp} (h : lampsErr ls = 0) : ls.length ≤ 8 ∧ ∀ l ∈ ls,l.Fine:=by
 unfold lampsErr at h;split at h
 ·omega
 ·split at h
  ·rename_i h1 h2; exact ⟨by omega,h2⟩
  ·omega
theorem lampsErr_three {ls : List Lamp} {l : Lamp} (hn : ls.length ≤ 8) (hl : l ∈ ls) (h : ¬ l.Fine) : lampsErr ls = 3:=by
 unfold lampsErr;rw [if_neg (by omega),if_neg (fun e=>h (e l hl))]
def Lamp.far (l : Lamp) (x y : Int) : Int:=max (l.X - x) (-(l.X - x)) + max (l.Y - y) (-(l.Y - y))
def Lamp.gives (l : Lamp) (x y : Int) : Int:=if l.far x y < l.R then l.K * (l.R - l.far x y) / l.R else 0
def lightAt (ls : List Lamp) (x y : Int) : Int:=(ls.map fun l=>l.gives x y).sum
theorem lightAt_snoc (ls : List Lamp) (l : Lamp) (x y : Int) : lightAt (ls ++ [l]) x y = lightAt ls x y + l.gives x y:=by simp [lightAt]
theorem Lamp.far_nonneg (l : Lamp) (x y : Int) : 0 ≤ l.far x y:=by unfold Lamp.far; omega
theorem Lamp.gives_bd {l : Lamp} (h : l.Fine) (x y : Int) : 0 ≤ l.gives x y ∧ l.gives x y ≤ 65535:=by
 obtain ⟨_,_,⟨h5,h6⟩,⟨h7,h8⟩⟩:=h;have h0:=l.far_nonneg x y;unfold Lamp.gives;split
 ·rename_i hlt
  have p0 : 0 ≤ l.K * (l.R - l.far x y):=Int.mul_nonneg h7 (by omega);have p1 : l.K * (l.R - l.far x y) ≤ l.K * l.R:=Int.mul_le_mul_of_nonneg_left (by omega) h7;refine ⟨Int.ediv_nonneg p0 (by omega),?_⟩;have : l.K * (l.R - l.far x y) / l.R ≤ l.K * l.R / l.R:=Int.ediv_le_ediv (by omega) p1;rw [Int.mul_ediv_cancel _ (by omega)] at this;omega
 ·omega
theorem lightAt_bd {ls : List Lamp} (h : ∀ l ∈ ls,l.Fine) (x y : Int) : 0 ≤ lightAt ls x y ∧ lightAt ls x y ≤ 65535 * (ls.length : Int):=by
 induction ls with
 | nil=>simp [lightAt]
 | cons l ls ih =>
   have h1:=Lamp.gives_bd (h l (by simp)) x y;have h2:=ih fun l hl=>h l (by simp [hl]);simp only [lightAt,List.map_cons,List.sum_cons,List.length_cons] at h2 ⊢;omega
def outside (n lo count : Int) : Int:=max (max (lo - n) (n - (lo + count - 1))) 0
def Lamp.nears (l : Lamp) (x y w h : Int) : Bool:=decide (outside l.X x w + outside l.Y y h < l.R)
def nearList (ls : List Lamp) (x y w h : Int) : List Int:=(List.range ls.length).flatMap fun i=>if (ls.getD i ⟨0,0,0,0⟩).nears x y w h then [(i : Int)] else []
theorem Lamp.nears_iff (l : Lamp) {x y w h : Int} (hw : 1 ≤ w) (hh : 1 ≤ h) :
 l.nears x y w h = true ↔ ∃ u v : Int,(x ≤ u ∧ u < x + w) ∧ (y ≤ v ∧ v < y + h) ∧ l.far u v < l.R:=by
 unfold Lamp.nears outside Lamp.far;rw [decide_eq_true_iff]
 constructor
 ·intro hd
  refine ⟨max x (min (x + w - 1) l.X),max y (min (y + h - 1) l.Y),by omega,by omega,by omega⟩
 ·rintro ⟨u,v,hu,hv,hd⟩
  omega
theorem Lamp.not_near {l : Lamp} {x y w h u v : Int} (hw : 1 ≤ w) (hh : 1 ≤ h) (hn : l.nears x y w h = false) (hu : x ≤ u ∧ u < x + w) (hv : y ≤ v ∧ v < y + h) : l.gives u v = 0:=by
 unfold Lamp.gives;rw [if_neg];intro hd;have:=(l.nears_iff hw hh).2 ⟨u,v,hu,hv,hd⟩;rw [hn] at this;cases this
def litPix (a : Img) (ls : List Lamp) (x y : Int) : Int:=min 65535 (a.at_ x y + lightAt ls x y)
def litImg (a : Img) (ls : List Lamp) : Img:=drawn a.W a.H (litPix a ls)
def litErr (a : Img) (ls : List Lamp) (tile : Int) : Int:=if a.Fine then (if lampsErr ls = 0 then (if 1 ≤ tile ∧ tile ≤ 16 then 0 else 3) else lampsErr ls) else 1
def litAns (a : Img) (ls : List Lamp) (tile : Int) : Img:=if litErr a ls tile = 0 then litImg a ls else Img.none
end Go.Proofs.YtibpmogmeoappabGreat
namespace Go.Proofs.YtibpmogmeoappabGreat
structure Pas where
 Op : Int
 To : Int
 A : Int
 B : Int
 K : Int
 L : List Lamp
 deriving DecidableEq
structure Frm where
 W : Int
 H : Int
 S : Int
 O : Int
 P : List Pas
 deriving DecidableEq
structure Sz where
 W : Int
 H : Int
 deriving DecidableEq
def inR (x lo hi : Int) : Bool:=decide (lo ≤ x ∧ x ≤ hi)
theorem inR_iff {x lo hi : Int} : inR x lo hi = true ↔ lo ≤ x ∧ x ≤ hi:=by unfold inR; simp
theorem inR_not {x lo hi : Int} : inR x lo hi = false ↔ ¬ (lo ≤ x ∧ x ≤ hi):=by unfold inR; simp
def hasA (op : Int) : Bool:=inR op 3 13
def hasB (op : Int) : Bool:=inR op 4 7
def hasK (op : Int) : Bool:=decide (op = 1 ∨ op = 2 ∨ op = 8 ∨ op = 9 ∨ op = 13)
def hasL (op : Int) : Bool:=decide (op = 13)
def slotIn (S n : Int) : Bool:=inR n 0 (S - 1)
def kFineB (op k : Int) : Bool :=
 if op = 1 ∨ op = 2 ∨ op = 8 then inR k 0 65535 else if op = 9 then inR k (-16) 16 else if op = 13 then inR k 1 16 else true
def rangeBad (S : Int) (p : Pas) : Bool:=!slotIn S p.To || (hasA p.Op && !slotIn S p.A) || (hasB p.Op && !slotIn S p.B) || !kFineB p.Op p.K
def formBad (p : Pas) : Bool :=
 (!hasA p.Op && p.A != 0) || (!hasB p.Op && p.B != 0) || (!hasK p.Op && p.K != 0) || (!hasL p.Op && decide (0 < p.L.length)) || (hasA p.Op && p.A == p.To) || (hasB p.Op && p.B == p.To)
def fieldsErr (S : Int) (p : Pas) : Int :=
 if inR p.Op 1 13 = false then 4
 else if rangeBad S p = true then 3
 else if hasL p.Op = true ∧ lampsErr p.L ≠ 0 then lampsErr p.L
 else if formBad p = true then 1 else 0
def szAt (st : List Sz) (i : Int) : Sz:=st.getD i.toNat ⟨0,0⟩
def restErr (p : Pas) (st : List Sz) : Int :=
 if (hasA p.Op = true ∧ (szAt st p.A).W = 0) ∨ (hasB p.Op = true ∧ (szAt st p.B).W = 0) then 5
 else if hasB p.Op = true ∧ szAt st p.A ≠ szAt st p.B then 6
 else if p.Op = 11 ∧ ((szAt st p.A).W % 2 = 1 ∨ (szAt st p.A).H % 2 = 1) then 6
 else if p.Op = 12 ∧ (16 < 2 * (szAt st p.A).W ∨ 16 < 2 * (szAt st p.A).H) then 6
 else 0
def passErr (S : Int) (p : Pas) (st : List Sz) : Int:=if fieldsErr S p ≠ 0 then fieldsErr S p else restErr p st
def passSize (W H : Int) (p : Pas) (st : List Sz) : Sz:=if hasA p.Op = true then ⟨sizeW p.Op (szAt st p.A).W,sizeW p.Op (szAt st p.A).H⟩ else ⟨W,H⟩
def noPas : Pas:=⟨0,0,0,0,0,[]⟩
def Frm.pas (f : Frm) (i : Nat) : Pas:=f.P.getD i noPas
def frSt (f : Frm) : Nat → List Sz
 | 0=>List.replicate f.S.toNat ⟨0,0⟩
 | k + 1=>(frSt f k).set (f.pas k).To.toNat (passSize f.W f.H (f.pas k) (frSt f k))
def frSize (f : Frm) (i : Nat) : Sz:=passSize f.W f.H (f.pas i) (frSt f i)
def frErrTo (f : Frm) : Nat → Int
 | 0=>0
 | k + 1=>if frErrTo f k ≠ 0 then frErrTo f k else passErr f.S (f.pas k) (frSt f k)
def frAll (f : Frm) (k : Nat) : List Sz:=(List.range k).map (frSize f)
def Frm.Bounds (f : Frm) : Prop:=(1 ≤ f.W ∧ f.W ≤ 16) ∧ (1 ≤ f.H ∧ f.H ≤ 16) ∧ (1 ≤ f.S ∧ f.S ≤ 8) ∧ (0 ≤ f.O ∧ f.O ≤ f.S - 1)
instance (f : Frm) : Decidable f.Bounds:=by unfold Frm.Bounds; exact inferInstance
def frErr (f : Frm) : Int :=
 if ¬ f.Bounds then 3
 else if ¬ (1 ≤ f.P.length ∧ f.P.length ≤ 12) then 2
 else if frErrTo f f.P.length ≠ 0 then frErrTo f f.P.length
 else if (szAt (frSt f f.P.length) f.O).W = 0 then 5 else 0
def frSizes (f : Frm) : List Sz:=if frErr f = 0 then frAll f f.P.length else []
def writerTo (f : Frm) : Nat → Int → Int
 | 0,_=>-1
 | k + 1,s=>if (f.pas k).To = s then (k : Int) else writerTo f k s
def srcs (f : Frm) (i : Nat) : List Int :=
 (if hasA (f.pas i).Op = true then [writerTo f i (f.pas i).A] else []) ++ (if hasB (f.pas i).Op = true then [writerTo f i (f.pas i).B] else [])
def srcsTo (f : Frm) (k : Nat) : List (List Int):=(List.range k).map (srcs f)
def frSources (f : Frm) : List (List Int):=if frErr f = 0 then srcsTo f f.P.length else []
theorem pe_kind {S : Int} {p : Pas} {st : List Sz} (h0 : inR p.Op 1 13 = false) : passErr S p st = 4:=by simp [passErr,fieldsErr,h0]
theorem fe_kind {S : Int} {p : Pas} (h0 : inR p.Op 1 13 = false) : fieldsErr S p = 4:=by simp [fieldsErr,h0]
theorem fe_range {S : Int} {p : Pas} (h0 : inR p.Op 1 13 = true) (hr : rangeBad S p = true) : fieldsErr S p = 3:=by simp [fieldsErr,h0,hr]
theorem fe_lamps {S : Int} {p : Pas} (h0 : inR p.Op 1 13 = true) (hr : rangeBad S p = false) (hl : hasL p.Op = true) (hz : lampsErr p.L ≠ 0) : fieldsErr S p = lampsErr p.L:=by simp [fieldsErr,h0,hr,hl,hz]
theorem fe_form {S : Int} {p : Pas} (h0 : inR p.Op 1 13 = true) (hr : rangeBad S p = false) (hl : hasL p.Op = true → lampsErr p.L = 0) (hf : formBad p = true) : fieldsErr S p = 1:=by
 unfold fieldsErr;rw [if_neg (by simp [h0]),if_neg (by simp [hr]),if_neg (fun h=>h.2 (hl h.1)),if_pos hf]
theorem fe_ok {S : Int} {p : Pas} (h0 : inR p.Op 1 13 = true) (hr : rangeBad S p = false) (hl : hasL p.Op = true → lampsErr p.L = 0) (hf : formBad p = false) : fieldsErr S p = 0:=by
 unfold fieldsErr;rw [if_neg (by simp [h0]),if_neg (by simp [hr]),if_neg (fun h=>h.2 (hl h.1)),if_neg (by simp [hf])]
theorem pe_of {S z : Int} {p : Pas} {st : List Sz} (h : fieldsErr S p = z) (hz : z ≠ 0) : passErr S p st = z:=by unfold passErr; rw [h,if_pos hz]
theorem pe_rest {S : Int} {p : Pas} {st : List Sz} (h : fieldsErr S p = 0) : passErr S p st = restErr p st:=by unfold passErr; rw [h]; rfl
theorem frSt_len (f : Frm) (k : Nat) : (frSt f k).length = f.S.toNat:=by
 induction k with
 | zero=>simp [frSt]
 | succ k ih=>simp [frSt,ih]
theorem frAll_succ (f : Frm) (k : Nat) : frAll f (k + 1) = frAll f k ++ [frSize f k]:=by simp [frAll,List.range_succ]
theorem srcsTo_succ (f : Frm) (k : Nat) : srcsTo f (k + 1) = srcsTo f k ++ [srcs f k]:=by simp [srcsTo,List.range_succ]
theorem frErrTo_succ {f : Frm} {k : Nat} (h : frErrTo f k = 0) : frErrTo f (k + 1) = passErr f.S (f.pas k) (frSt f k):=by simp [frErrTo,h]
theorem frErrTo_stop {f : Frm} {k n : Nat} (h : frErrTo f k ≠ 0) (hn : k ≤ n) : frErrTo f n = frErrTo f k:=by
 induction n with
 | zero => have : k = 0 := by omega
           subst this; rfl
 | succ n ih =>
   by_cases e : k = n + 1
   ·subst e; rfl
   ·have:=ih (by omega)
    simp only [frErrTo,this];rw [if_pos h]
theorem frErrTo_le {f : Frm} {k n : Nat} (h : frErrTo f n = 0) (hn : k ≤ n) : frErrTo f k = 0:=by
 by_cases e : frErrTo f k = 0
 ·exact e
 ·rw [frErrTo_stop e hn] at h; exact absurd h e
end Go.Proofs.YtibpmogmeoappabGreat
namespace Go.Proofs.YtibpmogmeoappabGreat
theorem or_false' {a b : Bool} : (a || b) = false ↔ a = false ∧ b = false:=by cases a <;> cases b <;> simp
structure PassOk (S : Int) (p : Pas) (st : List Sz) : Prop where
 kind : 1 ≤ p.Op ∧ p.Op ≤ 13
 to : 0 ≤ p.To ∧ p.To ≤ S - 1
 a : hasA p.Op = true → 0 ≤ p.A ∧ p.A ≤ S - 1
 b : hasB p.Op = true → 0 ≤ p.B ∧ p.B ≤ S - 1
 k : kFineB p.Op p.K = true
 lamps : hasL p.Op = true → lampsErr p.L = 0
 form : formBad p = false
 wa : hasA p.Op = true → (szAt st p.A).W ≠ 0
 wb : hasB p.Op = true → (szAt st p.B).W ≠ 0
 same : hasB p.Op = true → szAt st p.A = szAt st p.B
 down : p.Op = 11 → (szAt st p.A).W % 2 ≠ 1 ∧ (szAt st p.A).H % 2 ≠ 1
 up : p.Op = 12 → 2 * (szAt st p.A).W ≤ 16 ∧ 2 * (szAt st p.A).H ≤ 16
theorem fields_ok {S : Int} {p : Pas} (h : fieldsErr S p = 0) : inR p.Op 1 13 = true ∧ rangeBad S p = false ∧ (hasL p.Op = true → lampsErr p.L = 0) ∧ formBad p = false:=by
 unfold fieldsErr at h;by_cases h0 : inR p.Op 1 13 = false
 ·rw [if_pos h0] at h; omega
 ·rw [if_neg h0] at h
  by_cases h1 : rangeBad S p = true
  ·rw [if_pos h1] at h; omega
  ·rw [if_neg h1] at h
   by_cases h2 : hasL p.Op = true ∧ lampsErr p.L ≠ 0
   ·rw [if_pos h2] at h; exact absurd h h2.2
   ·rw [if_neg h2] at h
    by_cases h3 : formBad p = true
    ·rw [if_pos h3] at h; omega
    ·refine ⟨by simpa using h0,by simpa using h1,fun hl=>?_,by simpa using h3⟩
     by_cases hz : lampsErr p.L = 0
     ·exact hz
     ·exact absurd ⟨hl,hz⟩ h2
theorem pass_ok {S : Int} {p : Pas} {st : List Sz} (h : passErr S p st = 0) : PassOk S p st:=by
 have hf : fieldsErr S p = 0:=by
  unfold passErr at h;by_cases e : fieldsErr S p = 0
  ·exact e
  ·rw [if_pos e] at h; exact h
 have hr : restErr p st = 0:=by rw [pe_rest hf] at h; exact h
 obtain ⟨h0,h1,h2,h3⟩:=fields_ok hf;unfold rangeBad at h1;rw [or_false',or_false',or_false'] at h1;obtain ⟨⟨⟨r1,r2⟩,r3⟩,r4⟩:=h1;have r1' : slotIn S p.To = true:=by simpa using r1
 have r4' : kFineB p.Op p.K = true:=by simpa using r4
 unfold restErr at hr;by_cases e1 : (hasA p.Op = true ∧ (szAt st p.A).W = 0) ∨ (hasB p.Op = true ∧ (szAt st p.B).W = 0)
 ·rw [if_pos e1] at hr; omega
 ·rw [if_neg e1] at hr
  by_cases e2 : hasB p.Op = true ∧ szAt st p.A ≠ szAt st p.B
  ·rw [if_pos e2] at hr; omega
  ·rw [if_neg e2] at hr
   by_cases e3 : p.Op = 11 ∧ ((szAt st p.A).W % 2 = 1 ∨ (szAt st p.A).H % 2 = 1)
   ·rw [if_pos e3] at hr; omega
   ·rw [if_neg e3] at hr
    by_cases e4 : p.Op = 12 ∧ (16 < 2 * (szAt st p.A).W ∨ 16 < 2 * (szAt st p.A).H)
    ·rw [if_pos e4] at hr; omega
    ·refine ⟨inR_iff.1 h0,inR_iff.1 r1',fun ha=>?_,fun hb=>?_,r4',h2,h3,fun ha hz=>e1 (.inl ⟨ha,hz⟩),fun hb hz=>e1 (.inr ⟨hb,hz⟩),fun hb=>?_,fun e=>?_,fun e=>?_⟩
     ·rw [ha] at r2; simp only [Bool.true_and,Bool.not_eq_false'] at r2; exact inR_iff.1 r2
     ·rw [hb] at r3; simp only [Bool.true_and,Bool.not_eq_false'] at r3; exact inR_iff.1 r3
     ·by_cases es : szAt st p.A = szAt st p.B
      ·exact es
      ·exact absurd ⟨hb,es⟩ e2
     ·exact ⟨fun h=>e3 ⟨e,.inl h⟩,fun h=>e3 ⟨e,.inr h⟩⟩
     ·constructor
      ·by_cases h : 16 < 2 * (szAt st p.A).W
       ·exact absurd ⟨e,.inl h⟩ e4
       ·omega
      ·by_cases h : 16 < 2 * (szAt st p.A).H
       ·exact absurd ⟨e,.inr h⟩ e4
       ·omega
def SzFine (s : Sz) : Prop:=(s.W = 0 ∧ s.H = 0) ∨ ((1 ≤ s.W ∧ s.W ≤ 16) ∧ (1 ≤ s.H ∧ s.H ≤ 16))
theorem SzFine.bd {s : Sz} (h : SzFine s) : (0 ≤ s.W ∧ s.W ≤ 16) ∧ (0 ≤ s.H ∧ s.H ≤ 16):=by unfold SzFine at h; omega
theorem szAt_set {st : List Sz} {i j : Int} {s : Sz} (hi : 0 ≤ i) (hj : 0 ≤ j) (hl : i.toNat < st.length) : szAt (st.set i.toNat s) j = if j = i then s else szAt st j:=by
 unfold szAt;simp only [List.getD_eq_getElem?_getD,List.getElem?_set];by_cases e : j = i
 ·subst e; rw [if_pos rfl,if_pos hl,if_pos rfl]; rfl
 ·rw [if_neg (by omega),if_neg e]
theorem passSize_fine {W H S : Int} {p : Pas} {st : List Sz} (hW : 1 ≤ W ∧ W ≤ 16) (hH : 1 ≤ H ∧ H ≤ 16) (hst : ∀ i : Int,0 ≤ i → SzFine (szAt st i)) (h : PassOk S p st) :
 (1 ≤ (passSize W H p st).W ∧ (passSize W H p st).W ≤ 16) ∧ (1 ≤ (passSize W H p st).H ∧ (passSize W H p st).H ≤ 16):=by
 unfold passSize;by_cases ha : hasA p.Op = true
 ·rw [if_pos ha]
  have h1:=hst p.A (h.a ha).1;have h2:=h.wa ha;have h3:=h.down;have h4:=h.up;generalize szAt st p.A = s at *;unfold SzFine at h1;simp only [sizeW];by_cases e : p.Op = 11
  ·have:=h3 e
   rw [if_pos e,if_pos e];omega
  ·by_cases e2 : p.Op = 12
   ·have:=h4 e2
    rw [if_neg e,if_neg e,if_pos e2,if_pos e2]; omega
   ·rw [if_neg e,if_neg e,if_neg e2,if_neg e2]; omega
 ·rw [if_neg ha]; exact ⟨hW,hH⟩
theorem frSt_fine {f : Frm} (hB : f.Bounds) {k : Nat} (h : frErrTo f k = 0) : ∀ i : Int,0 ≤ i → SzFine (szAt (frSt f k) i):=by
 induction k with
 | zero =>
   intro i _
   have : szAt (frSt f 0) i = ⟨0,0⟩:=by
    unfold szAt frSt;rw [List.getD_eq_getElem?_getD,List.getElem?_replicate];split <;> rfl
   rw [this];exact .inl ⟨rfl,rfl⟩
 | succ k ih =>
   intro i hi;have hk:=frErrTo_le h (Nat.le_succ k);have ih:=ih hk;rw [frErrTo_succ hk] at h;have ho:=pass_ok h;have hp:=passSize_fine hB.1 hB.2.1 ih ho;have hlt : (f.pas k).To.toNat < (frSt f k).length:=by rw [frSt_len]; have:=ho.to; omega
   simp only [frSt];rw [szAt_set ho.to.1 hi hlt];split
   ·exact .inr hp
   ·exact ih i hi
theorem frSt_bd {f : Frm} (hB : f.Bounds) {k : Nat} (h : frErrTo f k = 0) (i : Int) : (0 ≤ (szAt (frSt f k) i).W ∧ (szAt (frSt f k) i).W ≤ 16) ∧ (0 ≤ (szAt (frSt f k) i).H ∧ (szAt (frSt f k) i).H ≤ 16):=by
 by_cases hi : 0 ≤ i
 ·exact (frSt_fine hB h i hi).bd
 ·have e : szAt (frSt f k) i = szAt (frSt f k) 0:=by unfold szAt; rw [show i.toNat = (0 : Int).toNat by omega]
  rw [e];exact (frSt_fine hB h 0 (by omega)).bd
end Go.Proofs.YtibpmogmeoappabGreat
namespace Go.Proofs.YtibpmogmeoappabGreat
def frMk (f : Frm) : Nat → List Int
 | 0=>List.replicate f.S.toNat 0
 | k + 1=>(frMk f k).set (f.pas k).To.toNat ((k : Int) + 1)
theorem frMk_len (f : Frm) (k : Nat) : (frMk f k).length = f.S.toNat:=by
 induction k with
 | zero=>simp [frMk]
 | succ k ih=>simp [frMk,ih]
theorem writerTo_bd (f : Frm) (k : Nat) (s : Int) : -1 ≤ writerTo f k s ∧ writerTo f k s < k:=by
 induction k with
 | zero=>simp [writerTo]
 | succ k ih=>simp only [writerTo]; split <;> omega
theorem slot_iff {S x : Int} : slotIn S x = true ↔ 0 ≤ x ∧ x ≤ S - 1:=inR_iff
theorem frOk {f : Frm} {n k : Nat} (h : frErrTo f n = 0) (hk : k < n) : PassOk f.S (f.pas k) (frSt f k):=by
 have h1:=frErrTo_le h hk;have h0:=frErrTo_le h (Nat.le_of_lt hk);rw [frErrTo_succ h0] at h1;exact pass_ok h1
theorem getD_set {α : Type} {l : List α} {i j : Nat} {v d : α} (hi : i < l.length) : (l.set i v).getD j d = if j = i then v else l.getD j d:=by
 simp only [List.getD_eq_getElem?_getD,List.getElem?_set];by_cases e : j = i
 ·subst e; rw [if_pos rfl,if_pos hi,if_pos rfl]; rfl
 ·rw [if_neg (by omega),if_neg e]
theorem frMk_at {f : Frm} {k : Nat} (h : frErrTo f k = 0) {s : Int} (hs : slotIn f.S s = true) : (frMk f k).getD s.toNat 0 = writerTo f k s + 1:=by
 obtain ⟨s0,s1⟩:=slot_iff.1 hs
 induction k with
 | zero =>
   simp only [frMk,writerTo,List.getD_eq_getElem?_getD,List.getElem?_replicate];split <;> rfl
 | succ k ih =>
   have h0:=frErrTo_le h (Nat.le_succ k);have ho:=frOk h (Nat.lt_succ_self k);have ht:=ho.to;simp only [frMk,writerTo];rw [getD_set (by rw [frMk_len]; omega)];by_cases e : (f.pas k).To = s
   ·rw [if_pos e,if_pos (by omega)]
   ·rw [if_neg e,if_neg (by omega)]; exact ih h0
theorem frMk_zero {f : Frm} (hB : f.Bounds) {k : Nat} (h : frErrTo f k = 0) {s : Int} (hs : slotIn f.S s = true) : (frMk f k).getD s.toNat 0 = 0 ↔ (szAt (frSt f k) s).W = 0:=by
 obtain ⟨s0,s1⟩:=slot_iff.1 hs
 induction k with
 | zero =>
   simp only [frMk,frSt,szAt,List.getD_eq_getElem?_getD,List.getElem?_replicate]
   constructor
   ·intro _; split <;> rfl
   ·intro _; split <;> rfl
 | succ k ih =>
   have h0:=frErrTo_le h (Nat.le_succ k);have ho:=frOk h (Nat.lt_succ_self k);have ht:=ho.to;have hp:=passSize_fine hB.1 hB.2.1 (frSt_fine hB h0) ho;simp only [frMk,frSt];rw [getD_set (by rw [frMk_len]; omega),szAt_set ht.1 s0 (by rw [frSt_len]; omega)];by_cases e : s = (f.pas k).To
   ·rw [if_pos (by omega),if_pos e]
    constructor
    ·intro h; omega
    ·intro h; omega
   ·rw [if_neg (by omega),if_neg e]; exact ih h0
theorem wr_ok {f : Frm} (hB : f.Bounds) {k : Nat} (h : frErrTo f k = 0) {s : Int} (hs : slotIn f.S s = true) (hw : (szAt (frSt f k) s).W ≠ 0) : 0 ≤ writerTo f k s ∧ writerTo f k s < k:=by
 have h1:=writerTo_bd f k s;have h2:=frMk_at h hs;have h3 : ¬ (frMk f k).getD s.toNat 0 = 0:=fun e=>hw ((frMk_zero hB h hs).1 e);omega
theorem writer_to {f : Frm} {k : Nat} {s : Int} (h : 0 ≤ writerTo f k s) : (f.pas (writerTo f k s).toNat).To = s:=by
 induction k with
 | zero=>simp [writerTo] at h
 | succ k ih =>
   simp only [writerTo] at h ⊢;by_cases e : (f.pas k).To = s
   ·rw [if_pos e]; simpa using e
   ·rw [if_neg e] at h ⊢; exact ih h
theorem writer_size {f : Frm} {k : Nat} (h : frErrTo f k = 0) {s : Int} (hs : slotIn f.S s = true) (hw : 0 ≤ writerTo f k s) : szAt (frSt f k) s = frSize f (writerTo f k s).toNat:=by
 obtain ⟨s0,s1⟩:=slot_iff.1 hs
 induction k with
 | zero=>simp [writerTo] at hw
 | succ k ih =>
   have h0:=frErrTo_le h (Nat.le_succ k);have ht:=(frOk h (Nat.lt_succ_self k)).to;simp only [frSt];rw [szAt_set ht.1 s0 (by rw [frSt_len]; omega)];simp only [writerTo] at hw ⊢;by_cases e : (f.pas k).To = s
   ·rw [if_pos e,if_pos e.symm]; simp [frSize]
   ·rw [if_neg e] at hw ⊢
    rw [if_neg (fun h=>e h.symm)];exact ih h0 hw
structure FrmOk (f : Frm) : Prop where
 bounds : f.Bounds
 many : 1 ≤ f.P.length ∧ f.P.length ≤ 12
 errs : frErrTo f f.P.length = 0
 out : (szAt (frSt f f.P.length) f.O).W ≠ 0
theorem frErr_zero {f : Frm} : frErr f = 0 ↔ FrmOk f:=by
 unfold frErr
 constructor
 ·intro h
  by_cases h1 : f.Bounds
  ·rw [if_neg (by simpa using h1)] at h
   by_cases h2 : 1 ≤ f.P.length ∧ f.P.length ≤ 12
   ·rw [if_neg (by simpa using h2)] at h
    by_cases h3 : frErrTo f f.P.length = 0
    ·rw [if_neg (by simpa using h3)] at h
     by_cases h4 : (szAt (frSt f f.P.length) f.O).W = 0
     ·rw [if_pos h4] at h; omega
     ·exact ⟨h1,h2,h3,h4⟩
    ·rw [if_pos h3] at h; exact absurd h h3
   ·rw [if_pos h2] at h; omega
  ·rw [if_pos h1] at h; omega
 ·rintro ⟨h1,h2,h3,h4⟩
  rw [if_neg (by simpa using h1),if_neg (by simpa using h2),if_neg (by simpa using h3),if_neg h4]
theorem FrmOk.pass {f : Frm} (h : FrmOk f) {k : Nat} (hk : k < f.P.length) : PassOk f.S (f.pas k) (frSt f k):=frOk h.errs hk
theorem FrmOk.err {f : Frm} (h : FrmOk f) {k : Nat} (hk : k ≤ f.P.length) : frErrTo f k = 0:=frErrTo_le h.errs hk
def frLast (f : Frm) : Int:=writerTo f f.P.length f.O
theorem FrmOk.last {f : Frm} (h : FrmOk f) : 0 ≤ frLast f ∧ frLast f < f.P.length:=wr_ok h.bounds h.errs (slot_iff.2 h.bounds.2.2.2) h.out
theorem FrmOk.srcA {f : Frm} (h : FrmOk f) {k : Nat} (hk : k < f.P.length) (ha : hasA (f.pas k).Op = true) : 0 ≤ writerTo f k (f.pas k).A ∧ writerTo f k (f.pas k).A < k :=
 wr_ok h.bounds (h.err (Nat.le_of_lt hk)) (slot_iff.2 ((h.pass hk).a ha)) ((h.pass hk).wa ha)
theorem FrmOk.srcB {f : Frm} (h : FrmOk f) {k : Nat} (hk : k < f.P.length) (hb : hasB (f.pas k).Op = true) : 0 ≤ writerTo f k (f.pas k).B ∧ writerTo f k (f.pas k).B < k :=
 wr_ok h.bounds (h.err (Nat.le_of_lt hk)) (slot_iff.2 ((h.pass hk).b hb)) ((h.pass hk).wb hb)
theorem FrmOk.src {f : Frm} (h : FrmOk f) {k : Nat} (hk : k < f.P.length) {j : Int} (hj : j ∈ srcs f k) : 0 ≤ j ∧ j < k:=by
 unfold srcs at hj;rw [List.mem_append] at hj;rcases hj with hj | hj
 ·by_cases ha : hasA (f.pas k).Op = true
  ·rw [if_pos ha] at hj; simp only [List.mem_singleton] at hj; subst hj; exact h.srcA hk ha
  ·rw [if_neg ha] at hj; simp at hj
 ·by_cases hb : hasB (f.pas k).Op = true
  ·rw [if_pos hb] at hj; simp only [List.mem_singleton] at hj; subst hj; exact h.srcB hk hb
  ·rw [if_neg hb] at hj; simp at hj
end Go.Proofs.YtibpmogmeoappabGreat
namespace Go.Proofs.YtibpmogmeoappabGreat
inductive Needs (f : Frm) : Nat → Prop
 | last : Needs f (frLast f).toNat
 | src {k : Nat} {j : Int} : Needs f k → j ∈ srcs f k → Needs f j.toNat
def markAll (out : List Bool) (l : List Int) : List Bool:=l.foldl (fun o s=>o.set s.toNat true) out
def keptTo (f : Frm) : Nat → List Bool → List Bool
 | 0,out=>out
 | k + 1,out=>keptTo f k (if out.getD k false = true then markAll out (srcs f k) else out)
def kept0 (f : Frm) : List Bool:=(List.replicate f.P.length false).set (frLast f).toNat true
def keptL (f : Frm) : List Bool:=keptTo f f.P.length (kept0 f)
theorem markAll_len (l : List Int) (out : List Bool) : (markAll out l).length = out.length:=by
 unfold markAll
 induction l generalizing out with
 | nil=>rfl
 | cons x l ih=>rw [List.foldl_cons,ih,List.length_set]
theorem keptTo_len (f : Frm) (k : Nat) (out : List Bool) : (keptTo f k out).length = out.length:=by
 induction k generalizing out with
 | zero=>rfl
 | succ k ih=>simp only [keptTo]; rw [ih]; split <;> simp [markAll_len]
theorem keptL_len (f : Frm) : (keptL f).length = f.P.length:=by unfold keptL kept0; rw [keptTo_len]; simp
theorem mark_true {out : List Bool} {i j : Nat} : (out.set i true).getD j false = true ↔ (out.getD j false = true ∨ (j = i ∧ i < out.length)):=by
 simp only [List.getD_eq_getElem?_getD,List.getElem?_set];by_cases e : i = j
 ·subst e
  rw [if_pos rfl];by_cases h : i < out.length
  ·rw [if_pos h]; simp [h]
  ·rw [if_neg h]; simp [h]
 ·rw [if_neg e]
  constructor
  ·intro h; exact .inl h
  ·rintro (h | ⟨h,_⟩)
   ·exact h
   ·exact absurd h.symm e
theorem markAll_true {l : List Int} {out : List Bool} {j : Nat} : (markAll out l).getD j false = true ↔ (out.getD j false = true ∨ ∃ s ∈ l,j = s.toNat ∧ j < out.length):=by
 unfold markAll
 induction l generalizing out with
 | nil=>simp
 | cons x l ih =>
   rw [List.foldl_cons,ih,mark_true];simp only [List.length_set,List.mem_cons]
   constructor
   ·rintro ((h | ⟨h1,h2⟩) | ⟨s,hs,h⟩)
    ·exact .inl h
    ·exact .inr ⟨x,.inl rfl,h1,by omega⟩
    ·exact .inr ⟨s,.inr hs,h⟩
   ·rintro (h | ⟨s,rfl | hs,h1,h2⟩)
    ·exact .inl (.inl h)
    ·exact .inl (.inr ⟨h1,by omega⟩)
    ·exact .inr ⟨s,hs,h1,h2⟩
structure Marks (f : Frm) (out : List Bool) : Prop where
 len : out.length = f.P.length
 last : out.getD (frLast f).toNat false = true
 closed : ∀ k,out.getD k false = true → ∀ j ∈ srcs f k,out.getD j.toNat false = true
 only : ∀ k,out.getD k false = true → Needs f k
theorem Marks.iff {f : Frm} {out : List Bool} (h : Marks f out) (k : Nat) : out.getD k false = true ↔ Needs f k:=by
 constructor
 ·exact h.only k
 ·intro hk
  induction hk with
  | last=>exact h.last
  | src _ hj ih=>exact h.closed _ ih _ hj
theorem Marks.eq {f : Frm} {out out' : List Bool} (h : Marks f out) (h' : Marks f out') : out = out':=by
 apply List.ext_getElem
 ·rw [h.len,h'.len]
 ·intro i h1 h2
  have e1:=h.iff i;have e2:=h'.iff i;rw [← e2] at e1;simp only [List.getD_eq_getElem?_getD,List.getElem?_eq_getElem h1,List.getElem?_eq_getElem h2,Option.getD_some] at e1;cases a : out[i] <;> cases b : out'[i] <;> simp_all
theorem lt_of_mark {out : List Bool} {k : Nat} (h : out.getD k false = true) : k < out.length:=by
 by_cases e : k < out.length
 ·exact e
 ·rw [List.getD_eq_getElem?_getD,List.getElem?_eq_none (by omega)] at h; cases h
structure MarksTo (f : Frm) (k : Nat) (out : List Bool) : Prop where
 len : out.length = f.P.length
 last : out.getD (frLast f).toNat false = true
 closed : ∀ i,k ≤ i → out.getD i false = true → ∀ j ∈ srcs f i,out.getD j.toNat false = true
 only : ∀ i,out.getD i false = true → Needs f i
theorem marksTo_start {f : Frm} (h : FrmOk f) : MarksTo f f.P.length (kept0 f):=by
 have hl:=h.last
 have hb : ∀ i,(kept0 f).getD i false = true ↔ i = (frLast f).toNat:=by
  intro i;unfold kept0;rw [mark_true]
  have : (List.replicate f.P.length false).getD i false = false:=by
   rw [List.getD_eq_getElem?_getD,List.getElem?_replicate]; split <;> rfl
  rw [this,List.length_replicate]
  constructor
  ·rintro (h | ⟨h,_⟩)
   ·cases h
   ·exact h
  ·intro h; exact .inr ⟨h,by omega⟩
 refine ⟨by simp [kept0],(hb _).2 rfl,fun i hi hm=>?_,fun i hm=>?_⟩
 ·have:=lt_of_mark hm
  simp only [kept0,List.length_set,List.length_replicate] at this;omega
 ·rw [(hb i).1 hm]; exact .last
theorem marksTo_step {f : Frm} (h : FrmOk f) {k : Nat} {out : List Bool} (hk : k < f.P.length) (hm : MarksTo f (k + 1) out) : MarksTo f k (if out.getD k false = true then markAll out (srcs f k) else out):=by
 by_cases e : out.getD k false = true
 ·rw [if_pos e]
  have hn:=hm.only k e;refine ⟨by rw [markAll_len]; exact hm.len,markAll_true.2 (.inl hm.last),fun i hi hmi j hj=>?_,fun i hmi=>?_⟩
  ·rw [markAll_true] at hmi ⊢
   rcases hmi with hmi | ⟨s,hs,h1,h2⟩
   ·by_cases e2 : i = k
    ·subst e2
     have:=h.src hk hj;have:=hm.len;exact .inr ⟨j,hj,rfl,by omega⟩
    ·exact .inl (hm.closed i (by omega) hmi j hj)
   ·have:=h.src hk hs
    omega
  ·rcases markAll_true.1 hmi with hmi | ⟨s,hs,rfl,_⟩
   ·exact hm.only i hmi
   ·exact .src hn hs
 ·rw [if_neg e]
  refine ⟨hm.len,hm.last,fun i hi hmi j hj=>?_,hm.only⟩;by_cases e2 : i = k
  ·subst e2; exact absurd hmi e
  ·exact hm.closed i (by omega) hmi j hj
theorem keptTo_marks {f : Frm} (h : FrmOk f) {k : Nat} {out : List Bool} (hk : k ≤ f.P.length) (hm : MarksTo f k out) : Marks f (keptTo f k out):=by
 induction k generalizing out with
 | zero=>exact ⟨hm.len,hm.last,fun i hi=>hm.closed i (by omega) hi,hm.only⟩
 | succ k ih=>exact ih (by omega) (marksTo_step h (by omega) hm)
theorem keptL_marks {f : Frm} (h : FrmOk f) : Marks f (keptL f):=keptTo_marks h (Nat.le_refl _) (marksTo_start h)
structure Waits (f : Frm) (out : List Bool) (work : List Int) : Prop where
 len : out.length = f.P.length
 last : out.getD (frLast f).toNat false = true ∨ frLast f ∈ work
 closed : ∀ k,out.getD k false = true → ∀ j ∈ srcs f k,out.getD j.toNat false = true ∨ j ∈ work
 only : ∀ k,out.getD k false = true → Needs f k
 work : ∀ j ∈ work,(0 ≤ j ∧ j < f.P.length) ∧ Needs f j.toNat
theorem waits_start {f : Frm} (h : FrmOk f) : Waits f (List.replicate f.P.length false) [frLast f]:=by
 have hl:=h.last
 have e : ∀ i,(List.replicate f.P.length false).getD i false = false:=by
  intro i; rw [List.getD_eq_getElem?_getD,List.getElem?_replicate]; split <;> rfl
 refine ⟨by simp,.inr (by simp),fun k hk=>?_,fun k hk=>?_,fun j hj=>?_⟩
 ·rw [e] at hk; cases hk
 ·rw [e] at hk; cases hk
 ·simp only [List.mem_singleton] at hj; subst hj; exact ⟨hl,.last⟩
theorem Waits.skip {f : Frm} {out : List Bool} {x : Int} {work : List Int} (h : Waits f out (x :: work)) (hx : out.getD x.toNat false = true) : Waits f out work:=by
 refine ⟨h.len,?_,fun k hk j hj=>?_,h.only,fun j hj=>h.work j (by simp [hj])⟩
 ·rcases h.last with hl | hl
  ·exact .inl hl
  ·rcases List.mem_cons.1 hl with e | hl
   ·rw [e]; exact .inl hx
   ·exact .inr hl
 ·rcases h.closed k hk j hj with hl | hl
  ·exact .inl hl
  ·rcases List.mem_cons.1 hl with e | hl
   ·rw [e]; exact .inl hx
   ·exact .inr hl
theorem Waits.take {f : Frm} (hf : FrmOk f) {out : List Bool} {x : Int} {work : List Int} (h : Waits f out (x :: work)) : Waits f (out.set x.toNat true) (work ++ srcs f x.toNat):=by
 have hx:=h.work x (by simp);have hlt : x.toNat < out.length:=by rw [h.len]; omega
 refine ⟨by simp [h.len],?_,fun k hk j hj=>?_,fun k hk=>?_,fun j hj=>?_⟩
 ·rw [mark_true]
  rcases h.last with hl | hl
  ·exact .inl (.inl hl)
  ·rcases List.mem_cons.1 hl with e | hl
   ·rw [e]; exact .inl (.inr ⟨rfl,hlt⟩)
   ·exact .inr (by simp [hl])
 ·rw [mark_true]
  rcases mark_true.1 hk with hk | ⟨rfl,_⟩
  ·rcases h.closed k hk j hj with hl | hl
   ·exact .inl (.inl hl)
   ·rcases List.mem_cons.1 hl with e | hl
    ·rw [e]; exact .inl (.inr ⟨rfl,hlt⟩)
    ·exact .inr (by simp [hl])
  ·exact .inr (by simp [hj])
 ·rcases mark_true.1 hk with hk | ⟨rfl,_⟩
  ·exact h.only k hk
  ·exact hx.2
 ·rcases List.mem_append.1 hj with hj | hj
  ·exact h.work j (by simp [hj])
  ·have hs:=hf.src (k:=x.toNat) (by omega) hj
   exact ⟨by omega,.src hx.2 hj⟩
theorem Waits.done {f : Frm} {out : List Bool} (hf : FrmOk f) (h : Waits f out []) : out = keptL f:=by
 refine Marks.eq (f:=f) ⟨h.len,?_,fun k hk j hj=>?_,h.only⟩ (keptL_marks hf)
 ·rcases h.last with hl | hl
  ·exact hl
  ·cases hl
 ·rcases h.closed k hk j hj with hl | hl
  ·exact hl
  ·cases hl
def unmarked (out : List Bool) : Nat:=(out.filter (! ·)).length
theorem unmarked_set {out : List Bool} {i : Nat} (hi : i < out.length) (h : out.getD i false = false) : unmarked (out.set i true) + 1 = unmarked out:=by
 unfold unmarked
 induction out generalizing i with
 | nil=>simp at hi
 | cons x xs ih =>
   cases i with
   | zero =>
     simp only [List.getD_cons_zero] at h;subst h;simp
   | succ i =>
     simp only [List.getD_cons_succ] at h;have:=ih (by simpa using hi) h;cases x <;> simp_all
theorem unmarked_le (out : List Bool) : unmarked out ≤ out.length:=by unfold unmarked; exact List.length_filter_le _ _
def cullTo (f : Frm) (k : Nat) : List Pas:=(List.range k).flatMap fun i=>if (keptL f).getD i false = true then [f.pas i] else []
def frCull (f : Frm) : Frm:=⟨f.W,f.H,f.S,f.O,cullTo f f.P.length⟩
def noFrm : Frm:=⟨0,0,0,0,[]⟩
def lastAns (f : Frm) : Int:=if frErr f = 0 then frLast f else 0
def keptAns (f : Frm) : List Bool:=if frErr f = 0 then keptL f else []
def cullAns (f : Frm) : Frm:=if frErr f = 0 then frCull f else noFrm
end Go.Proofs.YtibpmogmeoappabGreat
namespace Go.Proofs.YtibpmogmeoappabGreat
structure Pln where
 Order : List Int
 Places : List Int
 deriving DecidableEq
structure Spn where
 First : Int
 Last : Int
 deriving DecidableEq
def stepFrom : List Int → Int → Int → Int
 | [],_,_=>-1
 | x :: xs,i,k=>if x = k then i else stepFrom xs (i + 1) k
def stepOf (l : List Int) (k : Int) : Int:=stepFrom l 0 k
theorem stepFrom_cases (l : List Int) (b k : Int) : (stepFrom l b k = -1 ∧ k ∉ l) ∨ ∃ i : Nat,stepFrom l b k = b + i ∧ l[i]? = some k ∧ ∀ j,j < i → l[j]? ≠ some k:=by
 induction l generalizing b with
 | nil=>exact .inl ⟨rfl,by simp⟩
 | cons x xs ih =>
   by_cases e : x = k
   ·refine .inr ⟨0,?_,by simp [e],fun j hj=>by omega⟩
    simp only [stepFrom]; rw [if_pos e]; simp
   ·simp only [stepFrom]; rw [if_neg e]
    rcases ih (b + 1) with ⟨h1,h2⟩ | ⟨i,h1,h2,h3⟩
    ·exact .inl ⟨h1,by simp only [List.mem_cons,not_or]; exact ⟨fun h=>e h.symm,h2⟩⟩
    ·refine .inr ⟨i + 1,by rw [h1]; omega,by simpa using h2,fun j hj=>?_⟩
     cases j with
     | zero=>simpa using e
     | succ j=>simpa using h3 j (by omega)
theorem stepOf_cases (l : List Int) (k : Int) : (stepOf l k = -1 ∧ k ∉ l) ∨ ∃ i : Nat,stepOf l k = i ∧ l[i]? = some k ∧ ∀ j,j < i → l[j]? ≠ some k:=by
 rcases stepFrom_cases l 0 k with h | ⟨i,h1,h2,h3⟩
 ·exact .inl h
 ·exact .inr ⟨i,by unfold stepOf; rw [h1]; omega,h2,h3⟩
theorem stepOf_hit {l : List Int} {k : Int} {i : Nat} (hi : l[i]? = some k) (hn : ∀ j,j < i → l[j]? ≠ some k) : stepOf l k = i:=by
 rcases stepOf_cases l k with ⟨_,h⟩ | ⟨m,h1,h2,h3⟩
 ·exact absurd (List.mem_of_getElem? hi) h
 ·rw [h1]
  have : ¬ m < i:=fun h=>hn m h h2;have : ¬ i < m:=fun h=>h3 i h hi;omega
theorem stepOf_none {l : List Int} {k : Int} (h : k ∉ l) : stepOf l k = -1:=by
 rcases stepOf_cases l k with ⟨h1,_⟩ | ⟨i,_,h2,_⟩
 ·exact h1
 ·exact absurd (List.mem_of_getElem? h2) h
theorem stepOf_mem {l : List Int} {k : Int} : 0 ≤ stepOf l k ↔ k ∈ l:=by
 rcases stepOf_cases l k with ⟨h1,h2⟩ | ⟨i,h1,h2,_⟩
 ·rw [h1]; constructor
  ·intro h; omega
  ·intro h; exact absurd h h2
 ·rw [h1]; constructor
  ·intro _; exact List.mem_of_getElem? h2
  ·intro _; omega
theorem stepOf_bd (l : List Int) (k : Int) : -1 ≤ stepOf l k ∧ stepOf l k < max (l.length : Int) 1:=by
 rcases stepOf_cases l k with ⟨h1,_⟩ | ⟨i,h1,h2,_⟩
 ·omega
 ·have : i < l.length:=by
   by_cases e : i < l.length
   ·exact e
   ·rw [List.getElem?_eq_none (by omega)] at h2; cases h2
  omega
theorem stepOf_neg {l : List Int} {k : Int} (h : ¬ 0 ≤ stepOf l k) : stepOf l k = -1:=by have:=(stepOf_bd l k).1; omega
def Pln.ord (p : Pln) (i : Nat) : Int:=p.Order.getD i 0
def Pln.pl (p : Pln) (k : Nat) : Int:=p.Places.getD k 0
theorem Pln.ord_at {p : Pln} {i : Nat} (h : i < p.Order.length) : p.Order[i]? = some (p.ord i):=by
 unfold Pln.ord; rw [List.getD_eq_getElem?_getD,List.getElem?_eq_getElem h]; rfl
def StepOk (f : Frm) (p : Pln) (i : Nat) : Prop:=(0 ≤ p.ord i ∧ p.ord i ≤ (f.P.length : Int) - 1) ∧ stepOf p.Order (p.ord i) = i ∧ ∀ j ∈ srcs f (p.ord i).toNat,0 ≤ stepOf p.Order j ∧ stepOf p.Order j < i
def PlaceOk (f : Frm) (p : Pln) (k : Nat) : Prop:=((keptL f).getD k false = true → 0 ≤ stepOf p.Order k) ∧ (0 ≤ stepOf p.Order k → 0 ≤ p.pl k ∧ p.pl k ≤ 4096) ∧ (¬ 0 ≤ stepOf p.Order k → p.pl k = -1)
instance (f : Frm) (p : Pln) (i : Nat) : Decidable (StepOk f p i):=by unfold StepOk; exact inferInstance
instance (f : Frm) (p : Pln) (i : Nat) : Decidable (PlaceOk f p i):=by unfold PlaceOk; exact inferInstance
structure InOrder (f : Frm) (p : Pln) : Prop where
 places : p.Places.length = f.P.length
 len : p.Order.length ≤ f.P.length
 step : ∀ i,i < p.Order.length → StepOk f p i
 pass : ∀ k,k < f.P.length → PlaceOk f p k
instance (f : Frm) (p : Pln) : Decidable (InOrder f p) :=
 decidable_of_iff (p.Places.length = f.P.length ∧ p.Order.length ≤ f.P.length ∧ (∀ i,i < p.Order.length → StepOk f p i) ∧ ∀ k,k < f.P.length → PlaceOk f p k) ⟨fun ⟨a,b,c,d⟩=>⟨a,b,c,d⟩,fun ⟨a,b,c,d⟩=>⟨a,b,c,d⟩⟩
def lastUse (f : Frm) (p : Pln) (k : Int) : Nat → Int
 | 0=>stepOf p.Order k
 | m + 1=>if k ∈ srcs f (p.ord m).toNat then (m : Int) else lastUse f p k m
def spanOf (f : Frm) (p : Pln) (k : Nat) : Spn:=⟨stepOf p.Order k,if (k : Int) = frLast f then (p.Order.length : Int) - 1 else lastUse f p k p.Order.length⟩
def spansTo (f : Frm) (p : Pln) (k : Nat) : List Spn:=(List.range k).map (spanOf f p)
theorem spansTo_succ (f : Frm) (p : Pln) (k : Nat) : spansTo f p (k + 1) = spansTo f p k ++ [spanOf f p k]:=by simp [spansTo,List.range_succ]
def areaOf (f : Frm) (k : Nat) : Int:=(frSize f k).W * (frSize f k).H
def meetB (a b : Spn) : Bool:=decide (a.First ≤ b.Last ∧ b.First ≤ a.Last)
def Clash (f : Frm) (p : Pln) (j k : Nat) : Prop:=(meetB (spanOf f p j) (spanOf f p k) = true) ∧ p.pl j < p.pl k + areaOf f k ∧ p.pl k < p.pl j + areaOf f j
instance (f : Frm) (p : Pln) (j k : Nat) : Decidable (Clash f p j k):=by unfold Clash; exact inferInstance
theorem Clash.symm {f : Frm} {p : Pln} {j k : Nat} (h : Clash f p j k) : Clash f p k j:=by
 unfold Clash meetB at *;rw [decide_eq_true_iff] at *;exact ⟨⟨h.1.2,h.1.1⟩,h.2.2,h.2.1⟩
def FitAt (f : Frm) (p : Pln) (room : Int) (k : Nat) : Prop:=p.pl k = -1 ∨ ((0 ≤ p.pl k ∧ p.pl k ≤ room - areaOf f k) ∧ ∀ j,j < k → p.pl j = -1 ∨ ¬ Clash f p k j)
instance (f : Frm) (p : Pln) (room : Int) (k : Nat) : Decidable (FitAt f p room k):=by unfold FitAt; exact inferInstance
def Fits (f : Frm) (p : Pln) (room : Int) : Prop:=∀ k,k < f.P.length → FitAt f p room k
instance (f : Frm) (p : Pln) (room : Int) : Decidable (Fits f p room):=by unfold Fits; exact inferInstance
def planErr (f : Frm) (p : Pln) : Int:=if frErr f ≠ 0 then frErr f else if InOrder f p then 0 else 1
def pckErr (f : Frm) (p : Pln) (room : Int) : Int:=if frErr f ≠ 0 then frErr f else if ¬ (0 ≤ room ∧ room ≤ 4096) then 3 else if ¬ InOrder f p then 1 else if ¬ Fits f p room then 7 else 0
def peakTo (f : Frm) (p : Pln) : Nat → Int
 | 0=>0
 | k + 1=>if p.pl k = -1 then peakTo f p k else max (peakTo f p k) (p.pl k + areaOf f k)
def peakOf (f : Frm) (p : Pln) : Int:=peakTo f p f.P.length
def needTo (f : Frm) (p : Pln) (i : Int) : Nat → Int
 | 0=>0
 | k + 1=>if p.pl k ≠ -1 ∧ meetB (spanOf f p k) ⟨i,i⟩ = true then needTo f p i k + areaOf f k else needTo f p i k
def floorTo (f : Frm) (p : Pln) : Nat → Int
 | 0=>0
 | i + 1=>max (floorTo f p i) (needTo f p i f.P.length)
def floorOf (f : Frm) (p : Pln) : Int:=floorTo f p p.Order.length
def spansAns (f : Frm) (p : Pln) : List Spn:=if planErr f p = 0 then spansTo f p f.P.length else []
def peakAns (f : Frm) (p : Pln) : Int:=if planErr f p = 0 then peakOf f p else 0
def floorAns (f : Frm) (p : Pln) : Int:=if planErr f p = 0 then floorOf f p else 0
structure OrdTo (f : Frm) (p : Pln) (i : Nat) : Prop where
 le : i ≤ p.Order.length
 rng : ∀ m,m < i → 0 ≤ p.ord m ∧ p.ord m < f.P.length
 uniq : ∀ m m',m < m' → m' < i → p.ord m ≠ p.ord m'
 srcs : ∀ m,m < i → ∀ j ∈ srcs f (p.ord m).toNat,∃ m',m' < m ∧ p.ord m' = j
theorem OrdTo.step {f : Frm} {p : Pln} {i m : Nat} (h : OrdTo f p i) (hm : m < i) : stepOf p.Order (p.ord m) = m:=by
 refine stepOf_hit (p.ord_at (by have:=h.le; omega)) fun j hj=>?_;rw [p.ord_at (by have:=h.le; omega)];intro e;injection e with e;exact h.uniq j m hj hm e
theorem ordTo_of {f : Frm} {p : Pln} (h : InOrder f p) : OrdTo f p p.Order.length:=by
 refine ⟨Nat.le_refl _,fun m hm=>?_,fun m m' h1 h2 e=>?_,fun m hm j hj=>?_⟩
 ·have:=(h.step m hm).1; omega
 ·have a:=(h.step m (by omega)).2.1
  have b:=(h.step m' h2).2.1;rw [e,b] at a;omega
 ·have hs:=(h.step m hm).2.2 j hj
  rcases stepOf_cases p.Order j with ⟨h1,_⟩ | ⟨i,h1,h2,_⟩
  ·omega
  ·refine ⟨i,by omega,?_⟩
   unfold Pln.ord; rw [List.getD_eq_getElem?_getD,h2]; rfl
theorem pigeon (N : Nat) : ∀ (g : Nat → Int) (n : Nat),(∀ m,m < n → 0 ≤ g m ∧ g m < N) → (∀ m m',m < m' → m' < n → g m ≠ g m') → n ≤ N:=by
 induction N with
 | zero =>
   intro g n h _;by_cases e : n = 0
   ·omega
   ·have:=h 0 (by omega); omega
 | succ N ih =>
   intro g n h hu;by_cases hm : ∃ m,m < n ∧ g m = N
   ·obtain ⟨m,hm,e⟩:=hm
    have:=ih (fun i=>if i < m then g i else g (i + 1)) (n - 1) (fun i hi=>?_) (fun i i' h1 h2=>?_)
    ·omega
    ·split
     ·rename_i hlt
      have a:=h i (by omega);have b:=hu i m hlt hm;omega
     ·rename_i hlt
      have a:=h (i + 1) (by omega);have b:=hu m (i + 1) (by omega) (by omega);omega
    ·split
     ·split
      ·exact hu i i' h1 (by omega)
      ·exact hu i (i' + 1) (by omega) (by omega)
     ·split
      ·omega
      ·exact hu (i + 1) (i' + 1) (by omega) (by omega)
   ·have:=ih g n (fun i hi=>?_) hu
    ·omega
    ·have a:=h i hi
     have b : ¬ g i = N:=fun e=>hm ⟨i,hi,e⟩;omega
theorem inOrder_of {f : Frm} {p : Pln} (ho : OrdTo f p p.Order.length) (hl : p.Places.length = f.P.length) (hp : ∀ k,k < f.P.length → PlaceOk f p k) : InOrder f p:=by
 refine ⟨hl,pigeon _ p.ord _ ho.rng ho.uniq,fun i hi=>⟨by have:=ho.rng i hi; omega,ho.step hi,fun j hj=>?_⟩,hp⟩;obtain ⟨m,hm,e⟩:=ho.srcs i hi j hj;rw [← e,ho.step (by omega)];omega
theorem ordTo_succ {f : Frm} {p : Pln} {i : Nat} (h : OrdTo f p i) (hi : i < p.Order.length) (hr : 0 ≤ p.ord i ∧ p.ord i < f.P.length) (hu : ∀ m,m < i → p.ord m ≠ p.ord i) (hs : ∀ j ∈ Go.Proofs.YtibpmogmeoappabGreat.srcs f (p.ord i).toNat,∃ m',m' < i ∧ p.ord m' = j) : OrdTo f p (i + 1):=by
 refine ⟨hi,fun m hm=>?_,fun m m' h1 h2=>?_,fun m hm=>?_⟩
 ·by_cases e : m < i
  ·exact h.rng m e
  ·rw [show m = i by omega]; exact hr
 ·by_cases e : m' < i
  ·exact h.uniq m m' h1 e
  ·rw [show m' = i by omega]; exact hu m (by omega)
 ·by_cases e : m < i
  ·exact h.srcs m e
  ·rw [show m = i by omega]; exact hs
def DoneTo (p : Pln) (i : Nat) (k : Int) : Prop:=∃ m,m < i ∧ p.ord m = k
theorem doneTo_all {p : Pln} {k : Int} : DoneTo p p.Order.length k ↔ 0 ≤ stepOf p.Order k:=by
 rw [stepOf_mem]
 constructor
 ·rintro ⟨m,hm,e⟩; rw [← e]; exact List.mem_of_getElem? (p.ord_at hm)
 ·intro h
  obtain ⟨i,hi,e⟩:=List.getElem_of_mem h;refine ⟨i,hi,?_⟩;unfold Pln.ord; rw [List.getD_eq_getElem?_getD,List.getElem?_eq_getElem hi,e]; rfl
end Go.Proofs.YtibpmogmeoappabGreat
namespace Go.Proofs.YtibpmogmeoappabGreat
section
variable {f : Frm} {p : Pln}
theorem placed {k : Nat} (h : InOrder f p) (hk : k < f.P.length) : p.pl k ≠ -1 ↔ DoneTo p p.Order.length k:=by
 have hp:=h.pass k hk;rw [doneTo_all]
 constructor
 ·intro hn
  by_cases e : 0 ≤ stepOf p.Order k
  ·exact e
  ·exact absurd (hp.2.2 e) hn
 ·intro e
  have:=hp.2.1 e;omega
def FitsOrd (f : Frm) (p : Pln) (room : Int) (i : Nat) : Prop:=p.pl (p.ord i).toNat + areaOf f (p.ord i).toNat ≤ room ∧ ∀ j,j < i → ¬ Clash f p (p.ord j).toNat (p.ord i).toNat
theorem fits_ord {room : Int} (h : InOrder f p) : (∀ i,i < p.Order.length → FitsOrd f p room i) ↔ Fits f p room:=by
 have ho:=ordTo_of h
 constructor
 ·intro hf k hk
  by_cases e : p.pl k = -1
  ·exact .inl e
  ·obtain ⟨m,hm,em⟩:=(placed h hk).1 e
   have em' : (p.ord m).toNat = k:=by omega
   have h1:=hf m hm;have h2:=(h.pass k hk).2.1 (doneTo_all.1 ⟨m,hm,em⟩);refine .inr ⟨⟨h2.1,by have:=h1.1; rw [em'] at this; omega⟩,fun j hj=>?_⟩;by_cases e2 : p.pl j = -1
   ·exact .inl e2
   ·right
    obtain ⟨m',hm',em2⟩:=(placed h (by omega : j < f.P.length)).1 e2;have em2' : (p.ord m').toNat = j:=by omega
    intro hc;by_cases hlt : m' < m
    ·have:=h1.2 m' hlt
     rw [em',em2'] at this;exact this hc.symm
    ·by_cases hlt2 : m < m'
     ·have:=(hf m' hm').2 m hlt2
      rw [em',em2'] at this;exact this hc
     ·have : m = m':=by omega
      subst this;omega
 ·intro hf i hi
  have hr:=ho.rng i hi;have hk : (p.ord i).toNat < f.P.length:=by omega
  have hd : DoneTo p p.Order.length ((p.ord i).toNat : Nat):=⟨i,hi,by omega⟩;have hn:=(placed h hk).2 hd;rcases hf _ hk with e | ⟨h1,h2⟩
  ·exact absurd e hn
  ·refine ⟨by omega,fun j hj hc=>?_⟩
   have hrj:=ho.rng j (by omega);have hkj : (p.ord j).toNat < f.P.length:=by omega
   have hnj:=(placed h hkj).2 ⟨j,by omega,by omega⟩;have hne:=ho.uniq j i hj hi
   by_cases hlt : (p.ord j).toNat < (p.ord i).toNat
   ·rcases h2 _ hlt with e | e
    ·exact hnj e
    ·exact e hc.symm
   ·rcases hf _ hkj with e | ⟨_,h3⟩
    ·exact hnj e
    ·rcases h3 (p.ord i).toNat (by omega) with e | e
     ·exact hn e
     ·exact e hc
def peakOrd (f : Frm) (p : Pln) : Nat → Int
 | 0=>0
 | m + 1=>max (peakOrd f p m) (p.pl (p.ord m).toNat + areaOf f (p.ord m).toNat)
def sumIf (q : Nat → Bool) (g : Nat → Int) : Nat → Int
 | 0=>0
 | n + 1=>if q n = true then sumIf q g n + g n else sumIf q g n
def needOrd (f : Frm) (p : Pln) (i : Int) : Nat → Int
 | 0=>0
 | m + 1=>if (spanOf f p (p.ord m).toNat).First ≤ i ∧ i ≤ (spanOf f p (p.ord m).toNat).Last then needOrd f p i m + areaOf f (p.ord m).toNat else needOrd f p i m
def doneB (p : Pln) (m : Nat) (k : Nat) : Bool:=(List.range m).any fun j=>p.ord j == (k : Int)
def atB (f : Frm) (p : Pln) (i : Int) (k : Nat) : Bool:=decide ((spanOf f p k).First ≤ i ∧ i ≤ (spanOf f p k).Last)
end
end Go.Proofs.YtibpmogmeoappabGreat
namespace Go.Proofs.YtibpmogmeoappabGreat
def sumN (g : Nat → Int) : Nat → Int
 | 0=>0
 | n + 1=>sumN g n + g n
def inside01 (a b : Int) (x : Nat) : Int:=if a ≤ (x : Int) ∧ (x : Int) < b then 1 else 0
section
variable {f : Frm} {p : Pln}
theorem area_bd (hf : FrmOk f) {k : Nat} (hk : k < f.P.length) : 1 ≤ areaOf f k ∧ areaOf f k ≤ 256:=by
 have ho:=passSize_fine hf.bounds.1 hf.bounds.2.1 (frSt_fine hf.bounds (hf.err (Nat.le_of_lt hk))) (hf.pass hk);unfold areaOf frSize;exact mul_bd ho.1.1 ho.1.2 ho.2.1 ho.2.2
theorem pckErr_of {room : Int} (h1 : FrmOk f) (h2 : 0 ≤ room ∧ room ≤ 4096) (h3 : InOrder f p) : pckErr f p room = if Fits f p room then 0 else 7:=by
 unfold pckErr;rw [if_neg (by simpa using frErr_zero.2 h1),if_neg (by simpa using h2),if_neg (by simpa using h3)];by_cases h4 : Fits f p room
 ·rw [if_pos h4,if_neg (by simpa using h4)]
 ·rw [if_neg h4,if_pos h4]
end
end Go.Proofs.YtibpmogmeoappabGreat
namespace Go.Proofs.YtibpmogmeoappabGreat
section
variable {f : Frm} {p : Pln}
def stepsL (p : Pln) (i : Nat) : List (Int × Int):=(List.range i).map fun m=>(p.ord m,(m : Int))
def findS (l : List (Int × Int)) (k : Int) : Option Int:=(l.find? fun q=>q.1 == k).map (·.2)
theorem stepsL_succ (p : Pln) (i : Nat) : stepsL p (i + 1) = stepsL p i ++ [(p.ord i,(i : Int))]:=by simp [stepsL,List.range_succ]
theorem findS_none {i : Nat} {k : Int} (h : ¬ DoneTo p i k) : findS (stepsL p i) k = none:=by
 unfold findS;rw [List.find?_eq_none.2 (fun q hq=>?_)]
 ·rfl
 ·unfold stepsL at hq
  obtain ⟨m,hm,rfl⟩:=List.mem_map.1 hq;simp only [beq_iff_eq];exact fun e=>h ⟨m,List.mem_range.1 hm,e⟩
theorem findS_some : ∀ {i : Nat} {m : Nat},(∀ a b,a < b → b < i → p.ord a ≠ p.ord b) → m < i → findS (stepsL p i) (p.ord m) = some (m : Int)
 | 0,m,_,hm=>by omega
 | i + 1, m, hu, hm => by
   have hfa : ∀ (l : List (Int × Int)) (q : Int × Int) (k : Int),findS (l ++ [q]) k = (findS l k).or (if q.1 = k then some q.2 else none):=by
    intro l q k;unfold findS;rw [List.find?_append]
    cases e : l.find? (fun q=>q.1 == k) with
    | some y=>rfl
    | none =>
      by_cases e2 : q.1 = k
      ·simp [e2]
      ·simp [e2]
   rw [stepsL_succ,hfa];by_cases e : m < i
   ·rw [findS_some (fun a b h1 h2=>hu a b h1 (by omega)) e]; rfl
   ·obtain rfl : m = i:=by omega
    rw [findS_none (fun ⟨a,ha,e⟩=>hu a m ha (by omega) e),if_pos rfl]; rfl
instance (p : Pln) (i : Nat) (k : Int) : Decidable (DoneTo p i k):=decidable_of_iff (∃ m : Fin i,p.ord m = k) ⟨fun ⟨m,h⟩=>⟨m,m.2,h⟩,fun ⟨m,h1,h2⟩=>⟨⟨m,h1⟩,h2⟩⟩
def OrderOk (f : Frm) (p : Pln) : Prop:=OrdTo f p p.Order.length ∧ ∀ k,k < f.P.length → (keptL f).getD k false = true → DoneTo p p.Order.length k
def PlaceIs (p : Pln) (k : Nat) : Prop:=(DoneTo p p.Order.length k → 0 ≤ p.pl k ∧ p.pl k ≤ 4096) ∧ (¬ DoneTo p p.Order.length k → p.pl k = -1)
def PlacesOk (f : Frm) (p : Pln) : Prop:=p.Places.length = f.P.length ∧ ∀ k,k < f.P.length → PlaceIs p k
theorem inOrder_iff : InOrder f p ↔ OrderOk f p ∧ PlacesOk f p:=by
 constructor
 ·intro h
  refine ⟨⟨ordTo_of h,fun k hk h1=>doneTo_all.2 ((h.pass k hk).1 h1)⟩,h.places,fun k hk=>⟨fun h1=>(h.pass k hk).2.1 (doneTo_all.1 h1),fun h1=>(h.pass k hk).2.2 (fun e=>h1 (doneTo_all.2 e))⟩⟩
 ·rintro ⟨⟨h1,h2⟩,h3,h4⟩
  exact inOrder_of h1 h3 fun k hk=>⟨fun e=>doneTo_all.1 (h2 k hk e),fun e=>(h4 k hk).1 (doneTo_all.2 e),fun e=>(h4 k hk).2 (fun d=>e (doneTo_all.1 d))⟩
def spanPart (f : Frm) (p : Pln) (i : Nat) (l : List Int) (k : Nat) : Spn:=⟨stepOf p.Order k,if (k : Int) ∈ l then (i : Int) else lastUse f p k i⟩
theorem spanPart_snoc (i : Nat) (l : List Int) (j : Int) (k : Nat) : spanPart f p i (l ++ [j]) k = if (k : Int) = j then ⟨(spanPart f p i l k).First,i⟩ else spanPart f p i l k:=by
 unfold spanPart;by_cases e : (k : Int) = j
 ·rw [if_pos e,if_pos (by simp [e])]
 ·rw [if_neg e]
  simp [e]
theorem spanPart_next (i : Nat) (k : Nat) : spanPart f p i (srcs f (p.ord i).toNat) k = spanPart f p (i + 1) [] k:=by
 unfold spanPart;rw [if_neg (show ¬ (k : Int) ∈ ([] : List Int) by simp)];rfl
theorem spanPart_start (k : Nat) : spanPart f p 0 [] k = ⟨stepOf p.Order k,stepOf p.Order k⟩:=by unfold spanPart; rw [if_neg (by simp)]; rfl
theorem spanOf_part (k : Nat) : spanOf f p k = if (k : Int) = frLast f then ⟨(spanPart f p p.Order.length [] k).First,(p.Order.length : Int) - 1⟩ else spanPart f p p.Order.length [] k:=by
 unfold spanPart spanOf;by_cases e : (k : Int) = frLast f
 ·rw [if_pos e,if_pos e]
 ·rw [if_neg e,if_neg e,if_neg (by simp)]
end
end Go.Proofs.YtibpmogmeoappabGreat
