/- Memory: a slice reads as cells, as integers; what is kept while memory grows. -/
import Derived.Test.YtibpmogmeoappabGreatJPlain
import Derived.WalkKit
import Derived.WalkLawsBesides
import Derived.WalkSpells
import Derived.Deep.QuietTactic
import Derived.BigQuiet
import Derived.BigGuardPart
import Derived.Lib.Hide
import Derived.Deep.AppendLies
import Derived.Deep.LoopGhost
import Derived.Deep.RegionHeld3
import Derived.Deep.RegionLaw
import Derived.Deep.RegionWith
import Derived.StillTailTactics
import Derived.Deep.DeepMust
import Derived.Maps.AppendAt
import Derived.Shelf.Abstract
import Derived.OrdersHeld
namespace Go.Proofs.YtibpmogmeoappabGreat
open Go.RowKit
theorem lsa {α : Type} {l : List α} {i : Nat} {a : α} : l.toArray.setIfInBounds i a = (l.set i a).toArray:=List.setIfInBounds_toArray ..
theorem lsz {α : Type} {a b : α} {l : List α} : (a :: l).set 0 b = b :: l:=rfl
theorem lss {α : Type} {a b : α} {l : List α} {n : Nat} : (a :: l).set (n + 1) b = a :: l.set n b:=rfl
theorem hide {p : Prop} (h : p) : Hid p:=h
theorem unhide {p : Prop} (h : Hid p) : p:=h
def Cells (w : World) (A : Option Addr) (cs : List Value) : Prop :=
 ∀ i,i < cs.length → ∃ b o,A = some ⟨b,o,none⟩ ∧ b < w.heap.size ∧ w.cell? ⟨b,o + i,none⟩ = some (cs.getD i undef)
def NewFrom (B : Nat) (A : Option Addr) : Prop:=∀ a,A = some a → B ≤ a.block
theorem NewFrom.mono {B B' : Nat} {A : Option Addr} (h : NewFrom B A) (hB : B' ≤ B) : NewFrom B' A:=fun a e=>Nat.le_trans hB (h a e)
theorem NewFrom.none_ (B : Nat) : NewFrom B none:=fun a e=>by cases e
theorem NewFrom.some_ {B g o : Nat} (h : B ≤ g) : NewFrom B (some ⟨g,o,none⟩):=fun a e=>by injection e with e; subst e; exact h
def Ints (w : World) (A : Option Addr) (xs : List Int) : Prop:=Cells w A (xs.map (.int .i64))
section
variable {w w' : World} {A : Option Addr} {cs : List Value} {xs : List Int}
theorem Cells.keep (h : Cells w A cs) (hb : Below w.heap.size w w') : Cells w' A cs:=by
 intro i hi;obtain ⟨b,o,hA,hlt,hc⟩:=h i hi;exact ⟨b,o,hA,Nat.lt_of_lt_of_le hlt hb.size,(hb.cell (p:=⟨b,o + i,none⟩) hlt).trans hc⟩
theorem Cells.nil (w : World) (A : Option Addr) : Cells w A []:=by intro i hi; simp at hi
theorem Ints.nil (w : World) (A : Option Addr) : Ints w A []:=Cells.nil w A
theorem Ints.keep (h : Ints w A xs) (hb : Below w.heap.size w w') : Ints w' A xs:=Cells.keep h hb
theorem Ints.at_ (h : Ints w A xs) (i : Nat) (hi : i < xs.length) :
 ∃ b o x,A = some ⟨b,o,none⟩ ∧ b < w.heap.size ∧ xs[i]? = some x ∧ w.cell? ⟨b,o + i,none⟩ = some (.int .i64 x):=by
 obtain ⟨b,o,hA,hlt,hc⟩:=h i (by simpa using hi);refine ⟨b,o,xs[i],hA,hlt,List.getElem?_eq_getElem hi,?_⟩;rw [hc]; simp [List.getD,hi]
theorem Cells.far (h : Cells w A cs) {B : Nat} (hA : NewFrom B A) {p : Addr} (hp : p.block < B) (u : Value) : Cells (w.setCell p u) A cs:=by
 intro i hi;obtain ⟨b,o,e,hlt,hc⟩:=h i hi;have hB:=hA _ e;refine ⟨b,o,e,by simpa [World.setCell] using hlt,?_⟩;rw [World.cell?_setCell_other w p ⟨b,o + i,none⟩ u (fun e=>by subst e; simp only at hp hB; omega)];exact hc
theorem Ints.far (h : Ints w A xs) {B : Nat} (hA : NewFrom B A) {p : Addr} (hp : p.block < B) (u : Value) : Ints (w.setCell p u) A xs:=Cells.far h hA hp u
theorem Cells.of_own {base : Nat} {e : TypeId} {c n size : Nat} (h : w.ownsRow base e size (.slice A n c) n cs) (hn : cs.length = n * size) : Cells w A cs:=by
 intro i hi
 have h0 : 0 < n:=by
  rcases Nat.eq_zero_or_pos n with h0 | h0
  ·subst h0; omega
  ·exact h0
 obtain ⟨g,cap,hv,_,hlt⟩:=h.form h0;injection hv with hA;subst hA;refine ⟨g,0,rfl,hlt,?_⟩;have:=h.cells (g:=g) rfl i _ (List.getElem?_eq_getElem hi);rw [Addr.add_lit] at this;rw [this]; simp [List.getD,hi]
end
def Blk (w : World) (g : Nat) (t : TypeId) (cs : List Value) : Prop:=w.heap[g]? = some (.cells cs.toArray t (0,0))
section
variable {w w' : World} {g : Nat} {t : TypeId} {cs : List Value}
theorem Blk.lt (h : Blk w g t cs) : g < w.heap.size:=by
 unfold Blk at h;exact (Array.getElem?_eq_some_iff.1 h).1
theorem Blk.cell (h : Blk w g t cs) (i : Nat) : w.cell? ⟨g,i,none⟩ = cs[i]?:=by
 unfold Blk at h;simp [World.cell?,h]
theorem Blk.frozen (h : Blk w g t cs) (i : Nat) : w.frozen? ⟨g,i,none⟩ = false:=by
 unfold Blk at h;simp [World.frozen?,h]
theorem Blk.new (w : World) (t : TypeId) (cs : List Value) : Blk (w.alloc (.cells cs.toArray t)) w.heap.size t cs:=by
 unfold Blk
 show (w.heap.push _)[w.heap.size]? = _
 simp
theorem Blk.below {B : Nat} (h : Blk w g t cs) (hb : Below B w w') (hg : g < B) : Blk w' g t cs:=(hb.block g hg).trans h
theorem Blk.keep (h : Blk w g t cs) (hb : Below w.heap.size w w') : Blk w' g t cs:=h.below hb h.lt
theorem Blk.drew (h : Blk w g t cs) : Blk w.drew g t cs:=h
theorem Blk.alloc (h : Blk w g t cs) (o : Obj) : Blk (w.alloc o) g t cs:=h.keep ((Below.refl _ _).alloc (Nat.le_refl _) o)
theorem Blk.set_ (h : Blk w g t cs) (i : Nat) (u : Value) : Blk (w.setCell ⟨g,i,none⟩ u) g t (cs.set i u):=by
 unfold Blk at h ⊢;simp [World.setCell,Array.getElem?_modify,h]
theorem Blk.far (h : Blk w g t cs) {p : Addr} (hp : g ≠ p.block) (u : Value) : Blk (w.setCell p u) g t cs:=(Below.heap_setCell w p u g hp).trans h
theorem Blk.cells (h : Blk w g t cs) : Cells w (some ⟨g,0,none⟩) cs:=by
 intro i hi;refine ⟨g,0,rfl,h.lt,?_⟩;rw [Nat.zero_add,h.cell,List.getElem?_eq_getElem hi];simp [List.getD,hi]
end
theorem bcell {W w1 : World} (hb : Below W.heap.size W w1) : (∀ b o,b < W.heap.size → w1.cell? ⟨b,o,none⟩ = W.cell? ⟨b,o,none⟩) ∧ (∀ b o,b < W.heap.size → w1.frozen? ⟨b,o,none⟩ = W.frozen? ⟨b,o,none⟩) :=
 ⟨fun b o h=>hb.cell (p:=⟨b,o,none⟩) h,fun b o h=>hb.frozen (p:=⟨b,o,none⟩) h⟩
theorem ret_bool {a b : Bool} (h : a = b) : Ending.returned (.bool a) = .returned (.bool b):=by rw [h]
theorem ret_int {k : IntKind} {a b : Int} (h : a = b) : Ending.returned (.int k a) = .returned (.int k b):=by rw [h]
theorem wrap64_of {n : Int} (h1 : -9223372036854775808 ≤ n) (h2 : n ≤ 9223372036854775807) : wrap64 n = n:=IntWalk.wrap64_in n ⟨h1,h2⟩
theorem wrap64_mul16 {W H : Int} (h1 : 1 ≤ W) (h2 : W ≤ 16) (h3 : 1 ≤ H) (h4 : H ≤ 16) : wrap64 (W * H) = W * H :=
 wrap64_of (by have:=mul_bd h1 h2 h3 h4; omega) (by have:=mul_bd h1 h2 h3 h4; omega)
theorem ite_min (x y : Int) : (if y < x then y else x) = min x y:=by omega
theorem ite_max (x y : Int) : (if x < y then y else x) = max x y:=by omega
theorem run_make_ints {P : Program} (t e : TypeId) (i : TypeInfo) (ht : P.underlying t = some (.slice e)) (hi : P.info? e = some i) (hz : i.zero = some (.int .i64 0)) (hs : i.size = 1) (hb : i.bytes = 8)
 (n : Int) (N : Nat) (hN : n = (N : Int)) (h1 : N ≤ 16777216) (w : World) :
 (Instr.makeSlice t (.int .i64 n) (.int .i64 n)).run P w = .ok (.slice (some ⟨w.heap.size,0,none⟩) N N) (w.alloc (.cells (List.replicate N (Value.int .i64 0)).toArray e)):=by
 have hr:=run_make (P:=P) w t e i (.int .i64 0) ht hi hz .i64 .i64 (N : Int) (N : Int) (by omega) (by omega) (by rw [hb]; omega) (by omega);simp only [Int.toNat_natCast] at hr;rw [hN,hr,hs]
 have e1 : madeCells (Value.int .i64 0).cells (N * 1) = (List.replicate N (Value.int .i64 0)).toArray:=by
  rw [Nat.mul_one]
  apply Array.ext'
  simp [madeCells,Value.cells,Nat.mod_one,List.map_const']
 rw [e1]
def Mine (w : World) (B : Nat) (A : Option Addr) : Prop:=∀ a,A = some a → B ≤ a.block ∧ a = ⟨a.block,0,none⟩ ∧ ∃ cs,Blk w a.block 3 cs
section
variable {w w' : World} {B B' g : Nat} {A : Option Addr} {cs : List Value}
theorem Mine.new (h : Mine w B A) : NewFrom B A:=fun a e=>(h a e).1
theorem Mine.none_ (w : World) (B : Nat) : Mine w B none:=fun a e=>by cases e
theorem Mine.some_ (h : B ≤ g) (hb : Blk w g 3 cs) : Mine w B (some ⟨g,0,none⟩):=fun a e=>by injection e with e; subst e; exact ⟨h,rfl,cs,hb⟩
theorem Mine.mono (h : Mine w B A) (hB : B' ≤ B) : Mine w B' A:=fun a e=>⟨Nat.le_trans hB (h a e).1,(h a e).2⟩
theorem Mine.keep (h : Mine w B A) (hb : Below w.heap.size w w') : Mine w' B A:=fun a e=>by
 obtain ⟨h1,h2,cs,h3⟩:=h a e;exact ⟨h1,h2,cs,h3.keep hb⟩
theorem Mine.far (h : Mine w B A) {p : Addr} (hp : p.block < B) (u : Value) : Mine (w.setCell p u) B A:=fun a e=>by
 obtain ⟨h1,h2,cs,h3⟩:=h a e;exact ⟨h1,h2,cs,h3.far (by omega) u⟩
theorem Mine.of_own {base : Nat} {c n size : Nat} (h : w.ownsRow base 3 size (.slice A n c) n cs) : Mine w base A:=by
 intro a ha;subst ha;rcases h.2 with ⟨h1,_⟩ | ⟨g,cap,cur,hv,hb,hh,_⟩
 ·cases h1
 ·injection hv with hv
  injection hv with hv;subst hv;refine ⟨hb,rfl,cur.toList,?_⟩;unfold Blk
  simpa using hh
end
def Gives2 (P : Program) (g : FuncId) (lb : Array Value) (cw ch : Int) (f : Int → Int → Int) (w : World) : Prop :=
 ∀ (W : World) (x y : Int), Below w.heap.size w W → 0 ≤ x → x < cw → 0 ≤ y → y < ch →
   Calls P g (#[.int .i64 x,.int .i64 y] ++ lb) W fun e W'=>e = .returned (.int .i64 (f x y)) ∧ Below W.heap.size W W'
theorem Gives2.later {P : Program} {g : FuncId} {lb : Array Value} {cw ch : Int} {f : Int → Int → Int} {w W : World} (h : Gives2 P g lb cw ch f w) (hb : Below w.heap.size w W) : Gives2 P g lb cw ch f W :=
 fun W' x y hb'=>h W' x y (hb.trans (hb'.mono hb.size))
def RetImg (w : World) (r : Img) (e : Ending) (w' : World) : Prop :=
 ∃ (W H : Int) (P : List Int) (A : Option Addr) (n c : Nat),Img.mk W H P = r ∧ P.length = n ∧ e = .returned (.agg #[.int .i64 W,.int .i64 H,.slice A n c]) ∧ Ints w' A P ∧ Mine w' w.heap.size A ∧ Below w.heap.size w w'
def RetImgErr (w : World) (r : Img) (x : Int) (e : Ending) (w' : World) : Prop :=
 ∃ (W H : Int) (P : List Int) (A : Option Addr) (n c : Nat),Img.mk W H P = r ∧ P.length = n ∧ e = .returned (.tuple #[.agg #[.int .i64 W,.int .i64 H,.slice A n c],.int .i64 x]) ∧ Ints w' A P ∧ Mine w' w.heap.size A ∧ Below w.heap.size w w'
end Go.Proofs.YtibpmogmeoappabGreat
namespace Go.Proofs.YtibpmogmeoappabGreat
open Go.RowKit
def Own (w : World) (base : Nat) (e : TypeId) (size : Nat) (A : Option Addr) (n c : Nat) (cs : List Value) : Prop:=w.ownsRow base e size (.slice A n c) n cs
section
variable {w w' : World} {base : Nat} {e : TypeId} {size : Nat} {A : Option Addr} {n c : Nat} {cs : List Value}
theorem Own.nil (w : World) (base : Nat) (e : TypeId) (size : Nat) : Own w base e size none 0 0 []:=World.ownsRow_nil _ _ _ _
theorem Own.alloc (h : Own w base e size A n c cs) (o : Obj) : Own (w.alloc o) base e size A n c cs:=World.ownsRow.alloc h o
theorem Own.drew (h : Own w base e size A n c cs) : Own w.drew base e size A n c cs:=h
theorem Own.keep (h : Own w base e size A n c cs) (hb : Below w.heap.size w w') : Own w' base e size A n c cs:=by
 refine World.ownsRow.kept h (row:=none) ⟨hb.os,hb.tape,hb.output,hb.size,fun k hk _=>hb.block k hk⟩ ?_
 cases hx : (Value.slice A n c).ownBlock with
 | none=>exact .inl rfl
 | some k=>exact .inr (by simp)
theorem Own.far (h : Own w base e size A n c cs) {p : Addr} (hp : p.block < base) (u : Value) : Own (w.setCell p u) base e size A n c cs:=ownsRow_setCell_below h hp u
theorem Own.new (h : Own w base e size A n c cs) : NewFrom base A:=by
 intro a ha;subst ha;exact (World.ownsRow.lt h a.block rfl).1
theorem Own.len (h : Own w base e size A n c cs) : cs.length = n * size:=h.1
theorem Own.cells (h : Own w base e size A n c cs) : Cells w A cs:=Cells.of_own h h.1
theorem Own.mono {base' : Nat} (h : Own w base e size A n c cs) (hB : base' ≤ base) : Own w base' e size A n c cs:=by
 refine ⟨h.1,?_⟩;rcases h.2 with h2 | ⟨g,cap,cur,a,b,r⟩
 ·exact .inl h2
 ·exact .inr ⟨g,cap,cur,a,by omega,r⟩
theorem Blk.grown {g : Nat} {t : TypeId} {bs : List Value} (h : Blk w g t bs) (ho : Own w base e size A n c cs) (hg : w.grownBy w' (Value.slice A n c).ownBlock) (hlt : g < base) : Blk w' g t bs:=by
 refine (hg.block g h.lt ?_).trans h;intro he;have:=(World.ownsRow.lt ho g he.symm).1;omega
theorem Below.grownOwn {a : World} {B : Nat} (h : Below B a w) (ho : Own w base e size A n c cs) (hg : w.grownBy w' (Value.slice A n c).ownBlock) (hB : B ≤ w.heap.size) (hb : B ≤ base) : Below B a w' :=
 h.grown hg hB fun k hk=>Nat.le_trans hb (World.ownsRow.lt ho k hk).1
theorem Cells.grownOwn {A' : Option Addr} {ds : List Value} (h : Cells w A' ds) (ho : Own w base e size A n c cs) (hg : w.grownBy w' (Value.slice A n c).ownBlock) (hA : ∀ a,A' = some a → a.block < base) : Cells w' A' ds:=by
 intro i hi;obtain ⟨b,o,e1,hlt,hc⟩:=h i hi;refine ⟨b,o,e1,Nat.lt_of_lt_of_le hlt hg.size,?_⟩;have:=hA _ e1;rw [World.cell?_of_block (w:=w) (hg.block b hlt (fun he=>by have:=(World.ownsRow.lt ho b he.symm).1; simp only at *; omega))];exact hc
end
theorem wpList_app1 {P : Program} (w0 : World) {ops : Array Oper} {rest : List Oper} {o : Oper} {a : Act} {Q : Exit → Act → World → Prop} (hgd : o.guard = none) (s x : Operand) (t : TypeId)
 (ho : o.op = .call { callee:=.builtin .append,args:=#[s,x],argTypes:=#[t,t] })
 (base : Nat) (e : TypeId) (i : TypeInfo) (z : Value) (size bytes : Nat) (ht : P.underlying t = some (.slice e)) (hi : P.info? e = some i) (hz : i.zero = some z)
 (hsize : i.size = size) (hby : i.bytes = bytes) (hzs : z.cells.size = size) (hsz : 0 < size)
 (A : Option Addr) (n c : Nat) (cs news : List Value) (hs : a.eval s = .slice A n c) (hown : Own w0 base e size A n c cs)
 (hx : a.eval x = .slice (some ⟨w0.heap.size,0,none⟩) 1 1) (hl : news.length = size) (h1 : ∀ u ∈ news,u.oneCell' = true)
 (h63 : n ≤ 1073741824) (hbytes : bytes ≤ 65536) (hbase : base ≤ w0.heap.size)
 (h : ∀ A' c' w',Own w' base e size A' (n + 1) c' (cs ++ news) → (w0.alloc (.cells news.toArray e)).grownBy w' (Value.slice A n c).ownBlock → wpList P ops Q rest (a.put o.dst (.slice A' (n + 1) c')) w') :
 wpList P ops Q (o :: rest) a (w0.alloc (.cells news.toArray e)):=by
 refine wpList_append_own _ hgd s x t ho base e i z size bytes ht hi hz hsize hby hzs hsz (.slice A n c) n cs hs (hown.alloc _) ⟨w0.heap.size,0,none⟩ 1 1 news hx (by omega) ?_ h1 (by unfold maxLen; omega) ?_ (by simp; omega) ?_
 ·intro j u hu
  rw [Addr.add_lit,Nat.zero_add,(Blk.new w0 e news).cell];exact hu
 ·have h2 : (n + 1) * bytes ≤ 1073741825 * 65536:=Nat.mul_le_mul (by omega) hbytes
  omega
 ·intro v' w' hown' hg _
  have hform : ∃ A' c',v' = .slice A' (n + 1) c':=by
   rcases hown'.2 with ⟨_,h0⟩ | ⟨g,cap,cur,hv,_⟩
   ·omega
   ·exact ⟨_,_,hv⟩
  obtain ⟨A',c',rfl⟩:=hform;exact h A' c' w' hown' hg
end Go.Proofs.YtibpmogmeoappabGreat
namespace Go.Proofs.YtibpmogmeoappabGreat
open Go.RowKit
structure Keeps (w : World) (P : World → Prop) : Prop where
 now : P w
 later : ∀ w',Below w.heap.size w w' → P w'
section
variable {w w' : World} {P Q : World → Prop}
theorem Keeps.move (h : Keeps w P) (hb : Below w.heap.size w w') : Keeps w' P:=⟨h.later _ hb,fun _ hb'=>h.later _ (hb.trans (hb'.mono hb.size))⟩
theorem Keeps.and (h : Keeps w P) (k : Keeps w Q) : Keeps w (fun W=>P W ∧ Q W):=⟨⟨h.now,k.now⟩,fun _ hb=>⟨h.later _ hb,k.later _ hb⟩⟩
theorem Keeps.left (h : Keeps w (fun W=>P W ∧ Q W)) : Keeps w P:=⟨h.now.1,fun _ hb=>(h.later _ hb).1⟩
theorem Keeps.right (h : Keeps w (fun W=>P W ∧ Q W)) : Keeps w Q:=⟨h.now.2,fun _ hb=>(h.later _ hb).2⟩
theorem Keeps.ints {A : Option Addr} {xs : List Int} (h : Ints w A xs) : Keeps w (fun W=>Ints W A xs):=⟨h,fun _ hb=>h.keep hb⟩
theorem Keeps.cells {A : Option Addr} {cs : List Value} (h : Cells w A cs) : Keeps w (fun W=>Cells W A cs):=⟨h,fun _ hb=>h.keep hb⟩
theorem Keeps.blk {g : Nat} {t : TypeId} {cs : List Value} (h : Blk w g t cs) : Keeps w (fun W=>Blk W g t cs):=⟨h,fun _ hb=>h.keep hb⟩
theorem Keeps.own {base : Nat} {e : TypeId} {size : Nat} {A : Option Addr} {n c : Nat} {cs : List Value} (h : Own w base e size A n c cs) : Keeps w (fun W=>Own W base e size A n c cs):=⟨h,fun _ hb=>h.keep hb⟩
theorem Keeps.below {w0 : World} (h : Below w0.heap.size w0 w) : Keeps w (fun W=>Below w0.heap.size w0 W):=⟨h,fun _ hb=>h.trans (hb.mono h.size)⟩
theorem Keeps.lt {g : Nat} (h : g < w.heap.size) : Keeps w (fun W=>g < W.heap.size):=⟨h,fun _ hb=>Nat.lt_of_lt_of_le h hb.size⟩
theorem Keeps.cell {b o : Nat} {v : Value} (h : w.cell? ⟨b,o,none⟩ = some v) : Keeps w (fun W=>W.cell? ⟨b,o,none⟩ = some v) :=
 ⟨h,fun _ hb=>(hb.cell (p:=⟨b,o,none⟩) (World.block_lt_of_cell? w _ h)).trans h⟩
theorem Keeps.alloc (h : Keeps w P) (o : Obj) : Keeps (w.alloc o) P:=h.move ((Below.refl _ _).alloc (Nat.le_refl _) o)
theorem Keeps.drew (h : Keeps w P) : Keeps w.drew P:=h.move (Below.refl _ _).drew
theorem Keeps.drewN (h : Keeps w P) (k : Nat) : Keeps (w.drewN k) P:=h.move (below_drewN (Below.refl _ _) k)
theorem Keeps.imp (h : Keeps w P) (hi : ∀ W,P W → Q W) : Keeps w Q:=⟨hi _ h.now,fun _ hb=>hi _ (h.later _ hb)⟩
end
theorem step_app1 {P : Program} (w0 : World) {ops : Array Oper} {o : Oper} {a : Act} {K : Act → World → Prop} {Q : Exit → Act → World → Prop} {E : Prop} (hgd : o.guard = none) (s x : Operand) (t : TypeId)
 (ho : o.op = .call { callee:=.builtin .append,args:=#[s,x],argTypes:=#[t,t] })
 (base : Nat) (e : TypeId) (i : TypeInfo) (z : Value) (size bytes : Nat) (ht : P.underlying t = some (.slice e)) (hi : P.info? e = some i) (hz : i.zero = some z)
 (hsize : i.size = size) (hby : i.bytes = bytes) (hzs : z.cells.size = size) (hsz : 0 < size)
 (A : Option Addr) (n c : Nat) (cs news : List Value) (hs : a.eval s = .slice A n c) (hown : Own w0 base e size A n c cs)
 (hx : a.eval x = .slice (some ⟨w0.heap.size,0,none⟩) 1 1) (hl : news.length = size) (h1 : ∀ u ∈ news,u.oneCell' = true)
 (h63 : n ≤ 1073741824) (hbytes : bytes ≤ 65536) (hbase : base ≤ w0.heap.size)
 (h : ∀ A' c' w',Own w' base e size A' (n + 1) c' (cs ++ news) → (w0.alloc (.cells news.toArray e)).grownBy w' (Value.slice A n c).ownBlock → K (a.put o.dst (.slice A' (n + 1) c')) w') :
 if Region.wanted o (yielded ops a.tmps) = true then Oper.wp P o a (w0.alloc (.cells news.toArray e)) K Q else E:=by
 refine step_append_lies _ hgd s x t ho base e i z size bytes ht hi hz hsize hby hzs hsz (.slice A n c) n cs hs (hown.alloc _) ⟨w0.heap.size,0,none⟩ 1 1 news hx (by omega) ?_ h1 (by omega) (by unfold maxLen; omega) ?_ (by simp; omega) (w0.heap.size + 1) (by simp) ?_
 ·intro j u hu
  rw [Addr.add_lit,Nat.zero_add,(Blk.new w0 e news).cell];exact hu
 ·have h2 : (n + 1) * bytes ≤ 1073741825 * 65536:=Nat.mul_le_mul (by omega) hbytes
  omega
 ·intro g cap w' hown' hg _ _
  exact h _ _ w' hown' hg
end Go.Proofs.YtibpmogmeoappabGreat
namespace Go.Proofs.YtibpmogmeoappabGreat
open Go.RowKit
theorem wpList_app1H {P : Program} (w0 : World) (Hz : Nat) (hHz : w0.heap.size = Hz) {ops : Array Oper} {rest : List Oper} {o : Oper} {a : Act} {Q : Exit → Act → World → Prop} (hgd : o.guard = none) (s x : Operand) (t : TypeId)
 (ho : o.op = .call { callee:=.builtin .append,args:=#[s,x],argTypes:=#[t,t] })
 (base : Nat) (e : TypeId) (i : TypeInfo) (z : Value) (size bytes : Nat) (ht : P.underlying t = some (.slice e)) (hi : P.info? e = some i) (hz : i.zero = some z)
 (hsize : i.size = size) (hby : i.bytes = bytes) (hzs : z.cells.size = size) (hsz : 0 < size)
 (A : Option Addr) (n c : Nat) (cs news : List Value) (hs : a.eval s = .slice A n c) (hown : Own w0 base e size A n c cs)
 (hx : a.eval x = .slice (some ⟨Hz,0,none⟩) 1 1) (hl : news.length = size) (h1 : ∀ u ∈ news,u.oneCell' = true)
 (h63 : n ≤ 1073741824) (hbytes : bytes ≤ 65536) (hbase : base ≤ w0.heap.size)
 (h : ∀ A' c' w',Own w' base e size A' (n + 1) c' (cs ++ news) → (w0.alloc (.cells news.toArray e)).grownBy w' (Value.slice A n c).ownBlock → wpList P ops Q rest (a.put o.dst (.slice A' (n + 1) c')) w') :
 wpList P ops Q (o :: rest) a (w0.alloc (.cells news.toArray e)):=by
 subst hHz;exact wpList_app1 w0 hgd s x t ho base e i z size bytes ht hi hz hsize hby hzs hsz A n c cs news hs hown hx hl h1 h63 hbytes hbase h
end Go.Proofs.YtibpmogmeoappabGreat
namespace Go.Proofs.YtibpmogmeoappabGreat
open Go.RowKit
def gridPart (W : Int) (f : Int → Int → Int) (y x : Int) : List Int:=grid W.toNat y.toNat f ++ (List.range x.toNat).map fun (i : Nat)=>f (i : Int) y
theorem gridPart_step (W : Int) (f : Int → Int → Int) {y x : Int} (hx : 0 ≤ x) : gridPart W f y (x + 1) = gridPart W f y x ++ [f x y]:=by
 unfold gridPart;rw [show (x + 1).toNat = x.toNat + 1 by omega,List.range_succ,List.map_append,← List.append_assoc];simp [Int.toNat_of_nonneg hx]
theorem gridPart_row (W : Int) (f : Int → Int → Int) {y x : Int} (hy : 0 ≤ y) (hx : x = W) : gridPart W f y x = gridPart W f (y + 1) 0:=by
 subst hx;unfold gridPart;rw [show (y + 1).toNat = y.toNat + 1 by omega,grid_succ,Int.toNat_of_nonneg hy];simp
theorem gridPart_end (W H : Int) (f : Int → Int → Int) : Img.mk W H (gridPart W f H 0) = drawn W H f:=by
 unfold gridPart drawn; simp
theorem gridPart_length (W : Int) (f : Int → Int → Int) (y x : Int) : (gridPart W f y x).length = W.toNat * y.toNat + x.toNat:=by
 unfold gridPart; simp [grid_length]
theorem gridPart_le {W : Int} (f : Int → Int → Int) {y x : Int} (h1 : W ≤ 64) (h2 : y ≤ 64) (h3 : x ≤ 64) : (gridPart W f y x).length ≤ 65536:=by
 rw [gridPart_length];have:=Nat.mul_le_mul (show W.toNat ≤ 64 by omega) (show y.toNat ≤ 64 by omega);omega
structure GridRel (w : World) (W H : Int) (f : Int → Int → Int) (gout base : Nat) (os : List (Nat × TypeId × List Value)) (y x : Int) (A : Option Addr) (n c : Nat) (wr : World) : Prop where
 own : Own wr base 3 1 A n c ((gridPart W f y x).map (.int .i64))
 out : Blk wr gout 29 [.int .i64 W,.int .i64 H,.slice A n c]
 lt : gout < base
 new : w.heap.size ≤ gout
 size : base ≤ wr.heap.size
 others : ∀ b ∈ os,Blk wr b.1 b.2.1 b.2.2 ∧ b.1 < base ∧ b.1 ≠ gout
 below : Below w.heap.size w wr
section
variable {w : World} {W H : Int} {f : Int → Int → Int} {gout base : Nat} {os : List (Nat × TypeId × List Value)} {y x : Int} {A : Option Addr} {n c : Nat} {wr : World}
theorem GridRel.len (h : GridRel w W H f gout base os y x A n c wr) : n = (gridPart W f y x).length:=by
 have:=h.own.len; simpa using this.symm
theorem GridRel.keep (h : GridRel w W H f gout base os y x A n c wr) {w1 : World} (hb : Below wr.heap.size wr w1) : GridRel w W H f gout base os y x A n c w1 :=
 ⟨h.own.keep hb,h.out.keep hb,h.lt,h.new,Nat.le_trans h.size hb.size,fun b hb'=>⟨(h.others b hb').1.keep hb,(h.others b hb').2⟩,h.below.trans (hb.mono h.below.size)⟩
theorem GridRel.cells (h : GridRel w W H f gout base os y x A n c wr) :
 gout < wr.heap.size ∧ wr.cell? ⟨gout,0,none⟩ = some (.int .i64 W) ∧ wr.cell? ⟨gout,1,none⟩ = some (.int .i64 H) ∧ wr.cell? ⟨gout,2,none⟩ = some (.slice A n c) ∧ wr.frozen? ⟨gout,2,none⟩ = false :=
 ⟨h.out.lt,by rw [h.out.cell]; rfl,by rw [h.out.cell]; rfl,by rw [h.out.cell]; rfl,h.out.frozen 2⟩
theorem GridRel.mid (h : GridRel w W H f gout base os y x A n c wr) {w1 : World} {o : Obj} (hg : (wr.alloc o).grownBy w1 (Value.slice A n c).ownBlock) :
 Blk w1 gout 29 [.int .i64 W,.int .i64 H,.slice A n c] ∧ (∀ b ∈ os,Blk w1 b.1 b.2.1 b.2.2 ∧ b.1 < base ∧ b.1 ≠ gout) ∧ Below w.heap.size w w1 :=
 ⟨(h.out.alloc o).grown (h.own.alloc o) hg h.lt, fun b hb => ⟨((h.others b hb).1.alloc o).grown (h.own.alloc o) hg (h.others b hb).2.1, (h.others b hb).2⟩,
   Below.grownOwn (h.below.alloc h.below.size o) (h.own.alloc o) hg (Nat.le_trans h.below.size (by simp)) (Nat.le_trans h.new (Nat.le_of_lt h.lt))⟩
theorem GridRel.midCells (h : GridRel w W H f gout base os y x A n c wr) {w1 : World} {o : Obj} (hg : (wr.alloc o).grownBy w1 (Value.slice A n c).ownBlock) :
 gout < w1.heap.size ∧ w1.cell? ⟨gout,2,none⟩ = some (.slice A n c) ∧ w1.frozen? ⟨gout,2,none⟩ = false:=by
 have hm:=(h.mid hg).1;exact ⟨hm.lt,by rw [hm.cell]; rfl,hm.frozen 2⟩
theorem GridRel.step (h : GridRel w W H f gout base os y x A n c wr) {w1 : World} {o : Obj} {A1 : Option Addr} {c1 : Nat} (hx : 0 ≤ x) (hg : (wr.alloc o).grownBy w1 (Value.slice A n c).ownBlock)
 (ho : Own w1 base 3 1 A1 (n + 1) c1 ((gridPart W f y x).map (.int .i64) ++ [.int .i64 (f x y)])) : GridRel w W H f gout base os y (x + 1) A1 (n + 1) c1 (w1.setCell ⟨gout,2,none⟩ (.slice A1 (n + 1) c1)):=by
 obtain ⟨m1,m2,m3⟩:=h.mid hg;refine ⟨?_,m1.set_ 2 _,h.lt,h.new,?_,fun b hb=>⟨(m2 b hb).1.far (fun e=>(h.others b hb).2.2 e) _,(m2 b hb).2⟩,m3.setCell h.new _⟩
 ·rw [gridPart_step W f hx,List.map_append]
  exact ho.far h.lt _
 ·have:=hg.size
  simp only [World.size_alloc] at this;have hs:=h.size;simp only [World.setCell,Array.size_modify];omega
theorem GridRel.row (h : GridRel w W H f gout base os y x A n c wr) (hy : 0 ≤ y) (hx : x = W) : GridRel w W H f gout base os (y + 1) 0 A n c wr:=by
 obtain ⟨h1,h2,h3,h4,h5,h6,h7⟩:=h;rw [gridPart_row W f hy hx] at h1;exact ⟨h1,h2,h3,h4,h5,h6,h7⟩
theorem GridRel.start (hout : Blk wr gout 29 [.int .i64 W,.int .i64 H,.slice none 0 0]) (h1 : gout < base) (h2 : w.heap.size ≤ gout) (h3 : base ≤ wr.heap.size) (hos : ∀ b ∈ os,Blk wr b.1 b.2.1 b.2.2 ∧ b.1 < base ∧ b.1 ≠ gout) (hb : Below w.heap.size w wr) :
 GridRel w W H f gout base os 0 0 none 0 0 wr:=⟨Own.nil _ _ _ _,hout,h1,h2,h3,hos,hb⟩
theorem GridRel.done (h : GridRel w W H f gout base os H 0 A n c wr) {gres : Nat} {u : List Value} (hr : (gres,29,u) ∈ os) (hw : w.heap.size ≤ gres) :
 RetImg w (drawn W H f) (.returned (.agg #[.int .i64 W,.int .i64 H,.slice A n c])) (((wr.setCell ⟨gres,0,none⟩ (.int .i64 W)).setCell ⟨gres,1,none⟩ (.int .i64 H)).setCell ⟨gres,2,none⟩ (.slice A n c)):=by
 have hlt:=(h.others _ hr).2.1;simp only at hlt;refine ⟨W,H,gridPart W f H 0,A,n,c,gridPart_end W H f,h.len.symm,rfl,?_,(Mine.of_own (((h.own.far (p:=⟨gres,0,none⟩) hlt _).far (p:=⟨gres,1,none⟩) hlt _).far (p:=⟨gres,2,none⟩) hlt _)).mono (Nat.le_trans h.new (Nat.le_of_lt h.lt)),?_⟩
 ·exact (((h.own.far (p:=⟨gres,0,none⟩) hlt _).far (p:=⟨gres,1,none⟩) hlt _).far (p:=⟨gres,2,none⟩) hlt _).cells
 ·exact ((h.below.setCell (p:=⟨gres,0,none⟩) hw _).setCell (p:=⟨gres,1,none⟩) hw _).setCell (p:=⟨gres,2,none⟩) hw _
end
theorem one_int (x : Int) : ∀ u ∈ [Value.int .i64 x],u.oneCell' = true:=by intro u hu; simp at hu; subst hu; rfl
end Go.Proofs.YtibpmogmeoappabGreat
namespace Go.Proofs.YtibpmogmeoappabGreat
open Go.RowKit
structure LineRel (w : World) (W H : Int) (gout base : Nat) (os : List (Nat × TypeId × List Value)) (L : List Int) (A : Option Addr) (n c : Nat) (wr : World) : Prop where
 own : Own wr base 3 1 A n c (L.map (.int .i64))
 out : Blk wr gout 29 [.int .i64 W,.int .i64 H,.slice A n c]
 lt : gout < base
 new : w.heap.size ≤ gout
 size : base ≤ wr.heap.size
 others : ∀ b ∈ os,Blk wr b.1 b.2.1 b.2.2 ∧ b.1 < base ∧ b.1 ≠ gout
 below : Below w.heap.size w wr
section
variable {w : World} {W H : Int} {L : List Int} {gout base : Nat} {os : List (Nat × TypeId × List Value)} {A : Option Addr} {n c : Nat} {wr : World}
theorem LineRel.len (h : LineRel w W H gout base os L A n c wr) : n = L.length:=by
 have:=h.own.len; simpa using this.symm
theorem LineRel.keep (h : LineRel w W H gout base os L A n c wr) {w1 : World} (hb : Below wr.heap.size wr w1) : LineRel w W H gout base os L A n c w1 :=
 ⟨h.own.keep hb,h.out.keep hb,h.lt,h.new,Nat.le_trans h.size hb.size,fun b hb'=>⟨(h.others b hb').1.keep hb,(h.others b hb').2⟩,h.below.trans (hb.mono h.below.size)⟩
theorem LineRel.cells (h : LineRel w W H gout base os L A n c wr) :
 gout < wr.heap.size ∧ wr.cell? ⟨gout,0,none⟩ = some (.int .i64 W) ∧ wr.cell? ⟨gout,1,none⟩ = some (.int .i64 H) ∧ wr.cell? ⟨gout,2,none⟩ = some (.slice A n c) ∧ wr.frozen? ⟨gout,2,none⟩ = false :=
 ⟨h.out.lt,by rw [h.out.cell]; rfl,by rw [h.out.cell]; rfl,by rw [h.out.cell]; rfl,h.out.frozen 2⟩
theorem LineRel.mid (h : LineRel w W H gout base os L A n c wr) {w1 : World} {o : Obj} (hg : (wr.alloc o).grownBy w1 (Value.slice A n c).ownBlock) :
 Blk w1 gout 29 [.int .i64 W,.int .i64 H,.slice A n c] ∧ (∀ b ∈ os,Blk w1 b.1 b.2.1 b.2.2 ∧ b.1 < base ∧ b.1 ≠ gout) ∧ Below w.heap.size w w1 :=
 ⟨(h.out.alloc o).grown (h.own.alloc o) hg h.lt, fun b hb => ⟨((h.others b hb).1.alloc o).grown (h.own.alloc o) hg (h.others b hb).2.1, (h.others b hb).2⟩,
   Below.grownOwn (h.below.alloc h.below.size o) (h.own.alloc o) hg (Nat.le_trans h.below.size (by simp)) (Nat.le_trans h.new (Nat.le_of_lt h.lt))⟩
theorem LineRel.midCells (h : LineRel w W H gout base os L A n c wr) {w1 : World} {o : Obj} (hg : (wr.alloc o).grownBy w1 (Value.slice A n c).ownBlock) :
 gout < w1.heap.size ∧ w1.cell? ⟨gout,2,none⟩ = some (.slice A n c) ∧ w1.frozen? ⟨gout,2,none⟩ = false:=by
 have hm:=(h.mid hg).1;exact ⟨hm.lt,by rw [hm.cell]; rfl,hm.frozen 2⟩
theorem LineRel.step (h : LineRel w W H gout base os L A n c wr) {w1 : World} {o : Obj} {A1 : Option Addr} {c1 : Nat} {v : Int} (hg : (wr.alloc o).grownBy w1 (Value.slice A n c).ownBlock)
 (ho : Own w1 base 3 1 A1 (n + 1) c1 (L.map (.int .i64) ++ [.int .i64 v])) : LineRel w W H gout base os (L ++ [v]) A1 (n + 1) c1 (w1.setCell ⟨gout,2,none⟩ (.slice A1 (n + 1) c1)):=by
 obtain ⟨m1,m2,m3⟩:=h.mid hg;refine ⟨?_,m1.set_ 2 _,h.lt,h.new,?_,fun b hb=>⟨(m2 b hb).1.far (fun e=>(h.others b hb).2.2 e) _,(m2 b hb).2⟩,m3.setCell h.new _⟩
 ·rw [List.map_append]
  exact ho.far h.lt _
 ·have:=hg.size
  simp only [World.size_alloc] at this;have hs:=h.size;simp only [World.setCell,Array.size_modify];omega
theorem LineRel.start (hout : Blk wr gout 29 [.int .i64 W,.int .i64 H,.slice none 0 0]) (h1 : gout < base) (h2 : w.heap.size ≤ gout) (h3 : base ≤ wr.heap.size) (hos : ∀ b ∈ os,Blk wr b.1 b.2.1 b.2.2 ∧ b.1 < base ∧ b.1 ≠ gout) (hb : Below w.heap.size w wr) :
 LineRel w W H gout base os [] none 0 0 wr:=⟨Own.nil _ _ _ _,hout,h1,h2,h3,hos,hb⟩
theorem LineRel.done (h : LineRel w W H gout base os L A n c wr) {gres : Nat} {u : List Value} (hr : (gres,29,u) ∈ os) (hw : w.heap.size ≤ gres) :
 RetImg w ⟨W,H,L⟩ (.returned (.agg #[.int .i64 W,.int .i64 H,.slice A n c])) (((wr.setCell ⟨gres,0,none⟩ (.int .i64 W)).setCell ⟨gres,1,none⟩ (.int .i64 H)).setCell ⟨gres,2,none⟩ (.slice A n c)):=by
 have hlt:=(h.others _ hr).2.1;simp only at hlt;refine ⟨W,H,L,A,n,c,rfl,h.len.symm,rfl,?_,(Mine.of_own (((h.own.far (p:=⟨gres,0,none⟩) hlt _).far (p:=⟨gres,1,none⟩) hlt _).far (p:=⟨gres,2,none⟩) hlt _)).mono (Nat.le_trans h.new (Nat.le_of_lt h.lt)),?_⟩
 ·exact (((h.own.far (p:=⟨gres,0,none⟩) hlt _).far (p:=⟨gres,1,none⟩) hlt _).far (p:=⟨gres,2,none⟩) hlt _).cells
 ·exact ((h.below.setCell (p:=⟨gres,0,none⟩) hw _).setCell (p:=⟨gres,1,none⟩) hw _).setCell (p:=⟨gres,2,none⟩) hw _
end
end Go.Proofs.YtibpmogmeoappabGreat
namespace Go.Proofs.YtibpmogmeoappabGreat
open Go.RowKit
def IMap (w : World) (b : Nat) (l : List (Int × Value)) : Prop :=
 ∃ es clk,w.heap[b]? = some (.map es clk) ∧ es.toList.map (fun e=>(e.key,e.val)) = l.map fun p=>(Value.int .i64 p.1,p.2)
theorem IMap.lt {w : World} {b : Nat} {l : List (Int × Value)} (h : IMap w b l) : b < w.heap.size:=by
 obtain ⟨es,clk,h,_⟩:=h;exact (Array.getElem?_eq_some_iff.1 h).1
theorem IMap.keep {w w' : World} {b : Nat} {l : List (Int × Value)} (h : IMap w b l) (hb : Below w.heap.size w w') : IMap w' b l:=by
 have hl:=h.lt;obtain ⟨es,clk,h,h2⟩:=h;exact ⟨es,clk,(hb.block b hl).trans h,h2⟩
theorem IMap.far {w : World} {b : Nat} {l : List (Int × Value)} (h : IMap w b l) {p : Addr} (hp : b ≠ p.block) (u : Value) : IMap (w.setCell p u) b l:=by
 obtain ⟨es,clk,h,h2⟩:=h;exact ⟨es,clk,(Below.heap_setCell w p u b hp).trans h,h2⟩
def lookI (l : List (Int × Value)) (k : Int) : Option Value:=(l.find? fun p=>p.1 == k).map (·.2)
theorem findNow_ints {k : Int} : ∀ (l : List (Int × Value)) (es : List MapEntry) (i : Nat),es.map (fun e=>(e.key,e.val)) = l.map (fun p=>(Value.int .i64 p.1,p.2)) →
 ∃ j,Instr.findNow (.int .i64) (.int .i64 k) es i = some ((lookI l k).map fun v=>(j,v))
 | [], es, i, h => by
   have : es = []:=by simpa using h
   subst this;exact ⟨0,rfl⟩
 | (a,v) :: l,[],i,h=>by simp at h
 | (a, v) :: l, e :: es, i, h => by
   simp only [List.map_cons,List.cons.injEq,Prod.mk.injEq] at h;obtain ⟨⟨h1,h2⟩,h3⟩:=h;obtain ⟨j,hj⟩:=findNow_ints (k:=k) l es (i + 1) h3;by_cases hk : k = a
   ·subst hk
    refine ⟨i,?_⟩;simp [Instr.findNow,Instr.sameNow,h1,h2,lookI]
   ·refine ⟨j,?_⟩
    have hk' : ¬ a = k:=fun e=>hk e.symm;simp only [Instr.findNow,Instr.sameNow,h1];simp only [if_true,show (k == a) = false by simpa using hk];rw [hj];simp [lookI,show (a == k) = false by simpa using hk']
theorem run_findKey_ints {P : Program} {kt : TypeId} (hk : P.underlying kt = some (.int .i64)) {k : Int} {l : List (Int × Value)} {es : List MapEntry} (h : es.map (fun e=>(e.key,e.val)) = l.map (fun p=>(Value.int .i64 p.1,p.2))) (w : World) :
 ∃ j,(Instr.findKey kt (.int .i64 k) es).run P w = .ok ((lookI l k).map fun v=>(j,v)) w:=by
 obtain ⟨j,hj⟩:=findNow_ints (k:=k) l es 0 h;refine ⟨j,?_⟩;unfold Instr.findKey;simp [run_underlying hk,hj]
theorem run_checkKey_int {P : Program} {kt : TypeId} (hk : P.underlying kt = some (.int .i64)) (b : Bool) (k : Int) (w : World) : (Instr.checkKey b 10000 kt (.int .i64 k)).run P w = .ok () w:=by
 have h : ∀ n : Nat,(Instr.checkKey b (n + 1) kt (.int .i64 k)).run P w = .ok () w:=by
  intro n;unfold Instr.checkKey;simp [run_underlying hk]
 exact h 9999
theorem run_lookup_ints {P : Program} {t kt et : TypeId} (ht : P.underlying t = some (.map kt et)) (hk : P.underlying kt = some (.int .i64)) {z : Value} {w : World} (hz : (zeroValue et).run P w = .ok z w) {b : Nat} {l : List (Int × Value)} (h : IMap w b l) (k : Int) :
 (Instr.lookup t (.map (some b)) (.int .i64 k) true).run P w = .ok (.tuple #[(lookI l k).getD z,.bool (lookI l k).isSome]) w:=by
 obtain ⟨es,clk,h,h2⟩:=h;obtain ⟨j,hj⟩:=run_findKey_ints (P:=P) hk (k:=k) h2 w;unfold Instr.lookup
 cases hl : lookI l k with
 | none =>
   rw [hl] at hj;simp [run_underlying ht,getObj,Sem.run,h,run_checkKey_int hk,hj,hz]
 | some v =>
   rw [hl] at hj;simp [run_underlying ht,getObj,Sem.run,h,run_checkKey_int hk,hj]
def World.mapPut (w : World) (b : Nat) (k : Int) (v : Value) : World :=
 match w.heap[b]? with
 | some (.map es clk)=>{ w with heap:=w.heap.setIfInBounds b (.map (es.push { key:=.int .i64 k,val:=v,born:=clk }) (clk + 1)) }
 | _=>w
theorem run_mapUpdate_ints {P : Program} {t kt et : TypeId} (ht : P.underlying t = some (.map kt et)) (hk : P.underlying kt = some (.int .i64)) {w : World} {b : Nat} {l : List (Int × Value)} (h : IMap w b l) (k : Int) (v : Value) (hn : lookI l k = none) :
 (Instr.mapUpdate t (.map (some b)) (.int .i64 k) v).run P w = .ok () (World.mapPut w b k v):=by
 obtain ⟨es,clk,h,h2⟩:=h;obtain ⟨j,hj⟩:=run_findKey_ints (P:=P) hk (k:=k) h2 w;rw [hn] at hj;unfold Instr.mapUpdate World.mapPut;simp [run_underlying ht,getObj,setObj,Sem.run,h,run_checkKey_int hk,hj]
theorem IMap.put {w : World} {b : Nat} {l : List (Int × Value)} (h : IMap w b l) (k : Int) (v : Value) : IMap (World.mapPut w b k v) b (l ++ [(k,v)]):=by
 have hlt:=h.lt;obtain ⟨es,clk,h,h2⟩:=h;refine ⟨es.push { key:=.int .i64 k,val:=v,born:=clk },clk + 1,?_,?_⟩
 ·unfold World.mapPut
  rw [h];simp [hlt]
 ·simp [h2]
theorem Below.mapPut {B : Nat} {a w : World} (h : Below B a w) {b : Nat} (hb : B ≤ b) (k : Int) (v : Value) : Below B a (World.mapPut w b k v):=by
 refine h.trans ?_;unfold World.mapPut;split
 ·exact ⟨rfl,rfl,rfl,by simp,fun i hi=>by simp [Array.getElem?_setIfInBounds]; omega⟩
 ·exact Below.refl _ _
theorem Blk.mapPut {w : World} {g : Nat} {t : TypeId} {cs : List Value} (h : Blk w g t cs) {b : Nat} (hb : g ≠ b) (k : Int) (v : Value) : Blk (World.mapPut w b k v) g t cs:=by
 unfold Blk at h ⊢;unfold World.mapPut;split
 ·simp only [Array.getElem?_setIfInBounds]
  rw [if_neg (by omega)];exact h
 ·exact h
end Go.Proofs.YtibpmogmeoappabGreat
namespace Go.Proofs.YtibpmogmeoappabGreat
open Go.RowKit
theorem wpList_app1A {P : Program} (w0 : World) (Hz : Nat) (hHz : w0.heap.size = Hz) {ops : Array Oper} {rest : List Oper} {o : Oper} {a : Act} {Q : Exit → Act → World → Prop} (hgd : o.guard = none) (s x : Operand) (t : TypeId)
 (ho : o.op = .call { callee:=.builtin .append,args:=#[s,x],argTypes:=#[t,t] })
 (base : Nat) (e : TypeId) (i : TypeInfo) (z : Value) (size bytes : Nat) (ht : P.underlying t = some (.slice e)) (hi : P.info? e = some i) (hz : i.zero = some z)
 (hsize : i.size = size) (hby : i.bytes = bytes) (hzs : z.cells.size = size) (hsz : 0 < size)
 (A : Option Addr) (n c : Nat) (cs news : List Value) (hs : a.eval s = .slice A n c) (hown : Own w0 base e size A n c cs)
 (hx : a.eval x = .slice (some ⟨Hz,0,none⟩) 1 1) (hl : news.length = size) (h1 : ∀ u ∈ news,u.oneCell' = true)
 (h63 : n ≤ 1073741824) (hbytes : bytes ≤ 65536) (hbase : base ≤ w0.heap.size)
 (h : ∀ A' c' w', Own w' base e size A' (n + 1) c' (cs ++ news) → (w0.alloc (.cells news.toArray e)).grownBy w' (Value.slice A n c).ownBlock →
   ((Value.slice A' (n + 1) c').ownBlock = (Value.slice A n c).ownBlock ∨ (Value.slice A' (n + 1) c').ownBlock = some (w0.alloc (.cells news.toArray e)).heap.size) → wpList P ops Q rest (a.put o.dst (.slice A' (n + 1) c')) w') :
 wpList P ops Q (o :: rest) a (w0.alloc (.cells news.toArray e)):=by
 subst hHz;refine wpList_append_own_at _ hgd s x t ho base e i z size bytes ht hi hz hsize hby hzs hsz (.slice A n c) n cs hs (hown.alloc _) ⟨w0.heap.size,0,none⟩ 1 1 news hx (by omega) ?_ h1 (by unfold maxLen; omega) ?_ (by simp; omega) ?_
 ·intro j u hu
  rw [Addr.add_lit,Nat.zero_add,(Blk.new w0 e news).cell];exact hu
 ·have h2 : (n + 1) * bytes ≤ 1073741825 * 65536:=Nat.mul_le_mul (by omega) hbytes
  omega
 ·intro v' w' hown' hg _ hat
  have hform : ∃ A' c',v' = .slice A' (n + 1) c':=by
   rcases hown'.2 with ⟨_,h0⟩ | ⟨g,cap,cur,hv,_⟩
   ·omega
   ·exact ⟨_,_,hv⟩
  obtain ⟨A',c',rfl⟩:=hform;exact h A' c' w' hown' hg hat
def Sat (w : World) (own : Option Nat) (B : Option Addr) (ds : List Value) : Prop:=Cells w B ds ∧ (ds ≠ [] → ∀ a,B = some a → own ≠ some a.block)
section
variable {w w' : World} {own own' : Option Nat} {B : Option Addr} {ds : List Value}
theorem Sat.lt (h : Sat w own B ds) (hd : ds ≠ []) : ∃ b o,B = some ⟨b,o,none⟩ ∧ b < w.heap.size ∧ own ≠ some b:=by
 obtain ⟨b,o,e,hlt,_⟩:=h.1 0 (List.length_pos_iff.2 hd);exact ⟨b,o,e,hlt,h.2 hd _ e⟩
theorem Sat.keep (h : Sat w own B ds) (hb : Below w.heap.size w w') : Sat w' own B ds:=⟨h.1.keep hb,h.2⟩
theorem Sat.grown (h : Sat w own B ds) (hg : w.grownBy w' own) (hat : own' = own ∨ own' = some w.heap.size) : Sat w' own' B ds:=by
 refine ⟨fun i hi=>?_,fun hd a ha=>?_⟩
 ·obtain ⟨b,o,e1,hlt,hc⟩:=h.1 i hi
  have hne : ds ≠ []:=fun e=>by subst e; simp at hi
  have hn:=h.2 hne _ e1;exact ⟨b,o,e1,Nat.lt_of_lt_of_le hlt hg.size,(World.cell?_of_block (hg.block b hlt (fun e=>hn e.symm))).trans hc⟩
 ·obtain ⟨b,o,e1,hlt,hn⟩:=h.lt hd
  rw [e1] at ha;injection ha with ha;subst ha;rcases hat with e | e
  ·rw [e]; exact hn
  ·rw [e]; intro e2; injection e2 with e2; simp only at e2; omega
theorem Sat.far (h : Sat w own B ds) {p : Addr} (hp : ∀ b o,B = some ⟨b,o,none⟩ → p.block ≠ b) (u : Value) : Sat (w.setCell p u) own B ds:=by
 refine ⟨fun i hi=>?_,h.2⟩;obtain ⟨b,o,e,hlt,hc⟩:=h.1 i hi;refine ⟨b,o,e,by simpa [World.setCell] using hlt,?_⟩;rw [World.cell?_setCell_other w p ⟨b,o + i,none⟩ u (fun e2=>hp b o e (by rw [e2]))];exact hc
end
abbrev Kind (α : Type):=α → List Value → Option Addr → List Value → Prop
def Spelt {α : Type} (E : Kind α) (w : World) (own : Option Nat) (xs : List α) (es : List (List Value × Option Addr × List Value)) : Prop :=
 es.length = xs.length ∧ ∀ (i : Nat) (x : α) (e : List Value × Option Addr × List Value),xs[i]? = some x → es[i]? = some e → E x e.1 e.2.1 e.2.2 ∧ Sat w own e.2.1 e.2.2
section
variable {α : Type} {E : Kind α} {w w' : World} {own own' : Option Nat} {xs : List α} {es : List (List Value × Option Addr × List Value)}
theorem Spelt.keep (h : Spelt E w own xs es) (hb : Below w.heap.size w w') : Spelt E w' own xs es:=⟨h.1,fun i x e h1 h2=>⟨(h.2 i x e h1 h2).1,(h.2 i x e h1 h2).2.keep hb⟩⟩
theorem Spelt.grown (h : Spelt E w own xs es) (hg : w.grownBy w' own) (hat : own' = own ∨ own' = some w.heap.size) : Spelt E w' own' xs es:=⟨h.1,fun i x e h1 h2=>⟨(h.2 i x e h1 h2).1,(h.2 i x e h1 h2).2.grown hg hat⟩⟩
theorem Spelt.nil (E : Kind α) (w : World) (own : Option Nat) : Spelt E w own [] []:=⟨rfl,fun i x e h1 _=>by simp at h1⟩
theorem Spelt.snoc (h : Spelt E w own xs es) {x : α} {cs ds : List Value} {B : Option Addr} (hE : E x cs B ds) (hS : Sat w own B ds) : Spelt E w own (xs ++ [x]) (es ++ [(cs,B,ds)]):=by
 refine ⟨by simp [h.1],fun i y e h1 h2=>?_⟩;by_cases hi : i < xs.length
 ·rw [List.getElem?_append_left hi] at h1
  rw [List.getElem?_append_left (by rw [h.1]; exact hi)] at h2;exact h.2 i y e h1 h2
 ·rw [List.getElem?_append_right (by omega)] at h1
  rw [List.getElem?_append_right (by rw [h.1]; omega),h.1] at h2
  have hz : i - xs.length = 0:=by
   by_cases hz : i - xs.length = 0
   ·exact hz
   ·rw [List.getElem?_eq_none (by simp; omega)] at h1; cases h1
  rw [hz] at h1 h2;simp only [List.getElem?_cons_zero,Option.some.injEq] at h1 h2;subst h1 h2;exact ⟨hE,hS⟩
end
structure GRow {α : Type} (E : Kind α) (k : Nat) (ty : TypeId) (w : World) (base : Nat) (A : Option Addr) (n c : Nat) (xs : List α) (es : List (List Value × Option Addr × List Value)) : Prop where
 own : Own w base ty k A n c (es.flatMap (·.1))
 spelt : Spelt E w (Value.slice A n c).ownBlock xs es
section
variable {α : Type} {E : Kind α} {k : Nat} {ty : TypeId} {w w' : World} {base : Nat} {A A' : Option Addr} {n c c' : Nat} {xs : List α} {es : List (List Value × Option Addr × List Value)}
theorem GRow.nil (E : Kind α) (k : Nat) (ty : TypeId) (w : World) (base : Nat) : GRow E k ty w base none 0 0 [] []:=⟨Own.nil _ _ _ _,Spelt.nil _ _ _⟩
theorem GRow.keep (h : GRow E k ty w base A n c xs es) (hb : Below w.heap.size w w') : GRow E k ty w' base A n c xs es:=⟨h.own.keep hb,h.spelt.keep hb⟩
theorem GRow.alloc (h : GRow E k ty w base A n c xs es) (o : Obj) : GRow E k ty (w.alloc o) base A n c xs es:=h.keep ((Below.refl _ _).alloc (Nat.le_refl _) o)
theorem GRow.app (h : GRow E k ty w base A n c xs es) {x : α} {news ds : List Value} {B : Option Addr} (hE : E x news B ds) (hS : Cells w B ds) (hB : ds ≠ [] → ∀ a,B = some a → (Value.slice A n c).ownBlock ≠ some a.block)
 (ho : Own w' base ty k A' (n + 1) c' (es.flatMap (·.1) ++ news)) (hg : (w.alloc (.cells news.toArray ty)).grownBy w' (Value.slice A n c).ownBlock)
 (hat : (Value.slice A' (n + 1) c').ownBlock = (Value.slice A n c).ownBlock ∨ (Value.slice A' (n + 1) c').ownBlock = some (w.alloc (.cells news.toArray ty)).heap.size) :
 GRow E k ty w' base A' (n + 1) c' (xs ++ [x]) (es ++ [(news,B,ds)]):=by
 have hal : Below w.heap.size w (w.alloc (.cells news.toArray ty)):=(Below.refl _ _).alloc (Nat.le_refl _) _;refine ⟨by rw [List.flatMap_append]; simpa using ho,?_⟩;exact ((h.spelt.keep hal).snoc hE ⟨hS.keep hal,hB⟩).grown hg hat
theorem GRow.at_ (h : GRow E k ty w base A n c xs es) (hk : ∀ x cs B ds,E x cs B ds → cs.length = k) {i : Nat} {x : α} (hx : xs[i]? = some x) (h0 : 0 < k) :
 ∃ b o cs B ds,A = some ⟨b,o,none⟩ ∧ b < w.heap.size ∧ E x cs B ds ∧ Cells w B ds ∧ ∀ j,j < k → w.cell? ⟨b,o + i * k + j,none⟩ = some (cs.getD j undef):=by
 have hi : i < xs.length:=by
  by_cases e : i < xs.length
  ·exact e
  ·rw [List.getElem?_eq_none (by omega)] at hx; cases hx
 have hie : i < es.length:=by rw [h.spelt.1]; exact hi
 obtain ⟨hE,hS⟩:=h.spelt.2 i x es[i] hx (List.getElem?_eq_getElem hie)
 have hkk : ∀ e ∈ es,e.1.length = k:=by
  intro e he;obtain ⟨j,hj,rfl⟩:=List.getElem_of_mem he;have hj' : j < xs.length:=by rw [← h.spelt.1]; exact hj
  exact hk _ _ _ _ (h.spelt.2 j xs[j] es[j] (List.getElem?_eq_getElem hj') (List.getElem?_eq_getElem hj)).1
 have key : ∀ (l : List (List Value × Option Addr × List Value)) (m j : Nat) (hm : m < l.length),(∀ e ∈ l,e.1.length = k) → j < k → (l.flatMap (·.1))[m * k + j]? = (l[m]).1[j]?:=by
  intro l
  induction l with
  | nil=>intro m j hm; simp at hm
  | cons e l ih =>
    intro m j hm hl hj
    cases m with
    | zero =>
      rw [List.flatMap_cons,Nat.zero_mul,Nat.zero_add,List.getElem?_append_left (by rw [hl e (by simp)]; exact hj)];rfl
    | succ m =>
      rw [List.flatMap_cons,List.getElem?_append_right (by rw [hl e (by simp),Nat.succ_mul]; omega),hl e (by simp),show (m + 1) * k + j - k = m * k + j by rw [Nat.succ_mul]; omega];exact ih m j (by simpa using hm) (fun e he=>hl e (by simp [he])) hj
 have hlen : (es.flatMap (·.1)).length = n * k:=h.own.len
 have hcell : ∀ j,j < k → (es.flatMap (·.1))[i * k + j]? = (es[i]).1[j]?:=fun j hj=>key es i j hie hkk hj
 have hl1:=hkk _ (List.getElem_mem hie)
 have hlt : ∀ j,j < k → i * k + j < (es.flatMap (·.1)).length:=by
  intro j hj;have:=hcell j hj;rw [List.getElem?_eq_getElem (by omega : j < (es[i]).1.length)] at this;by_cases e : i * k + j < (es.flatMap (·.1)).length
  ·exact e
  ·rw [List.getElem?_eq_none (by omega)] at this; cases this
 obtain ⟨b,o,hA,hb,_⟩:=h.own.cells (i * k + 0) (hlt 0 h0);refine ⟨b,o,_,_,_,hA,hb,hE,hS.1,fun j hj=>?_⟩;obtain ⟨b',o',hA',_,hc⟩:=h.own.cells (i * k + j) (hlt j hj);rw [hA] at hA';injection hA' with hA';injection hA' with e1 e2;subst e1 e2;rw [Nat.add_assoc,hc,List.getD_eq_getElem?_getD,List.getD_eq_getElem?_getD,hcell j hj]
end
def IntK : Kind (List Int):=fun x cs B ds=>∃ m d,cs = [.slice B m d] ∧ x.length = m ∧ ds = x.map (.int .i64)
def ImgK : Kind Img:=fun x cs B ds=>∃ m d,cs = [.int .i64 x.W,.int .i64 x.H,.slice B m d] ∧ x.P.length = m ∧ ds = x.P.map (.int .i64)
def IntRows (w : World) (A : Option Addr) (L : List (List Int)) : Prop :=
 ∀ (i : Nat) (x : List Int),L[i]? = some x → ∃ b o B m d,A = some ⟨b,o,none⟩ ∧ b < w.heap.size ∧ w.cell? ⟨b,o + i,none⟩ = some (.slice B m d) ∧ x.length = m ∧ Ints w B x
def Imgs (w : World) (A : Option Addr) (L : List Img) : Prop :=
 ∀ (i : Nat) (x : Img),L[i]? = some x → ∃ b o B m d,A = some ⟨b,o,none⟩ ∧ b < w.heap.size ∧ w.cell? ⟨b,o + i * 3,none⟩ = some (.int .i64 x.W) ∧ w.cell? ⟨b,o + i * 3 + 1,none⟩ = some (.int .i64 x.H) ∧ w.cell? ⟨b,o + i * 3 + 2,none⟩ = some (.slice B m d) ∧ x.P.length = m ∧ Ints w B x.P
section
variable {w w' : World} {A : Option Addr} {L : List (List Int)} {M : List Img}
theorem IntRows.keep (h : IntRows w A L) (hb : Below w.heap.size w w') : IntRows w' A L:=by
 intro i x hx;obtain ⟨b,o,B,m,d,h1,h2,h3,h4,h5⟩:=h i x hx;exact ⟨b,o,B,m,d,h1,Nat.lt_of_lt_of_le h2 hb.size,(hb.cell (p:=⟨b,o + i,none⟩) h2).trans h3,h4,h5.keep hb⟩
theorem Imgs.keep (h : Imgs w A M) (hb : Below w.heap.size w w') : Imgs w' A M:=by
 intro i x hx;obtain ⟨b,o,B,m,d,h1,h2,h3,h4,h5,h6,h7⟩:=h i x hx;exact ⟨b,o,B,m,d,h1,Nat.lt_of_lt_of_le h2 hb.size,(hb.cell (p:=⟨b,_,none⟩) h2).trans h3,(hb.cell (p:=⟨b,_,none⟩) h2).trans h4,(hb.cell (p:=⟨b,_,none⟩) h2).trans h5,h6,h7.keep hb⟩
theorem Keeps.intRows (h : IntRows w A L) : Keeps w (fun W=>IntRows W A L):=⟨h,fun _ hb=>h.keep hb⟩
theorem Keeps.imgs (h : Imgs w A M) : Keeps w (fun W=>Imgs W A M):=⟨h,fun _ hb=>h.keep hb⟩
theorem GRow.intRows {ty : TypeId} {base n c : Nat} {es : List (List Value × Option Addr × List Value)} (h : GRow IntK 1 ty w base A n c L es) : IntRows w A L:=by
 intro i x hx;obtain ⟨b,o,cs,B,ds,h1,h2,⟨m,d,rfl,h3,rfl⟩,h4,h5⟩:=h.at_ (fun x cs B ds ⟨m,d,e,_⟩=>by rw [e]; rfl) hx (by omega);exact ⟨b,o,B,m,d,h1,h2,by have:=h5 0 (by omega); rw [Nat.mul_one] at this; exact this,h3,h4⟩
theorem GRow.imgs {ty : TypeId} {base n c : Nat} {es : List (List Value × Option Addr × List Value)} (h : GRow ImgK 3 ty w base A n c M es) : Imgs w A M:=by
 intro i x hx;obtain ⟨b,o,cs,B,ds,h1,h2,⟨m,d,rfl,h3,rfl⟩,h4,h5⟩:=h.at_ (fun x cs B ds ⟨m,d,e,_⟩=>by rw [e]; rfl) hx (by omega);exact ⟨b,o,B,m,d,h1,h2,h5 0 (by omega),h5 1 (by omega),h5 2 (by omega),h3,h4⟩
end
end Go.Proofs.YtibpmogmeoappabGreat
namespace Go.Proofs.YtibpmogmeoappabGreat
open Go.RowKit
section
variable {w w' : World} {base : Nat} {e : TypeId} {size : Nat} {A : Option Addr} {n c : Nat} {cs : List Value} {own : Option Nat}
theorem Own.grownFar (h : Own w base e size A n c cs) (hg : w.grownBy w' own) (hne : ∀ b,(Value.slice A n c).ownBlock = some b → own ≠ some b) : Own w' base e size A n c cs:=by
 refine World.ownsRow.kept h (row:=own) hg ?_
 cases hx : (Value.slice A n c).ownBlock with
 | none=>exact .inl rfl
 | some k=>exact .inr (fun e=>hne k hx e.symm)
theorem Own.lt (h : Own w base e size A n c cs) {b : Nat} (hb : (Value.slice A n c).ownBlock = some b) : base ≤ b ∧ b < w.heap.size:=World.ownsRow.lt h b hb
theorem Blk.newE {w : World} {t : TypeId} {cs : List Value} {x : Nat} (h : w.heap.size = x) : Blk (w.alloc (.cells cs.toArray t)) x t cs:=by subst h; exact Blk.new w t cs
end
theorem step_app1W {P : Program} (wx : World) (x : Nat) {ops : Array Oper} {o : Oper} {a : Act} {K : Act → World → Prop} {Q : Exit → Act → World → Prop} {E : Prop} (hgd : o.guard = none) (s y : Operand) (t : TypeId)
 (ho : o.op = .call { callee:=.builtin .append,args:=#[s,y],argTypes:=#[t,t] })
 (base : Nat) (e : TypeId) (i : TypeInfo) (z : Value) (size bytes : Nat) (ht : P.underlying t = some (.slice e)) (hi : P.info? e = some i) (hz : i.zero = some z)
 (hsize : i.size = size) (hby : i.bytes = bytes) (hzs : z.cells.size = size) (hsz : 0 < size)
 (A : Option Addr) (n c : Nat) (cs news : List Value) (hs : a.eval s = .slice A n c) (hown : Own wx base e size A n c cs)
 (hx : a.eval y = .slice (some ⟨x,0,none⟩) 1 1) (hblk : Blk wx x e news) (hl : news.length = size) (h1 : ∀ u ∈ news,u.oneCell' = true)
 (h63 : n ≤ 1073741824) (hbytes : bytes ≤ 65536) (hbase : base ≤ wx.heap.size)
 (h : ∀ A' c' w', Own w' base e size A' (n + 1) c' (cs ++ news) → wx.grownBy w' (Value.slice A n c).ownBlock →
   ((Value.slice A' (n + 1) c').ownBlock = (Value.slice A n c).ownBlock ∨ (Value.slice A' (n + 1) c').ownBlock = some wx.heap.size) → K (a.put o.dst (.slice A' (n + 1) c')) w') :
 if Region.wanted o (yielded ops a.tmps) = true then Oper.wp P o a wx K Q else E:=by
 refine step_append_lies _ hgd s y t ho base e i z size bytes ht hi hz hsize hby hzs hsz (.slice A n c) n cs hs hown ⟨x,0,none⟩ 1 1 news hx (by omega) ?_ h1 (by omega) (by unfold maxLen; omega) ?_ hbase wx.heap.size rfl ?_
 ·intro j u hu
  rw [Addr.add_lit,Nat.zero_add,hblk.cell];exact hu
 ·have h2 : (n + 1) * bytes ≤ 1073741825 * 65536:=Nat.mul_le_mul (by omega) hbytes
  omega
 ·intro g cap w' hown' hg hat _
  refine h _ _ w' hown' hg ?_;rcases hat with e1 | e1
  ·exact .inl e1.symm
  ·exact .inr (by rw [← e1]; rfl)
structure Two {α : Type} (E : Kind α) (k1 k2 : Nat) (t1 t2 : TypeId) (w : World) (base : Nat) (A : Option Addr) (n c : Nat) (cs : List Value) (B : Option Addr) (m d : Nat) (xs : List α) (es : List (List Value × Option Addr × List Value)) : Prop where
 one : Own w base t1 k1 A n c cs
 two : GRow E k2 t2 w base B m d xs es
 apart : ∀ b,(Value.slice A n c).ownBlock = some b → (Value.slice B m d).ownBlock ≠ some b
 far : Spelt E w (Value.slice A n c).ownBlock xs es
 new : ∀ e ∈ es,e.2.2 ≠ [] → NewFrom base e.2.1
section
variable {α : Type} {E : Kind α} {k1 k2 : Nat} {t1 t2 : TypeId} {w w' : World} {base : Nat} {A A' B B' : Option Addr} {n c c' m d d' : Nat} {cs : List Value} {xs : List α} {es : List (List Value × Option Addr × List Value)}
theorem Two.nil (E : Kind α) (k1 k2 : Nat) (t1 t2 : TypeId) (w : World) (base : Nat) : Two E k1 k2 t1 t2 w base none 0 0 [] none 0 0 [] [] :=
 ⟨Own.nil _ _ _ _,GRow.nil _ _ _ _ _,(fun b h=>by cases h),Spelt.nil _ _ _,(fun e he=>by cases he)⟩
theorem Two.keep (h : Two E k1 k2 t1 t2 w base A n c cs B m d xs es) (hb : Below w.heap.size w w') : Two E k1 k2 t1 t2 w' base A n c cs B m d xs es :=
 ⟨h.one.keep hb,h.two.keep hb,h.apart,h.far.keep hb,h.new⟩
theorem Spelt.farB {own : Option Nat} (h : Spelt E w own xs es) (hn : ∀ e ∈ es,e.2.2 ≠ [] → NewFrom base e.2.1) {p : Addr} (hp : p.block < base) (u : Value) : Spelt E (w.setCell p u) own xs es:=by
 refine ⟨h.1,fun i x e h1 h2=>⟨(h.2 i x e h1 h2).1,?_⟩⟩;have hS:=(h.2 i x e h1 h2).2;by_cases he : e.2.2 = []
 ·exact ⟨by rw [he]; exact Cells.nil _ _,hS.2⟩
 ·exact ⟨hS.1.far (hn e (List.mem_of_getElem? h2) he) hp u,hS.2⟩
theorem Two.setBelow (h : Two E k1 k2 t1 t2 w base A n c cs B m d xs es) {p : Addr} (hp : p.block < base) (u : Value) : Two E k1 k2 t1 t2 (w.setCell p u) base A n c cs B m d xs es :=
 ⟨h.one.far hp u,⟨h.two.own.far hp u,h.two.spelt.farB h.new hp u⟩,h.apart,h.far.farB h.new hp u,h.new⟩
theorem Two.app1 (h : Two E k1 k2 t1 t2 w base A n c cs B m d xs es) {news : List Value} (ho : Own w' base t1 k1 A' (n + 1) c' (cs ++ news)) (hg : w.grownBy w' (Value.slice A n c).ownBlock)
 (hat : (Value.slice A' (n + 1) c').ownBlock = (Value.slice A n c).ownBlock ∨ (Value.slice A' (n + 1) c').ownBlock = some w.heap.size) :
 Two E k1 k2 t1 t2 w' base A' (n + 1) c' (cs ++ news) B m d xs es:=by
 refine ⟨ho,⟨h.two.own.grownFar hg (fun b hb e=>h.apart b e hb),?_⟩,fun b hb hb2=>?_,h.far.grown hg hat,h.new⟩
 ·have h2:=h.two.spelt
  refine ⟨h2.1,fun i x e h3 h4=>⟨(h2.2 i x e h3 h4).1,?_⟩⟩;have hS:=(h2.2 i x e h3 h4).2;have hF:=(h.far.2 i x e h3 h4).2;exact ⟨(hF.grown hg (.inl rfl)).1,hS.2⟩
 ·rcases hat with e | e
  ·rw [e] at hb; exact h.apart b hb hb2
  ·rw [e] at hb; injection hb with hb
   have:=(h.two.own.lt hb2).2;omega
theorem Two.app2 (h : Two E k1 k2 t1 t2 w base A n c cs B m d xs es) {x : α} {news ds : List Value} {D : Option Addr} (hE : E x news D ds) (hD : Cells w D ds) (hD1 : ds ≠ [] → ∀ a,D = some a → (Value.slice A n c).ownBlock ≠ some a.block)
 (hD2 : ds ≠ [] → ∀ a,D = some a → (Value.slice B m d).ownBlock ≠ some a.block) (hN : ds ≠ [] → NewFrom base D)
 (ho : Own w' base t2 k2 B' (m + 1) d' (es.flatMap (·.1) ++ news)) (hg : w.grownBy w' (Value.slice B m d).ownBlock)
 (hat : (Value.slice B' (m + 1) d').ownBlock = (Value.slice B m d).ownBlock ∨ (Value.slice B' (m + 1) d').ownBlock = some w.heap.size) :
 Two E k1 k2 t1 t2 w' base A n c cs B' (m + 1) d' (xs ++ [x]) (es ++ [(news,D,ds)]):=by
 have hnew : ∀ e ∈ es ++ [(news,D,ds)],e.2.2 ≠ [] → NewFrom base e.2.1:=by
  intro e he hd;rcases List.mem_append.1 he with he | he
  ·exact h.new e he hd
  ·rw [List.mem_singleton] at he; subst he; exact hN hd
 have hS:=(h.two.spelt.snoc hE ⟨hD,hD2⟩).grown hg hat;refine ⟨h.one.grownFar hg (fun b hb e=>h.apart b hb e),⟨by rw [List.flatMap_append]; simpa using ho,hS⟩,fun b hb hb2=>?_,?_,hnew⟩
 ·rcases hat with e | e
  ·rw [e] at hb2; exact h.apart b hb hb2
  ·rw [e] at hb2; injection hb2 with hb2
   have:=(h.one.lt hb).2;omega
 ·have h1:=h.far.snoc hE ⟨hD,hD1⟩
  refine ⟨h1.1,fun i x' e h3 h4=>⟨(h1.2 i x' e h3 h4).1,?_⟩⟩;exact ⟨(hS.2 i x' e h3 h4).2.1,(h1.2 i x' e h3 h4).2.2⟩
end
end Go.Proofs.YtibpmogmeoappabGreat
namespace Go.Proofs.YtibpmogmeoappabGreat
open Go.RowKit
abbrev Sp:=List Value × Option Addr × List Value
structure ABlk {α : Type} (E : Kind α) (ty : TypeId) (w : World) (g : Nat) (xs : List α) (es : List Sp) : Prop where
 blk : Blk w g ty (es.flatMap (·.1))
 spelt : Spelt E w (some g) xs es
 len : ∀ e ∈ es,e.1.length = 3
section
variable {α : Type} {E : Kind α} {ty : TypeId} {w w' : World} {g : Nat} {xs : List α} {es : List Sp}
theorem ABlk.keep (h : ABlk E ty w g xs es) (hb : Below w.heap.size w w') : ABlk E ty w' g xs es:=⟨h.blk.keep hb,h.spelt.keep hb,h.len⟩
theorem flatGet : ∀ (l : List Sp) (m j : Nat) (hm : m < l.length),(∀ e ∈ l,e.1.length = 3) → j < 3 → (l.flatMap (·.1))[m * 3 + j]? = (l[m]).1[j]?
 | [],m,j,hm,_,_=>by simp at hm
 | e :: l, 0, j, hm, hl, hj => by
   rw [List.flatMap_cons,Nat.zero_mul,Nat.zero_add,List.getElem?_append_left (by rw [hl e (by simp)]; exact hj)];rfl
 | e :: l, m + 1, j, hm, hl, hj => by
   rw [List.flatMap_cons,List.getElem?_append_right (by rw [hl e (by simp)]; omega),hl e (by simp),show (m + 1) * 3 + j - 3 = m * 3 + j by omega];exact flatGet l m j (by simpa using hm) (fun e he=>hl e (by simp [he])) hj
theorem ABlk.at_ (h : ABlk E ty w g xs es) {i : Nat} {x : α} (hx : xs[i]? = some x) :
 ∃ cs B ds,E x cs B ds ∧ Cells w B ds ∧ (ds ≠ [] → ∀ a,B = some a → g ≠ a.block) ∧ (∀ j,j < 3 → w.cell? ⟨g,i * 3 + j,none⟩ = some (cs.getD j undef)):=by
 have hi : i < xs.length:=by
  by_cases e : i < xs.length
  ·exact e
  ·rw [List.getElem?_eq_none (by omega)] at hx; cases hx
 have hie : i < es.length:=by rw [h.spelt.1]; exact hi
 obtain ⟨hE,hS⟩:=h.spelt.2 i x es[i] hx (List.getElem?_eq_getElem hie);refine ⟨_,_,_,hE,hS.1,fun hd a ha e=>hS.2 hd a ha (by rw [e]),fun j hj=>?_⟩;have hl:=h.len _ (List.getElem_mem hie);rw [h.blk.cell,flatGet es i j hie h.len hj,List.getD_eq_getElem?_getD,List.getElem?_eq_getElem (by omega)];rfl
theorem Spelt.set {own : Option Nat} (h : Spelt E w own xs es) {i : Nat} {x : α} {cs ds : List Value} {B : Option Addr} (hE : E x cs B ds) (hS : Sat w own B ds) : Spelt E w own (xs.set i x) (es.set i (cs,B,ds)):=by
 refine ⟨by simp [h.1],fun j y e h1 h2=>?_⟩;rw [List.getElem?_set] at h1 h2;by_cases hij : i = j
 ·subst hij
  rw [if_pos rfl] at h1 h2;split at h1
  ·injection h1 with h1
   split at h2
   ·injection h2 with h2
    subst h1 h2;exact ⟨hE,hS⟩
   ·cases h2
  ·cases h1
 ·rw [if_neg hij] at h1 h2
  exact h.2 j y e h1 h2
theorem Spelt.far {own : Nat} (h : Spelt E w (some own) xs es) (o : Nat) (u : Value) : Spelt E (w.setCell ⟨own,o,none⟩ u) (some own) xs es:=by
 refine ⟨h.1,fun i x e h1 h2=>⟨(h.2 i x e h1 h2).1,?_⟩⟩;have hS:=(h.2 i x e h1 h2).2;refine ⟨fun j hj=>?_,hS.2⟩;obtain ⟨b,o',e1,hlt,hc⟩:=hS.1 j hj;have hne : e.2.2 ≠ []:=fun e=>by rw [e] at hj; simp at hj
 have hn:=hS.2 hne _ e1;refine ⟨b,o',e1,by simpa [World.setCell] using hlt,?_⟩;rw [World.cell?_setCell_other w ⟨own,o,none⟩ ⟨b,o' + j,none⟩ u (fun e2=>hn (by injection e2 with e2; rw [e2]))];exact hc
theorem ABlk.store (h : ABlk E ty w g xs es) {i : Nat} {x : α} {v0 v1 v2 : Value} {ds : List Value} {B : Option Addr} (hi : i < xs.length) (hE : E x [v0,v1,v2] B ds) (hS : Cells w B ds) (hB : ds ≠ [] → ∀ a,B = some a → g ≠ a.block) :
 ABlk E ty (((w.setCell ⟨g,i * 3,none⟩ v0).setCell ⟨g,i * 3 + 1,none⟩ v1).setCell ⟨g,i * 3 + 2,none⟩ v2) g (xs.set i x) (es.set i ([v0,v1,v2],B,ds)):=by
 have hie : i < es.length:=by rw [h.spelt.1]; exact hi
 have hl : ∀ e ∈ es.set i ([v0,v1,v2],B,ds),e.1.length = 3:=by
  intro e he;rcases List.mem_or_eq_of_mem_set he with he | rfl
  ·exact h.len e he
  ·rfl
 refine ⟨?_,?_,hl⟩
 ·have hb:=((h.blk.set_ (i * 3) v0).set_ (i * 3 + 1) v1).set_ (i * 3 + 2) v2
  have e : (es.set i ([v0,v1,v2],B,ds)).flatMap (·.1) = (((es.flatMap (·.1)).set (i * 3) v0).set (i * 3 + 1) v1).set (i * 3 + 2) v2:=by
   have key : ∀ (l : List Sp) (m : Nat),m < l.length → (∀ e ∈ l,e.1.length = 3) → (l.set m ([v0,v1,v2],B,ds)).flatMap (·.1) = (((l.flatMap (·.1)).set (m * 3) v0).set (m * 3 + 1) v1).set (m * 3 + 2) v2:=by
    intro l
    induction l with
    | nil=>intro m hm; simp at hm
    | cons e l ih =>
      intro m hm hl
      obtain ⟨a,b,c,hx2⟩ : ∃ a b c,e.1 = [a,b,c]:=by
       have hx:=hl e (by simp)
       match h : e.1,hx with
       | [a,b,c],_=>exact ⟨a,b,c,rfl⟩
      cases m with
      | zero=>simp [hx2]
      | succ m =>
        rw [List.set_cons_succ,List.flatMap_cons,ih m (by simpa using hm) (fun e he=>hl e (by simp [he])),List.flatMap_cons,hx2];rw [show (m + 1) * 3 = m * 3 + 3 by omega,show m * 3 + 3 + 1 = (m * 3 + 1) + 3 by omega,show m * 3 + 3 + 2 = (m * 3 + 2) + 3 by omega];rfl
   exact key es i hie h.len
  rw [e]; exact hb
 ·have h1:=((h.spelt.far (i * 3) v0).far (i * 3 + 1) v1).far (i * 3 + 2) v2
  refine h1.set hE ⟨fun j hj=>?_,fun hd a ha e=>hB hd a ha (by injection e)⟩;obtain ⟨b,o',e1,hlt,hc⟩:=hS j hj;have hne : ds ≠ []:=fun e=>by rw [e] at hj; simp at hj
  have hn:=hB hne _ e1;simp only at hn;refine ⟨b,o',e1,by simpa [World.setCell] using hlt,?_⟩;rw [World.cell?_setCell_other _ ⟨g,i * 3 + 2,none⟩ ⟨b,o' + j,none⟩ v2 (fun e2=>hn (by injection e2)),World.cell?_setCell_other _ ⟨g,i * 3 + 1,none⟩ ⟨b,o' + j,none⟩ v1 (fun e2=>hn (by injection e2)),World.cell?_setCell_other w ⟨g,i * 3,none⟩ ⟨b,o' + j,none⟩ v0 (fun e2=>hn (by injection e2))];exact hc
end
end Go.Proofs.YtibpmogmeoappabGreat
namespace Go.Proofs.YtibpmogmeoappabGreat
open Go.RowKit
theorem GRow.at2 {α : Type} {E : Kind α} {k : Nat} {ty : TypeId} {w : World} {base : Nat} {A : Option Addr} {n c : Nat} {xs : List α} {es : List (List Value × Option Addr × List Value)} (h : GRow E k ty w base A n c xs es) (hk : ∀ x cs B ds,E x cs B ds → cs.length = k) {i : Nat} {x : α} (hx : xs[i]? = some x) (h0 : 0 < k) :
 ∃ g cs B ds,A = some ⟨g,0,none⟩ ∧ base ≤ g ∧ g < w.heap.size ∧ (cs,B,ds) ∈ es ∧ E x cs B ds ∧ Cells w B ds ∧ (ds ≠ [] → ∀ a,B = some a → g ≠ a.block) ∧ ∀ j,j < k → w.cell? ⟨g,i * k + j,none⟩ = some (cs.getD j undef) ∧ w.frozen? ⟨g,i * k + j,none⟩ = false:=by
 have hi : i < xs.length:=by
  by_cases e : i < xs.length
  ·exact e
  ·rw [List.getElem?_eq_none (by omega)] at hx; cases hx
 have hie : i < es.length:=by rw [h.spelt.1]; exact hi
 obtain ⟨hE,hS⟩:=h.spelt.2 i x es[i] hx (List.getElem?_eq_getElem hie)
 have hkk : ∀ e ∈ es,e.1.length = k:=by
  intro e he;obtain ⟨j,hj,rfl⟩:=List.getElem_of_mem he;have hj' : j < xs.length:=by rw [← h.spelt.1]; exact hj
  exact hk _ _ _ _ (h.spelt.2 j xs[j] es[j] (List.getElem?_eq_getElem hj') (List.getElem?_eq_getElem hj)).1
 have key : ∀ (l : List (List Value × Option Addr × List Value)) (m j : Nat) (hm : m < l.length),(∀ e ∈ l,e.1.length = k) → j < k → (l.flatMap (·.1))[m * k + j]? = (l[m]).1[j]?:=by
  intro l
  induction l with
  | nil=>intro m j hm; simp at hm
  | cons e l ih =>
    intro m j hm hl hj
    cases m with
    | zero =>
      rw [List.flatMap_cons,Nat.zero_mul,Nat.zero_add,List.getElem?_append_left (by rw [hl e (by simp)]; exact hj)];rfl
    | succ m =>
      rw [List.flatMap_cons,List.getElem?_append_right (by rw [hl e (by simp),Nat.succ_mul]; omega),hl e (by simp),show (m + 1) * k + j - k = m * k + j by rw [Nat.succ_mul]; omega];exact ih m j (by simpa using hm) (fun e he=>hl e (by simp [he])) hj
 have hcell : ∀ j,j < k → (es.flatMap (·.1))[i * k + j]? = (es[i]).1[j]?:=fun j hj=>key es i j hie hkk hj
 have hl1:=hkk _ (List.getElem_mem hie)
 have hlt : ∀ j,j < k → i * k + j < (es.flatMap (·.1)).length:=by
  intro j hj;have:=hcell j hj;rw [List.getElem?_eq_getElem (by omega : j < (es[i]).1.length)] at this;by_cases e : i * k + j < (es.flatMap (·.1)).length
  ·exact e
  ·rw [List.getElem?_eq_none (by omega)] at this; cases this
 rcases h.own.2 with ⟨hv,hn0⟩ | ⟨g,cap,cur,hv,hb,hg,-⟩
 ·have hl:=h.own.1
  have:=hlt 0 h0;rw [hl,hn0] at this;omega
 ·have hA : A = some ⟨g,0,none⟩:=by injection hv
  subst hA;refine ⟨g,(es[i]).1,(es[i]).2.1,(es[i]).2.2,rfl,hb,(Array.getElem?_eq_some_iff.1 hg).1,List.getElem_mem hie,hE,hS.1,fun hd a ha e=>?_,fun j hj=>⟨?_,by simp [World.frozen?,hg]⟩⟩
  ·exact hS.2 hd a ha (by rw [← e]; rfl)
  ·obtain ⟨b',o',hA',-,hc⟩:=h.own.cells (i * k + j) (hlt j hj)
   cases hA';rw [Nat.zero_add] at hc;rw [hc,List.getD_eq_getElem?_getD,List.getD_eq_getElem?_getD,hcell j hj]
def IntRowsN (w : World) (A : Option Addr) (L : List (List Int)) (base : Nat) : Prop :=
 ∀ (i : Nat) (x : List Int),L[i]? = some x → ∃ b o B m d,A = some ⟨b,o,none⟩ ∧ base ≤ b ∧ b < w.heap.size ∧ w.cell? ⟨b,o + i,none⟩ = some (.slice B m d) ∧ x.length = m ∧ Ints w B x ∧ (x ≠ [] → NewFrom base B)
theorem IntRowsN.rows {w : World} {A : Option Addr} {L : List (List Int)} {base : Nat} (h : IntRowsN w A L base) : IntRows w A L:=fun i x hi=>by
 obtain ⟨b,o,B,m,d,h1,_,h2,h3,h4,h5,_⟩:=h i x hi;exact ⟨b,o,B,m,d,h1,h2,h3,h4,h5⟩
theorem IntRowsN.keep {w w' : World} {A : Option Addr} {L : List (List Int)} {base : Nat} (h : IntRowsN w A L base) (hb : Below w.heap.size w w') : IntRowsN w' A L base:=fun i x hi=>by
 obtain ⟨b,o,B,m,d,h1,h0,h2,h3,h4,h5,h6⟩:=h i x hi;exact ⟨b,o,B,m,d,h1,h0,Nat.lt_of_lt_of_le h2 hb.size,(hb.cell (p:=⟨b,o + i,none⟩) h2).trans h3,h4,h5.keep hb,h6⟩
theorem IntRowsN.mono {w : World} {A : Option Addr} {L : List (List Int)} {base base' : Nat} (h : IntRowsN w A L base) (hB : base' ≤ base) : IntRowsN w A L base':=fun i x hi=>by
 obtain ⟨b,o,B,m,d,h1,h0,h2,h3,h4,h5,h6⟩:=h i x hi;exact ⟨b,o,B,m,d,h1,by omega,h2,h3,h4,h5,fun hx=>(h6 hx).mono hB⟩
theorem IntRowsN.nil (w : World) (A : Option Addr) (base : Nat) : IntRowsN w A [] base:=fun i x h=>by simp at h
theorem GRow.intRowsN {ty : TypeId} {w : World} {base n c B0 : Nat} {A : Option Addr} {L : List (List Int)} {es : List (List Value × Option Addr × List Value)} (h : GRow IntK 1 ty w base A n c L es) (hn : ∀ e ∈ es,e.2.2 ≠ [] → NewFrom base e.2.1) (hB : B0 ≤ base) : IntRowsN w A L B0:=by
 intro i x hi;obtain ⟨g,cs,B,ds,rfl,hb,hg,hmem,⟨m,d,rfl,hm,rfl⟩,hC,-,hcs⟩:=h.at2 (fun x cs B ds hE=>by obtain ⟨m,d,rfl,-⟩:=hE; rfl) hi (by omega);have h1:=(hcs 0 (by omega)).1;rw [Nat.mul_one,Nat.add_zero] at h1;refine ⟨g,0,B,m,d,rfl,by omega,hg,by rw [Nat.zero_add]; exact h1,hm,hC,fun hx=>?_⟩;exact (hn _ hmem (by simpa using hx)).mono hB
end Go.Proofs.YtibpmogmeoappabGreat
namespace Go.Proofs.YtibpmogmeoappabGreat
open Go.RowKit
section
variable {P : Program} {ops : Array Oper} {Q : Exit → Act → World → Prop} {md : Region.Mode} {S : World → Prop} {B : Nat → Bool}
def AnyB (P : Program) (md : Region.Mode) (ops : Array Oper) (Q : Exit → Act → World → Prop) (S : World → Prop) (B : Nat → Bool) : Nat → Array Bool → Act → World → Prop
 | 0,l,a,w=>Region.ready md ops l = [] ∧ Q .normal a w
 | t + 1,l,a,w=>(Region.ready md ops l = [] → Q .normal a w) ∧ ∀ i ∈ Region.ready md ops l,wpOp P ops Q i (fun a1 w1=>(B i = false → S w → S w1) ∧ AnyB P md ops Q S B t (l.setIfInBounds i true) a1 w1) a w
theorem AnyB.any : ∀ (t : Nat) (l : Array Bool) (a : Act) (w : World),AnyB P md ops Q S B t l a w → wpAny P md ops Q t l a w:=by
 intro t
 induction t with
 | zero=>intro l a w h; exact h
 | succ t ih=>intro l a w h; exact ⟨h.1,fun i hi=>wpOp_mono (fun a1 w1 h1=>ih _ _ _ h1.2) (h.2 i hi)⟩
theorem ready_not {i j : Nat} {oj : Oper} {l : Array Bool} (hj : j ∈ Region.ready md ops l) (hoj : ops[j]? = some oj) (hun : l.getD i false = false) : ∀ e ∈ oj.after,Region.binds md e = true → e.on ≠ i:=by
 intro e he hb heq;obtain ⟨_,o,ho,hall⟩:=mem_ready.1 hj;rw [hoj] at ho;injection ho with ho;subst ho;have:=hall e he hb;rw [heq,hun] at this;cases this
theorem ready_un {i : Nat} {l : Array Bool} (hi : i ∈ Region.ready md ops l) : l.getD i false = false:=by
 have h:=(mem_ready.1 hi).1;by_cases hlt : i < l.size
 ·simp only [Array.getD_eq_getD_getElem?,Array.getElem?_eq_getElem hlt,Option.getD_some] at h ⊢; exact h
 ·simp only [Array.getD_eq_getD_getElem?,Array.getElem?_eq_none (Nat.le_of_not_lt hlt),Option.getD_none] at h ⊢
theorem AnyB.first {i : Nat} {oi : Oper} {v : Value} (hi : ops[i]? = some oi) (hsel : ∀ (j : Nat) (o : Oper) cs b,ops[j]? = some o → o.op ≠ .select cs b)
 (hQ : ∀ c a w,Q (.panic c) (a.put oi.dst v) w → Q (.panic c) a w) (hBi : ∀ (j : Nat) (o : Oper),ops[j]? = some o → B j = true → ∃ e ∈ o.after,Region.binds md e = true ∧ e.on = i) :
 ∀ (t : Nat) (l : Array Bool) (a : Act) (w : World), (∀ j oj, ops[j]? = some oj → j ≠ i → l.getD j true = false → (∀ e ∈ oj.after, Region.binds md e = true → e.on ≠ i) → oi.apart ops oj = true) →
   i ∈ Region.ready md ops l → YieldsIf P ops S oi v a → S w → AnyB P md ops Q S B t (l.setIfInBounds i true) (a.put oi.dst v) w → AnyB P md ops Q S B (t + 1) l a w:=by
 intro t
 induction t with
 | zero =>
   intro l a w _ hr hy hS H;refine ⟨fun h=>(by rw [h] at hr; cases hr),fun j hj=>?_⟩;by_cases e : j = i
   ·subst e; exact hy.wpOp hi hS ⟨fun _ h=>h,H⟩
   ·have h:=ready_mono hj e; rw [H.1] at h; cases h
 | succ t ih =>
   intro l a w hf hr hy hS H;refine ⟨fun h=>(by rw [h] at hr; cases hr),fun j hj=>?_⟩;by_cases e : j = i
   ·subst e; exact hy.wpOp hi hS ⟨fun _ h=>h,H⟩
   ·obtain ⟨hjun,oj,hoj,_⟩:=mem_ready.1 hj
    have hno:=ready_not hj hoj (ready_un hr)
    have hB : B j = false:=by
     cases hb : B j with
     | false=>rfl
     | true=>obtain ⟨e1,h1,h2,h3⟩:=hBi j oj hoj hb; exact absurd h3 (hno e1 h1 h2)
    have h2:=wpOp_putIf hoj (hf j oj hoj e hjun hno) (fun cs b=>hsel i oi cs b hi) (fun cs b=>hsel j oj cs b hoj) hQ hy (H.2 j (ready_mono hj e));refine wpOp_mono (fun a1 w1 h3=>⟨h3.2.1,ih (l.setIfInBounds j true) a1 w1 (fun k ok hk hki hun hn=>?_) (ready_mono hr (Ne.symm e)) h3.1 (h3.2.1 hB hS) ?_⟩) h2
    ·refine hf k ok hk hki ?_ hn
     by_cases ejk : j = k
     ·subst ejk; exact hjun
     ·rw [getD_set_ne true ejk] at hun; exact hun
    ·rw [Array.setIfInBounds_comm _ _ e]; exact h3.2.2
theorem AnyB.freely {i : Nat} {oi : Oper} {v : Value} (hi : ops[i]? = some oi) (hsel : ∀ (j : Nat) (o : Oper) cs b,ops[j]? = some o → o.op ≠ .select cs b)
 (hQ : ∀ c a w,Q (.panic c) (a.put oi.dst v) w → Q (.panic c) a w) :
 ∀ (t : Nat) (l : Array Bool) (a : Act) (w : World), (∀ j oj, ops[j]? = some oj → j ≠ i → l.getD j true = false → (∀ e ∈ oj.after, Region.binds md e = true → e.on ≠ i) → oi.apart ops oj = true) →
   i ∈ Region.ready md ops l → Yields P ops oi v a → AnyB P md ops Q S B t (l.setIfInBounds i true) (a.put oi.dst v) w → AnyB P md ops Q S B (t + 1) l a w:=by
 intro t
 induction t with
 | zero =>
   intro l a w _ hr hy H;refine ⟨fun h=>(by rw [h] at hr; cases hr),fun j hj=>?_⟩;by_cases e : j = i
   ·subst e; exact hy.wpOp hi ⟨fun _ h=>h,H⟩
   ·have h:=ready_mono hj e; rw [H.1] at h; cases h
 | succ t ih =>
   intro l a w hf hr hy H;refine ⟨fun h=>(by rw [h] at hr; cases hr),fun j hj=>?_⟩;by_cases e : j = i
   ·subst e; exact hy.wpOp hi ⟨fun _ h=>h,H⟩
   ·obtain ⟨hjun,oj,hoj,_⟩:=mem_ready.1 hj
    have hno:=ready_not hj hoj (ready_un hr);have h2:=wpOp_put hoj (hf j oj hoj e hjun hno) (fun cs b=>hsel i oi cs b hi) (fun cs b=>hsel j oj cs b hoj) hQ hy (H.2 j (ready_mono hj e));refine wpOp_mono (fun a1 w1 h3=>⟨h3.2.1,ih (l.setIfInBounds j true) a1 w1 (fun k ok hk hki hun hn=>?_) (ready_mono hr (Ne.symm e)) h3.1 ?_⟩) h2
    ·refine hf k ok hk hki ?_ hn
     by_cases ejk : j = k
     ·subst ejk; exact hjun
     ·rw [getD_set_ne true ejk] at hun; exact hun
    ·rw [Array.setIfInBounds_comm _ _ e]; exact h3.2.2
theorem AnyB.free {i : Nat} {oi : Oper} {t : Nat} {l : Array Bool} {a : Act} {w : World} (v : Value) (hi : ops[i]? = some oi)
 (hs : Region.noSelect ops = true) (hf : Region.free md ops l i = true) (hr : (Region.ready md ops l).contains i = true)
 (hQ : ∀ c a w,Q (.panic c) (a.put oi.dst v) w → Q (.panic c) a w) (hy : Yields P ops oi v a)
 (h : AnyB P md ops Q S B t (l.setIfInBounds i true) (a.put oi.dst v) w) : AnyB P md ops Q S B (t + 1) l a w :=
 AnyB.freely hi (Region.noSelect_spec hs) hQ t l a w (Region.free_spec hi hf) (by simpa using hr) hy h
def waits (md : Region.Mode) (ops : Array Oper) (B : Nat → Bool) (i : Nat) : Bool:=(List.range ops.size).all fun j=>!B j || ((ops[j]?).map (·.after.any fun e=>Region.binds md e && e.on == i)).getD false
theorem waits_spec {i : Nat} (h : waits md ops B i = true) (j : Nat) (o : Oper) (ho : ops[j]? = some o) (hb : B j = true) : ∃ e ∈ o.after,Region.binds md e = true ∧ e.on = i:=by
 unfold waits at h;rw [List.all_eq_true] at h;have h1:=h j (List.mem_range.2 (Array.getElem?_eq_some_iff.1 ho).1);rw [ho] at h1;simp only [hb,Bool.not_true,Bool.false_or,Option.map_some,Option.getD_some] at h1;obtain ⟨e,he,h2⟩:=Array.any_eq_true'.1 h1;simp only [Bool.and_eq_true,beq_iff_eq] at h2;exact ⟨e,he,h2.1,h2.2⟩
theorem AnyB.take {i : Nat} {oi : Oper} {t : Nat} {l : Array Bool} {a : Act} {w : World} (v : Value) (hi : ops[i]? = some oi)
 (hs : Region.noSelect ops = true) (hf : Region.free md ops l i = true) (hr : (Region.ready md ops l).contains i = true)
 (hBi : waits md ops B i = true)
 (hQ : ∀ c a w,Q (.panic c) (a.put oi.dst v) w → Q (.panic c) a w) (hy : YieldsIf P ops S oi v a) (hS : S w)
 (h : AnyB P md ops Q S B t (l.setIfInBounds i true) (a.put oi.dst v) w) : AnyB P md ops Q S B (t + 1) l a w :=
 AnyB.first hi (Region.noSelect_spec hs) hQ (waits_spec hBi) t l a w (Region.free_spec hi hf) (by simpa using hr) hy hS h
theorem AnyB.fr {i : Nat} {oi : Oper} {t : Nat} {l : Array Bool} {a : Act} {w : World} (v : Value) (hi : ops[i]? = some oi) (hk : (Region.noSelect ops && Region.free md ops l i && (Region.ready md ops l).contains i && Region.wanted oi (yielded ops a.tmps)) = true) (hy : ∀ w,(execOp a.eval oi).run P w = .ok (.value v) w) (h : AnyB P md ops Q S B t (l.setIfInBounds i true) (a.put oi.dst v) w) (hQ : ∀ c a w,Q (.panic c) (a.put oi.dst v) w → Q (.panic c) a w:=by exact fun _ _ _ h=>h) : AnyB P md ops Q S B (t + 1) l a w:=by
 simp only [Bool.and_eq_true] at hk;exact AnyB.free v hi hk.1.1.1 hk.1.1.2 hk.1.2 hQ (Or.inl ⟨hk.2,hy⟩) h
theorem AnyB.tk {i : Nat} {oi : Oper} {t : Nat} {l : Array Bool} {a : Act} {w : World} (v : Value) (hi : ops[i]? = some oi) (hk : (Region.noSelect ops && Region.free md ops l i && (Region.ready md ops l).contains i && waits md ops B i && Region.wanted oi (yielded ops a.tmps)) = true) (hy : ∀ w,S w → (execOp a.eval oi).run P w = .ok (.value v) w) (hS : S w) (h : AnyB P md ops Q S B t (l.setIfInBounds i true) (a.put oi.dst v) w) (hQ : ∀ c a w,Q (.panic c) (a.put oi.dst v) w → Q (.panic c) a w:=by exact fun _ _ _ h=>h) : AnyB P md ops Q S B (t + 1) l a w:=by
 simp only [Bool.and_eq_true] at hk;exact AnyB.take v hi hk.1.1.1.1 hk.1.1.1.2 hk.1.1.2 hk.1.2 hQ (Or.inl ⟨hk.2,hy⟩) hS h
theorem AnyB.step {i : Nat} {o : Oper} {t : Nat} {l : Array Bool} {a : Act} {w : World} (hi : ops[i]? = some o)
 (h : ∀ K : Act → World → Prop,Hid (∀ a1 w1,(B i = false → S w → S w1) → AnyB P md ops Q S B t (l.setIfInBounds i true) a1 w1 → K a1 w1) → if Region.wanted o (yielded ops a.tmps) = true then Oper.wp P o a w K Q else K (a.put o.dst undef) w) :
 wpOp P ops Q i (fun a1 w1=>(B i = false → S w → S w1) ∧ AnyB P md ops Q S B t (l.setIfInBounds i true) a1 w1) a w:=by
 have h1:=h (fun a1 w1=>(B i = false → S w → S w1) ∧ AnyB P md ops Q S B t (l.setIfInBounds i true) a1 w1) (fun a1 w1 h2 h3=>⟨h2,h3⟩);unfold wpOp;simp only [hi];split
 ·rename_i hw; rw [if_pos hw] at h1; exact .inl h1
 ·rename_i hw; rw [if_neg hw] at h1; exact h1
theorem AnyB.one {i : Nat} {o : Oper} {t : Nat} {l : Array Bool} {a : Act} {w : World} (hr : Region.ready md ops l = [i]) (hi : ops[i]? = some o)
 (h : ∀ K : Act → World → Prop,Hid (∀ a1 w1,(B i = false → S w → S w1) → AnyB P md ops Q S B t (l.setIfInBounds i true) a1 w1 → K a1 w1) → if Region.wanted o (yielded ops a.tmps) = true then Oper.wp P o a w K Q else K (a.put o.dst undef) w) :
 AnyB P md ops Q S B (t + 1) l a w:=by
 refine ⟨fun h0=>(by rw [hr] at h0; cases h0),fun j hj=>?_⟩;rw [hr,List.mem_singleton] at hj;subst hj;exact AnyB.step hi h
theorem AnyB.two {i j : Nat} {o o' : Oper} {t : Nat} {l : Array Bool} {a : Act} {w : World} (hr : Region.ready md ops l = [i,j]) (hi : ops[i]? = some o) (hj : ops[j]? = some o')
 (h : ∀ K : Act → World → Prop,Hid (∀ a1 w1,(B i = false → S w → S w1) → AnyB P md ops Q S B t (l.setIfInBounds i true) a1 w1 → K a1 w1) → if Region.wanted o (yielded ops a.tmps) = true then Oper.wp P o a w K Q else K (a.put o.dst undef) w)
 (h' : ∀ K : Act → World → Prop,Hid (∀ a1 w1,(B j = false → S w → S w1) → AnyB P md ops Q S B t (l.setIfInBounds j true) a1 w1 → K a1 w1) → if Region.wanted o' (yielded ops a.tmps) = true then Oper.wp P o' a w K Q else K (a.put o'.dst undef) w) :
 AnyB P md ops Q S B (t + 1) l a w:=by
 refine ⟨fun h0=>(by rw [hr] at h0; cases h0),fun k hk=>?_⟩;rw [hr] at hk;simp only [List.mem_cons,List.not_mem_nil,or_false] at hk;rcases hk with rfl | rfl
 ·exact AnyB.step hi h
 ·exact AnyB.step hj h'
theorem AnyB.done {t : Nat} {l : Array Bool} {a : Act} {w : World} (hr : Region.ready md ops l = []) (h : Q .normal a w) : AnyB P md ops Q S B t l a w:=by
 cases t with
 | zero=>exact ⟨hr,h⟩
 | succ t=>exact ⟨fun _=>h,fun i hi=>(by rw [hr] at hi; cases hi)⟩
theorem wp_region_B {id : Nat} {a : Act} {w : World} (S : World → Prop) (B : Nat → Bool) (hm : P.follows .mixedOrders = true)
 (h : AnyB P .any ops Q S B ops.size (Array.replicate ops.size false) a w.drew) : (Code.region id ops true).wp P Q a w:=wp_region_any hm (AnyB.any _ _ _ _ h)
end
theorem cellFar {w : World} {p q : Addr} {v u : Value} (h : w.cell? q = some v) (hne : q.block ≠ p.block) : (w.setCell p u).cell? q = some v:=by
 rw [World.cell?_setCell_other w p q u (fun e=>hne (by rw [e]))]; exact h
theorem cellDrew {w : World} {q : Addr} {v : Value} (h : w.cell? q = some v) : w.drew.cell? q = some v:=h
end Go.Proofs.YtibpmogmeoappabGreat
