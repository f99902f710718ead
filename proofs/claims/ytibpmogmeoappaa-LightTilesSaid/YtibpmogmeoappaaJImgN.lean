/- Walks: four, imageBegun. (Printed by gen_begun.py.) -/
import Derived.Test.YtibpmogmeoappaaJImgI
import Derived.Test.YtibpmogmeoappaaJImgL
import Derived.Test.YtibpmogmeoappaaJImgH
import Derived.Test.YtibpmogmeoappaaJImgA
import Derived.Test.YtibpmogmeoappaaJImgG
set_option maxHeartbeats 400000
namespace Go.Proofs.Ytibpmogmeoappaa
open Go.RowKit
def fourL : List Int:=[4,8,65535,0]
def RetLit (w : World) (W H : Int) (P : List Int) (n : Nat) (x : Int) (e : Ending) (w' : World) : Prop :=
 ∃ (A : Option Addr) (c : Nat),e = .returned (.tuple #[.agg #[.int .i64 W,.int .i64 H,.slice A n c],.int .i64 x]) ∧ Ints w' A P ∧ Below w.heap.size w w'
theorem retLit {w : World} {r : Img} {y W H : Int} {P : List Int} {n : Nat} {x : Int} (hr : r = ⟨W,H,P⟩) (hy : y = x) (hn : P.length = n) {e : Ending} {w' : World} (h : RetImgErr w r y e w') : RetLit w W H P n x e w':=by
 obtain ⟨W1,H1,P1,A,n1,c,h1,h2,rfl,hI,_,hb⟩:=h;rw [hr] at h1;injection h1 with a1 a2 a3;subst a1 a2 a3 hy;exact ⟨A,c,by rw [← h2,hn],hI,hb⟩
def ImgVars (w : World) (l : List (Nat × Int × Int × Option Addr × Nat × Nat × List Int)) : Prop :=
 ∀ v ∈ l,ImgBox w v.1 v.2.1 v.2.2.1 v.2.2.2.1 v.2.2.2.2.1 v.2.2.2.2.2.1 ∧ Ints w v.2.2.2.1 v.2.2.2.2.2.2
theorem ImgVars.keep {w w' : World} {l : List (Nat × Int × Int × Option Addr × Nat × Nat × List Int)} (h : ImgVars w l) (hb : Below w.heap.size w w') : ImgVars w' l :=
 fun v hv=>⟨Blk.keep (h v hv).1 hb,(h v hv).2.keep hb⟩
theorem ImgVars.add {w : World} {l : List (Nat × Int × Int × Option Addr × Nat × Nat × List Int)} (h : ImgVars w l) {W H : Int} {A : Option Addr} {n c : Nat} {P : List Int} (hI : Ints w A P) :
 ImgVars (w.alloc (.cells #[.int .i64 W,.int .i64 H,.slice A n c] 24)) (l ++ [(w.heap.size,W,H,A,n,c,P)]):=by
 intro v hv;rw [List.mem_append] at hv;have hb : Below w.heap.size w (w.alloc (.cells #[.int .i64 W,.int .i64 H,.slice A n c] 24)):=(Below.refl _ _).alloc (Nat.le_refl _) _;rcases hv with hv | hv
 ·exact h.keep hb v hv
 ·simp only [List.mem_singleton] at hv
  subst hv;exact ⟨Blk.new w 24 [.int .i64 W,.int .i64 H,.slice A n c],hI.keep hb⟩
theorem ints_new (w : World) (P : List Int) : Ints (w.alloc (.cells (P.map (Value.int .i64)).toArray 3)) (some ⟨w.heap.size,0,none⟩) P:=(Blk.new w 3 (P.map (.int .i64))).cells
def RetFour (w : World) (e : Ending) (w' : World) : Prop:=∃ (A : Option Addr) (c : Nat),e = .returned (.agg #[.int .i64 2,.int .i64 2,.slice A 4 c]) ∧ Ints w' A fourL ∧ Below w.heap.size w w'
theorem four_any (w : World) : Calls Try.prog 54 #[] w (RetFour w):=by
 go_enter Try.func54,Try.ntmps54
 go_wp2_with fail;refine bodyPost_ret (v:=.agg #[.int .i64 2,.int .i64 2,.slice (some ⟨w.heap.size + 1,0,none⟩) 4 4]) (by simp [results,Try.results54,go_sem]) rfl ?_;refine ⟨_,_,rfl,?_,?_⟩
 ·have h:=ints_new (w.alloc (.cells #[.int .i64 2,.int .i64 2,.slice (some ⟨w.heap.size + 1,0,none⟩) 4 4] 24)) fourL
  simp only [World.size_alloc] at h;exact h
 ·exact ((Below.refl _ _).alloc (Nat.le_refl _) _).alloc (by simp) _
theorem sameLit (A B : Option Addr) (n c d : Nat) (P : List Int) (w : World) (hn : P.length = n) (hP : Ints w A P) (hQ : Ints w B P) (hl : n ≤ 9223372036854775807) :
 Calls Try.prog 34 #[.slice A n c,.slice B n d] w fun e w'=>e = .returned (.bool true) ∧ Below w.heap.size w w' :=
 (sameInts_any A B n c n d P P w hn hn hP hQ hl).mono fun _ _ ⟨h1,h2⟩=>⟨by rw [h1]; simp,h2⟩
end Go.Proofs.Ytibpmogmeoappaa
namespace Go.Proofs.Ytibpmogmeoappaa
open Go.RowKit
theorem put3_box {w : World} {g : Nat} {t : TypeId} {u v z a b c : Value} (h : Blk w g t [u,v,z]) : Blk (((w.setCell ⟨g,0,none⟩ a).setCell ⟨g,1,none⟩ b).setCell ⟨g,2,none⟩ c) g t [a,b,c]:=((h.set_ 0 a).set_ 1 b).set_ 2 c
theorem put3_ints {w : World} {g B : Nat} {A : Option Addr} {P : List Int} {a b c : Value} (h : Ints w A P) (hA : NewFrom B A) (hg : g < B) : Ints (((w.setCell ⟨g,0,none⟩ a).setCell ⟨g,1,none⟩ b).setCell ⟨g,2,none⟩ c) A P:=((h.far hA (p:=⟨g,0,none⟩) hg a).far hA (p:=⟨g,1,none⟩) hg b).far hA (p:=⟨g,2,none⟩) hg c
theorem put3_below {w w1 : World} {g : Nat} {a b c : Value} (h : Below w.heap.size w w1) (hg : w.heap.size ≤ g) : Below w.heap.size w (((w1.setCell ⟨g,0,none⟩ a).setCell ⟨g,1,none⟩ b).setCell ⟨g,2,none⟩ c):=((h.setCell (p:=⟨g,0,none⟩) hg a).setCell (p:=⟨g,1,none⟩) hg b).setCell (p:=⟨g,2,none⟩) hg c
theorem Ints.lt {w : World} {A : Option Addr} {P : List Int} (h : Ints w A P) (h0 : 0 < P.length) : ∀ x,A = some x → x.block < w.heap.size:=by
 intro x hx;obtain ⟨b,o,e,hlt,_⟩:=h 0 (by simpa using h0);rw [hx] at e; injection e with e; subst e; exact hlt
structure LawMem (w : World) (W H : Int) (A : Option Addr) (n c : Nat) (g1 : Nat) (W1 H1 : Int) (A1 : Option Addr) (n1 c1 : Nat) (P1 : List Int) (g2 : Nat) (W2 H2 : Int) (A2 : Option Addr) (n2 c2 : Nat) (P2 : List Int) (wq : World) : Prop where
 a : ImgBox wq w.heap.size W H A n c
 b : ImgBox wq g1 W1 H1 A1 n1 c1
 d : ImgBox wq g2 W2 H2 A2 n2 c2
 below : Below w.heap.size w wq
 i1 : Ints wq A1 P1
 i2 : Ints wq A2 P2
theorem sameImg_true (W H W' H' : Int) (A B : Option Addr) (n c m d : Nat) (P Q : List Int) (w : World) (he : Img.mk W H P = Img.mk W' H' Q) (hn : P.length = n) (hm : Q.length = m) (hP : Ints w A P) (hQ : Ints w B Q) (hl : n ≤ 9223372036854775807) :
 Calls Try.prog 19 #[.agg #[.int .i64 W,.int .i64 H,.slice A n c],.agg #[.int .i64 W',.int .i64 H',.slice B m d]] w fun e w'=>e = .returned (.bool true) ∧ Below w.heap.size w w' :=
 (sameImages_any W H W' H' A B n c m d P Q w hn hm hP hQ hl).mono fun _ _ ⟨h1,h2⟩=>⟨by rw [h1,decide_eq_true he],h2⟩
end Go.Proofs.Ytibpmogmeoappaa
