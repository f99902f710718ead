/- Walks: small references: errors, sameness, choose. -/
import Derived.Test.YtibpmogmeoappabGreatJImgA
set_option maxRecDepth 100000
set_option maxHeartbeats 600000
namespace Go.Proofs.YtibpmogmeoappabGreat
open Go.RowKit
def SameTo (P Q : List Int) (k : Nat) : Prop:=∀ i,i < k → P[i]? = Q[i]?
theorem sameTo_succ {P Q : List Int} {k : Nat} {x y : Int} (h : SameTo P Q k) (hx : P[k]? = some x) (hy : Q[k]? = some y) (e : x = y) : SameTo P Q (k + 1):=by
 intro i hi;by_cases hk : i = k
 ·subst hk; rw [hx,hy,e]
 ·exact h i (by omega)
theorem sameTo_full {P Q : List Int} {n : Nat} (h : SameTo P Q n) (h1 : P.length = n) (h2 : Q.length = n) : P = Q:=by
 apply List.ext_getElem?
 intro i;by_cases hi : i < n
 ·exact h i hi
 ·rw [List.getElem?_eq_none (by omega),List.getElem?_eq_none (by omega)]
theorem not_same_at {P Q : List Int} {k : Nat} {x y : Int} (hx : P[k]? = some x) (hy : Q[k]? = some y) (e : ¬ x = y) : ¬ P = Q:=by
 rintro rfl; rw [hx] at hy; injection hy with hy; exact e hy
theorem sameInts_any (A B : Option Addr) (n c m d : Nat) (P Q : List Int) (w : World) (hn : P.length = n) (hm : Q.length = m) (hP : Ints w A P) (hQ : Ints w B Q) (hl : n ≤ 9223372036854775807) :
 Calls Tryz.prog 22 #[.slice A n c,.slice B m d] w fun e w'=>e = .returned (.bool (decide (P = Q))) ∧ Below w.heap.size w w':=by
 have HN:=hide hn;have HM:=hide hm;by_cases hnm : n = m
 ·subst hnm
  have hne : ((n : Int) != (n : Int)) = false:=by simp
  have HP:=hide hP;have HQ:=hide hQ;clear hn hm hP hQ;go_enter Tryz.func22,Tryz.ntmps22
  go_wp2_with fail;go_loopw [5] (fun i wr=>∃ k : Nat,k ≤ n ∧ i = .int .i64 k ∧ SameTo P Q k ∧ ∃ q,wr = w.drewN q) (fun i _=>n - (intOf i).toNat)
  case atStart=>exact ⟨0,Nat.zero_le _,rfl,fun i hi=>by omega,0,rfl⟩
  case round =>
   obtain ⟨k,hk,rfl,hS,q,rfl⟩:=hrel;have HS:=hide hS;clear hS;by_cases hlt : k < n
   ·obtain ⟨b,o,x,hA,hb,hx,hc⟩:=HP.out.at_ k (by have:=HN.out; omega)
    obtain ⟨b2,o2,y,hB,hb2,hy,hc2⟩:=HQ.out.at_ k (by have:=HM.out; omega);have HX:=hide hx;have HY:=hide hy;have hk0 : (0 : Int) ≤ (k : Int):=by omega
    have hk1 : (k : Int) < (n : Int):=by omega
    subst hA hB;clear hx hy;by_cases hxy : x = y
    ·have hd : (x != y) = false:=by simpa using hxy
     have HXY:=hide hxy;clear hxy;go_wp2_with fail;go_quiet (fail)
     go_wp2_with fail;go_roundw
     case rel=>exact ⟨k + 1,by omega,by go_num,sameTo_succ HS.out HX.out HY.out HXY.out,_,rfl⟩
     case measure=>simp [intOf]; omega
    ·have hd : (x != y) = true:=by simpa using hxy
     have HXY:=hide hxy;clear hxy;go_wp2_with fail;go_quiet (fail)
     go_wp2_with fail;go_ret;exact ⟨ret_bool (Eq.symm (decide_eq_false (not_same_at HX.out HY.out HXY.out))),below_drewN (below_drewN (Below.refl _ _) _) _⟩
   ·go_wp2_with fail
    go_ret;obtain rfl : k = n:=by omega
    exact ⟨ret_bool (Eq.symm (decide_eq_true (sameTo_full HS.out HN.out HM.out))),below_drewN (Below.refl _ _) _⟩
 ·have hne : ((n : Int) != (m : Int)) = true:=by simp; omega
  have hfin : decide (P = Q) = false:=decide_eq_false fun e=>by subst e; omega
  rw [hfin];clear hn hm hP hQ hfin;go_enter Tryz.func22,Tryz.ntmps22
  go_wp2_with fail;go_ret;exact ⟨rfl,Below.refl _ _⟩
theorem sameImages_any (W H W' H' : Int) (A B : Option Addr) (n c m d : Nat) (P Q : List Int) (w : World) (hn : P.length = n) (hm : Q.length = m) (hP : Ints w A P) (hQ : Ints w B Q) (hl : n ≤ 9223372036854775807) :
 Calls Tryz.prog 8 #[.agg #[.int .i64 W,.int .i64 H,.slice A n c],.agg #[.int .i64 W',.int .i64 H',.slice B m d]] w fun e w'=>e = .returned (.bool (decide (Img.mk W H P = Img.mk W' H' Q))) ∧ Below w.heap.size w w':=by
 have hcall : ∀ W0 : World,Below w.heap.size w W0 → Calls Tryz.prog 22 #[.slice A n c,.slice B m d] W0 fun e w'=>e = .returned (.bool (decide (P = Q))) ∧ Below W0.heap.size W0 w' :=
  fun W0 hb=>sameInts_any A B n c m d P Q W0 hn hm (hP.keep hb) (hQ.keep hb) hl
 have hfin : decide (Img.mk W H P = Img.mk W' H' Q) = (decide (W = W') && (decide (H = H') && decide (P = Q))):=by
  simp only [Img.mk.injEq];simp [Bool.decide_and]
 rw [hfin];have HC:=hide hcall;clear hcall hn hm hP hQ hfin;generalize decide (P = Q) = r at *;by_cases h1 : W = W'
 ·subst h1
  by_cases h2 : H = H'
  ·subst h2
   go_enter Tryz.func8,Tryz.ntmps8
   go_wp2_with fail;refine ((unhide HC) _ (((Below.refl _ _).alloc (Nat.le_refl _) _).alloc (by simp) _)).mono ?_;rintro e w1 ⟨rfl,hE⟩;go_wp2_with fail;go_ret;exact ⟨ret_bool (by simp),(((Below.refl _ _).alloc (Nat.le_refl _) _).alloc (by simp) _).trans (hE.mono (by simp; omega))⟩
  ·have h2' : (H == H') = false:=by simpa using h2
   have h3 : decide (H = H') = false:=decide_eq_false h2;rw [h3];clear h2 h3;go_enter Tryz.func8,Tryz.ntmps8
   go_wp2_with fail;go_ret;exact ⟨ret_bool (by simp),((Below.refl _ _).alloc (Nat.le_refl _) _).alloc (by simp) _⟩
 ·have h2' : (W == W') = false:=by simpa using h1
  have h3 : decide (W = W') = false:=decide_eq_false h1;rw [h3];clear h1 h3;go_enter Tryz.func8,Tryz.ntmps8
  go_wp2_with fail;go_ret;exact ⟨ret_bool (by simp),((Below.refl _ _).alloc (Nat.le_refl _) _).alloc (by simp) _⟩
end Go.Proofs.YtibpmogmeoappabGreat
namespace Go.Proofs.YtibpmogmeoappabGreat
open Go.RowKit
theorem intsNew (w : World) (P : List Int) : Ints (w.alloc (.cells (P.map (Value.int .i64)).toArray 3)) (some ⟨w.heap.size,0,none⟩) P:=(Blk.new w 3 (P.map (.int .i64))).cells
theorem sameNums (A B : Option Addr) (n c d : Nat) (P : List Int) (w : World) (hn : P.length = n) (hP : Ints w A P) (hQ : Ints w B P) (hl : n ≤ 9223372036854775807) :
 Calls Tryz.prog 22 #[.slice A n c,.slice B n d] w fun e w'=>e = .returned (.bool true) ∧ Below w.heap.size w w' :=
 (sameInts_any A B n c n d P P w hn hn hP hQ hl).mono fun _ _ ⟨h1,h2⟩=>⟨by rw [h1]; simp,h2⟩
end Go.Proofs.YtibpmogmeoappabGreat
