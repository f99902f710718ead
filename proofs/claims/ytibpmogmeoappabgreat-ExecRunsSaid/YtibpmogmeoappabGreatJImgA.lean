/- Walks over small functions on images: within, at, ImageFine, Min, Max, Check. -/
import Derived.Test.YtibpmogmeoappabGreatProg
import Derived.Test.YtibpmogmeoappabGreatJMem
set_option maxRecDepth 100000
set_option maxHeartbeats 1000000
namespace Go.Proofs.YtibpmogmeoappabGreat
open Go.RowKit
def FineTo (P : List Int) (k : Nat) : Prop:=∀ i,i < k → ∀ x,P[i]? = some x → 0 ≤ x ∧ x ≤ 65535
theorem fine_mk {W H : Int} {P : List Int} {n : Nat} (hn : P.length = n) (h1 : 1 ≤ W) (h2 : W ≤ 16) (h3 : 1 ≤ H) (h4 : H ≤ 16) (hm : ((n : Int) != wrap64 (W * H)) = false) (h : FineTo P n) : Img.Fine ⟨W,H,P⟩:=by
 refine ⟨⟨h1,h2⟩,⟨h3,h4⟩,?_,?_⟩
 ·rw [wrap64_mul16 h1 h2 h3 h4] at hm; simp at hm; simpa [hn] using hm
 ·intro x hx
  obtain ⟨i,hi,rfl⟩:=List.getElem_of_mem hx;exact h i (by simp at hi; omega) _ (List.getElem?_eq_getElem hi)
theorem not_fine_len {W H : Int} {P : List Int} {n : Nat} (hn : P.length = n) (hm : ((n : Int) != wrap64 (W * H)) = true) : ¬ Img.Fine ⟨W,H,P⟩:=by
 rintro ⟨⟨h1,h2⟩,⟨h3,h4⟩,h5,_⟩;simp only at h1 h2 h3 h4 h5;rw [wrap64_mul16 h1 h2 h3 h4] at hm;simp at hm; omega
theorem not_fine_dim {W H : Int} {P : List Int} (h : ¬ (1 ≤ W ∧ W ≤ 16 ∧ 1 ≤ H ∧ H ≤ 16)) : ¬ Img.Fine ⟨W,H,P⟩:=by
 rintro ⟨⟨h1,h2⟩,⟨h3,h4⟩,_⟩;exact h ⟨h1,h2,h3,h4⟩
theorem not_fine_at {W H : Int} {P : List Int} {k : Nat} {x : Int} (hx : P[k]? = some x) (h : ¬ (0 ≤ x ∧ x ≤ 65535)) : ¬ Img.Fine ⟨W,H,P⟩:=by
 rintro ⟨_,_,_,h6⟩;exact h (h6 x (List.mem_of_getElem? hx))
def MinTo (P : List Int) (k : Nat) (m : Int) : Prop:=(∃ j,j < k ∧ P[j]? = some m) ∧ ∀ j,j < k → ∀ x,P[j]? = some x → m ≤ x
def MaxTo (P : List Int) (k : Nat) (m : Int) : Prop:=(∃ j,j < k ∧ P[j]? = some m) ∧ ∀ j,j < k → ∀ x,P[j]? = some x → x ≤ m
theorem minTo_succ {P : List Int} {k : Nat} {m x : Int} (h : MinTo P k m) (hx : P[k]? = some x) : MinTo P (k + 1) (min m x):=by
 obtain ⟨⟨j,hj,hm⟩,ha⟩:=h;refine ⟨?_,?_⟩
 ·by_cases e : m ≤ x
  ·exact ⟨j,by omega,by rw [Int.min_eq_left e]; exact hm⟩
  ·exact ⟨k,by omega,by rw [Int.min_eq_right (by omega)]; exact hx⟩
 ·intro i hi y hy
  by_cases e : i = k
  ·subst e; rw [hx] at hy; injection hy with hy; omega
  ·have:=ha i (by omega) y hy; omega
theorem maxTo_succ {P : List Int} {k : Nat} {m x : Int} (h : MaxTo P k m) (hx : P[k]? = some x) : MaxTo P (k + 1) (max m x):=by
 obtain ⟨⟨j,hj,hm⟩,ha⟩:=h;refine ⟨?_,?_⟩
 ·by_cases e : x ≤ m
  ·exact ⟨j,by omega,by rw [Int.max_eq_left e]; exact hm⟩
  ·exact ⟨k,by omega,by rw [Int.max_eq_right (by omega)]; exact hx⟩
 ·intro i hi y hy
  by_cases e : i = k
  ·subst e; rw [hx] at hy; injection hy with hy; omega
  ·have:=ha i (by omega) y hy; omega
theorem minTo_one {P : List Int} {x : Int} (hx : P[0]? = some x) : MinTo P 1 x:=⟨⟨0,by omega,hx⟩,fun j hj y hy=>by
 obtain rfl : j = 0:=by omega
 rw [hx] at hy; injection hy with hy; omega⟩
theorem maxTo_one {P : List Int} {x : Int} (hx : P[0]? = some x) : MaxTo P 1 x:=⟨⟨0,by omega,hx⟩,fun j hj y hy=>by
 obtain rfl : j = 0:=by omega
 rw [hx] at hy; injection hy with hy; omega⟩
def RetMin (P : List Int) (n : Nat) (w : World) (e : Ending) (w' : World) : Prop:=∃ m : Int,MinTo P n m ∧ e = .returned (.int .i64 m) ∧ w = w'
def RetMax (P : List Int) (n : Nat) (w : World) (e : Ending) (w' : World) : Prop:=∃ m : Int,MaxTo P n m ∧ e = .returned (.int .i64 m) ∧ w = w'
theorem min_any (A : Option Addr) (n c : Nat) (P : List Int) (w : World) (hn : P.length = n) (h0 : 0 < n) (hI : Ints w A P) (hl : n ≤ 9223372036854775807) :
 Calls Tryz.prog 92 #[.slice A n c] w (RetMin P n w):=by
 obtain ⟨b,o,x,rfl,hb,hx,hc⟩:=hI.at_ 0 (by omega);have HN:=hide hn;have HX:=hide hx;rw [Nat.add_zero] at hc;clear hn hx;have h0' : ¬ ((n : Int) < 1):=by omega
 go_enter Tryz.func92,Tryz.ntmps92
 go_wp2
 go_loop [3,4] (fun m i=>∃ (k : Nat) (v : Int),1 ≤ k ∧ k ≤ n ∧ i = .int .i64 k ∧ m = .int .i64 v ∧ MinTo P k v) (fun _ i=>n - (intOf i).toNat)
 case atStart=>exact ⟨1,x,by omega,by omega,rfl,rfl,minTo_one HX.out⟩
 case round =>
  obtain ⟨k,v,hk1,hk,rfl,rfl,hM⟩:=hrel;have HM:=hide hM;clear hM hc;by_cases hlt : k < n
  ·obtain ⟨b',o',y,hA,hb',hy,hc⟩:=hI.at_ k (by have:=HN.out; omega)
   injection hA with hA; injection hA with hA1 hA2;subst hA1 hA2;have HY:=hide hy;clear hy;go_wp2
   all_goals
    go_round
    case rel=>exact ⟨k + 1,_,by omega,by omega,by go_num,rfl,by rw [ite_min]; exact minTo_succ HM.out HY.out⟩
    case measure=>simp [intOf]; omega
  ·go_wp2
   go_ret;obtain rfl : k = n:=by omega
   exact ⟨v,HM.out,rfl,rfl⟩
theorem max_any (A : Option Addr) (n c : Nat) (P : List Int) (w : World) (hn : P.length = n) (h0 : 0 < n) (hI : Ints w A P) (hl : n ≤ 9223372036854775807) :
 Calls Tryz.prog 93 #[.slice A n c] w (RetMax P n w):=by
 obtain ⟨b,o,x,rfl,hb,hx,hc⟩:=hI.at_ 0 (by omega);have HN:=hide hn;have HX:=hide hx;rw [Nat.add_zero] at hc;clear hn hx;have h0' : ¬ ((n : Int) < 1):=by omega
 go_enter Tryz.func93,Tryz.ntmps93
 go_wp2
 go_loop [3,4] (fun m i=>∃ (k : Nat) (v : Int),1 ≤ k ∧ k ≤ n ∧ i = .int .i64 k ∧ m = .int .i64 v ∧ MaxTo P k v) (fun _ i=>n - (intOf i).toNat)
 case atStart=>exact ⟨1,x,by omega,by omega,rfl,rfl,maxTo_one HX.out⟩
 case round =>
  obtain ⟨k,v,hk1,hk,rfl,rfl,hM⟩:=hrel;have HM:=hide hM;clear hM hc;by_cases hlt : k < n
  ·obtain ⟨b',o',y,hA,hb',hy,hc⟩:=hI.at_ k (by have:=HN.out; omega)
   injection hA with hA; injection hA with hA1 hA2;subst hA1 hA2;have HY:=hide hy;clear hy;go_wp2
   all_goals
    go_round
    case rel=>exact ⟨k + 1,_,by omega,by omega,by go_num,rfl,by rw [ite_max]; exact maxTo_succ HM.out HY.out⟩
    case measure=>simp [intOf]; omega
  ·go_wp2
   go_ret;obtain rfl : k = n:=by omega
   exact ⟨v,HM.out,rfl,rfl⟩
theorem fine_of_minmax {W H : Int} {P : List Int} {n : Nat} {a b : Int} (hn : P.length = n) (h1 : 1 ≤ W) (h2 : W ≤ 16) (h3 : 1 ≤ H) (h4 : H ≤ 16) (hm : ((n : Int) != wrap64 (W * H)) = false)
 (ha : MinTo P n a) (hb : MaxTo P n b) (h5 : 0 ≤ a) (h6 : b ≤ 65535) : Img.Fine ⟨W,H,P⟩ :=
 fine_mk hn h1 h2 h3 h4 hm fun i hi x hx=>⟨by have:=ha.2 i hi x hx; omega,by have:=hb.2 i hi x hx; omega⟩
theorem not_fine_min {W H : Int} {P : List Int} {n : Nat} {a : Int} (ha : MinTo P n a) (h5 : a < 0) : ¬ Img.Fine ⟨W,H,P⟩:=by
 obtain ⟨⟨j,_,hj⟩,_⟩:=ha;exact not_fine_at hj (by omega)
theorem not_fine_max {W H : Int} {P : List Int} {n : Nat} {a : Int} (ha : MaxTo P n a) (h5 : 65535 < a) : ¬ Img.Fine ⟨W,H,P⟩:=by
 obtain ⟨⟨j,_,hj⟩,_⟩:=ha;exact not_fine_at hj (by omega)
def checkErr (a : Img) : Int:=if a.Fine then 0 else 1
theorem checkErr_yes {a : Img} (h : a.Fine) : checkErr a = 0:=if_pos h
theorem checkErr_no {a : Img} (h : ¬ a.Fine) : checkErr a = 1:=if_neg h
theorem check_any (W H : Int) (A : Option Addr) (n c : Nat) (P : List Int) (w : World) (hn : P.length = n) (hI : Ints w A P) (hl : n ≤ 9223372036854775807) :
 Calls Tryz.prog 73 #[.agg #[.int .i64 W,.int .i64 H,.slice A n c]] w fun e w'=>e = .returned (.int .i64 (checkErr ⟨W,H,P⟩)) ∧ Below w.heap.size w w':=by
 have HN:=hide hn;clear hn;by_cases hd : 1 ≤ W ∧ W ≤ 16 ∧ 1 ≤ H ∧ H ≤ 16
 ·obtain ⟨h1,h2,h3,h4⟩:=hd
  have hp:=mul_bd h1 h2 h3 h4;have hp1 : 1 ≤ W * H:=hp.1;have hp2 : W * H ≤ 256:=hp.2;clear hp;by_cases hm : (n : Int) = W * H
  ·have hn0 : 0 < n:=by omega
   have hmF : ((n : Int) != wrap64 (W * H)) = false:=by rw [wrap64_mul16 h1 h2 h3 h4]; simpa using hm
   have Hm:=hide hmF;have hm' : ((n : Int) != W * H) = false:=by simpa using hm
   clear hmF hm;go_enter Tryz.func73,Tryz.ntmps73
   go_wp2_with (first | (go_at_call 92; refine (min_any A n c P _ HN.out hn0 (hI.keep ((Below.refl _ _).alloc (Nat.le_refl _) _)) hl).mono ?_; rintro e w1 ⟨m1,hM1,rfl,rfl⟩; have HM1:=hide hM1; clear hM1) | (go_at_call 93; refine (max_any A n c P _ HN.out hn0 (hI.keep ((Below.refl _ _).alloc (Nat.le_refl _) _)) hl).mono ?_; rintro e w1 ⟨m2,hM2,rfl,rfl⟩; have HM2:=hide hM2; clear hM2))
   all_goals first
    | (exfalso; omega; done)
    | (go_ret; exact ⟨ret_int (Eq.symm (checkErr_no (not_fine_min HM1.out (by assumption)))),(Below.refl _ _).alloc (Nat.le_refl _) _⟩)
    | (go_ret; exact ⟨ret_int (Eq.symm (checkErr_no (not_fine_max HM2.out (by assumption)))),(Below.refl _ _).alloc (Nat.le_refl _) _⟩)
    | (go_ret; exact ⟨ret_int (Eq.symm (checkErr_yes (fine_of_minmax HN.out h1 h2 h3 h4 Hm.out HM1.out HM2.out (by assumption) (by assumption)))),(Below.refl _ _).alloc (Nat.le_refl _) _⟩)
  ·have hmF : ((n : Int) != wrap64 (W * H)) = true:=by rw [wrap64_mul16 h1 h2 h3 h4]; simpa using hm
   have Hm:=hide hmF;have hm' : ((n : Int) != W * H) = true:=by simpa using hm
   clear hmF hm;go_enter Tryz.func73,Tryz.ntmps73
   go_wp2_with fail
   all_goals first
    | (exfalso; omega)
    | (go_ret; exact ⟨ret_int (Eq.symm (checkErr_no (not_fine_len HN.out Hm.out))),(Below.refl _ _).alloc (Nat.le_refl _) _⟩)
 ·go_enter Tryz.func73,Tryz.ntmps73
  go_wp2_with fail
  all_goals first
   | (exfalso; omega)
   | (go_ret; exact ⟨ret_int (Eq.symm (checkErr_no (not_fine_dim hd))),(Below.refl _ _).alloc (Nat.le_refl _) _⟩)
end Go.Proofs.YtibpmogmeoappabGreat
namespace Go.Proofs.YtibpmogmeoappabGreat
open Go.RowKit
def fillTo (F : Nat → Int) (N k : Nat) : List Int:=(List.range N).map fun i=>if i < k then F i else 0
theorem fillTo_length (F : Nat → Int) (N k : Nat) : (fillTo F N k).length = N:=by simp [fillTo]
theorem fillTo_zero (F : Nat → Int) (N : Nat) : fillTo F N 0 = List.replicate N 0:=by
 simp [fillTo,List.map_const']
theorem fillTo_succ (F : Nat → Int) (N k : Nat) : fillTo F N (k + 1) = (fillTo F N k).set k (F k):=by
 apply List.ext_getElem
 ·simp [fillTo]
 ·intro i h1 h2
  simp only [fillTo,List.getElem_map,List.getElem_range,List.getElem_set];by_cases e : k = i
  ·subst e; simp
  ·simp only [e,if_false]
   by_cases h : i < k
   ·simp [h,show i < k + 1 by omega]
   ·simp [h,show ¬ i < k + 1 by omega]
theorem fillTo_full (F : Nat → Int) (N : Nat) : fillTo F N N = (List.range N).map F:=by
 apply List.map_congr_left
 intro i hi;simp at hi; simp [hi]
def DrawF (cw : Int) (f : Int → Int → Int) (i : Nat) : Int:=f ((i : Int) % cw) ((i : Int) / cw)
structure DrawRel (w : World) (cw ch : Int) (f : Int → Int → Int) (N k : Nat) (wr : World) : Prop where
 row : Blk wr (w.heap.size + 1) 3 ((fillTo (DrawF cw f) N k).map (.int .i64))
 out : Blk wr (w.heap.size + 1 + 1) 29 [.int .i64 cw,.int .i64 ch,.slice (some ⟨w.heap.size + 1,0,none⟩) N N]
 res : Blk wr w.heap.size 29 [.int .i64 0,.int .i64 0,.slice none 0 0]
 below : Below w.heap.size w wr
theorem DrawRel.slice {w : World} {cw ch : Int} {f : Int → Int → Int} {N k : Nat} {wr : World} (h : DrawRel w cw ch f N k wr) :
 wr.cell? ⟨w.heap.size + 1 + 1,2,none⟩ = some (.slice (some ⟨w.heap.size + 1,0,none⟩) N N):=by rw [h.out.cell]; rfl
theorem DrawRel.lt {w : World} {cw ch : Int} {f : Int → Int → Int} {N k : Nat} {wr : World} (h : DrawRel w cw ch f N k wr) : w.heap.size + 1 + 1 < wr.heap.size:=h.out.lt
theorem DrawRel.later {w : World} {cw ch : Int} {f : Int → Int → Int} {N k : Nat} {wr w1 : World} (h : DrawRel w cw ch f N k wr) (hE : Below wr.heap.size wr w1) : DrawRel w cw ch f N k w1 :=
 ⟨h.row.keep hE,h.out.keep hE,h.res.keep hE,h.below.trans (hE.mono h.below.size)⟩
theorem DrawRel.drew {w : World} {cw ch : Int} {f : Int → Int → Int} {N k : Nat} {wr : World} (h : DrawRel w cw ch f N k wr) : DrawRel w cw ch f N k wr.drew :=
 ⟨h.row,h.out,h.res,h.below.drew⟩
theorem DrawRel.at_ {w : World} {cw ch : Int} {f : Int → Int → Int} {N k : Nat} {wr : World} (h : DrawRel w cw ch f N k wr) (hk : k < N) : wr.cell? ⟨w.heap.size + 1,k,none⟩ = some (.int .i64 0):=by
 rw [h.row.cell]; simp [fillTo,hk]
theorem DrawRel.free {w : World} {cw ch : Int} {f : Int → Int → Int} {N k : Nat} {wr : World} (h : DrawRel w cw ch f N k wr) (i : Nat) : wr.frozen? ⟨w.heap.size + 1,i,none⟩ = false:=h.row.frozen i
theorem DrawRel.store {w : World} {cw ch : Int} {f : Int → Int → Int} {N k : Nat} {wr : World} (h : DrawRel w cw ch f N k wr) :
 DrawRel w cw ch f N (k + 1) (wr.setCell ⟨w.heap.size + 1,k,none⟩ (.int .i64 (f ((k : Int) % cw) ((k : Int) / cw)))):=by
 refine ⟨?_,h.out.far (by simp) _,h.res.far (by simp) _,h.below.setCell (by simp) _⟩;have:=h.row.set_ k (.int .i64 (f ((k : Int) % cw) ((k : Int) / cw)));rw [fillTo_succ,List.map_set];exact this
theorem DrawRel.stores {w : World} {cw ch : Int} {f : Int → Int → Int} {N k : Nat} {wr : World} (h : DrawRel w cw ch f N k wr) {u v x : Value} :
 Below w.heap.size w (((wr.setCell ⟨w.heap.size,0,none⟩ u).setCell ⟨w.heap.size,1,none⟩ v).setCell ⟨w.heap.size,2,none⟩ x) :=
 ((h.below.setCell (by simp) _).setCell (by simp) _).setCell (by simp) _
theorem drawF_eq {cw ch : Int} {N : Nat} (h1 : 1 ≤ cw) (h2 : 1 ≤ ch) (hN : (N : Int) = cw * ch) (f : Int → Int → Int) : Img.mk cw ch (fillTo (DrawF cw f) N N) = drawn cw ch f:=by
 unfold drawn
 have e : N = cw.toNat * ch.toNat:=by
  have : ((cw.toNat * ch.toNat : Nat) : Int) = cw * ch:=by rw [Int.natCast_mul,Int.toNat_of_nonneg (by omega),Int.toNat_of_nonneg (by omega)]
  omega
 rw [fillTo_full,grid_eq _ _ (by omega),e]
 congr 1
 apply List.map_congr_left
 intro i _;unfold DrawF;rw [Int.natCast_emod,Int.natCast_ediv,Int.toNat_of_nonneg (by omega)]
theorem drawRel_start (w : World) (cw ch : Int) (f : Int → Int → Int) (N : Nat) :
 DrawRel w cw ch f N 0 (((w.alloc (.cells #[.int .i64 0,.int .i64 0,.slice none 0 0] 29)).alloc (.cells (Array.replicate N (.int .i64 0)) 3)).alloc
  (.cells #[.int .i64 cw,.int .i64 ch,.slice (some ⟨w.heap.size + 1,0,none⟩) N N] 29)):=by
 have b0 : Blk (w.alloc (.cells #[.int .i64 0,.int .i64 0,.slice none 0 0] 29)) w.heap.size 29 [.int .i64 0,.int .i64 0,.slice none 0 0]:=Blk.new w 29 _;have b1:=Blk.new (w.alloc (.cells #[.int .i64 0,.int .i64 0,.slice none 0 0] 29)) 3 ((fillTo (DrawF cw f) N 0).map (.int .i64))
 have e1 : ((fillTo (DrawF cw f) N 0).map (Value.int .i64)).toArray = Array.replicate N (.int .i64 0):=by
  rw [fillTo_zero,List.map_replicate]; rfl
 rw [e1] at b1;have b2:=Blk.new ((w.alloc (.cells #[.int .i64 0,.int .i64 0,.slice none 0 0] 29)).alloc (.cells (Array.replicate N (.int .i64 0)) 3)) 29 [.int .i64 cw,.int .i64 ch,.slice (some ⟨w.heap.size + 1,0,none⟩) N N];simp only [World.size_alloc] at b1 b2;exact ⟨b1.alloc _,b2,(b0.alloc _).alloc _,(((Below.refl _ _).alloc (Nat.le_refl _) _).alloc (by simp) _).alloc (by simp; omega) _⟩
theorem Tryz.info3 : (Tryz.prog.info? 3).map (fun i=>(i.zero,i.size,i.bytes)) = some (some (.int .i64 0),1,8):=by kernel_rfl
theorem draw_any (g : FuncId) (lb : Array Value) (cw ch : Int) (hw1 : 1 ≤ cw) (hw2 : cw ≤ 16) (hh1 : 1 ≤ ch) (hh2 : ch ≤ 16) (f : Int → Int → Int) (w : World)
 (eg : ∀ args w,(callFunc g args).run Tryz.prog w = .ok (.enter g args) w) (hto : Gives2 Tryz.prog g lb cw ch f w) :
 Calls Tryz.prog 71 #[.int .i64 cw,.int .i64 ch,.func (.func g) #[] lb] w (RetImg w (drawn cw ch f)):=by
 have hb:=mul_bd hw1 hw2 hh1 hh2;have hp1 : 0 ≤ cw * ch:=by omega
 have hp2 : cw * ch ≤ 256:=by omega
 obtain ⟨i0,hi0,hz0,hz1,hz2⟩:=info_parts Tryz.info3;obtain ⟨N,HN⟩ : ∃ N : Nat,Hid ((N : Int) = cw * ch):=⟨(cw * ch).toNat,Int.toNat_of_nonneg hp1⟩;have hN1 : N ≤ 256:=by have:=HN.out; omega
 have hmk:=fun wx=>run_make_ints (P:=Tryz.prog) 25 3 i0 Tryz.underlying25 hi0 hz0 hz1 hz2 (cw * ch) N HN.out.symm (by omega) wx;have HT:=hide hto;clear hto hb;go_enter Tryz.func71,Tryz.ntmps71
 go_wp2_with fail;go_loopw [19] (fun i wr=>∃ k : Nat,k ≤ N ∧ i = .int .i64 k ∧ DrawRel w cw ch f N k wr) (fun i _=>N - (intOf i).toNat)
 case atStart=>exact ⟨0,Nat.zero_le _,rfl,drawRel_start _ _ _ _ _⟩
 case round =>
  obtain ⟨k,hk,rfl,hR⟩:=hrel;have HR:=hide hR;clear hR;by_cases hlt : k < N
  ·have hk1 : (k : Int) < (N : Int):=by omega
   have hs:=HR.out.slice;have hlr:=HR.out.lt;have hm0 : (0 : Int) ≤ (k : Int) % cw:=Int.emod_nonneg _ (by omega);have hm1 : (k : Int) % cw < cw:=Int.emod_lt_of_pos _ (by omega);have hd0 : (0 : Int) ≤ (k : Int) / cw:=Int.ediv_nonneg (by omega) (by omega);have hd1 : (k : Int) / cw < ch:=Int.ediv_lt_of_lt_mul (by omega) (by rw [Int.mul_comm]; have:=HN.out; omega);have hcz : ¬ cw = 0:=by omega
   have hdk : (k : Int) / cw ≤ 16:=by omega
   have hq : IntKind.i64.wrap ((k : Int) / cw) = (k : Int) / cw:=IntWalk.i64_in _ (by omega);have hr : (k : Int).tmod cw = (k : Int) % cw:=Int.tmod_eq_emod_of_nonneg (by omega);have hk0 : (0 : Int) ≤ (k : Int):=by omega
   go_wp2_with fail
   go_region_held3 (fun w'=>w'.cell? ⟨w.heap.size + 1 + 1,2,none⟩ = some (.slice (some ⟨w.heap.size + 1,0,none⟩) N N))
    (first | go_keep | (rw [(hE.cell (p:=⟨w.heap.size + 1 + 1,2,none⟩) (by simp; omega))]; assumption))
    (first | (refine ((unhide HT) _ _ _ (Below.drew HR.out.below) hm0 hm1 hd0 hd1).mono ?_; rintro e w1 ⟨rfl,hE⟩; have hR1:=hide (HR.out.drew.later hE); have hc1:=hR1.out.at_ hlt; have hf1:=hR1.out.free k; have hl1:=hR1.out.lt))
   go_wp2
   go_roundw
   case rel=>exact ⟨k + 1,by omega,by go_num,hR1.out.store⟩
   case measure=>simp [intOf]; omega
  ·obtain rfl : k = N:=by omega
   have hO:=HR.out.out;have hs0 : wr.cell? ⟨w.heap.size + 1 + 1,0,none⟩ = some (.int .i64 cw):=by rw [hO.cell]; rfl
   have hs1 : wr.cell? ⟨w.heap.size + 1 + 1,1,none⟩ = some (.int .i64 ch):=by rw [hO.cell]; rfl
   have hs2:=HR.out.slice;have hS:=HR.out.res;have hr0 : wr.cell? ⟨w.heap.size,0,none⟩ = some (.int .i64 0):=by rw [hS.cell]; rfl
   have hr1 : wr.cell? ⟨w.heap.size,1,none⟩ = some (.int .i64 0):=by rw [hS.cell]; rfl
   have hr2 : wr.cell? ⟨w.heap.size,2,none⟩ = some (.slice none 0 0):=by rw [hS.cell]; rfl
   have hz0:=hS.frozen 0;have hz1:=hS.frozen 1;have hz2:=hS.frozen 2;have hl:=HR.out.lt;clear hO hS;go_wp2
   refine bodyPost_ret (v:=.agg #[.int .i64 cw,.int .i64 ch,.slice (some ⟨w.heap.size + 1,0,none⟩) k k]) (by simp [results,Tryz.results71,go_sem,hr0,hr1,hr2]) rfl ?_;have hN:=HN.out;have hlen : (fillTo (DrawF cw f) k k).length = k:=fillTo_length _ _ _;refine ⟨cw,ch,fillTo (DrawF cw f) k k,_,k,k,drawF_eq hw1 hh1 hN f,hlen,rfl,?_,Mine.some_ (cs:=(fillTo (DrawF cw f) k k).map (.int .i64)) (by omega) (((HR.out.row.far (p:=⟨w.heap.size,0,none⟩) (by simp) _).far (p:=⟨w.heap.size,1,none⟩) (by simp) _).far (p:=⟨w.heap.size,2,none⟩) (by simp) _),HR.out.stores⟩;exact ((((HR.out.row.far (p:=⟨w.heap.size,0,none⟩) (by simp) _).far (p:=⟨w.heap.size,1,none⟩) (by simp) _).far (p:=⟨w.heap.size,2,none⟩) (by simp) _).cells)
end Go.Proofs.YtibpmogmeoappabGreat
namespace Go.Proofs.YtibpmogmeoappabGreat
open Go.RowKit
theorem pix_cell {W H x y : Int} {P : List Int} {A : Option Addr} {w : World} (hF : Img.Fine ⟨W,H,P⟩) (hI : Ints w A P) (hx : 0 ≤ x) (hx' : x < W) (hy : 0 ≤ y) (hy' : y < H) :
 ∃ b o,A = some ⟨b,o,none⟩ ∧ b < w.heap.size ∧ w.cell? ⟨b,o + (y * W + x).toNat,none⟩ = some (.int .i64 (Img.at_ ⟨W,H,P⟩ x y)):=by
 obtain ⟨hl,_⟩:=hF.at_mem hx hx' hy hy';obtain ⟨b,o,v,hA,hb,hv,hc⟩:=hI.at_ _ hl;refine ⟨b,o,hA,hb,?_⟩;unfold Img.at_;rw [List.getD_eq_getElem?_getD,hv];exact hc
theorem pix_num {W H x y : Int} {P : List Int} {n : Nat} (hF : Img.Fine ⟨W,H,P⟩) (hn : P.length = n) (hx : 0 ≤ x) (hx' : x < W) (hy : 0 ≤ y) (hy' : y < H) :
 0 ≤ y * W + x ∧ y * W + x < (n : Int) ∧ n ≤ 256 ∧ 0 ≤ y * W ∧ y * W ≤ 256:=by
 have h:=place_bd hx hx' hy hy';obtain ⟨⟨h1,h2⟩,⟨h3,h4⟩,h5,_⟩:=hF;simp only at h1 h2 h3 h4 h5;have h6:=mul_bd h1 h2 h3 h4;have h7:=Int.mul_nonneg hy (by omega : (0:Int) ≤ W);omega
theorem at_ref (W H : Int) (A : Option Addr) (n c : Nat) (P : List Int) (x y : Int) (w : World) (hF : Img.Fine ⟨W,H,P⟩) (hn : P.length = n) (hI : Ints w A P) (hx : 0 ≤ x) (hx' : x < W) (hy : 0 ≤ y) (hy' : y < H) :
 Calls Tryz.prog 88 #[.agg #[.int .i64 W,.int .i64 H,.slice A n c],.int .i64 x,.int .i64 y] w fun e w'=>e = .returned (.int .i64 (Img.at_ ⟨W,H,P⟩ x y)) ∧ Below w.heap.size w w':=by
 obtain ⟨p1,p2,p3,p4,p5⟩:=pix_num hF hn hx hx' hy hy';obtain ⟨b,o,rfl,hb,hc⟩:=pix_cell hF hI hx hx' hy hy';generalize Img.at_ ⟨W,H,P⟩ x y = v at *;clear hn hF hI;go_enter Tryz.func88,Tryz.ntmps88
 go_wp2
 go_ret;exact ⟨rfl,(Below.refl _ _).alloc (Nat.le_refl _) _⟩
def ImgBox (w : World) (g : Nat) (W H : Int) (A : Option Addr) (n c : Nat) : Prop:=Blk w g 29 [.int .i64 W,.int .i64 H,.slice A n c]
theorem ImgBox.cells {w : World} {g : Nat} {W H : Int} {A : Option Addr} {n c : Nat} (h : ImgBox w g W H A n c) :
 g < w.heap.size ∧ w.cell? ⟨g,0,none⟩ = some (.int .i64 W) ∧ w.cell? ⟨g,1,none⟩ = some (.int .i64 H) ∧ w.cell? ⟨g,2,none⟩ = some (.slice A n c) :=
 ⟨h.lt,by rw [h.cell]; rfl,by rw [h.cell]; rfl,by rw [h.cell]; rfl⟩
theorem one1_any (g : Nat) (W H : Int) (A : Option Addr) (n c : Nat) (P : List Int) (x y : Int) (w : World) (hF : Img.Fine ⟨W,H,P⟩) (hn : P.length = n) (hI : Ints w A P) (hB : ImgBox w g W H A n c) (hx : 0 ≤ x) (hx' : x < W) (hy : 0 ≤ y) (hy' : y < H) :
 Calls Tryz.prog 81 #[.int .i64 x,.int .i64 y,.pointer (some ⟨g,0,none⟩)] w fun e w'=>e = .returned (.int .i64 (Img.at_ ⟨W,H,P⟩ x y)) ∧ w = w':=by
 obtain ⟨p1,p2,p3,p4,p5⟩:=pix_num hF hn hx hx' hy hy';obtain ⟨b,o,rfl,hb,hc⟩:=pix_cell hF hI hx hx' hy hy';obtain ⟨q0,q1,q2,q3⟩:=hB.cells;generalize Img.at_ ⟨W,H,P⟩ x y = v at *;clear hn hF hI hB;go_enter Tryz.func81,Tryz.ntmps81
 go_wp2
 go_ret;exact ⟨rfl,rfl⟩
def rowList (a : Img) (lo hi j : Int) : List Int:=(irange lo hi).map fun i=>a.at_ i j
theorem rowList_snoc {a : Img} {lo hi j : Int} (h : lo ≤ hi) : rowList a lo hi j = rowList a lo (hi - 1) j ++ [a.at_ hi j]:=by
 unfold rowList; rw [irange_snoc h]; simp
def rowsList (a : Img) (lo hi top bot : Int) : List Int:=(irange top bot).flatMap fun j=>rowList a lo hi j
theorem rowsList_snoc {a : Img} {lo hi top bot : Int} (h : top ≤ bot) : rowsList a lo hi top bot = rowsList a lo hi top (bot - 1) ++ rowList a lo hi bot:=by
 unfold rowsList; rw [irange_snoc h]; simp
theorem sum_bd {l : List Int} (h : ∀ x ∈ l,0 ≤ x ∧ x ≤ 65535) : 0 ≤ l.sum ∧ l.sum ≤ 65535 * l.length:=by
 induction l with
 | nil=>simp
 | cons a l ih =>
   have h1:=h a (by simp);have h2:=ih fun x hx=>h x (by simp [hx]);simp only [List.sum_cons,List.length_cons]; omega
theorem rowList_bd {a : Img} (hF : a.Fine) {lo hi j : Int} (h0 : 0 ≤ lo) (h1 : hi < a.W) (hj : 0 ≤ j) (hj' : j < a.H) : ∀ x ∈ rowList a lo hi j,0 ≤ x ∧ x ≤ 65535:=by
 intro x hx;unfold rowList at hx;simp only [List.mem_map] at hx;obtain ⟨i,hi',rfl⟩:=hx;rw [mem_irange] at hi';exact hF.at_bd (by omega) (by omega) hj hj'
theorem rowsList_bd {a : Img} (hF : a.Fine) {lo hi top bot : Int} (h0 : 0 ≤ lo) (h1 : hi < a.W) (h2 : 0 ≤ top) (h3 : bot < a.H) : ∀ x ∈ rowsList a lo hi top bot,0 ≤ x ∧ x ≤ 65535:=by
 intro x hx;unfold rowsList at hx;simp only [List.mem_flatMap] at hx;obtain ⟨j,hj,hx⟩:=hx;rw [mem_irange] at hj;exact rowList_bd hF h0 h1 (by omega) (by omega) x hx
theorem rowList_length (a : Img) (lo hi j : Int) : (rowList a lo hi j).length = (hi + 1 - lo).toNat:=by simp [rowList,irange_length]
theorem rowsList_length (a : Img) (lo hi top bot : Int) : (rowsList a lo hi top bot).length = (bot + 1 - top).toNat * (hi + 1 - lo).toNat:=by
 unfold rowsList;rw [List.length_flatMap]
 have : List.map (fun j=>(rowList a lo hi j).length) (irange top bot) = List.replicate (irange top bot).length (hi + 1 - lo).toNat:=by
  rw [List.eq_replicate_iff];refine ⟨by simp,?_⟩;intro n hn;simp only [List.mem_map] at hn;obtain ⟨j,_,rfl⟩:=hn;exact rowList_length _ _ _ _
 rw [this,List.sum_replicate_nat,irange_length]
def partList (a : Img) (lo hi top j i : Int) : List Int:=rowsList a lo hi top (j - 1) ++ rowList a lo (i - 1) j
theorem partList_bd {a : Img} (hF : a.Fine) {lo hi top j i : Int} (h0 : 0 ≤ lo) (h1 : hi < a.W) (h2 : 0 ≤ top) (hj : top ≤ j) (hj' : j < a.H) (hi' : i ≤ hi + 1) (hl : lo ≤ hi + 1) :
 0 ≤ (partList a lo hi top j i).sum ∧ (partList a lo hi top j i).sum ≤ 65535 * 256 ∧ (partList a lo hi top j i).length ≤ 256:=by
 have hb:=sum_bd (l:=partList a lo hi top j i) fun x hx=>by
  unfold partList at hx;rw [List.mem_append] at hx;rcases hx with hx | hx
  ·exact rowsList_bd hF h0 h1 h2 (by omega) x hx
  ·exact rowList_bd hF h0 (by omega) (by omega) hj' x hx
 have hlen : (partList a lo hi top j i).length ≤ 256:=by
  unfold partList;rw [List.length_append,rowsList_length,rowList_length];obtain ⟨⟨w1,w2⟩,⟨w3,w4⟩,_⟩:=hF;have e1 : (j - 1 + 1 - top).toNat ≤ 15:=by omega
  have e2 : (hi + 1 - lo).toNat ≤ 16:=by omega
  have e3 : (i - 1 + 1 - lo).toNat ≤ 16:=by omega
  have:=Nat.mul_le_mul e1 e2;omega
 refine ⟨hb.1,?_,hlen⟩;have : (65535 : Int) * ((partList a lo hi top j i).length : Int) ≤ 65535 * 256:=by omega
 omega
theorem partList_step {a : Img} {lo hi top j i : Int} (h : lo ≤ i) : partList a lo hi top j (i + 1) = partList a lo hi top j i ++ [a.at_ i j]:=by
 unfold partList;rw [rowList_snoc (hi:=i + 1 - 1) (by omega),show i + 1 - 1 = i by omega,← List.append_assoc]
theorem partList_row {a : Img} {lo hi top j : Int} (h : top ≤ j) {i : Int} (hi' : ¬ i ≤ hi) (hi2 : i ≤ hi + 1) : partList a lo hi top j i = partList a lo hi top (j + 1) lo:=by
 unfold partList;rw [rowsList_snoc (bot:=j + 1 - 1) (by omega),show j + 1 - 1 = j by omega,show i - 1 = hi by omega];have : rowList a lo (lo - 1) (j + 1) = []:=by unfold rowList; rw [irange_nil (by omega)]; rfl
 rw [this,List.append_nil]
theorem partList_start {a : Img} {lo hi top : Int} : partList a lo hi top top lo = []:=by
 unfold partList rowsList rowList;rw [irange_nil (lo:=top) (hi:=top - 1) (by omega),irange_nil (lo:=lo) (hi:=lo - 1) (by omega)]; rfl
theorem partList_end {a : Img} {lo hi top bot : Int} {j : Int} (hj : ¬ j ≤ bot) (hj2 : j ≤ bot + 1) : partList a lo hi top j lo = rowsList a lo hi top bot:=by
 unfold partList;have : rowList a lo (lo - 1) j = []:=by unfold rowList; rw [irange_nil (by omega)]; rfl
 rw [this,List.append_nil,show j - 1 = bot by omega]
theorem mean_any (W H : Int) (A : Option Addr) (n c : Nat) (P : List Int) (x y u v : Int) (w : World) (hF : Img.Fine ⟨W,H,P⟩) (hn : P.length = n) (hI : Ints w A P)
 (hx : -100 ≤ x) (hx2 : x ≤ 100) (hy : -100 ≤ y) (hy2 : y ≤ 100)
 (hlx : max x 0 ≤ min u (W - 1)) (hly : max y 0 ≤ min v (H - 1)) :
 Calls Tryz.prog 90 #[.agg #[.int .i64 W,.int .i64 H,.slice A n c],.int .i64 x,.int .i64 y,.int .i64 u,.int .i64 v] w fun e w'=>e = .returned (.int .i64 (mean ⟨W,H,P⟩ x y u v)) ∧ Below w.heap.size w w':=by
 have hW:=hF.1;have hH:=hF.2.1;simp only at hW hH;obtain ⟨hW1,hW2⟩:=hW;obtain ⟨hH1,hH2⟩:=hH;have hTop : (if y < 0 then (0 : Int) else y) = max y 0:=by omega
 have hBot : (if H - 1 < v then H - 1 else v) = min v (H - 1):=by omega
 have hLo : (if x < 0 then (0 : Int) else x) = max x 0:=by omega
 have hHi : (if W - 1 < u then W - 1 else u) = min u (W - 1):=by omega
 have hfin : mean ⟨W,H,P⟩ x y u v = (rowsList ⟨W,H,P⟩ (max x 0) (min u (W - 1)) (max y 0) (min v (H - 1))).sum / ((rowsList ⟨W,H,P⟩ (max x 0) (min u (W - 1)) (max y 0) (min v (H - 1))).length : Int):=rfl;generalize ht : max y 0 = top at *;generalize hb : min v (H - 1) = bot at *;generalize hl : max x 0 = lo at *;generalize hh : min u (W - 1) = hi at *;have t0 : 0 ≤ top:=by omega
 have b1 : bot < H:=by omega
 have l0 : 0 ≤ lo:=by omega
 have h1 : hi < W:=by omega
 have HF:=hide hF;have HN:=hide hn;have HFin:=hide hfin;have HI:=hide hI;clear hF hn hfin hI ht hb hl hh hx hx2 hy hy2;go_enter Tryz.func90,Tryz.ntmps90
 go_wp2_with fail
 go_loopw [11,12,13] (fun s m j wr=>∃ (jj : Int),top ≤ jj ∧ jj ≤ bot + 1 ∧ j = .int .i64 jj ∧ s = .int .i64 (partList ⟨W,H,P⟩ lo hi top jj lo).sum ∧ m = .int .i64 ((partList ⟨W,H,P⟩ lo hi top jj lo).length : Nat) ∧ ImgBox wr w.heap.size W H A n c ∧ Below w.heap.size w wr)
  (fun _ _ j _=>(bot + 1 - intOf j).toNat)
 case atStart=>exact ⟨top,by omega,by omega,rfl,by rw [partList_start]; rfl,by rw [partList_start]; rfl,Blk.new _ _ _,(Below.refl _ _).alloc (Nat.le_refl _) _⟩
 case round =>
  obtain ⟨j,hj1,hj2,rfl,rfl,rfl,hB,hW⟩:=hrel;obtain ⟨q0,q1,q2,q3⟩:=hB.cells;have HB:=hide hB;clear hB;by_cases hlt : j ≤ bot
  ·go_wp2_with fail
   obtain ⟨wo,rfl⟩ : ∃ wo : World,wo = wr:=⟨_,rfl⟩
   go_loopw [11,12,14] (fun s m i wr=>∃ (ii : Int),lo ≤ ii ∧ ii ≤ hi + 1 ∧ i = .int .i64 ii ∧ s = .int .i64 (partList ⟨W,H,P⟩ lo hi top j ii).sum ∧ m = .int .i64 ((partList ⟨W,H,P⟩ lo hi top j ii).length : Nat) ∧ ImgBox wr w.heap.size W H A n c ∧ Below w.heap.size w wr)
    (fun _ _ i _=>(hi + 1 - intOf i).toNat)
   case atStart=>exact ⟨lo,by omega,by omega,rfl,rfl,rfl,HB.out,hW⟩
   case round =>
    obtain ⟨i,hi1,hi2,rfl,rfl,rfl,hB,hW⟩:=hrel;obtain ⟨q0,q1,q2,q3⟩:=hB.cells;clear HB;have HB:=hide hB;clear hB;by_cases hli : i ≤ hi
    ·have hv:=HF.out.at_bd (x:=i) (y:=j) (by omega) (by simp only; omega) (by omega) (by simp only; omega)
     obtain ⟨s0,s1,s2⟩:=partList_bd HF.out (lo:=lo) (hi:=hi) (top:=top) (j:=j) (i:=i) l0 h1 t0 hj1 (by simp only; omega) hi2 (by omega);have hst:=partList_step (a:=⟨W,H,P⟩) (lo:=lo) (hi:=hi) (top:=top) (j:=j) (i:=i) hi1;have hsum : (partList ⟨W,H,P⟩ lo hi top j (i + 1)).sum = (partList ⟨W,H,P⟩ lo hi top j i).sum + Img.at_ ⟨W,H,P⟩ i j:=by rw [hst]; simp
     have hlen : (partList ⟨W,H,P⟩ lo hi top j (i + 1)).length = (partList ⟨W,H,P⟩ lo hi top j i).length + 1:=by rw [hst]; simp
     have hcall:=at_ref W H A n c P i j wr HF.out HN.out (HI.out.keep hW) (by omega) (by omega) (by omega) (by omega);have HC:=hide hcall;generalize Img.at_ ⟨W,H,P⟩ i j = av at *;generalize hS : (partList ⟨W,H,P⟩ lo hi top j i).sum = S at *;generalize hM : (partList ⟨W,H,P⟩ lo hi top j i).length = M at *;have HS:=hide hsum;have HL:=hide hlen;clear hst hsum hlen hS hM hcall;go_wp2_with (go_at_call 88; refine (unhide HC).mono ?_; rintro e w1 ⟨rfl,hE⟩; obtain ⟨hc1,hf1⟩:=bcell hE)
     go_roundw
     case rel=>exact ⟨i + 1,by omega,by omega,by go_num,by rw [HS.out],by rw [HL.out]; go_num,HB.out.keep hE,hW.trans (hE.mono hW.size)⟩
     case measure=>simp [intOf]; omega
    ·go_wp2_with fail
     go_roundw
     case rel =>
      have e:=partList_row (a:=⟨W,H,P⟩) (lo:=lo) (hi:=hi) (top:=top) hj1 hli hi2;exact ⟨j + 1,by omega,by omega,by go_num,by rw [← e],by rw [← e],HB.out,hW⟩
     case measure=>simp [intOf]; omega
  ·obtain ⟨s0,s1⟩:=sum_bd (rowsList_bd HF.out l0 h1 t0 b1)
   have hlen:=rowsList_length ⟨W,H,P⟩ lo hi top bot;have hm1:=mul_bd (W:=bot + 1 - top) (H:=hi + 1 - lo) (by omega) (by omega) (by omega) (by omega)
   have hlen2 : ((rowsList ⟨W,H,P⟩ lo hi top bot).length : Int) = (bot + 1 - top) * (hi + 1 - lo):=by
    rw [hlen,Int.natCast_mul,Int.toNat_of_nonneg (by omega),Int.toNat_of_nonneg (by omega)]
   rw [partList_end (a:=⟨W,H,P⟩) (lo:=lo) (hi:=hi) (top:=top) hlt hj2];generalize (rowsList ⟨W,H,P⟩ lo hi top bot).sum = S at *;generalize (rowsList ⟨W,H,P⟩ lo hi top bot).length = M at *;rw [← hlen2] at hm1;have hM0 : (1 : Int) ≤ (M : Int):=hm1.1;have hM1 : (M : Int) ≤ 256:=hm1.2;have hMz : ¬ (M : Int) = 0:=by omega
   have hMz' : ¬ M = 0:=by omega
   have hd0 : 0 ≤ S / (M : Int):=Int.ediv_nonneg s0 (by omega);have hd1 : S / (M : Int) ≤ S:=Int.ediv_le_self _ s0;clear hlen hlen2 hm1;go_wp2_with fail;go_ret;exact ⟨ret_int (by rw [HFin.out]; try rw [wrap64_of (by omega) (by omega)]),hW⟩
def blurList (a : Img) (lo hi top bot j i : Int) : List Int :=
 rowsList a lo hi top (min (j - 1) bot) ++ (if top ≤ j ∧ j ≤ bot then rowList a lo (min (i - 1) hi) j else [])
theorem blurList_bd {a : Img} (hF : a.Fine) {lo hi top bot j i : Int} (h0 : 0 ≤ lo) (h1 : hi < a.W) (h2 : 0 ≤ top) (h3 : bot < a.H) :
 0 ≤ (blurList a lo hi top bot j i).sum ∧ (blurList a lo hi top bot j i).sum ≤ 65535 * 1024 ∧ (blurList a lo hi top bot j i).length ≤ 1024:=by
 have hb:=sum_bd (l:=blurList a lo hi top bot j i) fun x hx=>by
  unfold blurList at hx;rw [List.mem_append] at hx;rcases hx with hx | hx
  ·exact rowsList_bd hF h0 h1 h2 (by omega) x hx
  ·split at hx
   ·exact rowList_bd hF h0 (by omega) (by omega) (by omega) x hx
   ·simp at hx
 have hlen : (blurList a lo hi top bot j i).length ≤ 1024:=by
  unfold blurList;obtain ⟨⟨w1,w2⟩,⟨w3,w4⟩,_⟩:=hF;have e1 : (min (j - 1) bot + 1 - top).toNat ≤ 16:=by omega
  have e2 : (hi + 1 - lo).toNat ≤ 16:=by omega
  have e3 : (min (i - 1) hi + 1 - lo).toNat ≤ 16:=by omega
  have:=Nat.mul_le_mul e1 e2;rw [List.length_append,rowsList_length];split
  ·rw [rowList_length]; omega
  ·simp; omega
 refine ⟨hb.1,?_,hlen⟩;have : (65535 : Int) * ((blurList a lo hi top bot j i).length : Int) ≤ 65535 * 1024:=by omega
 omega
theorem blurList_in {a : Img} {lo hi top bot j i : Int} (h : lo ≤ i) (h2 : i ≤ hi) (h3 : top ≤ j) (h4 : j ≤ bot) : blurList a lo hi top bot j (i + 1) = blurList a lo hi top bot j i ++ [a.at_ i j]:=by
 unfold blurList;rw [if_pos ⟨h3,h4⟩,if_pos ⟨h3,h4⟩,show min (i + 1 - 1) hi = i by omega,show min (i - 1) hi = i - 1 by omega,rowList_snoc h,← List.append_assoc]
theorem blurList_out {a : Img} {lo hi top bot j i : Int} (h : ¬ (lo ≤ i ∧ i ≤ hi ∧ top ≤ j ∧ j ≤ bot)) : blurList a lo hi top bot j (i + 1) = blurList a lo hi top bot j i:=by
 unfold blurList;by_cases hj : top ≤ j ∧ j ≤ bot
 ·rw [if_pos hj,if_pos hj]
  by_cases hl : lo ≤ i
  ·rw [show min (i + 1 - 1) hi = hi by omega,show min (i - 1) hi = hi by omega]
  ·unfold rowList
   rw [irange_nil (lo:=lo) (hi:=min (i + 1 - 1) hi) (by omega),irange_nil (lo:=lo) (hi:=min (i - 1) hi) (by omega)]
 ·rw [if_neg hj,if_neg hj]
theorem blurList_row {a : Img} {lo hi top bot j i i0 : Int} (h1 : hi < i) (h2 : i0 ≤ lo) : blurList a lo hi top bot j i = blurList a lo hi top bot (j + 1) i0:=by
 unfold blurList;have e0 : ∀ k,rowList a lo (min (i0 - 1) hi) k = []:=fun k=>by unfold rowList; rw [irange_nil (lo:=lo) (hi:=min (i0 - 1) hi) (by omega)]; rfl
 have e1 : (if top ≤ j + 1 ∧ j + 1 ≤ bot then rowList a lo (min (i0 - 1) hi) (j + 1) else []) = []:=by rw [e0]; split <;> rfl
 rw [e1,List.append_nil];by_cases hj : top ≤ j ∧ j ≤ bot
 ·rw [if_pos hj,show min (j - 1) bot = j - 1 by omega,show min (j + 1 - 1) bot = j by omega,show min (i - 1) hi = hi by omega,rowsList_snoc hj.1]
 ·rw [if_neg hj,List.append_nil]
  by_cases hl : top ≤ j
  ·rw [show min (j - 1) bot = bot by omega,show min (j + 1 - 1) bot = bot by omega]
  ·unfold rowsList
   rw [irange_nil (lo:=top) (hi:=min (j - 1) bot) (by omega),irange_nil (lo:=top) (hi:=min (j + 1 - 1) bot) (by omega)]
theorem blurList_start {a : Img} {lo hi top bot j i : Int} (h1 : j ≤ top) (h2 : i ≤ lo) : blurList a lo hi top bot j i = []:=by
 unfold blurList rowsList rowList;rw [irange_nil (lo:=top) (hi:=min (j - 1) bot) (by omega),irange_nil (lo:=lo) (hi:=min (i - 1) hi) (by omega)];simp
theorem blurList_end {a : Img} {lo hi top bot j i : Int} (h1 : bot < j) : blurList a lo hi top bot j i = rowsList a lo hi top bot:=by
 unfold blurList;rw [if_neg (by omega),List.append_nil,show min (j - 1) bot = bot by omega]
theorem blur_any (W H : Int) (A : Option Addr) (n c : Nat) (P : List Int) (x y : Int) (w : World) (hF : Img.Fine ⟨W,H,P⟩) (hn : P.length = n) (hI : Ints w A P)
 (hx : 0 ≤ x) (hx2 : x < W) (hy : 0 ≤ y) (hy2 : y < H) :
 Calls Tryz.prog 85 #[.agg #[.int .i64 W,.int .i64 H,.slice A n c],.int .i64 x,.int .i64 y] w fun e w'=>e = .returned (.int .i64 (mean ⟨W,H,P⟩ (x - 1) (y - 1) (x + 1) (y + 1))) ∧ Below w.heap.size w w':=by
 have hW:=hF.1;have hH:=hF.2.1;simp only at hW hH;obtain ⟨hW1,hW2⟩:=hW;obtain ⟨hH1,hH2⟩:=hH;have hfin : mean ⟨W,H,P⟩ (x - 1) (y - 1) (x + 1) (y + 1) = (rowsList ⟨W,H,P⟩ (max (x - 1) 0) (min (x + 1) (W - 1)) (max (y - 1) 0) (min (y + 1) (H - 1))).sum / ((rowsList ⟨W,H,P⟩ (max (x - 1) 0) (min (x + 1) (W - 1)) (max (y - 1) 0) (min (y + 1) (H - 1))).length : Int):=rfl;obtain ⟨top,ht⟩ : ∃ t,t = max (y - 1) 0:=⟨_,rfl⟩;obtain ⟨bot,hb⟩ : ∃ t,t = min (y + 1) (H - 1):=⟨_,rfl⟩;obtain ⟨lo,hl⟩ : ∃ t,t = max (x - 1) 0:=⟨_,rfl⟩;obtain ⟨hi,hh⟩ : ∃ t,t = min (x + 1) (W - 1):=⟨_,rfl⟩;rw [← ht,← hb,← hl,← hh] at hfin;have t0 : 0 ≤ top:=by omega
 have b1 : bot < H:=by omega
 have l0 : 0 ≤ lo:=by omega
 have h1 : hi < W:=by omega
 have hlx : lo ≤ hi:=by omega
 have hly : top ≤ bot:=by omega
 have HF:=hide hF;have HN:=hide hn;have HFin:=hide hfin;have HI:=hide hI;have HT:=hide ht;have HB':=hide hb;have HL:=hide hl;have HH:=hide hh;clear hF hn hfin hI ht hb hl hh;go_enter Tryz.func85,Tryz.ntmps85
 go_wp2_with fail
 go_loopw [7,8,9] (fun s m j wr=>∃ (jj : Int),y - 1 ≤ jj ∧ jj ≤ y + 2 ∧ j = .int .i64 jj ∧ s = .int .i64 (blurList ⟨W,H,P⟩ lo hi top bot jj (x - 1)).sum ∧ m = .int .i64 ((blurList ⟨W,H,P⟩ lo hi top bot jj (x - 1)).length : Nat) ∧ wr = w.alloc (.cells #[.int .i64 W,.int .i64 H,.slice A n c] 29))
  (fun _ _ j _=>(y + 2 - intOf j).toNat)
 case atStart =>
  have e:=blurList_start (a:=⟨W,H,P⟩) (lo:=lo) (hi:=hi) (top:=top) (bot:=bot) (j:=y - 1) (i:=x - 1) (by have:=HT.out; omega) (by have:=HL.out; omega);exact ⟨y - 1,by omega,by omega,rfl,by rw [e]; rfl,by rw [e]; rfl,rfl⟩
 case round =>
  obtain ⟨j,hj1,hj2,rfl,rfl,rfl,rfl⟩:=hrel;by_cases hlt : j ≤ y + 1
  ·go_wp2_with fail
   go_loopw [7,8,10] (fun s m i wr=>∃ (ii : Int),x - 1 ≤ ii ∧ ii ≤ x + 2 ∧ i = .int .i64 ii ∧ s = .int .i64 (blurList ⟨W,H,P⟩ lo hi top bot j ii).sum ∧ m = .int .i64 ((blurList ⟨W,H,P⟩ lo hi top bot j ii).length : Nat) ∧ wr = w.alloc (.cells #[.int .i64 W,.int .i64 H,.slice A n c] 29))
    (fun _ _ i _=>(x + 2 - intOf i).toNat)
   case atStart=>exact ⟨x - 1,by omega,by omega,rfl,rfl,rfl,rfl⟩
   case round =>
    obtain ⟨i,hi1,hi2,rfl,rfl,rfl,rfl⟩:=hrel;by_cases hli : i ≤ x + 1
    ·obtain ⟨s0,s1,s2⟩:=blurList_bd HF.out (lo:=lo) (hi:=hi) (top:=top) (bot:=bot) (j:=j) (i:=i) l0 h1 t0 b1
     by_cases hin : 0 ≤ i ∧ i < W ∧ 0 ≤ j ∧ j < H
     ·obtain ⟨i1,i2,i3,i4⟩:=hin
      have hv:=HF.out.at_bd (x:=i) (y:=j) (by omega) (by simp only; omega) (by omega) (by simp only; omega);have hst:=blurList_in (a:=⟨W,H,P⟩) (lo:=lo) (hi:=hi) (top:=top) (bot:=bot) (j:=j) (i:=i) (by have:=HL.out; omega) (by have:=HH.out; omega) (by have:=HT.out; omega) (by have:=HB'.out; omega);have hsum : (blurList ⟨W,H,P⟩ lo hi top bot j (i + 1)).sum = (blurList ⟨W,H,P⟩ lo hi top bot j i).sum + Img.at_ ⟨W,H,P⟩ i j:=by rw [hst]; simp
      have hlen : (blurList ⟨W,H,P⟩ lo hi top bot j (i + 1)).length = (blurList ⟨W,H,P⟩ lo hi top bot j i).length + 1:=by rw [hst]; simp
      obtain ⟨p1,p2,p3,p4,p5⟩:=pix_num HF.out HN.out i1 i2 i3 i4;obtain ⟨b,o,hA,hb,hc⟩:=pix_cell HF.out HI.out i1 i2 i3 i4;subst hA;generalize Img.at_ ⟨W,H,P⟩ i j = av at *;generalize hS : (blurList ⟨W,H,P⟩ lo hi top bot j i).sum = S at *;generalize hM : (blurList ⟨W,H,P⟩ lo hi top bot j i).length = M at *;have HS:=hide hsum;have HLn:=hide hlen;clear hst hsum hlen hS hM;go_wp2_with fail;go_roundw
      case rel=>exact ⟨i + 1,by omega,by omega,by go_num,by rw [HS.out],by rw [HLn.out]; go_num,by trivial⟩
      case measure=>simp [intOf]; omega
     ·have hst:=blurList_out (a:=⟨W,H,P⟩) (lo:=lo) (hi:=hi) (top:=top) (bot:=bot) (j:=j) (i:=i) (by have:=HL.out; have:=HH.out; have:=HT.out; have:=HB'.out; omega)
      have HST:=hide hst;clear hst;go_wp2_with fail
      all_goals first
       | (exfalso; omega)
       | (go_roundw
          case rel=>exact ⟨i + 1,by omega,by omega,by go_num,by rw [HST.out],by rw [HST.out],by trivial⟩
          case measure=>simp [intOf]; omega)
    ·go_wp2_with fail
     go_roundw
     case rel =>
      have e:=blurList_row (a:=⟨W,H,P⟩) (lo:=lo) (hi:=hi) (top:=top) (bot:=bot) (j:=j) (i:=i) (i0:=x - 1) (by have:=HH.out; omega) (by have:=HL.out; omega);exact ⟨j + 1,by omega,by omega,by go_num,by rw [← e],by rw [← e],by trivial⟩
     case measure=>simp [intOf]; omega
  ·obtain ⟨s0,s1⟩:=sum_bd (rowsList_bd HF.out l0 h1 t0 b1)
   have hlen:=rowsList_length ⟨W,H,P⟩ lo hi top bot;have hm1:=mul_bd (W:=bot + 1 - top) (H:=hi + 1 - lo) (by omega) (by omega) (by omega) (by omega)
   have hlen2 : ((rowsList ⟨W,H,P⟩ lo hi top bot).length : Int) = (bot + 1 - top) * (hi + 1 - lo):=by
    rw [hlen,Int.natCast_mul,Int.toNat_of_nonneg (by omega),Int.toNat_of_nonneg (by omega)]
   rw [blurList_end (a:=⟨W,H,P⟩) (lo:=lo) (hi:=hi) (top:=top) (bot:=bot) (j:=j) (i:=x - 1) (by have:=HB'.out; omega)];generalize (rowsList ⟨W,H,P⟩ lo hi top bot).sum = S at *;generalize (rowsList ⟨W,H,P⟩ lo hi top bot).length = M at *;rw [← hlen2] at hm1;have hM0 : (1 : Int) ≤ (M : Int):=hm1.1;have hM1 : (M : Int) ≤ 256:=hm1.2;have hMz : ¬ (M : Int) = 0:=by omega
   have hMz' : ¬ M = 0:=by omega
   have hd0 : 0 ≤ S / (M : Int):=Int.ediv_nonneg s0 (by omega);have hd1 : S / (M : Int) ≤ S:=Int.ediv_le_self _ s0;clear hlen hlen2 hm1;go_wp2_with fail;go_ret;exact ⟨ret_int (by rw [HFin.out]; try rw [wrap64_of (by omega) (by omega)]),(Below.refl _ _).alloc (Nat.le_refl _) _⟩
end Go.Proofs.YtibpmogmeoappabGreat
namespace Go.Proofs.YtibpmogmeoappabGreat
open Go.RowKit
def VarBox (w : World) (g : Nat) (t : TypeId) (v : Value) : Prop:=Blk w g t [v]
theorem VarBox.cell0 {w : World} {g : Nat} {t : TypeId} {v : Value} (h : VarBox w g t v) : g < w.heap.size ∧ w.cell? ⟨g,0,none⟩ = some v:=⟨h.lt,by rw [h.cell]; rfl⟩
def atFn (g : Nat) : Value:=.func (.func 81) #[] #[.pointer (some ⟨g,0,none⟩)]
theorem enters_One1 : ∀ args w,(callFunc 81 args).run Tryz.prog w = .ok (.enter 81 args) w:=enters_of Tryz.func81 (by kernel_rfl) rfl
theorem enters_One2 : ∀ args w,(callFunc 82 args).run Tryz.prog w = .ok (.enter 82 args) w:=enters_of Tryz.func82 (by kernel_rfl) rfl
theorem enters_One3 : ∀ args w,(callFunc 83 args).run Tryz.prog w = .ok (.enter 83 args) w:=enters_of Tryz.func83 (by kernel_rfl) rfl
theorem enters_One4 : ∀ args w,(callFunc 84 args).run Tryz.prog w = .ok (.enter 84 args) w:=enters_of Tryz.func84 (by kernel_rfl) rfl
theorem enters_One5 : ∀ args w,(callFunc 86 args).run Tryz.prog w = .ok (.enter 86 args) w:=enters_of Tryz.func86 (by kernel_rfl) rfl
theorem enters_One6 : ∀ args w,(callFunc 87 args).run Tryz.prog w = .ok (.enter 87 args) w:=enters_of Tryz.func87 (by kernel_rfl) rfl
section
variable (g ga gk : Nat) (W H : Int) (A : Option Addr) (n c : Nat) (P : List Int) (x y k : Int) (w : World)
theorem one2_any (hF : Img.Fine ⟨W,H,P⟩) (hn : P.length = n) (hI : Ints w A P) (hB : ImgBox w g W H A n c) (hA : VarBox w ga 132 (atFn g)) (hK : VarBox w gk 3 (.int .i64 k)) (hx : 0 ≤ x) (hx' : x < W) (hy : 0 ≤ y) (hy' : y < H) :
 Calls Tryz.prog 82 #[.int .i64 x,.int .i64 y,.pointer (some ⟨ga,0,none⟩),.pointer (some ⟨gk,0,none⟩)] w fun e w'=>e = .returned (.int .i64 (onePix 8 ⟨W,H,P⟩ k x y)) ∧ w = w':=by
 obtain ⟨l1,c1⟩:=hA.cell0;obtain ⟨l2,c2⟩:=hK.cell0;unfold atFn at c1;have hcall:=one1_any g W H A n c P x y w hF hn hI hB hx hx' hy hy';have hfin : onePix 8 ⟨W,H,P⟩ k x y = if k ≤ Img.at_ ⟨W,H,P⟩ x y then Img.at_ ⟨W,H,P⟩ x y else 0:=rfl;generalize Img.at_ ⟨W,H,P⟩ x y = v at *;have HC:=hide hcall;have HFin:=hide hfin;clear hcall hfin hF hn hI hB hA hK hx hx' hy hy';by_cases hk : k ≤ v
 all_goals
  go_enter Tryz.func82,Tryz.ntmps82
  go_wp2_with (go_at_call 81; refine (unhide HC).mono ?_; rintro e w1 ⟨rfl,rfl⟩)
  go_ret;exact ⟨ret_int (by rw [HFin.out]; first | rw [if_pos (by omega)] | rw [if_neg (by omega)]),rfl⟩
theorem one3_any (hF : Img.Fine ⟨W,H,P⟩) (hn : P.length = n) (hI : Ints w A P) (hB : ImgBox w g W H A n c) (hA : VarBox w ga 132 (atFn g)) (hK : VarBox w gk 3 (.int .i64 k)) (hk1 : -16 ≤ k) (hk2 : k ≤ 16) (hx : 0 ≤ x) (hx' : x < W) (hy : 0 ≤ y) (hy' : y < H) :
 Calls Tryz.prog 83 #[.int .i64 x,.int .i64 y,.pointer (some ⟨ga,0,none⟩),.pointer (some ⟨gk,0,none⟩),.pointer (some ⟨g,0,none⟩)] w fun e w'=>e = .returned (.int .i64 (onePix 9 ⟨W,H,P⟩ k x y)) ∧ w = w':=by
 obtain ⟨l1,c1⟩:=hA.cell0;obtain ⟨l2,c2⟩:=hK.cell0;obtain ⟨q0,q1,q2,q3⟩:=hB.cells;unfold atFn at c1;have hW2:=hF.1.2;simp only at hW2;obtain ⟨u,hu⟩ : ∃ u,u = min (max (x - k) 0) (W - 1):=⟨_,rfl⟩;have hu0 : 0 ≤ u:=by omega
 have hu1 : u < W:=by omega
 have hcall:=one1_any g W H A n c P u y w hF hn hI hB hu0 hu1 hy hy'
 have hfin : onePix 9 ⟨W,H,P⟩ k x y = Img.at_ ⟨W,H,P⟩ u y:=by
  show Img.at_ ⟨W,H,P⟩ (max 0 (min (W - 1) (x - k))) y = _
  rw [show max 0 (min (W - 1) (x - k)) = u by omega]
 generalize Img.at_ ⟨W,H,P⟩ u y = v at *;have HC:=hide hcall;have HFin:=hide hfin;have HU:=hide hu;clear hcall hfin hF hn hI hB hA hK hu;by_cases h1 : x - k < 0
 ·have e : (0 : Int) = u:=by have:=HU.out; omega
  have HE:=hide e;clear e;have h2 : ¬ (W - 1 < 0):=by omega
  go_enter Tryz.func83,Tryz.ntmps83
  go_wp2_with fail;rw [HE.out];refine (unhide HC).mono ?_;rintro e w1 ⟨rfl,rfl⟩;go_wp2_with fail;go_ret;exact ⟨ret_int (by rw [HFin.out]),rfl⟩
 ·by_cases h2 : W - 1 < x - k
  ·have e : W - 1 = u:=by have:=HU.out; omega
   have HE:=hide e;clear e;go_enter Tryz.func83,Tryz.ntmps83
   go_wp2_with fail;rw [HE.out];refine (unhide HC).mono ?_;rintro e w1 ⟨rfl,rfl⟩;go_wp2_with fail;go_ret;exact ⟨ret_int (by rw [HFin.out]),rfl⟩
  ·have e : x - k = u:=by have:=HU.out; omega
   have HE:=hide e;clear e;go_enter Tryz.func83,Tryz.ntmps83
   go_wp2_with fail;rw [HE.out];refine (unhide HC).mono ?_;rintro e w1 ⟨rfl,rfl⟩;go_wp2_with fail;go_ret;exact ⟨ret_int (by rw [HFin.out]),rfl⟩
theorem one4_any (hF : Img.Fine ⟨W,H,P⟩) (hn : P.length = n) (hI : Ints w A P) (hB : ImgBox w g W H A n c) (hx : 0 ≤ x) (hx' : x < W) (hy : 0 ≤ y) (hy' : y < H) :
 Calls Tryz.prog 84 #[.int .i64 x,.int .i64 y,.pointer (some ⟨g,0,none⟩)] w fun e w'=>e = .returned (.int .i64 (onePix 10 ⟨W,H,P⟩ k x y)) ∧ Below w.heap.size w w':=by
 obtain ⟨q0,q1,q2,q3⟩:=hB.cells;have hcall:=blur_any W H A n c P x y w hF hn hI hx hx' hy hy';have hfin : onePix 10 ⟨W,H,P⟩ k x y = mean ⟨W,H,P⟩ (x - 1) (y - 1) (x + 1) (y + 1):=rfl;generalize mean ⟨W,H,P⟩ (x - 1) (y - 1) (x + 1) (y + 1) = v at *;have HC:=hide hcall;have HFin:=hide hfin;clear hcall hfin hF hn hI hB hx hx' hy hy';go_enter Tryz.func84,Tryz.ntmps84
 go_wp2_with (go_at_call 85; refine (unhide HC).mono ?_; rintro e w1 ⟨rfl,hE⟩)
 go_ret;exact ⟨ret_int (by rw [HFin.out]),hE⟩
theorem mean_down {a : Img} (hx : 0 ≤ x) (hx' : 2 * x + 1 < a.W) (hy : 0 ≤ y) (hy' : 2 * y + 1 < a.H) :
 mean a (2 * x) (2 * y) (2 * x + 1) (2 * y + 1) = (a.at_ (2 * x) (2 * y) + a.at_ (2 * x + 1) (2 * y) + a.at_ (2 * x) (2 * y + 1) + a.at_ (2 * x + 1) (2 * y + 1)) / 4:=by
 have e : meanList a (2 * x) (2 * y) (2 * x + 1) (2 * y + 1) = [a.at_ (2 * x) (2 * y),a.at_ (2 * x + 1) (2 * y),a.at_ (2 * x) (2 * y + 1),a.at_ (2 * x + 1) (2 * y + 1)]:=by
  have e2 : ∀ z : Int,irange z (z + 1) = [z,z + 1]:=fun z=>by rw [irange_cons (by omega),irange_cons (by omega),irange_nil (by omega)]
  unfold meanList;rw [show max (2 * x) 0 = 2 * x by omega,show min (2 * x + 1) (a.W - 1) = 2 * x + 1 by omega,show max (2 * y) 0 = 2 * y by omega,show min (2 * y + 1) (a.H - 1) = 2 * y + 1 by omega,e2,e2];rfl
 unfold mean;rw [e];simp only [List.sum_cons,List.sum_nil,List.length_cons,List.length_nil];rw [show a.at_ (2 * x) (2 * y) + (a.at_ (2 * x + 1) (2 * y) + (a.at_ (2 * x) (2 * y + 1) + (a.at_ (2 * x + 1) (2 * y + 1) + 0))) = a.at_ (2 * x) (2 * y) + a.at_ (2 * x + 1) (2 * y) + a.at_ (2 * x) (2 * y + 1) + a.at_ (2 * x + 1) (2 * y + 1) by omega];rfl
theorem one1_quiet (hF : Img.Fine ⟨W,H,P⟩) (hn : P.length = n) (hI : Ints w A P) (hB : ImgBox w g W H A n c) (m : Nat) (hx : 0 ≤ x) (hx' : x < W) (hy : 0 ≤ y) (hy' : y < H) :
 Calls Tryz.prog 81 #[.int .i64 x,.int .i64 y,.pointer (some ⟨g,0,none⟩)] (w.drewN m) fun e w'=>e = .returned (.int .i64 (Img.at_ ⟨W,H,P⟩ x y)) ∧ ∃ q,w' = w.drewN q :=
 (one1_any g W H A n c P x y (w.drewN m) hF hn hI hB hx hx' hy hy').mono fun _ _ ⟨h1,h2⟩=>⟨h1,m,h2.symm⟩
theorem one5_any (hF : Img.Fine ⟨W,H,P⟩) (hn : P.length = n) (hI : Ints w A P) (hB : ImgBox w g W H A n c) (hA : VarBox w ga 132 (atFn g)) (hx : 0 ≤ x) (hx' : 2 * x + 1 < W) (hy : 0 ≤ y) (hy' : 2 * y + 1 < H) :
 Calls Tryz.prog 86 #[.int .i64 x,.int .i64 y,.pointer (some ⟨ga,0,none⟩)] w fun e w'=>e = .returned (.int .i64 (onePix 11 ⟨W,H,P⟩ k x y)) ∧ Below w.heap.size w w':=by
 obtain ⟨l1,c1⟩:=hA.cell0;unfold atFn at c1;have hW2:=hF.1.2;have hH2:=hF.2.1.2;simp only at hW2 hH2;have v1:=hF.at_bd (x:=2 * x) (y:=2 * y) (by omega) (by simp only; omega) (by omega) (by simp only; omega);have v2:=hF.at_bd (x:=2 * x + 1) (y:=2 * y) (by omega) (by simp only; omega) (by omega) (by simp only; omega);have v3:=hF.at_bd (x:=2 * x) (y:=2 * y + 1) (by omega) (by simp only; omega) (by omega) (by simp only; omega);have v4:=hF.at_bd (x:=2 * x + 1) (y:=2 * y + 1) (by omega) (by simp only; omega) (by omega) (by simp only; omega);have k1:=fun m=>one1_quiet g W H A n c P (2 * x) (2 * y) w hF hn hI hB m (by omega) (by omega) (by omega) (by omega);have k2:=fun m=>one1_quiet g W H A n c P (2 * x + 1) (2 * y) w hF hn hI hB m (by omega) (by omega) (by omega) (by omega);have k3:=fun m=>one1_quiet g W H A n c P (2 * x) (2 * y + 1) w hF hn hI hB m (by omega) (by omega) (by omega) (by omega);have k4:=fun m=>one1_quiet g W H A n c P (2 * x + 1) (2 * y + 1) w hF hn hI hB m (by omega) (by omega) (by omega) (by omega)
 have hfin : onePix 11 ⟨W,H,P⟩ k x y = (Img.at_ ⟨W,H,P⟩ (2 * x) (2 * y) + Img.at_ ⟨W,H,P⟩ (2 * x + 1) (2 * y) + Img.at_ ⟨W,H,P⟩ (2 * x) (2 * y + 1) + Img.at_ ⟨W,H,P⟩ (2 * x + 1) (2 * y + 1)) / 4 :=
  mean_down x y (a:=⟨W,H,P⟩) hx hx' hy hy'
 generalize Img.at_ ⟨W,H,P⟩ (2 * x) (2 * y) = a1 at *;generalize Img.at_ ⟨W,H,P⟩ (2 * x + 1) (2 * y) = a2 at *;generalize Img.at_ ⟨W,H,P⟩ (2 * x) (2 * y + 1) = a3 at *;generalize Img.at_ ⟨W,H,P⟩ (2 * x + 1) (2 * y + 1) = a4 at *;obtain ⟨v1,v1'⟩:=v1;obtain ⟨v2,v2'⟩:=v2;obtain ⟨v3,v3'⟩:=v3;obtain ⟨v4,v4'⟩:=v4;have b1 : 0 ≤ 2 * x:=by omega
 have b2 : 2 * x ≤ 16:=by omega
 have b3 : 0 ≤ 2 * y:=by omega
 have b4 : 2 * y ≤ 16:=by omega
 have e1 : IntKind.i64.wrap (2 * x) = 2 * x:=IntWalk.i64_in _ (by omega);have e2 : IntKind.i64.wrap (2 * x + 1) = 2 * x + 1:=IntWalk.i64_in _ (by omega);have e3 : IntKind.i64.wrap (2 * y) = 2 * y:=IntWalk.i64_in _ (by omega);have e4 : IntKind.i64.wrap (2 * y + 1) = 2 * y + 1:=IntWalk.i64_in _ (by omega);have e5 : IntKind.i64.wrap (a1 + a2) = a1 + a2:=IntWalk.i64_in _ (by omega);have e6 : IntKind.i64.wrap (a1 + a2 + a3) = a1 + a2 + a3:=IntWalk.i64_in _ (by omega);have e7 : IntKind.i64.wrap (a1 + a2 + a3 + a4) = a1 + a2 + a3 + a4:=IntWalk.i64_in _ (by omega);have HFin:=hide hfin;have K1:=hide k1;have K2:=hide k2;have K3:=hide k3;have K4:=hide k4;clear hfin hF hn hI hB hA k1 k2 k3 k4;go_enter Tryz.func86,Tryz.ntmps86
 go_wp2_with fail;go_quiet ((go_at_call 81; first | (with_reducible exact (unhide K1) _) | (with_reducible exact (unhide K2) _) | (with_reducible exact (unhide K3) _) | (with_reducible exact (unhide K4) _)))
 go_wp2_with fail;go_ret;refine ⟨ret_int ?_,?_⟩
 ·rw [HFin.out]
 ·exact below_drewN (Below.refl _ _) _
theorem one6_any (hF : Img.Fine ⟨W,H,P⟩) (hn : P.length = n) (hI : Ints w A P) (hB : ImgBox w g W H A n c) (hA : VarBox w ga 132 (atFn g)) (hx : 0 ≤ x) (hx' : x < 2 * W) (hy : 0 ≤ y) (hy' : y < 2 * H) :
 Calls Tryz.prog 87 #[.int .i64 x,.int .i64 y,.pointer (some ⟨ga,0,none⟩)] w fun e w'=>e = .returned (.int .i64 (onePix 12 ⟨W,H,P⟩ k x y)) ∧ w = w':=by
 obtain ⟨l1,c1⟩:=hA.cell0;unfold atFn at c1;have hcall:=one1_any g W H A n c P (x / 2) (y / 2) w hF hn hI hB (by omega) (by omega) (by omega) (by omega);have hfin : onePix 12 ⟨W,H,P⟩ k x y = Img.at_ ⟨W,H,P⟩ (x / 2) (y / 2):=rfl;generalize Img.at_ ⟨W,H,P⟩ (x / 2) (y / 2) = v at *;have HC:=hide hcall;have HFin:=hide hfin;clear hcall hfin hF hn hI hB hA;go_enter Tryz.func87,Tryz.ntmps87
 go_wp2_with fail;refine (unhide HC).mono ?_;rintro e w1 ⟨rfl,rfl⟩;go_wp2_with fail;go_ret;exact ⟨ret_int (by rw [HFin.out]),rfl⟩
end
end Go.Proofs.YtibpmogmeoappabGreat
namespace Go.Proofs.YtibpmogmeoappabGreat
open Go.RowKit
theorem enters_Make1 : ∀ args w,(callFunc 72 args).run Tryz.prog w = .ok (.enter 72 args) w:=enters_of Tryz.func72 (by kernel_rfl) rfl
theorem make1_any (g gk : Nat) (op k x y : Int) (w : World) (ho : VarBox w g 3 (.int .i64 op)) (hk : VarBox w gk 3 (.int .i64 k)) (hop : op = 1 ∨ op = 2) (hk0 : 0 ≤ k) (hk1 : k ≤ 65535) (hx : 0 ≤ x) (hx' : x < 16) (hy : 0 ≤ y) (hy' : y < 16) :
 Calls Tryz.prog 72 #[.int .i64 x,.int .i64 y,.pointer (some ⟨g,0,none⟩),.pointer (some ⟨gk,0,none⟩)] w fun e w'=>e = .returned (.int .i64 (makePix op k x y)) ∧ w = w':=by
 obtain ⟨l1,c1⟩:=ho.cell0;obtain ⟨l2,c2⟩:=hk.cell0;clear ho hk;have hb0:=Int.mul_nonneg hx hk0;have hb1 : x * k ≤ 16 * 65535:=Int.mul_le_mul (by omega) hk1 hk0 (by omega)
 have hand : bits .and .i64 (x * k + y) 65535 = (x * k + y) % 65536:=by
  obtain ⟨z,hz⟩:=Int.eq_ofNat_of_zero_le (show 0 ≤ x * k + y by omega);rw [hz]
  show IntKind.i64.wrap ((BitVec.ofInt 64 (z : Int) &&& BitVec.ofInt 64 (65535 : Int)).toNat : Int) = _
  have e1 : (BitVec.ofInt 64 (z : Int)).toNat = z:=by
   rw [BitVec.ofInt_natCast,BitVec.toNat_ofNat]; exact Nat.mod_eq_of_lt (by omega)
  have e2 : (BitVec.ofInt 64 (65535 : Int)).toNat = 2 ^ 16 - 1:=by rfl
  rw [BitVec.toNat_and,e1,e2,Nat.and_two_pow_sub_one_eq_mod,IntKind.wrap_i64];omega
 rcases hop with rfl | rfl
 ·go_enter Tryz.func72,Tryz.ntmps72
  go_wp2_with fail;go_ret;exact ⟨ret_int rfl,rfl⟩
 ·go_enter Tryz.func72,Tryz.ntmps72
  go_wp2_with fail;go_ret;exact ⟨ret_int rfl,rfl⟩
theorem retNone {w w' : World} {x : Int} (hb : Below w.heap.size w w') : RetImgErr w Img.none x (.returned (.tuple #[.agg #[.int .i64 0,.int .i64 0,.slice none 0 0],.int .i64 x])) w' :=
 ⟨0,0,[],none,0,0,rfl,rfl,rfl,Ints.nil _ _,Mine.none_ _ _,hb⟩
theorem retBox {w w1 : World} {g B : Nat} {r : Img} {W H : Int} {P : List Int} {A : Option Addr} {n c : Nat} {x : Int} {u v z : Value} (hr : Img.mk W H P = r) (hn : P.length = n) (hI : Ints w1 A P) (hA : Mine w1 B A) (hg : g < B) (hw : w.heap.size ≤ g) (hb : Below w.heap.size w w1) :
 RetImgErr w r x (.returned (.tuple #[.agg #[.int .i64 W,.int .i64 H,.slice A n c],.int .i64 x])) (((w1.setCell ⟨g,0,none⟩ u).setCell ⟨g,1,none⟩ v).setCell ⟨g,2,none⟩ z) :=
 ⟨W, H, P, A, n, c, hr, hn, rfl, ((hI.far hA.new (p := ⟨g, 0, none⟩) hg u).far hA.new (p := ⟨g, 1, none⟩) hg v).far hA.new (p := ⟨g, 2, none⟩) hg z, (((hA.far (p := ⟨g, 0, none⟩) hg u).far (p := ⟨g, 1, none⟩) hg v).far (p := ⟨g, 2, none⟩) hg z).mono (by omega),
   ((hb.setCell (p:=⟨g,0,none⟩) hw u).setCell (p:=⟨g,1,none⟩) hw v).setCell (p:=⟨g,2,none⟩) hw z⟩
theorem make_yes1 (cw ch k : Int) (w : World) (r1 : 1 ≤ cw) (r2 : cw ≤ 16) (r3 : 1 ≤ ch) (r4 : ch ≤ 16) (r5 : 0 ≤ k) (r6 : k ≤ 65535) :
 Calls Tryz.prog 46 #[.int .i64 1,.int .i64 cw,.int .i64 ch,.int .i64 k] w (RetImgErr w (drawn cw ch (makePix 1 k)) 0):=by
 have hdr : ∀ W : World,VarBox W w.heap.size 3 (.int .i64 1) → VarBox W (w.heap.size + 1) 3 (.int .i64 k) → Calls Tryz.prog 71 #[.int .i64 cw,.int .i64 ch,.func (.func 72) #[] #[.pointer (some ⟨w.heap.size,0,none⟩),.pointer (some ⟨w.heap.size + 1,0,none⟩)]] W (RetImg W (drawn cw ch (makePix 1 k))):=by
  intro W h1 h2;refine draw_any _ _ cw ch r1 r2 r3 r4 _ W enters_Make1 ?_;intro W' x y hb hx hx' hy hy';exact (make1_any w.heap.size (w.heap.size + 1) 1 k x y W' (h1.keep hb) (h2.keep hb) (by omega) r5 r6 hx (by omega) hy (by omega)).mono fun _ _ ⟨a,b⟩=>⟨a,b ▸ Below.refl _ _⟩
 have HD:=hide hdr;clear hdr;go_enter Tryz.func46,Tryz.ntmps46
 go_wp2_with fail;all_goals try (exfalso; omega)
 refine ((unhide HD) _ (((Blk.new w 3 [_]).alloc _).alloc _) ?_).mono ?_
 ·have:=(Blk.new (w.alloc (.cells #[.int .i64 1] 3)) 3 [.int .i64 k]).alloc (.cells #[.int .i64 0,.int .i64 0,.slice none 0 0] 29)
  simp only [World.size_alloc] at this;exact this
 rintro e w1 ⟨W1,H1,P1,A1,n1,c1,hr,hn,rfl,hI,hA,hb⟩;have HR:=hide hr;have HN:=hide hn;have HB:=hide hb;have HA:=hide hA;obtain ⟨hc,hf⟩:=bcell hb;have hz:=hb.size;simp only [World.size_alloc] at hz;clear hr hn hb hA;go_wp2_with fail;have hc0 : w1.cell? ⟨w.heap.size + 1 + 1,0,none⟩ = some (.int .i64 0):=by rw [hc (w.heap.size + 1 + 1) 0 (by simp)]; go_simp
 have hc1 : w1.cell? ⟨w.heap.size + 1 + 1,1,none⟩ = some (.int .i64 0):=by rw [hc (w.heap.size + 1 + 1) 1 (by simp)]; go_simp
 have hc2 : w1.cell? ⟨w.heap.size + 1 + 1,2,none⟩ = some (.slice none 0 0):=by rw [hc (w.heap.size + 1 + 1) 2 (by simp)]; go_simp
 refine bodyPost_ret (v:=.tuple #[.agg #[.int .i64 W1,.int .i64 H1,.slice A1 n1 c1],.int .i64 0]) (by simp [results,Tryz.results46,go_sem,hc0,hc1,hc2]) rfl ?_;exact retBox HR.out HN.out hI HA.out (by simp) (by omega) ((((Below.refl _ _).alloc (Nat.le_refl _) _).alloc (by simp) _).alloc (by simp; omega) _ |>.trans (HB.out.mono (by simp; omega)))
theorem make_yes2 (cw ch k : Int) (w : World) (r1 : 1 ≤ cw) (r2 : cw ≤ 16) (r3 : 1 ≤ ch) (r4 : ch ≤ 16) (r5 : 0 ≤ k) (r6 : k ≤ 65535) :
 Calls Tryz.prog 46 #[.int .i64 2,.int .i64 cw,.int .i64 ch,.int .i64 k] w (RetImgErr w (drawn cw ch (makePix 2 k)) 0):=by
 have hdr : ∀ W : World,VarBox W w.heap.size 3 (.int .i64 2) → VarBox W (w.heap.size + 1) 3 (.int .i64 k) → Calls Tryz.prog 71 #[.int .i64 cw,.int .i64 ch,.func (.func 72) #[] #[.pointer (some ⟨w.heap.size,0,none⟩),.pointer (some ⟨w.heap.size + 1,0,none⟩)]] W (RetImg W (drawn cw ch (makePix 2 k))):=by
  intro W h1 h2;refine draw_any _ _ cw ch r1 r2 r3 r4 _ W enters_Make1 ?_;intro W' x y hb hx hx' hy hy';exact (make1_any w.heap.size (w.heap.size + 1) 2 k x y W' (h1.keep hb) (h2.keep hb) (by omega) r5 r6 hx (by omega) hy (by omega)).mono fun _ _ ⟨a,b⟩=>⟨a,b ▸ Below.refl _ _⟩
 have HD:=hide hdr;clear hdr;go_enter Tryz.func46,Tryz.ntmps46
 go_wp2_with fail;all_goals try (exfalso; omega)
 refine ((unhide HD) _ (((Blk.new w 3 [_]).alloc _).alloc _) ?_).mono ?_
 ·have:=(Blk.new (w.alloc (.cells #[.int .i64 2] 3)) 3 [.int .i64 k]).alloc (.cells #[.int .i64 0,.int .i64 0,.slice none 0 0] 29)
  simp only [World.size_alloc] at this;exact this
 rintro e w1 ⟨W1,H1,P1,A1,n1,c1,hr,hn,rfl,hI,hA,hb⟩;have HR:=hide hr;have HN:=hide hn;have HB:=hide hb;have HA:=hide hA;obtain ⟨hc,hf⟩:=bcell hb;have hz:=hb.size;simp only [World.size_alloc] at hz;clear hr hn hb hA;go_wp2_with fail;have hc0 : w1.cell? ⟨w.heap.size + 1 + 1,0,none⟩ = some (.int .i64 0):=by rw [hc (w.heap.size + 1 + 1) 0 (by simp)]; go_simp
 have hc1 : w1.cell? ⟨w.heap.size + 1 + 1,1,none⟩ = some (.int .i64 0):=by rw [hc (w.heap.size + 1 + 1) 1 (by simp)]; go_simp
 have hc2 : w1.cell? ⟨w.heap.size + 1 + 1,2,none⟩ = some (.slice none 0 0):=by rw [hc (w.heap.size + 1 + 1) 2 (by simp)]; go_simp
 refine bodyPost_ret (v:=.tuple #[.agg #[.int .i64 W1,.int .i64 H1,.slice A1 n1 c1],.int .i64 0]) (by simp [results,Tryz.results46,go_sem,hc0,hc1,hc2]) rfl ?_;exact retBox HR.out HN.out hI HA.out (by simp) (by omega) ((((Below.refl _ _).alloc (Nat.le_refl _) _).alloc (by simp) _).alloc (by simp; omega) _ |>.trans (HB.out.mono (by simp; omega)))
theorem make_kind (op cw ch k : Int) (w : World) (hop : ¬ (op = 1 ∨ op = 2)) :
 Calls Tryz.prog 46 #[.int .i64 op,.int .i64 cw,.int .i64 ch,.int .i64 k] w (RetImgErr w Img.none 4):=by
 have h1 : (op != 1) = true:=by simp; omega
 have h2 : (op != 2) = true:=by simp; omega
 clear hop;go_enter Tryz.func46,Tryz.ntmps46
 go_wp2_with fail;refine bodyPost_ret (v:=.tuple #[.agg #[.int .i64 0,.int .i64 0,.slice none 0 0],.int .i64 4]) (by simp [results,Tryz.results46,go_sem]) rfl ?_;exact retNone ((((Below.refl _ _).alloc (Nat.le_refl _) _).alloc (by simp) _).alloc (by simp; omega) _)
theorem make_range (op cw ch k : Int) (w : World) (hop : op = 1 ∨ op = 2) (hr : ¬ (1 ≤ cw ∧ cw ≤ 16 ∧ 1 ≤ ch ∧ ch ≤ 16 ∧ 0 ≤ k ∧ k ≤ 65535)) :
 Calls Tryz.prog 46 #[.int .i64 op,.int .i64 cw,.int .i64 ch,.int .i64 k] w (RetImgErr w Img.none 3):=by
 rcases hop with rfl | rfl
 ·go_enter Tryz.func46,Tryz.ntmps46
  go_wp2_with fail;all_goals try (exfalso; omega)
  all_goals
   refine bodyPost_ret (v:=.tuple #[.agg #[.int .i64 0,.int .i64 0,.slice none 0 0],.int .i64 3]) (by simp [results,Tryz.results46,go_sem]) rfl ?_;exact retNone ((((Below.refl _ _).alloc (Nat.le_refl _) _).alloc (by simp) _).alloc (by simp; omega) _)
 ·go_enter Tryz.func46,Tryz.ntmps46
  go_wp2_with fail;all_goals try (exfalso; omega)
  all_goals
   refine bodyPost_ret (v:=.tuple #[.agg #[.int .i64 0,.int .i64 0,.slice none 0 0],.int .i64 3]) (by simp [results,Tryz.results46,go_sem]) rfl ?_;exact retNone ((((Below.refl _ _).alloc (Nat.le_refl _) _).alloc (by simp) _).alloc (by simp; omega) _)
theorem make_any (op cw ch k : Int) (w : World) :
 Calls Tryz.prog 46 #[.int .i64 op,.int .i64 cw,.int .i64 ch,.int .i64 k] w (RetImgErr w (makeAns op cw ch k) (makeErr op cw ch k)):=by
 by_cases hop : op = 1 ∨ op = 2
 ·by_cases hr : 1 ≤ cw ∧ cw ≤ 16 ∧ 1 ≤ ch ∧ ch ≤ 16 ∧ 0 ≤ k ∧ k ≤ 65535
  ·have hE : makeErr op cw ch k = 0:=by unfold makeErr; rw [if_neg (by omega),if_neg (by omega)]
   have hA : makeAns op cw ch k = drawn cw ch (makePix op k):=by unfold makeAns; rw [if_pos hE]; rfl
   rw [hE,hA];obtain ⟨r1,r2,r3,r4,r5,r6⟩:=hr;rcases hop with rfl | rfl
   ·exact make_yes1 cw ch k w r1 r2 r3 r4 r5 r6
   ·exact make_yes2 cw ch k w r1 r2 r3 r4 r5 r6
  ·have hE : makeErr op cw ch k = 3:=by unfold makeErr; rw [if_neg (by omega),if_pos (by omega)]
   have hA : makeAns op cw ch k = Img.none:=by unfold makeAns; rw [if_neg (by omega)]
   rw [hE,hA];exact make_range op cw ch k w hop hr
 ·have hE : makeErr op cw ch k = 4:=by unfold makeErr; rw [if_pos (by omega)]
  have hA : makeAns op cw ch k = Img.none:=by unfold makeAns; rw [if_neg (by omega)]
  rw [hE,hA];exact make_kind op cw ch k w hop
end Go.Proofs.YtibpmogmeoappabGreat
namespace Go.Proofs.YtibpmogmeoappabGreat
open Go.RowKit
theorem makeOf_any (op cw ch k : Int) (w : World) (hop : op = 1 ∨ op = 2) (r1 : 1 ≤ cw) (r2 : cw ≤ 16) (r3 : 1 ≤ ch) (r4 : ch ≤ 16) (r5 : 0 ≤ k) (r6 : k ≤ 65535) :
 Calls Tryz.prog 56 #[.int .i64 op,.int .i64 cw,.int .i64 ch,.int .i64 k] w (RetImg w (drawn cw ch (makePix op k))):=by
 obtain ⟨i0,hi0,hz0,hz1,hz2⟩:=info_parts Tryz.info3;have HOP:=hide hop;clear hop;go_enter Tryz.func56,Tryz.ntmps56
 go_wp2_with fail
 go_loopw [10] (fun j wr=>∃ (y : Int) (A : Option Addr) (n c : Nat),0 ≤ y ∧ y ≤ ch ∧ j = .int .i64 y ∧ GridRel w cw ch (makePix op k) (w.heap.size + 1) (w.heap.size + 2) [(w.heap.size,29,[.int .i64 0,.int .i64 0,.slice none 0 0])] y 0 A n c wr)
  (fun j _=>(ch - intOf j).toNat)
 case atStart =>
  refine ⟨0,none,0,0,by omega,by omega,rfl,GridRel.start ?_ (by omega) (by omega) (by simp) ?_ ?_⟩
  ·have:=Blk.new (w.alloc (.cells #[.int .i64 0,.int .i64 0,.slice none 0 0] 29)) 29 [.int .i64 cw,.int .i64 ch,.slice none 0 0]
   simp only [World.size_alloc] at this;exact this
  ·intro b hb
   simp only [List.mem_singleton] at hb;subst hb;exact ⟨(Blk.new w 29 _).alloc _,by simp,by simp⟩
  ·exact ((Below.refl _ _).alloc (Nat.le_refl _) _).alloc (by simp) _
 case round =>
  obtain ⟨y,A,n,c,hy0,hy1,rfl,hG⟩:=hrel;have HG:=hide hG;clear hG;by_cases hlt : y < ch
  ·go_wp2_with fail
   obtain ⟨wo,rfl⟩ : ∃ wo : World,wo = wr:=⟨_,rfl⟩
   go_loopw [11] (fun i wr=>∃ (x : Int) (A : Option Addr) (n c : Nat),0 ≤ x ∧ x ≤ cw ∧ i = .int .i64 x ∧ GridRel w cw ch (makePix op k) (w.heap.size + 1) (w.heap.size + 2) [(w.heap.size,29,[.int .i64 0,.int .i64 0,.slice none 0 0])] y x A n c wr)
    (fun i _=>(cw - intOf i).toNat)
   case atStart=>exact ⟨0,A,n,c,by omega,by omega,rfl,HG.out⟩
   case round =>
    obtain ⟨x,A,n,c,hx0,hx1,rfl,hG⟩:=hrel;clear HG;have HG:=hide hG;have hle:=gridPart_le (W:=cw) (makePix op k) (y:=y) (x:=x) (by omega) (by omega) (by omega);have hn : n ≤ 1073741824:=by rw [hG.len]; omega
    have hs:=hG.size;obtain ⟨q0,q1,q2,q3,q4⟩:=hG.cells;clear hG hle;by_cases hli : x < cw
    ·have hb0:=Int.mul_nonneg hx0 r5
     have hb1 : x * k ≤ 16 * 65535:=Int.mul_le_mul (by omega) r6 r5 (by omega);rcases HOP.out with h | h
     ·have hf : (op == 2) = false:=by subst h; rfl
      have hpix : makePix op k x y = k:=by subst h; rfl
      have HP:=hide hpix;clear h hpix;go_wp2_with (at_builtin; refine wpList_app1 wr rfl _ _ 25 rfl (w.heap.size + 2) 3 i0 _ 1 8 Tryz.underlying25 hi0 hz0 hz1 hz2 rfl (by omega) A n c _ [.int .i64 k] rfl HG.out.own rfl rfl (one_int _) hn (by omega) hs ?_; intro A1 c1 w1 hown1 hg1; obtain ⟨p0,p1,p2⟩:=HG.out.midCells hg1)
      go_roundw
      case rel=>exact ⟨x + 1,A1,n + 1,c1,by omega,by omega,by go_num,HG.out.step hx0 hg1 (by rw [HP.out]; exact hown1)⟩
      case measure=>simp [intOf]; omega
     ·have hf : (op == 2) = true:=by subst h; rfl
      have hpix : makePix op k x y = (x * k + y) % 65536:=by subst h; rfl
      have HP:=hide hpix;clear h hpix;go_wp2_with (at_builtin; refine wpList_app1 wr rfl _ _ 25 rfl (w.heap.size + 2) 3 i0 _ 1 8 Tryz.underlying25 hi0 hz0 hz1 hz2 rfl (by omega) A n c _ [.int .i64 ((x * k + y) % 65536)] rfl HG.out.own rfl rfl (one_int _) hn (by omega) hs ?_; intro A1 c1 w1 hown1 hg1; obtain ⟨p0,p1,p2⟩:=HG.out.midCells hg1)
      go_roundw
      case rel=>exact ⟨x + 1,A1,n + 1,c1,by omega,by omega,by go_num,HG.out.step hx0 hg1 (by rw [HP.out]; exact hown1)⟩
      case measure=>simp [intOf]; omega
    ·go_wp2_with fail
     go_roundw
     case rel=>exact ⟨y + 1,A,n,c,by omega,by omega,by go_num,HG.out.row hy0 (by omega)⟩
     case measure=>simp [intOf]; omega
  ·obtain rfl : y = ch:=by omega
   obtain ⟨q0,q1,q2,q3,q4⟩:=HG.out.cells;have hR:=(HG.out.others _ (List.mem_singleton.2 rfl)).1;have r0 : wr.cell? ⟨w.heap.size,0,none⟩ = some (.int .i64 0):=by rw [hR.cell]; rfl
   have r1' : wr.cell? ⟨w.heap.size,1,none⟩ = some (.int .i64 0):=by rw [hR.cell]; rfl
   have r2' : wr.cell? ⟨w.heap.size,2,none⟩ = some (.slice none 0 0):=by rw [hR.cell]; rfl
   have f0:=hR.frozen 0;have f1:=hR.frozen 1;have f2:=hR.frozen 2;simp only at f0 f1 f2;clear hR;go_wp2_with fail;refine bodyPost_ret (v:=.agg #[.int .i64 cw,.int .i64 y,.slice A n c]) (by simp [results,Tryz.results56,go_sem,r0,r1',r2']) rfl ?_;exact HG.out.done (List.mem_singleton.2 rfl) (Nat.le_refl _)
end Go.Proofs.YtibpmogmeoappabGreat
