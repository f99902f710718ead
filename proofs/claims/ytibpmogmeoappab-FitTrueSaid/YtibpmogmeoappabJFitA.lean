/- Walks: slices.Values over spans; spans compared. -/
import Derived.Test.YtibpmogmeoappabJNeedA
import Derived.Test.YtibpmogmeoappabJQPure
import Derived.Test.YtibpmogmeoappabJPlnE
import Derived.RangeFuncBox
import Derived.RangeFuncNested
set_option maxRecDepth 100000
set_option maxHeartbeats 4000000
namespace Go.Proofs.Ytibpmogmeoappab
open Go.RowKit Go.Shelf
attribute [local go_sem] Oper.semAt_some
def spnVal (x : Spn) : Value:=.agg #[.int .i64 x.First,.int .i64 x.Last]
theorem vals1_in (F : Fence) (n : Nat) (h8 : F.fn 139) (hro : F.round = none) (hn : 1 ≤ n) (lp Bs n₀ len cap : Nat) (A : Option Addr) (l : List Spn) (hl : l.length = len) (hreach : len ≤ 9223372036854775807) (J Jx : List Spn → World → Prop)
 (hJ : ∀ pre W o,J pre W → J pre (W.alloc o))
 (hY : ∀ pre x W, J pre W → pre.length < len → YieldAt F (n - 1) Try.prog lp #[spnVal x] W fun e W' =>
   (e = .returned (.bool true) ∧ J (pre ++ [x]) W' ∧ Below n₀ W W') ∨ (e = .returned (.bool false) ∧ Jx (pre ++ [x]) W'))
 (W : World) (hBs : W.cell? ⟨Bs,0,none⟩ = some (.slice A len cap)) (hn₀ : n₀ ≤ W.heap.size)
 (hc : ∀ j,j < len → ∃ b off,A = some ⟨b,off,none⟩ ∧ b < n₀ ∧ W.cell? ⟨b,off + j * 2,none⟩ = some (.int .i64 (spAt l j).First) ∧ W.cell? ⟨b,off + j * 2 + 1,none⟩ = some (.int .i64 (spAt l j).Last)) (h0 : J [] W) :
 CallsIn F n Try.prog 139 #[.func (.yield lp) #[] #[],.pointer (some ⟨Bs,0,none⟩)] W fun e W'=>(∃ v,e = .returned v) ∧
  ((∃ ys,ys = l ∧ J ys W') ∨ (∃ pre,(∃ j,j < len ∧ pre = l.take (j + 1)) ∧ Jx pre W')):=by
 refine callsIn_of_wp Try.func139 rfl h8 ?_ hro;simp only [Try.ntmps139,List.size_toArray,List.length_cons,List.length_nil,Nat.reduceAdd,Nat.reduceSub,Array.replicate_succ,Array.replicate_zero,List.push_toArray,List.append_toArray,List.nil_append,List.cons_append]
 gi_wp2
 gi_loopw [4,7] (fun _ i wr=>∃ j : Nat,j ≤ len ∧ i = .int .i64 (j : Int) ∧ J (l.take j) wr ∧ Below n₀ W wr)
  (fun _ i _=>len - (intOf i).toNat)
 case atStart=>exact ⟨0,Nat.zero_le _,by simp,by simpa using h0,Below.refl _ _⟩
 case round =>
  obtain ⟨j,hk,rfl,hJs,hnx⟩:=hrel;by_cases hlt : j < len
  ·have hj0 : (0 : Int) ≤ (j : Int):=by omega
   have hj1 : (j : Int) < (len : Int):=by omega
   obtain ⟨b,off,rfl,hb,c0',c1'⟩:=hc j hlt;have c0:=(hnx.cell (p:=⟨b,off + j * 2,none⟩) hb).trans c0';have c1:=(hnx.cell (p:=⟨b,off + j * 2 + 1,none⟩) hb).trans c1';have hJa:=hJ _ _ (.cells #[.int .i64 (spAt l j).First,.int .i64 (spAt l j).Last] 41) hJs;obtain ⟨fn,tmps,assign,body,hy,hR⟩:=hY _ (spAt l j) _ hJa (by rw [List.length_take]; omega);simp only [spnVal] at hy;have hal : Below n₀ W (wr.alloc (.cells #[.int .i64 (spAt l j).First,.int .i64 (spAt l j).Last] 41)):=hnx.alloc (Nat.le_trans hn₀ hnx.size) _
   have htk : l.take j ++ [spAt l j] = l.take (j + 1):=by
    rw [List.take_add_one];unfold spAt;rw [List.getD_eq_getElem?_getD,List.getElem?_eq_getElem (by omega : j < l.length)];rfl
   gi_wp2
   refine hR.mono ?_;rintro e W3 (⟨rfl,hJ3,hk3⟩ | ⟨rfl,hJx3⟩)
   ·gi_wp2
    go_roundw
    case rel=>exact ⟨j + 1,by omega,by go_num,by rw [← htk]; exact hJ3,hal.trans hk3⟩
    case measure=>simp [intOf]; omega
   ·gi_wp2
    refine bodyPost_ret (results_none rfl _ _ _) rfl ?_;exact ⟨⟨_,rfl⟩,.inr ⟨_,⟨j,hlt,htk⟩,hJx3⟩⟩
  ·obtain rfl : j = len:=by omega
   gi_wp2
   go_end0
   refine ⟨⟨_,rfl⟩,.inl ⟨_,rfl,?_⟩⟩;rw [List.take_of_length_le (by omega)] at hJs;exact hJs
theorem values_in (F : Fence) (n : Nat) (h6 : F.fn 112) (hro : F.round = none) (a : Option Addr) (len cap : Nat) (w : World) :
 CallsIn F n Try.prog 112 #[.slice a len cap] w fun e w'=>e = .returned (.func (.func 139) #[] #[.pointer (some ⟨w.heap.size,0,none⟩)]) ∧ w' = w.alloc (.cells #[.slice a len cap] 32):=by
 refine callsIn_of_wp Try.func112 rfl h6 ?_ hro;simp only [Try.ntmps112,List.size_toArray,List.length_cons,List.length_nil,Nat.reduceAdd,Nat.reduceSub,Array.replicate_succ,Array.replicate_zero,List.push_toArray,List.append_toArray,List.nil_append,List.cons_append]
 gi_wp2
 go_ret;exact ⟨rfl,rfl⟩
theorem values_stops (F : Fence) (n : Nat) (h8 : F.fn 139) (hro : F.round = none) (hn : 1 ≤ n) (Bs n₀ len cap : Nat) (A : Option Addr) (l : List Spn) (hl : l.length = len) (hreach : len ≤ 9223372036854775807) (w : World) (hBs : Bs < n₀) (hn₀ : n₀ ≤ w.heap.size)
 (hcb : w.cell? ⟨Bs,0,none⟩ = some (.slice A len cap)) (hc : ∀ j,j < len → ∃ b off,A = some ⟨b,off,none⟩ ∧ b < n₀ ∧ w.cell? ⟨b,off + j * 2,none⟩ = some (.int .i64 (spAt l j).First) ∧ w.cell? ⟨b,off + j * 2 + 1,none⟩ = some (.int .i64 (spAt l j).Last)) :
 SeqStopsK F n Try.prog 139 #[.pointer (some ⟨Bs,0,none⟩)] (fun x : Spn=>#[spnVal x]) (Below n₀) (fun ys=>ys = l)
  (fun pre=>∃ j,j < len ∧ pre = l.take (j + 1)) len w:=fun lp J Jx W hW hJ _ hY h0=>by
 have hW':=hW.mono hn₀;refine vals1_in F n h8 hro hn lp Bs n₀ len cap A l hl hreach J Jx (fun pre W o h=>hJ pre W _ none h (World.grownBy_alloc W o none) (fun r e=>by cases e)) hY W ((hW'.cell (p:=⟨Bs,0,none⟩) hBs).trans hcb) (Nat.le_trans hn₀ hW.size) (fun j hj=>?_) h0;obtain ⟨b,off,e,hb,c0,c1⟩:=hc j hj;exact ⟨b,off,e,hb,(hW'.cell (p:=⟨b,off + j * 2,none⟩) hb).trans c0,(hW'.cell (p:=⟨b,off + j * 2 + 1,none⟩) hb).trans c1⟩
def cmpS (a b : Spn) : Int:=if a.First < b.First then -1 else if b.First < a.First then 1 else 0
theorem cmpS_lt {a b : Spn} : cmpS a b < 0 ↔ a.First < b.First:=by
 unfold cmpS;split
 ·constructor <;> intro <;> omega
 ·split <;> constructor <;> intro <;> omega
theorem isNaN_any (x : Int) (w : World) : Calls Try.prog 140 #[.int .i64 x] w fun e w'=>e = .returned (.bool false) ∧ w = w':=by
 go_enter Try.func140,Try.ntmps140
 go_wp2_with fail;go_ret;exact ⟨rfl,rfl⟩
theorem compare_any (x y : Int) (w : World) : Calls Try.prog 114 #[.int .i64 x,.int .i64 y] w fun e w'=>e = .returned (.int .i64 (if x < y then -1 else if y < x then 1 else 0)) ∧ w = w':=by
 by_cases h1 : x < y
 ·rw [if_pos h1]
  go_enter Try.func114,Try.ntmps114
  go_wp2_with (go_at_call 140; refine (isNaN_any _ _).mono ?_; rintro e w1 ⟨rfl,rfl⟩)
  go_ret;exact ⟨rfl,rfl⟩
 ·rw [if_neg h1]
  by_cases h2 : y < x
  ·rw [if_pos h2]
   go_enter Try.func114,Try.ntmps114
   go_wp2_with (go_at_call 140; refine (isNaN_any _ _).mono ?_; rintro e w1 ⟨rfl,rfl⟩)
   all_goals try (exfalso; omega)
   go_ret;exact ⟨rfl,rfl⟩
  ·rw [if_neg h2]
   go_enter Try.func114,Try.ntmps114
   go_wp2_with (go_at_call 140; refine (isNaN_any _ _).mono ?_; rintro e w1 ⟨rfl,rfl⟩)
   all_goals try (exfalso; omega)
   go_ret;exact ⟨rfl,rfl⟩
theorem place1_any (a b : Spn) (w : World) : Calls Try.prog 113 #[spnVal a,spnVal b] w fun e w'=>e = .returned (.int .i64 (cmpS a b)) ∧ Below w.heap.size w w':=by
 obtain ⟨af,al⟩:=a;obtain ⟨bf,bl⟩:=b;have hb : Below w.heap.size w ((w.alloc (.cells #[.int .i64 af,.int .i64 al] 41)).alloc (.cells #[.int .i64 bf,.int .i64 bl] 41)):=((Below.refl _ _).alloc (Nat.le_refl _) _).alloc (by simp) _;have HB:=hide hb;have HC:=hide (fun W0 : World=>compare_any af bf W0);unfold cmpS spnVal;simp only;generalize (if af < bf then (-1 : Int) else if bf < af then 1 else 0) = r at *;clear hb;go_enter Try.func113,Try.ntmps113
 go_wp2_with (go_at_call 114; refine ((unhide HC) _).mono ?_; rintro e w1 ⟨rfl,rfl⟩)
 go_ret;exact ⟨rfl,HB.out⟩
theorem len64_any (x : Int) (w : World) (h0 : 0 ≤ x) (h1 : x ≤ 255) : Calls Try.prog 167 #[.int .u64 x] w fun e w'=>(∃ v : Int,e = .returned (.int .i64 v)) ∧ w = w':=by
 go_enter Try.func167,Try.ntmps167
 go_wp2
 all_goals (go_ret; exact ⟨⟨_,rfl⟩,rfl⟩)
theorem len_any (x : Int) (w : World) (h0 : 0 ≤ x) (h1 : x ≤ 255) : Calls Try.prog 156 #[.int .u64 x] w fun e w'=>(∃ v : Int,e = .returned (.int .i64 v)) ∧ w = w':=by
 go_enter Try.func156,Try.ntmps156
 go_wp2_with (go_at_call 167; refine (len64_any x _ h0 h1).mono ?_; rintro e w1 ⟨⟨v,rfl⟩,rfl⟩)
 go_ret;exact ⟨⟨v,rfl⟩,rfl⟩
end Go.Proofs.Ytibpmogmeoappab
namespace Go.Proofs.Ytibpmogmeoappab
open Go.RowKit Go.Shelf
attribute [local go_sem] Oper.semAt_some
theorem spns_atB {w : World} {A : Option Addr} {l : List Spn} (h : Spns w A l) {j : Nat} (hj : j < l.length) : ∃ b off,A = some ⟨b,off,none⟩ ∧ b < w.heap.size ∧ w.cell? ⟨b,off + j * 2,none⟩ = some (.int .i64 (spAt l j).First) ∧ w.cell? ⟨b,off + j * 2 + 1,none⟩ = some (.int .i64 (spAt l j).Last):=by
 obtain ⟨b,o,h1,h2,h3⟩:=cells_flat (k:=2) (fun x=>rfl) h hj (by omega);have e : spAt l j = l[j]:=by unfold spAt; rw [List.getD_eq_getElem?_getD,List.getElem?_eq_getElem hj]; rfl
 rw [e];exact ⟨b,o,h1,h2,h3 0 (by omega),h3 1 (by omega)⟩
def RetSpnRow (w : World) (l : List Spn) (e : Ending) (w' : World) : Prop:=∃ (G : Option Addr) (c : Nat),e = .returned (.slice G l.length c) ∧ Own w' w.heap.size 41 2 G l.length c (l.flatMap spnCells) ∧ Below w.heap.size w w'
theorem appendSeq_any (Bs len cap : Nat) (A : Option Addr) (l : List Spn) (w : World) (hl : l.length = len) (hlen : len ≤ 65536) (hcb : w.cell? ⟨Bs,0,none⟩ = some (.slice A len cap)) (hS : Spns w A l) :
 Calls Try.prog 154 #[.slice none 0 0,.func (.func 139) #[] #[.pointer (some ⟨Bs,0,none⟩)]] w (RetSpnRow w l):=by
 obtain ⟨i0,hi,hz0,hz1,hz2⟩:=info_parts Try.infoSpn;have hBs:=World.block_lt_of_cell? w _ hcb;simp only at hBs;refine (callsIn_wide (n:=6)).1 ?_;refine callsIn_of_wp_marks Try.func154 rfl trivial ?_ rfl;simp only [Try.ntmps154,List.size_toArray,List.length_cons,List.length_nil,Nat.reduceAdd,Nat.reduceSub,Array.replicate_succ,Array.replicate_zero,List.push_toArray,List.append_toArray,List.nil_append,List.cons_append]
 gi_wp2
 have bO:=Boxed.new w 32 (.slice none 0 0);have hB0 : Below w.heap.size w (w.alloc (.cells #[.slice none 0 0] 32)):=(Below.refl _ w).alloc (Nat.le_refl _) _
 refine wpIn_rangeFunc_ownH rfl (by omega) (gf:=139) (lb:=#[.pointer (some ⟨Bs,0,none⟩)]) rfl trivial (enters_of Try.func139 (by kernel_rfl) rfl)
  (values_stops Fence.wide (6 - 1) trivial rfl (by omega) Bs w.heap.size len cap A l hl (by omega) (w.alloc (.cells #[.slice none 0 0] 32)) hBs (by simp) (keepC hB0 hcb) (fun j hj => by
    obtain ⟨b,off,e,hb,c0,c1⟩:=spns_atB hS (j:=j) (by omega)
    exact ⟨b,off,e,hb,keepC hB0 c0,keepC hB0 c1⟩)) belowK_t (belowK_b (by simp)) (Below.refl _ _) (fun _=>rfl)
  (fun pre W'=>(∃ v,Boxed W' w.heap.size 32 v ∧ W'.ownsRow w.heap.size 41 2 v pre.length (pre.flatMap spnCells) ∧ True) ∧ Below w.heap.size w W')
  (fun _ _ _=>False)
  (OwnFrom.and (Own.from (holdsRow_own w.heap.size w.heap.size 32 41 2 (fun pre : List Spn=>pre.length) (fun pre : List Spn=>pre.flatMap spnCells) (fun _ _=>True)) _) (ownFrom_below (Nat.le_refl _) (by simp)))
  (fun _ _ _ _ _ hs _ _=>hs)
  ⟨⟨_,bO,World.ownsRow_nil _ _ _ _,trivial⟩,hB0⟩
  (fun x a' W'=>∃ Bx,w.heap.size < Bx ∧ Blk W' Bx 41 (spnCells x) ∧ a' = { tmps:=#[.slice none 0 0,.func (.func 139) #[] #[.pointer (some ⟨Bs,0,none⟩)],.pointer (some ⟨w.heap.size,0,none⟩),undef,.slice none 0 0,.pointer (some ⟨Bx,0,none⟩),.func (.func 139) #[] #[.pointer (some ⟨Bs,0,none⟩)],spnVal x,undef,undef,undef,undef,undef],defers:=[] })
  (fun x a' _ X Y row hs hg hr=>by obtain ⟨Bx,e1,e2,e3⟩:=hs; exact ⟨Bx,e1,blk_own (β:=Unit) _ _ (fun _=>_) () X Y row e2 hg (fun r e=>(hr r e).2),e3⟩)
  ?assign ?body ?done ?stop
 case assign =>
  rintro lp pre x W' K ⟨⟨v,hv,hrow,-⟩,hB⟩ hK;have hlt : w.heap.size < W'.heap.size:=(Array.getElem?_eq_some_iff.1 (show W'.heap[w.heap.size]? = _ from hv)).1;simp only [spnVal]
  gi_wp2
  exact hK _ _ ((KeepsOthers.alloc _ _).from _) ((Below.refl _ W').alloc (by omega) _) ⟨⟨v,hv.alloc _,hrow.alloc _,trivial⟩,hB.alloc hB.size _⟩ ⟨W'.heap.size,hlt,Blk.new W' _ _,rfl⟩
 case body =>
  rintro lp pre x a' W' hlw ⟨r,hr⟩ ⟨⟨v,hv,hrow,-⟩,hB⟩ ⟨Bx,hBx,bX,rfl⟩ hlt2;have hc:=hv.cell;have x0 : W'.cell? ⟨Bx,0,none⟩ = some (.int .i64 x.First):=(bX.cell 0).trans rfl;have x1 : W'.cell? ⟨Bx,1,none⟩ = some (.int .i64 x.Last):=(bX.cell 1).trans rfl;have hpl : pre.length < 65536:=by omega
  gi_wp2_with (gi_at_builtin; refine wpListIn_append_own _ rfl _ _ 32 rfl w.heap.size 41 i0 (.agg #[.int .i64 0,.int .i64 0]) 2 16 Try.underlying32 hi hz0 hz1 hz2 rfl (by decide) _ _ _ rfl (hrow.alloc _) ⟨W'.heap.size,0,none⟩ 1 1 (spnCells x) rfl rfl (fun j u hu=>by rw [Addr.add_lit,Nat.zero_add]; exact ((Blk.new W' 41 (spnCells x)).cell j).trans hu) (spn_one _) (by unfold maxLen; omega) (by omega) (by have:=hB.size; simp only [World.size_alloc]; omega) ?_; intro v' w1 hown' hgrow _; obtain ⟨g',cap',rfl⟩:=ownsRow_succ hown'; obtain ⟨hv1,hv2,hr2,hk2,hb2⟩:=hv.appended (by decide) hrow hB.size (Nat.le_refl _) hown' hgrow; have hc1:=hv1.cell; have hf1:=hv1.frozen)
  exact ⟨hk2.from _,hb2,⟨_,hv2,by rw [List.flatMap_append]; simpa using hr2,trivial⟩,hB.trans hb2⟩
 case done =>
  rintro D ys W' hD rfl ⟨⟨v,hv,hrow,-⟩,hB⟩ hK;have hc:=hv.cell
  gi_wp2
  refine ⟨by simp,.inl ⟨_,_,rfl,run_takeDeferred hK,?_⟩⟩
  obtain ⟨G,c,rfl⟩ : ∃ G c,v = .slice G ys.length c:=by
   rcases hrow.2 with ⟨e,h0⟩ | ⟨g,cap',cur,e,_⟩
   ·exact ⟨none,0,by rw [e,h0]⟩
   ·exact ⟨_,_,e⟩
  exact ⟨_,results_tmp rfl _ _ _,G,c,rfl,ownsRow_putObj hrow _ hK rfl,hB.trans (belowK_b (w:=w) (Nat.le_refl _) W' D _ _ (by simp at hD; omega) hK rfl rfl)⟩
 case stop =>
  rintro D c pre W' _ _ h _;exact h.elim
theorem collect_any (Bs len cap : Nat) (A : Option Addr) (l : List Spn) (w : World) (hl : l.length = len) (hlen : len ≤ 65536) (hcb : w.cell? ⟨Bs,0,none⟩ = some (.slice A len cap)) (hS : Spns w A l) :
 Calls Try.prog 137 #[.func (.func 139) #[] #[.pointer (some ⟨Bs,0,none⟩)]] w (RetSpnRow w l):=by
 have HC:=hide (appendSeq_any Bs len cap A l w hl hlen hcb hS);clear hl hlen hcb hS;go_enter Try.func137,Try.ntmps137
 go_wp2_with fail;refine (unhide HC).mono ?_;rintro e w1 ⟨G,c,rfl,hO,hE⟩;have HO:=hide hO;have HE:=hide hE;clear HC hO hE;go_wp2_with fail;go_ret;exact ⟨G,c,rfl,HO.out,HE.out⟩
end Go.Proofs.Ytibpmogmeoappab
