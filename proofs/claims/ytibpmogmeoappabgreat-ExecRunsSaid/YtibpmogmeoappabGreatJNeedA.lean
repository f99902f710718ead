/- Walks: slices.Backward over passes. -/
import Derived.RangeFuncNested
import Derived.RangeFuncBound
import Derived.RangeFuncCalls
import Derived.RangeFuncLeaves
import Derived.Shelf.Abstract
import Derived.Shelf.RegionOpen
import Derived.WalkKit
import Derived.OwnWalkIn
import Derived.TacticsInMore
import Derived.LoopNIn
import Derived.LoopIn
import Derived.Test.YtibpmogmeoappabGreatJFrmM
import Derived.Test.YtibpmogmeoappabGreatJPlain
set_option maxRecDepth 100000
set_option maxHeartbeats 4000000
namespace Go.Proofs.YtibpmogmeoappabGreat
open Go.RowKit Go.Shelf
attribute [local go_sem] Oper.semAt_some
structure PRow where
 p : Pas
 A : Option Addr
 m : Nat
 d : Nat
def PRow.val (r : PRow) : Value:=.agg #[.int .i64 r.p.Op,.int .i64 r.p.To,.int .i64 r.p.A,.int .i64 r.p.B,.int .i64 r.p.K,.slice r.A r.m r.d]
def PCells (W : World) (b q : Nat) (r : PRow) : Prop :=
 W.cell? ⟨b,q,none⟩ = some (.int .i64 r.p.Op) ∧ W.cell? ⟨b,q + 1,none⟩ = some (.int .i64 r.p.To) ∧ W.cell? ⟨b,q + 2,none⟩ = some (.int .i64 r.p.A) ∧
  W.cell? ⟨b,q + 3,none⟩ = some (.int .i64 r.p.B) ∧ W.cell? ⟨b,q + 4,none⟩ = some (.int .i64 r.p.K) ∧ W.cell? ⟨b,q + 5,none⟩ = some (.slice r.A r.m r.d)
theorem PCells.below {n₀ : Nat} {W W' : World} {b q : Nat} {r : PRow} (h : PCells W b q r) (hb : Below n₀ W W') (hlt : b < n₀) : PCells W' b q r :=
 ⟨(hb.cell (p := ⟨b, q, none⟩) hlt).trans h.1, (hb.cell (p := ⟨b, q + 1, none⟩) hlt).trans h.2.1, (hb.cell (p := ⟨b, q + 2, none⟩) hlt).trans h.2.2.1, (hb.cell (p := ⟨b, q + 3, none⟩) hlt).trans h.2.2.2.1,
   (hb.cell (p:=⟨b,q + 4,none⟩) hlt).trans h.2.2.2.2.1,(hb.cell (p:=⟨b,q + 5,none⟩) hlt).trans h.2.2.2.2.2⟩
def bseq (f : Nat → PRow) (len j : Nat) : List (Nat × PRow):=(List.range (len - j)).map (fun t=>(len - 1 - t,f (len - 1 - t)))
theorem bseq_all (f : Nat → PRow) (len : Nat) : bseq f len len = []:=by simp [bseq]
theorem bseq_succ (f : Nat → PRow) {len j : Nat} (h : j < len) : bseq f len j = bseq f len (j + 1) ++ [(j,f j)]:=by
 have e : len - j = (len - (j + 1)) + 1:=by omega
 unfold bseq;rw [e,List.range_succ,List.map_append];have e2 : len - 1 - (len - (j + 1)) = j:=by omega
 simp only [List.map_cons,List.map_nil,e2]
theorem bseq_length (f : Nat → PRow) (len j : Nat) : (bseq f len j).length = len - j:=by simp [bseq]
theorem back1_in (F : Fence) (n : Nat) (h8 : F.fn 50) (hro : F.round = none) (hn : 1 ≤ n) (l Bs n₀ b off len cap : Nat) (f : Nat → PRow) (hreach : len ≤ 12) (hb : b < n₀) (J Jx : List (Nat × PRow) → World → Prop)
 (hY : ∀ pre x W, J pre W → pre.length < len → YieldAt F (n - 1) Tryz.prog l #[.int .i64 (x.1 : Int), x.2.val] W fun e W' =>
   (e = .returned (.bool true) ∧ J (pre ++ [x]) W' ∧ Below n₀ W W') ∨ (e = .returned (.bool false) ∧ Jx (pre ++ [x]) W'))
 (W : World) (hBs : W.cell? ⟨Bs,0,none⟩ = some (.slice (some ⟨b,off,none⟩) len cap)) (hBn : Bs < n₀)
 (hc : ∀ j,j < len → PCells W b (off + j * 6) (f j)) (h0 : J [] W) :
 CallsIn F n Tryz.prog 50 #[.func (.yield l) #[] #[],.pointer (some ⟨Bs,0,none⟩)] W fun e W'=>(∃ v,e = .returned v) ∧
  ((∃ ys,ys = bseq f len 0 ∧ J ys W') ∨ (∃ pre,(∃ j,j < len ∧ pre = bseq f len j) ∧ Jx pre W')):=by
 refine callsIn_of_wp Tryz.func50 rfl h8 ?_ hro;simp only [Tryz.ntmps50,List.size_toArray,List.length_cons,List.length_nil,Nat.reduceAdd,Nat.reduceSub,Array.replicate_succ,Array.replicate_zero,List.push_toArray,List.append_toArray,List.nil_append,List.cons_append]
 gi_wp2
 gi_loopw [3] (fun i wr=>∃ j : Nat,j ≤ len ∧ i = .int .i64 ((j : Int) - 1) ∧ J (bseq f len j) wr ∧ Below n₀ W wr)
  (fun i _=>(intOf i + 1).toNat)
 case atStart=>exact ⟨len,Nat.le_refl _,by simp,by rw [bseq_all]; exact h0,Below.refl _ _⟩
 case round =>
  obtain ⟨k,hk,rfl,hJs,hnx⟩:=hrel
  cases k with
  | zero =>
    gi_wp2
    go_end0
    exact ⟨⟨_,rfl⟩,.inl ⟨_,rfl,hJs⟩⟩
  | succ j =>
    have hlt : j < len:=by omega
    have ei : (((j + 1 : Nat) : Int) - 1) = (j : Int):=by omega
    rw [ei] at *;obtain ⟨c0,c1,c2,c3,c4,c5⟩:=(hc j hlt).below hnx hb;have cb:=(hnx.cell (p:=⟨Bs,0,none⟩) hBn).trans hBs;obtain ⟨fn,tmps,assign,body,hy,hR⟩:=hY _ (j,f j) wr hJs (by rw [bseq_length]; omega);simp only [PRow.val] at hy
    gi_wp2
    refine hR.mono ?_;rintro e W3 (⟨rfl,hJ3,hk3⟩ | ⟨rfl,hJx3⟩)
    ·gi_wp2
     go_roundw
     case rel=>exact ⟨j,by omega,by simp,by rw [bseq_succ f hlt]; exact hJ3,hnx.trans hk3⟩
     case measure=>simp [intOf]
    ·gi_wp2
     refine bodyPost_ret (results_none rfl _ _ _) rfl ?_;exact ⟨⟨_,rfl⟩,.inr ⟨_,⟨j,hlt,(bseq_succ f hlt).symm⟩,hJx3⟩⟩
theorem backward_in (F : Fence) (n : Nat) (h6 : F.fn 31) (hro : F.round = none) (a : Option Addr) (len cap : Nat) (w : World) :
 CallsIn F n Tryz.prog 31 #[.slice a len cap] w fun e w'=>e = .returned (.func (.func 50) #[] #[.pointer (some ⟨w.heap.size,0,none⟩)]) ∧ w' = w.alloc (.cells #[.slice a len cap] 22):=by
 refine callsIn_of_wp Tryz.func31 rfl h6 ?_ hro;simp only [Tryz.ntmps31,List.size_toArray,List.length_cons,List.length_nil,Nat.reduceAdd,Nat.reduceSub,Array.replicate_succ,Array.replicate_zero,List.push_toArray,List.append_toArray,List.nil_append,List.cons_append]
 gi_wp2
 go_ret;exact ⟨rfl,rfl⟩
theorem backward_stops (F : Fence) (n : Nat) (h8 : F.fn 50) (hro : F.round = none) (hn : 1 ≤ n) (Bs n₀ b off len cap : Nat) (f : Nat → PRow) (hreach : len ≤ 12) (w : World) (hBs : Bs < n₀) (hb : b < n₀) (hn₀ : n₀ ≤ w.heap.size)
 (hcb : w.cell? ⟨Bs,0,none⟩ = some (.slice (some ⟨b,off,none⟩) len cap)) (hc : ∀ j,j < len → PCells w b (off + j * 6) (f j)) :
 SeqStopsK F n Tryz.prog 50 #[.pointer (some ⟨Bs,0,none⟩)] (fun x : Nat × PRow=>#[Value.int .i64 (x.1 : Int),x.2.val]) (Below n₀) (fun ys=>ys = bseq f len 0)
  (fun pre=>∃ j,j < len ∧ pre = bseq f len j) len w:=fun l J Jx W hW _ _ hY h0=>by
 have hW':=hW.mono hn₀;exact back1_in F n h8 hro hn l Bs n₀ b off len cap f hreach hb J Jx hY W ((hW'.cell (p:=⟨Bs,0,none⟩) hBs).trans hcb) hBs (fun j hj=>(hc j hj).below hW' hb) h0
end Go.Proofs.YtibpmogmeoappabGreat
namespace Go.Proofs.YtibpmogmeoappabGreat
open Go.RowKit Go.Shelf
attribute [local go_sem] Oper.semAt_some
theorem Passes.rows {w : World} {A : Option Addr} {ps : List Pas} (h : Passes w A ps) (hn : 0 < ps.length) :
 ∃ b o,∃ f : Nat → PRow,A = some ⟨b,o,none⟩ ∧ b < w.heap.size ∧ ∀ j,j < ps.length → PCells w b (o + j * 6) (f j) ∧ (f j).p = ps.getD j noPas ∧ (f j).p.L.length = (f j).m ∧ Lamps w (f j).A (f j).p.L ∧ (f j).m ≤ 9223372036854775807:=by
 obtain ⟨b,o,LA,m,d,hA,hlt,-⟩:=h 0 hn
 have : ∀ j,∃ r : PRow,j < ps.length → PCells w b (o + j * 6) r ∧ r.p = ps.getD j noPas ∧ r.p.L.length = r.m ∧ Lamps w r.A r.p.L ∧ r.m ≤ 9223372036854775807:=fun j=>by
  by_cases hj : j < ps.length
  ·obtain ⟨b',o',LA,m,d,p,hA',-,hp,c0,c1,c2,c3,c4,c5,h1,h2,h3⟩:=h.at_ j hj
   rw [hA] at hA';obtain ⟨rfl,rfl⟩ : b = b' ∧ o = o':=by simpa using hA'
   exact ⟨⟨p,LA,m,d⟩,fun _=>⟨⟨c0,c1,c2,c3,c4,c5⟩,hp.symm,h1,h2,h3⟩⟩
  ·exact ⟨⟨noPas,none,0,0⟩,fun h=>absurd h hj⟩
 obtain ⟨f,hf⟩:=Classical.axiomOfChoice this;exact ⟨b,o,f,hA,hlt,fun j hj=>hf j hj⟩
theorem writerTo_eq {f : Frm} {s : Int} {j : Nat} : ∀ {k : Nat},j < k → (f.pas j).To = s → (∀ i,j < i → i < k → (f.pas i).To ≠ s) → writerTo f k s = j
 | 0,h,_,_=>by omega
 | k + 1, h, h1, h2 => by
   simp only [writerTo];by_cases e : j = k
   ·subst e; rw [if_pos h1]
   ·rw [if_neg (h2 k (by omega) (by omega))]
    exact writerTo_eq (by omega) h1 (fun i a b=>h2 i a (by omega))
theorem blk_own {β : Type} (B : Nat) (t : TypeId) (f : β → List Value) : Go.Own (fun s W=>Blk W B t (f s)):=fun s X Y row hs hg hrow =>
 (hg.block B hs.lt (fun e'=>by obtain ⟨o,ho,hc⟩:=hrow B e'.symm; rw [show X.heap[B]? = _ from hs] at ho; cases ho; cases hc)).trans hs
def RetIE (w : World) (v z : Int) (e : Ending) (w' : World) : Prop:=e = .returned (.tuple #[.int .i64 v,.int .i64 z]) ∧ Below w.heap.size w w'
theorem mem_bseq {f : Nat → PRow} {len j i : Nat} (h1 : j ≤ i) (h2 : i < len) : (i,f i) ∈ bseq f len j:=by
 unfold bseq;rw [List.mem_map];exact ⟨len - 1 - i,by rw [List.mem_range]; omega,by rw [show len - 1 - (len - 1 - i) = i from by omega]⟩
theorem last_ok (W H S O : Int) (PA : Option Addr) (n c : Nat) (ps : List Pas) (w : World) (hn : ps.length = n) (hP : Passes w PA ps) (hf : FrmOk ⟨W,H,S,O,ps⟩) :
 Calls Tryz.prog 11 #[.agg #[.int .i64 W,.int .i64 H,.int .i64 S,.int .i64 O,.slice PA n c]] w (RetIE w (frLast ⟨W,H,S,O,ps⟩) 0):=by
 have hmany:=hf.many;have hla:=hf.last;simp only [hn] at hmany hla;have hwt:=writer_to (f:=⟨W,H,S,O,ps⟩) (k:=ps.length) (s:=O) hla.1;have hwe : ∀ j,j < n → (ps.getD j noPas).To = O → (∀ i,j < i → i < n → (ps.getD i noPas).To ≠ O) → frLast ⟨W,H,S,O,ps⟩ = j:=fun j h1 h2 h3=>writerTo_eq (f:=⟨W,H,S,O,ps⟩) (by simp only [hn]; exact h1) h2 (fun i a b=>h3 i a (by simp only [hn] at b; exact b));obtain ⟨lst,hlst⟩ : ∃ l,l = frLast ⟨W,H,S,O,ps⟩:=⟨_,rfl⟩;have hwt' : (ps.getD lst.toNat noPas).To = O:=by rw [hlst]; exact hwt
 rw [← hlst] at hla hwe ⊢;clear hlst hwt;have hck:=fun (W0 : World) (h1 : Passes W0 PA ps)=>frameCheck_any W H S O PA n c ps W0 hn h1;rw [frErr_zero.2 hf] at hck;obtain ⟨b,o,f,rfl,hlt,hrs⟩:=hP.rows (by omega);rw [hn] at hrs;refine (callsIn_wide (n:=6)).1 ?_;refine callsIn_of_wp_marks Tryz.func11 rfl trivial ?_ rfl;simp only [Tryz.ntmps11,List.size_toArray,List.length_cons,List.length_nil,Nat.reduceAdd,Nat.reduceSub,Array.replicate_succ,Array.replicate_zero,List.push_toArray,List.append_toArray,List.nil_append,List.cons_append];have hb0:=(((Below.refl w.heap.size w).alloc (Nat.le_refl _) (.cells #[.int .i64 W,.int .i64 H,.int .i64 S,.int .i64 O,.slice (some ⟨b,o,none⟩) n c] 24)).alloc (by simp) (.cells #[.int .i64 0] 3)).alloc (by simp; omega) (.cells #[.int .i64 0] 30);have hfb:=((Blk.new w 24 (frmCells W H S O (some ⟨b,o,none⟩) n c)).alloc (.cells #[.int .i64 0] 3)).alloc (.cells #[.int .i64 0] 30);have hr1 : Blk (((w.alloc (.cells (frmCells W H S O (some ⟨b,o,none⟩) n c).toArray 24)).alloc (.cells #[.int .i64 0] 3)).alloc (.cells #[.int .i64 0] 30)) (w.heap.size + 1) 3 [.int .i64 0]:=(Blk.newE (t:=3) (cs:=[.int .i64 0]) (by simp)).alloc _;have hr2 : Blk (((w.alloc (.cells (frmCells W H S O (some ⟨b,o,none⟩) n c).toArray 24)).alloc (.cells #[.int .i64 0] 3)).alloc (.cells #[.int .i64 0] 30)) (w.heap.size + 2) 30 [.int .i64 0]:=Blk.newE (by simp);have hsz : (((w.alloc (.cells #[.int .i64 W,.int .i64 H,.int .i64 S,.int .i64 O,.slice (some ⟨b,o,none⟩) n c] 24)).alloc (.cells #[.int .i64 0] 3)).alloc (.cells #[.int .i64 0] 30)).heap.size = w.heap.size + 3:=by simp
 have HCK:=hide (hck _ (hP.keep hb0));have HB:=hide hb0;have HFB:=hide hfb;have HR1:=hide hr1;have HR2:=hide hr2;have HSZ:=hide hsz;obtain ⟨x,q0,q1,q2,q3,q4⟩:=FrmBox.cells (show FrmBox _ _ W H S O _ n c from hfb);clear hck hb0 hfb hr1 hr2 hsz
 gi_wp2_with (first
  | (refine ⟨trivial,?_⟩; gi_at_call 30; refine (callsIn_wide.2 (unhide HCK)).mono ?_; rintro e w1 ⟨rfl,hE1⟩; have hfb1:=Blk.keep HFB.out hE1; obtain ⟨y,p0,p1,p2,p3,p4⟩:=FrmBox.cells (show FrmBox _ _ W H S O _ n c from hfb1))
  | (refine ⟨trivial,?_⟩; gi_at_call 31; refine (backward_in _ _ trivial rfl _ _ _ _).mono ?_; rintro e w2 ⟨rfl,rfl⟩))
 have hE2:=hE1.trans (((Below.refl _ w1).alloc (Nat.le_refl _) (.cells #[.slice (some ⟨b,o,none⟩) n c] 22)).mono hE1.size);have hs1:=hE1.size;rw [HSZ.out] at hs1;have bN:=Blk.new w1 22 [.slice (some ⟨b,o,none⟩) n c];have hsz : (w1.alloc (.cells #[.slice (some ⟨b,o,none⟩) n c] 22)).heap.size = w1.heap.size + 1:=by simp
 have hFB:=Blk.keep HFB.out hE2;have hR1:=Blk.keep HR1.out hE2;have hR2:=Blk.keep HR2.out hE2;have hB0:=HB.out.trans (hE2.mono HB.out.size);obtain ⟨W0,hW0⟩ : ∃ W0,w1.alloc (.cells #[.slice (some ⟨b,o,none⟩) n c] 22) = W0:=⟨_,rfl⟩;rw [show w1.alloc (.cells [Value.slice (some ⟨b,o,none⟩) n c].toArray 22) = W0 from hW0] at bN;rw [hW0] at hsz hFB hR1 hR2 hB0 ⊢;have hrs0 : ∀ j,j < n → PCells W0 b (o + j * 6) (f j):=fun j hj=>((hrs j hj).1).below hB0 hlt;have hp : ∀ j,j < n → (f j).p = ps.getD j noPas:=fun j hj=>(hrs j hj).2.1;clear hW0 hE2 HB HFB HR1 HR2 HSZ hrs hfb1 y p0 p1 p2 p3 p4 x q0 q1 q2 q3 q4 hE1 HCK
 refine wpIn_rangeFunc_ownH rfl (by omega) (gf:=50) (lb:=#[.pointer (some ⟨w1.heap.size,0,none⟩)]) rfl trivial (enters_of Tryz.func50 (by kernel_rfl) rfl)
  (backward_stops Fence.wide (6 - 1) trivial rfl (by omega) w1.heap.size W0.heap.size b o n c f hmany.2 W0 (by omega) (by have:=hB0.size; omega) (Nat.le_refl _) (by rw [bN.cell]; rfl) hrs0) belowK_t (belowK_b (by omega)) (Below.refl _ _) (fun _=>rfl)
  (fun pre W'=>((∀ x ∈ pre,x.2.p.To ≠ O) ∧ (Blk W' w.heap.size 24 (frmCells W H S O (some ⟨b,o,none⟩) n c) ∧ (Blk W' (w.heap.size + 1) 3 [.int .i64 0] ∧ Blk W' (w.heap.size + 2) 30 [.int .i64 0]))) ∧ (Below w.heap.size w W' ∧ Below W0.heap.size W0 W'))
  (fun k pre W'=>(k = .ret ∧ ∃ ini last,pre = ini ++ [last] ∧ (∀ x ∈ ini,x.2.p.To ≠ O) ∧ last.2.p.To = O ∧ Blk W' (w.heap.size + 1) 3 [.int .i64 (last.1 : Int)] ∧ Blk W' (w.heap.size + 2) 30 [.int .i64 0]) ∧ Below w.heap.size w W')
  (OwnFrom.and (OwnFrom.and (ownFrom_pure _ _) (OwnFrom.and (Own.from (blk_own _ _ _) _) (OwnFrom.and (Own.from (blk_own _ _ _) _) (Own.from (blk_own _ _ _) _)))) (OwnFrom.and (ownFrom_below (Nat.le_refl _) (by omega)) (ownFrom_below (Nat.le_refl _) (by omega))))
  (fun k=>OwnFrom.and (Own.from (fun s X Y row hs hg hr=>by obtain ⟨hc,ini,last,e1,e2,e3,e4,e5⟩:=hs; exact ⟨hc,ini,last,e1,e2,e3,blk_own (β:=Unit) _ _ (fun _=>_) () X Y row e4 hg hr,blk_own (β:=Unit) _ _ (fun _=>_) () X Y row e5 hg hr⟩) _) (ownFrom_below (Nat.le_refl _) (by omega)))
  ⟨⟨by simp,hFB,hR1,hR2⟩,hB0,Below.refl _ _⟩
  (fun x a' W'=>∃ Bx,w.heap.size + 2 < Bx ∧ Blk W' Bx 72 (passCells x.2.p x.2.A x.2.m x.2.d) ∧ a' = { tmps:=#[.agg #[.int .i64 W,.int .i64 H,.int .i64 S,.int .i64 O,.slice (some ⟨b,o,none⟩) n c],.pointer (some ⟨w.heap.size,0,none⟩),.pointer (some ⟨w.heap.size + 1,0,none⟩),.pointer (some ⟨w.heap.size + 1 + 1,0,none⟩),.int .i64 0,.int .i64 (x.1 : Int),.pointer (some ⟨Bx,0,none⟩),.agg #[.int .i64 W,.int .i64 H,.int .i64 S,.int .i64 O,.slice (some ⟨b,o,none⟩) n c],.int .i64 0,.int .i64 0,.bool false,undef,.pointer (some ⟨w.heap.size,4,none⟩),.slice (some ⟨b,o,none⟩) n c,.func (.func 50) #[] #[.pointer (some ⟨w1.heap.size,0,none⟩)],.int .i64 (x.1 : Int),x.2.val,undef,undef,undef,undef,undef,undef],defers:=[] })
  (fun x a' _ X Y row hs hg hr=>by obtain ⟨Bx,e1,e2,e3⟩:=hs; exact ⟨Bx,e1,blk_own (β:=Unit) _ _ (fun _=>_) () X Y row e2 hg (fun r e=>(hr r e).2),e3⟩)
  ?assign ?body ?done ?stop
 case assign =>
  rintro l pre x W' K ⟨⟨hp1,hF1,hr1,hr2⟩,hB1,hC1⟩ hK;have hs2:=hC1.size;simp only [PRow.val]
  gi_wp2
  exact hK _ _ ((KeepsOthers.alloc _ _).from _) ((Below.refl _ W').alloc (by omega) _) ⟨⟨hp1,hF1.alloc _,hr1.alloc _,hr2.alloc _⟩,hB1.alloc hB1.size _,hC1.alloc hC1.size _⟩ ⟨W'.heap.size,hr2.lt,Blk.new W' _ _,rfl⟩
 case body =>
  rintro l pre x a' W' hl ⟨r,hr⟩ ⟨⟨hp1,hF1,hr1,hr2⟩,hB1,hC1⟩ ⟨Bx,hBx,bX,rfl⟩ hlt2;obtain ⟨y,p0,p1,p2,p3,p4⟩:=FrmBox.cells (show FrmBox _ _ W H S O _ n c from hF1);obtain ⟨y2,x0,x1,x2,x3,x4,x5⟩:=PasBox.cells (show PasBox _ _ x.2.p x.2.A x.2.m x.2.d from bX);have cr1:=Blk.cell hr1 0;have cr2:=Blk.cell hr2 0;have fr1:=Blk.frozen hr1 0;have fr2:=Blk.frozen hr2 0;simp only [List.getElem?_cons_zero] at cr1 cr2
  gi_wp2
  ·have hx : x.2.p.To = O:=by first | assumption | (apply eq_of_beq; assumption)
   exact ⟨((KeepsOthers.setCell _ _ _).from _).trans ((KeepsOthers.setCell _ _ _).from _),⟨rfl,pre,x,rfl,hp1,hx,(hr1.set_ 0 _).far (by simp) _,(hr2.far (by simp) _).set_ 0 _⟩,(hB1.setCell (p:=⟨w.heap.size + 1,0,none⟩) (by simp) _).setCell (p:=⟨w.heap.size + 1 + 1,0,none⟩) (by simp; omega) _⟩
  ·rename_i hx
   exact ⟨KeepsFrom.refl _ _,Below.refl _ _,⟨fun z hz=>(List.mem_append.1 hz).elim (hp1 z) (fun e e'=>by simp at e; subst e; simp [e'] at hx),hF1,hr1,hr2⟩,hB1,hC1⟩
 case done =>
  rintro D ys W' hD rfl ⟨⟨hp1,hF1,hr1,hr2⟩,hB1,hC1⟩ hK
  exact absurd hwt' (by
   have hj : lst.toNat < n:=by omega
   rw [← hp _ hj]
   exact hp1 _ (mem_bseq (Nat.zero_le _) hj))
 case stop =>
  rintro D k pre W' hD ⟨j,hj,rfl⟩ ⟨⟨rfl,ini,last,e1,e2,e3,hr1,hr2⟩,hB1⟩ hK
  gi_wp2
  refine ⟨by simp,.inl ⟨_,_,rfl,run_takeDeferred hK,?_⟩⟩;rw [bseq_succ f hj] at e1;obtain ⟨rfl,e5⟩:=List.append_inj' e1 rfl;obtain rfl : (j,f j) = last:=by simpa using e5
  obtain rfl : lst = (j : Int):=hwe j hj (by rw [← hp j hj]; exact e3) (fun i h1 h2=>by rw [← hp i h2]; exact e2 _ (mem_bseq h1 h2));have cr1:=Blk.cell hr1 0;have cr2:=Blk.cell hr2 0;simp only [List.getElem?_cons_zero] at cr1 cr2;have hc5:=cell_kept cr1 (grownBy_putObj' _ D (.deferred none)) (fun r e=>by cases e; exact ⟨_,hK,rfl⟩);have hc6:=cell_kept cr2 (grownBy_putObj' _ D (.deferred none)) (fun r e=>by cases e; exact ⟨_,hK,rfl⟩);refine ⟨.tuple #[.int .i64 (j : Int),.int .i64 0],?_,⟨rfl,hB1.trans (belowK_b (w:=w) (Nat.le_refl _) W' D _ _ (by have:=hB0.size; omega) hK rfl rfl)⟩⟩;simp [results,Tryz.results11,go_sem,hc5,hc6]
theorem last_any (W H S O : Int) (PA : Option Addr) (n c : Nat) (ps : List Pas) (w : World) (hn : ps.length = n) (hP : Passes w PA ps) :
 Calls Tryz.prog 11 #[.agg #[.int .i64 W,.int .i64 H,.int .i64 S,.int .i64 O,.slice PA n c]] w (RetIE w (lastAns ⟨W,H,S,O,ps⟩) (frErr ⟨W,H,S,O,ps⟩)):=by
 by_cases he : frErr ⟨W,H,S,O,ps⟩ = 0
 ·have:=last_ok W H S O PA n c ps w hn hP (frErr_zero.1 he)
  unfold lastAns;rw [if_pos he,he];exact this
 ·have hc:=fun (W0 : World) (h1 : Passes W0 PA ps)=>frameCheck_any W H S O PA n c ps W0 hn h1
  have HLA:=hide (show lastAns ⟨W,H,S,O,ps⟩ = 0 from if_neg he);generalize lastAns ⟨W,H,S,O,ps⟩ = la at HLA ⊢;generalize frErr ⟨W,H,S,O,ps⟩ = er at *;have hb0:=(((Below.refl w.heap.size w).alloc (Nat.le_refl _) (.cells #[.int .i64 W,.int .i64 H,.int .i64 S,.int .i64 O,.slice PA n c] 24)).alloc (by simp) (.cells #[.int .i64 0] 3)).alloc (by simp; omega) (.cells #[.int .i64 0] 30);have hr1 : Blk (((w.alloc (.cells (frmCells W H S O PA n c).toArray 24)).alloc (.cells #[.int .i64 0] 3)).alloc (.cells #[.int .i64 0] 30)) (w.heap.size + 1) 3 [.int .i64 0]:=(Blk.newE (t:=3) (cs:=[.int .i64 0]) (by simp)).alloc _;have hr2 : Blk (((w.alloc (.cells (frmCells W H S O PA n c).toArray 24)).alloc (.cells #[.int .i64 0] 3)).alloc (.cells #[.int .i64 0] 30)) (w.heap.size + 2) 30 [.int .i64 0]:=Blk.newE (by simp);have hfb:=((Blk.new w 24 (frmCells W H S O PA n c)).alloc (.cells #[.int .i64 0] 3)).alloc (.cells #[.int .i64 0] 30);obtain ⟨x,q0,q1,q2,q3,q4⟩:=FrmBox.cells (show FrmBox _ _ W H S O _ n c from hfb);have HCK:=hide (hc _ (hP.keep hb0));have HB:=hide hb0;have HR1:=hide hr1;have HR2:=hide hr2;clear hc hb0 hr1 hr2 hfb hn hP;go_enter Tryz.func11,Tryz.ntmps11
  go_wp2_with fail;refine (unhide HCK).mono ?_;rintro e w1 ⟨rfl,hE⟩;have hR1:=Blk.keep HR1.out hE;have hR2:=Blk.keep HR2.out hE;have cr1:=Blk.cell hR1 0;have cr2:=Blk.cell hR2 0;have fr1:=Blk.frozen hR1 0;have fr2:=Blk.frozen hR2 0;simp only [List.getElem?_cons_zero] at cr1 cr2;have HRR1:=hide hR1;have HRR2:=hide hR2;have HBE:=hide (HB.out.trans (hE.mono HB.out.size));clear hR1 hR2 hE HB HR1 HR2 HCK;go_wp2_with fail;have hz1:=Blk.cell (Blk.far (Blk.set_ HRR1.out 0 (.int .i64 0)) (p:=⟨w.heap.size + 2,0,none⟩) (by simp) (.int .i64 er)) 0;have hz2:=Blk.cell (Blk.set_ (Blk.far HRR2.out (p:=⟨w.heap.size + 1,0,none⟩) (by simp) (.int .i64 0)) 0 (.int .i64 er)) 0;simp only [List.getElem?_cons_zero,List.set_cons_zero] at hz1 hz2;refine bodyPost_ret (v:=.tuple #[.int .i64 0,.int .i64 er]) ?_ rfl ?_
  ·simp [results,Tryz.results11,go_sem,hz1,hz2]
  ·refine ⟨by rw [HLA.out],?_⟩
   exact (HBE.out.setCell (p:=⟨w.heap.size + 1,0,none⟩) (by simp) _).setCell (p:=⟨w.heap.size + 1 + 1,0,none⟩) (by simp; omega) _
end Go.Proofs.YtibpmogmeoappabGreat
