/- Walks: the rules of two numbers, Two, and their reference. -/
import Derived.Test.YtibpmogmeoappabGreatJImgA
import Derived.Test.YtibpmogmeoappabGreatJMem
import Derived.Laws.EntriesVeiled
set_option maxRecDepth 100000
set_option maxHeartbeats 600000
namespace Go.Proofs.YtibpmogmeoappabGreat
open Go.RowKit
def ruleMap : List (Int × Value):=[(4,.func (.func 94) #[] #[]),(5,.func (.func 95) #[] #[]),(6,.func (.func 96) #[] #[]),(7,.func (.func 97) #[] #[])]
theorem imap_new (w : World) : IMap (w.alloc (.map #[] 0)) w.heap.size []:=⟨#[],0,by show (w.heap.push _)[w.heap.size]? = _; simp,rfl⟩
theorem rules_any (w : World) :
 Calls Tryz.prog 74 #[] w fun e w'=>e = .returned (.map (some w.heap.size)) ∧ IMap w' w.heap.size ruleMap ∧ Below w.heap.size w w':=by
 have hmm:=@run_makeMap Tryz.prog;have m0:=imap_new w;have u1:=run_mapUpdate_ints Tryz.underlying135 Tryz.underlying3 m0 4 (.func (.func 94) #[] #[]) rfl;have m1:=m0.put 4 (.func (.func 94) #[] #[]);have u2:=run_mapUpdate_ints Tryz.underlying135 Tryz.underlying3 m1 5 (.func (.func 95) #[] #[]) rfl;have m2:=m1.put 5 (.func (.func 95) #[] #[]);have u3:=run_mapUpdate_ints Tryz.underlying135 Tryz.underlying3 m2 6 (.func (.func 96) #[] #[]) rfl;have m3:=m2.put 6 (.func (.func 96) #[] #[]);have u4:=run_mapUpdate_ints Tryz.underlying135 Tryz.underlying3 m3 7 (.func (.func 97) #[] #[]) rfl;have m4:=m3.put 7 (.func (.func 97) #[] #[]);have hb0 : Below w.heap.size w (w.alloc (.map #[] 0)):=(Below.refl w.heap.size w).alloc (Nat.le_refl _) _;have HB:=hide (Below.mapPut (Below.mapPut (Below.mapPut (Below.mapPut hb0 (Nat.le_refl _) 4 (.func (.func 94) #[] #[])) (Nat.le_refl _) 5 (.func (.func 95) #[] #[])) (Nat.le_refl _) 6 (.func (.func 96) #[] #[])) (Nat.le_refl _) 7 (.func (.func 97) #[] #[]));clear hb0;have M4:=hide m4;clear m0 m1 m2 m3 m4;go_enter Tryz.func74,Tryz.ntmps74
 go_wp2_with fail;go_ret;exact ⟨rfl,M4.out,HB.out⟩
theorem rule_of {op : Int} (h : 4 ≤ op ∧ op ≤ 7) : ∃ g : FuncId,lookI ruleMap op = some (.func (.func g) #[] #[]) ∧
 (∀ args w,(callFunc g args).run Tryz.prog w = .ok (.enter g args) w) ∧
 ∀ (x y : Int) (w : World),0 ≤ x → x ≤ 65535 → 0 ≤ y → y ≤ 65535 → Calls Tryz.prog g #[.int .i64 x,.int .i64 y] w fun e w'=>e = .returned (.int .i64 (twoNum op x y)) ∧ w = w':=by
 obtain h | h | h | h : op = 4 ∨ op = 5 ∨ op = 6 ∨ op = 7:=by omega
 ·subst h
  refine ⟨_,rfl,enters_of Tryz.func94 (by kernel_rfl) rfl,?_⟩;intro x y w h1 h2 h3 h4;have hm : (if 65535 < x + y then (65535 : Int) else x + y) = min 65535 (x + y):=by omega
  go_enter Tryz.func94,Tryz.ntmps94
  go_wp2_with fail;go_ret;exact ⟨ret_int rfl,rfl⟩
 ·subst h
  refine ⟨_,rfl,enters_of Tryz.func95 (by kernel_rfl) rfl,?_⟩;intro x y w h1 h2 h3 h4;have hm : (if x - y < 0 then (0 : Int) else x - y) = max 0 (x - y):=by omega
  go_enter Tryz.func95,Tryz.ntmps95
  go_wp2_with fail;go_ret;exact ⟨ret_int rfl,rfl⟩
 ·subst h
  refine ⟨_,rfl,enters_of Tryz.func96 (by kernel_rfl) rfl,?_⟩;intro x y w h1 h2 h3 h4;have hm0:=Int.mul_nonneg h1 h3;have hm1 : x * y ≤ 65535 * 65535:=Int.mul_le_mul h2 h4 h3 (by omega);have hd1 : x * y / 65535 ≤ x * y:=Int.ediv_le_self _ hm0;go_enter Tryz.func96,Tryz.ntmps96
  go_wp2_with fail;go_ret;exact ⟨ret_int rfl,rfl⟩
 ·subst h
  refine ⟨_,rfl,enters_of Tryz.func97 (by kernel_rfl) rfl,?_⟩;intro x y w h1 h2 h3 h4;have hm : (if x < y then y else x) = max x y:=by omega
  go_enter Tryz.func97,Tryz.ntmps97
  go_wp2_with fail;go_ret;exact ⟨ret_int rfl,rfl⟩
end Go.Proofs.YtibpmogmeoappabGreat
namespace Go.Proofs.YtibpmogmeoappabGreat
open Go.RowKit
theorem enters_Two1 : ∀ args w,(callFunc 75 args).run Tryz.prog w = .ok (.enter 75 args) w:=enters_of Tryz.func75 (by kernel_rfl) rfl
theorem isTwo_any (op : Int) (w : World) : Calls Tryz.prog 57 #[.int .i64 op] w fun e w'=>e = .returned (.bool (decide (4 ≤ op ∧ op ≤ 7))) ∧ w = w':=by
 by_cases h : 4 ≤ op
 ·go_enter Tryz.func57,Tryz.ntmps57
  go_wp2
  go_ret;exact ⟨ret_bool (by simp [h]),rfl⟩
 ·go_enter Tryz.func57,Tryz.ntmps57
  go_wp2
  go_ret;exact ⟨ret_bool (by simp; omega),rfl⟩
theorem two1_any (gr ga gb : Nat) (op : Int) (g : FuncId) (W H : Int) (A B : Option Addr) (n c m d : Nat) (P Q : List Int) (x y : Int) (w : World)
 (hg : ∀ (x y : Int) (w : World),0 ≤ x → x ≤ 65535 → 0 ≤ y → y ≤ 65535 → Calls Tryz.prog g #[.int .i64 x,.int .i64 y] w fun e w'=>e = .returned (.int .i64 (twoNum op x y)) ∧ w = w')
 (eg : ∀ args w,(callFunc g args).run Tryz.prog w = .ok (.enter g args) w)
 (hF : Img.Fine ⟨W,H,P⟩) (hn : P.length = n) (hI : Ints w A P) (hF' : Img.Fine ⟨W,H,Q⟩) (hm : Q.length = m) (hI' : Ints w B Q)
 (hr : VarBox w gr 132 (.func (.func g) #[] #[])) (ha : ImgBox w ga W H A n c) (hb : ImgBox w gb W H B m d) (hx : 0 ≤ x) (hx' : x < W) (hy : 0 ≤ y) (hy' : y < H) :
 Calls Tryz.prog 75 #[.int .i64 x,.int .i64 y,.pointer (some ⟨gr,0,none⟩),.pointer (some ⟨ga,0,none⟩),.pointer (some ⟨gb,0,none⟩)] w fun e w'=>e = .returned (.int .i64 (twoNum op (Img.at_ ⟨W,H,P⟩ x y) (Img.at_ ⟨W,H,Q⟩ x y))) ∧ Below w.heap.size w w':=by
 obtain ⟨l1,c1⟩:=hr.cell0;obtain ⟨q0,q1,q2,q3⟩:=ha.cells;obtain ⟨r0,r1,r2,r3⟩:=hb.cells;obtain ⟨p1,p2,p3,p4,p5⟩:=pix_num hF hn hx hx' hy hy';obtain ⟨s1,s2,s3,s4,s5⟩:=pix_num hF' hm hx hx' hy hy';obtain ⟨b,o,hA,hb1,hc⟩:=pix_cell hF hI hx hx' hy hy';obtain ⟨b2,o2,hB,hb2,hc2⟩:=pix_cell hF' hI' hx hx' hy hy';have hv:=hF.at_bd (x:=x) (y:=y) hx hx' hy hy';have hv2:=hF'.at_bd (x:=x) (y:=y) hx hx' hy hy'
 have hq : ∀ k : Nat,Calls Tryz.prog g #[.int .i64 (Img.at_ ⟨W,H,P⟩ x y),.int .i64 (Img.at_ ⟨W,H,Q⟩ x y)] (w.drewN k) fun e w'=>e = .returned (.int .i64 (twoNum op (Img.at_ ⟨W,H,P⟩ x y) (Img.at_ ⟨W,H,Q⟩ x y))) ∧ ∃ q,w' = w.drewN q :=
  fun k=>(hg _ _ (w.drewN k) hv.1 hv.2 hv2.1 hv2.2).mono fun _ _ ⟨h1,h2⟩=>⟨h1,k,h2.symm⟩
 have w1 : IntKind.i64.wrap (y * W) = y * W:=IntWalk.i64_in _ (by omega);have w2 : IntKind.i64.wrap (y * W + x) = y * W + x:=IntWalk.i64_in _ (by omega);generalize Img.at_ ⟨W,H,P⟩ x y = u at *;generalize Img.at_ ⟨W,H,Q⟩ x y = v at *;generalize twoNum op u v = z at *;subst hA hB;have HQ:=hide hq;clear hq hg hF hn hI hF' hm hI' hr ha hb hv hv2;go_enter Tryz.func75,Tryz.ntmps75
 go_wp2_with fail;go_quiet (exact (unhide HQ) _)
 go_wp2_with fail;go_ret;exact ⟨rfl,below_drewN (Below.refl _ _) _⟩
theorem twoImg_drawn {op : Int} {W H : Int} {P Q : List Int} (hF : Img.Fine ⟨W,H,P⟩) :
 drawn W H (fun x y=>twoNum op (Img.at_ ⟨W,H,P⟩ x y) (Img.at_ ⟨W,H,Q⟩ x y)) = twoImg op ⟨W,H,P⟩ ⟨W,H,Q⟩:=by
 unfold drawn twoImg;obtain ⟨⟨h1,h2⟩,⟨h3,h4⟩,h5,_⟩:=hF;simp only at h1 h2 h3 h4 h5 ⊢;have hw : 0 < W.toNat:=by omega
 congr 1
 have e : P.length = W.toNat * H.toNat:=by
  have : ((W.toNat * H.toNat : Nat) : Int) = W * H:=by rw [Int.natCast_mul,Int.toNat_of_nonneg (by omega),Int.toNat_of_nonneg (by omega)]
  omega
 rw [grid_eq _ _ hw,e]
 apply List.map_congr_left
 intro i hi;unfold Img.at_
 have e2 : (((i / W.toNat : Nat) : Int) * W + ((i % W.toNat : Nat) : Int)).toNat = i:=by
  have hd:=Nat.div_add_mod i W.toNat
  have e3 : (((i / W.toNat : Nat) : Int) * W + ((i % W.toNat : Nat) : Int)) = ((W.toNat * (i / W.toNat) + i % W.toNat : Nat) : Int):=by
   rw [Int.natCast_add,Int.natCast_mul,Int.toNat_of_nonneg (by omega),Int.mul_comm]
  rw [e3,hd]; simp
 simp only;rw [e2]
def pairList (op : Int) (P Q : List Int) (k : Nat) : List Int:=(List.range k).map fun i=>twoNum op (P.getD i 0) (Q.getD i 0)
theorem pairList_succ (op : Int) (P Q : List Int) (k : Nat) {u v : Int} (hu : P[k]? = some u) (hv : Q[k]? = some v) : pairList op P Q (k + 1) = pairList op P Q k ++ [twoNum op u v]:=by
 unfold pairList;rw [List.range_succ,List.map_append];simp [List.getD,hu,hv]
end Go.Proofs.YtibpmogmeoappabGreat
