/- Walks over lights: abs, far, gives, outside. -/
import Derived.Test.YtibpmogmeoappabGreatJLitA
import Derived.Test.YtibpmogmeoappabGreatJMem
import Derived.Test.YtibpmogmeoappabGreatJImgG
import Derived.Test.YtibpmogmeoappabGreatJImgA
import Derived.Test.YtibpmogmeoappabGreatJImgI
set_option maxRecDepth 100000
set_option maxHeartbeats 4000000
namespace Go.Proofs.YtibpmogmeoappabGreat
open Go.RowKit
theorem abs_any (x : Int) (w : World) (h1 : -1000 ≤ x) (h2 : x ≤ 1000) : Calls Tryz.prog 105 #[.int .i64 x] w fun e w'=>e = .returned (.int .i64 (max x (-x))) ∧ w = w':=by
 by_cases h : 0 ≤ x
 ·have e : max x (-x) = x:=by omega
  rw [e];go_enter Tryz.func105,Tryz.ntmps105
  go_wp2
  all_goals try (exfalso; omega)
  go_ret
  first | exact ⟨rfl,rfl⟩ | (refine ⟨ret_int ?_,rfl⟩; split <;> omega)
 ·have e : max x (-x) = -x:=by omega
  rw [e];go_enter Tryz.func105,Tryz.ntmps105
  go_wp2
  all_goals try (exfalso; omega)
  go_ret
  first | exact ⟨rfl,rfl⟩ | (refine ⟨ret_int ?_,rfl⟩; split <;> omega)
theorem abs_quiet (x : Int) (w : World) (h1 : -1000 ≤ x) (h2 : x ≤ 1000) (k : Nat) : Calls Tryz.prog 105 #[.int .i64 x] (w.drewN k) fun e w'=>e = .returned (.int .i64 (max x (-x))) ∧ ∃ q,w' = w.drewN q :=
 (abs_any x (w.drewN k) h1 h2).mono fun _ _ ⟨e1,e2⟩=>⟨e1,k,e2.symm⟩
theorem quo_lit (K T R : Int) (h1 : 0 ≤ K) (h2 : K ≤ 65535) (h3 : 0 ≤ T) (h4 : T ≤ 1000) (h5 : 1 ≤ R) (h6 : R ≤ 32) : wrap64 ((wrap64 (K * T)).tdiv R) = K * T / R:=by
 have p0 : 0 ≤ K * T:=Int.mul_nonneg h1 h3;have p1 : K * T ≤ 65535 * 1000:=Int.mul_le_mul h2 h4 h3 (by omega);rw [wrap64_of (n:=K * T) (by omega) (by omega),Int.tdiv_eq_ediv_of_nonneg p0];have q0 : 0 ≤ K * T / R:=Int.ediv_nonneg p0 (by omega);have q1 : K * T / R ≤ K * T:=Int.ediv_le_self _ p0;exact wrap64_of (by omega) (by omega)
theorem far_any (l : Lamp) (x y : Int) (w : World) (hF : l.Fine) (hx : -20 ≤ x ∧ x ≤ 50) (hy : -20 ≤ y ∧ y ≤ 50) :
 Calls Tryz.prog 101 #[.agg (lampCells l).toArray,.int .i64 x,.int .i64 y] w fun e w'=>e = .returned (.int .i64 (l.far x y)) ∧ Below w.heap.size w w':=by
 obtain ⟨⟨f1,f2⟩,⟨f3,f4⟩,⟨f5,f6⟩,⟨f7,f8⟩⟩:=hF;obtain ⟨X,Y,R,K⟩:=l;simp only [lampCells] at *;have e1 : IntKind.i64.wrap (X - x) = X - x:=IntWalk.i64_in _ (by omega);have e2 : IntKind.i64.wrap (Y - y) = Y - y:=IntWalk.i64_in _ (by omega);have e3 : IntKind.i64.wrap (max (X - x) (-(X - x)) + max (Y - y) (-(Y - y))) = max (X - x) (-(X - x)) + max (Y - y) (-(Y - y)):=IntWalk.i64_in _ (by omega);go_enter Tryz.func101,Tryz.ntmps101
 go_wp2_with fail;have kb:=Blk.new w 143 [.int .i64 X,.int .i64 Y,.int .i64 R,.int .i64 K];have a0 : (w.alloc (.cells #[.int .i64 X,.int .i64 Y,.int .i64 R,.int .i64 K] 143)).cell? ⟨w.heap.size,0,none⟩ = some (.int .i64 X):=by rw [kb.cell]; rfl
 have a1 : (w.alloc (.cells #[.int .i64 X,.int .i64 Y,.int .i64 R,.int .i64 K] 143)).cell? ⟨w.heap.size,1,none⟩ = some (.int .i64 Y):=by rw [kb.cell]; rfl
 have HB:=hide ((Below.refl w.heap.size w).alloc (Nat.le_refl _) (.cells #[.int .i64 X,.int .i64 Y,.int .i64 R,.int .i64 K] 143));clear kb;generalize (w.alloc (.cells #[.int .i64 X,.int .i64 Y,.int .i64 R,.int .i64 K] 143)) = w1 at *;have H1:=hide (abs_quiet (X - x) w1 (by omega) (by omega));have H2:=hide (abs_quiet (Y - y) w1 (by omega) (by omega));go_quiet ((go_at_call 105; first | (with_reducible exact (unhide H1) _) | (with_reducible exact (unhide H2) _)))
 go_wp2_with fail;go_ret;exact ⟨rfl,below_drewN HB.out _⟩
theorem gives_any (l : Lamp) (x y : Int) (w : World) (hF : l.Fine) (hx : -20 ≤ x ∧ x ≤ 50) (hy : -20 ≤ y ∧ y ≤ 50) :
 Calls Tryz.prog 80 #[.agg (lampCells l).toArray,.int .i64 x,.int .i64 y] w fun e w'=>e = .returned (.int .i64 (l.gives x y)) ∧ Below w.heap.size w w':=by
 obtain ⟨⟨f1,f2⟩,⟨f3,f4⟩,⟨f5,f6⟩,⟨f7,f8⟩⟩:=hF;obtain ⟨X,Y,R,K⟩:=l;simp only [lampCells] at *;go_enter Tryz.func80,Tryz.ntmps80
 go_wp2
 all_goals (go_ret; refine ⟨ret_int ?_,(Below.refl _ _).alloc (Nat.le_refl _) _⟩)
 all_goals first
  | (rw [quo_lit _ _ _ f7 f8 (by omega) (by omega) f5 f6]; unfold Lamp.gives Lamp.far; simp only; rw [if_pos (by omega)]; congr 2; omega)
  | (unfold Lamp.gives Lamp.far; simp only; rw [if_neg (by omega)])
theorem outside_any (a lo k : Int) (w : World) (ha : -20 ≤ a ∧ a ≤ 50) (hlo : -20 ≤ lo ∧ lo ≤ 50) (hk : -20 ≤ k ∧ k ≤ 50) :
 Calls Tryz.prog 100 #[.int .i64 a,.int .i64 lo,.int .i64 k] w fun e w'=>e = .returned (.int .i64 (outside a lo k)) ∧ w = w':=by
 go_enter Tryz.func100,Tryz.ntmps100
 go_wp2
 all_goals (go_ret; refine ⟨ret_int ?_,rfl⟩; unfold outside; try simp only [decide_eq_true_eq] at *)
 all_goals first | omega | (split <;> omega)
end Go.Proofs.YtibpmogmeoappabGreat
namespace Go.Proofs.YtibpmogmeoappabGreat
open Go.RowKit
theorem keepCel {w w' : World} (hb : Below w.heap.size w w') {b o : Nat} {v : Value} (h : w.cell? ⟨b,o,none⟩ = some v) : w'.cell? ⟨b,o,none⟩ = some v:=by rw [(bcell hb).1 b o (World.block_lt_of_cell? w _ h)]; exact h
theorem lightAt_take {ls : List Lamp} {k : Nat} {l : Lamp} (h : ls[k]? = some l) (x y : Int) : lightAt (ls.take (k + 1)) x y = lightAt (ls.take k) x y + l.gives x y:=by
 rw [List.take_add_one,h];exact lightAt_snoc _ _ _ _
theorem lightAt_take_bd {ls : List Lamp} (h : ∀ l ∈ ls,l.Fine) (h8 : ls.length ≤ 8) (k : Nat) (x y : Int) : 0 ≤ lightAt (ls.take k) x y ∧ lightAt (ls.take k) x y ≤ 524280:=by
 have:=lightAt_bd (ls:=ls.take k) (fun l hl=>h l (List.mem_of_mem_take hl)) x y;rw [List.length_take] at this;omega
theorem lightAt_ref (A : Option Addr) (n c : Nat) (ls : List Lamp) (x y : Int) (w : World) (hn : ls.length = n) (hL : Lamps w A ls) (hE : lampsErr ls = 0) (hx : -20 ≤ x ∧ x ≤ 50) (hy : -20 ≤ y ∧ y ≤ 50) :
 Calls Tryz.prog 89 #[.slice A n c,.int .i64 x,.int .i64 y] w fun e w'=>e = .returned (.int .i64 (lightAt ls x y)) ∧ Below w.heap.size w w':=by
 obtain ⟨h8,hF⟩:=lampsErr_zero hE;have hn8 : n ≤ 8:=by omega
 have HBD:=hide (fun k=>lightAt_take_bd hF h8 k x y);have HN:=hide hn;have HL:=hide hL;have HFI:=hide hF;clear hn hE hL hF h8;go_enter Tryz.func89,Tryz.ntmps89
 go_wp2_with fail;go_loopw [7,8,9] (fun s i _ wr=>∃ k : Nat,k ≤ n ∧ i = .int .i64 k ∧ s = .int .i64 (lightAt (ls.take k) x y) ∧ Below w.heap.size w wr) (fun _ i _ _=>n - (intOf i).toNat)
 case atStart=>exact ⟨0,Nat.zero_le _,rfl,rfl,Below.refl _ _⟩
 case round =>
  obtain ⟨k,hk,rfl,rfl,hB⟩:=hrel;have HB:=hide hB;clear hB;by_cases hlt : k < n
  ·have hk0 : (0 : Int) ≤ (k : Int):=by omega
   have hk1 : (k : Int) < (n : Int):=by omega
   obtain ⟨b,o,l,rfl,hb,hxl,c0,c1,c2,c3⟩:=(HL.out.keep HB.out).at_ k (by have:=HN.out; omega);have hf : l.Fine:=HFI.out l (List.mem_of_getElem? hxl);have HT:=hide (lightAt_take hxl x y);have hbd:=HBD.out k;clear hxl;generalize lightAt (ls.take k) x y = s at *;go_wp2_with fail;refine Calls.mono (far_any l x y _ hf hx hy) ?_;rintro e w1 ⟨rfl,hE1⟩;have HB1:=hide (HB.out.trans (hE1.mono HB.out.size));have c2':=keepCel hE1 c2;have c3':=keepCel hE1 c3;have hd0:=l.far_nonneg x y;have HG : Hid (l.gives x y = if l.far x y < l.R then l.K * (l.R - l.far x y) / l.R else 0):=hide rfl;obtain ⟨g1,g2⟩:=Lamp.gives_bd hf x y;obtain ⟨⟨f1,f2⟩,⟨f3,f4⟩,⟨f5,f6⟩,⟨f7,f8⟩⟩:=hf;clear hE1 c0 c1 c2 c3;generalize l.gives x y = v at *;generalize l.far x y = d at *;obtain ⟨X,Y,R,K⟩:=l;simp only at c2' c3' f1 f2 f3 f4 f5 f6 f7 f8;have HG' : Hid (v = if d < R then K * (R - d) / R else 0):=HG;clear HG;by_cases hd : d < R
   ·have hv : K * (R - d) / R = v:=by have:=HG'.out; rw [if_pos hd] at this; exact this.symm
    have p0 : 0 ≤ K * (R - d):=Int.mul_nonneg f7 (by omega);have p1 : K * (R - d) ≤ 65535 * 32:=Int.mul_le_mul f8 (by omega) (by omega) (by omega);have e1 : IntKind.i64.wrap (R - d) = R - d:=IntWalk.i64_in _ (by omega);have e2 : IntKind.i64.wrap (K * (R - d)) = K * (R - d):=IntWalk.i64_in _ (by omega);have e3 : (K * (R - d)).tdiv R = v:=by rw [Int.tdiv_eq_ediv_of_nonneg p0]; exact hv
    have e4 : IntKind.i64.wrap v = v:=IntWalk.i64_in _ (by omega);have e5 : IntKind.i64.wrap (s + v) = s + v:=IntWalk.i64_in _ (by omega);have hR : ¬ R = 0:=by omega
    clear hv HG';go_wp2_with fail;go_quiet (fail)
    go_wp2_with fail;go_roundw
    case rel=>exact ⟨k + 1,by omega,by go_num,by rw [HT.out],below_drewN HB1.out _⟩
    case measure=>simp [intOf]; omega
   ·have hv : v = 0:=by have:=HG'.out; rw [if_neg hd] at this; exact this
    subst hv;go_wp2_with fail;go_roundw
    case rel=>exact ⟨k + 1,by omega,by go_num,by rw [HT.out,Int.add_zero],HB1.out⟩
    case measure=>simp [intOf]; omega
  ·go_wp2_with fail
   go_ret;obtain rfl : k = n:=by omega
   exact ⟨ret_int (by rw [List.take_of_length_le (by have:=HN.out; omega)]),HB.out⟩
def Inside (x y : Int) : Prop:=(0 ≤ x ∧ x ≤ 15) ∧ (0 ≤ y ∧ y ≤ 15)
instance (x y : Int) : Decidable (Inside x y):=by unfold Inside; exact inferInstance
def lampAtErr (ls : List Lamp) (x y : Int) : Int:=if lampsErr ls = 0 then (if Inside x y then 0 else 3) else lampsErr ls
def lampAtAns (ls : List Lamp) (x y : Int) : Int:=if lampAtErr ls x y = 0 then lightAt ls x y else 0
end Go.Proofs.YtibpmogmeoappabGreat
namespace Go.Proofs.YtibpmogmeoappabGreat
open Go.RowKit
def nearTo (ls : List Lamp) (x y cw ch : Int) (k : Nat) : List Int:=(List.range k).flatMap fun i=>if (ls.getD i ⟨0,0,0,0⟩).nears x y cw ch then [(i : Int)] else []
theorem nearTo_succ {ls : List Lamp} {k : Nat} {l : Lamp} (h : ls[k]? = some l) (x y cw ch : Int) : nearTo ls x y cw ch (k + 1) = nearTo ls x y cw ch k ++ if l.nears x y cw ch then [(k : Int)] else []:=by
 unfold nearTo;rw [List.range_succ,List.flatMap_append];simp only [List.flatMap_cons,List.flatMap_nil,List.append_nil];rw [List.getD_eq_getElem?_getD,h];rfl
theorem nearTo_len (ls : List Lamp) (x y cw ch : Int) (k : Nat) : (nearTo ls x y cw ch k).length ≤ k:=by
 induction k with
 | zero=>simp [nearTo]
 | succ k ih =>
   have e : nearTo ls x y cw ch (k + 1) = nearTo ls x y cw ch k ++ if (ls.getD k ⟨0,0,0,0⟩).nears x y cw ch then [(k : Int)] else []:=by
    unfold nearTo;rw [List.range_succ,List.flatMap_append];simp only [List.flatMap_cons,List.flatMap_nil,List.append_nil]
   rw [e,List.length_append];split
   ·simp only [List.length_singleton]; omega
   ·simp only [List.length_nil]; omega
theorem outside_quiet (a lo k : Int) (w : World) (ha : -20 ≤ a ∧ a ≤ 50) (hlo : -20 ≤ lo ∧ lo ≤ 50) (hk : -20 ≤ k ∧ k ≤ 50) (q : Nat) :
 Calls Tryz.prog 100 #[.int .i64 a,.int .i64 lo,.int .i64 k] (w.drewN q) fun e w'=>e = .returned (.int .i64 (outside a lo k)) ∧ ∃ q,w' = w.drewN q :=
 (outside_any a lo k (w.drewN q) ha hlo hk).mono fun _ _ ⟨e1,e2⟩=>⟨e1,q,e2.symm⟩
def RetInts (w : World) (L : List Int) (e : Ending) (w' : World) : Prop:=∃ (A : Option Addr) (n c : Nat),e = .returned (.slice A n c) ∧ L.length = n ∧ Ints w' A L ∧ Mine w' w.heap.size A ∧ Below w.heap.size w w'
theorem near_any (A : Option Addr) (n c : Nat) (ls : List Lamp) (x y cw ch : Int) (w : World) (hn : ls.length = n) (hL : Lamps w A ls) (hE : lampsErr ls = 0) (hx : -20 ≤ x ∧ x ≤ 20) (hy : -20 ≤ y ∧ y ≤ 20) (hw : 0 ≤ cw ∧ cw ≤ 30) (hh : 0 ≤ ch ∧ ch ≤ 30) :
 Calls Tryz.prog 79 #[.slice A n c,.int .i64 x,.int .i64 y,.int .i64 cw,.int .i64 ch] w (RetInts w (nearList ls x y cw ch)):=by
 obtain ⟨h8,hF⟩:=lampsErr_zero hE;have hn8 : n ≤ 8:=by omega
 have HN:=hide hn;have HL:=hide hL;have HFI:=hide hF;clear hn hE hL hF h8;obtain ⟨i0,hi0,hz0,hz1,hz2⟩ : ∃ i,Tryz.prog.info? 3 = some i ∧ i.zero = some (.int .i64 0) ∧ i.size = 1 ∧ i.bytes = 8:=⟨_,rfl,rfl,rfl,rfl⟩;have HI0:=hide hi0;have HZ0:=hide hz0;have HZ1:=hide hz1;have HZ2:=hide hz2;clear hi0 hz0 hz1 hz2;go_enter Tryz.func79,Tryz.ntmps79
 go_wp2_with fail;go_loopw [11,12,13,16] (fun s _ _ i wr=>∃ (k : Nat) (A' : Option Addr) (m d : Nat),k ≤ n ∧ i = .int .i64 k ∧ s = .slice A' m d ∧ Own wr w.heap.size 3 1 A' m d ((nearTo ls x y cw ch k).map (.int .i64)) ∧ Below w.heap.size w wr) (fun _ _ _ i _=>n - (intOf i).toNat)
 case atStart=>exact ⟨0,none,0,0,Nat.zero_le _,rfl,rfl,Own.nil _ _ _ _,Below.refl _ _⟩
 case round =>
  obtain ⟨k,A',m,d,hk,rfl,rfl,hO,hB⟩:=hrel;have HO:=hide hO;have HB:=hide hB;clear hO hB;by_cases hlt : k < n
  ·have hk1 : (k : Int) < (n : Int):=by omega
   obtain ⟨b,o,l,rfl,hb,hxl,c0,c1,c2,c3⟩:=(HL.out.keep HB.out).at_ k (by have:=HN.out; omega);have hf : l.Fine:=HFI.out l (List.mem_of_getElem? hxl);have HT:=hide (nearTo_succ hxl x y cw ch);clear hxl;go_wp2_with fail;have kb:=Blk.new wr 143 [.int .i64 l.X,.int .i64 l.Y,.int .i64 l.R,.int .i64 l.K];have a0 : (wr.alloc (.cells #[.int .i64 l.X,.int .i64 l.Y,.int .i64 l.R,.int .i64 l.K] 143)).cell? ⟨wr.heap.size,0,none⟩ = some (.int .i64 l.X):=by rw [kb.cell]; rfl
   have a1 : (wr.alloc (.cells #[.int .i64 l.X,.int .i64 l.Y,.int .i64 l.R,.int .i64 l.K] 143)).cell? ⟨wr.heap.size,1,none⟩ = some (.int .i64 l.Y):=by rw [kb.cell]; rfl
   have a2 : (wr.alloc (.cells #[.int .i64 l.X,.int .i64 l.Y,.int .i64 l.R,.int .i64 l.K] 143)).cell? ⟨wr.heap.size,2,none⟩ = some (.int .i64 l.R):=by rw [kb.cell]; rfl
   have HB1:=hide (HB.out.alloc HB.out.size (.cells #[.int .i64 l.X,.int .i64 l.Y,.int .i64 l.R,.int .i64 l.K] 143));have HO1:=hide (HO.out.alloc (.cells #[.int .i64 l.X,.int .i64 l.Y,.int .i64 l.R,.int .i64 l.K] 143));clear kb c0 c1 c2 c3;generalize (wr.alloc (.cells #[.int .i64 l.X,.int .i64 l.Y,.int .i64 l.R,.int .i64 l.K] 143)) = w1 at *;obtain ⟨⟨f1,f2⟩,⟨f3,f4⟩,⟨f5,f6⟩,⟨f7,f8⟩⟩:=hf;have H1:=hide (outside_quiet l.X x cw w1 (by omega) (by omega) (by omega));have H2:=hide (outside_quiet l.Y y ch w1 (by omega) (by omega) (by omega))
   have hm8 : m ≤ 8:=by
    have h1:=HO.out.len;have h2:=nearTo_len ls x y cw ch k;simp only [List.length_map] at h1;omega
   have e3 : IntKind.i64.wrap (outside l.X x cw + outside l.Y y ch) = outside l.X x cw + outside l.Y y ch:=IntWalk.i64_in _ (by unfold outside; omega);have HNE : Hid (l.nears x y cw ch = decide (outside l.X x cw + outside l.Y y ch < l.R)):=hide rfl;generalize outside l.X x cw = o1 at *;generalize outside l.Y y ch = o2 at *;go_quiet ((go_at_call 100; first | (with_reducible exact (unhide H1) _) | (with_reducible exact (unhide H2) _)))
   generalize hq : World.drewN w1 _ = w2;have hb2 : Below w1.heap.size w1 w2:=by rw [← hq]; exact below_drewN (Below.refl _ _) _
   have HB2:=hide (HB1.out.trans (hb2.mono HB1.out.size));have HO2:=hide (HO1.out.keep hb2);have hs2 : w.heap.size ≤ w2.heap.size:=HB2.out.size;clear hq hb2 H1 H2 a0 a1 a2 HB HO HB1 HO1;by_cases hd : o1 + o2 < l.R
   ·have hne : Hid (l.nears x y cw ch = true):=hide (HNE.out.trans (decide_eq_true hd))
    have hi0:=HI0.out;have hz0:=HZ0.out;have hz1:=HZ1.out;have hz2:=HZ2.out;go_wp2_with (at_builtin; go_loud (refine wpList_app1 w2 rfl _ _ 25 rfl w.heap.size 3 i0 _ 1 8 Tryz.underlying25 hi0 hz0 hz1 hz2 rfl (by omega) A' m d _ [.int .i64 k] rfl HO2.out rfl rfl (one_int _) (by omega) (by omega) hs2 ?_; intro A1 c1 w3 hown3 hg3))
    go_roundw
    case rel =>
     refine ⟨k + 1,A1,m + 1,c1,by omega,by go_num,rfl,?_,Below.grownOwn (HB2.out.alloc HB2.out.size _) (HO2.out.alloc _) hg3 (Nat.le_trans hs2 (by simp)) (Nat.le_refl _)⟩;rw [HT.out,hne.out,List.map_append];exact hown3
    case measure=>simp [intOf]; omega
   ·have hne : Hid (l.nears x y cw ch = false):=hide (HNE.out.trans (decide_eq_false hd))
    go_wp2_with fail;go_roundw
    case rel=>exact ⟨k + 1,A',m,d,by omega,by go_num,rfl,by rw [HT.out,hne.out]; simpa using HO2.out,HB2.out⟩
    case measure=>simp [intOf]; omega
  ·go_wp2_with fail
   go_ret;obtain rfl : k = n:=by omega
   refine ⟨A',m,d,rfl,?_,?_,Mine.of_own HO.out,HB.out⟩
   ·have:=HO.out.len
    simp only [List.length_map] at this;have e : nearList ls x y cw ch = nearTo ls x y cw ch k:=by unfold nearList nearTo; rw [HN.out]
    rw [e]; omega
   ·have e : nearList ls x y cw ch = nearTo ls x y cw ch k:=by unfold nearList nearTo; rw [HN.out]
    rw [e];exact HO.out.cells
end Go.Proofs.YtibpmogmeoappabGreat
namespace Go.Proofs.YtibpmogmeoappabGreat
open Go.RowKit
def NearIn (x y cw ch : Int) : Prop:=Inside x y ∧ (1 ≤ cw ∧ cw ≤ 16 - x) ∧ (1 ≤ ch ∧ ch ≤ 16 - y)
instance (x y cw ch : Int) : Decidable (NearIn x y cw ch):=by unfold NearIn; exact inferInstance
def lampNearErr (ls : List Lamp) (x y cw ch : Int) : Int:=if lampsErr ls = 0 then (if NearIn x y cw ch then 0 else 3) else lampsErr ls
def lampNearAns (ls : List Lamp) (x y cw ch : Int) : List Int:=if lampNearErr ls x y cw ch = 0 then nearList ls x y cw ch else []
def RetIntsErr (w : World) (L : List Int) (z : Int) (e : Ending) (w' : World) : Prop:=∃ (A : Option Addr) (n c : Nat),e = .returned (.tuple #[.slice A n c,.int .i64 z]) ∧ L.length = n ∧ Ints w' A L ∧ Mine w' w.heap.size A ∧ Below w.heap.size w w'
end Go.Proofs.YtibpmogmeoappabGreat
namespace Go.Proofs.YtibpmogmeoappabGreat
open Go.RowKit
def Seen (l : Lamp) (x y cw v u : Int) : Prop:=∃ a b : Int,((y ≤ b ∧ b < v ∧ x ≤ a ∧ a < x + cw) ∨ (b = v ∧ x ≤ a ∧ a < u)) ∧ l.far a b < l.R
end Go.Proofs.YtibpmogmeoappabGreat
namespace Go.Proofs.YtibpmogmeoappabGreat
open Go.RowKit
theorem boxGrown {w wr w1 : World} {W H : Int} {f : Int → Int → Int} {A A' : Option Addr} {n c n' c' : Nat} {y x : Int} {o : Obj}
 (h : GridRel w W H f (w.heap.size + 2) (w.heap.size + 3) [(w.heap.size,29,[.int .i64 W,.int .i64 H,.slice A n c]),(w.heap.size + 1,29,[.int .i64 0,.int .i64 0,.slice none 0 0])] y x A' n' c' wr)
 (hg : (wr.alloc o).grownBy w1 (Value.slice A' n' c').ownBlock) :
 w1.cell? ⟨w.heap.size,0,none⟩ = some (.int .i64 W) ∧ w1.cell? ⟨w.heap.size,1,none⟩ = some (.int .i64 H) ∧ w1.cell? ⟨w.heap.size,2,none⟩ = some (.slice A n c) :=
 (ImgBox.cells ((h.mid hg).2.1 (w.heap.size,29,[.int .i64 W,.int .i64 H,.slice A n c]) (by simp)).1).2
theorem litOf_ref (W H : Int) (A : Option Addr) (n c : Nat) (P : List Int) (B : Option Addr) (m d : Nat) (ls : List Lamp) (w : World) (hF : Img.Fine ⟨W,H,P⟩) (hn : P.length = n) (hI : Ints w A P) (hm : ls.length = m) (hL : Lamps w B ls) (hE : lampsErr ls = 0) :
 Calls Tryz.prog 59 #[.agg #[.int .i64 W,.int .i64 H,.slice A n c],.slice B m d] w (RetImg w (litImg ⟨W,H,P⟩ ls)):=by
 show Calls _ _ _ _ (RetImg w (drawn W H (litPix ⟨W,H,P⟩ ls)))
 obtain ⟨i0,hi0,hz0,hz1,hz2⟩:=info_parts Tryz.info3;obtain ⟨⟨d1,d2⟩,⟨d3,d4⟩,_⟩:=id hF;simp only at d1 d2 d3 d4;have HF:=hide hF;have HN:=hide hn;have HM:=hide hm;have HE:=hide hE;have HIL:=hide ((Keeps.ints hI).and ⟨hL,fun _ hb=>hL.keep hb⟩);have HBD:=hide (fun x y=>lightAt_bd (ls:=ls) (lampsErr_zero hE).2 x y);have h8 : ls.length ≤ 8:=(lampsErr_zero hE).1;clear hF hn hI hm hL hE;go_enter Tryz.func59,Tryz.ntmps59
 go_wp2_with fail
 go_loopw [6] (fun j wr=>∃ (y : Int) (A' : Option Addr) (n' c' : Nat),0 ≤ y ∧ y ≤ H ∧ j = .int .i64 y ∧ GridRel w W H (litPix ⟨W,H,P⟩ ls) (w.heap.size + 2) (w.heap.size + 3) [(w.heap.size,29,[.int .i64 W,.int .i64 H,.slice A n c]),(w.heap.size + 1,29,[.int .i64 0,.int .i64 0,.slice none 0 0])] y 0 A' n' c' wr)
  (fun j _=>(H - intOf j).toNat)
 case atStart =>
  have HB:=oneOf_start w W H W H A n c;exact ⟨0,none,0,0,by omega,by omega,rfl,GridRel.start HB.2.1 (by omega) (by omega) (by simp) HB.1 HB.2.2⟩
 case round =>
  obtain ⟨y,A',n',c',hy0,hy1,rfl,hG⟩:=hrel;obtain ⟨t0,t1,t2,t3,t4⟩:=hG.cells;have hba:=hG.others (w.heap.size,29,[.int .i64 W,.int .i64 H,.slice A n c]) (by simp);obtain ⟨q0,q1,q2,q3⟩:=ImgBox.cells hba.1;simp only at q0 q1 q2 q3;have HG:=hide hG;clear hG hba;by_cases hlt : y < H
  ·go_wp2_with fail
   obtain ⟨wo,rfl⟩ : ∃ wo : World,wo = wr:=⟨_,rfl⟩
   go_loopw [7] (fun i wr=>∃ (x : Int) (A' : Option Addr) (n' c' : Nat),0 ≤ x ∧ x ≤ W ∧ i = .int .i64 x ∧ GridRel w W H (litPix ⟨W,H,P⟩ ls) (w.heap.size + 2) (w.heap.size + 3) [(w.heap.size,29,[.int .i64 W,.int .i64 H,.slice A n c]),(w.heap.size + 1,29,[.int .i64 0,.int .i64 0,.slice none 0 0])] y x A' n' c' wr)
    (fun i _=>(W - intOf i).toNat)
   case atStart=>exact ⟨0,A',n',c',by omega,by omega,rfl,HG.out⟩
   case round =>
    obtain ⟨x,A',n',c',hx0,hx1,rfl,hG⟩:=hrel;clear HG t0 t1 t2 t3 t4 q0 q1 q2 q3;have HG:=hide hG;have hle:=gridPart_le (W:=W) (litPix ⟨W,H,P⟩ ls) (y:=y) (x:=x) (by omega) (by omega) (by omega);have hn : n' ≤ 1073741824:=by rw [hG.len]; omega
    have hs:=hG.size;have HW0:=hide hG.below;obtain ⟨t0,t1,t2,t3,t4⟩:=hG.cells;have hba:=hG.others (w.heap.size,29,[.int .i64 W,.int .i64 H,.slice A n c]) (by simp);obtain ⟨q0,q1,q2,q3⟩:=ImgBox.cells hba.1;simp only at q0 q1 q2 q3;clear hG hle hba;by_cases hli : x < W
    ·have HC:=hide (fun (W0 : World) (hb : Below w.heap.size w W0)=>at_ref W H A n c P x y W0 HF.out HN.out (HIL.out.later _ hb).1 (by omega) (by omega) (by omega) (by omega))
     have HC2:=hide (fun (W0 : World) (hb : Below w.heap.size w W0)=>lightAt_ref B m d ls x y W0 HM.out (HIL.out.later _ hb).2 HE.out (by omega) (by omega));obtain ⟨p1,p2⟩:=Img.Fine.at_bd HF.out hx0 hli hy0 hlt;obtain ⟨p3,p4⟩:=HBD.out x y;have hpix : litPix ⟨W,H,P⟩ ls x y = min 65535 (Img.at_ ⟨W,H,P⟩ x y + lightAt ls x y):=rfl;generalize Img.at_ ⟨W,H,P⟩ x y = v at *;generalize lightAt ls x y = u at *;have HP:=hide (hpix.trans (show min 65535 (v + u) = (if v + u < 65535 then v + u else 65535) by omega));have e3 : IntKind.i64.wrap (v + u) = v + u:=IntWalk.i64_in _ (by omega);clear hpix;have HG1:=hide (HG.out.keep (Below.refl _ _).drew);have HW1:=hide HG1.out.below;go_wp2_with fail
     go_region_law
      (first
        | (refine step_app1 w2 (by rfl) _ _ 25 (by rfl) (w.heap.size + 3) 3 i0 _ 1 8 Tryz.underlying25 hi0 hz0 hz1 hz2 rfl (by omega) A' n' c' _ [.int .i64 (if v + u < 65535 then v + u else 65535)] (by rfl) HG3.out.own (by rfl) rfl (one_int _) hn (by omega) hs3 ?_; intro A1 c1 w3 hown3 hg3; obtain ⟨u0,u1,u2⟩:=boxGrown HG3.out hg3; obtain ⟨p0,u3,u4⟩:=HG3.out.midCells hg3)
        | (go_simp; go_at_call 88; refine ((unhide HC) _ HW1.out).mono ?_; rintro e w1 ⟨rfl,hE1⟩; have r0:=keepCel hE1 q1; have r1:=keepCel hE1 q2; have r2:=keepCel hE1 q3; have r3:=keepCel hE1 t3; have HG2:=hide (HG1.out.keep hE1); have HW2:=hide HG2.out.below; clear hE1)
        | (go_simp; go_at_call 89; refine ((unhide HC2) _ HW2.out).mono ?_; rintro e w2 ⟨rfl,hE2⟩; have s0:=keepCel hE2 r0; have s1:=keepCel hE2 r1; have s2:=keepCel hE2 r2; have s3:=keepCel hE2 r3; have HG3:=hide (HG2.out.keep hE2); have hs3:=HG3.out.size; have ls3:=HG3.out.cells.1; clear hE2))
     all_goals
      go_wp2_with fail;go_roundw
      case rel=>exact ⟨x + 1,A1,n' + 1,c1,by omega,by omega,by go_num,HG3.out.step hx0 hg3 (by rw [HP.out]; exact hown3)⟩
      case measure=>simp [intOf]; omega
    ·go_wp2_with fail
     go_roundw
     case rel=>exact ⟨y + 1,A',n',c',by omega,by omega,by go_num,HG.out.row hy0 (by omega)⟩
     case measure=>simp [intOf]; omega
  ·have hy : y = H:=by omega
   have hGE:=HG.out;rw [hy] at hGE;have HGE:=hide hGE;clear hGE hy;have hR:=(HG.out.others (w.heap.size + 1,29,[.int .i64 0,.int .i64 0,.slice none 0 0]) (by simp)).1;have r0 : wr.cell? ⟨w.heap.size + 1,0,none⟩ = some (.int .i64 0):=by rw [hR.cell]; rfl
   have r1' : wr.cell? ⟨w.heap.size + 1,1,none⟩ = some (.int .i64 0):=by rw [hR.cell]; rfl
   have r2' : wr.cell? ⟨w.heap.size + 1,2,none⟩ = some (.slice none 0 0):=by rw [hR.cell]; rfl
   have f0:=hR.frozen 0;have f1:=hR.frozen 1;have f2:=hR.frozen 2;simp only at f0 f1 f2;clear hR;go_wp2_with fail;refine bodyPost_ret (v:=.agg #[.int .i64 W,.int .i64 H,.slice A' n' c']) (by simp [results,Tryz.results59,go_sem,r0,r1',r2']) rfl ?_;exact HGE.out.done (u:=[.int .i64 0,.int .i64 0,.slice none 0 0]) (by simp) (by omega)
end Go.Proofs.YtibpmogmeoappabGreat
namespace Go.Proofs.YtibpmogmeoappabGreat
open Go.RowKit
theorem grid_set (w h : Nat) (f : Int → Int → Int) {x y : Int} (hx : 0 ≤ x) (hx' : x < w) (hy : 0 ≤ y) (hy' : y < h) (z : Int) :
 (grid w h f).set (y * w + x).toNat z = grid w h (fun a b=>if a = x ∧ b = y then z else f a b):=by
 obtain ⟨x,rfl⟩:=Int.eq_ofNat_of_zero_le hx;obtain ⟨y,rfl⟩:=Int.eq_ofNat_of_zero_le hy;have hw : 0 < w:=by omega
 have e : ((y : Int) * (w : Int) + (x : Int)).toNat = w * y + x:=by
  rw [← Int.natCast_mul,← Int.natCast_add,Int.toNat_natCast,Nat.mul_comm]
 rw [e,grid_eq w h hw,grid_eq w h hw]
 apply List.ext_getElem
 ·simp
 ·intro i h1 h2
  simp only [List.getElem_set,List.getElem_map,List.getElem_range];by_cases hi : w * y + x = i
  ·subst hi
   have hx2 : x < w:=by omega
   have e1 : (w * y + x) % w = x:=by rw [Nat.mul_add_mod,Nat.mod_eq_of_lt hx2]
   have e2 : (w * y + x) / w = y:=by rw [Nat.mul_add_div hw,Nat.div_eq_of_lt hx2,Nat.add_zero]
   rw [if_pos rfl,e1,e2,if_pos ⟨rfl,rfl⟩]
  ·rw [if_neg hi,if_neg]
   rintro ⟨a,b⟩;have hd:=Nat.div_add_mod i w;have a' : i % w = x:=by omega
   have b' : i / w = y:=by omega
   rw [a',b'] at hd;exact hi hd
def PixBlk (w : World) (g : Nat) (W H : Int) (f : Int → Int → Int) (tail : List Value) : Prop:=Blk w g 3 ((grid W.toNat H.toNat f).map (.int .i64) ++ tail)
section
variable {w w' : World} {g : Nat} {W H : Int} {f f' : Int → Int → Int} {tail : List Value}
theorem PixBlk.congr (h : PixBlk w g W H f tail) (hf : ∀ x y : Int,0 ≤ x → x < W → 0 ≤ y → y < H → f x y = f' x y) : PixBlk w g W H f' tail:=by
 unfold PixBlk at h ⊢;rw [grid_congr W.toNat H.toNat f' f (fun x y h1 h2 h3 h4=>(hf x y h1 (by omega) h3 (by omega)).symm)];exact h
theorem pix_lt {x y : Int} (hx : 0 ≤ x) (hx' : x < W) (hy : 0 ≤ y) (hy' : y < H) : (y * W + x).toNat < (grid W.toNat H.toNat f).length:=by
 rw [grid_length];have hb:=place_bd hx hx' hy hy';have : ((W.toNat * H.toNat : Nat) : Int) = W * H:=by rw [Int.natCast_mul,Int.toNat_of_nonneg (by omega),Int.toNat_of_nonneg (by omega)]
 omega
theorem PixBlk.cell (h : PixBlk w g W H f tail) {x y : Int} (hx : 0 ≤ x) (hx' : x < W) (hy : 0 ≤ y) (hy' : y < H) : w.cell? ⟨g,(y * W + x).toNat,none⟩ = some (.int .i64 (f x y)):=by
 have hlt:=pix_lt (f:=f) hx hx' hy hy';have hg:=grid_get W.toNat H.toNat f hx (by omega) hy (by omega);rw [Int.toNat_of_nonneg (by omega)] at hg;rw [Blk.cell h,List.getElem?_append_left (by simpa using hlt),List.getElem?_map,List.getElem?_eq_getElem hlt];rw [List.getD_eq_getElem?_getD,List.getElem?_eq_getElem hlt] at hg;simp only [Option.getD_some] at hg;simp only [Option.map_some,hg]
theorem PixBlk.free (h : PixBlk w g W H f tail) (i : Nat) : w.frozen? ⟨g,i,none⟩ = false:=Blk.frozen h i
theorem PixBlk.put (h : PixBlk w g W H f tail) {x y z : Int} (hx : 0 ≤ x) (hx' : x < W) (hy : 0 ≤ y) (hy' : y < H) :
 PixBlk (w.setCell ⟨g,(y * W + x).toNat,none⟩ (.int .i64 z)) g W H (fun a b=>if a = x ∧ b = y then z else f a b) tail:=by
 have hlt:=pix_lt (f:=f) hx hx' hy hy';have hs:=grid_set W.toNat H.toNat f hx (by omega) hy (by omega) z;rw [Int.toNat_of_nonneg (by omega)] at hs;have:=Blk.set_ h (y * W + x).toNat (.int .i64 z);rw [List.set_append_left _ _ (by simpa using hlt),← List.map_set,hs] at this;exact this
theorem PixBlk.keep (h : PixBlk w g W H f tail) (hb : Below w.heap.size w w') : PixBlk w' g W H f tail:=Blk.keep h hb
end
def nearSum (ls : List Lamp) (L : List Int) (u v : Int) : Int:=(L.map fun i=>(ls.getD i.toNat ⟨0,0,0,0⟩).gives u v).sum
theorem nearSum_snoc (ls : List Lamp) (L : List Int) (i u v : Int) : nearSum ls (L ++ [i]) u v = nearSum ls L u v + (ls.getD i.toNat ⟨0,0,0,0⟩).gives u v:=by
 unfold nearSum; simp [List.sum_append]
theorem nearTo_sum {ls : List Lamp} {x y cw ch u v : Int} (hw : 1 ≤ cw) (hh : 1 ≤ ch) (hu : x ≤ u ∧ u < x + cw) (hv : y ≤ v ∧ v < y + ch) (k : Nat) (hk : k ≤ ls.length) :
 nearSum ls (nearTo ls x y cw ch k) u v = lightAt (ls.take k) u v:=by
 induction k with
 | zero=>simp [nearSum,nearTo,lightAt]
 | succ k ih =>
   have hl : ls[k]? = some ls[k]:=List.getElem?_eq_getElem (by omega);rw [nearTo_succ hl,lightAt_take hl];split
   ·rw [nearSum_snoc,ih (by omega)]
    congr 1
    rw [Int.toNat_natCast,List.getD_eq_getElem?_getD,hl];rfl
   ·rename_i hn
    rw [List.append_nil,ih (by omega),Lamp.not_near hw hh (by simpa using hn) hu hv,Int.add_zero]
theorem nearList_sum {ls : List Lamp} {x y cw ch u v : Int} (hw : 1 ≤ cw) (hh : 1 ≤ ch) (hu : x ≤ u ∧ u < x + cw) (hv : y ≤ v ∧ v < y + ch) :
 nearSum ls (nearList ls x y cw ch) u v = lightAt ls u v:=by
 have e : nearList ls x y cw ch = nearTo ls x y cw ch ls.length:=rfl;rw [e,nearTo_sum hw hh hu hv ls.length (Nat.le_refl _),List.take_of_length_le (Nat.le_refl _)]
theorem nearList_mem {ls : List Lamp} {x y cw ch i : Int} (h : i ∈ nearList ls x y cw ch) : ∃ k : Nat,i = (k : Int) ∧ k < ls.length:=by
 unfold nearList at h;simp only [List.mem_flatMap,List.mem_range] at h;obtain ⟨k,hk,hi⟩:=h;split at hi
 ·simp only [List.mem_singleton] at hi; exact ⟨k,hi,hk⟩
 ·cases hi
theorem nearList_len (ls : List Lamp) (x y cw ch : Int) : (nearList ls x y cw ch).length ≤ ls.length:=nearTo_len ls x y cw ch ls.length
theorem nearSum_bd {ls : List Lamp} (hF : ∀ l ∈ ls,l.Fine) (L : List Int) (hL : ∀ i ∈ L,∃ k : Nat,i = (k : Int) ∧ k < ls.length) (u v : Int) : 0 ≤ nearSum ls L u v ∧ nearSum ls L u v ≤ 65535 * (L.length : Int):=by
 induction L with
 | nil=>simp [nearSum]
 | cons i L ih =>
   obtain ⟨k,rfl,hk⟩:=hL i (by simp);have h1:=ih fun j hj=>hL j (by simp [hj]);have h2 : (ls.getD ((k : Int)).toNat ⟨0,0,0,0⟩) = ls[k]:=by rw [Int.toNat_natCast,List.getD_eq_getElem?_getD,List.getElem?_eq_getElem hk]; rfl
   have h3:=Lamp.gives_bd (hF ls[k] (List.getElem_mem hk)) u v;unfold nearSum at h1 ⊢;simp only [List.map_cons,List.sum_cons,List.length_cons,h2];omega
theorem grown_below {a w w' : World} {g : Nat} (h : a.grownBy w (some g)) (hb : Below w.heap.size w w') : a.grownBy w' (some g) :=
 ⟨hb.os.trans h.os,hb.tape.trans h.tape,hb.output.trans h.output,Nat.le_trans h.size hb.size,fun i hi hne=>(hb.block i (Nat.lt_of_lt_of_le hi h.size)).trans (h.block i hi hne)⟩
theorem grown_set {a w : World} {g : Nat} (h : a.grownBy w (some g)) (o : Nat) (u : Value) : a.grownBy (w.setCell ⟨g,o,none⟩ u) (some g) :=
 ⟨h.os,h.tape,h.output,by simpa [World.setCell] using h.size,fun i hi hne=>(Below.heap_setCell w ⟨g,o,none⟩ u i (by rintro rfl; exact hne rfl)).trans (h.block i hi hne)⟩
theorem Blk.grownAt {a w : World} {g g' : Nat} {t : TypeId} {cs : List Value} (h : Blk a g t cs) (hb : a.grownBy w (some g')) (hg : g ≠ g') : Blk w g t cs:=(hb.block g h.lt (by simpa using hg)).trans h
theorem grown_trans1 {a b c : World} {g : Nat} (h : a.grownBy b (some g)) (k : b.grownBy c (some g)) : a.grownBy c (some g) :=
 ⟨k.os.trans h.os,k.tape.trans h.tape,k.output.trans h.output,Nat.le_trans h.size k.size,fun i hi hne=>(k.block i (Nat.lt_of_lt_of_le hi h.size) hne).trans (h.block i hi hne)⟩
end Go.Proofs.YtibpmogmeoappabGreat
namespace Go.Proofs.YtibpmogmeoappabGreat
open Go.RowKit
def tileF (ls : List Lamp) (x y cw : Int) (o f0 : Int → Int → Int) (v u : Int) (a b : Int) : Int :=
 if (y ≤ b ∧ b < v ∧ x ≤ a ∧ a < x + cw) ∨ (b = v ∧ x ≤ a ∧ a < u) then min 65535 (o a b + lightAt ls a b) else f0 a b
def tileK (ls : List Lamp) (x y cw ch : Int) (o f0 : Int → Int → Int) (v u : Int) (k : Nat) (a b : Int) : Int :=
 if a = u ∧ b = v then min 65535 (o a b + nearSum ls ((nearList ls x y cw ch).take k) a b) else tileF ls x y cw o f0 v u a b
theorem tileK_at (ls : List Lamp) (x y cw ch : Int) (o f0 : Int → Int → Int) (v u : Int) (k : Nat) : tileK ls x y cw ch o f0 v u k u v = min 65535 (o u v + nearSum ls ((nearList ls x y cw ch).take k) u v):=by
 unfold tileK; rw [if_pos ⟨rfl,rfl⟩]
theorem tileK_set (ls : List Lamp) (x y cw ch : Int) (o f0 : Int → Int → Int) (v u : Int) (k : Nat) (z : Int) (hz : z = min 65535 (o u v + nearSum ls ((nearList ls x y cw ch).take (k + 1)) u v)) :
 (fun a b=>if a = u ∧ b = v then z else tileK ls x y cw ch o f0 v u k a b) = tileK ls x y cw ch o f0 v u (k + 1):=by
 funext a b
 unfold tileK;by_cases h : a = u ∧ b = v
 ·obtain ⟨rfl,rfl⟩:=h
  simp only [and_self,if_true]; exact hz
 ·simp only [h,if_false]
theorem tileK_zero {ls : List Lamp} {x y cw ch : Int} {o f0 : Int → Int → Int} {v u : Int} (h : f0 u v = o u v) (h0 : o u v ≤ 65535) : tileK ls x y cw ch o f0 v u 0 = tileF ls x y cw o f0 v u:=by
 funext a b
 unfold tileK;split
 ·rename_i e
  obtain ⟨rfl,rfl⟩:=e;have : tileF ls x y cw o f0 b a a b = f0 a b:=by unfold tileF; rw [if_neg (by omega)]
  rw [this,h];simp [nearSum]
  omega
 ·rfl
theorem tileK_end {ls : List Lamp} {x y cw ch : Int} {o f0 : Int → Int → Int} {v u : Int} {k : Nat} (hu : x ≤ u ∧ u < x + cw) (hv : y ≤ v ∧ v < y + ch) (hk : (nearList ls x y cw ch).length = k) :
 tileK ls x y cw ch o f0 v u k = tileF ls x y cw o f0 v (u + 1):=by
 funext a b
 unfold tileK;split
 ·rename_i e
  obtain ⟨rfl,rfl⟩:=e;rw [← hk,List.take_of_length_le (Nat.le_refl _),nearList_sum (by omega) (by omega) hu hv];unfold tileF; rw [if_pos (by omega)]
 ·rename_i e
  unfold tileF;by_cases h : (y ≤ b ∧ b < v ∧ x ≤ a ∧ a < x + cw) ∨ (b = v ∧ x ≤ a ∧ a < u)
  ·rw [if_pos h,if_pos (by omega)]
  ·rw [if_neg h,if_neg (by omega)]
theorem tileF_row {ls : List Lamp} {x y cw : Int} {o f0 : Int → Int → Int} {v : Int} (hv : y ≤ v) : tileF ls x y cw o f0 v (x + cw) = tileF ls x y cw o f0 (v + 1) x:=by
 funext a b
 unfold tileF;by_cases h : (y ≤ b ∧ b < v ∧ x ≤ a ∧ a < x + cw) ∨ (b = v ∧ x ≤ a ∧ a < x + cw)
 ·rw [if_pos h,if_pos (by omega)]
 ·rw [if_neg h,if_neg (by omega)]
theorem tileF_start (ls : List Lamp) (x y cw : Int) (o f0 : Int → Int → Int) : tileF ls x y cw o f0 y x = f0:=by
 funext a b
 unfold tileF;rw [if_neg (by omega)]
def tileDone (ls : List Lamp) (x y cw ch : Int) (o f0 : Int → Int → Int) (a b : Int) : Int :=
 if y ≤ b ∧ b < y + ch ∧ x ≤ a ∧ a < x + cw then min 65535 (o a b + lightAt ls a b) else f0 a b
theorem tileF_end (ls : List Lamp) (x y cw ch : Int) (o f0 : Int → Int → Int) : tileF ls x y cw o f0 (y + ch) x = tileDone ls x y cw ch o f0:=by
 funext a b
 unfold tileF tileDone;by_cases h : y ≤ b ∧ b < y + ch ∧ x ≤ a ∧ a < x + cw
 ·rw [if_pos (by omega),if_pos h]
 ·rw [if_neg (by omega),if_neg h]
theorem min_step {o s g z : Int} (h0 : 0 ≤ g) (hz : z = min 65535 (o + s)) : (if 65535 < z + g then 65535 else z + g) = min 65535 (o + (s + g)):=by
 split <;> omega
def RetLit1 (w : World) (gp : Nat) (W H : Int) (f : Int → Int → Int) (tail : List Value) (e : Ending) (w' : World) : Prop:=e = .returned (.bool true) ∧ w.grownBy w' (some gp) ∧ PixBlk w' gp W H f tail
theorem lit1_any (gl go ga gp : Nat) (W H x y cw ch : Int) (n c n' c' m d : Nat) (A' B : Option Addr) (ls : List Lamp) (o f0 : Int → Int → Int) (tail : List Value) (w : World)
 (hW : 1 ≤ W ∧ W ≤ 16) (hH : 1 ≤ H ∧ H ≤ 16) (hx : 0 ≤ x ∧ x + cw ≤ W) (hy : 0 ≤ y ∧ y + ch ≤ H) (hcw : 1 ≤ cw) (hch : 1 ≤ ch)
 (bl : Blk w gl 70 [.slice B m d]) (bo : ImgBox w go W H (some ⟨gp,0,none⟩) n c) (ba : ImgBox w ga W H A' n' c') (hn : (n : Int) = W * H)
 (n1 : gl ≠ gp) (n2 : go ≠ gp) (n3 : ga ≠ gp) (hm : ls.length = m) (hE : lampsErr ls = 0) (hL : ∀ W',w.grownBy W' (some gp) → Lamps W' B ls)
 (hf : ∀ a b : Int,x ≤ a → a < x + cw → y ≤ b → b < y + ch → f0 a b = o a b ∧ 0 ≤ o a b ∧ o a b ≤ 65535) (hP : PixBlk w gp W H f0 tail) :
 Calls Tryz.prog 78 #[.int .i64 x,.int .i64 y,.int .i64 cw,.int .i64 ch,.pointer (some ⟨gl,0,none⟩),.pointer (some ⟨go,0,none⟩),.pointer (some ⟨ga,0,none⟩)] w (RetLit1 w gp W H (tileDone ls x y cw ch o f0) tail):=by
 obtain ⟨h8,hFI⟩:=lampsErr_zero hE;have hgp : gp < w.heap.size:=Blk.lt hP
 have HK : Hid (∀ W',w.grownBy W' (some gp) → W'.cell? ⟨gl,0,none⟩ = some (.slice B m d) ∧ W'.cell? ⟨go,2,none⟩ = some (.slice (some ⟨gp,0,none⟩) n c) ∧ W'.cell? ⟨ga,0,none⟩ = some (.int .i64 W) ∧ gl < W'.heap.size ∧ go < W'.heap.size ∧ ga < W'.heap.size ∧ gp < W'.heap.size):=hide fun W' h=>by
  have k1:=Blk.grownAt bl h n1;have k2:=ImgBox.cells (Blk.grownAt bo h n2);have k3:=ImgBox.cells (Blk.grownAt ba h n3);exact ⟨by rw [k1.cell]; rfl,k2.2.2.2,k3.2.1,k1.lt,k2.1,k3.1,Nat.lt_of_lt_of_le hgp h.size⟩
 have HL:=hide hL;have HM:=hide hm;have HF:=hide hFI;have HO:=hide hf;have HP:=hide hP;have HE:=hide hE;have HNN:=hide hn;have hm8 : m ≤ 8:=by omega
 clear hL hm hFI hf hP hE hn bl bo ba;obtain ⟨k1,k2,k3,k4,k5,k6,k7⟩:=HK.out w (World.grownBy.refl w _);go_enter Tryz.func78,Tryz.ntmps78
 go_wp2_with fail;refine Calls.mono (near_any B m d ls x y cw ch _ HM.out (HL.out _ (World.grownBy.refl w _)) HE.out (by omega) (by omega) (by omega) (by omega)) ?_;rintro e w1 ⟨A1,m1,c1,rfl,hln,hI1,hA1,hE1⟩;have HLN:=hide hln;have HG1:=hide (grown_below (World.grownBy.refl w (some gp)) hE1);have HP1:=hide (HP.out.keep hE1)
 have HI1:=hide (fun (W' : World) (h : w1.grownBy W' (some gp))=>show Ints W' A1 (nearList ls x y cw ch) from by
  intro i hi;obtain ⟨b,o,hA,hb,hc⟩:=hI1 i hi;have:=hA1.new _ hA;refine ⟨b,o,hA,Nat.lt_of_lt_of_le hb h.size,?_⟩;rw [World.cell?_of_block (h.block b hb (by simp only [ne_eq,Option.some.injEq]; simp only at this; omega))]
  exact hc)
 have hm1 : m1 ≤ 8:=by have:=nearList_len ls x y cw ch; have:=HM.out; omega
 clear hln hI1 hA1 hE1 k1 k2 k3 k4 k5 k6 k7;go_wp2_with fail;go_loopw [13] (fun vv wr=>∃ v : Int,y ≤ v ∧ v ≤ y + ch ∧ vv = .int .i64 v ∧ PixBlk wr gp W H (tileF ls x y cw o f0 v x) tail ∧ w1.grownBy wr (some gp)) (fun vv _=>(y + ch - intOf vv).toNat)
 case atStart=>exact ⟨y,by omega,by omega,rfl,by rw [tileF_start]; exact HP1.out,World.grownBy.refl _ _⟩
 case round =>
  obtain ⟨v,hv1,hv2,rfl,hP2,hG2⟩:=hrel;have HP2:=hide hP2;have HG2:=hide hG2;clear hP2 hG2;by_cases hvl : v < y + ch
  ·go_wp2_with fail
   obtain ⟨wo,rfl⟩ : ∃ wo : World,wo = wr:=⟨_,rfl⟩;go_loopw [14] (fun uu wr=>∃ u : Int,x ≤ u ∧ u ≤ x + cw ∧ uu = .int .i64 u ∧ PixBlk wr gp W H (tileF ls x y cw o f0 v u) tail ∧ w1.grownBy wr (some gp)) (fun uu _=>(x + cw - intOf uu).toNat)
   case atStart=>exact ⟨x,by omega,by omega,rfl,HP2.out,HG2.out⟩
   case round =>
    obtain ⟨u,hu1,hu2,rfl,hP3,hG3⟩:=hrel;have HP3:=hide hP3;have HG3:=hide hG3;clear hP3 hG3;by_cases hul : u < x + cw
    ·obtain ⟨k1,k2,k3,k4,k5,k6,k7⟩:=HK.out _ (grown_trans1 HG1.out HG3.out)
     obtain ⟨p1,p2⟩:=place_bd (W:=W) (H:=H) (x:=u) (y:=v) (by omega) (by omega) (by omega) (by omega);have p3 : v * W + u < (n : Int):=by have:=HNN.out; omega
     have p4 : 0 ≤ v * W:=Int.mul_nonneg (by omega) (by omega);have p5:=mul_bd hW.1 hW.2 hH.1 hH.2;have p6 : v * W ≤ 256:=by omega
     have p7 : n ≤ 256:=by have:=HNN.out; omega
     clear p5;go_wp2_with fail;obtain ⟨wo,rfl⟩ : ∃ wo : World,wo = wr:=⟨_,rfl⟩;go_loopw [51] (fun jj wr=>∃ j : Nat,j ≤ m1 ∧ jj = .int .i64 j ∧ PixBlk wr gp W H (tileK ls x y cw ch o f0 v u j) tail ∧ w1.grownBy wr (some gp)) (fun jj _=>m1 - (intOf jj).toNat)
     case atStart =>
      obtain ⟨o1,o2,o3⟩:=HO.out u v hu1 hul hv1 hvl;exact ⟨0,Nat.zero_le _,rfl,by rw [tileK_zero o1 o3]; exact HP3.out,HG3.out⟩
     case round =>
      obtain ⟨j,hj,rfl,hP4,hG4⟩:=hrel;have HP4:=hide hP4;have HG4:=hide hG4;clear hP4 hG4 HP3 HG3 k1 k2 k3 k4 k5 k6 k7;by_cases hjl : j < m1
      ·have hj1 : (j : Int) < (m1 : Int):=by omega
       have hj0 : (0 : Int) ≤ (j : Int):=by omega
       obtain ⟨b1,o1,i,rfl,hb1,hi,d0⟩:=(HI1.out _ HG4.out).at_ j (by have:=HLN.out; omega);obtain ⟨i,rfl,hil⟩:=nearList_mem (List.mem_of_getElem? hi);obtain ⟨b2,o2,l,rfl,hb2,hl,c0,c1',c2,c3⟩:=(HL.out _ (grown_trans1 HG1.out HG4.out)).at_ i hil;have hil' : (i : Int) < (m : Int):=by have:=HM.out; omega
       have hi0 : (0 : Int) ≤ (i : Int):=by omega
       have hlf : l.Fine:=HF.out l (List.mem_of_getElem? hl)
       have hsum : nearSum ls ((nearList ls x y cw ch).take (j + 1)) u v = nearSum ls ((nearList ls x y cw ch).take j) u v + l.gives u v:=by
        rw [List.take_add_one,hi,Option.toList_some,nearSum_snoc,Int.toNat_natCast,List.getD_eq_getElem?_getD,hl];rfl
       have hbd:=nearSum_bd HF.out ((nearList ls x y cw ch).take j) (fun q hq=>nearList_mem (List.mem_of_mem_take hq)) u v;have hlt : ((nearList ls x y cw ch).take j).length ≤ 8:=by rw [List.length_take]; omega
       obtain ⟨g1,g2⟩:=Lamp.gives_bd hlf u v;obtain ⟨k1,k2,k3,k4,k5,k6,k7⟩:=HK.out _ (grown_trans1 HG1.out HG4.out);have q0:=HP4.out.cell (x:=u) (y:=v) (by omega) (by omega) (by omega) (by omega);rw [tileK_at] at q0;have q1:=HP4.out.free (v * W + u).toNat;obtain ⟨o1',o2',o3'⟩:=HO.out u v hu1 hul hv1 hvl;obtain ⟨z,hz⟩ : ∃ z : Int,z = min 65535 (o u v + nearSum ls ((nearList ls x y cw ch).take j) u v):=⟨_,rfl⟩;rw [← hz] at q0;have hz0 : 0 ≤ z ∧ z ≤ 65535:=by omega
       have hst:=min_step (o:=o u v) g1 hz;rw [← hsum] at hst;have HST:=hide (tileK_set ls x y cw ch o f0 v u j _ hst);have HGV:=hide (fun (W0 : World)=>gives_any l u v W0 hlf (by omega) (by omega));clear hz hsum hst hbd hlt o1' o2' o3' hi hl hil;generalize l.gives u v = g at *;have e3 : IntKind.i64.wrap (z + g) = z + g:=IntWalk.i64_in _ (by omega);go_wp2_with fail
       go_region_law
        (first
          | (go_simp; go_at_call 80; refine ((unhide HGV) _).mono ?_; rintro e w2 ⟨rfl,hE2⟩; have q0':=keepCel hE2 q0; have q1':=((bcell hE2).2 gp (v * W + u).toNat (show gp < wr.heap.size by omega)).trans q1; have HP5:=hide (PixBlk.keep (PixBlk.keep HP4.out (Below.refl _ _).drew) hE2); have HG5:=hide (grown_below (grown_below HG4.out (Below.refl _ _).drew) hE2); clear hE2))
       all_goals
        go_wp2_with fail;go_roundw
        case rel =>
         refine ⟨j + 1,by omega,by go_num,?_,grown_set HG5.out _ _⟩;have hp:=PixBlk.put HP5.out (x:=u) (y:=v) (z:=if 65535 < z + g then 65535 else z + g) (by omega) (by omega) (by omega) (by omega);rw [HST.out] at hp;exact hp
        case measure=>simp [intOf]; omega
      ·obtain rfl : j = m1:=by omega
       have hP5:=HP4.out;rw [tileK_end ⟨hu1,hul⟩ ⟨hv1,hvl⟩ HLN.out] at hP5;have HP5:=hide hP5;clear hP5;go_wp2_with fail;go_roundw
       case rel=>exact ⟨u + 1,by omega,by omega,by go_num,HP5.out,HG4.out⟩
       case measure=>simp [intOf]; omega
    ·go_wp2_with fail
     obtain rfl : u = x + cw:=by omega
     go_roundw
     case rel=>exact ⟨v + 1,by omega,by omega,by go_num,by rw [← tileF_row hv1]; exact HP3.out,HG3.out⟩
     case measure=>simp [intOf]; omega
  ·obtain rfl : v = y + ch:=by omega
   go_wp2_with fail;go_ret;exact ⟨rfl,grown_trans1 HG1.out HG2.out,by rw [← tileF_end]; exact HP2.out⟩
end Go.Proofs.YtibpmogmeoappabGreat
namespace Go.Proofs.YtibpmogmeoappabGreat
open Go.RowKit
theorem tiles_any (W H : Int) (A : Option Addr) (n c : Nat) (sz : Int) (w : World) :
 Calls Tryz.prog 77 #[.agg #[.int .i64 W,.int .i64 H,.slice A n c],.int .i64 sz] w fun e w'=>e = .returned (.func (.func 99) #[] #[.pointer (some ⟨w.heap.size,0,none⟩),.pointer (some ⟨w.heap.size + 1,0,none⟩)]) ∧
  (w.alloc (.cells #[.int .i64 W,.int .i64 H,.slice A n c] 29)).alloc (.cells #[.int .i64 sz] 3) = w':=by
 go_enter Tryz.func77,Tryz.ntmps77
 go_wp2_with fail;go_ret;exact ⟨rfl,rfl⟩
def RetTiles (H : Int) (J : Int → Int → World → Prop) (e : Ending) (w' : World) : Prop:=e = .returned (.tuple #[]) ∧ ∃ y : Int,H ≤ y ∧ J y 0 w'
theorem tiles1_any (g : FuncId) (lb : Array Value) (ga gs : Nat) (W H sz : Int) (A : Option Addr) (n c : Nat) (J : Int → Int → World → Prop) (w : World)
 (eg : ∀ args w,(callFunc g args).run Tryz.prog w = .ok (.enter g args) w) (hW : 1 ≤ W ∧ W ≤ 16) (hH : 1 ≤ H ∧ H ≤ 16) (hs : 1 ≤ sz ∧ sz ≤ 16)
 (hB : ∀ y x W',J y x W' → ImgBox W' ga W H A n c ∧ VarBox W' gs 3 (.int .i64 sz))
 (hY : ∀ (y x cw ch : Int) (W' : World),0 ≤ x → x < W → 0 ≤ y → y < H → cw = min sz (W - x) → ch = min sz (H - y) → J y x W' → Calls Tryz.prog g (#[.int .i64 x,.int .i64 y,.int .i64 cw,.int .i64 ch] ++ lb) W' fun e W''=>e = .returned (.bool true) ∧ J y (x + sz) W'')
 (hR : ∀ y x W',W ≤ x → J y x W' → J (y + sz) 0 W') (h0 : J 0 0 w) :
 Calls Tryz.prog 99 #[.func (.func g) #[] lb,.pointer (some ⟨ga,0,none⟩),.pointer (some ⟨gs,0,none⟩)] w (RetTiles H J):=by
 have HB:=hide hB;have HY:=hide hY;have HR:=hide hR;have H0:=hide h0;clear hB hY hR h0;go_enter Tryz.func99,Tryz.ntmps99
 go_wp2_with fail;go_loopw [4] (fun yy wr=>∃ y : Int,0 ≤ y ∧ y ≤ 32 ∧ yy = .int .i64 y ∧ J y 0 wr) (fun yy _=>(H - intOf yy).toNat)
 case atStart=>exact ⟨0,by omega,by omega,rfl,H0.out⟩
 case round =>
  obtain ⟨y,hy1,hy2,rfl,hJ⟩:=hrel;have HJ:=hide hJ;obtain ⟨b1,b2⟩:=HB.out _ _ _ hJ;obtain ⟨q0,q1,q2,q3⟩:=b1.cells;obtain ⟨q4,q5⟩:=b2.cell0;clear hJ b1 b2;by_cases hyl : y < H
  ·go_wp2_with fail
   obtain ⟨wo,rfl⟩ : ∃ wo : World,wo = wr:=⟨_,rfl⟩;go_loopw [5] (fun xx wr=>∃ x : Int,0 ≤ x ∧ x ≤ 32 ∧ xx = .int .i64 x ∧ J y x wr) (fun xx _=>(W - intOf xx).toNat)
   case atStart=>exact ⟨0,by omega,by omega,rfl,HJ.out⟩
   case round =>
    obtain ⟨x,hx1,hx2,rfl,hJ⟩:=hrel;have HJ1:=hide hJ;clear q0 q1 q2 q3 q4 q5;obtain ⟨b1,b2⟩:=HB.out _ _ _ hJ;obtain ⟨q0,q1,q2,q3⟩:=b1.cells;obtain ⟨q4,q5⟩:=b2.cell0;clear hJ b1 b2;by_cases hxl : x < W
    ·go_wp2_with fail
     all_goals
      refine Calls.mono ((unhide HY) y x _ _ _ hx1 hxl hy1 hyl (by omega) (by omega) HJ1.out) ?_;rintro e w1 ⟨rfl,hJ2⟩;have HJ2:=hide hJ2;obtain ⟨b1,b2⟩:=HB.out _ _ _ hJ2;clear q0 q1 q2 q3 q4 q5 hJ2;obtain ⟨q0,q1,q2,q3⟩:=b1.cells;obtain ⟨q4,q5⟩:=b2.cell0;clear b1 b2;go_wp2_with fail;go_roundw
      case rel=>exact ⟨x + sz,by omega,by omega,by go_num,HJ2.out⟩
      case measure=>simp [intOf]; omega
    ·go_wp2_with fail
     go_roundw
     case rel=>exact ⟨y + sz,by omega,by omega,by go_num,HR.out _ _ _ (by omega) HJ1.out⟩
     case measure=>simp [intOf]; omega
  ·go_wp2_with fail
   go_end0
   exact ⟨rfl,y,by omega,HJ.out⟩
end Go.Proofs.YtibpmogmeoappabGreat
namespace Go.Proofs.YtibpmogmeoappabGreat
open Go.RowKit
def LitBoxes (w : World) (W H : Int) (A : Option Addr) (n c : Nat) (P : List Int) (B : Option Addr) (m d : Nat) (ls : List Lamp) (w1 : World) : Prop :=
 ImgBox w1 w.heap.size W H A n c ∧ Blk w1 (w.heap.size + 1) 70 [.slice B m d] ∧ Blk w1 (w.heap.size + 1 + 1) 29 [.int .i64 0,.int .i64 0,.slice none 0 0] ∧ Below w.heap.size w w1 ∧ Ints w1 A P ∧ Lamps w1 B ls
section
variable {w w1 w2 : World} {W H : Int} {A : Option Addr} {n c : Nat} {P : List Int} {B : Option Addr} {m d : Nat} {ls : List Lamp}
theorem LitBoxes.keep (h : LitBoxes w W H A n c P B m d ls w1) (hb : Below w1.heap.size w1 w2) : LitBoxes w W H A n c P B m d ls w2 :=
 ⟨Blk.keep h.1 hb,Blk.keep h.2.1 hb,h.2.2.1.keep hb,h.2.2.2.1.trans (hb.mono h.2.2.2.1.size),h.2.2.2.2.1.keep hb,h.2.2.2.2.2.keep hb⟩
theorem litBoxes_start (hI : Ints w A P) (hL : Lamps w B ls) (W H : Int) (n c m d : Nat) :
 LitBoxes w W H A n c P B m d ls (((w.alloc (.cells #[.int .i64 W,.int .i64 H,.slice A n c] 29)).alloc (.cells #[.slice B m d] 70)).alloc (.cells #[.int .i64 0,.int .i64 0,.slice none 0 0] 29)):=by
 have b0:=Blk.new w 29 [Value.int .i64 W,.int .i64 H,.slice A n c];have b1:=Blk.new (w.alloc (.cells #[.int .i64 W,.int .i64 H,.slice A n c] 29)) 70 [Value.slice B m d];have b2:=Blk.new ((w.alloc (.cells #[.int .i64 W,.int .i64 H,.slice A n c] 29)).alloc (.cells #[.slice B m d] 70)) 29 [Value.int .i64 0,.int .i64 0,.slice none 0 0];simp only [World.size_alloc] at b1 b2;have hb : Below w.heap.size w (((w.alloc (.cells #[.int .i64 W,.int .i64 H,.slice A n c] 29)).alloc (.cells #[.slice B m d] 70)).alloc (.cells #[.int .i64 0,.int .i64 0,.slice none 0 0] 29)):=(((Below.refl _ _).alloc (Nat.le_refl _) _).alloc (by simp) _).alloc (by simp; omega) _;exact ⟨(b0.alloc _).alloc _,b1.alloc _,b2,hb,hI.keep hb,hL.keep hb⟩
theorem LitBoxes.cells (h : LitBoxes w W H A n c P B m d ls w1) :
 w.heap.size + 1 + 1 < w1.heap.size ∧ w1.cell? ⟨w.heap.size,0,none⟩ = some (.int .i64 W) ∧ w1.cell? ⟨w.heap.size,1,none⟩ = some (.int .i64 H) ∧ w1.cell? ⟨w.heap.size,2,none⟩ = some (.slice A n c) ∧
 w1.cell? ⟨w.heap.size + 1,0,none⟩ = some (.slice B m d) ∧ w1.cell? ⟨w.heap.size + 1 + 1,0,none⟩ = some (.int .i64 0) ∧ w1.cell? ⟨w.heap.size + 1 + 1,1,none⟩ = some (.int .i64 0) ∧ w1.cell? ⟨w.heap.size + 1 + 1,2,none⟩ = some (.slice none 0 0) ∧
 w1.frozen? ⟨w.heap.size + 1 + 1,0,none⟩ = false ∧ w1.frozen? ⟨w.heap.size + 1 + 1,1,none⟩ = false ∧ w1.frozen? ⟨w.heap.size + 1 + 1,2,none⟩ = false :=
 ⟨h.2.2.1.lt,by rw [Blk.cell h.1]; rfl,by rw [Blk.cell h.1]; rfl,by rw [Blk.cell h.1]; rfl,by rw [Blk.cell h.2.1]; rfl,by rw [h.2.2.1.cell]; rfl,by rw [h.2.2.1.cell]; rfl,by rw [h.2.2.1.cell]; rfl,h.2.2.1.frozen 0,h.2.2.1.frozen 1,h.2.2.1.frozen 2⟩
end
def tilesF (ls : List Lamp) (sz : Int) (o : Int → Int → Int) (y x a b : Int) : Int:=if b < y ∨ (b < y + sz ∧ a < x) then min 65535 (o a b + lightAt ls a b) else o a b
theorem tilesF_step {ls : List Lamp} {sz W H x y cw ch : Int} {o : Int → Int → Int} (hcw : cw = min sz (W - x)) (hch : ch = min sz (H - y)) (a b : Int) (_ha0 : 0 ≤ a) (ha : a < W) (hb : b < H) (_hy : 0 ≤ y) :
 tileDone ls x y cw ch o (tilesF ls sz o y x) a b = tilesF ls sz o y (x + sz) a b:=by
 unfold tileDone tilesF;by_cases h : y ≤ b ∧ b < y + ch ∧ x ≤ a ∧ a < x + cw
 ·rw [if_pos h,if_pos (by omega)]
 ·rw [if_neg h]
  by_cases h1 : b < y ∨ (b < y + sz ∧ a < x)
  ·rw [if_pos h1,if_pos (by omega)]
  ·rw [if_neg h1,if_neg (by omega)]
theorem tilesF_row {ls : List Lamp} {sz W x y : Int} {o : Int → Int → Int} (hx : W ≤ x) (hs : 1 ≤ sz) (a b : Int) (_ha0 : 0 ≤ a) (ha : a < W) : tilesF ls sz o y x a b = tilesF ls sz o (y + sz) 0 a b:=by
 unfold tilesF;by_cases h1 : b < y ∨ (b < y + sz ∧ a < x)
 ·rw [if_pos h1,if_pos (by omega)]
 ·rw [if_neg h1,if_neg (by omega)]
theorem mine_pix {w : World} {W H : Int} {A : Option Addr} {B : Nat} {P : List Int} (hF : Img.Fine ⟨W,H,P⟩) (hI : Ints w A P) (hA : Mine w B A) :
 ∃ (g : Nat) (tail : List Value),A = some ⟨g,0,none⟩ ∧ B ≤ g ∧ PixBlk w g W H (Img.at_ ⟨W,H,P⟩) tail:=by
 have h1:=hF.2.2.1;have h2:=mul_bd hF.1.1 hF.1.2 hF.2.1.1 hF.2.1.2;simp only at h1 h2;have h0 : 0 < P.length:=by omega
 obtain ⟨b,o,x,hA1,hlt,_,_⟩:=hI.at_ 0 h0;obtain ⟨h3,h4,cs,h5⟩:=hA _ hA1;simp only at h3 h4 h5;injection h4 with _ h4;subst h4;refine ⟨b,cs.drop P.length,hA1,h3,?_⟩;have hd:=congrArg Img.P hF.eq_drawn;simp only [drawn] at hd;unfold PixBlk;rw [← hd]
 have e : cs = P.map (.int .i64) ++ cs.drop P.length:=by
  have hc : ∀ i,i < P.length → cs[i]? = (P.map (Value.int .i64))[i]?:=by
   intro i hi;obtain ⟨b',o',x,hA2,_,hx,hc⟩:=hI.at_ i hi;rw [hA1] at hA2;injection hA2 with hA2;injection hA2 with e1 e2;subst e1 e2;rw [Nat.zero_add,h5.cell] at hc;rw [hc,List.getElem?_map,hx]; rfl
  have ht : cs.take P.length = P.map (.int .i64):=by
   apply List.ext_getElem?
   intro i;rw [List.getElem?_take];split
   ·rename_i hi; exact hc i hi
   ·rename_i hi; rw [List.getElem?_eq_none (by simpa using hi)]
  rw [← ht,List.take_append_drop]
 rw [← e];exact h5
theorem PixBlk.ints {w : World} {g : Nat} {W H : Int} {f : Int → Int → Int} {tail : List Value} (h : PixBlk w g W H f tail) : Ints w (some ⟨g,0,none⟩) (grid W.toNat H.toNat f):=by
 intro i hi;refine ⟨g,0,rfl,Blk.lt h,?_⟩;rw [Nat.zero_add,Blk.cell h,List.getElem?_append_left hi,List.getElem?_eq_getElem hi];rw [List.getD_eq_getElem?_getD,List.getElem?_eq_getElem hi]; rfl
theorem enters_Lit1 : ∀ args w,(callFunc 78 args).run Tryz.prog w = .ok (.enter 78 args) w:=enters_of Tryz.func78 (by kernel_rfl) rfl
theorem lit_form (W H : Int) (A : Option Addr) (n c : Nat) (P : List Int) (B : Option Addr) (m d : Nat) (ls : List Lamp) (tile : Int) (w : World) (hF : ¬ Img.Fine ⟨W,H,P⟩) (hn : P.length = n) (hI : Ints w A P) (hl : n ≤ 9223372036854775807) (hL : Lamps w B ls) :
 Calls Tryz.prog 48 #[.agg #[.int .i64 W,.int .i64 H,.slice A n c],.slice B m d,.int .i64 tile] w (RetImgErr w Img.none 1):=by
 have HC:=hide (fun (W0 : World) (hb : Ints W0 A P)=>checkErr_no hF ▸ check_any W H A n c P W0 hn hb hl);have HS:=hide (litBoxes_start hI hL W H n c m d);clear hn hI hF hL;go_enter Tryz.func48,Tryz.ntmps48
 go_wp2_with fail;refine ((unhide HC) _ HS.out.2.2.2.2.1).mono ?_;rintro e w1 ⟨rfl,hE⟩;have HB:=hide (HS.out.keep hE);obtain ⟨q0,q1,q2,q3,q4,q5,q6,q7,q8,q9,q10⟩:=HB.out.cells;clear hE HS;go_wp2_with fail;refine bodyPost_ret (v:=.tuple #[.agg #[.int .i64 0,.int .i64 0,.slice none 0 0],.int .i64 1]) (by simp [results,Tryz.results48,go_sem,q5,q6,q7]) rfl ?_;exact retBoxNone (by omega) HB.out.2.2.2.1
theorem lit_lamps (W H : Int) (A : Option Addr) (n c : Nat) (P : List Int) (B : Option Addr) (m d : Nat) (ls : List Lamp) (tile : Int) (w : World) (hF : Img.Fine ⟨W,H,P⟩) (hn : P.length = n) (hI : Ints w A P) (hl : n ≤ 9223372036854775807) (hm : ls.length = m) (hL : Lamps w B ls) (hl2 : m ≤ 9223372036854775807) (hz : lampsErr ls ≠ 0) :
 Calls Tryz.prog 48 #[.agg #[.int .i64 W,.int .i64 H,.slice A n c],.slice B m d,.int .i64 tile] w (RetImgErr w Img.none (lampsErr ls)):=by
 have HC:=hide (fun (W0 : World) (hb : Ints W0 A P)=>checkErr_yes hF ▸ check_any W H A n c P W0 hn hb hl);have HC2:=hide (fun (W0 : World) (hb : Lamps W0 B ls)=>checkLights_any B m d ls W0 hm hb hl2);have HS:=hide (litBoxes_start hI hL W H n c m d);generalize lampsErr ls = z at *;have hz1 : (z != 0) = true:=by simpa using hz
 clear hn hI hF hL hm hz;go_enter Tryz.func48,Tryz.ntmps48
 go_wp2_with fail;refine ((unhide HC) _ HS.out.2.2.2.2.1).mono ?_;rintro e w1 ⟨rfl,hE⟩;have HB:=hide (HS.out.keep hE);obtain ⟨q0,q1,q2,q3,q4,q5,q6,q7,q8,q9,q10⟩:=HB.out.cells;clear hE HS;go_wp2_with fail;refine ((unhide HC2) _ HB.out.2.2.2.2.2).mono ?_;rintro e w2 ⟨rfl,hE⟩;have HB1:=hide (HB.out.keep hE);clear q0 q1 q2 q3 q4 q5 q6 q7 q8 q9 q10 hE HB;obtain ⟨q0,q1,q2,q3,q4,q5,q6,q7,q8,q9,q10⟩:=HB1.out.cells;go_wp2_with fail;refine bodyPost_ret (v:=.tuple #[.agg #[.int .i64 0,.int .i64 0,.slice none 0 0],.int .i64 z]) (by simp [results,Tryz.results48,go_sem,q5,q6,q7]) rfl ?_;exact retBoxNone (by omega) HB1.out.2.2.2.1
theorem lit_range (W H : Int) (A : Option Addr) (n c : Nat) (P : List Int) (B : Option Addr) (m d : Nat) (ls : List Lamp) (tile : Int) (w : World) (hF : Img.Fine ⟨W,H,P⟩) (hn : P.length = n) (hI : Ints w A P) (hl : n ≤ 9223372036854775807) (hm : ls.length = m) (hL : Lamps w B ls) (hl2 : m ≤ 9223372036854775807) (hz : lampsErr ls = 0) (ht : ¬ (1 ≤ tile ∧ tile ≤ 16)) :
 Calls Tryz.prog 48 #[.agg #[.int .i64 W,.int .i64 H,.slice A n c],.slice B m d,.int .i64 tile] w (RetImgErr w Img.none 3):=by
 have HC:=hide (fun (W0 : World) (hb : Ints W0 A P)=>checkErr_yes hF ▸ check_any W H A n c P W0 hn hb hl);have HC2:=hide (fun (W0 : World) (hb : Lamps W0 B ls)=>hz ▸ checkLights_any B m d ls W0 hm hb hl2);have HS:=hide (litBoxes_start hI hL W H n c m d);clear hn hI hF hL hm hz;go_enter Tryz.func48,Tryz.ntmps48
 go_wp2_with fail;refine ((unhide HC) _ HS.out.2.2.2.2.1).mono ?_;rintro e w1 ⟨rfl,hE⟩;have HB:=hide (HS.out.keep hE);obtain ⟨q0,q1,q2,q3,q4,q5,q6,q7,q8,q9,q10⟩:=HB.out.cells;clear hE HS;go_wp2_with fail;refine ((unhide HC2) _ HB.out.2.2.2.2.2).mono ?_;rintro e w2 ⟨rfl,hE⟩;have HB1:=hide (HB.out.keep hE);clear q0 q1 q2 q3 q4 q5 q6 q7 q8 q9 q10 hE HB;obtain ⟨q0,q1,q2,q3,q4,q5,q6,q7,q8,q9,q10⟩:=HB1.out.cells;go_wp2_with fail;all_goals try (exfalso; omega)
 all_goals
  refine bodyPost_ret (v:=.tuple #[.agg #[.int .i64 0,.int .i64 0,.slice none 0 0],.int .i64 3]) (by simp [results,Tryz.results48,go_sem,q5,q6,q7]) rfl ?_;exact retBoxNone (by omega) HB1.out.2.2.2.1
end Go.Proofs.YtibpmogmeoappabGreat
namespace Go.Proofs.YtibpmogmeoappabGreat
open Go.RowKit
def LitJ (w2 : World) (gp : Nat) (W H sz : Int) (ls : List Lamp) (o : Int → Int → Int) (tail : List Value) (y x : Int) (W' : World) : Prop :=
 w2.grownBy W' (some gp) ∧ PixBlk W' gp W H (tilesF ls sz o y x) tail
theorem below_grown {w w2 W' : World} {gp : Nat} (h : Below w.heap.size w w2) (hg : w2.grownBy W' (some gp)) (hgp : w.heap.size ≤ gp) : Below w.heap.size w W' :=
 h.grown hg h.size fun k hk=>by injection hk with hk; omega
theorem lit_yes (W H : Int) (A : Option Addr) (n c : Nat) (P : List Int) (B : Option Addr) (m d : Nat) (ls : List Lamp) (tile : Int) (w : World) (hF : Img.Fine ⟨W,H,P⟩) (hn : P.length = n) (hI : Ints w A P) (hl : n ≤ 9223372036854775807) (hm : ls.length = m) (hL : Lamps w B ls) (hl2 : m ≤ 9223372036854775807) (hz : lampsErr ls = 0) (ht : 1 ≤ tile ∧ tile ≤ 16) :
 Calls Tryz.prog 48 #[.agg #[.int .i64 W,.int .i64 H,.slice A n c],.slice B m d,.int .i64 tile] w (RetImgErr w (litImg ⟨W,H,P⟩ ls) 0):=by
 have HC:=hide (fun (W0 : World) (hb : Ints W0 A P)=>checkErr_yes hF ▸ check_any W H A n c P W0 hn hb hl);have HC2:=hide (fun (W0 : World) (hb : Lamps W0 B ls)=>hz ▸ checkLights_any B m d ls W0 hm hb hl2);have HC3:=hide (fun (W0 : World) (hb : Ints W0 A P)=>one_any 3 W H A n c P 0 W0 hn hb hl)
 have hans : oneAns 3 ⟨W,H,P⟩ 0 = ⟨W,H,P⟩:=by
  have e1 : oneErrAll 3 ⟨W,H,P⟩ 0 = 0:=by unfold oneErrAll; rw [if_pos hF]; rfl
  unfold oneAns;rw [if_pos e1];exact hF.eq_drawn.symm
 have HANS:=hide hans;have HS:=hide (litBoxes_start hI hL W H n c m d);have HF:=hide hF;have HN:=hide hn;have HM:=hide hm;have HZ:=hide hz;have HLW:=hide hL;obtain ⟨⟨d1,d2⟩,⟨d3,d4⟩,d5,_⟩:=hF;simp only at d1 d2 d3 d4 d5;have HD5:=hide d5;clear hn hI hL hm hz hans d5;go_enter Tryz.func48,Tryz.ntmps48
 go_wp2_with fail;refine ((unhide HC) _ HS.out.2.2.2.2.1).mono ?_;rintro e w1 ⟨rfl,hE⟩;have HB:=hide (HS.out.keep hE);obtain ⟨q0,q1,q2,q3,q4,q5,q6,q7,q8,q9,q10⟩:=HB.out.cells;clear hE HS;go_wp2_with fail;refine ((unhide HC2) _ HB.out.2.2.2.2.2).mono ?_;rintro e w2 ⟨rfl,hE⟩;have HB1:=hide (HB.out.keep hE);clear q0 q1 q2 q3 q4 q5 q6 q7 q8 q9 q10 hE HB;obtain ⟨q0,q1,q2,q3,q4,q5,q6,q7,q8,q9,q10⟩:=HB1.out.cells;go_wp2_with fail;all_goals try (exfalso; omega)
 refine ((unhide HC3) _ HB1.out.2.2.2.2.1).mono ?_;rintro e w3 ⟨W1,H1,P1,A1,n1,c1,hr,hn1,rfl,hI1,hA1,hE⟩;rw [HANS.out] at hr;injection hr with r1 r2 r3;subst r1 r2 r3;obtain ⟨gp,tail,rfl,hgp,hP⟩:=mine_pix HF.out hI1 hA1;have hnn : n1 = n:=hn1.symm.trans HN.out;subst hnn;have HB2:=hide (HB1.out.keep hE);have hP':=Blk.lt hP;have HP:=hide hP;have hgs : w.heap.size + 1 + 1 < gp:=by omega
 clear q0 q1 q2 q3 q4 q5 q6 q7 q8 q9 q10 hE HB1 hI1 hA1 hP hn1;obtain ⟨q0,q1,q2,q3,q4,q5,q6,q7,q8,q9,q10⟩:=HB2.out.cells;have z0 : w.heap.size < w3.heap.size:=by omega
 have z1 : w.heap.size + 1 < w3.heap.size:=by omega
 have z2 : ¬ w.heap.size = w3.heap.size:=by omega
 have z3 : ¬ w.heap.size + 1 = w3.heap.size:=by omega
 have z4 : ¬ w.heap.size + 1 + 1 = w3.heap.size:=by omega
 go_wp2_with fail;refine (tiles_any W1 H1 A n1 c tile _).mono ?_;rintro e w4 ⟨rfl,he4⟩;have HE4:=hide he4
 have k1 : Below w3.heap.size w3 w4:=by
  rw [← he4];exact (((Below.refl _ _).alloc (Nat.le_refl _) _).alloc (by simp) _).alloc (by simp; omega) _
 have HB3:=hide (HB2.out.keep k1);have HP1:=hide (HP.out.keep k1)
 have HGO : Hid (ImgBox w4 w3.heap.size W1 H1 (some ⟨gp,0,none⟩) n1 c1):=hide (by
  rw [← he4]
  exact ((Blk.new w3 29 [.int .i64 W1,.int .i64 H1,.slice (some ⟨gp,0,none⟩) n1 c1]).alloc _).alloc _)
 have HGA : Hid (ImgBox w4 (w3.heap.size + 1) W1 H1 A n1 c):=hide (by
  rw [← he4];have h:=(Blk.new (w3.alloc (.cells #[.int .i64 W1,.int .i64 H1,.slice (some ⟨gp,0,none⟩) n1 c1] 29)) 29 [.int .i64 W1,.int .i64 H1,.slice A n1 c]).alloc (.cells #[.int .i64 tile] 3);simp only [World.size_alloc] at h
  exact h)
 have HGS : Hid (VarBox w4 (w3.heap.size + 1 + 1) 3 (.int .i64 tile)):=hide (by
  rw [← he4];have h:=Blk.new ((w3.alloc (.cells #[.int .i64 W1,.int .i64 H1,.slice (some ⟨gp,0,none⟩) n1 c1] 29)).alloc (.cells #[.int .i64 W1,.int .i64 H1,.slice A n1 c] 29)) 3 [.int .i64 tile];simp only [World.size_alloc] at h
  exact h)
 clear z0 z1 z2 z3 z4 k1 he4 q0 q1 q2 q3 q4 q5 q6 q7 q8 q9 q10 HB2 HP HE4;obtain ⟨q0,q1,q2,q3,q4,q5,q6,q7,q8,q9,q10⟩:=HB3.out.cells;simp only [World.size_alloc];go_wp2_with fail
 refine (tiles1_any 78 #[.pointer (some ⟨w.heap.size + 1,0,none⟩),.pointer (some ⟨w3.heap.size,0,none⟩),.pointer (some ⟨w.heap.size,0,none⟩)] (w3.heap.size + 1) (w3.heap.size + 1 + 1) W1 H1 tile A n1 c
  (LitJ w4 gp W1 H1 tile ls (Img.at_ ⟨W1,H1,P1⟩) tail) _ enters_Lit1 ⟨d1,d2⟩ ⟨d3,d4⟩ ht ?_ ?_ ?_ ?_).mono ?_
 ·intro y x W' hJ
  exact ⟨Blk.grownAt HGA.out hJ.1 (by omega),Blk.grownAt HGS.out hJ.1 (by omega)⟩
 ·intro y x cw ch W' hx0 hx1 hy0 hy1 hcw hch hJ
  have hb:=hJ.1
  refine (lit1_any (w.heap.size + 1) w3.heap.size w.heap.size gp W1 H1 x y cw ch n1 c1 n1 c m d A B ls (Img.at_ ⟨W1,H1,P1⟩) (tilesF ls tile (Img.at_ ⟨W1,H1,P1⟩) y x) tail W' ⟨d1,d2⟩ ⟨d3,d4⟩ (by omega) (by omega) (by omega) (by omega)
   (Blk.grownAt HB3.out.2.1 hb (by omega)) (Blk.grownAt HGO.out hb (by omega)) (Blk.grownAt HB3.out.1 hb (by omega)) (by have:=HD5.out; have:=HN.out; omega) (by omega) (by omega) (by omega) HM.out HZ.out ?_ ?_ hJ.2).mono ?_
  ·intro W2 hg
   exact HLW.out.keep (below_grown HB3.out.2.2.2.1 (grown_trans1 hb hg) (by omega))
  ·intro a b ha0 ha1 hb0 hb1
   have:=Img.Fine.at_bd HF.out (x:=a) (y:=b) (by omega) (by simp only; omega) (by omega) (by simp only; omega);refine ⟨?_,this⟩;unfold tilesF; rw [if_neg (by omega)]
  ·rintro e W2 ⟨he,hg,hp⟩
   exact ⟨he,grown_trans1 hb hg,hp.congr fun a b ha0 ha1 hb0 hb1=>tilesF_step hcw hch a b ha0 ha1 hb1 hy0⟩
 ·intro y x W' hx hJ
  exact ⟨hJ.1,hJ.2.congr fun a b ha0 ha1 hb0 hb1=>tilesF_row hx ht.1 a b ha0 ha1⟩
 ·refine ⟨World.grownBy.refl _ _,HP1.out.congr fun a b ha0 ha1 hb0 hb1=>?_⟩
  unfold tilesF; rw [if_neg (by omega)]
 ·rintro e w5 ⟨rfl,y,hy,hJ⟩
  have hP2 : PixBlk w5 gp W1 H1 (litPix ⟨W1,H1,P1⟩ ls) tail:=hJ.2.congr fun a b ha0 ha1 hb0 hb1=>by unfold tilesF litPix; rw [if_pos (by omega)]
  have HP2:=hide hP2;have HJ1:=hide hJ.1;have HBW:=hide (below_grown HB3.out.2.2.2.1 hJ.1 (by omega));obtain ⟨s0,s1,s2,s3⟩:=ImgBox.cells (Blk.grownAt HGO.out hJ.1 (by omega));have hR:=Blk.grownAt HB3.out.2.2.1 hJ.1 (by omega);have t0 : w5.cell? ⟨w.heap.size + 1 + 1,0,none⟩ = some (.int .i64 0):=by rw [hR.cell]; rfl
  have t1 : w5.cell? ⟨w.heap.size + 1 + 1,1,none⟩ = some (.int .i64 0):=by rw [hR.cell]; rfl
  have t2 : w5.cell? ⟨w.heap.size + 1 + 1,2,none⟩ = some (.slice none 0 0):=by rw [hR.cell]; rfl
  have f0:=hR.frozen 0;have f1:=hR.frozen 1;have f2:=hR.frozen 2;clear hP2 hJ hR q0 q1 q2 q3 q4 q5 q6 q7 q8 q9 q10;go_wp2_with fail;refine bodyPost_ret (v:=.tuple #[.agg #[.int .i64 W1,.int .i64 H1,.slice (some ⟨gp,0,none⟩) n1 c1],.int .i64 0]) (by simp [results,Tryz.results48,go_sem,t0,t1,t2]) rfl ?_;refine retBox (P:=grid W1.toNat H1.toNat (litPix ⟨W1,H1,P1⟩ ls)) (B:=gp) rfl ?_ HP2.out.ints (Mine.some_ (Nat.le_refl _) HP2.out) hgs (by omega) HBW.out;rw [grid_length];have h1:=HN.out;have h2:=HD5.out;have : ((W1.toNat * H1.toNat : Nat) : Int) = W1 * H1:=by rw [Int.natCast_mul,Int.toNat_of_nonneg (by omega),Int.toNat_of_nonneg (by omega)]
  omega
theorem lit_any (W H : Int) (A : Option Addr) (n c : Nat) (P : List Int) (B : Option Addr) (m d : Nat) (ls : List Lamp) (tile : Int) (w : World) (hn : P.length = n) (hI : Ints w A P) (hl : n ≤ 9223372036854775807) (hm : ls.length = m) (hL : Lamps w B ls) (hl2 : m ≤ 9223372036854775807) :
 Calls Tryz.prog 48 #[.agg #[.int .i64 W,.int .i64 H,.slice A n c],.slice B m d,.int .i64 tile] w (RetImgErr w (litAns ⟨W,H,P⟩ ls tile) (litErr ⟨W,H,P⟩ ls tile)):=by
 by_cases hF : Img.Fine ⟨W,H,P⟩
 ·by_cases hz : lampsErr ls = 0
  ·by_cases ht : 1 ≤ tile ∧ tile ≤ 16
   ·have e : litErr ⟨W,H,P⟩ ls tile = 0:=by unfold litErr; rw [if_pos hF,if_pos hz,if_pos ht]
    have a : litAns ⟨W,H,P⟩ ls tile = litImg ⟨W,H,P⟩ ls:=if_pos e;rw [e,a];exact lit_yes W H A n c P B m d ls tile w hF hn hI hl hm hL hl2 hz ht
   ·have e : litErr ⟨W,H,P⟩ ls tile = 3:=by unfold litErr; rw [if_pos hF,if_pos hz,if_neg ht]
    have a : litAns ⟨W,H,P⟩ ls tile = Img.none:=if_neg (by omega);rw [e,a];exact lit_range W H A n c P B m d ls tile w hF hn hI hl hm hL hl2 hz ht
  ·have e : litErr ⟨W,H,P⟩ ls tile = lampsErr ls:=by unfold litErr; rw [if_pos hF,if_neg hz]
   have a : litAns ⟨W,H,P⟩ ls tile = Img.none:=if_neg (by omega);rw [e,a];exact lit_lamps W H A n c P B m d ls tile w hF hn hI hl hm hL hl2 hz
 ·have e : litErr ⟨W,H,P⟩ ls tile = 1:=by unfold litErr; rw [if_neg hF]
  have a : litAns ⟨W,H,P⟩ ls tile = Img.none:=if_neg (by omega);rw [e,a];exact lit_form W H A n c P B m d ls tile w hF hn hI hl hL
end Go.Proofs.YtibpmogmeoappabGreat
