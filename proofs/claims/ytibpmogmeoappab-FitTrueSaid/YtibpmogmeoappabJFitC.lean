/- Walks: spans put in order by insertion. -/
import Derived.Test.YtibpmogmeoappabJFitA
import Derived.Test.YtibpmogmeoappabJPlnJ
import Derived.Test.YtibpmogmeoappabJMem
import Derived.Test.YtibpmogmeoappabJExcA
set_option maxRecDepth 100000
set_option maxHeartbeats 8000000
namespace Go.Proofs.Ytibpmogmeoappab
open Go.RowKit
theorem spn_set : ∀ (m : List Spn) (j : Nat) (x : Spn),j < m.length → ((m.flatMap spnCells).set (j * 2) (.int .i64 x.First)).set (j * 2 + 1) (.int .i64 x.Last) = (m.set j x).flatMap spnCells
 | [],_,_,h=>by simp at h
 | y :: m,0,x,_=>by simp [spnCells]
 | y :: m, j + 1, x, h => by
   have ih:=spn_set m j x (by simpa using h);rw [List.flatMap_cons,List.set_cons_succ,List.flatMap_cons,← ih,show (j + 1) * 2 = j * 2 + 1 + 1 by omega];simp [spnCells]
theorem flat_len (m : List Spn) : (m.flatMap spnCells).length = m.length * 2:=by
 induction m with
 | nil=>rfl
 | cons x m ih=>rw [List.flatMap_cons,List.length_append,ih]; simp [spnCells]; omega
theorem swap_cells (m : List Spn) (ex : List Value) (j : Nat) (h0 : 0 < j) (hj : j < m.length) :
 (((((m.flatMap spnCells ++ ex).set (j * 2) (.int .i64 (spAt m (j - 1)).First)).set (j * 2 + 1) (.int .i64 (spAt m (j - 1)).Last)).set ((j - 1) * 2) (.int .i64 (spAt m j).First)).set ((j - 1) * 2 + 1) (.int .i64 (spAt m j).Last)) = (swapS m j).flatMap spnCells ++ ex:=by
 have hl:=flat_len m;rw [List.set_append_left _ _ (by omega),List.set_append_left _ _ (by rw [List.length_set]; omega),spn_set m j _ hj,List.set_append_left _ _ (by rw [flat_len,List.length_set]; omega),List.set_append_left _ _ (by rw [List.length_set,flat_len,List.length_set]; omega),spn_set _ _ _ (by rw [List.length_set]; omega)];rfl
theorem Blk.spns {w : World} {g : Nat} {m : List Spn} {ex : List Value} (h : Blk w g 41 (m.flatMap spnCells ++ ex)) : Spns w (some ⟨g,0,none⟩) m:=by
 intro i hi;obtain ⟨b,o,e,hb,hc⟩:=h.cells i (by rw [List.length_append]; omega);refine ⟨b,o,e,hb,?_⟩;rw [hc,List.getD_eq_getElem?_getD,List.getD_eq_getElem?_getD,List.getElem?_append_left hi]
theorem Blk.spn {w : World} {g : Nat} {m : List Spn} {ex : List Value} (h : Blk w g 41 (m.flatMap spnCells ++ ex)) {k : Nat} (hk : k < m.length) : w.cell? ⟨g,k * 2,none⟩ = some (.int .i64 (spAt m k).First) ∧ w.cell? ⟨g,k * 2 + 1,none⟩ = some (.int .i64 (spAt m k).Last):=by
 obtain ⟨b,o,e,hb,c0,c1⟩:=spns_atB h.spns hk;injection e with e;injection e with e1 e2;subst e1 e2;rw [Nat.zero_add] at c0 c1;exact ⟨c0,c1⟩
def SameS (l m : List Spn) : Prop:=m.length = l.length ∧ ∀ x,x ∈ m ↔ x ∈ l
theorem insSort_any (g n c : Nat) (l : List Spn) (ex : List Value) (w : World) (hn : l.length = n) (h12 : n ≤ 12) (hg : Blk w g 41 (l.flatMap spnCells ++ ex)) :
 Calls Try.prog 158 #[.slice (some ⟨g,0,none⟩) n c,.int .i64 0,.int .i64 (n : Int),.func (.func 113) #[] #[]] w fun e w'=>e = .returned (.tuple #[]) ∧ ∃ m,SortOf l m ∧ Blk w' g 41 (m.flatMap spnCells ++ ex) ∧ w.grownBy w' (some g):=by
 have HN:=hide hn;have HG0:=hide hg;have heg:=enters_of Try.func113 (by kernel_rfl) rfl;clear hn hg;go_enter Try.func158,Try.ntmps158
 go_wp2_with fail;go_loopw [8,9] (fun s8 _ wr=>∃ (i : Nat) (m : List Spn),1 ≤ i ∧ (i ≤ n ∨ i = 1) ∧ s8 = .int .i64 (i : Int) ∧ Hid (SameS l m) ∧ Hid (Part m i) ∧ Hid (Blk wr g 41 (m.flatMap spnCells ++ ex)) ∧ Hid (w.grownBy wr (some g))) (fun s8 _ _=>n - (intOf s8).toNat)
 case atStart=>exact ⟨1,l,Nat.le_refl _,.inr rfl,rfl,hide ⟨rfl,fun x=>Iff.rfl⟩,hide (fun a b h1 h2=>by omega),HG0,hide (grown_rfl _ _)⟩
 case round =>
  obtain ⟨i,m,hi1,hi2,rfl,HSM,HPT,HBK,HGR⟩:=hrel;by_cases hlt : i < n
  ·have hi0 : (0 : Int) ≤ (i : Int):=by omega
   have hin : (i : Int) < (n : Int):=by omega
   obtain ⟨wq,hwq⟩ : ∃ wq : World,wq = wr:=⟨_,rfl⟩;rw [← hwq];have HB0 : Hid (Blk wq g 41 (m.flatMap spnCells ++ ex)):=hide (by rw [hwq]; exact HBK.out);have HG1 : Hid (w.grownBy wq (some g)):=hide (by rw [hwq]; exact HGR.out);have HM0:=hide (mid_start HPT.out);have HS0:=HSM;clear HBK HGR HPT HSM;subst hwq;go_wp2_with fail;go_loopw [9] (fun s9 wr=>∃ (j : Nat) (m : List Spn),j ≤ i ∧ s9 = .int .i64 (j : Int) ∧ Hid (SameS l m) ∧ Hid (Mid m i j) ∧ Hid (Blk wr g 41 (m.flatMap spnCells ++ ex)) ∧ Hid (w.grownBy wr (some g))) (fun s9 _=>(intOf s9).toNat)
   case atStart=>exact ⟨i,m,Nat.le_refl _,rfl,HS0,HM0,HB0,HG1⟩
   case round =>
    obtain ⟨j,m,hj,rfl,HSM,HMD,HBK,HGR⟩:=hrel;have hml : m.length = n:=by rw [HSM.out.1,HN.out]
    by_cases hj0 : j = 0
    ·have HPN:=hide (mid_done HMD.out (.inl hj0))
     have hj1 : ¬ (0 : Int) < (j : Int):=by omega
     have hj4 : ¬ 0 < j:=by omega
     clear hj0;go_upto_region 4 with fail
     refine calm_region (Below wr.heap.size wr) (by kernel_rfl) (by kernel_rfl) (Below.refl _ _).drew ?_;refine calm_one (fun K hK=>⟨by kernel_rfl,.int .i64 (j : Int),fun w9 hC9=>?_,?_⟩)
     ·go_simp
     try simp only [Act.put,lsa,lsz,lss]
     refine hK _ ?_;clear hK K;refine calm_one (fun K hK=>⟨by kernel_rfl,.int .i64 0,fun w9 hC9=>?_,?_⟩)
     ·go_simp
     try simp only [Act.put,lsa,lsz,lss]
     refine hK _ ?_;clear hK K;refine calm_one (fun K hK=>⟨by kernel_rfl,.bool false,fun w9 hC9=>?_,?_⟩)
     ·go_simp
     try simp only [Act.put,lsa,lsz,lss]
     refine hK _ ?_;clear hK K;refine calm_one (fun K hK=>⟨by kernel_rfl,.bool false,fun w9 hC9=>?_,?_⟩)
     ·go_simp
     try simp only [Act.put,lsa,lsz,lss]
     refine hK _ ?_;clear hK K;refine calm_not (fun K hK=>⟨by kernel_rfl,?_⟩);try simp only [Act.put,lsa,lsz,lss]
     refine hK _ ?_;clear hK K;refine calm_not (fun K hK=>⟨by kernel_rfl,?_⟩);try simp only [Act.put,lsa,lsz,lss]
     refine hK _ ?_;clear hK K;refine calm_not (fun K hK=>⟨by kernel_rfl,?_⟩);try simp only [Act.put,lsa,lsz,lss]
     refine hK _ ?_;clear hK K;refine calm_not (fun K hK=>⟨by kernel_rfl,?_⟩);try simp only [Act.put,lsa,lsz,lss]
     refine hK _ ?_;clear hK K;refine calm_not (fun K hK=>⟨by kernel_rfl,?_⟩);try simp only [Act.put,lsa,lsz,lss]
     refine hK _ ?_;clear hK K;refine calm_not (fun K hK=>⟨by kernel_rfl,?_⟩);try simp only [Act.put,lsa,lsz,lss]
     refine hK _ ?_;clear hK K;refine calm_not (fun K hK=>⟨by kernel_rfl,?_⟩);try simp only [Act.put,lsa,lsz,lss]
     refine hK _ ?_;clear hK K;refine calm_not (fun K hK=>⟨by kernel_rfl,?_⟩);try simp only [Act.put,lsa,lsz,lss]
     refine hK _ ?_;clear hK K;refine calm_not (fun K hK=>⟨by kernel_rfl,?_⟩);try simp only [Act.put,lsa,lsz,lss]
     refine hK _ ?_;clear hK K;refine calm_not (fun K hK=>⟨by kernel_rfl,?_⟩);try simp only [Act.put,lsa,lsz,lss]
     refine hK _ ?_;clear hK K;refine calm_not (fun K hK=>⟨by kernel_rfl,?_⟩);try simp only [Act.put,lsa,lsz,lss]
     refine hK _ ?_;clear hK K;refine calm_not (fun K hK=>⟨by kernel_rfl,?_⟩);try simp only [Act.put,lsa,lsz,lss]
     refine hK _ ?_;clear hK K;refine calm_one (fun K hK=>⟨by kernel_rfl,.bool false,fun w9 hC9=>?_,?_⟩)
     ·go_simp
     try simp only [Act.put,lsa,lsz,lss]
     refine hK _ ?_;clear hK K;refine calm_nil ?_;intro w9 hC9;go_wp2_with fail;go_roundw
     case rel=>exact ⟨i + 1,m,by omega,.inl (by omega),by go_num,HSM,HPN,hide (HBK.out.keep hC9),hide (grown_trB HGR.out (grown_ofB hC9 _))⟩
     case measure=>simp [intOf]; omega
    ·obtain ⟨jp,hjp⟩ : ∃ jp : Nat,j = jp + 1:=⟨j - 1,by omega⟩
     have hj1 : (0 : Int) < (j : Int):=by omega
     have hj2 : (0 : Int) ≤ (j : Int):=by omega
     have hj4 : 0 < j:=by omega
     have hj3 : (j : Int) < (n : Int):=by omega
     have hp0 : (0 : Int) ≤ (jp : Int):=by omega
     have hp1 : (jp : Int) < (n : Int):=by omega
     have hsub : (j : Int) - 1 = (jp : Int):=by omega
     have hwr : IntKind.i64.wrap (jp : Int) = (jp : Int):=IntWalk.i64_in _ (by omega);have hjm : j < m.length:=by omega
     obtain ⟨a0,a1⟩:=HBK.out.spn (k:=j) hjm;obtain ⟨b0,b1⟩:=HBK.out.spn (k:=jp) (by omega);have HKS:=hide (show Keeps wr (fun w' : World=>w'.cell? ⟨g,j * 2,none⟩ = some (.int .i64 (spAt m j).First) ∧ w'.cell? ⟨g,j * 2 + 1,none⟩ = some (.int .i64 (spAt m j).Last) ∧ w'.cell? ⟨g,jp * 2,none⟩ = some (.int .i64 (spAt m jp).First) ∧ w'.cell? ⟨g,jp * 2 + 1,none⟩ = some (.int .i64 (spAt m jp).Last)) from ⟨⟨a0,a1,b0,b1⟩,fun _ hb=>⟨keepC hb a0,keepC hb a1,keepC hb b0,keepC hb b1⟩⟩);have hjq : jp = j - 1:=by omega
     obtain ⟨r,hr⟩ : ∃ r,cmpS (spAt m j) (spAt m jp) = r:=⟨_,rfl⟩;have HCM:=hide (fun W0 : World=>(show Calls Try.prog 113 #[.agg #[.int .i64 (spAt m j).First,.int .i64 (spAt m j).Last],.agg #[.int .i64 (spAt m jp).First,.int .i64 (spAt m jp).Last]] W0 (fun e w'=>e = .returned (.int .i64 r) ∧ Below W0.heap.size W0 w') from by rw [← hr]; exact place1_any _ _ W0));have HRR:=hide (show r < 0 ↔ fa m j < fa m (j - 1) from by rw [← hr,cmpS_lt,hjq]; rfl);have HJQ:=hide hjq;have HJM:=hide hjm;clear hr hjp hjq hjm hml a0 a1 b0 b1;by_cases hr0 : r < 0
     ·have HLT:=hide (HRR.out.1 hr0)
      go_upto_region 4 with fail
      refine calm_region (Below wr.heap.size wr) (by kernel_rfl) (by kernel_rfl) (Below.refl _ _).drew ?_;refine calm_one (fun K hK=>⟨by kernel_rfl,.int .i64 (j : Int),fun w9 hC9=>?_,?_⟩)
      ·go_simp
      try simp only [Act.put,lsa,lsz,lss]
      refine hK _ ?_;clear hK K;refine calm_one (fun K hK=>⟨by kernel_rfl,.int .i64 0,fun w9 hC9=>?_,?_⟩)
      ·go_simp
      try simp only [Act.put,lsa,lsz,lss]
      refine hK _ ?_;clear hK K;refine calm_one (fun K hK=>⟨by kernel_rfl,.bool true,fun w9 hC9=>?_,?_⟩)
      ·go_simp
      try simp only [Act.put,lsa,lsz,lss]
      refine hK _ ?_;clear hK K;refine calm_one (fun K hK=>⟨by kernel_rfl,.bool true,fun w9 hC9=>?_,?_⟩)
      ·go_simp
      try simp only [Act.put,lsa,lsz,lss]
      refine hK _ ?_;clear hK K;refine calm_one (fun K hK=>⟨by kernel_rfl,.func (.func 113) #[] #[],fun w9 hC9=>?_,?_⟩)
      ·go_simp
      try simp only [Act.put,lsa,lsz,lss]
      refine hK _ ?_;clear hK K;refine calm_one (fun K hK=>⟨by kernel_rfl,.slice (some ⟨g,0,none⟩) n c,fun w9 hC9=>?_,?_⟩)
      ·go_simp
      try simp only [Act.put,lsa,lsz,lss]
      refine hK _ ?_;clear hK K;refine calm_one (fun K hK=>⟨by kernel_rfl,.int .i64 (j : Int),fun w9 hC9=>?_,?_⟩)
      ·go_simp
      try simp only [Act.put,lsa,lsz,lss]
      refine hK _ ?_;clear hK K;refine calm_one (fun K hK=>⟨by kernel_rfl,.pointer (some ⟨g,j * 2,none⟩),fun w9 hC9=>?_,?_⟩)
      ·go_simp
      try simp only [Act.put,lsa,lsz,lss]
      refine hK _ ?_;clear hK K;refine calm_one (fun K hK=>⟨by kernel_rfl,.agg #[.int .i64 (spAt m j).First,.int .i64 (spAt m j).Last],fun w9 hC9=>?_,?_⟩)
      ·obtain ⟨s0,s1,s2,s3⟩:=HKS.out.later _ hC9
       go_simp
      try simp only [Act.put,lsa,lsz,lss]
      refine hK _ ?_;clear hK K;refine calm_one (fun K hK=>⟨by kernel_rfl,.slice (some ⟨g,0,none⟩) n c,fun w9 hC9=>?_,?_⟩)
      ·go_simp
      try simp only [Act.put,lsa,lsz,lss]
      refine hK _ ?_;clear hK K;refine calm_one (fun K hK=>⟨by kernel_rfl,.int .i64 (j : Int),fun w9 hC9=>?_,?_⟩)
      ·go_simp
      try simp only [Act.put,lsa,lsz,lss]
      refine hK _ ?_;clear hK K;refine calm_one (fun K hK=>⟨by kernel_rfl,.int .i64 (jp : Int),fun w9 hC9=>?_,?_⟩)
      ·go_simp
      try simp only [Act.put,lsa,lsz,lss]
      refine hK _ ?_;clear hK K;refine calm_one (fun K hK=>⟨by kernel_rfl,.pointer (some ⟨g,jp * 2,none⟩),fun w9 hC9=>?_,?_⟩)
      ·go_simp
      try simp only [Act.put,lsa,lsz,lss]
      refine hK _ ?_;clear hK K;refine calm_one (fun K hK=>⟨by kernel_rfl,.agg #[.int .i64 (spAt m jp).First,.int .i64 (spAt m jp).Last],fun w9 hC9=>?_,?_⟩)
      ·obtain ⟨s0,s1,s2,s3⟩:=HKS.out.later _ hC9
       go_simp
      try simp only [Act.put,lsa,lsz,lss]
      refine hK _ ?_;clear hK K;refine calm_one (fun K hK=>⟨by kernel_rfl,.int .i64 r,fun w9 hC9=>?_,?_⟩)
      ·go_simp
       go_at_call 113;refine ((unhide HCM) _).mono ?_;rintro e w8 ⟨rfl,hE8⟩;exact ⟨rfl,hC9.trans (hE8.mono hC9.size)⟩
      try simp only [Act.put,lsa,lsz,lss]
      refine hK _ ?_;clear hK K;refine calm_one (fun K hK=>⟨by kernel_rfl,.bool true,fun w9 hC9=>?_,?_⟩)
      ·go_simp
      try simp only [Act.put,lsa,lsz,lss]
      refine hK _ ?_;clear hK K;refine calm_one (fun K hK=>⟨by kernel_rfl,.bool true,fun w9 hC9=>?_,?_⟩)
      ·go_simp
      try simp only [Act.put,lsa,lsz,lss]
      refine hK _ ?_;clear hK K;refine calm_nil ?_;intro w9 hC9;go_upto_region 6 with fail
      have HB9:=hide (HBK.out.keep hC9);have HG9:=hide (grown_trB HGR.out (grown_ofB hC9 _));obtain ⟨a0,a1,b0,b1⟩:=HKS.out.later _ hC9;have f0:=HB9.out.frozen (j * 2);have f1:=HB9.out.frozen (j * 2 + 1);have f2:=HB9.out.frozen (jp * 2);have f3:=HB9.out.frozen (jp * 2 + 1);have hS0 : (fun w' : World=>w'.cell? ⟨g,j * 2,none⟩ = some (.int .i64 (spAt m j).First) ∧ w'.cell? ⟨g,j * 2 + 1,none⟩ = some (.int .i64 (spAt m j).Last) ∧ w'.cell? ⟨g,jp * 2,none⟩ = some (.int .i64 (spAt m jp).First) ∧ w'.cell? ⟨g,jp * 2 + 1,none⟩ = some (.int .i64 (spAt m jp).Last)) w9.drew:=⟨a0,a1,b0,b1⟩;refine wp_region_B (fun w' : World=>w'.cell? ⟨g,j * 2,none⟩ = some (.int .i64 (spAt m j).First) ∧ w'.cell? ⟨g,j * 2 + 1,none⟩ = some (.int .i64 (spAt m j).Last) ∧ w'.cell? ⟨g,jp * 2,none⟩ = some (.int .i64 (spAt m jp).First) ∧ w'.cell? ⟨g,jp * 2 + 1,none⟩ = some (.int .i64 (spAt m jp).Last)) (fun i=>decide (i = 15) || decide (i = 17)) (by kernel_rfl) ?_;refine AnyB.fr (i:=0) (.slice (some ⟨g,0,none⟩) n c) rfl (by kernel_rfl) (fun w'=>?_) ?_
      ·go_simp
      try simp only [Act.put,lsa]
      refine AnyB.fr (i:=1) (.int .i64 (j : Int)) rfl (by kernel_rfl) (fun w'=>?_) ?_
      ·go_simp
      try simp only [Act.put]
      refine AnyB.fr (i:=2) (.slice (some ⟨g,0,none⟩) n c) rfl (by kernel_rfl) (fun w'=>?_) ?_
      ·go_simp
      try simp only [Act.put]
      refine AnyB.fr (i:=3) (.int .i64 (j : Int)) rfl (by kernel_rfl) (fun w'=>?_) ?_
      ·go_simp
      try simp only [Act.put]
      refine AnyB.fr (i:=4) (.int .i64 (jp : Int)) rfl (by kernel_rfl) (fun w'=>?_) ?_
      ·go_simp
      try simp only [Act.put]
      refine AnyB.fr (i:=5) (.slice (some ⟨g,0,none⟩) n c) rfl (by kernel_rfl) (fun w'=>?_) ?_
      ·go_simp
      try simp only [Act.put]
      refine AnyB.fr (i:=6) (.int .i64 (j : Int)) rfl (by kernel_rfl) (fun w'=>?_) ?_
      ·go_simp
      try simp only [Act.put]
      refine AnyB.fr (i:=7) (.int .i64 (jp : Int)) rfl (by kernel_rfl) (fun w'=>?_) ?_
      ·go_simp
      try simp only [Act.put]
      refine AnyB.fr (i:=8) (.pointer (some ⟨g,jp * 2,none⟩)) rfl (by kernel_rfl) (fun w'=>?_) ?_
      ·go_simp
      try simp only [Act.put]
      refine AnyB.tk (i:=9) (.agg #[.int .i64 (spAt m jp).First,.int .i64 (spAt m jp).Last]) rfl (by kernel_rfl) (fun w' hS'=>?_) hS0 ?_
      ·obtain ⟨e0,e1,e2,e3⟩:=hS'
       go_simp
      try simp only [Act.put]
      refine AnyB.fr (i:=10) (.slice (some ⟨g,0,none⟩) n c) rfl (by kernel_rfl) (fun w'=>?_) ?_
      ·go_simp
      try simp only [Act.put]
      refine AnyB.fr (i:=11) (.int .i64 (j : Int)) rfl (by kernel_rfl) (fun w'=>?_) ?_
      ·go_simp
      try simp only [Act.put]
      refine AnyB.fr (i:=12) (.pointer (some ⟨g,j * 2,none⟩)) rfl (by kernel_rfl) (fun w'=>?_) ?_
      ·go_simp
      try simp only [Act.put]
      refine AnyB.tk (i:=13) (.agg #[.int .i64 (spAt m j).First,.int .i64 (spAt m j).Last]) rfl (by kernel_rfl) (fun w' hS'=>?_) hS0 ?_
      ·obtain ⟨e0,e1,e2,e3⟩:=hS'
       go_simp
      try simp only [Act.put]
      refine AnyB.fr (i:=14) (.pointer (some ⟨g,j * 2,none⟩)) rfl (by kernel_rfl) (fun w'=>?_) ?_
      ·go_simp
      try simp only [Act.put]
      refine AnyB.one (i:=15) (by kernel_rfl) rfl (fun K hK=>?_)
      go_simp;refine hK.out _ _ (fun h _=>by cases h) ?_;clear hK K;try simp only [Act.put,lsa,lsz,lss]
      refine AnyB.fr (i:=16) (.pointer (some ⟨g,jp * 2,none⟩)) rfl (by kernel_rfl) (fun w'=>?_) ?_
      ·go_simp
      try simp only [Act.put]
      refine AnyB.one (i:=17) (by kernel_rfl) rfl (fun K hK=>?_)
      go_simp;refine hK.out _ _ (fun h _=>by cases h) ?_;clear hK K;try simp only [Act.put,lsa,lsz,lss]
      refine AnyB.done (by kernel_rfl) ?_;have hb:=(((HB9.out.set_ (j * 2) (.int .i64 (spAt m jp).First)).set_ (j * 2 + 1) (.int .i64 (spAt m jp).Last)).set_ (jp * 2) (.int .i64 (spAt m j).First)).set_ (jp * 2 + 1) (.int .i64 (spAt m j).Last);have hsw:=swap_cells m ex j hj4 HJM.out;rw [← HJQ.out] at hsw;rw [hsw] at hb;have HBX:=hide hb.drew;have HGX:=hide (grown_trB (grown_trB (grown_trB (grown_trB (grown_trB HG9.out (grown_put w9 ⟨g,j * 2,none⟩ (.int .i64 (spAt m jp).First))) (grown_put _ ⟨g,j * 2 + 1,none⟩ (.int .i64 (spAt m jp).Last))) (grown_put _ ⟨g,jp * 2,none⟩ (.int .i64 (spAt m j).First))) (grown_put _ ⟨g,jp * 2 + 1,none⟩ (.int .i64 (spAt m j).Last))) (grown_ofB (Below.refl _ _).drew _));have HMS:=hide (mid_swap HMD.out (by rw [HSM.out.1,HN.out]; exact hlt) hj4 HLT.out);rw [← HJQ.out] at HMS;clear hb hsw a0 a1 b0 b1 f0 f1 f2 f3 hS0;go_wp2_with fail;go_roundw
      case rel=>exact ⟨jp,swapS m j,by have:=HJQ.out; omega,by first | rfl | go_num,hide ⟨by rw [swapS_len]; exact HSM.out.1,fun x=>(mem_swap hj4 HJM.out).trans (HSM.out.2 x)⟩,HMS,HBX,HGX⟩
      case measure=>have:=HJQ.out; simp [intOf]; omega
     ·have HPN:=hide (mid_done HMD.out (.inr (fun h=>hr0 (HRR.out.2 h))))
      go_upto_region 4 with fail
      refine calm_region (Below wr.heap.size wr) (by kernel_rfl) (by kernel_rfl) (Below.refl _ _).drew ?_;refine calm_one (fun K hK=>⟨by kernel_rfl,.int .i64 (j : Int),fun w9 hC9=>?_,?_⟩)
      ·go_simp
      try simp only [Act.put]
      refine hK _ ?_;clear hK K;refine calm_one (fun K hK=>⟨by kernel_rfl,.int .i64 0,fun w9 hC9=>?_,?_⟩)
      ·go_simp
      try simp only [Act.put,lsa,lsz,lss]
      refine hK _ ?_;clear hK K;refine calm_one (fun K hK=>⟨by kernel_rfl,.bool true,fun w9 hC9=>?_,?_⟩)
      ·go_simp
      try simp only [Act.put]
      refine hK _ ?_;clear hK K;refine calm_one (fun K hK=>⟨by kernel_rfl,.bool true,fun w9 hC9=>?_,?_⟩)
      ·go_simp
      try simp only [Act.put,lsa,lsz,lss]
      refine hK _ ?_;clear hK K;refine calm_one (fun K hK=>⟨by kernel_rfl,.func (.func 113) #[] #[],fun w9 hC9=>?_,?_⟩)
      ·go_simp
      try simp only [Act.put]
      refine hK _ ?_;clear hK K;refine calm_one (fun K hK=>⟨by kernel_rfl,.slice (some ⟨g,0,none⟩) n c,fun w9 hC9=>?_,?_⟩)
      ·go_simp
      try simp only [Act.put,lsa,lsz,lss]
      refine hK _ ?_;clear hK K;refine calm_one (fun K hK=>⟨by kernel_rfl,.int .i64 (j : Int),fun w9 hC9=>?_,?_⟩)
      ·go_simp
      try simp only [Act.put]
      refine hK _ ?_;clear hK K;refine calm_one (fun K hK=>⟨by kernel_rfl,.pointer (some ⟨g,j * 2,none⟩),fun w9 hC9=>?_,?_⟩)
      ·go_simp
      try simp only [Act.put,lsa,lsz,lss]
      refine hK _ ?_;clear hK K;refine calm_one (fun K hK=>⟨by kernel_rfl,.agg #[.int .i64 (spAt m j).First,.int .i64 (spAt m j).Last],fun w9 hC9=>?_,?_⟩)
      ·obtain ⟨s0,s1,s2,s3⟩:=HKS.out.later _ hC9
       go_simp
      try simp only [Act.put]
      refine hK _ ?_;clear hK K;refine calm_one (fun K hK=>⟨by kernel_rfl,.slice (some ⟨g,0,none⟩) n c,fun w9 hC9=>?_,?_⟩)
      ·go_simp
      try simp only [Act.put,lsa,lsz,lss]
      refine hK _ ?_;clear hK K;refine calm_one (fun K hK=>⟨by kernel_rfl,.int .i64 (j : Int),fun w9 hC9=>?_,?_⟩)
      ·go_simp
      try simp only [Act.put]
      refine hK _ ?_;clear hK K;refine calm_one (fun K hK=>⟨by kernel_rfl,.int .i64 (jp : Int),fun w9 hC9=>?_,?_⟩)
      ·go_simp
      try simp only [Act.put,lsa,lsz,lss]
      refine hK _ ?_;clear hK K;refine calm_one (fun K hK=>⟨by kernel_rfl,.pointer (some ⟨g,jp * 2,none⟩),fun w9 hC9=>?_,?_⟩)
      ·go_simp
      try simp only [Act.put,lsa,lsz,lss]
      refine hK _ ?_;clear hK K;refine calm_one (fun K hK=>⟨by kernel_rfl,.agg #[.int .i64 (spAt m jp).First,.int .i64 (spAt m jp).Last],fun w9 hC9=>?_,?_⟩)
      ·obtain ⟨s0,s1,s2,s3⟩:=HKS.out.later _ hC9
       go_simp
      try simp only [Act.put,lsa]
      refine hK _ ?_;clear hK K;refine calm_one (fun K hK=>⟨by kernel_rfl,.int .i64 r,fun w9 hC9=>?_,?_⟩)
      ·go_simp
       go_at_call 113;refine ((unhide HCM) _).mono ?_;rintro e w8 ⟨rfl,hE8⟩;exact ⟨rfl,hC9.trans (hE8.mono hC9.size)⟩
      try simp only [Act.put,lsa,lsz,lss]
      refine hK _ ?_;clear hK K;refine calm_one (fun K hK=>⟨by kernel_rfl,.bool false,fun w9 hC9=>?_,?_⟩)
      ·go_simp
      try simp only [Act.put,lsa,lsz,lss]
      refine hK _ ?_;clear hK K;refine calm_one (fun K hK=>⟨by kernel_rfl,.bool false,fun w9 hC9=>?_,?_⟩)
      ·go_simp
      try simp only [Act.put,lsa,lsz,lss]
      refine hK _ ?_;clear hK K;refine calm_nil ?_;intro w9 hC9;go_wp2_with fail;go_roundw
      case rel=>exact ⟨i + 1,m,by omega,.inl (by omega),by go_num,HSM,HPN,hide (HBK.out.keep hC9),hide (grown_trB HGR.out (grown_ofB hC9 _))⟩
      case measure=>simp [intOf]; omega
  ·go_wp2_with fail
   go_end0
   refine ⟨rfl,m,⟨HSM.out.1,part_all (fun a b h1 h2=>HPT.out a b h1 (by have:=HSM.out.1; have:=HN.out; omega)),HSM.out.2⟩,HBK.out,HGR.out⟩
end Go.Proofs.Ytibpmogmeoappab
namespace Go.Proofs.Ytibpmogmeoappab
open Go.RowKit Go.Shelf
theorem insSort_nil (A : Option Addr) (c : Nat) (w : World) :
 Calls Try.prog 158 #[.slice A 0 c,.int .i64 0,.int .i64 0,.func (.func 113) #[] #[]] w fun e w'=>e = .returned (.tuple #[]) ∧ w = w':=by
 go_enter Try.func158,Try.ntmps158
 go_wp2_with fail;go_loopw [8,9] (fun s8 _ wr=>s8 = .int .i64 1 ∧ w = wr) (fun _ _ _=>0)
 case atStart=>exact ⟨rfl,rfl⟩
 case round =>
  obtain ⟨rfl,rfl⟩:=hrel;go_wp2_with fail;go_end0
  exact ⟨rfl,rfl⟩
def RetSort (w : World) (g : Nat) (l : List Spn) (ex : List Value) (e : Ending) (w' : World) : Prop:=e = .returned (.tuple #[]) ∧ ∃ m,SortOf l m ∧ Blk w' g 41 (m.flatMap spnCells ++ ex) ∧ w.grownBy w' (some g)
theorem pdq_any (D : Value) (n : Nat) (lim : Int) (h12 : n ≤ 12) (w : World) (R : Ending → World → Prop) (hins : Calls Try.prog 158 #[D,.int .i64 0,.int .i64 (n : Int),.func (.func 113) #[] #[]] w (fun e w'=>e = .returned (.tuple #[]) ∧ R (.returned (.tuple #[])) w')) :
 Calls Try.prog 155 #[D,.int .i64 0,.int .i64 (n : Int),.int .i64 lim,.func (.func 113) #[] #[]] w R:=by
 have HI:=hide hins;have hwr : IntKind.i64.wrap (n : Int) = (n : Int):=IntWalk.i64_in _ (by omega);have hn : (n : Int) ≤ 12:=by omega
 clear hins;go_enter Try.func155,Try.ntmps155
 go_wp2_with fail;go_loopw [1,2,3,10,11,12] (fun s1 s2 _ _ _ _ wr=>s1 = .int .i64 0 ∧ s2 = .int .i64 (n : Int) ∧ w = wr) (fun _ _ _ _ _ _ _=>0)
 case atStart=>exact ⟨rfl,rfl,rfl⟩
 case round =>
  obtain ⟨rfl,rfl,rfl⟩:=hrel;go_wp2_with fail;refine (unhide HI).mono ?_;rintro e w1 ⟨rfl,hR⟩;have HR:=hide hR;clear hR;go_wp2_with fail;go_end0
  exact HR.out
theorem sortFunc_run (D : Option Addr) (n c : Nat) (h12 : n ≤ 12) (w : World) (R : Ending → World → Prop) (hins : Calls Try.prog 158 #[.slice D n c,.int .i64 0,.int .i64 (n : Int),.func (.func 113) #[] #[]] w (fun e w'=>e = .returned (.tuple #[]) ∧ R (.returned (.tuple #[])) w')) :
 Calls Try.prog 138 #[.slice D n c,.func (.func 113) #[] #[]] w fun e w'=>e = .returned (.tuple #[]) ∧ R (.returned (.tuple #[])) w':=by
 have HI:=hide (fun lim : Int=>pdq_any (.slice D n c) n lim h12 w (fun e w'=>e = .returned (.tuple #[]) ∧ R (.returned (.tuple #[])) w') (hins.mono fun e w' h=>⟨h.1,rfl,h.2⟩));have hn0 : (0 : Int) ≤ (n : Int):=by omega
 have HL:=hide (len_any (n : Int) w (by omega) (by omega));have hwr : IntKind.u64.wrap (n : Int) = (n : Int):=by simp [IntKind.wrap,IntKind.bits,IntKind.signed]; omega
 clear hins;go_enter Try.func138,Try.ntmps138
 go_wp2_with fail;refine (unhide HL).mono ?_;rintro e w1 ⟨⟨v,rfl⟩,rfl⟩;go_wp2_with fail;refine ((unhide HI) v).mono ?_;rintro e w1 ⟨rfl,hR⟩;have HR:=hide hR;clear hR;go_wp2_with fail;go_end0
 exact ⟨rfl,HR.out⟩
def RetOrdered (w : World) (l : List Spn) (e : Ending) (w' : World) : Prop:=∃ (G : Option Addr) (c : Nat) (m : List Spn),e = .returned (.slice G l.length c) ∧ SortOf l m ∧ Spns w' G m ∧ Below w.heap.size w w'
theorem sorted_any (Bs len cap : Nat) (A : Option Addr) (l : List Spn) (w : World) (hl : l.length = len) (hlen : len ≤ 12) (hcb : w.cell? ⟨Bs,0,none⟩ = some (.slice A len cap)) (hS : Spns w A l) :
 Calls Try.prog 111 #[.func (.func 139) #[] #[.pointer (some ⟨Bs,0,none⟩)],.func (.func 113) #[] #[]] w (RetOrdered w l):=by
 have HC:=hide (collect_any Bs len cap A l w hl (by omega) hcb hS);have HL:=hide (show l.length ≤ 12 from by omega);clear hl hlen hcb hS;go_enter Try.func111,Try.ntmps111
 go_wp2_with fail;refine (unhide HC).mono ?_;rintro e w1 ⟨G,c,rfl,hO,hE⟩
 have hgo : Calls Try.prog 138 #[.slice G l.length c,.func (.func 113) #[] #[]] w1 fun e w'=>e = .returned (.tuple #[]) ∧ ∃ m,SortOf l m ∧ Spns w' G m ∧ Below w.heap.size w w':=by
  rcases hO.2 with ⟨e0,h0⟩ | ⟨g,cap',cur,hv,hb,hg,h1,h2,h3,h4⟩
  ·injection e0 with e1 e2 e3
   subst e1 e3;have hl0 : l = []:=List.length_eq_zero_iff.1 h0;subst hl0;exact sortFunc_run none 0 0 (by omega) w1 (fun _ w'=>∃ m,SortOf [] m ∧ Spns w' none m ∧ Below w.heap.size w w') ((insSort_nil none 0 w1).mono fun e w' ⟨he,hw⟩=>⟨he,[],⟨rfl,List.Pairwise.nil,fun x=>Iff.rfl⟩,Cells.nil _ _,hw ▸ hE⟩)
  ·injection hv with e1 e2 e3
   subst e1 e3;have hcur : cur.toList = l.flatMap spnCells ++ cur.toList.drop (l.length * 2):=by rw [← h4,List.take_append_drop]
   have hblk : Blk w1 g 41 (l.flatMap spnCells ++ cur.toList.drop (l.length * 2)):=by
    unfold Blk;rw [← hcur]
    simpa using hg
   refine sortFunc_run (some ⟨g,0,none⟩) l.length c HL.out w1 (fun _ w'=>∃ m,SortOf l m ∧ Spns w' (some ⟨g,0,none⟩) m ∧ Below w.heap.size w w') ((insSort_any g l.length c l _ w1 rfl HL.out hblk).mono fun e w' ⟨he,m,hm,hk,hgr⟩=>⟨he,m,hm,hk.spns,?_⟩);exact below_of_grown (grown_trB (grown_ofB hE _) hgr) (Nat.le_refl _) hb
 have HGO:=hide hgo;clear hgo HC hO hE HL;go_wp2_with fail;refine (unhide HGO).mono ?_;rintro e w2 ⟨rfl,m,hm,hS,hE⟩;have HM:=hide hm;have HS:=hide hS;have HE:=hide hE;clear hm hS hE HGO;go_wp2_with fail;go_ret;exact ⟨G,c,m,rfl,HM.out,HS.out,HE.out⟩
theorem values_any (a : Option Addr) (len cap : Nat) (w : World) :
 Calls Try.prog 112 #[.slice a len cap] w fun e w'=>e = .returned (.func (.func 139) #[] #[.pointer (some ⟨w.heap.size,0,none⟩)]) ∧ w' = w.alloc (.cells #[.slice a len cap] 32) :=
 (callsIn_wide (n:=6)).1 (values_in Fence.wide 6 trivial rfl a len cap w)
theorem drop_sp {m : List Spn} {j : Nat} (h : j < m.length) : m.drop j = spAt m j :: m.drop (j + 1):=by
 rw [List.drop_eq_getElem_cons h];unfold spAt;rw [List.getD_eq_getElem?_getD,List.getElem?_eq_getElem h];rfl
theorem place_any (A : Option Addr) (n c : Nat) (l : List Spn) (size : Int) (w : World) (hn : l.length = n) (h12 : n ≤ 12) (hS : Spns w A l) (hsz : 1 ≤ size ∧ size ≤ 4096) (hl : ∀ x ∈ l,(0 ≤ x.First ∧ x.First ≤ 4096) ∧ (0 ≤ x.Last ∧ x.Last ≤ 4096)) :
 Calls Try.prog 81 #[.slice A n c,.int .i64 size] w (RetE w (placeOf l size)):=by
 have hal : Below w.heap.size w (w.alloc (.cells #[.slice A n c] 32)):=(Below.refl _ _).alloc (Nat.le_refl _) _;have HSF:=hide (sorted_any w.heap.size n c A l (w.alloc (.cells #[.slice A n c] 32)) hn h12 ((Blk.new w 32 [.slice A n c]).cell 0) (Cells.keep hS hal));have HAL:=hide hal;have HL:=hide hl;have HN:=hide hn;clear hal hn hS hl;go_enter Try.func81,Try.ntmps81
 go_wp2_with fail;refine (values_any _ _ _ _).mono ?_;rintro e w1 ⟨rfl,rfl⟩;go_wp2_with fail;refine (unhide HSF).mono ?_;rintro e w1 ⟨G,cg,m,rfl,hm,hSm,hE⟩;have hml : m.length = n:=by rw [hm.1]; exact HN.out
 have HM:=hide (show gapFrom size m 0 = placeOf l size from gap_eq hm.2.1 hm.2.2);have HBD:=hide (fun k (hk : k < m.length)=>HL.out (spAt m k) ((hm.2.2 _).1 (spAt_mem hk)));have HSM:=hide (show Keeps w1 (fun W=>Spns W G m) from ⟨hSm,fun _ hb=>Cells.keep hSm hb⟩);have HE:=hide (HAL.out.trans (hE.mono HAL.out.size));have HML:=hide hml;have hln : l.length = n:=HN.out;rw [hln];clear hm hSm hE hml HSF HAL HL hln;go_wp2_with fail;go_loopw [6,8,14] (fun s6 _ s14 wr=>∃ (j : Nat) (a : Int),j ≤ n ∧ s14 = .int .i64 (j : Int) ∧ s6 = .int .i64 a ∧ (0 ≤ a ∧ a ≤ 4097) ∧ Hid (gapFrom size (m.drop j) a = placeOf l size) ∧ Hid (Below w1.heap.size w1 wr)) (fun _ _ s14 _=>n - (intOf s14).toNat)
 case atStart=>exact ⟨0,0,Nat.zero_le _,rfl,rfl,by omega,hide HM.out,hide (Below.refl _ _)⟩
 case round =>
  obtain ⟨j,a,hj,rfl,rfl,ha,HG,HB⟩:=hrel;by_cases hlt : j < n
  ·have hj0 : (0 : Int) ≤ (j : Int):=by omega
   have hj1 : (j : Int) < (n : Int):=by omega
   have hjm : j < m.length:=by rw [HML.out]; exact hlt
   obtain ⟨b,off,rfl,hb,c0,c1⟩:=spns_atB (HSM.out.later _ HB.out) hjm;have hbd:=HBD.out j hjm;have hg:=HG.out;rw [drop_sp hjm,gapFrom] at hg;obtain ⟨xf,hxf⟩ : ∃ xf,(spAt m j).First = xf:=⟨_,rfl⟩;obtain ⟨xl,hxl⟩ : ∃ xl,(spAt m j).Last = xl:=⟨_,rfl⟩;rw [hxf] at c0 hbd hg;rw [hxl] at c1 hbd hg;have hw1 : IntKind.i64.wrap (a + size) = a + size:=IntWalk.i64_in _ (by omega);have hw2 : IntKind.i64.wrap (xl + 1) = xl + 1:=IntWalk.i64_in _ (by omega);have hal : Below w1.heap.size w1 (wr.alloc (.cells #[.int .i64 xf,.int .i64 xl] 41)):=HB.out.alloc HB.out.size _;have HA9:=hide hal;have hbx:=Blk.new wr 41 [.int .i64 xf,.int .i64 xl];clear hxf hxl hal;by_cases hle : a + size ≤ xf
   ·rw [if_pos hle] at hg
    have HR:=hide hg;clear hg HG hbx;go_wp2_with fail;all_goals try (exfalso; omega)
    go_ret;exact ⟨ret_int HR.out,HE.out.trans (HA9.out.mono HE.out.size)⟩
   ·rw [if_neg hle] at hg
    have HR:=hide hg;obtain ⟨mx,hmx⟩ : ∃ mx,max a (xl + 1) = mx:=⟨_,rfl⟩;have hmb : 0 ≤ mx ∧ mx ≤ 4097:=by omega
    have HMX:=hide hmx;clear hg HG hbx hmx;go_wp2_with fail;all_goals try (exfalso; omega)
    go_roundw
    case rel=>exact ⟨j + 1,mx,by omega,by go_num,by rw [← HMX.out]; first | rfl | (congr 1; omega) | simp [ite_max],hmb,hide (by rw [← HMX.out]; exact HR.out),HA9⟩
    case measure=>simp [intOf]; omega
  ·obtain rfl : j = n:=by omega
   have hd : m.drop j = []:=List.drop_eq_nil_of_le (by rw [HML.out]; exact Nat.le_refl _);have hg:=HG.out;rw [hd] at hg;have HR:=hide (show a = placeOf l size from hg);clear hd hg HG;go_wp2_with fail;go_ret;exact ⟨ret_int HR.out,HE.out.trans (HB.out.mono HE.out.size)⟩
end Go.Proofs.Ytibpmogmeoappab
