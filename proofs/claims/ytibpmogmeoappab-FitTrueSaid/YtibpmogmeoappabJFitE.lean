/- Walks: fit.Place; PlaceError, PlaceOf (of the reference). -/
import Derived.Test.YtibpmogmeoappabJFitC
import Derived.Test.YtibpmogmeoappabJPlnH
set_option maxRecDepth 100000
set_option maxHeartbeats 8000000
namespace Go.Proofs.Ytibpmogmeoappab
open Go.RowKit
theorem badSpan_any (x : Spn) (w : World) : Calls Try.prog 80 #[.agg #[.int .i64 x.First,.int .i64 x.Last]] w fun e w'=>e = .returned (.bool (badS x)) ∧ Below w.heap.size w w':=by
 obtain ⟨xf,xl⟩:=x;have hb : Below w.heap.size w (w.alloc (.cells #[.int .i64 xf,.int .i64 xl] 41)):=(Below.refl _ _).alloc (Nat.le_refl _) _;have HB:=hide hb;simp only;clear hb;by_cases h1 : xf < 0
 ·have HR:=hide (show badS ⟨xf,xl⟩ = true from decide_eq_true (.inl h1))
  go_enter Try.func80,Try.ntmps80
  go_wp2_with fail;all_goals try (exfalso; omega)
  go_ret;exact ⟨ret_bool HR.out.symm,HB.out⟩
 ·by_cases h2 : xl < xf
  ·have HR:=hide (show badS ⟨xf,xl⟩ = true from decide_eq_true (.inr (.inl h2)))
   go_enter Try.func80,Try.ntmps80
   go_wp2_with fail;all_goals try (exfalso; omega)
   go_ret;exact ⟨ret_bool HR.out.symm,HB.out⟩
  ·by_cases h3 : 4096 < xl
   ·have HR:=hide (show badS ⟨xf,xl⟩ = true from decide_eq_true (.inr (.inr h3)))
    go_enter Try.func80,Try.ntmps80
    go_wp2_with fail;all_goals try (exfalso; omega)
    go_ret;exact ⟨ret_bool HR.out.symm,HB.out⟩
   ·have HR:=hide (show badS ⟨xf,xl⟩ = false from decide_eq_false (by simp only; omega))
    go_enter Try.func80,Try.ntmps80
    go_wp2_with fail;all_goals try (exfalso; omega)
    go_ret;exact ⟨ret_bool HR.out.symm,HB.out⟩
theorem indexSpns_any (A : Option Addr) (n c : Nat) (l : List Spn) (w : World) (hn : l.length = n) (hS : Spns w A l) (hl : n ≤ 9223372036854775807) :
 Calls Try.prog 110 #[.slice A n c,.func (.func 80) #[] #[]] w fun e w'=>∃ i : Int,e = .returned (.int .i64 i) ∧ (0 ≤ i ↔ l.any badS = true) ∧ Below w.heap.size w w':=by
 have HN:=hide hn;have HS:=hide (show Keeps w (fun W=>Spns W A l) from ⟨hS,fun _ hb=>Cells.keep hS hb⟩);have heg:=enters_of Try.func80 (by kernel_rfl) rfl;clear hn hS;go_enter Try.func110,Try.ntmps110
 go_wp2_with fail;go_loopw [5,8] (fun _ i wr=>∃ j : Nat,j ≤ n ∧ i = .int .i64 j ∧ Hid (∀ k,k < j → badS (spAt l k) = false) ∧ Hid (Below w.heap.size w wr)) (fun _ i _=>n - (intOf i).toNat)
 case atStart=>exact ⟨0,Nat.zero_le _,rfl,hide (fun k hk=>by omega),hide (Below.refl _ _)⟩
 case round =>
  obtain ⟨j,hj,rfl,HJ,HB⟩:=hrel;by_cases hlt : j < n
  ·have hj0 : (0 : Int) ≤ (j : Int):=by omega
   have hj1 : (j : Int) < (n : Int):=by omega
   have hjl : j < l.length:=by rw [HN.out]; exact hlt
   obtain ⟨b,off,rfl,hb,c0,c1⟩:=spns_atB (HS.out.later _ HB.out) hjl;obtain ⟨bd,hbd⟩ : ∃ bd,badS (spAt l j) = bd:=⟨_,rfl⟩;have hcl:=fun W0=>badSpan_any (spAt l j) W0;rw [hbd] at hcl;have HCL:=hide hcl;have HBD:=hide hbd;have HJL:=hide hjl;clear hcl hbd hjl;generalize (spAt l j).First = xf at *;generalize (spAt l j).Last = xl at *
   cases bd with
   | true =>
     go_wp2_with (go_at_call 80; refine ((unhide HCL) _).mono ?_; rintro e w1 ⟨rfl,hE1⟩)
     go_ret;exact ⟨j,rfl,⟨fun _=>List.any_eq_true.2 ⟨_,spAt_mem HJL.out,HBD.out⟩,fun _=>hj0⟩,HB.out.trans (hE1.mono HB.out.size)⟩
   | false =>
     go_wp2_with (go_at_call 80; refine ((unhide HCL) _).mono ?_; rintro e w1 ⟨rfl,hE1⟩)
     go_roundw
     case rel =>
      refine ⟨j + 1,by omega,by go_num,hide (fun k hk=>?_),hide (HB.out.trans (hE1.mono HB.out.size))⟩;by_cases e : k = j
      ·subst e; exact HBD.out
      ·exact HJ.out k (by omega)
     case measure=>simp [intOf]; omega
  ·obtain rfl : j = n:=by omega
   go_wp2_with fail;go_ret;refine ⟨-1,rfl,⟨fun h=>by omega,fun h=>?_⟩,HB.out⟩;obtain ⟨x,hx,hb⟩:=List.any_eq_true.1 h;obtain ⟨k,hk,rfl⟩:=mem_spAt hx;rw [HJ.out k (by have:=HN.out; omega)] at hb;cases hb
theorem containsSpns_any (A : Option Addr) (n c : Nat) (l : List Spn) (w : World) (hn : l.length = n) (hS : Spns w A l) (hl : n ≤ 9223372036854775807) :
 Calls Try.prog 79 #[.slice A n c,.func (.func 80) #[] #[]] w fun e w'=>e = .returned (.bool (l.any badS)) ∧ Below w.heap.size w w':=by
 have HX:=hide (indexSpns_any A n c l w hn hS hl);clear hn hS;go_enter Try.func79,Try.ntmps79
 go_wp2_with fail;refine (unhide HX).mono ?_;rintro e w1 ⟨i,rfl,hi,hE⟩;have HE:=hide hE
 have HA:=hide (show decide (0 ≤ i) = l.any badS from by
  by_cases h : 0 ≤ i
  ·rw [decide_eq_true h,hi.1 h]
  ·rw [decide_eq_false h]
   symm
   rw [Bool.eq_false_iff]
   exact fun e=>h (hi.2 e))
 clear hi hE;go_wp2_with fail;go_ret;exact ⟨ret_bool HA.out,HE.out⟩
theorem spn_bounds {l : List Spn} (h : l.any badS = false) : ∀ x ∈ l,(0 ≤ x.First ∧ x.First ≤ 4096) ∧ (0 ≤ x.Last ∧ x.Last ≤ 4096):=by
 intro x hx
 have h1 : badS x = false:=by
  rw [Bool.eq_false_iff] at h ⊢;exact fun e=>h (List.any_eq_true.2 ⟨x,hx,e⟩)
 have:=of_decide_eq_false h1;omega
theorem fitPlace_any (A : Option Addr) (n c : Nat) (l : List Spn) (size : Int) (w : World) (hn : l.length = n) (hl : n ≤ 9223372036854775807) (hS : Spns w A l) :
 Calls Try.prog 46 #[.slice A n c,.int .i64 size] w (RetIE w (placeAns l size) (placeErr l size)):=by
 by_cases h1 : 12 < n
 ·have hr : placeErr l size = 2:=by unfold placeErr; rw [if_pos (by omega)]
  have ha : placeAns l size = 0:=by unfold placeAns; rw [if_neg (by rw [hr]; decide)]
  rw [hr,ha];have h1' : (12 : Int) < (n : Int):=by omega
  have HB:=hide (Below.refl w.heap.size w);clear hr ha hn hS;go_enter Try.func46,Try.ntmps46
  go_wp2_with fail;all_goals try (exfalso; omega)
  go_ret2;exact ⟨rfl,HB.out⟩
 ·have h1' : ¬ (12 : Int) < (n : Int):=by omega
  by_cases h2 : 1 ≤ size ∧ size ≤ 4096
  ·obtain ⟨bd,hbd⟩ : ∃ bd,l.any badS = bd:=⟨_,rfl⟩
   have hcn:=containsSpns_any A n c l w hn hS hl;rw [hbd] at hcn;have HCN:=hide hcn;obtain ⟨h3,h4⟩:=h2
   cases bd with
   | true =>
     have hr : placeErr l size = 3:=by unfold placeErr; rw [if_neg (by omega),if_neg (by omega),if_pos hbd]
     have ha : placeAns l size = 0:=by unfold placeAns; rw [if_neg (by rw [hr]; decide)]
     rw [hr,ha];clear hr ha hn hS hcn hbd;go_enter Try.func46,Try.ntmps46
     go_wp2_with (go_at_call 79; refine (unhide HCN).mono ?_; rintro e w1 ⟨rfl,hE1⟩)
     all_goals try (exfalso; omega)
     go_ret2;exact ⟨rfl,hE1⟩
   | false =>
     have hr : placeErr l size = 0:=by unfold placeErr; rw [if_neg (by omega),if_neg (by omega),if_neg (by rw [hbd]; simp)]
     have ha : placeAns l size = placeOf l size:=by unfold placeAns; rw [if_pos hr]
     have HPL:=hide (fun (W0 : World) (h : Below w.heap.size w W0)=>place_any A n c l size W0 hn (by omega) (Cells.keep hS h) ⟨h3,h4⟩ (spn_bounds hbd));rw [hr,ha];clear hr ha hn hS hcn hbd;go_enter Try.func46,Try.ntmps46
     go_wp2_with (first | (go_at_call 79; refine (unhide HCN).mono ?_; rintro e w1 ⟨rfl,hE1⟩))
     all_goals try (exfalso; omega)
     refine ((unhide HPL) _ hE1).mono ?_;rintro e w2 ⟨rfl,hE2⟩;have HE:=hide (hE1.trans (hE2.mono hE1.size));clear hE1 hE2;go_wp2_with fail;go_ret2;exact ⟨rfl,HE.out⟩
  ·have hr : placeErr l size = 3:=by unfold placeErr; rw [if_neg (by omega),if_pos h2]
   have ha : placeAns l size = 0:=by unfold placeAns; rw [if_neg (by rw [hr]; decide)]
   rw [hr,ha];have HB:=hide (Below.refl w.heap.size w);clear hr ha hn hS;by_cases h3 : size < 1
   ·clear h2
    go_enter Try.func46,Try.ntmps46
    go_wp2_with fail;all_goals try (exfalso; omega)
    go_ret2;exact ⟨rfl,HB.out⟩
   ·have h4 : 4096 < size:=by omega
    clear h2;go_enter Try.func46,Try.ntmps46
    go_wp2_with fail;all_goals try (exfalso; omega)
    go_ret2;exact ⟨rfl,HB.out⟩
theorem badS_in (x : Spn) : badS x = !(inR x.Last 0 4096 && inR x.First 0 x.Last):=by
 unfold badS inR;by_cases h : x.First < 0 ∨ x.Last < x.First ∨ 4096 < x.Last
 ·rw [decide_eq_true h]
  by_cases h2 : 0 ≤ x.Last ∧ x.Last ≤ 4096
  ·rw [decide_eq_true h2,decide_eq_false (by omega)]; rfl
  ·rw [decide_eq_false h2]; rfl
 ·rw [decide_eq_false h,decide_eq_true (by omega),decide_eq_true (by omega)]; rfl
theorem placeError_ref (A : Option Addr) (n c : Nat) (l : List Spn) (size : Int) (w : World) (hn : l.length = n) (hl : n ≤ 9223372036854775807) (hS : Spns w A l) :
 Calls Try.prog 47 #[.slice A n c,.int .i64 size] w (RetE w (placeErr l size)):=by
 by_cases h1 : 12 < n
 ·have hr : placeErr l size = 2:=by unfold placeErr; rw [if_pos (by omega)]
  rw [hr];have h1' : (12 : Int) < (n : Int):=by omega
  have HB:=hide (Below.refl w.heap.size w);clear hr hn hS;go_enter Try.func47,Try.ntmps47
  go_wp2_with fail;all_goals try (exfalso; omega)
  go_ret;exact ⟨rfl,HB.out⟩
 ·have h1' : ¬ (12 : Int) < (n : Int):=by omega
  obtain ⟨sb,hsb⟩ : ∃ sb,inR size 1 4096 = sb:=⟨_,rfl⟩;have hwi:=fun W0=>within_any size 1 4096 W0;rw [hsb] at hwi;have HWI:=hide hwi;have hs2 : sb = decide (1 ≤ size ∧ size ≤ 4096):=by rw [← hsb]; rfl
  clear hwi
  cases sb with
  | false =>
    have h2:=of_decide_eq_false hs2.symm;have hr : placeErr l size = 3:=by unfold placeErr; rw [if_neg (by omega),if_pos h2]
    rw [hr];have HB:=hide (Below.refl w.heap.size w);clear hr hn hS h2 hs2 hsb;go_enter Try.func47,Try.ntmps47
    go_wp2_with (go_at_call 57; refine ((unhide HWI) _).mono ?_; rintro e w1 ⟨rfl,rfl⟩)
    all_goals try (exfalso; omega)
    go_ret;exact ⟨rfl,HB.out⟩
  | true =>
    have h2:=of_decide_eq_true hs2.symm;have HPE:=hide (show placeErr l size = if l.any badS = true then 3 else 0 from by unfold placeErr; rw [if_neg (by omega),if_neg (fun e=>e h2)]);have HN:=hide hn;have HS:=hide (show Keeps w (fun W=>Spns W A l) from ⟨hS,fun _ hb=>Cells.keep hS hb⟩);clear hn hS h2 hs2 hsb;go_enter Try.func47,Try.ntmps47
    go_wp2_with (go_at_call 57; refine ((unhide HWI) _).mono ?_; rintro e w1 ⟨rfl,rfl⟩)
    all_goals try (exfalso; omega)
    go_loopw [5] (fun s wr=>∃ i : Nat,i ≤ n ∧ s = .int .i64 (i : Int) ∧ Hid (∀ k,k < i → badS (spAt l k) = false) ∧ Hid (Below w.heap.size w wr)) (fun s _=>n - (intOf s).toNat)
    case atStart=>exact ⟨0,Nat.zero_le _,rfl,hide (fun k hk=>by omega),hide (Below.refl _ _)⟩
    case round =>
     obtain ⟨i,hi,rfl,HI,HB⟩:=hrel;by_cases hlt : i < n
     ·have hi0 : (0 : Int) ≤ (i : Int):=by omega
      have hi1 : (i : Int) < (n : Int):=by omega
      have hil : i < l.length:=by rw [HN.out]; exact hlt
      obtain ⟨b,off,rfl,hb,c0,c1⟩:=spns_atB (HS.out.later _ HB.out) hil;have hbs:=badS_in (spAt l i);obtain ⟨xf,hxf⟩ : ∃ xf,(spAt l i).First = xf:=⟨_,rfl⟩;obtain ⟨xl,hxl⟩ : ∃ xl,(spAt l i).Last = xl:=⟨_,rfl⟩;rw [hxf] at c0;rw [hxl] at c1;rw [hxf,hxl] at hbs;have HKS:=hide (show Keeps wr (fun w' : World=>w'.cell? ⟨b,off + i * 2,none⟩ = some (.int .i64 xf) ∧ w'.cell? ⟨b,off + i * 2 + 1,none⟩ = some (.int .i64 xl)) from ⟨⟨c0,c1⟩,fun _ hb=>⟨keepC hb c0,keepC hb c1⟩⟩);obtain ⟨b1,hb1⟩ : ∃ b1,inR xl 0 4096 = b1:=⟨_,rfl⟩;obtain ⟨b2,hb2⟩ : ∃ b2,inR xf 0 xl = b2:=⟨_,rfl⟩;have hw1:=fun W0=>within_any xl 0 4096 W0;have hw2:=fun W0=>within_any xf 0 xl W0;rw [hb1] at hw1;rw [hb2] at hw2;rw [hb1,hb2] at hbs;have HW1:=hide hw1;have HW2:=hide hw2;have HBS:=hide hbs;have HIL:=hide hil;clear hw1 hw2 hbs hxf hxl hb1 hb2 c0 c1 hil
      cases b1 with
      | false =>
        go_upto_region 8 with fail
        refine calm_region (Below wr.heap.size wr) (by kernel_rfl) (by kernel_rfl) (Below.refl _ _).drew ?_;refine calm_one (fun K hK=>⟨by kernel_rfl,.slice (some ⟨b,off,none⟩) n c,fun w9 hC9=>?_,?_⟩)
        ·go_simp
        try simp only [Act.put,lsa,lsz,lss]
        refine hK _ ?_;clear hK K;refine calm_one (fun K hK=>⟨by kernel_rfl,.int .i64 (i : Int),fun w9 hC9=>?_,?_⟩)
        ·go_simp
        try simp only [Act.put,lsa,lsz,lss]
        refine hK _ ?_;clear hK K;refine calm_one (fun K hK=>⟨by kernel_rfl,.pointer (some ⟨b,off + i * 2,none⟩),fun w9 hC9=>?_,?_⟩)
        ·go_simp
        try simp only [Act.put,lsa,lsz,lss]
        refine hK _ ?_;clear hK K;refine calm_one (fun K hK=>⟨by kernel_rfl,.pointer (some ⟨b,off + i * 2 + 1,none⟩),fun w9 hC9=>?_,?_⟩)
        ·go_simp
        try simp only [Act.put,lsa,lsz,lss]
        refine hK _ ?_;clear hK K;refine calm_one (fun K hK=>⟨by kernel_rfl,.int .i64 xl,fun w9 hC9=>?_,?_⟩)
        ·obtain ⟨s0,s1⟩:=HKS.out.later _ hC9
         go_simp
        try simp only [Act.put,lsa,lsz,lss]
        refine hK _ ?_;clear hK K;refine calm_one (fun K hK=>⟨by kernel_rfl,.bool false,fun w9 hC9=>?_,?_⟩)
        ·go_simp
         go_at_call 57;refine ((unhide HW1) _).mono ?_;rintro e w8 ⟨rfl,rfl⟩;exact ⟨rfl,hC9⟩
        try simp only [Act.put,lsa,lsz,lss]
        refine hK _ ?_;clear hK K;refine calm_one (fun K hK=>⟨by kernel_rfl,.bool true,fun w9 hC9=>?_,?_⟩)
        ·go_simp
        try simp only [Act.put,lsa,lsz,lss]
        refine hK _ ?_;clear hK K;refine calm_one (fun K hK=>⟨by kernel_rfl,.bool true,fun w9 hC9=>?_,?_⟩)
        ·go_simp
        try simp only [Act.put,lsa,lsz,lss]
        refine hK _ ?_;clear hK K;refine calm_not (fun K hK=>⟨by kernel_rfl,?_⟩);try simp only [Act.put,lsa,lsz,lss]
        refine hK _ ?_;clear hK K;refine calm_not (fun K hK=>⟨by kernel_rfl,?_⟩);try simp only [Act.put,lsa,lsz,lss]
        refine hK _ ?_;clear hK K;refine calm_not (fun K hK=>⟨by kernel_rfl,?_⟩);try simp only [Act.put,lsa,lsz,lss]
        refine hK _ ?_;clear hK K;refine calm_not (fun K hK=>⟨by kernel_rfl,?_⟩);try simp only [Act.put,lsa,lsz,lss]
        refine hK _ ?_;clear hK K;refine calm_not (fun K hK=>⟨by kernel_rfl,?_⟩);try simp only [Act.put,lsa,lsz,lss]
        refine hK _ ?_;clear hK K;refine calm_not (fun K hK=>⟨by kernel_rfl,?_⟩);try simp only [Act.put,lsa,lsz,lss]
        refine hK _ ?_;clear hK K;refine calm_not (fun K hK=>⟨by kernel_rfl,?_⟩);try simp only [Act.put,lsa,lsz,lss]
        refine hK _ ?_;clear hK K;refine calm_not (fun K hK=>⟨by kernel_rfl,?_⟩);try simp only [Act.put,lsa,lsz,lss]
        refine hK _ ?_;clear hK K;refine calm_not (fun K hK=>⟨by kernel_rfl,?_⟩);try simp only [Act.put,lsa,lsz,lss]
        refine hK _ ?_;clear hK K;refine calm_not (fun K hK=>⟨by kernel_rfl,?_⟩);try simp only [Act.put,lsa,lsz,lss]
        refine hK _ ?_;clear hK K;refine calm_not (fun K hK=>⟨by kernel_rfl,?_⟩);try simp only [Act.put,lsa,lsz,lss]
        refine hK _ ?_;clear hK K;refine calm_not (fun K hK=>⟨by kernel_rfl,?_⟩);try simp only [Act.put,lsa,lsz,lss]
        refine hK _ ?_;clear hK K;refine calm_one (fun K hK=>⟨by kernel_rfl,.bool true,fun w9 hC9=>?_,?_⟩)
        ·go_simp
        try simp only [Act.put,lsa,lsz,lss]
        refine hK _ ?_;clear hK K;refine calm_nil ?_;intro w9 hC9;go_wp2_with fail;go_ret;exact ⟨ret_int (by rw [HPE.out,if_pos (List.any_eq_true.2 ⟨_,spAt_mem HIL.out,HBS.out⟩)]),HB.out.trans (hC9.mono HB.out.size)⟩
      | true =>
        cases b2 with
        | false =>
          go_upto_region 8 with fail
          refine calm_region (Below wr.heap.size wr) (by kernel_rfl) (by kernel_rfl) (Below.refl _ _).drew ?_;refine calm_one (fun K hK=>⟨by kernel_rfl,.slice (some ⟨b,off,none⟩) n c,fun w9 hC9=>?_,?_⟩)
          ·go_simp
          try simp only [Act.put,lsa,lsz,lss]
          refine hK _ ?_;clear hK K;refine calm_one (fun K hK=>⟨by kernel_rfl,.int .i64 (i : Int),fun w9 hC9=>?_,?_⟩)
          ·go_simp
          try simp only [Act.put,lsa,lsz,lss]
          refine hK _ ?_;clear hK K;refine calm_one (fun K hK=>⟨by kernel_rfl,.pointer (some ⟨b,off + i * 2,none⟩),fun w9 hC9=>?_,?_⟩)
          ·go_simp
          try simp only [Act.put,lsa,lsz,lss]
          refine hK _ ?_;clear hK K;refine calm_one (fun K hK=>⟨by kernel_rfl,.pointer (some ⟨b,off + i * 2 + 1,none⟩),fun w9 hC9=>?_,?_⟩)
          ·go_simp
          try simp only [Act.put,lsa,lsz,lss]
          refine hK _ ?_;clear hK K;refine calm_one (fun K hK=>⟨by kernel_rfl,.int .i64 xl,fun w9 hC9=>?_,?_⟩)
          ·obtain ⟨s0,s1⟩:=HKS.out.later _ hC9
           go_simp
          try simp only [Act.put,lsa,lsz,lss]
          refine hK _ ?_;clear hK K;refine calm_one (fun K hK=>⟨by kernel_rfl,.bool true,fun w9 hC9=>?_,?_⟩)
          ·go_simp
           go_at_call 57;refine ((unhide HW1) _).mono ?_;rintro e w8 ⟨rfl,rfl⟩;exact ⟨rfl,hC9⟩
          try simp only [Act.put,lsa,lsz,lss]
          refine hK _ ?_;clear hK K;refine calm_one (fun K hK=>⟨by kernel_rfl,.bool false,fun w9 hC9=>?_,?_⟩)
          ·go_simp
          try simp only [Act.put,lsa,lsz,lss]
          refine hK _ ?_;clear hK K;refine calm_one (fun K hK=>⟨by kernel_rfl,.bool false,fun w9 hC9=>?_,?_⟩)
          ·go_simp
          try simp only [Act.put,lsa,lsz,lss]
          refine hK _ ?_;clear hK K;refine calm_one (fun K hK=>⟨by kernel_rfl,.slice (some ⟨b,off,none⟩) n c,fun w9 hC9=>?_,?_⟩)
          ·go_simp
          try simp only [Act.put,lsa,lsz,lss]
          refine hK _ ?_;clear hK K;refine calm_one (fun K hK=>⟨by kernel_rfl,.int .i64 (i : Int),fun w9 hC9=>?_,?_⟩)
          ·go_simp
          try simp only [Act.put,lsa,lsz,lss]
          refine hK _ ?_;clear hK K;refine calm_one (fun K hK=>⟨by kernel_rfl,.pointer (some ⟨b,off + i * 2,none⟩),fun w9 hC9=>?_,?_⟩)
          ·go_simp
          try simp only [Act.put,lsa,lsz,lss]
          refine hK _ ?_;clear hK K;refine calm_one (fun K hK=>⟨by kernel_rfl,.pointer (some ⟨b,off + i * 2,none⟩),fun w9 hC9=>?_,?_⟩)
          ·go_simp
          try simp only [Act.put,lsa,lsz,lss]
          refine hK _ ?_;clear hK K;refine calm_one (fun K hK=>⟨by kernel_rfl,.int .i64 xf,fun w9 hC9=>?_,?_⟩)
          ·obtain ⟨s0,s1⟩:=HKS.out.later _ hC9
           go_simp
          try simp only [Act.put,lsa,lsz,lss]
          refine hK _ ?_;clear hK K;refine calm_one (fun K hK=>⟨by kernel_rfl,.slice (some ⟨b,off,none⟩) n c,fun w9 hC9=>?_,?_⟩)
          ·go_simp
          try simp only [Act.put,lsa,lsz,lss]
          refine hK _ ?_;clear hK K;refine calm_one (fun K hK=>⟨by kernel_rfl,.int .i64 (i : Int),fun w9 hC9=>?_,?_⟩)
          ·go_simp
          try simp only [Act.put,lsa,lsz,lss]
          refine hK _ ?_;clear hK K;refine calm_one (fun K hK=>⟨by kernel_rfl,.pointer (some ⟨b,off + i * 2,none⟩),fun w9 hC9=>?_,?_⟩)
          ·go_simp
          try simp only [Act.put,lsa,lsz,lss]
          refine hK _ ?_;clear hK K;refine calm_one (fun K hK=>⟨by kernel_rfl,.pointer (some ⟨b,off + i * 2 + 1,none⟩),fun w9 hC9=>?_,?_⟩)
          ·go_simp
          try simp only [Act.put,lsa,lsz,lss]
          refine hK _ ?_;clear hK K;refine calm_one (fun K hK=>⟨by kernel_rfl,.int .i64 xl,fun w9 hC9=>?_,?_⟩)
          ·obtain ⟨s0,s1⟩:=HKS.out.later _ hC9
           go_simp
          try simp only [Act.put,lsa,lsz,lss]
          refine hK _ ?_;clear hK K;refine calm_one (fun K hK=>⟨by kernel_rfl,.bool false,fun w9 hC9=>?_,?_⟩)
          ·go_simp
           go_at_call 57;refine ((unhide HW2) _).mono ?_;rintro e w8 ⟨rfl,rfl⟩;exact ⟨rfl,hC9⟩
          try simp only [Act.put,lsa,lsz,lss]
          refine hK _ ?_;clear hK K;refine calm_one (fun K hK=>⟨by kernel_rfl,.bool true,fun w9 hC9=>?_,?_⟩)
          ·go_simp
          try simp only [Act.put,lsa,lsz,lss]
          refine hK _ ?_;clear hK K;refine calm_one (fun K hK=>⟨by kernel_rfl,.bool true,fun w9 hC9=>?_,?_⟩)
          ·go_simp
          try simp only [Act.put,lsa,lsz,lss]
          refine hK _ ?_;clear hK K;refine calm_nil ?_;intro w9 hC9;go_wp2_with fail;go_ret;exact ⟨ret_int (by rw [HPE.out,if_pos (List.any_eq_true.2 ⟨_,spAt_mem HIL.out,HBS.out⟩)]),HB.out.trans (hC9.mono HB.out.size)⟩
        | true =>
          go_upto_region 8 with fail
          refine calm_region (Below wr.heap.size wr) (by kernel_rfl) (by kernel_rfl) (Below.refl _ _).drew ?_;refine calm_one (fun K hK=>⟨by kernel_rfl,.slice (some ⟨b,off,none⟩) n c,fun w9 hC9=>?_,?_⟩)
          ·go_simp
          try simp only [Act.put,lsa,lsz,lss]
          refine hK _ ?_;clear hK K;refine calm_one (fun K hK=>⟨by kernel_rfl,.int .i64 (i : Int),fun w9 hC9=>?_,?_⟩)
          ·go_simp
          try simp only [Act.put,lsa,lsz,lss]
          refine hK _ ?_;clear hK K;refine calm_one (fun K hK=>⟨by kernel_rfl,.pointer (some ⟨b,off + i * 2,none⟩),fun w9 hC9=>?_,?_⟩)
          ·go_simp
          try simp only [Act.put,lsa,lsz,lss]
          refine hK _ ?_;clear hK K;refine calm_one (fun K hK=>⟨by kernel_rfl,.pointer (some ⟨b,off + i * 2 + 1,none⟩),fun w9 hC9=>?_,?_⟩)
          ·go_simp
          try simp only [Act.put,lsa,lsz,lss]
          refine hK _ ?_;clear hK K;refine calm_one (fun K hK=>⟨by kernel_rfl,.int .i64 xl,fun w9 hC9=>?_,?_⟩)
          ·obtain ⟨s0,s1⟩:=HKS.out.later _ hC9
           go_simp
          try simp only [Act.put,lsa,lsz,lss]
          refine hK _ ?_;clear hK K;refine calm_one (fun K hK=>⟨by kernel_rfl,.bool true,fun w9 hC9=>?_,?_⟩)
          ·go_simp
           go_at_call 57;refine ((unhide HW1) _).mono ?_;rintro e w8 ⟨rfl,rfl⟩;exact ⟨rfl,hC9⟩
          try simp only [Act.put,lsa,lsz,lss]
          refine hK _ ?_;clear hK K;refine calm_one (fun K hK=>⟨by kernel_rfl,.bool false,fun w9 hC9=>?_,?_⟩)
          ·go_simp
          try simp only [Act.put,lsa,lsz,lss]
          refine hK _ ?_;clear hK K;refine calm_one (fun K hK=>⟨by kernel_rfl,.bool false,fun w9 hC9=>?_,?_⟩)
          ·go_simp
          try simp only [Act.put,lsa,lsz,lss]
          refine hK _ ?_;clear hK K;refine calm_one (fun K hK=>⟨by kernel_rfl,.slice (some ⟨b,off,none⟩) n c,fun w9 hC9=>?_,?_⟩)
          ·go_simp
          try simp only [Act.put,lsa,lsz,lss]
          refine hK _ ?_;clear hK K;refine calm_one (fun K hK=>⟨by kernel_rfl,.int .i64 (i : Int),fun w9 hC9=>?_,?_⟩)
          ·go_simp
          try simp only [Act.put,lsa,lsz,lss]
          refine hK _ ?_;clear hK K;refine calm_one (fun K hK=>⟨by kernel_rfl,.pointer (some ⟨b,off + i * 2,none⟩),fun w9 hC9=>?_,?_⟩)
          ·go_simp
          try simp only [Act.put,lsa,lsz,lss]
          refine hK _ ?_;clear hK K;refine calm_one (fun K hK=>⟨by kernel_rfl,.pointer (some ⟨b,off + i * 2,none⟩),fun w9 hC9=>?_,?_⟩)
          ·go_simp
          try simp only [Act.put,lsa,lsz,lss]
          refine hK _ ?_;clear hK K;refine calm_one (fun K hK=>⟨by kernel_rfl,.int .i64 xf,fun w9 hC9=>?_,?_⟩)
          ·obtain ⟨s0,s1⟩:=HKS.out.later _ hC9
           go_simp
          try simp only [Act.put,lsa,lsz,lss]
          refine hK _ ?_;clear hK K;refine calm_one (fun K hK=>⟨by kernel_rfl,.slice (some ⟨b,off,none⟩) n c,fun w9 hC9=>?_,?_⟩)
          ·go_simp
          try simp only [Act.put,lsa,lsz,lss]
          refine hK _ ?_;clear hK K;refine calm_one (fun K hK=>⟨by kernel_rfl,.int .i64 (i : Int),fun w9 hC9=>?_,?_⟩)
          ·go_simp
          try simp only [Act.put,lsa,lsz,lss]
          refine hK _ ?_;clear hK K;refine calm_one (fun K hK=>⟨by kernel_rfl,.pointer (some ⟨b,off + i * 2,none⟩),fun w9 hC9=>?_,?_⟩)
          ·go_simp
          try simp only [Act.put,lsa,lsz,lss]
          refine hK _ ?_;clear hK K;refine calm_one (fun K hK=>⟨by kernel_rfl,.pointer (some ⟨b,off + i * 2 + 1,none⟩),fun w9 hC9=>?_,?_⟩)
          ·go_simp
          try simp only [Act.put,lsa,lsz,lss]
          refine hK _ ?_;clear hK K;refine calm_one (fun K hK=>⟨by kernel_rfl,.int .i64 xl,fun w9 hC9=>?_,?_⟩)
          ·obtain ⟨s0,s1⟩:=HKS.out.later _ hC9
           go_simp
          try simp only [Act.put,lsa,lsz,lss]
          refine hK _ ?_;clear hK K;refine calm_one (fun K hK=>⟨by kernel_rfl,.bool true,fun w9 hC9=>?_,?_⟩)
          ·go_simp
           go_at_call 57;refine ((unhide HW2) _).mono ?_;rintro e w8 ⟨rfl,rfl⟩;exact ⟨rfl,hC9⟩
          try simp only [Act.put,lsa,lsz,lss]
          refine hK _ ?_;clear hK K;refine calm_one (fun K hK=>⟨by kernel_rfl,.bool false,fun w9 hC9=>?_,?_⟩)
          ·go_simp
          try simp only [Act.put,lsa,lsz,lss]
          refine hK _ ?_;clear hK K;refine calm_one (fun K hK=>⟨by kernel_rfl,.bool false,fun w9 hC9=>?_,?_⟩)
          ·go_simp
          try simp only [Act.put,lsa,lsz,lss]
          refine hK _ ?_;clear hK K;refine calm_nil ?_;intro w9 hC9;go_wp2_with fail;go_roundw
          case rel =>
           refine ⟨i + 1,by omega,by go_num,hide (fun k hk=>?_),hide (HB.out.trans (hC9.mono HB.out.size))⟩;by_cases e : k = i
           ·subst e; exact HBS.out
           ·exact HI.out k (by omega)
          case measure=>simp [intOf]; omega
     ·obtain rfl : i = n:=by omega
      go_wp2_with fail;go_ret;refine ⟨ret_int ?_,HB.out⟩;rw [HPE.out,if_neg];intro h;obtain ⟨x,hx,hb⟩:=List.any_eq_true.1 h;obtain ⟨k,hk,rfl⟩:=mem_spAt hx;rw [HI.out k (by have:=HN.out; omega)] at hb;cases hb
end Go.Proofs.Ytibpmogmeoappab
