/- Walks: fit.Place; PlaceError, PlaceOf (of the reference). -/
import Derived.Test.YtibpmogmeoappacGreatJFitC
import Derived.Test.YtibpmogmeoappacGreatJPlnH
set_option maxRecDepth 100000
set_option maxHeartbeats 4000000
namespace Go.Proofs.YtibpmogmeoappacGreat
open Go.RowKit
theorem badSpan_any (x : Spn) (w : World) : Calls Tryz.prog 56 #[.agg #[.int .i64 x.First,.int .i64 x.Last]] w fun e w'=>e = .returned (.bool (badS x)) ∧ Below w.heap.size w w':=by
 obtain ⟨xf,xl⟩:=x;have hb : Below w.heap.size w (w.alloc (.cells #[.int .i64 xf,.int .i64 xl] 59)):=(Below.refl _ _).alloc (Nat.le_refl _) _;have HB:=hide hb;simp only;clear hb;by_cases h1 : xf < 0
 ·have HR:=hide (show badS ⟨xf,xl⟩ = true from decide_eq_true (.inl h1))
  go_enter Tryz.func56,Tryz.ntmps56
  go_wp2_with fail;all_goals try (exfalso; omega)
  go_ret;exact ⟨ret_bool HR.out.symm,HB.out⟩
 ·by_cases h2 : xl < xf
  ·have HR:=hide (show badS ⟨xf,xl⟩ = true from decide_eq_true (.inr (.inl h2)))
   go_enter Tryz.func56,Tryz.ntmps56
   go_wp2_with fail;all_goals try (exfalso; omega)
   go_ret;exact ⟨ret_bool HR.out.symm,HB.out⟩
  ·by_cases h3 : 4096 < xl
   ·have HR:=hide (show badS ⟨xf,xl⟩ = true from decide_eq_true (.inr (.inr h3)))
    go_enter Tryz.func56,Tryz.ntmps56
    go_wp2_with fail;all_goals try (exfalso; omega)
    go_ret;exact ⟨ret_bool HR.out.symm,HB.out⟩
   ·have HR:=hide (show badS ⟨xf,xl⟩ = false from decide_eq_false (by simp only; omega))
    go_enter Tryz.func56,Tryz.ntmps56
    go_wp2_with fail;all_goals try (exfalso; omega)
    go_ret;exact ⟨ret_bool HR.out.symm,HB.out⟩
theorem indexSpns_any (A : Option Addr) (n c : Nat) (l : List Spn) (w : World) (hn : l.length = n) (hS : Spns w A l) (hl : n ≤ 9223372036854775807) :
 Calls Tryz.prog 89 #[.slice A n c,.func (.func 56) #[] #[]] w fun e w'=>∃ i : Int,e = .returned (.int .i64 i) ∧ (0 ≤ i ↔ l.any badS = true) ∧ Below w.heap.size w w':=by
 have HN:=hide hn;have HS:=hide (show Keeps w (fun W=>Spns W A l) from ⟨hS,fun _ hb=>Cells.keep hS hb⟩);have heg:=enters_of Tryz.func56 (by kernel_rfl) rfl;clear hn hS;go_enter Tryz.func89,Tryz.ntmps89
 go_wp2_with fail;go_loopw [5,8] (fun _ i wr=>∃ j : Nat,j ≤ n ∧ i = .int .i64 j ∧ Hid (∀ k,k < j → badS (spAt l k) = false) ∧ Hid (Below w.heap.size w wr)) (fun _ i _=>n - (intOf i).toNat)
 case atStart=>exact ⟨0,Nat.zero_le _,rfl,hide (fun k hk=>by omega),hide (Below.refl _ _)⟩
 case round =>
  obtain ⟨j,hj,rfl,HJ,HB⟩:=hrel;by_cases hlt : j < n
  ·have hj0 : (0 : Int) ≤ (j : Int):=by omega
   have hj1 : (j : Int) < (n : Int):=by omega
   have hjl : j < l.length:=by rw [HN.out]; exact hlt
   obtain ⟨b,off,rfl,hb,c0,c1⟩:=spns_atB (HS.out.later _ HB.out) hjl;obtain ⟨bd,hbd⟩ : ∃ bd,badS (spAt l j) = bd:=⟨_,rfl⟩;have hcl:=fun W0=>badSpan_any (spAt l j) W0;rw [hbd] at hcl;have HCL:=hide hcl;have HBD:=hide hbd;have HJL:=hide hjl;clear hcl hbd hjl;generalize (spAt l j).First = xf at *;generalize (spAt l j).Last = xl at *
   cases bd with
   | true =>
     go_wp2_with (go_at_call 56; refine ((unhide HCL) _).mono ?_; rintro e w1 ⟨rfl,hE1⟩)
     go_ret;exact ⟨j,rfl,⟨fun _=>List.any_eq_true.2 ⟨_,spAt_mem HJL.out,HBD.out⟩,fun _=>hj0⟩,HB.out.trans (hE1.mono HB.out.size)⟩
   | false =>
     go_wp2_with (go_at_call 56; refine ((unhide HCL) _).mono ?_; rintro e w1 ⟨rfl,hE1⟩)
     go_roundw
     case rel =>
      refine ⟨j + 1,by omega,by go_num,hide (fun k hk=>?_),hide (HB.out.trans (hE1.mono HB.out.size))⟩;by_cases e : k = j
      ·subst e; exact HBD.out
      ·exact HJ.out k (by omega)
     case measure=>simp [intOf]; omega
  ·obtain rfl : j = n:=by omega
   go_wp2_with fail;go_ret;refine ⟨-1,rfl,⟨fun h=>by omega,fun h=>?_⟩,HB.out⟩;obtain ⟨x,hx,hb⟩:=List.any_eq_true.1 h;obtain ⟨k,hk,rfl⟩:=mem_spAt hx;rw [HJ.out k (by have:=HN.out; omega)] at hb;cases hb
theorem containsSpns_any (A : Option Addr) (n c : Nat) (l : List Spn) (w : World) (hn : l.length = n) (hS : Spns w A l) (hl : n ≤ 9223372036854775807) :
 Calls Tryz.prog 55 #[.slice A n c,.func (.func 56) #[] #[]] w fun e w'=>e = .returned (.bool (l.any badS)) ∧ Below w.heap.size w w':=by
 have HX:=hide (indexSpns_any A n c l w hn hS hl);clear hn hS;go_enter Tryz.func55,Tryz.ntmps55
 go_wp2_with fail;refine (unhide HX).mono ?_;rintro e w1 ⟨i,rfl,hi,hE⟩;have HE:=hide hE
 have HA:=hide (show decide (0 ≤ i) = l.any badS from by
  by_cases h : 0 ≤ i
  ·rw [decide_eq_true h,hi.1 h]
  ·rw [decide_eq_false h]
   symm
   rw [Bool.eq_false_iff]
   exact fun e=>h (hi.2 e))
 clear hi hE;go_wp2_with fail;go_ret;exact ⟨ret_bool HA.out,HE.out⟩
theorem spn_bounds {l : List Spn} (h : l.any badS = false) : ∀ x ∈ l,(0 ≤ x.First ∧ x.First ≤ 4096) ∧ (0 ≤ x.Last ∧ x.Last ≤ 4096):=by
 intro x hx
 have h1 : badS x = false:=by
  rw [Bool.eq_false_iff] at h ⊢;exact fun e=>h (List.any_eq_true.2 ⟨x,hx,e⟩)
 have:=of_decide_eq_false h1;omega
theorem fitPlace_any (A : Option Addr) (n c : Nat) (l : List Spn) (size : Int) (w : World) (hn : l.length = n) (hl : n ≤ 9223372036854775807) (hS : Spns w A l) :
 Calls Tryz.prog 25 #[.slice A n c,.int .i64 size] w (RetIE w (placeAns l size) (placeErr l size)):=by
 by_cases h1 : 12 < n
 ·have hr : placeErr l size = 2:=by unfold placeErr; rw [if_pos (by omega)]
  have ha : placeAns l size = 0:=by unfold placeAns; rw [if_neg (by rw [hr]; decide)]
  rw [hr,ha];have h1' : (12 : Int) < (n : Int):=by omega
  have HB:=hide (Below.refl w.heap.size w);clear hr ha hn hS;go_enter Tryz.func25,Tryz.ntmps25
  go_wp2_with fail;all_goals try (exfalso; omega)
  go_ret2;exact ⟨rfl,HB.out⟩
 ·have h1' : ¬ (12 : Int) < (n : Int):=by omega
  by_cases h2 : 1 ≤ size ∧ size ≤ 4096
  ·obtain ⟨bd,hbd⟩ : ∃ bd,l.any badS = bd:=⟨_,rfl⟩
   have hcn:=containsSpns_any A n c l w hn hS hl;rw [hbd] at hcn;have HCN:=hide hcn;obtain ⟨h3,h4⟩:=h2
   cases bd with
   | true =>
     have hr : placeErr l size = 3:=by unfold placeErr; rw [if_neg (by omega),if_neg (by omega),if_pos hbd]
     have ha : placeAns l size = 0:=by unfold placeAns; rw [if_neg (by rw [hr]; decide)]
     rw [hr,ha];clear hr ha hn hS hcn hbd;go_enter Tryz.func25,Tryz.ntmps25
     go_wp2_with (go_at_call 55; refine (unhide HCN).mono ?_; rintro e w1 ⟨rfl,hE1⟩)
     all_goals try (exfalso; omega)
     go_ret2;exact ⟨rfl,hE1⟩
   | false =>
     have hr : placeErr l size = 0:=by unfold placeErr; rw [if_neg (by omega),if_neg (by omega),if_neg (by rw [hbd]; simp)]
     have ha : placeAns l size = placeOf l size:=by unfold placeAns; rw [if_pos hr]
     have HPL:=hide (fun (W0 : World) (h : Below w.heap.size w W0)=>place_any A n c l size W0 hn (by omega) (Cells.keep hS h) ⟨h3,h4⟩ (spn_bounds hbd));rw [hr,ha];clear hr ha hn hS hcn hbd;go_enter Tryz.func25,Tryz.ntmps25
     go_wp2_with (first | (go_at_call 55; refine (unhide HCN).mono ?_; rintro e w1 ⟨rfl,hE1⟩))
     all_goals try (exfalso; omega)
     refine ((unhide HPL) _ hE1).mono ?_;rintro e w2 ⟨rfl,hE2⟩;have HE:=hide (hE1.trans (hE2.mono hE1.size));clear hE1 hE2;go_wp2_with fail;go_ret2;exact ⟨rfl,HE.out⟩
  ·have hr : placeErr l size = 3:=by unfold placeErr; rw [if_neg (by omega),if_pos h2]
   have ha : placeAns l size = 0:=by unfold placeAns; rw [if_neg (by rw [hr]; decide)]
   rw [hr,ha];have HB:=hide (Below.refl w.heap.size w);clear hr ha hn hS;by_cases h3 : size < 1
   ·clear h2
    go_enter Tryz.func25,Tryz.ntmps25
    go_wp2_with fail;all_goals try (exfalso; omega)
    go_ret2;exact ⟨rfl,HB.out⟩
   ·have h4 : 4096 < size:=by omega
    clear h2;go_enter Tryz.func25,Tryz.ntmps25
    go_wp2_with fail;all_goals try (exfalso; omega)
    go_ret2;exact ⟨rfl,HB.out⟩
end Go.Proofs.YtibpmogmeoappacGreat
