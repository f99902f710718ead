/- Walk: the law FitPlaces. -/
import Derived.Test.YtibpmogmeoappabJFitJ
set_option maxRecDepth 100000
set_option maxHeartbeats 4000000
namespace Go.Proofs.Ytibpmogmeoappab
open Go.RowKit
theorem fitPlaces_any (A : Option Addr) (n c : Nat) (l : List Spn) (size : Int) (w : World) (hn : l.length = n) (hl : n ≤ 9223372036854775807) (hS : Spns w A l) :
 Calls Try.prog 11 #[.slice A n c,.int .i64 size] w fun e w'=>e = .returned (.bool true) ∧ Below w.heap.size w w':=by
 have HBG:=hide (fun W0 : World=>fitBegun_any W0);obtain ⟨z,hz⟩ : ∃ z,placeErr l size = z:=⟨_,rfl⟩
 have hpl : ∀ W0 : World,Spns W0 A l → Calls Try.prog 46 #[.slice A n c,.int .i64 size] W0 (RetIE W0 (if z = 0 then placeOf l size else 0) z):=fun W0 h=>by
  rw [← hz]; exact fitPlace_any A n c l size W0 hn hl h
 have HPE:=hide (fun (W0 : World) (h : Spns W0 A l)=>(show Calls Try.prog 47 #[.slice A n c,.int .i64 size] W0 (RetE W0 z) from by
  rw [← hz]; exact placeError_ref A n c l size W0 hn hl h))
 have HPO:=hide (fun (h0 : z = 0) (W0 : World) (h : Spns W0 A l)=>(show Calls Try.prog 48 #[.slice A n c,.int .i64 size] W0 (RetE W0 (placeOf l size)) from by
  have h1:=hz.trans h0;unfold placeErr at h1;by_cases a1 : 12 < l.length
  ·rw [if_pos a1] at h1; omega
  ·rw [if_neg a1] at h1
   by_cases a2 : 1 ≤ size ∧ size ≤ 4096
   ·rw [if_neg (by omega)] at h1
    by_cases a3 : l.any badS = true
    ·rw [if_pos a3] at h1; omega
    ·exact placeOf_ref A n c l size W0 hn (by omega) h a2 (spn_bounds (by simpa using a3))
   ·rw [if_pos a2] at h1; omega))
 have HS:=hide (show Keeps w (fun W=>Spns W A l) from ⟨hS,fun _ hb=>Cells.keep hS hb⟩);clear hn hl hS hz;by_cases h0 : z = 0
 ·subst h0
  have HPL:=hide (fun (W0 : World) (h : Spns W0 A l)=>(show Calls Try.prog 46 #[.slice A n c,.int .i64 size] W0 (RetIE W0 (placeOf l size) 0) from hpl W0 h));clear hpl;obtain ⟨v,hv⟩ : ∃ v,placeOf l size = v:=⟨_,rfl⟩;rw [hv] at HPL HPO;have HPQ:=hide (fun (W0 : World) (h : Spns W0 A l)=>HPO.out rfl W0 h);clear HPO;clear hv;go_enter Try.func11,Try.ntmps11
  go_wp2_with fail;refine ((unhide HPL) _ HS.out.1).mono ?_;rintro e w1 ⟨rfl,hE1⟩;have HE1:=hide hE1;clear hE1;go_wp2_with fail;refine ((unhide HPE) _ (HS.out.2 _ HE1.out)).mono ?_;rintro e w2 ⟨rfl,hE2⟩;have HE2:=hide (HE1.out.trans (hE2.mono HE1.out.size));clear hE2 HE1;go_wp2_with fail;refine ((unhide HPQ) _ (HS.out.2 _ HE2.out)).mono ?_;rintro e w3 ⟨rfl,hE3⟩;have HE3:=hide (HE2.out.trans (hE3.mono HE2.out.size));clear hE3 HE2;go_wp2_with fail;refine ((unhide HBG) _).mono ?_;rintro e w4 ⟨rfl,hE4⟩;have HE4:=hide (HE3.out.trans (hE4.mono HE3.out.size));clear hE4 HE3;go_wp2_with fail;all_goals try (exfalso; omega)
  go_ret;exact ⟨rfl,HE4.out⟩
 ·have HPL:=hide (fun (W0 : World) (h : Spns W0 A l)=>(show Calls Try.prog 46 #[.slice A n c,.int .i64 size] W0 (RetIE W0 0 z) from by
   have h1:=hpl W0 h;rw [if_neg h0] at h1
   exact h1))
  clear hpl HPO;have hz2 : (z == 0) = false:=by simpa using h0
  go_enter Try.func11,Try.ntmps11
  go_wp2_with fail;refine ((unhide HPL) _ HS.out.1).mono ?_;rintro e w1 ⟨rfl,hE1⟩;have HE1:=hide hE1;clear hE1;go_wp2_with fail;refine ((unhide HPE) _ (HS.out.2 _ HE1.out)).mono ?_;rintro e w2 ⟨rfl,hE2⟩;have HE2:=hide (HE1.out.trans (hE2.mono HE1.out.size));clear hE2 HE1;go_wp2_with fail;all_goals try (exfalso; omega)
  refine ((unhide HBG) _).mono ?_;rintro e w4 ⟨rfl,hE4⟩;have HE4:=hide (HE2.out.trans (hE4.mono HE2.out.size));clear hE4 HE2;go_wp2_with fail;all_goals try (exfalso; omega)
  go_ret;exact ⟨rfl,HE4.out⟩
end Go.Proofs.Ytibpmogmeoappab
