/- FitPlaces returns true for every input, and its arguments read as they did: no condition. -/
import Derived.Test.YtibpmogmeoappabJWrap
import Derived.Test.YtibpmogmeoappabJWrapS
import Derived.Test.YtibpmogmeoappabJLawS
set_option maxRecDepth 100000
namespace Go.Proofs.Ytibpmogmeoappab
open Go.ChangeShapes Go.WideShapes Go.ChangeAt Go.RowKit
theorem fitPlaces_lifted (os : Os) (started : os.Started) (H : Type) (enc : TypeId × Value → H) :
 ReturnsInHanded {} Try.checked os 11 .any (Rows.fitPlacesSpec.pre6 enc Try.prog Try.f11 Rows.fitPlacesRow.domain false) (Rows.fitPlacesSpec.post enc Try.prog Try.f11 false true false false):=by
 refine returnsInHanded_of_change (C:=Try.checked) own_knob started (by kernel_rfl) Try.func11
  (ChangeSpec.witness6 (enc:=enc) (C:=Try.checked) false ⟨#[],#[.slice none 0 0,.int .i64 0],[]⟩ 8 (by kernel_rfl) (by kernel_rfl) (by kernel_rfl) (by kernel_rfl)) ?_
 intro W base args ds gs before hval0 hW hcnd _;have hval : ∀ (j : Nat) t v,Try.f11.params[j]? = some t → args[j]? = some v → Value.okWide Try.prog W .any base t v:=hval0;have hW':=hW;obtain ⟨p,q,hA0,hV,rfl,hfz,hnd⟩:=hW;have hA : DataW.TrodAll enc Try.prog W 0 (fun _=>true) true Try.f11.params.toList args.toList ds p:=hA0;rw [Try.params11] at hA hval;obtain ⟨v0,vs0,d0,ds0,p0,q0,hargs,rfl,rfl,h0,r0⟩:=trodAll_cons hA;obtain ⟨v1,vs1,d1,ds1,p1,q1,rfl,rfl,rfl,h1,r1⟩:=trodAll_cons r0;obtain ⟨rfl,rfl,rfl⟩:=trodAll_nil r1;obtain rfl : args = #[v0,v1]:=by cases args; simp_all
 obtain ⟨rfl,rfl⟩:=trodVars_none hV;obtain ⟨A0,n0,c0,ls0,rfl,hn0,hS0,hl0⟩:=spans_param (hval 0 _ v0 rfl rfl) h0;obtain ⟨a1,rfl,rfl,rfl,w1⟩:=open_int Try.underlying3 (hval 1 _ v1 rfl rfl) h1;refine (fitPlaces_any A0 n0 c0 ls0 a1 W hn0 hl0 hS0).mono fun e W' ⟨he,hb⟩=>?_;subst he;exact ⟨_,rfl,law_post (tb:=4) laid_out (by rw [Try.params11]; decide +kernel) Try.underlying4 rfl hW' rfl hb rfl rfl rfl⟩
theorem fitPlaces_holds : Rows.FitPlacesSaid :=
 OpenClaim.holds_of_wide 11 Try.f11 rfl rfl rfl rfl rfl rfl rfl ⟨rfl,rfl,rfl,rfl,rfl⟩ rfl rfl rfl rfl rfl (by kernel_rfl) Try.func11 (by kernel_rfl)
  (of_decide_eq_true (by kernel_rfl)) (by unfold Func.isWrapper; first | (rw [if_pos (by decide +kernel)]; kernel_rfl) | (rw [if_neg (by decide +kernel)]; exact ⟨rfl,rfl⟩))
  (fun os started H enc _=>fitPlaces_lifted os started H enc)
end Go.Proofs.Ytibpmogmeoappab
