/- FitTrue returns true for every input, and its arguments read as they did: no condition. -/
import Derived.Test.YtibpmogmeoappabJWrap
import Derived.Test.YtibpmogmeoappabJLawU
set_option maxRecDepth 100000
namespace Go.Proofs.Ytibpmogmeoappab
open Go.ChangeShapes Go.WideShapes Go.ChangeAt Go.RowKit
theorem fitTrue_lifted (os : Os) (started : os.Started) (H : Type) (enc : TypeId × Value → H) :
 ReturnsInHanded {} Try.checked os 13 .any (Rows.fitTrueSpec.pre6 enc Try.prog Try.f13 Rows.fitTrueRow.domain false) (Rows.fitTrueSpec.post enc Try.prog Try.f13 false true false false):=by
 refine returnsInHanded_of_change (C:=Try.checked) own_knob started (by kernel_rfl) Try.func13
  (ChangeSpec.witness6 (enc:=enc) (C:=Try.checked) false ⟨#[],#[.agg #[.int .i64 0,.int .i64 0,.int .i64 0,.int .i64 0,.slice none 0 0]],[]⟩ 8 (by kernel_rfl) (by kernel_rfl) (by kernel_rfl) (by kernel_rfl)) ?_
 intro W base args ds gs before hval0 hW hcnd _;have hval : ∀ (j : Nat) t v,Try.f13.params[j]? = some t → args[j]? = some v → Value.okWide Try.prog W .any base t v:=hval0;have hW':=hW;obtain ⟨p,q,hA0,hV,rfl,hfz,hnd⟩:=hW;have hA : DataW.TrodAll enc Try.prog W 0 (fun _=>true) true Try.f13.params.toList args.toList ds p:=hA0;rw [Try.params13] at hA hval;obtain ⟨v0,vs0,d0,ds0,p0,q0,hargs,rfl,rfl,h0,r0⟩:=trodAll_cons hA;obtain ⟨rfl,rfl,rfl⟩:=trodAll_nil r0;obtain rfl : args = #[v0]:=by cases args; simp_all
 obtain ⟨rfl,rfl⟩:=trodVars_none hV;obtain ⟨W0,H0,S0,O0,A0,n0,c0,ps0,rfl,hn0,hP0,hl0⟩:=frame_in (hval 0 _ v0 rfl rfl) h0;refine (fitTrue_any W0 H0 S0 O0 A0 n0 c0 ps0 W hn0 hP0 hl0).mono fun e W' ⟨he,hb⟩=>?_;subst he;exact ⟨_,rfl,law_post (tb:=4) laid_out (by rw [Try.params13]; decide +kernel) Try.underlying4 rfl hW' rfl hb rfl rfl rfl⟩
theorem fitTrue_holds : Rows.FitTrueSaid :=
 OpenClaim.holds_of_wide 13 Try.f13 rfl rfl rfl rfl rfl rfl rfl ⟨rfl,rfl,rfl,rfl,rfl⟩ rfl rfl rfl rfl rfl (by kernel_rfl) Try.func13 (by kernel_rfl)
  (of_decide_eq_true (by kernel_rfl)) (by unfold Func.isWrapper; first | (rw [if_pos (by decide +kernel)]; kernel_rfl) | (rw [if_neg (by decide +kernel)]; exact ⟨rfl,rfl⟩))
  (fun os started H enc _=>fitTrue_lifted os started H enc)
end Go.Proofs.Ytibpmogmeoappab
