/- ExecRuns returns true for every input, and its arguments read as they did: no condition. -/
import Derived.Test.YtibpmogmeoappabGreatJWrap
import Derived.Test.YtibpmogmeoappabGreatJWrapE
import Derived.Test.YtibpmogmeoappabGreatJLawR
set_option maxRecDepth 100000
namespace Go.Proofs.YtibpmogmeoappabGreat
open Go.ChangeShapes Go.WideShapes Go.ChangeAt Go.RowKit
theorem execRuns_lifted (os : Os) (started : os.Started) (H : Type) (enc : TypeId × Value → H) :
 ReturnsInHanded {} Tryz.checked os 3 .any (Rows.execRunsSpec.pre6 enc Tryz.prog Tryz.f3 Rows.execRunsRow.domain false) (Rows.execRunsSpec.post enc Tryz.prog Tryz.f3 false true false false):=by
 refine returnsInHanded_of_change (C:=Tryz.checked) own_knob started (by kernel_rfl) Tryz.func3
  (ChangeSpec.witness6 (enc:=enc) (C:=Tryz.checked) false ⟨#[],#[.agg #[.int .i64 0,.int .i64 0,.int .i64 0,.int .i64 0,.slice none 0 0],.agg #[.slice none 0 0,.slice none 0 0],.slice none 0 0],[]⟩ 8 (by kernel_rfl) (by kernel_rfl) (by kernel_rfl) (by kernel_rfl)) ?_
 intro W base args ds gs before hval0 hW hcnd _;have hval : ∀ (j : Nat) t v,Tryz.f3.params[j]? = some t → args[j]? = some v → Value.okWide Tryz.prog W .any base t v:=hval0;have hW':=hW;obtain ⟨p,q,hA0,hV,rfl,hfz,hnd⟩:=hW;have hA : DataW.TrodAll enc Tryz.prog W 0 (fun _=>true) true Tryz.f3.params.toList args.toList ds p:=hA0;rw [Tryz.params3] at hA hval;obtain ⟨v0,vs0,d0,ds0,p0,q0,hargs,rfl,rfl,h0,r0⟩:=trodAll_cons hA;obtain ⟨v1,vs1,d1,ds1,p1,q1,rfl,rfl,rfl,h1,r1⟩:=trodAll_cons r0;obtain ⟨v2,vs2,d2,ds2,p2,q2,rfl,rfl,rfl,h2,r2⟩:=trodAll_cons r1;obtain ⟨rfl,rfl,rfl⟩:=trodAll_nil r2;obtain rfl : args = #[v0,v1,v2]:=by cases args; simp_all
 obtain ⟨rfl,rfl⟩:=trodVars_none hV;obtain ⟨W0,H0,S0,O0,A0,n0,c0,ps0,rfl,hn0,hP0,hl0⟩:=frame_in (hval 0 _ v0 rfl rfl) h0;obtain ⟨A1,n1,c1,P1,B1,m1,e1,Q1,rfl,hn1,hI1,hl1,hc1,hm1,hJ1,hk1⟩:=plan_in (hval 1 _ v1 rfl rfl) h1;obtain ⟨A2,n2,c2,ls2,rfl,hn2,hI2,hl2,hc2⟩:=ints_param (hval 2 _ v2 rfl rfl) h2;refine (execRuns_any W0 H0 S0 O0 A0 n0 c0 ps0 A1 n1 c1 P1 B1 m1 e1 Q1 A2 n2 c2 ls2 W hn0 hP0 hl0 hn1 hI1 hl1 hc1 hm1 hJ1 hk1 hn2 hI2 hl2 hc2).mono fun e W' ⟨he,hb⟩=>?_;subst he;exact ⟨_,rfl,law_post (tb:=4) laid_out (by rw [Tryz.params3]; decide +kernel) Tryz.underlying4 rfl hW' rfl hb rfl rfl rfl⟩
theorem execRuns_holds : Rows.ExecRunsSaid :=
 OpenClaim.holds_of_wide 3 Tryz.f3 rfl rfl rfl rfl rfl rfl rfl ⟨rfl,rfl,rfl,rfl,rfl⟩ rfl rfl rfl rfl rfl (by kernel_rfl) Tryz.func3 (by kernel_rfl)
  (of_decide_eq_true (by kernel_rfl)) (by unfold Func.isWrapper; first | (rw [if_pos (by decide +kernel)]; kernel_rfl) | (rw [if_neg (by decide +kernel)]; exact ⟨rfl,rfl⟩))
  (fun os started H enc _=>execRuns_lifted os started H enc)
end Go.Proofs.YtibpmogmeoappabGreat
