/- DeskAlike returns true for every input, and its arguments read as they did: no condition. -/
import Derived.Test.YtibpmogmeoappaaGreatDoorJWrap
import Derived.Test.YtibpmogmeoappaaGreatDoorJDesG
import Derived.Test.YtibpmogmeoappaaGreatDoorCards
import Derived.Test.YtibpmogmeoappaaGreatDoorTie
import Derived.SevenTiedAt
import Derived.ChangeMaps5
import Derived.Test.YtibpmogmeoappaaGreatDoorJDesI
set_option maxRecDepth 100000
namespace Go.Proofs.YtibpmogmeoappaaGreatDoor
open Go Go.ChangeShapes Go.WideShapes Go.ChangeAt Go.RowKit
theorem deskAlike_lifted (os : Os) (started : os.Started) (H : Type) (enc : TypeId × Value → H) :
 ReturnsInHanded {} Tryz.checked os 4 .any (fun w args=>(Rows.deskAlikeSpec.pre enc Tryz.prog Tryz.f4 [] false w args ∧ laidMetH Tryz.prog deskLaid w) ∧ sizedMet enc Tryz.prog Tryz.f4 (OpenSpec.ofChange Rows.deskAlikeSpec) false w args)
  (Rows.deskAlikeSpec.post enc Tryz.prog Tryz.f4 false true false false):=by
 refine returnsInHanded_of_change_and (C:=Tryz.checked) (X:=fun w _=>laidMetH Tryz.prog deskLaid w) (fun _ _ _ hh h=>h.of_heap hh) own_knob started (by kernel_rfl) Tryz.func4
  (ChangeSpec.witness_shaped (enc:=enc) (C:=Tryz.checked) (os:=os) (X:=fun w _=>laidMetH Tryz.prog deskLaid w) false (World.doorLaid Tryz.prog 24 os) #[.string ⟨#[]⟩,.int .i64 0,.int .i64 0] 8 rfl (World.shaped_of_RefB (by kernel_rfl) (by kernel_rfl)) (by kernel_rfl) (by kernel_rfl) (by kernel_rfl) (desk_door os _)) ?_
 intro W base args ds gs before hval0 hW _ _ hL _;have hval : ∀ (j : Nat) t v,Tryz.f4.params[j]? = some t → args[j]? = some v → Value.okWide Tryz.prog W .any base t v:=hval0;have hW':=hW;obtain ⟨p,q,hA0,hV,rfl,hfz,hnd⟩:=hW;have hA : DataW.TrodAll enc Tryz.prog W 0 (fun _=>true) true Tryz.f4.params.toList args.toList ds p:=hA0;rw [Tryz.params4] at hA hval;obtain ⟨v0,vs0,d0,ds0,p0,q0,hargs,rfl,rfl,h0,r0⟩:=trodAll_cons hA;obtain ⟨v1,vs1,d1,ds1,p1,q1,rfl,rfl,rfl,h1,r1⟩:=trodAll_cons r0;obtain ⟨v2,vs2,d2,ds2,p2,q2,rfl,rfl,rfl,h2,r2⟩:=trodAll_cons r1;obtain ⟨rfl,rfl,rfl⟩:=trodAll_nil r2;obtain rfl : args = #[v0,v1,v2]:=by cases args; simp_all
 obtain ⟨rfl,rfl⟩:=trodVars_none hV;obtain ⟨s0,rfl,rfl,rfl,z0⟩:=Go.ChangeMaps.open_string Tryz.underlying9 (hval 0 _ v0 rfl rfl) h0;obtain ⟨a1,rfl,rfl,rfl,w1⟩:=open_int Tryz.underlying3 (hval 1 _ v1 rfl rfl) h1;obtain ⟨a2,rfl,rfl,rfl,w2⟩:=open_int Tryz.underlying3 (hval 2 _ v2 rfl rfl) h2;have hb1 : -9223372036854775808 ≤ a1 ∧ a1 ≤ 9223372036854775807:=by have h:=w1; simp [Lit.wf,IntKind.min,IntKind.max,IntKind.signed,IntKind.bits] at h; omega
 have hb2 : -9223372036854775808 ≤ a2 ∧ a2 ≤ 9223372036854775807:=by have h:=w2; simp [Lit.wf,IntKind.min,IntKind.max,IntKind.signed,IntKind.bits] at h; omega
 refine (deskAlike_any s0 a1 a2 W hb1.1 hb1.2 hb2.1 hb2.2 (desk_tab hL)).mono fun e W' ⟨he,hb⟩=>?_;subst he;exact ⟨_,rfl,law_post (tb:=4) laid_out (by rw [Tryz.params4]; decide +kernel) Tryz.underlying4 rfl hW' rfl hb rfl rfl rfl⟩
theorem deskAlike_holds : Rows.DeskAlikeSaid :=
 OpenClaim.holds_of_wide 4 Tryz.f4 rfl rfl rfl rfl rfl rfl rfl ⟨rfl,rfl,rfl,rfl,rfl⟩ rfl rfl rfl rfl rfl (by kernel_rfl) Tryz.func4 (by kernel_rfl)
  (of_decide_eq_true (by kernel_rfl)) (by unfold Func.isWrapper; first | (rw [if_pos (by decide +kernel)]; kernel_rfl) | (rw [if_neg (by decide +kernel)]; exact ⟨rfl,rfl⟩))
  (fun os started H enc _=>deskAlike_lifted os started H enc)
theorem deskAlikeCard_holds : Rows.DeskAlikeCardSaid :=
 Claim7.holds_tied_plain_at .later [] [.data,.data,.data] true (true,"52af445ddccd59b908070cb8956061e90e91b90ecf7007f39c6f6ae779dcfcc2") false
  deskAlike_holds (fun _ h=>by cases h) (by kernel_rfl) (fun _ h=>by cases h) deskAlike_row_tie rfl ⟨rfl,rfl⟩ (by kernel_rfl) rfl
  (fun f fn hf hfn => by
    obtain rfl : f = 4:=Option.some.inj ((show Tryz.prog.funcNamed "underpaint/underpaintlaw.DeskAlike" = some 4 by kernel_rfl).symm.trans hf) |>.symm;obtain rfl : fn = Tryz.f4:=(Option.some.inj (Tryz.func4.symm.trans hfn)).symm
    exact ⟨by kernel_rfl,fun j t ht=>by
     rw [Tryz.params4] at ht;have hm : t ∈ [9,3,3]:=by simpa using Array.mem_of_getElem? ht
     have hall : ([9,3,3].all fun u=>!Tryz.prog.wantsStandIn u) = true:=by kernel_rfl
     exact (show Tryz.prog.wantsStandIn t = false by simpa using List.all_eq_true.1 hall t hm)⟩)
  (by kernel_rfl)
end Go.Proofs.YtibpmogmeoappaaGreatDoor
