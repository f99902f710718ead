/- Numbers that came in. -/
import Derived.Test.YtibpmogmeoappabGreatJWrap
set_option maxRecDepth 100000
namespace Go.Proofs.YtibpmogmeoappabGreat
open Go.ChangeShapes Go.WideShapes Go.ChangeAt Go.RowKit
theorem ints_param {H : Type} {enc : TypeId × Value → H} {W : World} {r : Reach} {b0 : Nat} {v : Value} {d : DataW H} {p : List MemPlace}
 (hv : Value.okWide Tryz.prog W r b0 25 v) (h : DataW.Trod enc Tryz.prog W 0 (fun _=>true) true 25 v d p) :
 ∃ (A : Option Addr) (len cap : Nat) (xs : List Int),v = .slice A len cap ∧ xs.length = len ∧ Ints W A xs ∧ len ≤ 9223372036854775807 ∧ len ≤ cap:=by
 obtain ⟨A,n,c,rfl⟩:=okWide_slice Tryz.underlying25 hv;obtain ⟨k,hk⟩:=h;exact ints_room hk
end Go.Proofs.YtibpmogmeoappabGreat
