/-
  No cell of these rows narrows 'for every input' (looked for: loops, veiled, ifaces, maps, wideKeys, modest, calm, conditions, laid).
  DERIVED. THE GIVEN ROWS OF THIS SEAT. 10 by the template 'for every input the law returns true; each argument reads behind the call as it read before'; 0 by the template 'total and deterministic' (their statements: YtibpmogmeoappaaTotals.lean).
  GIVEN WITH THE SEED: the statements are not yours to turn. If you find one false, say at which input.
  Laid BY PROGRAM, IN A SANDBOX (cutbox-rows.mjs): the forced cells as the released guide's own fill.sh prints them over the translation 7e961d9ee6cd074e… (all of the seat's roots in one cut). By AI agents, Wed Nov 11 2026. No macro, syntax, notation, axiom, sorry.
-/
import Derived.Test.YtibpmogmeoappaaChecked
import GoSem.Claim
import GoSem.ClaimJoined
import GoSem.ClaimMapViews
import Derived.JoinedTies
import Derived.KernelRfl
namespace Go.Proofs.Ytibpmogmeoappaa
/- THE CELL 'sum', in the pinned program and in every row, IS THE sha256 OF THE DUMP (.gsa) THAT YtibpmogmeoappaaProg.lean LOADS. Nothing in Lean hashes anything: it is a label: what it is worth is what the hold of that sum in a sandbox is worth. -/
noncomputable def Try.pinned : Pinned := { name := "ytibpmogmeoappaa", sum := "7e961d9ee6cd074e87fa8c074a37da0a7b589720e8787c82ff64db2be332e8c1", checked := Try.checked }
namespace Rows
def none {H : Type} : Left H := { results := [], args := [] }

/-- 'underpaintlaw.ImageMakes': WHATEVER THE INPUT: true; the input reads as it did. -/
def imageMakesSpec : ChangeSpec := { name := "imageMakes", fn := fun _ => fun
  | [d1, d2, d3, d4, d5] => { results := [.lit (.bool true)], args := [d1, d2, d3, d4, d5] }
  | _ => none }
def imageMakesRow : OpenClaim := { program := "ytibpmogmeoappaa", sum := "7e961d9ee6cd074e87fa8c074a37da0a7b589720e8787c82ff64db2be332e8c1", func := "underpaint/underpaintlaw.ImageMakes", spec := "imageMakes", unfollowed := true, recurses := true, apart := false }
def ImageMakesSaid : Prop := imageMakesRow.holds Try.pinned (OpenSpec.ofChange imageMakesSpec)

/-- ITS FALSE NEIGHBOUR: 'it returns false'. Refute it at one input. -/
def imageMakesWrong : ChangeSpec := { name := "imageMakes", fn := fun _ => fun
  | [d1, d2, d3, d4, d5] => { results := [.lit (.bool false)], args := [d1, d2, d3, d4, d5] }
  | _ => none }
def ImageMakesWrongFalsely : Prop := imageMakesRow.holds Try.pinned (OpenSpec.ofChange imageMakesWrong)

/-- 'underpaintlaw.ImageOnes': WHATEVER THE INPUT: true; the input reads as it did. -/
def imageOnesSpec : ChangeSpec := { name := "imageOnes", fn := fun _ => fun
  | [d1, d2, d3] => { results := [.lit (.bool true)], args := [d1, d2, d3] }
  | _ => none }
def imageOnesRow : OpenClaim := { program := "ytibpmogmeoappaa", sum := "7e961d9ee6cd074e87fa8c074a37da0a7b589720e8787c82ff64db2be332e8c1", func := "underpaint/underpaintlaw.ImageOnes", spec := "imageOnes", unfollowed := true, recurses := true, apart := false }
def ImageOnesSaid : Prop := imageOnesRow.holds Try.pinned (OpenSpec.ofChange imageOnesSpec)

/-- ITS FALSE NEIGHBOUR: 'it returns false'. Refute it at one input. -/
def imageOnesWrong : ChangeSpec := { name := "imageOnes", fn := fun _ => fun
  | [d1, d2, d3] => { results := [.lit (.bool false)], args := [d1, d2, d3] }
  | _ => none }
def ImageOnesWrongFalsely : Prop := imageOnesRow.holds Try.pinned (OpenSpec.ofChange imageOnesWrong)

/-- 'underpaintlaw.ImageTwos': WHATEVER THE INPUT: true; the input reads as it did. -/
def imageTwosSpec : ChangeSpec := { name := "imageTwos", fn := fun _ => fun
  | [d1, d2, d3] => { results := [.lit (.bool true)], args := [d1, d2, d3] }
  | _ => none }
def imageTwosRow : OpenClaim := { program := "ytibpmogmeoappaa", sum := "7e961d9ee6cd074e87fa8c074a37da0a7b589720e8787c82ff64db2be332e8c1", func := "underpaint/underpaintlaw.ImageTwos", spec := "imageTwos", unfollowed := true, recurses := true, apart := false }
def ImageTwosSaid : Prop := imageTwosRow.holds Try.pinned (OpenSpec.ofChange imageTwosSpec)

/-- ITS FALSE NEIGHBOUR: 'it returns false'. Refute it at one input. -/
def imageTwosWrong : ChangeSpec := { name := "imageTwos", fn := fun _ => fun
  | [d1, d2, d3] => { results := [.lit (.bool false)], args := [d1, d2, d3] }
  | _ => none }
def ImageTwosWrongFalsely : Prop := imageTwosRow.holds Try.pinned (OpenSpec.ofChange imageTwosWrong)

/-- 'underpaintlaw.ImageTrue': WHATEVER THE INPUT: true; the input reads as it did. -/
def imageTrueSpec : ChangeSpec := { name := "imageTrue", fn := fun _ => fun
  | [d1, d2, d3, d4, d5, d6] => { results := [.lit (.bool true)], args := [d1, d2, d3, d4, d5, d6] }
  | _ => none }
def imageTrueRow : OpenClaim := { program := "ytibpmogmeoappaa", sum := "7e961d9ee6cd074e87fa8c074a37da0a7b589720e8787c82ff64db2be332e8c1", func := "underpaint/underpaintlaw.ImageTrue", spec := "imageTrue", unfollowed := true, recurses := true, apart := false }
def ImageTrueSaid : Prop := imageTrueRow.holds Try.pinned (OpenSpec.ofChange imageTrueSpec)

/-- ITS FALSE NEIGHBOUR: 'it returns false'. Refute it at one input. -/
def imageTrueWrong : ChangeSpec := { name := "imageTrue", fn := fun _ => fun
  | [d1, d2, d3, d4, d5, d6] => { results := [.lit (.bool false)], args := [d1, d2, d3, d4, d5, d6] }
  | _ => none }
def ImageTrueWrongFalsely : Prop := imageTrueRow.holds Try.pinned (OpenSpec.ofChange imageTrueWrong)

/-- 'underpaintlaw.LightTells': WHATEVER THE INPUT: true; the input reads as it did. -/
def lightTellsSpec : ChangeSpec := { name := "lightTells", fn := fun _ => fun
  | [d1, d2, d3, d4, d5] => { results := [.lit (.bool true)], args := [d1, d2, d3, d4, d5] }
  | _ => none }
def lightTellsRow : OpenClaim := { program := "ytibpmogmeoappaa", sum := "7e961d9ee6cd074e87fa8c074a37da0a7b589720e8787c82ff64db2be332e8c1", func := "underpaint/underpaintlaw.LightTells", spec := "lightTells", unfollowed := true, recurses := true, apart := false }
def LightTellsSaid : Prop := lightTellsRow.holds Try.pinned (OpenSpec.ofChange lightTellsSpec)

/-- ITS FALSE NEIGHBOUR: 'it returns false'. Refute it at one input. -/
def lightTellsWrong : ChangeSpec := { name := "lightTells", fn := fun _ => fun
  | [d1, d2, d3, d4, d5] => { results := [.lit (.bool false)], args := [d1, d2, d3, d4, d5] }
  | _ => none }
def LightTellsWrongFalsely : Prop := lightTellsRow.holds Try.pinned (OpenSpec.ofChange lightTellsWrong)

/-- 'underpaintlaw.LightLits': WHATEVER THE INPUT: true; the input reads as it did. -/
def lightLitsSpec : ChangeSpec := { name := "lightLits", fn := fun _ => fun
  | [d1, d2, d3] => { results := [.lit (.bool true)], args := [d1, d2, d3] }
  | _ => none }
def lightLitsRow : OpenClaim := { program := "ytibpmogmeoappaa", sum := "7e961d9ee6cd074e87fa8c074a37da0a7b589720e8787c82ff64db2be332e8c1", func := "underpaint/underpaintlaw.LightLits", spec := "lightLits", unfollowed := true, recurses := true, apart := false }
def LightLitsSaid : Prop := lightLitsRow.holds Try.pinned (OpenSpec.ofChange lightLitsSpec)

/-- ITS FALSE NEIGHBOUR: 'it returns false'. Refute it at one input. -/
def lightLitsWrong : ChangeSpec := { name := "lightLits", fn := fun _ => fun
  | [d1, d2, d3] => { results := [.lit (.bool false)], args := [d1, d2, d3] }
  | _ => none }
def LightLitsWrongFalsely : Prop := lightLitsRow.holds Try.pinned (OpenSpec.ofChange lightLitsWrong)

/-- 'underpaintlaw.LightTiles': WHATEVER THE INPUT: true; the input reads as it did. -/
def lightTilesSpec : ChangeSpec := { name := "lightTiles", fn := fun _ => fun
  | [d1, d2, d3, d4, d5, d6, d7, d8, d9] => { results := [.lit (.bool true)], args := [d1, d2, d3, d4, d5, d6, d7, d8, d9] }
  | _ => none }
def lightTilesRow : OpenClaim := { program := "ytibpmogmeoappaa", sum := "7e961d9ee6cd074e87fa8c074a37da0a7b589720e8787c82ff64db2be332e8c1", func := "underpaint/underpaintlaw.LightTiles", spec := "lightTiles", unfollowed := true, recurses := true, apart := false }
def LightTilesSaid : Prop := lightTilesRow.holds Try.pinned (OpenSpec.ofChange lightTilesSpec)

/-- ITS FALSE NEIGHBOUR: 'it returns false'. Refute it at one input. -/
def lightTilesWrong : ChangeSpec := { name := "lightTiles", fn := fun _ => fun
  | [d1, d2, d3, d4, d5, d6, d7, d8, d9] => { results := [.lit (.bool false)], args := [d1, d2, d3, d4, d5, d6, d7, d8, d9] }
  | _ => none }
def LightTilesWrongFalsely : Prop := lightTilesRow.holds Try.pinned (OpenSpec.ofChange lightTilesWrong)

/-- 'underpaintlaw.WireWrites': WHATEVER THE INPUT: true; the input reads as it did. -/
def wireWritesSpec : ChangeSpec := { name := "wireWrites", fn := fun _ => fun
  | [d1, d2] => { results := [.lit (.bool true)], args := [d1, d2] }
  | _ => none }
def wireWritesRow : OpenClaim := { program := "ytibpmogmeoappaa", sum := "7e961d9ee6cd074e87fa8c074a37da0a7b589720e8787c82ff64db2be332e8c1", func := "underpaint/underpaintlaw.WireWrites", spec := "wireWrites", unfollowed := true, recurses := true, apart := false }
def WireWritesSaid : Prop := wireWritesRow.holds Try.pinned (OpenSpec.ofChange wireWritesSpec)

/-- ITS FALSE NEIGHBOUR: 'it returns false'. Refute it at one input. -/
def wireWritesWrong : ChangeSpec := { name := "wireWrites", fn := fun _ => fun
  | [d1, d2] => { results := [.lit (.bool false)], args := [d1, d2] }
  | _ => none }
def WireWritesWrongFalsely : Prop := wireWritesRow.holds Try.pinned (OpenSpec.ofChange wireWritesWrong)

/-- 'underpaintlaw.WireBack': WHATEVER THE INPUT: true; the input reads as it did. -/
def wireBackSpec : ChangeSpec := { name := "wireBack", fn := fun _ => fun
  | [d1, d2] => { results := [.lit (.bool true)], args := [d1, d2] }
  | _ => none }
def wireBackRow : OpenClaim := { program := "ytibpmogmeoappaa", sum := "7e961d9ee6cd074e87fa8c074a37da0a7b589720e8787c82ff64db2be332e8c1", func := "underpaint/underpaintlaw.WireBack", spec := "wireBack", unfollowed := true, recurses := true, apart := false }
def WireBackSaid : Prop := wireBackRow.holds Try.pinned (OpenSpec.ofChange wireBackSpec)

/-- ITS FALSE NEIGHBOUR: 'it returns false'. Refute it at one input. -/
def wireBackWrong : ChangeSpec := { name := "wireBack", fn := fun _ => fun
  | [d1, d2] => { results := [.lit (.bool false)], args := [d1, d2] }
  | _ => none }
def WireBackWrongFalsely : Prop := wireBackRow.holds Try.pinned (OpenSpec.ofChange wireBackWrong)

/-- 'underpaintlaw.NeedTells': WHATEVER THE INPUT: true; the input reads as it did. -/
def needTellsSpec : ChangeSpec := { name := "needTells", fn := fun _ => fun
  | [d] => { results := [.lit (.bool true)], args := [d] }
  | _ => none }
def needTellsRow : OpenClaim := { program := "ytibpmogmeoappaa", sum := "7e961d9ee6cd074e87fa8c074a37da0a7b589720e8787c82ff64db2be332e8c1", func := "underpaint/underpaintlaw.NeedTells", spec := "needTells", unfollowed := true, recurses := true, apart := false }
def NeedTellsSaid : Prop := needTellsRow.holds Try.pinned (OpenSpec.ofChange needTellsSpec)

/-- ITS FALSE NEIGHBOUR: 'it returns false'. Refute it at one input. -/
def needTellsWrong : ChangeSpec := { name := "needTells", fn := fun _ => fun
  | [d] => { results := [.lit (.bool false)], args := [d] }
  | _ => none }
def NeedTellsWrongFalsely : Prop := needTellsRow.holds Try.pinned (OpenSpec.ofChange needTellsWrong)

/- THE SECOND FORM. 'bulk': how many values and letters a reading holds, each counted each time it is reached (what is shared counts as often as it is met; a slice's spare places count too). A statement '..UptoSaid' is the law's where the arguments, and the package variables that the reading takes, are together of bulk at most 1048576: NARROWER than '..Said'. Prove '..Said' where nothing that the law and all that it calls make is longer than what came in: it says more and counts as full. Else prove '..UptoSaid'. A law counts once. -/
mutual
def uptoBulk {H : Type} : DataW H → Nat
  | .lit (.string bytes) => bytes.length + 1
  | .lit _ => 1
  | .nil => 1
  | .ptr d => uptoBulk d + 1
  | .slice elems spare => uptoBulkAll elems + uptoBulkAll spare + 1
  | .agg parts => uptoBulkAll parts + 1
  | .iface _ d => uptoBulk d + 1
  | .map entries => uptoBulkEntries entries + 1
  | .held _ => 1
def uptoBulkAll {H : Type} : List (DataW H) → Nat
  | [] => 0
  | d :: r => uptoBulk d + uptoBulkAll r
def uptoBulkEntries {H : Type} : List (Lit × DataW H) → Nat
  | [] => 0
  | x :: r => uptoBulkEntry x + uptoBulkEntries r
def uptoBulkEntry {H : Type} : Lit × DataW H → Nat
  | (.string bytes, d) => bytes.length + uptoBulk d + 1
  | (_, d) => uptoBulk d + 1
 end
def uptoSmall : (H : Type) → List (DataW H) → Bool := fun _ ds => decide (uptoBulkAll ds ≤ 1048576)
def OpenSpec.upto (s : _root_.Go.ChangeSpec) : _root_.Go.OpenSpec := { _root_.Go.OpenSpec.ofChange s with cond := some uptoSmall }

/-- 'underpaintlaw.ImageMakes', WHERE WHAT IT READS IS OF BULK AT MOST 1048576: true; the input reads as it did. -/
def imageMakesUptoRow : OpenClaim := { program := "ytibpmogmeoappaa", sum := "7e961d9ee6cd074e87fa8c074a37da0a7b589720e8787c82ff64db2be332e8c1", func := "underpaint/underpaintlaw.ImageMakes", spec := "imageMakes", unfollowed := true, recurses := true, apart := false, narrowed := true }
def ImageMakesUptoSaid : Prop := imageMakesUptoRow.holds Try.pinned (OpenSpec.upto imageMakesSpec)

/-- 'underpaintlaw.ImageOnes', WHERE WHAT IT READS IS OF BULK AT MOST 1048576: true; the input reads as it did. -/
def imageOnesUptoRow : OpenClaim := { program := "ytibpmogmeoappaa", sum := "7e961d9ee6cd074e87fa8c074a37da0a7b589720e8787c82ff64db2be332e8c1", func := "underpaint/underpaintlaw.ImageOnes", spec := "imageOnes", unfollowed := true, recurses := true, apart := false, narrowed := true }
def ImageOnesUptoSaid : Prop := imageOnesUptoRow.holds Try.pinned (OpenSpec.upto imageOnesSpec)

/-- 'underpaintlaw.ImageTwos', WHERE WHAT IT READS IS OF BULK AT MOST 1048576: true; the input reads as it did. -/
def imageTwosUptoRow : OpenClaim := { program := "ytibpmogmeoappaa", sum := "7e961d9ee6cd074e87fa8c074a37da0a7b589720e8787c82ff64db2be332e8c1", func := "underpaint/underpaintlaw.ImageTwos", spec := "imageTwos", unfollowed := true, recurses := true, apart := false, narrowed := true }
def ImageTwosUptoSaid : Prop := imageTwosUptoRow.holds Try.pinned (OpenSpec.upto imageTwosSpec)

/-- 'underpaintlaw.ImageTrue', WHERE WHAT IT READS IS OF BULK AT MOST 1048576: true; the input reads as it did. -/
def imageTrueUptoRow : OpenClaim := { program := "ytibpmogmeoappaa", sum := "7e961d9ee6cd074e87fa8c074a37da0a7b589720e8787c82ff64db2be332e8c1", func := "underpaint/underpaintlaw.ImageTrue", spec := "imageTrue", unfollowed := true, recurses := true, apart := false, narrowed := true }
def ImageTrueUptoSaid : Prop := imageTrueUptoRow.holds Try.pinned (OpenSpec.upto imageTrueSpec)

/-- 'underpaintlaw.LightTells', WHERE WHAT IT READS IS OF BULK AT MOST 1048576: true; the input reads as it did. -/
def lightTellsUptoRow : OpenClaim := { program := "ytibpmogmeoappaa", sum := "7e961d9ee6cd074e87fa8c074a37da0a7b589720e8787c82ff64db2be332e8c1", func := "underpaint/underpaintlaw.LightTells", spec := "lightTells", unfollowed := true, recurses := true, apart := false, narrowed := true }
def LightTellsUptoSaid : Prop := lightTellsUptoRow.holds Try.pinned (OpenSpec.upto lightTellsSpec)

/-- 'underpaintlaw.LightLits', WHERE WHAT IT READS IS OF BULK AT MOST 1048576: true; the input reads as it did. -/
def lightLitsUptoRow : OpenClaim := { program := "ytibpmogmeoappaa", sum := "7e961d9ee6cd074e87fa8c074a37da0a7b589720e8787c82ff64db2be332e8c1", func := "underpaint/underpaintlaw.LightLits", spec := "lightLits", unfollowed := true, recurses := true, apart := false, narrowed := true }
def LightLitsUptoSaid : Prop := lightLitsUptoRow.holds Try.pinned (OpenSpec.upto lightLitsSpec)

/-- 'underpaintlaw.LightTiles', WHERE WHAT IT READS IS OF BULK AT MOST 1048576: true; the input reads as it did. -/
def lightTilesUptoRow : OpenClaim := { program := "ytibpmogmeoappaa", sum := "7e961d9ee6cd074e87fa8c074a37da0a7b589720e8787c82ff64db2be332e8c1", func := "underpaint/underpaintlaw.LightTiles", spec := "lightTiles", unfollowed := true, recurses := true, apart := false, narrowed := true }
def LightTilesUptoSaid : Prop := lightTilesUptoRow.holds Try.pinned (OpenSpec.upto lightTilesSpec)

/-- 'underpaintlaw.WireWrites', WHERE WHAT IT READS IS OF BULK AT MOST 1048576: true; the input reads as it did. -/
def wireWritesUptoRow : OpenClaim := { program := "ytibpmogmeoappaa", sum := "7e961d9ee6cd074e87fa8c074a37da0a7b589720e8787c82ff64db2be332e8c1", func := "underpaint/underpaintlaw.WireWrites", spec := "wireWrites", unfollowed := true, recurses := true, apart := false, narrowed := true }
def WireWritesUptoSaid : Prop := wireWritesUptoRow.holds Try.pinned (OpenSpec.upto wireWritesSpec)

/-- 'underpaintlaw.WireBack', WHERE WHAT IT READS IS OF BULK AT MOST 1048576: true; the input reads as it did. -/
def wireBackUptoRow : OpenClaim := { program := "ytibpmogmeoappaa", sum := "7e961d9ee6cd074e87fa8c074a37da0a7b589720e8787c82ff64db2be332e8c1", func := "underpaint/underpaintlaw.WireBack", spec := "wireBack", unfollowed := true, recurses := true, apart := false, narrowed := true }
def WireBackUptoSaid : Prop := wireBackUptoRow.holds Try.pinned (OpenSpec.upto wireBackSpec)

/-- 'underpaintlaw.NeedTells', WHERE WHAT IT READS IS OF BULK AT MOST 1048576: true; the input reads as it did. -/
def needTellsUptoRow : OpenClaim := { program := "ytibpmogmeoappaa", sum := "7e961d9ee6cd074e87fa8c074a37da0a7b589720e8787c82ff64db2be332e8c1", func := "underpaint/underpaintlaw.NeedTells", spec := "needTells", unfollowed := true, recurses := true, apart := false, narrowed := true }
def NeedTellsUptoSaid : Prop := needTellsUptoRow.holds Try.pinned (OpenSpec.upto needTellsSpec)

end Rows
end Go.Proofs.Ytibpmogmeoappaa
