/-
  No cell of these rows narrows 'for every input' (looked for: loops, veiled, ifaces, maps, wideKeys, modest, calm, conditions, laid).
  DERIVED. THE GIVEN ROWS OF THIS SEAT. 12 by the template 'for every input the law returns true; each argument reads behind the call as it read before'; 0 by the template 'total and deterministic' (their statements: YtnnofopfbeklbaaGreatTotals.lean).
  GIVEN WITH THE SEED: the statements are not yours to turn. If you find one false, say at which input.
  Laid BY PROGRAM, IN A SANDBOX (cutbox-rows.mjs): the forced cells as the released guide's own fill.sh prints them over the translation 5df5957128414017… (all of the seat's roots in one cut). By AI agents, Wed Nov 11 2026. No macro, syntax, notation, axiom, sorry.
-/
import Derived.Test.YtnnofopfbeklbaaGreatChecked
import GoSem.Claim
import GoSem.ClaimJoined
import GoSem.ClaimMapViews
import Derived.JoinedTies
import Derived.KernelRfl
namespace Go.Proofs.YtnnofopfbeklbaaGreat
/- THE CELL 'sum', in the pinned program and in every row, IS THE sha256 OF THE DUMP (.gsa) THAT YtnnofopfbeklbaaGreatProg.lean LOADS. Nothing in Lean hashes anything: it is a label: what it is worth is what the hold of that sum in a sandbox is worth. -/
noncomputable def Tryz.pinned : Pinned := { name := "ytnnofopfbeklbaagreat", sum := "5df5957128414017035bf4e1dfdcce774e734df013e88462f4f84fcd5db125be", checked := Tryz.checked }
namespace Rows
def none {H : Type} : Left H := { results := [], args := [] }

/-- 'fasciclelaw15.SegmentBuilds': WHATEVER THE INPUT: true; the input reads as it did. -/
def segmentBuildsSpec : ChangeSpec := { name := "segmentBuilds", fn := fun _ => fun
  | [d1, d2, d3] => { results := [.lit (.bool true)], args := [d1, d2, d3] }
  | _ => none }
def segmentBuildsRow : OpenClaim := { program := "ytnnofopfbeklbaagreat", sum := "5df5957128414017035bf4e1dfdcce774e734df013e88462f4f84fcd5db125be", func := "fascicle/fasciclelaw15.SegmentBuilds", spec := "segmentBuilds", inPlace := ["internal/bytealg.IndexByte", "internal/bytealg.MakeNoZero"], unfollowed := true, recurses := true, apart := false }
def SegmentBuildsSaid : Prop := segmentBuildsRow.holds Tryz.pinned (OpenSpec.ofChange segmentBuildsSpec)

/-- ITS FALSE NEIGHBOUR: 'it returns false'. Refute it at one input. -/
def segmentBuildsWrong : ChangeSpec := { name := "segmentBuilds", fn := fun _ => fun
  | [d1, d2, d3] => { results := [.lit (.bool false)], args := [d1, d2, d3] }
  | _ => none }
def SegmentBuildsWrongFalsely : Prop := segmentBuildsRow.holds Tryz.pinned (OpenSpec.ofChange segmentBuildsWrong)

/-- 'fasciclelaw16.ImageEncodes': WHATEVER THE INPUT: true; the input reads as it did. -/
def imageEncodesSpec : ChangeSpec := { name := "imageEncodes", fn := fun _ => fun
  | [d1, d2] => { results := [.lit (.bool true)], args := [d1, d2] }
  | _ => none }
def imageEncodesRow : OpenClaim := { program := "ytnnofopfbeklbaagreat", sum := "5df5957128414017035bf4e1dfdcce774e734df013e88462f4f84fcd5db125be", func := "fascicle/fasciclelaw16.ImageEncodes", spec := "imageEncodes", inPlace := ["internal/bytealg.IndexByte", "internal/bytealg.MakeNoZero"], unfollowed := true, recurses := true, apart := false }
def ImageEncodesSaid : Prop := imageEncodesRow.holds Tryz.pinned (OpenSpec.ofChange imageEncodesSpec)

/-- ITS FALSE NEIGHBOUR: 'it returns false'. Refute it at one input. -/
def imageEncodesWrong : ChangeSpec := { name := "imageEncodes", fn := fun _ => fun
  | [d1, d2] => { results := [.lit (.bool false)], args := [d1, d2] }
  | _ => none }
def ImageEncodesWrongFalsely : Prop := imageEncodesRow.holds Tryz.pinned (OpenSpec.ofChange imageEncodesWrong)

/-- 'fasciclelaw16.ImageApart': WHATEVER THE INPUT: true; the input reads as it did. -/
def imageApartSpec : ChangeSpec := { name := "imageApart", fn := fun _ => fun
  | [d1, d2, d3] => { results := [.lit (.bool true)], args := [d1, d2, d3] }
  | _ => none }
def imageApartRow : OpenClaim := { program := "ytnnofopfbeklbaagreat", sum := "5df5957128414017035bf4e1dfdcce774e734df013e88462f4f84fcd5db125be", func := "fascicle/fasciclelaw16.ImageApart", spec := "imageApart", inPlace := ["internal/bytealg.IndexByte", "internal/bytealg.MakeNoZero"], unfollowed := true, recurses := true, apart := false }
def ImageApartSaid : Prop := imageApartRow.holds Tryz.pinned (OpenSpec.ofChange imageApartSpec)

/-- ITS FALSE NEIGHBOUR: 'it returns false'. Refute it at one input. -/
def imageApartWrong : ChangeSpec := { name := "imageApart", fn := fun _ => fun
  | [d1, d2, d3] => { results := [.lit (.bool false)], args := [d1, d2, d3] }
  | _ => none }
def ImageApartWrongFalsely : Prop := imageApartRow.holds Tryz.pinned (OpenSpec.ofChange imageApartWrong)

/-- 'fasciclelaw16.ImagePlaces': WHATEVER THE INPUT: true; the input reads as it did. -/
def imagePlacesSpec : ChangeSpec := { name := "imagePlaces", fn := fun _ => fun
  | [d1, d2] => { results := [.lit (.bool true)], args := [d1, d2] }
  | _ => none }
def imagePlacesRow : OpenClaim := { program := "ytnnofopfbeklbaagreat", sum := "5df5957128414017035bf4e1dfdcce774e734df013e88462f4f84fcd5db125be", func := "fascicle/fasciclelaw16.ImagePlaces", spec := "imagePlaces", inPlace := ["internal/bytealg.IndexByte", "internal/bytealg.MakeNoZero"], unfollowed := true, recurses := true, apart := false }
def ImagePlacesSaid : Prop := imagePlacesRow.holds Tryz.pinned (OpenSpec.ofChange imagePlacesSpec)

/-- ITS FALSE NEIGHBOUR: 'it returns false'. Refute it at one input. -/
def imagePlacesWrong : ChangeSpec := { name := "imagePlaces", fn := fun _ => fun
  | [d1, d2] => { results := [.lit (.bool false)], args := [d1, d2] }
  | _ => none }
def ImagePlacesWrongFalsely : Prop := imagePlacesRow.holds Tryz.pinned (OpenSpec.ofChange imagePlacesWrong)

/-- 'fasciclelaw16.ImageErrors': WHATEVER THE INPUT: true; the input reads as it did. -/
def imageErrorsSpec : ChangeSpec := { name := "imageErrors", fn := fun _ => fun
  | [d1, d2] => { results := [.lit (.bool true)], args := [d1, d2] }
  | _ => none }
def imageErrorsRow : OpenClaim := { program := "ytnnofopfbeklbaagreat", sum := "5df5957128414017035bf4e1dfdcce774e734df013e88462f4f84fcd5db125be", func := "fascicle/fasciclelaw16.ImageErrors", spec := "imageErrors", inPlace := ["internal/bytealg.IndexByte", "internal/bytealg.MakeNoZero"], unfollowed := true, recurses := true, apart := false }
def ImageErrorsSaid : Prop := imageErrorsRow.holds Tryz.pinned (OpenSpec.ofChange imageErrorsSpec)

/-- ITS FALSE NEIGHBOUR: 'it returns false'. Refute it at one input. -/
def imageErrorsWrong : ChangeSpec := { name := "imageErrors", fn := fun _ => fun
  | [d1, d2] => { results := [.lit (.bool false)], args := [d1, d2] }
  | _ => none }
def ImageErrorsWrongFalsely : Prop := imageErrorsRow.holds Tryz.pinned (OpenSpec.ofChange imageErrorsWrong)

/-- 'fasciclelaw15.SegmentParses': WHATEVER THE INPUT: true; the input reads as it did. -/
def segmentParsesSpec : ChangeSpec := { name := "segmentParses", fn := fun _ => fun
  | [d1, d2, d3, d4] => { results := [.lit (.bool true)], args := [d1, d2, d3, d4] }
  | _ => none }
def segmentParsesRow : OpenClaim := { program := "ytnnofopfbeklbaagreat", sum := "5df5957128414017035bf4e1dfdcce774e734df013e88462f4f84fcd5db125be", func := "fascicle/fasciclelaw15.SegmentParses", spec := "segmentParses", inPlace := ["internal/bytealg.IndexByte", "internal/bytealg.MakeNoZero"], unfollowed := true, recurses := true, apart := false }
def SegmentParsesSaid : Prop := segmentParsesRow.holds Tryz.pinned (OpenSpec.ofChange segmentParsesSpec)

/-- ITS FALSE NEIGHBOUR: 'it returns false'. Refute it at one input. -/
def segmentParsesWrong : ChangeSpec := { name := "segmentParses", fn := fun _ => fun
  | [d1, d2, d3, d4] => { results := [.lit (.bool false)], args := [d1, d2, d3, d4] }
  | _ => none }
def SegmentParsesWrongFalsely : Prop := segmentParsesRow.holds Tryz.pinned (OpenSpec.ofChange segmentParsesWrong)

/-- 'fasciclelaw27.MigrateStrict': WHATEVER THE INPUT: true; the input reads as it did. -/
def migrateStrictSpec : ChangeSpec := { name := "migrateStrict", fn := fun _ => fun
  | [d1, d2] => { results := [.lit (.bool true)], args := [d1, d2] }
  | _ => none }
def migrateStrictRow : OpenClaim := { program := "ytnnofopfbeklbaagreat", sum := "5df5957128414017035bf4e1dfdcce774e734df013e88462f4f84fcd5db125be", func := "fascicle/fasciclelaw27.MigrateStrict", spec := "migrateStrict", inPlace := ["internal/bytealg.IndexByte", "internal/bytealg.MakeNoZero"], unfollowed := true, recurses := true, apart := false }
def MigrateStrictSaid : Prop := migrateStrictRow.holds Tryz.pinned (OpenSpec.ofChange migrateStrictSpec)

/-- ITS FALSE NEIGHBOUR: 'it returns false'. Refute it at one input. -/
def migrateStrictWrong : ChangeSpec := { name := "migrateStrict", fn := fun _ => fun
  | [d1, d2] => { results := [.lit (.bool false)], args := [d1, d2] }
  | _ => none }
def MigrateStrictWrongFalsely : Prop := migrateStrictRow.holds Tryz.pinned (OpenSpec.ofChange migrateStrictWrong)

/-- 'fasciclelaw27.MigratePrefix': WHATEVER THE INPUT: true; the input reads as it did. -/
def migratePrefixSpec : ChangeSpec := { name := "migratePrefix", fn := fun _ => fun
  | [d1, d2] => { results := [.lit (.bool true)], args := [d1, d2] }
  | _ => none }
def migratePrefixRow : OpenClaim := { program := "ytnnofopfbeklbaagreat", sum := "5df5957128414017035bf4e1dfdcce774e734df013e88462f4f84fcd5db125be", func := "fascicle/fasciclelaw27.MigratePrefix", spec := "migratePrefix", inPlace := ["internal/bytealg.IndexByte", "internal/bytealg.MakeNoZero"], unfollowed := true, recurses := true, apart := false }
def MigratePrefixSaid : Prop := migratePrefixRow.holds Tryz.pinned (OpenSpec.ofChange migratePrefixSpec)

/-- ITS FALSE NEIGHBOUR: 'it returns false'. Refute it at one input. -/
def migratePrefixWrong : ChangeSpec := { name := "migratePrefix", fn := fun _ => fun
  | [d1, d2] => { results := [.lit (.bool false)], args := [d1, d2] }
  | _ => none }
def MigratePrefixWrongFalsely : Prop := migratePrefixRow.holds Tryz.pinned (OpenSpec.ofChange migratePrefixWrong)

/-- 'fasciclelaw27.MigrateErrors': WHATEVER THE INPUT: true; the input reads as it did. -/
def migrateErrorsSpec : ChangeSpec := { name := "migrateErrors", fn := fun _ => fun
  | [d1, d2] => { results := [.lit (.bool true)], args := [d1, d2] }
  | _ => none }
def migrateErrorsRow : OpenClaim := { program := "ytnnofopfbeklbaagreat", sum := "5df5957128414017035bf4e1dfdcce774e734df013e88462f4f84fcd5db125be", func := "fascicle/fasciclelaw27.MigrateErrors", spec := "migrateErrors", inPlace := ["internal/bytealg.IndexByte", "internal/bytealg.MakeNoZero"], unfollowed := true, recurses := true, apart := false }
def MigrateErrorsSaid : Prop := migrateErrorsRow.holds Tryz.pinned (OpenSpec.ofChange migrateErrorsSpec)

/-- ITS FALSE NEIGHBOUR: 'it returns false'. Refute it at one input. -/
def migrateErrorsWrong : ChangeSpec := { name := "migrateErrors", fn := fun _ => fun
  | [d1, d2] => { results := [.lit (.bool false)], args := [d1, d2] }
  | _ => none }
def MigrateErrorsWrongFalsely : Prop := migrateErrorsRow.holds Tryz.pinned (OpenSpec.ofChange migrateErrorsWrong)

/-- 'fasciclelaw15.SegmentBack': WHATEVER THE INPUT: true; the input reads as it did. -/
def segmentBackSpec : ChangeSpec := { name := "segmentBack", fn := fun _ => fun
  | [d1, d2, d3, d4, d5] => { results := [.lit (.bool true)], args := [d1, d2, d3, d4, d5] }
  | _ => none }
def segmentBackRow : OpenClaim := { program := "ytnnofopfbeklbaagreat", sum := "5df5957128414017035bf4e1dfdcce774e734df013e88462f4f84fcd5db125be", func := "fascicle/fasciclelaw15.SegmentBack", spec := "segmentBack", inPlace := ["internal/bytealg.IndexByte", "internal/bytealg.MakeNoZero"], unfollowed := true, recurses := true, apart := false }
def SegmentBackSaid : Prop := segmentBackRow.holds Tryz.pinned (OpenSpec.ofChange segmentBackSpec)

/-- ITS FALSE NEIGHBOUR: 'it returns false'. Refute it at one input. -/
def segmentBackWrong : ChangeSpec := { name := "segmentBack", fn := fun _ => fun
  | [d1, d2, d3, d4, d5] => { results := [.lit (.bool false)], args := [d1, d2, d3, d4, d5] }
  | _ => none }
def SegmentBackWrongFalsely : Prop := segmentBackRow.holds Tryz.pinned (OpenSpec.ofChange segmentBackWrong)

/-- 'fasciclelaw23.SalvageBounds': WHATEVER THE INPUT: true; the input reads as it did. -/
def salvageBoundsSpec : ChangeSpec := { name := "salvageBounds", fn := fun _ => fun
  | [d1, d2] => { results := [.lit (.bool true)], args := [d1, d2] }
  | _ => none }
def salvageBoundsRow : OpenClaim := { program := "ytnnofopfbeklbaagreat", sum := "5df5957128414017035bf4e1dfdcce774e734df013e88462f4f84fcd5db125be", func := "fascicle/fasciclelaw23.SalvageBounds", spec := "salvageBounds", inPlace := ["internal/bytealg.IndexByte", "internal/bytealg.MakeNoZero"], unfollowed := true, recurses := true, apart := false }
def SalvageBoundsSaid : Prop := salvageBoundsRow.holds Tryz.pinned (OpenSpec.ofChange salvageBoundsSpec)

/-- ITS FALSE NEIGHBOUR: 'it returns false'. Refute it at one input. -/
def salvageBoundsWrong : ChangeSpec := { name := "salvageBounds", fn := fun _ => fun
  | [d1, d2] => { results := [.lit (.bool false)], args := [d1, d2] }
  | _ => none }
def SalvageBoundsWrongFalsely : Prop := salvageBoundsRow.holds Tryz.pinned (OpenSpec.ofChange salvageBoundsWrong)

/-- 'fasciclelaw23.SalvageAny': WHATEVER THE INPUT: true; the input reads as it did. -/
def salvageAnySpec : ChangeSpec := { name := "salvageAny", fn := fun _ => fun
  | [d1, d2] => { results := [.lit (.bool true)], args := [d1, d2] }
  | _ => none }
def salvageAnyRow : OpenClaim := { program := "ytnnofopfbeklbaagreat", sum := "5df5957128414017035bf4e1dfdcce774e734df013e88462f4f84fcd5db125be", func := "fascicle/fasciclelaw23.SalvageAny", spec := "salvageAny", inPlace := ["internal/bytealg.IndexByte", "internal/bytealg.MakeNoZero"], unfollowed := true, recurses := true, apart := false }
def SalvageAnySaid : Prop := salvageAnyRow.holds Tryz.pinned (OpenSpec.ofChange salvageAnySpec)

/-- ITS FALSE NEIGHBOUR: 'it returns false'. Refute it at one input. -/
def salvageAnyWrong : ChangeSpec := { name := "salvageAny", fn := fun _ => fun
  | [d1, d2] => { results := [.lit (.bool false)], args := [d1, d2] }
  | _ => none }
def SalvageAnyWrongFalsely : Prop := salvageAnyRow.holds Tryz.pinned (OpenSpec.ofChange salvageAnyWrong)

/- THE SECOND FORM. 'bulk': how many values and letters a reading holds, each counted each time it is reached (what is shared counts as often as it is met; a slice's spare places count too). A statement '..UptoSaid' is the law's where the arguments, and the package variables that the reading takes, are together of bulk at most 1048576: NARROWER than '..Said'. Prove '..Said' where nothing that the law and all that it calls make is longer than what came in: it says more and counts as full. Else prove '..UptoSaid'. A law counts once. -/
mutual
def uptoBulk {H : Type} : DataW H → Nat
  | .lit (.string bytes) => bytes.length + 1
  | .lit _ => 1
  | .nil => 1
  | .ptr d => uptoBulk d + 1
  | .slice elems spare => uptoBulkAll elems + uptoBulkAll spare + 1
  | .agg parts => uptoBulkAll parts + 1
  | .iface _ d => uptoBulk d + 1
  | .map entries => uptoBulkEntries entries + 1
  | .held _ => 1
def uptoBulkAll {H : Type} : List (DataW H) → Nat
  | [] => 0
  | d :: r => uptoBulk d + uptoBulkAll r
def uptoBulkEntries {H : Type} : List (Lit × DataW H) → Nat
  | [] => 0
  | x :: r => uptoBulkEntry x + uptoBulkEntries r
def uptoBulkEntry {H : Type} : Lit × DataW H → Nat
  | (.string bytes, d) => bytes.length + uptoBulk d + 1
  | (_, d) => uptoBulk d + 1
 end
def uptoSmall : (H : Type) → List (DataW H) → Bool := fun _ ds => decide (uptoBulkAll ds ≤ 1048576)
def OpenSpec.upto (s : _root_.Go.ChangeSpec) : _root_.Go.OpenSpec := { _root_.Go.OpenSpec.ofChange s with cond := some uptoSmall }

/-- 'fasciclelaw15.SegmentBuilds', WHERE WHAT IT READS IS OF BULK AT MOST 1048576: true; the input reads as it did. -/
def segmentBuildsUptoRow : OpenClaim := { program := "ytnnofopfbeklbaagreat", sum := "5df5957128414017035bf4e1dfdcce774e734df013e88462f4f84fcd5db125be", func := "fascicle/fasciclelaw15.SegmentBuilds", spec := "segmentBuilds", inPlace := ["internal/bytealg.IndexByte", "internal/bytealg.MakeNoZero"], unfollowed := true, recurses := true, apart := false, narrowed := true }
def SegmentBuildsUptoSaid : Prop := segmentBuildsUptoRow.holds Tryz.pinned (OpenSpec.upto segmentBuildsSpec)

/-- 'fasciclelaw16.ImageEncodes', WHERE WHAT IT READS IS OF BULK AT MOST 1048576: true; the input reads as it did. -/
def imageEncodesUptoRow : OpenClaim := { program := "ytnnofopfbeklbaagreat", sum := "5df5957128414017035bf4e1dfdcce774e734df013e88462f4f84fcd5db125be", func := "fascicle/fasciclelaw16.ImageEncodes", spec := "imageEncodes", inPlace := ["internal/bytealg.IndexByte", "internal/bytealg.MakeNoZero"], unfollowed := true, recurses := true, apart := false, narrowed := true }
def ImageEncodesUptoSaid : Prop := imageEncodesUptoRow.holds Tryz.pinned (OpenSpec.upto imageEncodesSpec)

/-- 'fasciclelaw16.ImageApart', WHERE WHAT IT READS IS OF BULK AT MOST 1048576: true; the input reads as it did. -/
def imageApartUptoRow : OpenClaim := { program := "ytnnofopfbeklbaagreat", sum := "5df5957128414017035bf4e1dfdcce774e734df013e88462f4f84fcd5db125be", func := "fascicle/fasciclelaw16.ImageApart", spec := "imageApart", inPlace := ["internal/bytealg.IndexByte", "internal/bytealg.MakeNoZero"], unfollowed := true, recurses := true, apart := false, narrowed := true }
def ImageApartUptoSaid : Prop := imageApartUptoRow.holds Tryz.pinned (OpenSpec.upto imageApartSpec)

/-- 'fasciclelaw16.ImagePlaces', WHERE WHAT IT READS IS OF BULK AT MOST 1048576: true; the input reads as it did. -/
def imagePlacesUptoRow : OpenClaim := { program := "ytnnofopfbeklbaagreat", sum := "5df5957128414017035bf4e1dfdcce774e734df013e88462f4f84fcd5db125be", func := "fascicle/fasciclelaw16.ImagePlaces", spec := "imagePlaces", inPlace := ["internal/bytealg.IndexByte", "internal/bytealg.MakeNoZero"], unfollowed := true, recurses := true, apart := false, narrowed := true }
def ImagePlacesUptoSaid : Prop := imagePlacesUptoRow.holds Tryz.pinned (OpenSpec.upto imagePlacesSpec)

/-- 'fasciclelaw16.ImageErrors', WHERE WHAT IT READS IS OF BULK AT MOST 1048576: true; the input reads as it did. -/
def imageErrorsUptoRow : OpenClaim := { program := "ytnnofopfbeklbaagreat", sum := "5df5957128414017035bf4e1dfdcce774e734df013e88462f4f84fcd5db125be", func := "fascicle/fasciclelaw16.ImageErrors", spec := "imageErrors", inPlace := ["internal/bytealg.IndexByte", "internal/bytealg.MakeNoZero"], unfollowed := true, recurses := true, apart := false, narrowed := true }
def ImageErrorsUptoSaid : Prop := imageErrorsUptoRow.holds Tryz.pinned (OpenSpec.upto imageErrorsSpec)

/-- 'fasciclelaw15.SegmentParses', WHERE WHAT IT READS IS OF BULK AT MOST 1048576: true; the input reads as it did. -/
def segmentParsesUptoRow : OpenClaim := { program := "ytnnofopfbeklbaagreat", sum := "5df5957128414017035bf4e1dfdcce774e734df013e88462f4f84fcd5db125be", func := "fascicle/fasciclelaw15.SegmentParses", spec := "segmentParses", inPlace := ["internal/bytealg.IndexByte", "internal/bytealg.MakeNoZero"], unfollowed := true, recurses := true, apart := false, narrowed := true }
def SegmentParsesUptoSaid : Prop := segmentParsesUptoRow.holds Tryz.pinned (OpenSpec.upto segmentParsesSpec)

/-- 'fasciclelaw27.MigrateStrict', WHERE WHAT IT READS IS OF BULK AT MOST 1048576: true; the input reads as it did. -/
def migrateStrictUptoRow : OpenClaim := { program := "ytnnofopfbeklbaagreat", sum := "5df5957128414017035bf4e1dfdcce774e734df013e88462f4f84fcd5db125be", func := "fascicle/fasciclelaw27.MigrateStrict", spec := "migrateStrict", inPlace := ["internal/bytealg.IndexByte", "internal/bytealg.MakeNoZero"], unfollowed := true, recurses := true, apart := false, narrowed := true }
def MigrateStrictUptoSaid : Prop := migrateStrictUptoRow.holds Tryz.pinned (OpenSpec.upto migrateStrictSpec)

/-- 'fasciclelaw27.MigratePrefix', WHERE WHAT IT READS IS OF BULK AT MOST 1048576: true; the input reads as it did. -/
def migratePrefixUptoRow : OpenClaim := { program := "ytnnofopfbeklbaagreat", sum := "5df5957128414017035bf4e1dfdcce774e734df013e88462f4f84fcd5db125be", func := "fascicle/fasciclelaw27.MigratePrefix", spec := "migratePrefix", inPlace := ["internal/bytealg.IndexByte", "internal/bytealg.MakeNoZero"], unfollowed := true, recurses := true, apart := false, narrowed := true }
def MigratePrefixUptoSaid : Prop := migratePrefixUptoRow.holds Tryz.pinned (OpenSpec.upto migratePrefixSpec)

/-- 'fasciclelaw27.MigrateErrors', WHERE WHAT IT READS IS OF BULK AT MOST 1048576: true; the input reads as it did. -/
def migrateErrorsUptoRow : OpenClaim := { program := "ytnnofopfbeklbaagreat", sum := "5df5957128414017035bf4e1dfdcce774e734df013e88462f4f84fcd5db125be", func := "fascicle/fasciclelaw27.MigrateErrors", spec := "migrateErrors", inPlace := ["internal/bytealg.IndexByte", "internal/bytealg.MakeNoZero"], unfollowed := true, recurses := true, apart := false, narrowed := true }
def MigrateErrorsUptoSaid : Prop := migrateErrorsUptoRow.holds Tryz.pinned (OpenSpec.upto migrateErrorsSpec)

/-- 'fasciclelaw15.SegmentBack', WHERE WHAT IT READS IS OF BULK AT MOST 1048576: true; the input reads as it did. -/
def segmentBackUptoRow : OpenClaim := { program := "ytnnofopfbeklbaagreat", sum := "5df5957128414017035bf4e1dfdcce774e734df013e88462f4f84fcd5db125be", func := "fascicle/fasciclelaw15.SegmentBack", spec := "segmentBack", inPlace := ["internal/bytealg.IndexByte", "internal/bytealg.MakeNoZero"], unfollowed := true, recurses := true, apart := false, narrowed := true }
def SegmentBackUptoSaid : Prop := segmentBackUptoRow.holds Tryz.pinned (OpenSpec.upto segmentBackSpec)

/-- 'fasciclelaw23.SalvageBounds', WHERE WHAT IT READS IS OF BULK AT MOST 1048576: true; the input reads as it did. -/
def salvageBoundsUptoRow : OpenClaim := { program := "ytnnofopfbeklbaagreat", sum := "5df5957128414017035bf4e1dfdcce774e734df013e88462f4f84fcd5db125be", func := "fascicle/fasciclelaw23.SalvageBounds", spec := "salvageBounds", inPlace := ["internal/bytealg.IndexByte", "internal/bytealg.MakeNoZero"], unfollowed := true, recurses := true, apart := false, narrowed := true }
def SalvageBoundsUptoSaid : Prop := salvageBoundsUptoRow.holds Tryz.pinned (OpenSpec.upto salvageBoundsSpec)

/-- 'fasciclelaw23.SalvageAny', WHERE WHAT IT READS IS OF BULK AT MOST 1048576: true; the input reads as it did. -/
def salvageAnyUptoRow : OpenClaim := { program := "ytnnofopfbeklbaagreat", sum := "5df5957128414017035bf4e1dfdcce774e734df013e88462f4f84fcd5db125be", func := "fascicle/fasciclelaw23.SalvageAny", spec := "salvageAny", inPlace := ["internal/bytealg.IndexByte", "internal/bytealg.MakeNoZero"], unfollowed := true, recurses := true, apart := false, narrowed := true }
def SalvageAnyUptoSaid : Prop := salvageAnyUptoRow.holds Tryz.pinned (OpenSpec.upto salvageAnySpec)

end Rows
end Go.Proofs.YtnnofopfbeklbaaGreat
