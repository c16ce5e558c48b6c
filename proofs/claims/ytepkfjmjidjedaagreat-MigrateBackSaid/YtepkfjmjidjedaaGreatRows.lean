/-
  No cell of these rows narrows 'for every input' (looked for: loops, veiled, ifaces, maps, wideKeys, modest, calm, conditions, laid).
  DERIVED. THE GIVEN ROWS OF THIS SEAT. 7 by the template 'for every input the law returns true; each argument reads behind the call as it read before'; 0 by the template 'total and deterministic' (their statements: YtepkfjmjidjedaaGreatTotals.lean).
  GIVEN WITH THE SEED: the statements are not yours to turn. If you find one false, say at which input.
  Laid BY PROGRAM, IN A SANDBOX (cutbox-rows.mjs): the forced cells as the released guide's own fill.sh prints them over the translation fe170ea46d0c6cdf… (all of the seat's roots in one cut). By AI agents, Wed Nov 11 2026. No macro, syntax, notation, axiom, sorry.
-/
import Derived.Test.YtepkfjmjidjedaaGreatChecked
import GoSem.Claim
import GoSem.ClaimJoined
import GoSem.ClaimMapViews
import Derived.JoinedTies
import Derived.KernelRfl
namespace Go.Proofs.YtepkfjmjidjedaaGreat
/- THE CELL 'sum', in the pinned program and in every row, IS THE sha256 OF THE DUMP (.gsa) THAT YtepkfjmjidjedaaGreatProg.lean LOADS. Nothing in Lean hashes anything: it is a label: what it is worth is what the hold of that sum in a sandbox is worth. -/
noncomputable def Tryz.pinned : Pinned := { name := "ytepkfjmjidjedaagreat", sum := "fe170ea46d0c6cdf2f3a23cfc60b332be43ecf7341fe4ddcb1f60902c7dcd67f", checked := Tryz.checked }
namespace Rows
def none {H : Type} : Left H := { results := [], args := [] }

/-- 'fasciclelaw25.RebuildDrops': WHATEVER THE INPUT: true; the input reads as it did. -/
def rebuildDropsSpec : ChangeSpec := { name := "rebuildDrops", fn := fun _ => fun
  | [d] => { results := [.lit (.bool true)], args := [d] }
  | _ => none }
def rebuildDropsRow : OpenClaim := { program := "ytepkfjmjidjedaagreat", sum := "fe170ea46d0c6cdf2f3a23cfc60b332be43ecf7341fe4ddcb1f60902c7dcd67f", func := "fascicle/fasciclelaw25.RebuildDrops", spec := "rebuildDrops", inPlace := ["internal/bytealg.IndexByte", "internal/bytealg.MakeNoZero"], unfollowed := true, recurses := true, apart := false }
def RebuildDropsSaid : Prop := rebuildDropsRow.holds Tryz.pinned (OpenSpec.ofChange rebuildDropsSpec)

/-- ITS FALSE NEIGHBOUR: 'it returns false'. Refute it at one input. -/
def rebuildDropsWrong : ChangeSpec := { name := "rebuildDrops", fn := fun _ => fun
  | [d] => { results := [.lit (.bool false)], args := [d] }
  | _ => none }
def RebuildDropsWrongFalsely : Prop := rebuildDropsRow.holds Tryz.pinned (OpenSpec.ofChange rebuildDropsWrong)

/-- 'fasciclelaw25.RebuildOrders': WHATEVER THE INPUT: true; the input reads as it did. -/
def rebuildOrdersSpec : ChangeSpec := { name := "rebuildOrders", fn := fun _ => fun
  | [d1, d2] => { results := [.lit (.bool true)], args := [d1, d2] }
  | _ => none }
def rebuildOrdersRow : OpenClaim := { program := "ytepkfjmjidjedaagreat", sum := "fe170ea46d0c6cdf2f3a23cfc60b332be43ecf7341fe4ddcb1f60902c7dcd67f", func := "fascicle/fasciclelaw25.RebuildOrders", spec := "rebuildOrders", inPlace := ["internal/bytealg.IndexByte", "internal/bytealg.MakeNoZero"], unfollowed := true, recurses := true, apart := false }
def RebuildOrdersSaid : Prop := rebuildOrdersRow.holds Tryz.pinned (OpenSpec.ofChange rebuildOrdersSpec)

/-- ITS FALSE NEIGHBOUR: 'it returns false'. Refute it at one input. -/
def rebuildOrdersWrong : ChangeSpec := { name := "rebuildOrders", fn := fun _ => fun
  | [d1, d2] => { results := [.lit (.bool false)], args := [d1, d2] }
  | _ => none }
def RebuildOrdersWrongFalsely : Prop := rebuildOrdersRow.holds Tryz.pinned (OpenSpec.ofChange rebuildOrdersWrong)

/-- 'fasciclelaw19.LookupCosts': WHATEVER THE INPUT: true; the input reads as it did. -/
def lookupCostsSpec : ChangeSpec := { name := "lookupCosts", fn := fun _ => fun
  | [d1, d2, d3] => { results := [.lit (.bool true)], args := [d1, d2, d3] }
  | _ => none }
def lookupCostsRow : OpenClaim := { program := "ytepkfjmjidjedaagreat", sum := "fe170ea46d0c6cdf2f3a23cfc60b332be43ecf7341fe4ddcb1f60902c7dcd67f", func := "fascicle/fasciclelaw19.LookupCosts", spec := "lookupCosts", inPlace := ["internal/bytealg.IndexByte", "internal/bytealg.MakeNoZero"], unfollowed := true, recurses := true, apart := false }
def LookupCostsSaid : Prop := lookupCostsRow.holds Tryz.pinned (OpenSpec.ofChange lookupCostsSpec)

/-- ITS FALSE NEIGHBOUR: 'it returns false'. Refute it at one input. -/
def lookupCostsWrong : ChangeSpec := { name := "lookupCosts", fn := fun _ => fun
  | [d1, d2, d3] => { results := [.lit (.bool false)], args := [d1, d2, d3] }
  | _ => none }
def LookupCostsWrongFalsely : Prop := lookupCostsRow.holds Tryz.pinned (OpenSpec.ofChange lookupCostsWrong)

/-- 'fasciclelaw19.LookupGets': WHATEVER THE INPUT: true; the input reads as it did. -/
def lookupGetsSpec : ChangeSpec := { name := "lookupGets", fn := fun _ => fun
  | [d1, d2, d3] => { results := [.lit (.bool true)], args := [d1, d2, d3] }
  | _ => none }
def lookupGetsRow : OpenClaim := { program := "ytepkfjmjidjedaagreat", sum := "fe170ea46d0c6cdf2f3a23cfc60b332be43ecf7341fe4ddcb1f60902c7dcd67f", func := "fascicle/fasciclelaw19.LookupGets", spec := "lookupGets", inPlace := ["internal/bytealg.IndexByte", "internal/bytealg.MakeNoZero"], unfollowed := true, recurses := true, apart := false }
def LookupGetsSaid : Prop := lookupGetsRow.holds Tryz.pinned (OpenSpec.ofChange lookupGetsSpec)

/-- ITS FALSE NEIGHBOUR: 'it returns false'. Refute it at one input. -/
def lookupGetsWrong : ChangeSpec := { name := "lookupGets", fn := fun _ => fun
  | [d1, d2, d3] => { results := [.lit (.bool false)], args := [d1, d2, d3] }
  | _ => none }
def LookupGetsWrongFalsely : Prop := lookupGetsRow.holds Tryz.pinned (OpenSpec.ofChange lookupGetsWrong)

/-- 'fasciclelaw31.FsckTorn': WHATEVER THE INPUT: true; the input reads as it did. -/
def fsckTornSpec : ChangeSpec := { name := "fsckTorn", fn := fun _ => fun
  | [d1, d2, d3] => { results := [.lit (.bool true)], args := [d1, d2, d3] }
  | _ => none }
def fsckTornRow : OpenClaim := { program := "ytepkfjmjidjedaagreat", sum := "fe170ea46d0c6cdf2f3a23cfc60b332be43ecf7341fe4ddcb1f60902c7dcd67f", func := "fascicle/fasciclelaw31.FsckTorn", spec := "fsckTorn", inPlace := ["internal/bytealg.IndexByte", "internal/bytealg.MakeNoZero"], unfollowed := true, recurses := true, apart := false }
def FsckTornSaid : Prop := fsckTornRow.holds Tryz.pinned (OpenSpec.ofChange fsckTornSpec)

/-- ITS FALSE NEIGHBOUR: 'it returns false'. Refute it at one input. -/
def fsckTornWrong : ChangeSpec := { name := "fsckTorn", fn := fun _ => fun
  | [d1, d2, d3] => { results := [.lit (.bool false)], args := [d1, d2, d3] }
  | _ => none }
def FsckTornWrongFalsely : Prop := fsckTornRow.holds Tryz.pinned (OpenSpec.ofChange fsckTornWrong)

/-- 'fasciclelaw27.MigrateBack': WHATEVER THE INPUT: true; the input reads as it did. -/
def migrateBackSpec : ChangeSpec := { name := "migrateBack", fn := fun _ => fun
  | [d] => { results := [.lit (.bool true)], args := [d] }
  | _ => none }
def migrateBackRow : OpenClaim := { program := "ytepkfjmjidjedaagreat", sum := "fe170ea46d0c6cdf2f3a23cfc60b332be43ecf7341fe4ddcb1f60902c7dcd67f", func := "fascicle/fasciclelaw27.MigrateBack", spec := "migrateBack", inPlace := ["internal/bytealg.IndexByte", "internal/bytealg.MakeNoZero"], unfollowed := true, recurses := true, apart := false }
def MigrateBackSaid : Prop := migrateBackRow.holds Tryz.pinned (OpenSpec.ofChange migrateBackSpec)

/-- ITS FALSE NEIGHBOUR: 'it returns false'. Refute it at one input. -/
def migrateBackWrong : ChangeSpec := { name := "migrateBack", fn := fun _ => fun
  | [d] => { results := [.lit (.bool false)], args := [d] }
  | _ => none }
def MigrateBackWrongFalsely : Prop := migrateBackRow.holds Tryz.pinned (OpenSpec.ofChange migrateBackWrong)

/-- 'fasciclelaw19.LookupAll': WHATEVER THE INPUT: true; the input reads as it did. -/
def lookupAllSpec : ChangeSpec := { name := "lookupAll", fn := fun _ => fun
  | [d1, d2] => { results := [.lit (.bool true)], args := [d1, d2] }
  | _ => none }
def lookupAllRow : OpenClaim := { program := "ytepkfjmjidjedaagreat", sum := "fe170ea46d0c6cdf2f3a23cfc60b332be43ecf7341fe4ddcb1f60902c7dcd67f", func := "fascicle/fasciclelaw19.LookupAll", spec := "lookupAll", inPlace := ["internal/bytealg.IndexByte", "internal/bytealg.MakeNoZero"], unfollowed := true, recurses := true, apart := false }
def LookupAllSaid : Prop := lookupAllRow.holds Tryz.pinned (OpenSpec.ofChange lookupAllSpec)

/-- ITS FALSE NEIGHBOUR: 'it returns false'. Refute it at one input. -/
def lookupAllWrong : ChangeSpec := { name := "lookupAll", fn := fun _ => fun
  | [d1, d2] => { results := [.lit (.bool false)], args := [d1, d2] }
  | _ => none }
def LookupAllWrongFalsely : Prop := lookupAllRow.holds Tryz.pinned (OpenSpec.ofChange lookupAllWrong)

/- THE SECOND FORM. 'bulk': how many values and letters a reading holds, each counted each time it is reached (what is shared counts as often as it is met; a slice's spare places count too). A statement '..UptoSaid' is the law's where the arguments, and the package variables that the reading takes, are together of bulk at most 1048576: NARROWER than '..Said'. Prove '..Said' where nothing that the law and all that it calls make is longer than what came in: it says more and counts as full. Else prove '..UptoSaid'. A law counts once. -/
mutual
def uptoBulk {H : Type} : DataW H → Nat
  | .lit (.string bytes) => bytes.length + 1
  | .lit _ => 1
  | .nil => 1
  | .ptr d => uptoBulk d + 1
  | .slice elems spare => uptoBulkAll elems + uptoBulkAll spare + 1
  | .agg parts => uptoBulkAll parts + 1
  | .iface _ d => uptoBulk d + 1
  | .map entries => uptoBulkEntries entries + 1
  | .held _ => 1
def uptoBulkAll {H : Type} : List (DataW H) → Nat
  | [] => 0
  | d :: r => uptoBulk d + uptoBulkAll r
def uptoBulkEntries {H : Type} : List (Lit × DataW H) → Nat
  | [] => 0
  | x :: r => uptoBulkEntry x + uptoBulkEntries r
def uptoBulkEntry {H : Type} : Lit × DataW H → Nat
  | (.string bytes, d) => bytes.length + uptoBulk d + 1
  | (_, d) => uptoBulk d + 1
 end
def uptoSmall : (H : Type) → List (DataW H) → Bool := fun _ ds => decide (uptoBulkAll ds ≤ 1048576)
def OpenSpec.upto (s : _root_.Go.ChangeSpec) : _root_.Go.OpenSpec := { _root_.Go.OpenSpec.ofChange s with cond := some uptoSmall }

/-- 'fasciclelaw25.RebuildDrops', WHERE WHAT IT READS IS OF BULK AT MOST 1048576: true; the input reads as it did. -/
def rebuildDropsUptoRow : OpenClaim := { program := "ytepkfjmjidjedaagreat", sum := "fe170ea46d0c6cdf2f3a23cfc60b332be43ecf7341fe4ddcb1f60902c7dcd67f", func := "fascicle/fasciclelaw25.RebuildDrops", spec := "rebuildDrops", inPlace := ["internal/bytealg.IndexByte", "internal/bytealg.MakeNoZero"], unfollowed := true, recurses := true, apart := false, narrowed := true }
def RebuildDropsUptoSaid : Prop := rebuildDropsUptoRow.holds Tryz.pinned (OpenSpec.upto rebuildDropsSpec)

/-- 'fasciclelaw25.RebuildOrders', WHERE WHAT IT READS IS OF BULK AT MOST 1048576: true; the input reads as it did. -/
def rebuildOrdersUptoRow : OpenClaim := { program := "ytepkfjmjidjedaagreat", sum := "fe170ea46d0c6cdf2f3a23cfc60b332be43ecf7341fe4ddcb1f60902c7dcd67f", func := "fascicle/fasciclelaw25.RebuildOrders", spec := "rebuildOrders", inPlace := ["internal/bytealg.IndexByte", "internal/bytealg.MakeNoZero"], unfollowed := true, recurses := true, apart := false, narrowed := true }
def RebuildOrdersUptoSaid : Prop := rebuildOrdersUptoRow.holds Tryz.pinned (OpenSpec.upto rebuildOrdersSpec)

/-- 'fasciclelaw19.LookupCosts', WHERE WHAT IT READS IS OF BULK AT MOST 1048576: true; the input reads as it did. -/
def lookupCostsUptoRow : OpenClaim := { program := "ytepkfjmjidjedaagreat", sum := "fe170ea46d0c6cdf2f3a23cfc60b332be43ecf7341fe4ddcb1f60902c7dcd67f", func := "fascicle/fasciclelaw19.LookupCosts", spec := "lookupCosts", inPlace := ["internal/bytealg.IndexByte", "internal/bytealg.MakeNoZero"], unfollowed := true, recurses := true, apart := false, narrowed := true }
def LookupCostsUptoSaid : Prop := lookupCostsUptoRow.holds Tryz.pinned (OpenSpec.upto lookupCostsSpec)

/-- 'fasciclelaw19.LookupGets', WHERE WHAT IT READS IS OF BULK AT MOST 1048576: true; the input reads as it did. -/
def lookupGetsUptoRow : OpenClaim := { program := "ytepkfjmjidjedaagreat", sum := "fe170ea46d0c6cdf2f3a23cfc60b332be43ecf7341fe4ddcb1f60902c7dcd67f", func := "fascicle/fasciclelaw19.LookupGets", spec := "lookupGets", inPlace := ["internal/bytealg.IndexByte", "internal/bytealg.MakeNoZero"], unfollowed := true, recurses := true, apart := false, narrowed := true }
def LookupGetsUptoSaid : Prop := lookupGetsUptoRow.holds Tryz.pinned (OpenSpec.upto lookupGetsSpec)

/-- 'fasciclelaw31.FsckTorn', WHERE WHAT IT READS IS OF BULK AT MOST 1048576: true; the input reads as it did. -/
def fsckTornUptoRow : OpenClaim := { program := "ytepkfjmjidjedaagreat", sum := "fe170ea46d0c6cdf2f3a23cfc60b332be43ecf7341fe4ddcb1f60902c7dcd67f", func := "fascicle/fasciclelaw31.FsckTorn", spec := "fsckTorn", inPlace := ["internal/bytealg.IndexByte", "internal/bytealg.MakeNoZero"], unfollowed := true, recurses := true, apart := false, narrowed := true }
def FsckTornUptoSaid : Prop := fsckTornUptoRow.holds Tryz.pinned (OpenSpec.upto fsckTornSpec)

/-- 'fasciclelaw27.MigrateBack', WHERE WHAT IT READS IS OF BULK AT MOST 1048576: true; the input reads as it did. -/
def migrateBackUptoRow : OpenClaim := { program := "ytepkfjmjidjedaagreat", sum := "fe170ea46d0c6cdf2f3a23cfc60b332be43ecf7341fe4ddcb1f60902c7dcd67f", func := "fascicle/fasciclelaw27.MigrateBack", spec := "migrateBack", inPlace := ["internal/bytealg.IndexByte", "internal/bytealg.MakeNoZero"], unfollowed := true, recurses := true, apart := false, narrowed := true }
def MigrateBackUptoSaid : Prop := migrateBackUptoRow.holds Tryz.pinned (OpenSpec.upto migrateBackSpec)

/-- 'fasciclelaw19.LookupAll', WHERE WHAT IT READS IS OF BULK AT MOST 1048576: true; the input reads as it did. -/
def lookupAllUptoRow : OpenClaim := { program := "ytepkfjmjidjedaagreat", sum := "fe170ea46d0c6cdf2f3a23cfc60b332be43ecf7341fe4ddcb1f60902c7dcd67f", func := "fascicle/fasciclelaw19.LookupAll", spec := "lookupAll", inPlace := ["internal/bytealg.IndexByte", "internal/bytealg.MakeNoZero"], unfollowed := true, recurses := true, apart := false, narrowed := true }
def LookupAllUptoSaid : Prop := lookupAllUptoRow.holds Tryz.pinned (OpenSpec.upto lookupAllSpec)

end Rows
end Go.Proofs.YtepkfjmjidjedaaGreat
