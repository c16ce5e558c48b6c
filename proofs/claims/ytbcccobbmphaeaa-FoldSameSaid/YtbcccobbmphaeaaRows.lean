/-
  No cell of these rows narrows 'for every input' (looked for: loops, veiled, ifaces, maps, wideKeys, modest, calm, conditions, laid).
  DERIVED. THE GIVEN ROWS OF THIS SEAT. 7 by the template 'for every input the law returns true; each argument reads behind the call as it read before'; 0 by the template 'total and deterministic' (their statements: YtbcccobbmphaeaaTotals.lean).
  GIVEN WITH THE SEED: the statements are not yours to turn. If you find one false, say at which input.
  Laid BY PROGRAM, IN A SANDBOX (cutbox-rows.mjs): the forced cells as the released guide's own fill.sh prints them over the translation d582972b4f384c07… (all of the seat's roots in one cut). By AI agents, Wed Nov 11 2026. No macro, syntax, notation, axiom, sorry.
-/
import Derived.Test.YtbcccobbmphaeaaChecked
import GoSem.Claim
import GoSem.ClaimJoined
import GoSem.ClaimMapViews
import Derived.JoinedTies
import Derived.KernelRfl
namespace Go.Proofs.Ytbcccobbmphaeaa
/- THE CELL 'sum', in the pinned program and in every row, IS THE sha256 OF THE DUMP (.gsa) THAT YtbcccobbmphaeaaProg.lean LOADS. Nothing in Lean hashes anything: it is a label: what it is worth is what the hold of that sum in a sandbox is worth. -/
noncomputable def Try.pinned : Pinned := { name := "ytbcccobbmphaeaa", sum := "d582972b4f384c07b3e03d0562c80bb8437e0d3400416d571bf78bc6343ef48b", checked := Try.checked }
namespace Rows
def none {H : Type} : Left H := { results := [], args := [] }

/-- 'fasciclelaw18.FoldAppends': WHATEVER THE INPUT: true; the input reads as it did. -/
def foldAppendsSpec : ChangeSpec := { name := "foldAppends", fn := fun _ => fun
  | [d1, d2] => { results := [.lit (.bool true)], args := [d1, d2] }
  | _ => none }
def foldAppendsRow : OpenClaim := { program := "ytbcccobbmphaeaa", sum := "d582972b4f384c07b3e03d0562c80bb8437e0d3400416d571bf78bc6343ef48b", func := "fascicle/fasciclelaw18.FoldAppends", spec := "foldAppends", unfollowed := true, recurses := true, apart := false }
def FoldAppendsSaid : Prop := foldAppendsRow.holds Try.pinned (OpenSpec.ofChange foldAppendsSpec)

/-- ITS FALSE NEIGHBOUR: 'it returns false'. Refute it at one input. -/
def foldAppendsWrong : ChangeSpec := { name := "foldAppends", fn := fun _ => fun
  | [d1, d2] => { results := [.lit (.bool false)], args := [d1, d2] }
  | _ => none }
def FoldAppendsWrongFalsely : Prop := foldAppendsRow.holds Try.pinned (OpenSpec.ofChange foldAppendsWrong)

/-- 'fasciclelaw20.FlashConfigs': WHATEVER THE INPUT: true; the input reads as it did. -/
def flashConfigsSpec : ChangeSpec := { name := "flashConfigs", fn := fun _ => fun
  | [d1, d2] => { results := [.lit (.bool true)], args := [d1, d2] }
  | _ => none }
def flashConfigsRow : OpenClaim := { program := "ytbcccobbmphaeaa", sum := "d582972b4f384c07b3e03d0562c80bb8437e0d3400416d571bf78bc6343ef48b", func := "fascicle/fasciclelaw20.FlashConfigs", spec := "flashConfigs", inPlace := ["internal/bytealg.MakeNoZero"], unfollowed := true, recurses := true, apart := false }
def FlashConfigsSaid : Prop := flashConfigsRow.holds Try.pinned (OpenSpec.ofChange flashConfigsSpec)

/-- ITS FALSE NEIGHBOUR: 'it returns false'. Refute it at one input. -/
def flashConfigsWrong : ChangeSpec := { name := "flashConfigs", fn := fun _ => fun
  | [d1, d2] => { results := [.lit (.bool false)], args := [d1, d2] }
  | _ => none }
def FlashConfigsWrongFalsely : Prop := flashConfigsRow.holds Try.pinned (OpenSpec.ofChange flashConfigsWrong)

/-- 'fasciclelaw20.FlashErases': WHATEVER THE INPUT: true; the input reads as it did. -/
def flashErasesSpec : ChangeSpec := { name := "flashErases", fn := fun _ => fun
  | [d1, d2] => { results := [.lit (.bool true)], args := [d1, d2] }
  | _ => none }
def flashErasesRow : OpenClaim := { program := "ytbcccobbmphaeaa", sum := "d582972b4f384c07b3e03d0562c80bb8437e0d3400416d571bf78bc6343ef48b", func := "fascicle/fasciclelaw20.FlashErases", spec := "flashErases", inPlace := ["internal/bytealg.MakeNoZero"], unfollowed := true, recurses := true, apart := false }
def FlashErasesSaid : Prop := flashErasesRow.holds Try.pinned (OpenSpec.ofChange flashErasesSpec)

/-- ITS FALSE NEIGHBOUR: 'it returns false'. Refute it at one input. -/
def flashErasesWrong : ChangeSpec := { name := "flashErases", fn := fun _ => fun
  | [d1, d2] => { results := [.lit (.bool false)], args := [d1, d2] }
  | _ => none }
def FlashErasesWrongFalsely : Prop := flashErasesRow.holds Try.pinned (OpenSpec.ofChange flashErasesWrong)

/-- 'fasciclelaw18.FoldAt': WHATEVER THE INPUT: true; the input reads as it did. -/
def foldAtSpec : ChangeSpec := { name := "foldAt", fn := fun _ => fun
  | [d1, d2] => { results := [.lit (.bool true)], args := [d1, d2] }
  | _ => none }
def foldAtRow : OpenClaim := { program := "ytbcccobbmphaeaa", sum := "d582972b4f384c07b3e03d0562c80bb8437e0d3400416d571bf78bc6343ef48b", func := "fascicle/fasciclelaw18.FoldAt", spec := "foldAt", unfollowed := true, recurses := true, apart := false }
def FoldAtSaid : Prop := foldAtRow.holds Try.pinned (OpenSpec.ofChange foldAtSpec)

/-- ITS FALSE NEIGHBOUR: 'it returns false'. Refute it at one input. -/
def foldAtWrong : ChangeSpec := { name := "foldAt", fn := fun _ => fun
  | [d1, d2] => { results := [.lit (.bool false)], args := [d1, d2] }
  | _ => none }
def FoldAtWrongFalsely : Prop := foldAtRow.holds Try.pinned (OpenSpec.ofChange foldAtWrong)

/-- 'fasciclelaw18.FoldSame': WHATEVER THE INPUT: true; the input reads as it did. -/
def foldSameSpec : ChangeSpec := { name := "foldSame", fn := fun _ => fun
  | [d1, d2] => { results := [.lit (.bool true)], args := [d1, d2] }
  | _ => none }
def foldSameRow : OpenClaim := { program := "ytbcccobbmphaeaa", sum := "d582972b4f384c07b3e03d0562c80bb8437e0d3400416d571bf78bc6343ef48b", func := "fascicle/fasciclelaw18.FoldSame", spec := "foldSame", unfollowed := true, recurses := true, apart := false }
def FoldSameSaid : Prop := foldSameRow.holds Try.pinned (OpenSpec.ofChange foldSameSpec)

/-- ITS FALSE NEIGHBOUR: 'it returns false'. Refute it at one input. -/
def foldSameWrong : ChangeSpec := { name := "foldSame", fn := fun _ => fun
  | [d1, d2] => { results := [.lit (.bool false)], args := [d1, d2] }
  | _ => none }
def FoldSameWrongFalsely : Prop := foldSameRow.holds Try.pinned (OpenSpec.ofChange foldSameWrong)

/-- 'fasciclelaw20.FlashKeeps': WHATEVER THE INPUT: true; the input reads as it did. -/
def flashKeepsSpec : ChangeSpec := { name := "flashKeeps", fn := fun _ => fun
  | [d1, d2, d3, d4, d5] => { results := [.lit (.bool true)], args := [d1, d2, d3, d4, d5] }
  | _ => none }
def flashKeepsRow : OpenClaim := { program := "ytbcccobbmphaeaa", sum := "d582972b4f384c07b3e03d0562c80bb8437e0d3400416d571bf78bc6343ef48b", func := "fascicle/fasciclelaw20.FlashKeeps", spec := "flashKeeps", inPlace := ["internal/bytealg.MakeNoZero"], unfollowed := true, recurses := true, apart := false }
def FlashKeepsSaid : Prop := flashKeepsRow.holds Try.pinned (OpenSpec.ofChange flashKeepsSpec)

/-- ITS FALSE NEIGHBOUR: 'it returns false'. Refute it at one input. -/
def flashKeepsWrong : ChangeSpec := { name := "flashKeeps", fn := fun _ => fun
  | [d1, d2, d3, d4, d5] => { results := [.lit (.bool false)], args := [d1, d2, d3, d4, d5] }
  | _ => none }
def FlashKeepsWrongFalsely : Prop := flashKeepsRow.holds Try.pinned (OpenSpec.ofChange flashKeepsWrong)

/-- 'fasciclelaw18.FoldRows': WHATEVER THE INPUT: true; the input reads as it did. -/
def foldRowsSpec : ChangeSpec := { name := "foldRows", fn := fun _ => fun
  | [d] => { results := [.lit (.bool true)], args := [d] }
  | _ => none }
def foldRowsRow : OpenClaim := { program := "ytbcccobbmphaeaa", sum := "d582972b4f384c07b3e03d0562c80bb8437e0d3400416d571bf78bc6343ef48b", func := "fascicle/fasciclelaw18.FoldRows", spec := "foldRows", unfollowed := true, recurses := true, apart := false }
def FoldRowsSaid : Prop := foldRowsRow.holds Try.pinned (OpenSpec.ofChange foldRowsSpec)

/-- ITS FALSE NEIGHBOUR: 'it returns false'. Refute it at one input. -/
def foldRowsWrong : ChangeSpec := { name := "foldRows", fn := fun _ => fun
  | [d] => { results := [.lit (.bool false)], args := [d] }
  | _ => none }
def FoldRowsWrongFalsely : Prop := foldRowsRow.holds Try.pinned (OpenSpec.ofChange foldRowsWrong)

/- THE SECOND FORM. 'bulk': how many values and letters a reading holds, each counted each time it is reached (what is shared counts as often as it is met; a slice's spare places count too). A statement '..UptoSaid' is the law's where the arguments, and the package variables that the reading takes, are together of bulk at most 1048576: NARROWER than '..Said'. Prove '..Said' where nothing that the law and all that it calls make is longer than what came in: it says more and counts as full. Else prove '..UptoSaid'. A law counts once. -/
mutual
def uptoBulk {H : Type} : DataW H → Nat
  | .lit (.string bytes) => bytes.length + 1
  | .lit _ => 1
  | .nil => 1
  | .ptr d => uptoBulk d + 1
  | .slice elems spare => uptoBulkAll elems + uptoBulkAll spare + 1
  | .agg parts => uptoBulkAll parts + 1
  | .iface _ d => uptoBulk d + 1
  | .map entries => uptoBulkEntries entries + 1
  | .held _ => 1
def uptoBulkAll {H : Type} : List (DataW H) → Nat
  | [] => 0
  | d :: r => uptoBulk d + uptoBulkAll r
def uptoBulkEntries {H : Type} : List (Lit × DataW H) → Nat
  | [] => 0
  | x :: r => uptoBulkEntry x + uptoBulkEntries r
def uptoBulkEntry {H : Type} : Lit × DataW H → Nat
  | (.string bytes, d) => bytes.length + uptoBulk d + 1
  | (_, d) => uptoBulk d + 1
 end
def uptoSmall : (H : Type) → List (DataW H) → Bool := fun _ ds => decide (uptoBulkAll ds ≤ 1048576)
def OpenSpec.upto (s : _root_.Go.ChangeSpec) : _root_.Go.OpenSpec := { _root_.Go.OpenSpec.ofChange s with cond := some uptoSmall }

/-- 'fasciclelaw18.FoldAppends', WHERE WHAT IT READS IS OF BULK AT MOST 1048576: true; the input reads as it did. -/
def foldAppendsUptoRow : OpenClaim := { program := "ytbcccobbmphaeaa", sum := "d582972b4f384c07b3e03d0562c80bb8437e0d3400416d571bf78bc6343ef48b", func := "fascicle/fasciclelaw18.FoldAppends", spec := "foldAppends", unfollowed := true, recurses := true, apart := false, narrowed := true }
def FoldAppendsUptoSaid : Prop := foldAppendsUptoRow.holds Try.pinned (OpenSpec.upto foldAppendsSpec)

/-- 'fasciclelaw20.FlashConfigs', WHERE WHAT IT READS IS OF BULK AT MOST 1048576: true; the input reads as it did. -/
def flashConfigsUptoRow : OpenClaim := { program := "ytbcccobbmphaeaa", sum := "d582972b4f384c07b3e03d0562c80bb8437e0d3400416d571bf78bc6343ef48b", func := "fascicle/fasciclelaw20.FlashConfigs", spec := "flashConfigs", inPlace := ["internal/bytealg.MakeNoZero"], unfollowed := true, recurses := true, apart := false, narrowed := true }
def FlashConfigsUptoSaid : Prop := flashConfigsUptoRow.holds Try.pinned (OpenSpec.upto flashConfigsSpec)

/-- 'fasciclelaw20.FlashErases', WHERE WHAT IT READS IS OF BULK AT MOST 1048576: true; the input reads as it did. -/
def flashErasesUptoRow : OpenClaim := { program := "ytbcccobbmphaeaa", sum := "d582972b4f384c07b3e03d0562c80bb8437e0d3400416d571bf78bc6343ef48b", func := "fascicle/fasciclelaw20.FlashErases", spec := "flashErases", inPlace := ["internal/bytealg.MakeNoZero"], unfollowed := true, recurses := true, apart := false, narrowed := true }
def FlashErasesUptoSaid : Prop := flashErasesUptoRow.holds Try.pinned (OpenSpec.upto flashErasesSpec)

/-- 'fasciclelaw18.FoldAt', WHERE WHAT IT READS IS OF BULK AT MOST 1048576: true; the input reads as it did. -/
def foldAtUptoRow : OpenClaim := { program := "ytbcccobbmphaeaa", sum := "d582972b4f384c07b3e03d0562c80bb8437e0d3400416d571bf78bc6343ef48b", func := "fascicle/fasciclelaw18.FoldAt", spec := "foldAt", unfollowed := true, recurses := true, apart := false, narrowed := true }
def FoldAtUptoSaid : Prop := foldAtUptoRow.holds Try.pinned (OpenSpec.upto foldAtSpec)

/-- 'fasciclelaw18.FoldSame', WHERE WHAT IT READS IS OF BULK AT MOST 1048576: true; the input reads as it did. -/
def foldSameUptoRow : OpenClaim := { program := "ytbcccobbmphaeaa", sum := "d582972b4f384c07b3e03d0562c80bb8437e0d3400416d571bf78bc6343ef48b", func := "fascicle/fasciclelaw18.FoldSame", spec := "foldSame", unfollowed := true, recurses := true, apart := false, narrowed := true }
def FoldSameUptoSaid : Prop := foldSameUptoRow.holds Try.pinned (OpenSpec.upto foldSameSpec)

/-- 'fasciclelaw20.FlashKeeps', WHERE WHAT IT READS IS OF BULK AT MOST 1048576: true; the input reads as it did. -/
def flashKeepsUptoRow : OpenClaim := { program := "ytbcccobbmphaeaa", sum := "d582972b4f384c07b3e03d0562c80bb8437e0d3400416d571bf78bc6343ef48b", func := "fascicle/fasciclelaw20.FlashKeeps", spec := "flashKeeps", inPlace := ["internal/bytealg.MakeNoZero"], unfollowed := true, recurses := true, apart := false, narrowed := true }
def FlashKeepsUptoSaid : Prop := flashKeepsUptoRow.holds Try.pinned (OpenSpec.upto flashKeepsSpec)

/-- 'fasciclelaw18.FoldRows', WHERE WHAT IT READS IS OF BULK AT MOST 1048576: true; the input reads as it did. -/
def foldRowsUptoRow : OpenClaim := { program := "ytbcccobbmphaeaa", sum := "d582972b4f384c07b3e03d0562c80bb8437e0d3400416d571bf78bc6343ef48b", func := "fascicle/fasciclelaw18.FoldRows", spec := "foldRows", unfollowed := true, recurses := true, apart := false, narrowed := true }
def FoldRowsUptoSaid : Prop := foldRowsUptoRow.holds Try.pinned (OpenSpec.upto foldRowsSpec)

end Rows
end Go.Proofs.Ytbcccobbmphaeaa
