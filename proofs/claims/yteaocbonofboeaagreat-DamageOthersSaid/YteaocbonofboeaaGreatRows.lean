/-
  No cell of these rows narrows 'for every input' (looked for: loops, veiled, ifaces, maps, wideKeys, modest, calm, conditions, laid).
  DERIVED. THE GIVEN ROWS OF THIS SEAT. 11 by the template 'for every input the law returns true; each argument reads behind the call as it read before'; 0 by the template 'total and deterministic' (their statements: YteaocbonofboeaaGreatTotals.lean).
  GIVEN WITH THE SEED: the statements are not yours to turn. If you find one false, say at which input.
  Laid BY PROGRAM, IN A SANDBOX (cutbox-rows.mjs): the forced cells as the released guide's own fill.sh prints them over the translation bc4c15ecc0e784fc… (all of the seat's roots in one cut). By AI agents, Wed Nov 11 2026. No macro, syntax, notation, axiom, sorry.
-/
import Derived.Test.YteaocbonofboeaaGreatChecked
import GoSem.Claim
import GoSem.ClaimJoined
import GoSem.ClaimMapViews
import Derived.JoinedTies
import Derived.KernelRfl
namespace Go.Proofs.YteaocbonofboeaaGreat
/- THE CELL 'sum', in the pinned program and in every row, IS THE sha256 OF THE DUMP (.gsa) THAT YteaocbonofboeaaGreatProg.lean LOADS. Nothing in Lean hashes anything: it is a label: what it is worth is what the hold of that sum in a sandbox is worth. -/
noncomputable def Tryz.pinned : Pinned := { name := "yteaocbonofboeaagreat", sum := "bc4c15ecc0e784fc5f80eeb8cd23dc99124215e6eee314032920abcad822502a", checked := Tryz.checked }
namespace Rows
def none {H : Type} : Left H := { results := [], args := [] }

/-- 'fasciclelaw15.SegmentBack': WHATEVER THE INPUT: true; the input reads as it did. -/
def segmentBackSpec : ChangeSpec := { name := "segmentBack", fn := fun _ => fun
  | [d1, d2, d3, d4, d5] => { results := [.lit (.bool true)], args := [d1, d2, d3, d4, d5] }
  | _ => none }
def segmentBackRow : OpenClaim := { program := "yteaocbonofboeaagreat", sum := "bc4c15ecc0e784fc5f80eeb8cd23dc99124215e6eee314032920abcad822502a", func := "fascicle/fasciclelaw15.SegmentBack", spec := "segmentBack", inPlace := ["internal/bytealg.IndexByte", "internal/bytealg.MakeNoZero"], unfollowed := true, recurses := true, apart := false }
def SegmentBackSaid : Prop := segmentBackRow.holds Tryz.pinned (OpenSpec.ofChange segmentBackSpec)

/-- ITS FALSE NEIGHBOUR: 'it returns false'. Refute it at one input. -/
def segmentBackWrong : ChangeSpec := { name := "segmentBack", fn := fun _ => fun
  | [d1, d2, d3, d4, d5] => { results := [.lit (.bool false)], args := [d1, d2, d3, d4, d5] }
  | _ => none }
def SegmentBackWrongFalsely : Prop := segmentBackRow.holds Tryz.pinned (OpenSpec.ofChange segmentBackWrong)

/-- 'fasciclelaw23.SalvageParts': WHATEVER THE INPUT: true; the input reads as it did. -/
def salvagePartsSpec : ChangeSpec := { name := "salvageParts", fn := fun _ => fun
  | [d1, d2] => { results := [.lit (.bool true)], args := [d1, d2] }
  | _ => none }
def salvagePartsRow : OpenClaim := { program := "yteaocbonofboeaagreat", sum := "bc4c15ecc0e784fc5f80eeb8cd23dc99124215e6eee314032920abcad822502a", func := "fascicle/fasciclelaw23.SalvageParts", spec := "salvageParts", inPlace := ["internal/bytealg.IndexByte", "internal/bytealg.MakeNoZero"], unfollowed := true, recurses := true, apart := false }
def SalvagePartsSaid : Prop := salvagePartsRow.holds Tryz.pinned (OpenSpec.ofChange salvagePartsSpec)

/-- ITS FALSE NEIGHBOUR: 'it returns false'. Refute it at one input. -/
def salvagePartsWrong : ChangeSpec := { name := "salvageParts", fn := fun _ => fun
  | [d1, d2] => { results := [.lit (.bool false)], args := [d1, d2] }
  | _ => none }
def SalvagePartsWrongFalsely : Prop := salvagePartsRow.holds Tryz.pinned (OpenSpec.ofChange salvagePartsWrong)

/-- 'fasciclelaw23.SalvageImage': WHATEVER THE INPUT: true; the input reads as it did. -/
def salvageImageSpec : ChangeSpec := { name := "salvageImage", fn := fun _ => fun
  | [d1, d2] => { results := [.lit (.bool true)], args := [d1, d2] }
  | _ => none }
def salvageImageRow : OpenClaim := { program := "yteaocbonofboeaagreat", sum := "bc4c15ecc0e784fc5f80eeb8cd23dc99124215e6eee314032920abcad822502a", func := "fascicle/fasciclelaw23.SalvageImage", spec := "salvageImage", inPlace := ["internal/bytealg.IndexByte", "internal/bytealg.MakeNoZero"], unfollowed := true, recurses := true, apart := false }
def SalvageImageSaid : Prop := salvageImageRow.holds Tryz.pinned (OpenSpec.ofChange salvageImageSpec)

/-- ITS FALSE NEIGHBOUR: 'it returns false'. Refute it at one input. -/
def salvageImageWrong : ChangeSpec := { name := "salvageImage", fn := fun _ => fun
  | [d1, d2] => { results := [.lit (.bool false)], args := [d1, d2] }
  | _ => none }
def SalvageImageWrongFalsely : Prop := salvageImageRow.holds Tryz.pinned (OpenSpec.ofChange salvageImageWrong)

/-- 'fasciclelaw24.DamageApplies': WHATEVER THE INPUT: true; the input reads as it did. -/
def damageAppliesSpec : ChangeSpec := { name := "damageApplies", fn := fun _ => fun
  | [d1, d2, d3, d4] => { results := [.lit (.bool true)], args := [d1, d2, d3, d4] }
  | _ => none }
def damageAppliesRow : OpenClaim := { program := "yteaocbonofboeaagreat", sum := "bc4c15ecc0e784fc5f80eeb8cd23dc99124215e6eee314032920abcad822502a", func := "fascicle/fasciclelaw24.DamageApplies", spec := "damageApplies", inPlace := ["internal/bytealg.IndexByte", "internal/bytealg.MakeNoZero"], unfollowed := true, recurses := true, apart := false }
def DamageAppliesSaid : Prop := damageAppliesRow.holds Tryz.pinned (OpenSpec.ofChange damageAppliesSpec)

/-- ITS FALSE NEIGHBOUR: 'it returns false'. Refute it at one input. -/
def damageAppliesWrong : ChangeSpec := { name := "damageApplies", fn := fun _ => fun
  | [d1, d2, d3, d4] => { results := [.lit (.bool false)], args := [d1, d2, d3, d4] }
  | _ => none }
def DamageAppliesWrongFalsely : Prop := damageAppliesRow.holds Tryz.pinned (OpenSpec.ofChange damageAppliesWrong)

/-- 'fasciclelaw24.DamageSublist': WHATEVER THE INPUT: true; the input reads as it did. -/
def damageSublistSpec : ChangeSpec := { name := "damageSublist", fn := fun _ => fun
  | [d1, d2, d3] => { results := [.lit (.bool true)], args := [d1, d2, d3] }
  | _ => none }
def damageSublistRow : OpenClaim := { program := "yteaocbonofboeaagreat", sum := "bc4c15ecc0e784fc5f80eeb8cd23dc99124215e6eee314032920abcad822502a", func := "fascicle/fasciclelaw24.DamageSublist", spec := "damageSublist", inPlace := ["internal/bytealg.IndexByte", "internal/bytealg.MakeNoZero"], unfollowed := true, recurses := true, apart := false }
def DamageSublistSaid : Prop := damageSublistRow.holds Tryz.pinned (OpenSpec.ofChange damageSublistSpec)

/-- ITS FALSE NEIGHBOUR: 'it returns false'. Refute it at one input. -/
def damageSublistWrong : ChangeSpec := { name := "damageSublist", fn := fun _ => fun
  | [d1, d2, d3] => { results := [.lit (.bool false)], args := [d1, d2, d3] }
  | _ => none }
def DamageSublistWrongFalsely : Prop := damageSublistRow.holds Tryz.pinned (OpenSpec.ofChange damageSublistWrong)

/-- 'fasciclelaw24.DamageOthers': WHATEVER THE INPUT: true; the input reads as it did. -/
def damageOthersSpec : ChangeSpec := { name := "damageOthers", fn := fun _ => fun
  | [d1, d2, d3] => { results := [.lit (.bool true)], args := [d1, d2, d3] }
  | _ => none }
def damageOthersRow : OpenClaim := { program := "yteaocbonofboeaagreat", sum := "bc4c15ecc0e784fc5f80eeb8cd23dc99124215e6eee314032920abcad822502a", func := "fascicle/fasciclelaw24.DamageOthers", spec := "damageOthers", inPlace := ["internal/bytealg.IndexByte", "internal/bytealg.MakeNoZero"], unfollowed := true, recurses := true, apart := false }
def DamageOthersSaid : Prop := damageOthersRow.holds Tryz.pinned (OpenSpec.ofChange damageOthersSpec)

/-- ITS FALSE NEIGHBOUR: 'it returns false'. Refute it at one input. -/
def damageOthersWrong : ChangeSpec := { name := "damageOthers", fn := fun _ => fun
  | [d1, d2, d3] => { results := [.lit (.bool false)], args := [d1, d2, d3] }
  | _ => none }
def DamageOthersWrongFalsely : Prop := damageOthersRow.holds Tryz.pinned (OpenSpec.ofChange damageOthersWrong)

/-- 'fasciclelaw24.DamageErrors': WHATEVER THE INPUT: true; the input reads as it did. -/
def damageErrorsSpec : ChangeSpec := { name := "damageErrors", fn := fun _ => fun
  | [d1, d2] => { results := [.lit (.bool true)], args := [d1, d2] }
  | _ => none }
def damageErrorsRow : OpenClaim := { program := "yteaocbonofboeaagreat", sum := "bc4c15ecc0e784fc5f80eeb8cd23dc99124215e6eee314032920abcad822502a", func := "fascicle/fasciclelaw24.DamageErrors", spec := "damageErrors", inPlace := ["internal/bytealg.IndexByte", "internal/bytealg.MakeNoZero"], unfollowed := true, recurses := true, apart := false }
def DamageErrorsSaid : Prop := damageErrorsRow.holds Tryz.pinned (OpenSpec.ofChange damageErrorsSpec)

/-- ITS FALSE NEIGHBOUR: 'it returns false'. Refute it at one input. -/
def damageErrorsWrong : ChangeSpec := { name := "damageErrors", fn := fun _ => fun
  | [d1, d2] => { results := [.lit (.bool false)], args := [d1, d2] }
  | _ => none }
def DamageErrorsWrongFalsely : Prop := damageErrorsRow.holds Tryz.pinned (OpenSpec.ofChange damageErrorsWrong)

/-- 'fasciclelaw24.DamageSure': WHATEVER THE INPUT: true; the input reads as it did. -/
def damageSureSpec : ChangeSpec := { name := "damageSure", fn := fun _ => fun
  | [d1, d2, d3] => { results := [.lit (.bool true)], args := [d1, d2, d3] }
  | _ => none }
def damageSureRow : OpenClaim := { program := "yteaocbonofboeaagreat", sum := "bc4c15ecc0e784fc5f80eeb8cd23dc99124215e6eee314032920abcad822502a", func := "fascicle/fasciclelaw24.DamageSure", spec := "damageSure", inPlace := ["internal/bytealg.IndexByte", "internal/bytealg.MakeNoZero"], unfollowed := true, recurses := true, apart := false }
def DamageSureSaid : Prop := damageSureRow.holds Tryz.pinned (OpenSpec.ofChange damageSureSpec)

/-- ITS FALSE NEIGHBOUR: 'it returns false'. Refute it at one input. -/
def damageSureWrong : ChangeSpec := { name := "damageSure", fn := fun _ => fun
  | [d1, d2, d3] => { results := [.lit (.bool false)], args := [d1, d2, d3] }
  | _ => none }
def DamageSureWrongFalsely : Prop := damageSureRow.holds Tryz.pinned (OpenSpec.ofChange damageSureWrong)

/-- 'fasciclelaw17.DecodeViews': WHATEVER THE INPUT: true; the input reads as it did. -/
def decodeViewsSpec : ChangeSpec := { name := "decodeViews", fn := fun _ => fun
  | [d1, d2, d3, d4] => { results := [.lit (.bool true)], args := [d1, d2, d3, d4] }
  | _ => none }
def decodeViewsRow : OpenClaim := { program := "yteaocbonofboeaagreat", sum := "bc4c15ecc0e784fc5f80eeb8cd23dc99124215e6eee314032920abcad822502a", func := "fascicle/fasciclelaw17.DecodeViews", spec := "decodeViews", inPlace := ["internal/bytealg.IndexByte", "internal/bytealg.MakeNoZero"], unfollowed := true, recurses := true, apart := false }
def DecodeViewsSaid : Prop := decodeViewsRow.holds Tryz.pinned (OpenSpec.ofChange decodeViewsSpec)

/-- ITS FALSE NEIGHBOUR: 'it returns false'. Refute it at one input. -/
def decodeViewsWrong : ChangeSpec := { name := "decodeViews", fn := fun _ => fun
  | [d1, d2, d3, d4] => { results := [.lit (.bool false)], args := [d1, d2, d3, d4] }
  | _ => none }
def DecodeViewsWrongFalsely : Prop := decodeViewsRow.holds Tryz.pinned (OpenSpec.ofChange decodeViewsWrong)

/-- 'fasciclelaw17.DecodeBack': WHATEVER THE INPUT: true; the input reads as it did. -/
def decodeBackSpec : ChangeSpec := { name := "decodeBack", fn := fun _ => fun
  | [d1, d2] => { results := [.lit (.bool true)], args := [d1, d2] }
  | _ => none }
def decodeBackRow : OpenClaim := { program := "yteaocbonofboeaagreat", sum := "bc4c15ecc0e784fc5f80eeb8cd23dc99124215e6eee314032920abcad822502a", func := "fascicle/fasciclelaw17.DecodeBack", spec := "decodeBack", inPlace := ["internal/bytealg.IndexByte", "internal/bytealg.MakeNoZero"], unfollowed := true, recurses := true, apart := false }
def DecodeBackSaid : Prop := decodeBackRow.holds Tryz.pinned (OpenSpec.ofChange decodeBackSpec)

/-- ITS FALSE NEIGHBOUR: 'it returns false'. Refute it at one input. -/
def decodeBackWrong : ChangeSpec := { name := "decodeBack", fn := fun _ => fun
  | [d1, d2] => { results := [.lit (.bool false)], args := [d1, d2] }
  | _ => none }
def DecodeBackWrongFalsely : Prop := decodeBackRow.holds Tryz.pinned (OpenSpec.ofChange decodeBackWrong)

/-- 'fasciclelaw17.DecodeStrict': WHATEVER THE INPUT: true; the input reads as it did. -/
def decodeStrictSpec : ChangeSpec := { name := "decodeStrict", fn := fun _ => fun
  | [d1, d2, d3, d4] => { results := [.lit (.bool true)], args := [d1, d2, d3, d4] }
  | _ => none }
def decodeStrictRow : OpenClaim := { program := "yteaocbonofboeaagreat", sum := "bc4c15ecc0e784fc5f80eeb8cd23dc99124215e6eee314032920abcad822502a", func := "fascicle/fasciclelaw17.DecodeStrict", spec := "decodeStrict", inPlace := ["internal/bytealg.IndexByte", "internal/bytealg.MakeNoZero"], unfollowed := true, recurses := true, apart := false }
def DecodeStrictSaid : Prop := decodeStrictRow.holds Tryz.pinned (OpenSpec.ofChange decodeStrictSpec)

/-- ITS FALSE NEIGHBOUR: 'it returns false'. Refute it at one input. -/
def decodeStrictWrong : ChangeSpec := { name := "decodeStrict", fn := fun _ => fun
  | [d1, d2, d3, d4] => { results := [.lit (.bool false)], args := [d1, d2, d3, d4] }
  | _ => none }
def DecodeStrictWrongFalsely : Prop := decodeStrictRow.holds Tryz.pinned (OpenSpec.ofChange decodeStrictWrong)

/- THE SECOND FORM. 'bulk': how many values and letters a reading holds, each counted each time it is reached (what is shared counts as often as it is met; a slice's spare places count too). A statement '..UptoSaid' is the law's where the arguments, and the package variables that the reading takes, are together of bulk at most 1048576: NARROWER than '..Said'. Prove '..Said' where nothing that the law and all that it calls make is longer than what came in: it says more and counts as full. Else prove '..UptoSaid'. A law counts once. -/
mutual
def uptoBulk {H : Type} : DataW H → Nat
  | .lit (.string bytes) => bytes.length + 1
  | .lit _ => 1
  | .nil => 1
  | .ptr d => uptoBulk d + 1
  | .slice elems spare => uptoBulkAll elems + uptoBulkAll spare + 1
  | .agg parts => uptoBulkAll parts + 1
  | .iface _ d => uptoBulk d + 1
  | .map entries => uptoBulkEntries entries + 1
  | .held _ => 1
def uptoBulkAll {H : Type} : List (DataW H) → Nat
  | [] => 0
  | d :: r => uptoBulk d + uptoBulkAll r
def uptoBulkEntries {H : Type} : List (Lit × DataW H) → Nat
  | [] => 0
  | x :: r => uptoBulkEntry x + uptoBulkEntries r
def uptoBulkEntry {H : Type} : Lit × DataW H → Nat
  | (.string bytes, d) => bytes.length + uptoBulk d + 1
  | (_, d) => uptoBulk d + 1
 end
def uptoSmall : (H : Type) → List (DataW H) → Bool := fun _ ds => decide (uptoBulkAll ds ≤ 1048576)
def OpenSpec.upto (s : _root_.Go.ChangeSpec) : _root_.Go.OpenSpec := { _root_.Go.OpenSpec.ofChange s with cond := some uptoSmall }

/-- 'fasciclelaw15.SegmentBack', WHERE WHAT IT READS IS OF BULK AT MOST 1048576: true; the input reads as it did. -/
def segmentBackUptoRow : OpenClaim := { program := "yteaocbonofboeaagreat", sum := "bc4c15ecc0e784fc5f80eeb8cd23dc99124215e6eee314032920abcad822502a", func := "fascicle/fasciclelaw15.SegmentBack", spec := "segmentBack", inPlace := ["internal/bytealg.IndexByte", "internal/bytealg.MakeNoZero"], unfollowed := true, recurses := true, apart := false, narrowed := true }
def SegmentBackUptoSaid : Prop := segmentBackUptoRow.holds Tryz.pinned (OpenSpec.upto segmentBackSpec)

/-- 'fasciclelaw23.SalvageParts', WHERE WHAT IT READS IS OF BULK AT MOST 1048576: true; the input reads as it did. -/
def salvagePartsUptoRow : OpenClaim := { program := "yteaocbonofboeaagreat", sum := "bc4c15ecc0e784fc5f80eeb8cd23dc99124215e6eee314032920abcad822502a", func := "fascicle/fasciclelaw23.SalvageParts", spec := "salvageParts", inPlace := ["internal/bytealg.IndexByte", "internal/bytealg.MakeNoZero"], unfollowed := true, recurses := true, apart := false, narrowed := true }
def SalvagePartsUptoSaid : Prop := salvagePartsUptoRow.holds Tryz.pinned (OpenSpec.upto salvagePartsSpec)

/-- 'fasciclelaw23.SalvageImage', WHERE WHAT IT READS IS OF BULK AT MOST 1048576: true; the input reads as it did. -/
def salvageImageUptoRow : OpenClaim := { program := "yteaocbonofboeaagreat", sum := "bc4c15ecc0e784fc5f80eeb8cd23dc99124215e6eee314032920abcad822502a", func := "fascicle/fasciclelaw23.SalvageImage", spec := "salvageImage", inPlace := ["internal/bytealg.IndexByte", "internal/bytealg.MakeNoZero"], unfollowed := true, recurses := true, apart := false, narrowed := true }
def SalvageImageUptoSaid : Prop := salvageImageUptoRow.holds Tryz.pinned (OpenSpec.upto salvageImageSpec)

/-- 'fasciclelaw24.DamageApplies', WHERE WHAT IT READS IS OF BULK AT MOST 1048576: true; the input reads as it did. -/
def damageAppliesUptoRow : OpenClaim := { program := "yteaocbonofboeaagreat", sum := "bc4c15ecc0e784fc5f80eeb8cd23dc99124215e6eee314032920abcad822502a", func := "fascicle/fasciclelaw24.DamageApplies", spec := "damageApplies", inPlace := ["internal/bytealg.IndexByte", "internal/bytealg.MakeNoZero"], unfollowed := true, recurses := true, apart := false, narrowed := true }
def DamageAppliesUptoSaid : Prop := damageAppliesUptoRow.holds Tryz.pinned (OpenSpec.upto damageAppliesSpec)

/-- 'fasciclelaw24.DamageSublist', WHERE WHAT IT READS IS OF BULK AT MOST 1048576: true; the input reads as it did. -/
def damageSublistUptoRow : OpenClaim := { program := "yteaocbonofboeaagreat", sum := "bc4c15ecc0e784fc5f80eeb8cd23dc99124215e6eee314032920abcad822502a", func := "fascicle/fasciclelaw24.DamageSublist", spec := "damageSublist", inPlace := ["internal/bytealg.IndexByte", "internal/bytealg.MakeNoZero"], unfollowed := true, recurses := true, apart := false, narrowed := true }
def DamageSublistUptoSaid : Prop := damageSublistUptoRow.holds Tryz.pinned (OpenSpec.upto damageSublistSpec)

/-- 'fasciclelaw24.DamageOthers', WHERE WHAT IT READS IS OF BULK AT MOST 1048576: true; the input reads as it did. -/
def damageOthersUptoRow : OpenClaim := { program := "yteaocbonofboeaagreat", sum := "bc4c15ecc0e784fc5f80eeb8cd23dc99124215e6eee314032920abcad822502a", func := "fascicle/fasciclelaw24.DamageOthers", spec := "damageOthers", inPlace := ["internal/bytealg.IndexByte", "internal/bytealg.MakeNoZero"], unfollowed := true, recurses := true, apart := false, narrowed := true }
def DamageOthersUptoSaid : Prop := damageOthersUptoRow.holds Tryz.pinned (OpenSpec.upto damageOthersSpec)

/-- 'fasciclelaw24.DamageErrors', WHERE WHAT IT READS IS OF BULK AT MOST 1048576: true; the input reads as it did. -/
def damageErrorsUptoRow : OpenClaim := { program := "yteaocbonofboeaagreat", sum := "bc4c15ecc0e784fc5f80eeb8cd23dc99124215e6eee314032920abcad822502a", func := "fascicle/fasciclelaw24.DamageErrors", spec := "damageErrors", inPlace := ["internal/bytealg.IndexByte", "internal/bytealg.MakeNoZero"], unfollowed := true, recurses := true, apart := false, narrowed := true }
def DamageErrorsUptoSaid : Prop := damageErrorsUptoRow.holds Tryz.pinned (OpenSpec.upto damageErrorsSpec)

/-- 'fasciclelaw24.DamageSure', WHERE WHAT IT READS IS OF BULK AT MOST 1048576: true; the input reads as it did. -/
def damageSureUptoRow : OpenClaim := { program := "yteaocbonofboeaagreat", sum := "bc4c15ecc0e784fc5f80eeb8cd23dc99124215e6eee314032920abcad822502a", func := "fascicle/fasciclelaw24.DamageSure", spec := "damageSure", inPlace := ["internal/bytealg.IndexByte", "internal/bytealg.MakeNoZero"], unfollowed := true, recurses := true, apart := false, narrowed := true }
def DamageSureUptoSaid : Prop := damageSureUptoRow.holds Tryz.pinned (OpenSpec.upto damageSureSpec)

/-- 'fasciclelaw17.DecodeViews', WHERE WHAT IT READS IS OF BULK AT MOST 1048576: true; the input reads as it did. -/
def decodeViewsUptoRow : OpenClaim := { program := "yteaocbonofboeaagreat", sum := "bc4c15ecc0e784fc5f80eeb8cd23dc99124215e6eee314032920abcad822502a", func := "fascicle/fasciclelaw17.DecodeViews", spec := "decodeViews", inPlace := ["internal/bytealg.IndexByte", "internal/bytealg.MakeNoZero"], unfollowed := true, recurses := true, apart := false, narrowed := true }
def DecodeViewsUptoSaid : Prop := decodeViewsUptoRow.holds Tryz.pinned (OpenSpec.upto decodeViewsSpec)

/-- 'fasciclelaw17.DecodeBack', WHERE WHAT IT READS IS OF BULK AT MOST 1048576: true; the input reads as it did. -/
def decodeBackUptoRow : OpenClaim := { program := "yteaocbonofboeaagreat", sum := "bc4c15ecc0e784fc5f80eeb8cd23dc99124215e6eee314032920abcad822502a", func := "fascicle/fasciclelaw17.DecodeBack", spec := "decodeBack", inPlace := ["internal/bytealg.IndexByte", "internal/bytealg.MakeNoZero"], unfollowed := true, recurses := true, apart := false, narrowed := true }
def DecodeBackUptoSaid : Prop := decodeBackUptoRow.holds Tryz.pinned (OpenSpec.upto decodeBackSpec)

/-- 'fasciclelaw17.DecodeStrict', WHERE WHAT IT READS IS OF BULK AT MOST 1048576: true; the input reads as it did. -/
def decodeStrictUptoRow : OpenClaim := { program := "yteaocbonofboeaagreat", sum := "bc4c15ecc0e784fc5f80eeb8cd23dc99124215e6eee314032920abcad822502a", func := "fascicle/fasciclelaw17.DecodeStrict", spec := "decodeStrict", inPlace := ["internal/bytealg.IndexByte", "internal/bytealg.MakeNoZero"], unfollowed := true, recurses := true, apart := false, narrowed := true }
def DecodeStrictUptoSaid : Prop := decodeStrictUptoRow.holds Tryz.pinned (OpenSpec.upto decodeStrictSpec)

end Rows
end Go.Proofs.YteaocbonofboeaaGreat
