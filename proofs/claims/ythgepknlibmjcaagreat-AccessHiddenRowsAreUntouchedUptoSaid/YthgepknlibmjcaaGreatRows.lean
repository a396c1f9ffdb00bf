/-
  No cell of these rows narrows 'for every input' (looked for: loops, veiled, ifaces, maps, wideKeys, modest, calm, conditions, laid).
  DERIVED. THE GIVEN ROWS OF THIS SEAT. 8 by the template 'for every input the law returns true; each argument reads behind the call as it read before'; 0 by the template 'total and deterministic' (their statements: YthgepknlibmjcaaGreatTotals.lean).
  GIVEN WITH THE SEED: the statements are not yours to turn. If you find one false, say at which input.
  Laid BY PROGRAM, IN A SANDBOX (cutbox-rows.mjs): the forced cells as the released guide's own fill.sh prints them over the translation 3b5e02bcecbd19b2… (all of the seat's roots in one cut). By AI agents, Wed Nov 11 2026. No macro, syntax, notation, axiom, sorry.
-/
import Derived.Test.YthgepknlibmjcaaGreatChecked
import GoSem.Claim
import GoSem.ClaimJoined
import GoSem.ClaimMapViews
import Derived.JoinedTies
import Derived.KernelRfl
namespace Go.Proofs.YthgepknlibmjcaaGreat
/- THE CELL 'sum', in the pinned program and in every row, IS THE sha256 OF THE DUMP (.gsa) THAT YthgepknlibmjcaaGreatProg.lean LOADS. Nothing in Lean hashes anything: it is a label: what it is worth is what the hold of that sum in a sandbox is worth. -/
noncomputable def Tryz.pinned : Pinned := { name := "ythgepknlibmjcaagreat", sum := "3b5e02bcecbd19b2d04ba4a05b9e38a47a69b4ddcd354497b2a43c8ae0e6184c", checked := Tryz.checked }
namespace Rows
def none {H : Type} : Left H := { results := [], args := [] }

/-- 'stemkeep1.RetentionKeepsUsedVersions': WHATEVER THE INPUT: true; the input reads as it did. -/
def retentionKeepsUsedVersionsSpec : ChangeSpec := { name := "retentionKeepsUsedVersions", fn := fun _ => fun
  | [d1, d2] => { results := [.lit (.bool true)], args := [d1, d2] }
  | _ => none }
def retentionKeepsUsedVersionsRow : OpenClaim := { program := "ythgepknlibmjcaagreat", sum := "3b5e02bcecbd19b2d04ba4a05b9e38a47a69b4ddcd354497b2a43c8ae0e6184c", func := "stemma/stemkeep1.RetentionKeepsUsedVersions", spec := "retentionKeepsUsedVersions", inPlace := ["internal/bytealg.abigen_runtime_cmpstring"], unfollowed := true, recurses := true, apart := false }
def RetentionKeepsUsedVersionsSaid : Prop := retentionKeepsUsedVersionsRow.holds Tryz.pinned (OpenSpec.ofChange retentionKeepsUsedVersionsSpec)

/-- ITS FALSE NEIGHBOUR: 'it returns false'. Refute it at one input. -/
def retentionKeepsUsedVersionsWrong : ChangeSpec := { name := "retentionKeepsUsedVersions", fn := fun _ => fun
  | [d1, d2] => { results := [.lit (.bool false)], args := [d1, d2] }
  | _ => none }
def RetentionKeepsUsedVersionsWrongFalsely : Prop := retentionKeepsUsedVersionsRow.holds Tryz.pinned (OpenSpec.ofChange retentionKeepsUsedVersionsWrong)

/-- 'stemkeep1.AccessMoreRulesGrantMore': WHATEVER THE INPUT: true; the input reads as it did. -/
def accessMoreRulesGrantMoreSpec : ChangeSpec := { name := "accessMoreRulesGrantMore", fn := fun _ => fun
  | [d1, d2, d3, d4, d5, d6, d7] => { results := [.lit (.bool true)], args := [d1, d2, d3, d4, d5, d6, d7] }
  | _ => none }
def accessMoreRulesGrantMoreRow : OpenClaim := { program := "ythgepknlibmjcaagreat", sum := "3b5e02bcecbd19b2d04ba4a05b9e38a47a69b4ddcd354497b2a43c8ae0e6184c", func := "stemma/stemkeep1.AccessMoreRulesGrantMore", spec := "accessMoreRulesGrantMore", inPlace := ["internal/bytealg.abigen_runtime_cmpstring"], unfollowed := true, recurses := true, apart := false }
def AccessMoreRulesGrantMoreSaid : Prop := accessMoreRulesGrantMoreRow.holds Tryz.pinned (OpenSpec.ofChange accessMoreRulesGrantMoreSpec)

/-- ITS FALSE NEIGHBOUR: 'it returns false'. Refute it at one input. -/
def accessMoreRulesGrantMoreWrong : ChangeSpec := { name := "accessMoreRulesGrantMore", fn := fun _ => fun
  | [d1, d2, d3, d4, d5, d6, d7] => { results := [.lit (.bool false)], args := [d1, d2, d3, d4, d5, d6, d7] }
  | _ => none }
def AccessMoreRulesGrantMoreWrongFalsely : Prop := accessMoreRulesGrantMoreRow.holds Tryz.pinned (OpenSpec.ofChange accessMoreRulesGrantMoreWrong)

/-- 'stemkeep1.ViewSubsumptionIsReflexive': WHATEVER THE INPUT: true; the input reads as it did. -/
def viewSubsumptionIsReflexiveSpec : ChangeSpec := { name := "viewSubsumptionIsReflexive", fn := fun _ => fun
  | [d1, d2, d3, d4] => { results := [.lit (.bool true)], args := [d1, d2, d3, d4] }
  | _ => none }
def viewSubsumptionIsReflexiveRow : OpenClaim := { program := "ythgepknlibmjcaagreat", sum := "3b5e02bcecbd19b2d04ba4a05b9e38a47a69b4ddcd354497b2a43c8ae0e6184c", func := "stemma/stemkeep1.ViewSubsumptionIsReflexive", spec := "viewSubsumptionIsReflexive", inPlace := ["internal/bytealg.abigen_runtime_cmpstring"], unfollowed := true, recurses := true, apart := false }
def ViewSubsumptionIsReflexiveSaid : Prop := viewSubsumptionIsReflexiveRow.holds Tryz.pinned (OpenSpec.ofChange viewSubsumptionIsReflexiveSpec)

/-- ITS FALSE NEIGHBOUR: 'it returns false'. Refute it at one input. -/
def viewSubsumptionIsReflexiveWrong : ChangeSpec := { name := "viewSubsumptionIsReflexive", fn := fun _ => fun
  | [d1, d2, d3, d4] => { results := [.lit (.bool false)], args := [d1, d2, d3, d4] }
  | _ => none }
def ViewSubsumptionIsReflexiveWrongFalsely : Prop := viewSubsumptionIsReflexiveRow.holds Tryz.pinned (OpenSpec.ofChange viewSubsumptionIsReflexiveWrong)

/-- 'stemkeep1.ViewConforms': WHATEVER THE INPUT: true; the input reads as it did. -/
def viewConformsSpec : ChangeSpec := { name := "viewConforms", fn := fun _ => fun
  | [d1, d2, d3, d4, d5] => { results := [.lit (.bool true)], args := [d1, d2, d3, d4, d5] }
  | _ => none }
def viewConformsRow : OpenClaim := { program := "ythgepknlibmjcaagreat", sum := "3b5e02bcecbd19b2d04ba4a05b9e38a47a69b4ddcd354497b2a43c8ae0e6184c", func := "stemma/stemkeep1.ViewConforms", spec := "viewConforms", inPlace := ["internal/bytealg.abigen_runtime_cmpstring"], unfollowed := true, recurses := true, apart := false }
def ViewConformsSaid : Prop := viewConformsRow.holds Tryz.pinned (OpenSpec.ofChange viewConformsSpec)

/-- ITS FALSE NEIGHBOUR: 'it returns false'. Refute it at one input. -/
def viewConformsWrong : ChangeSpec := { name := "viewConforms", fn := fun _ => fun
  | [d1, d2, d3, d4, d5] => { results := [.lit (.bool false)], args := [d1, d2, d3, d4, d5] }
  | _ => none }
def ViewConformsWrongFalsely : Prop := viewConformsRow.holds Tryz.pinned (OpenSpec.ofChange viewConformsWrong)

/-- 'stemkeep1.AccessHiddenDataDoesNotLeak': WHATEVER THE INPUT: true; the input reads as it did. -/
def accessHiddenDataDoesNotLeakSpec : ChangeSpec := { name := "accessHiddenDataDoesNotLeak", fn := fun _ => fun
  | [d1, d2, d3, d4, d5, d6] => { results := [.lit (.bool true)], args := [d1, d2, d3, d4, d5, d6] }
  | _ => none }
def accessHiddenDataDoesNotLeakRow : OpenClaim := { program := "ythgepknlibmjcaagreat", sum := "3b5e02bcecbd19b2d04ba4a05b9e38a47a69b4ddcd354497b2a43c8ae0e6184c", func := "stemma/stemkeep1.AccessHiddenDataDoesNotLeak", spec := "accessHiddenDataDoesNotLeak", inPlace := ["internal/bytealg.abigen_runtime_cmpstring"], unfollowed := true, recurses := true, apart := false }
def AccessHiddenDataDoesNotLeakSaid : Prop := accessHiddenDataDoesNotLeakRow.holds Tryz.pinned (OpenSpec.ofChange accessHiddenDataDoesNotLeakSpec)

/-- ITS FALSE NEIGHBOUR: 'it returns false'. Refute it at one input. -/
def accessHiddenDataDoesNotLeakWrong : ChangeSpec := { name := "accessHiddenDataDoesNotLeak", fn := fun _ => fun
  | [d1, d2, d3, d4, d5, d6] => { results := [.lit (.bool false)], args := [d1, d2, d3, d4, d5, d6] }
  | _ => none }
def AccessHiddenDataDoesNotLeakWrongFalsely : Prop := accessHiddenDataDoesNotLeakRow.holds Tryz.pinned (OpenSpec.ofChange accessHiddenDataDoesNotLeakWrong)

/-- 'stemkeep1.ViewSubsumptionIsSound': WHATEVER THE INPUT: true; the input reads as it did. -/
def viewSubsumptionIsSoundSpec : ChangeSpec := { name := "viewSubsumptionIsSound", fn := fun _ => fun
  | [d1, d2, d3, d4, d5, d6] => { results := [.lit (.bool true)], args := [d1, d2, d3, d4, d5, d6] }
  | _ => none }
def viewSubsumptionIsSoundRow : OpenClaim := { program := "ythgepknlibmjcaagreat", sum := "3b5e02bcecbd19b2d04ba4a05b9e38a47a69b4ddcd354497b2a43c8ae0e6184c", func := "stemma/stemkeep1.ViewSubsumptionIsSound", spec := "viewSubsumptionIsSound", inPlace := ["internal/bytealg.abigen_runtime_cmpstring"], unfollowed := true, recurses := true, apart := false }
def ViewSubsumptionIsSoundSaid : Prop := viewSubsumptionIsSoundRow.holds Tryz.pinned (OpenSpec.ofChange viewSubsumptionIsSoundSpec)

/-- ITS FALSE NEIGHBOUR: 'it returns false'. Refute it at one input. -/
def viewSubsumptionIsSoundWrong : ChangeSpec := { name := "viewSubsumptionIsSound", fn := fun _ => fun
  | [d1, d2, d3, d4, d5, d6] => { results := [.lit (.bool false)], args := [d1, d2, d3, d4, d5, d6] }
  | _ => none }
def ViewSubsumptionIsSoundWrongFalsely : Prop := viewSubsumptionIsSoundRow.holds Tryz.pinned (OpenSpec.ofChange viewSubsumptionIsSoundWrong)

/-- 'stemkeep1.AccessWritesStayVisible': WHATEVER THE INPUT: true; the input reads as it did. -/
def accessWritesStayVisibleSpec : ChangeSpec := { name := "accessWritesStayVisible", fn := fun _ => fun
  | [d1, d2, d3, d4, d5, d6] => { results := [.lit (.bool true)], args := [d1, d2, d3, d4, d5, d6] }
  | _ => none }
def accessWritesStayVisibleRow : OpenClaim := { program := "ythgepknlibmjcaagreat", sum := "3b5e02bcecbd19b2d04ba4a05b9e38a47a69b4ddcd354497b2a43c8ae0e6184c", func := "stemma/stemkeep1.AccessWritesStayVisible", spec := "accessWritesStayVisible", inPlace := ["internal/bytealg.abigen_runtime_cmpstring", "slices.overlaps[stemma/api.Row]"], unfollowed := true, recurses := true, apart := false }
def AccessWritesStayVisibleSaid : Prop := accessWritesStayVisibleRow.holds Tryz.pinned (OpenSpec.ofChange accessWritesStayVisibleSpec)

/-- ITS FALSE NEIGHBOUR: 'it returns false'. Refute it at one input. -/
def accessWritesStayVisibleWrong : ChangeSpec := { name := "accessWritesStayVisible", fn := fun _ => fun
  | [d1, d2, d3, d4, d5, d6] => { results := [.lit (.bool false)], args := [d1, d2, d3, d4, d5, d6] }
  | _ => none }
def AccessWritesStayVisibleWrongFalsely : Prop := accessWritesStayVisibleRow.holds Tryz.pinned (OpenSpec.ofChange accessWritesStayVisibleWrong)

/-- 'stemkeep1.AccessHiddenRowsAreUntouched': WHATEVER THE INPUT: true; the input reads as it did. -/
def accessHiddenRowsAreUntouchedSpec : ChangeSpec := { name := "accessHiddenRowsAreUntouched", fn := fun _ => fun
  | [d1, d2, d3, d4, d5, d6] => { results := [.lit (.bool true)], args := [d1, d2, d3, d4, d5, d6] }
  | _ => none }
def accessHiddenRowsAreUntouchedRow : OpenClaim := { program := "ythgepknlibmjcaagreat", sum := "3b5e02bcecbd19b2d04ba4a05b9e38a47a69b4ddcd354497b2a43c8ae0e6184c", func := "stemma/stemkeep1.AccessHiddenRowsAreUntouched", spec := "accessHiddenRowsAreUntouched", inPlace := ["internal/bytealg.abigen_runtime_cmpstring", "slices.overlaps[stemma/api.Row]"], unfollowed := true, recurses := true, apart := false }
def AccessHiddenRowsAreUntouchedSaid : Prop := accessHiddenRowsAreUntouchedRow.holds Tryz.pinned (OpenSpec.ofChange accessHiddenRowsAreUntouchedSpec)

/-- ITS FALSE NEIGHBOUR: 'it returns false'. Refute it at one input. -/
def accessHiddenRowsAreUntouchedWrong : ChangeSpec := { name := "accessHiddenRowsAreUntouched", fn := fun _ => fun
  | [d1, d2, d3, d4, d5, d6] => { results := [.lit (.bool false)], args := [d1, d2, d3, d4, d5, d6] }
  | _ => none }
def AccessHiddenRowsAreUntouchedWrongFalsely : Prop := accessHiddenRowsAreUntouchedRow.holds Tryz.pinned (OpenSpec.ofChange accessHiddenRowsAreUntouchedWrong)

/- THE SECOND FORM. 'bulk': how many values and letters a reading holds, each counted each time it is reached (what is shared counts as often as it is met; a slice's spare places count too). A statement '..UptoSaid' is the law's where the arguments, and the package variables that the reading takes, are together of bulk at most 1048576: NARROWER than '..Said'. Prove '..Said' where nothing that the law and all that it calls make is longer than what came in: it says more and counts as full. Else prove '..UptoSaid'. A law counts once. -/
mutual
def uptoBulk {H : Type} : DataW H → Nat
  | .lit (.string bytes) => bytes.length + 1
  | .lit _ => 1
  | .nil => 1
  | .ptr d => uptoBulk d + 1
  | .slice elems spare => uptoBulkAll elems + uptoBulkAll spare + 1
  | .agg parts => uptoBulkAll parts + 1
  | .iface _ d => uptoBulk d + 1
  | .map entries => uptoBulkEntries entries + 1
  | .held _ => 1
def uptoBulkAll {H : Type} : List (DataW H) → Nat
  | [] => 0
  | d :: r => uptoBulk d + uptoBulkAll r
def uptoBulkEntries {H : Type} : List (Lit × DataW H) → Nat
  | [] => 0
  | x :: r => uptoBulkEntry x + uptoBulkEntries r
def uptoBulkEntry {H : Type} : Lit × DataW H → Nat
  | (.string bytes, d) => bytes.length + uptoBulk d + 1
  | (_, d) => uptoBulk d + 1
 end
def uptoSmall : (H : Type) → List (DataW H) → Bool := fun _ ds => decide (uptoBulkAll ds ≤ 1048576)
def OpenSpec.upto (s : _root_.Go.ChangeSpec) : _root_.Go.OpenSpec := { _root_.Go.OpenSpec.ofChange s with cond := some uptoSmall }

/-- 'stemkeep1.RetentionKeepsUsedVersions', WHERE WHAT IT READS IS OF BULK AT MOST 1048576: true; the input reads as it did. -/
def retentionKeepsUsedVersionsUptoRow : OpenClaim := { program := "ythgepknlibmjcaagreat", sum := "3b5e02bcecbd19b2d04ba4a05b9e38a47a69b4ddcd354497b2a43c8ae0e6184c", func := "stemma/stemkeep1.RetentionKeepsUsedVersions", spec := "retentionKeepsUsedVersions", inPlace := ["internal/bytealg.abigen_runtime_cmpstring"], unfollowed := true, recurses := true, apart := false, narrowed := true }
def RetentionKeepsUsedVersionsUptoSaid : Prop := retentionKeepsUsedVersionsUptoRow.holds Tryz.pinned (OpenSpec.upto retentionKeepsUsedVersionsSpec)

/-- 'stemkeep1.AccessMoreRulesGrantMore', WHERE WHAT IT READS IS OF BULK AT MOST 1048576: true; the input reads as it did. -/
def accessMoreRulesGrantMoreUptoRow : OpenClaim := { program := "ythgepknlibmjcaagreat", sum := "3b5e02bcecbd19b2d04ba4a05b9e38a47a69b4ddcd354497b2a43c8ae0e6184c", func := "stemma/stemkeep1.AccessMoreRulesGrantMore", spec := "accessMoreRulesGrantMore", inPlace := ["internal/bytealg.abigen_runtime_cmpstring"], unfollowed := true, recurses := true, apart := false, narrowed := true }
def AccessMoreRulesGrantMoreUptoSaid : Prop := accessMoreRulesGrantMoreUptoRow.holds Tryz.pinned (OpenSpec.upto accessMoreRulesGrantMoreSpec)

/-- 'stemkeep1.ViewSubsumptionIsReflexive', WHERE WHAT IT READS IS OF BULK AT MOST 1048576: true; the input reads as it did. -/
def viewSubsumptionIsReflexiveUptoRow : OpenClaim := { program := "ythgepknlibmjcaagreat", sum := "3b5e02bcecbd19b2d04ba4a05b9e38a47a69b4ddcd354497b2a43c8ae0e6184c", func := "stemma/stemkeep1.ViewSubsumptionIsReflexive", spec := "viewSubsumptionIsReflexive", inPlace := ["internal/bytealg.abigen_runtime_cmpstring"], unfollowed := true, recurses := true, apart := false, narrowed := true }
def ViewSubsumptionIsReflexiveUptoSaid : Prop := viewSubsumptionIsReflexiveUptoRow.holds Tryz.pinned (OpenSpec.upto viewSubsumptionIsReflexiveSpec)

/-- 'stemkeep1.ViewConforms', WHERE WHAT IT READS IS OF BULK AT MOST 1048576: true; the input reads as it did. -/
def viewConformsUptoRow : OpenClaim := { program := "ythgepknlibmjcaagreat", sum := "3b5e02bcecbd19b2d04ba4a05b9e38a47a69b4ddcd354497b2a43c8ae0e6184c", func := "stemma/stemkeep1.ViewConforms", spec := "viewConforms", inPlace := ["internal/bytealg.abigen_runtime_cmpstring"], unfollowed := true, recurses := true, apart := false, narrowed := true }
def ViewConformsUptoSaid : Prop := viewConformsUptoRow.holds Tryz.pinned (OpenSpec.upto viewConformsSpec)

/-- 'stemkeep1.AccessHiddenDataDoesNotLeak', WHERE WHAT IT READS IS OF BULK AT MOST 1048576: true; the input reads as it did. -/
def accessHiddenDataDoesNotLeakUptoRow : OpenClaim := { program := "ythgepknlibmjcaagreat", sum := "3b5e02bcecbd19b2d04ba4a05b9e38a47a69b4ddcd354497b2a43c8ae0e6184c", func := "stemma/stemkeep1.AccessHiddenDataDoesNotLeak", spec := "accessHiddenDataDoesNotLeak", inPlace := ["internal/bytealg.abigen_runtime_cmpstring"], unfollowed := true, recurses := true, apart := false, narrowed := true }
def AccessHiddenDataDoesNotLeakUptoSaid : Prop := accessHiddenDataDoesNotLeakUptoRow.holds Tryz.pinned (OpenSpec.upto accessHiddenDataDoesNotLeakSpec)

/-- 'stemkeep1.ViewSubsumptionIsSound', WHERE WHAT IT READS IS OF BULK AT MOST 1048576: true; the input reads as it did. -/
def viewSubsumptionIsSoundUptoRow : OpenClaim := { program := "ythgepknlibmjcaagreat", sum := "3b5e02bcecbd19b2d04ba4a05b9e38a47a69b4ddcd354497b2a43c8ae0e6184c", func := "stemma/stemkeep1.ViewSubsumptionIsSound", spec := "viewSubsumptionIsSound", inPlace := ["internal/bytealg.abigen_runtime_cmpstring"], unfollowed := true, recurses := true, apart := false, narrowed := true }
def ViewSubsumptionIsSoundUptoSaid : Prop := viewSubsumptionIsSoundUptoRow.holds Tryz.pinned (OpenSpec.upto viewSubsumptionIsSoundSpec)

/-- 'stemkeep1.AccessWritesStayVisible', WHERE WHAT IT READS IS OF BULK AT MOST 1048576: true; the input reads as it did. -/
def accessWritesStayVisibleUptoRow : OpenClaim := { program := "ythgepknlibmjcaagreat", sum := "3b5e02bcecbd19b2d04ba4a05b9e38a47a69b4ddcd354497b2a43c8ae0e6184c", func := "stemma/stemkeep1.AccessWritesStayVisible", spec := "accessWritesStayVisible", inPlace := ["internal/bytealg.abigen_runtime_cmpstring", "slices.overlaps[stemma/api.Row]"], unfollowed := true, recurses := true, apart := false, narrowed := true }
def AccessWritesStayVisibleUptoSaid : Prop := accessWritesStayVisibleUptoRow.holds Tryz.pinned (OpenSpec.upto accessWritesStayVisibleSpec)

/-- 'stemkeep1.AccessHiddenRowsAreUntouched', WHERE WHAT IT READS IS OF BULK AT MOST 1048576: true; the input reads as it did. -/
def accessHiddenRowsAreUntouchedUptoRow : OpenClaim := { program := "ythgepknlibmjcaagreat", sum := "3b5e02bcecbd19b2d04ba4a05b9e38a47a69b4ddcd354497b2a43c8ae0e6184c", func := "stemma/stemkeep1.AccessHiddenRowsAreUntouched", spec := "accessHiddenRowsAreUntouched", inPlace := ["internal/bytealg.abigen_runtime_cmpstring", "slices.overlaps[stemma/api.Row]"], unfollowed := true, recurses := true, apart := false, narrowed := true }
def AccessHiddenRowsAreUntouchedUptoSaid : Prop := accessHiddenRowsAreUntouchedUptoRow.holds Tryz.pinned (OpenSpec.upto accessHiddenRowsAreUntouchedSpec)

end Rows
end Go.Proofs.YthgepknlibmjcaaGreat
