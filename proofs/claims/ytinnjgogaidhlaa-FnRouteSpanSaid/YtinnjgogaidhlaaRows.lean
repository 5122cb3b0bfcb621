/-
  No cell of these rows narrows 'for every input' (looked for: loops, veiled, ifaces, maps, wideKeys, modest, calm, conditions, laid).
  DERIVED. THE GIVEN ROWS OF THIS SEAT. 11 by the template 'for every input the law returns true; each argument reads behind the call as it read before'; 0 by the template 'total and deterministic' (their statements: YtinnjgogaidhlaaTotals.lean).
  GIVEN WITH THE SEED: the statements are not yours to turn. If you find one false, say at which input.
  Laid BY PROGRAM, IN A SANDBOX (cutbox-rows.mjs): the forced cells as the released guide's own fill.sh prints them over the translation 14768237b78e59f2… (all of the seat's roots in one cut). By AI agents, Wed Nov 11 2026. No macro, syntax, notation, axiom, sorry.
-/
import Derived.Test.YtinnjgogaidhlaaChecked
import GoSem.Claim
import GoSem.ClaimJoined
import GoSem.ClaimMapViews
import Derived.JoinedTies
import Derived.KernelRfl
namespace Go.Proofs.Ytinnjgogaidhlaa
/- THE CELL 'sum', in the pinned program and in every row, IS THE sha256 OF THE DUMP (.gsa) THAT YtinnjgogaidhlaaProg.lean LOADS. Nothing in Lean hashes anything: it is a label: what it is worth is what the hold of that sum in a sandbox is worth. -/
noncomputable def Try.pinned : Pinned := { name := "ytinnjgogaidhlaa", sum := "14768237b78e59f24673b7eb3d85d9bb03c1932c0949c7e544af1ddbf50dcac2", checked := Try.checked }
namespace Rows
def none {H : Type} : Left H := { results := [], args := [] }

/-- 'laws.FnExactRouteSpan': WHATEVER THE INPUT: true; the input reads as it did. -/
def fnExactRouteSpanSpec : ChangeSpec := { name := "fnExactRouteSpan", fn := fun _ => fun
  | [d1, d2] => { results := [.lit (.bool true)], args := [d1, d2] }
  | _ => none }
def fnExactRouteSpanRow : OpenClaim := { program := "ytinnjgogaidhlaa", sum := "14768237b78e59f24673b7eb3d85d9bb03c1932c0949c7e544af1ddbf50dcac2", func := "loop.example/rangechains/laws.FnExactRouteSpan", spec := "fnExactRouteSpan", recurses := true, apart := false }
def FnExactRouteSpanSaid : Prop := fnExactRouteSpanRow.holds Try.pinned (OpenSpec.ofChange fnExactRouteSpanSpec)

/-- ITS FALSE NEIGHBOUR: 'it returns false'. Refute it at one input. -/
def fnExactRouteSpanWrong : ChangeSpec := { name := "fnExactRouteSpan", fn := fun _ => fun
  | [d1, d2] => { results := [.lit (.bool false)], args := [d1, d2] }
  | _ => none }
def FnExactRouteSpanWrongFalsely : Prop := fnExactRouteSpanRow.holds Try.pinned (OpenSpec.ofChange fnExactRouteSpanWrong)

/-- 'laws.FnExactCacheForget': WHATEVER THE INPUT: true; the input reads as it did. -/
def fnExactCacheForgetSpec : ChangeSpec := { name := "fnExactCacheForget", fn := fun _ => fun
  | [d1, d2] => { results := [.lit (.bool true)], args := [d1, d2] }
  | _ => none }
def fnExactCacheForgetRow : OpenClaim := { program := "ytinnjgogaidhlaa", sum := "14768237b78e59f24673b7eb3d85d9bb03c1932c0949c7e544af1ddbf50dcac2", func := "loop.example/rangechains/laws.FnExactCacheForget", spec := "fnExactCacheForget", recurses := true, apart := false }
def FnExactCacheForgetSaid : Prop := fnExactCacheForgetRow.holds Try.pinned (OpenSpec.ofChange fnExactCacheForgetSpec)

/-- ITS FALSE NEIGHBOUR: 'it returns false'. Refute it at one input. -/
def fnExactCacheForgetWrong : ChangeSpec := { name := "fnExactCacheForget", fn := fun _ => fun
  | [d1, d2] => { results := [.lit (.bool false)], args := [d1, d2] }
  | _ => none }
def FnExactCacheForgetWrongFalsely : Prop := fnExactCacheForgetRow.holds Try.pinned (OpenSpec.ofChange fnExactCacheForgetWrong)

/-- 'laws.FnExactRouteOf': WHATEVER THE INPUT: true; the input reads as it did. -/
def fnExactRouteOfSpec : ChangeSpec := { name := "fnExactRouteOf", fn := fun _ => fun
  | [d1, d2] => { results := [.lit (.bool true)], args := [d1, d2] }
  | _ => none }
def fnExactRouteOfRow : OpenClaim := { program := "ytinnjgogaidhlaa", sum := "14768237b78e59f24673b7eb3d85d9bb03c1932c0949c7e544af1ddbf50dcac2", func := "loop.example/rangechains/laws.FnExactRouteOf", spec := "fnExactRouteOf", recurses := true, apart := false }
def FnExactRouteOfSaid : Prop := fnExactRouteOfRow.holds Try.pinned (OpenSpec.ofChange fnExactRouteOfSpec)

/-- ITS FALSE NEIGHBOUR: 'it returns false'. Refute it at one input. -/
def fnExactRouteOfWrong : ChangeSpec := { name := "fnExactRouteOf", fn := fun _ => fun
  | [d1, d2] => { results := [.lit (.bool false)], args := [d1, d2] }
  | _ => none }
def FnExactRouteOfWrongFalsely : Prop := fnExactRouteOfRow.holds Try.pinned (OpenSpec.ofChange fnExactRouteOfWrong)

/-- 'laws.FnCacheFind': WHATEVER THE INPUT: true; the input reads as it did. -/
def fnCacheFindSpec : ChangeSpec := { name := "fnCacheFind", fn := fun _ => fun
  | [d] => { results := [.lit (.bool true)], args := [d] }
  | _ => none }
def fnCacheFindRow : OpenClaim := { program := "ytinnjgogaidhlaa", sum := "14768237b78e59f24673b7eb3d85d9bb03c1932c0949c7e544af1ddbf50dcac2", func := "loop.example/rangechains/laws.FnCacheFind", spec := "fnCacheFind", recurses := true, apart := false }
def FnCacheFindSaid : Prop := fnCacheFindRow.holds Try.pinned (OpenSpec.ofChange fnCacheFindSpec)

/-- ITS FALSE NEIGHBOUR: 'it returns false'. Refute it at one input. -/
def fnCacheFindWrong : ChangeSpec := { name := "fnCacheFind", fn := fun _ => fun
  | [d] => { results := [.lit (.bool false)], args := [d] }
  | _ => none }
def FnCacheFindWrongFalsely : Prop := fnCacheFindRow.holds Try.pinned (OpenSpec.ofChange fnCacheFindWrong)

/-- 'laws.FnRoutesValid': WHATEVER THE INPUT: true; the input reads as it did. -/
def fnRoutesValidSpec : ChangeSpec := { name := "fnRoutesValid", fn := fun _ => fun
  | [d] => { results := [.lit (.bool true)], args := [d] }
  | _ => none }
def fnRoutesValidRow : OpenClaim := { program := "ytinnjgogaidhlaa", sum := "14768237b78e59f24673b7eb3d85d9bb03c1932c0949c7e544af1ddbf50dcac2", func := "loop.example/rangechains/laws.FnRoutesValid", spec := "fnRoutesValid", recurses := true, apart := false }
def FnRoutesValidSaid : Prop := fnRoutesValidRow.holds Try.pinned (OpenSpec.ofChange fnRoutesValidSpec)

/-- ITS FALSE NEIGHBOUR: 'it returns false'. Refute it at one input. -/
def fnRoutesValidWrong : ChangeSpec := { name := "fnRoutesValid", fn := fun _ => fun
  | [d] => { results := [.lit (.bool false)], args := [d] }
  | _ => none }
def FnRoutesValidWrongFalsely : Prop := fnRoutesValidRow.holds Try.pinned (OpenSpec.ofChange fnRoutesValidWrong)

/-- 'laws.FnRouteSpan': WHATEVER THE INPUT: true; the input reads as it did. -/
def fnRouteSpanSpec : ChangeSpec := { name := "fnRouteSpan", fn := fun _ => fun
  | [d] => { results := [.lit (.bool true)], args := [d] }
  | _ => none }
def fnRouteSpanRow : OpenClaim := { program := "ytinnjgogaidhlaa", sum := "14768237b78e59f24673b7eb3d85d9bb03c1932c0949c7e544af1ddbf50dcac2", func := "loop.example/rangechains/laws.FnRouteSpan", spec := "fnRouteSpan", recurses := true, apart := false }
def FnRouteSpanSaid : Prop := fnRouteSpanRow.holds Try.pinned (OpenSpec.ofChange fnRouteSpanSpec)

/-- ITS FALSE NEIGHBOUR: 'it returns false'. Refute it at one input. -/
def fnRouteSpanWrong : ChangeSpec := { name := "fnRouteSpan", fn := fun _ => fun
  | [d] => { results := [.lit (.bool false)], args := [d] }
  | _ => none }
def FnRouteSpanWrongFalsely : Prop := fnRouteSpanRow.holds Try.pinned (OpenSpec.ofChange fnRouteSpanWrong)

/-- 'laws.FnExactCallerValid': WHATEVER THE INPUT: true; the input reads as it did. -/
def fnExactCallerValidSpec : ChangeSpec := { name := "fnExactCallerValid", fn := fun _ => fun
  | [d] => { results := [.lit (.bool true)], args := [d] }
  | _ => none }
def fnExactCallerValidRow : OpenClaim := { program := "ytinnjgogaidhlaa", sum := "14768237b78e59f24673b7eb3d85d9bb03c1932c0949c7e544af1ddbf50dcac2", func := "loop.example/rangechains/laws.FnExactCallerValid", spec := "fnExactCallerValid", recurses := true, apart := false }
def FnExactCallerValidSaid : Prop := fnExactCallerValidRow.holds Try.pinned (OpenSpec.ofChange fnExactCallerValidSpec)

/-- ITS FALSE NEIGHBOUR: 'it returns false'. Refute it at one input. -/
def fnExactCallerValidWrong : ChangeSpec := { name := "fnExactCallerValid", fn := fun _ => fun
  | [d] => { results := [.lit (.bool false)], args := [d] }
  | _ => none }
def FnExactCallerValidWrongFalsely : Prop := fnExactCallerValidRow.holds Try.pinned (OpenSpec.ofChange fnExactCallerValidWrong)

/-- 'laws.FnExactMergeRoutes': WHATEVER THE INPUT: true; the input reads as it did. -/
def fnExactMergeRoutesSpec : ChangeSpec := { name := "fnExactMergeRoutes", fn := fun _ => fun
  | [d1, d2, d3] => { results := [.lit (.bool true)], args := [d1, d2, d3] }
  | _ => none }
def fnExactMergeRoutesRow : OpenClaim := { program := "ytinnjgogaidhlaa", sum := "14768237b78e59f24673b7eb3d85d9bb03c1932c0949c7e544af1ddbf50dcac2", func := "loop.example/rangechains/laws.FnExactMergeRoutes", spec := "fnExactMergeRoutes", recurses := true, apart := false }
def FnExactMergeRoutesSaid : Prop := fnExactMergeRoutesRow.holds Try.pinned (OpenSpec.ofChange fnExactMergeRoutesSpec)

/-- ITS FALSE NEIGHBOUR: 'it returns false'. Refute it at one input. -/
def fnExactMergeRoutesWrong : ChangeSpec := { name := "fnExactMergeRoutes", fn := fun _ => fun
  | [d1, d2, d3] => { results := [.lit (.bool false)], args := [d1, d2, d3] }
  | _ => none }
def FnExactMergeRoutesWrongFalsely : Prop := fnExactMergeRoutesRow.holds Try.pinned (OpenSpec.ofChange fnExactMergeRoutesWrong)

/-- 'laws.FnCacheForget': WHATEVER THE INPUT: true; the input reads as it did. -/
def fnCacheForgetSpec : ChangeSpec := { name := "fnCacheForget", fn := fun _ => fun
  | [d] => { results := [.lit (.bool true)], args := [d] }
  | _ => none }
def fnCacheForgetRow : OpenClaim := { program := "ytinnjgogaidhlaa", sum := "14768237b78e59f24673b7eb3d85d9bb03c1932c0949c7e544af1ddbf50dcac2", func := "loop.example/rangechains/laws.FnCacheForget", spec := "fnCacheForget", recurses := true, apart := false }
def FnCacheForgetSaid : Prop := fnCacheForgetRow.holds Try.pinned (OpenSpec.ofChange fnCacheForgetSpec)

/-- ITS FALSE NEIGHBOUR: 'it returns false'. Refute it at one input. -/
def fnCacheForgetWrong : ChangeSpec := { name := "fnCacheForget", fn := fun _ => fun
  | [d] => { results := [.lit (.bool false)], args := [d] }
  | _ => none }
def FnCacheForgetWrongFalsely : Prop := fnCacheForgetRow.holds Try.pinned (OpenSpec.ofChange fnCacheForgetWrong)

/-- 'laws.FnExactSplitRoute': WHATEVER THE INPUT: true; the input reads as it did. -/
def fnExactSplitRouteSpec : ChangeSpec := { name := "fnExactSplitRoute", fn := fun _ => fun
  | [d1, d2, d3, d4, d5] => { results := [.lit (.bool true)], args := [d1, d2, d3, d4, d5] }
  | _ => none }
def fnExactSplitRouteRow : OpenClaim := { program := "ytinnjgogaidhlaa", sum := "14768237b78e59f24673b7eb3d85d9bb03c1932c0949c7e544af1ddbf50dcac2", func := "loop.example/rangechains/laws.FnExactSplitRoute", spec := "fnExactSplitRoute", recurses := true, apart := false }
def FnExactSplitRouteSaid : Prop := fnExactSplitRouteRow.holds Try.pinned (OpenSpec.ofChange fnExactSplitRouteSpec)

/-- ITS FALSE NEIGHBOUR: 'it returns false'. Refute it at one input. -/
def fnExactSplitRouteWrong : ChangeSpec := { name := "fnExactSplitRoute", fn := fun _ => fun
  | [d1, d2, d3, d4, d5] => { results := [.lit (.bool false)], args := [d1, d2, d3, d4, d5] }
  | _ => none }
def FnExactSplitRouteWrongFalsely : Prop := fnExactSplitRouteRow.holds Try.pinned (OpenSpec.ofChange fnExactSplitRouteWrong)

/-- 'laws.FnExactRequestOf': WHATEVER THE INPUT: true; the input reads as it did. -/
def fnExactRequestOfSpec : ChangeSpec := { name := "fnExactRequestOf", fn := fun _ => fun
  | [d1, d2] => { results := [.lit (.bool true)], args := [d1, d2] }
  | _ => none }
def fnExactRequestOfRow : OpenClaim := { program := "ytinnjgogaidhlaa", sum := "14768237b78e59f24673b7eb3d85d9bb03c1932c0949c7e544af1ddbf50dcac2", func := "loop.example/rangechains/laws.FnExactRequestOf", spec := "fnExactRequestOf", recurses := true, apart := false }
def FnExactRequestOfSaid : Prop := fnExactRequestOfRow.holds Try.pinned (OpenSpec.ofChange fnExactRequestOfSpec)

/-- ITS FALSE NEIGHBOUR: 'it returns false'. Refute it at one input. -/
def fnExactRequestOfWrong : ChangeSpec := { name := "fnExactRequestOf", fn := fun _ => fun
  | [d1, d2] => { results := [.lit (.bool false)], args := [d1, d2] }
  | _ => none }
def FnExactRequestOfWrongFalsely : Prop := fnExactRequestOfRow.holds Try.pinned (OpenSpec.ofChange fnExactRequestOfWrong)

/- THE SECOND FORM. 'bulk': how many values and letters a reading holds, each counted each time it is reached (what is shared counts as often as it is met; a slice's spare places count too). A statement '..UptoSaid' is the law's where the arguments, and the package variables that the reading takes, are together of bulk at most 1048576: NARROWER than '..Said'. Prove '..Said' where nothing that the law and all that it calls make is longer than what came in: it says more and counts as full. Else prove '..UptoSaid'. A law counts once. -/
mutual
def uptoBulk {H : Type} : DataW H → Nat
  | .lit (.string bytes) => bytes.length + 1
  | .lit _ => 1
  | .nil => 1
  | .ptr d => uptoBulk d + 1
  | .slice elems spare => uptoBulkAll elems + uptoBulkAll spare + 1
  | .agg parts => uptoBulkAll parts + 1
  | .iface _ d => uptoBulk d + 1
  | .map entries => uptoBulkEntries entries + 1
  | .held _ => 1
def uptoBulkAll {H : Type} : List (DataW H) → Nat
  | [] => 0
  | d :: r => uptoBulk d + uptoBulkAll r
def uptoBulkEntries {H : Type} : List (Lit × DataW H) → Nat
  | [] => 0
  | x :: r => uptoBulkEntry x + uptoBulkEntries r
def uptoBulkEntry {H : Type} : Lit × DataW H → Nat
  | (.string bytes, d) => bytes.length + uptoBulk d + 1
  | (_, d) => uptoBulk d + 1
 end
def uptoSmall : (H : Type) → List (DataW H) → Bool := fun _ ds => decide (uptoBulkAll ds ≤ 1048576)
def OpenSpec.upto (s : _root_.Go.ChangeSpec) : _root_.Go.OpenSpec := { _root_.Go.OpenSpec.ofChange s with cond := some uptoSmall }

/-- 'laws.FnExactRouteSpan', WHERE WHAT IT READS IS OF BULK AT MOST 1048576: true; the input reads as it did. -/
def fnExactRouteSpanUptoRow : OpenClaim := { program := "ytinnjgogaidhlaa", sum := "14768237b78e59f24673b7eb3d85d9bb03c1932c0949c7e544af1ddbf50dcac2", func := "loop.example/rangechains/laws.FnExactRouteSpan", spec := "fnExactRouteSpan", recurses := true, apart := false, narrowed := true }
def FnExactRouteSpanUptoSaid : Prop := fnExactRouteSpanUptoRow.holds Try.pinned (OpenSpec.upto fnExactRouteSpanSpec)

/-- 'laws.FnExactCacheForget', WHERE WHAT IT READS IS OF BULK AT MOST 1048576: true; the input reads as it did. -/
def fnExactCacheForgetUptoRow : OpenClaim := { program := "ytinnjgogaidhlaa", sum := "14768237b78e59f24673b7eb3d85d9bb03c1932c0949c7e544af1ddbf50dcac2", func := "loop.example/rangechains/laws.FnExactCacheForget", spec := "fnExactCacheForget", recurses := true, apart := false, narrowed := true }
def FnExactCacheForgetUptoSaid : Prop := fnExactCacheForgetUptoRow.holds Try.pinned (OpenSpec.upto fnExactCacheForgetSpec)

/-- 'laws.FnExactRouteOf', WHERE WHAT IT READS IS OF BULK AT MOST 1048576: true; the input reads as it did. -/
def fnExactRouteOfUptoRow : OpenClaim := { program := "ytinnjgogaidhlaa", sum := "14768237b78e59f24673b7eb3d85d9bb03c1932c0949c7e544af1ddbf50dcac2", func := "loop.example/rangechains/laws.FnExactRouteOf", spec := "fnExactRouteOf", recurses := true, apart := false, narrowed := true }
def FnExactRouteOfUptoSaid : Prop := fnExactRouteOfUptoRow.holds Try.pinned (OpenSpec.upto fnExactRouteOfSpec)

/-- 'laws.FnCacheFind', WHERE WHAT IT READS IS OF BULK AT MOST 1048576: true; the input reads as it did. -/
def fnCacheFindUptoRow : OpenClaim := { program := "ytinnjgogaidhlaa", sum := "14768237b78e59f24673b7eb3d85d9bb03c1932c0949c7e544af1ddbf50dcac2", func := "loop.example/rangechains/laws.FnCacheFind", spec := "fnCacheFind", recurses := true, apart := false, narrowed := true }
def FnCacheFindUptoSaid : Prop := fnCacheFindUptoRow.holds Try.pinned (OpenSpec.upto fnCacheFindSpec)

/-- 'laws.FnRoutesValid', WHERE WHAT IT READS IS OF BULK AT MOST 1048576: true; the input reads as it did. -/
def fnRoutesValidUptoRow : OpenClaim := { program := "ytinnjgogaidhlaa", sum := "14768237b78e59f24673b7eb3d85d9bb03c1932c0949c7e544af1ddbf50dcac2", func := "loop.example/rangechains/laws.FnRoutesValid", spec := "fnRoutesValid", recurses := true, apart := false, narrowed := true }
def FnRoutesValidUptoSaid : Prop := fnRoutesValidUptoRow.holds Try.pinned (OpenSpec.upto fnRoutesValidSpec)

/-- 'laws.FnRouteSpan', WHERE WHAT IT READS IS OF BULK AT MOST 1048576: true; the input reads as it did. -/
def fnRouteSpanUptoRow : OpenClaim := { program := "ytinnjgogaidhlaa", sum := "14768237b78e59f24673b7eb3d85d9bb03c1932c0949c7e544af1ddbf50dcac2", func := "loop.example/rangechains/laws.FnRouteSpan", spec := "fnRouteSpan", recurses := true, apart := false, narrowed := true }
def FnRouteSpanUptoSaid : Prop := fnRouteSpanUptoRow.holds Try.pinned (OpenSpec.upto fnRouteSpanSpec)

/-- 'laws.FnExactCallerValid', WHERE WHAT IT READS IS OF BULK AT MOST 1048576: true; the input reads as it did. -/
def fnExactCallerValidUptoRow : OpenClaim := { program := "ytinnjgogaidhlaa", sum := "14768237b78e59f24673b7eb3d85d9bb03c1932c0949c7e544af1ddbf50dcac2", func := "loop.example/rangechains/laws.FnExactCallerValid", spec := "fnExactCallerValid", recurses := true, apart := false, narrowed := true }
def FnExactCallerValidUptoSaid : Prop := fnExactCallerValidUptoRow.holds Try.pinned (OpenSpec.upto fnExactCallerValidSpec)

/-- 'laws.FnExactMergeRoutes', WHERE WHAT IT READS IS OF BULK AT MOST 1048576: true; the input reads as it did. -/
def fnExactMergeRoutesUptoRow : OpenClaim := { program := "ytinnjgogaidhlaa", sum := "14768237b78e59f24673b7eb3d85d9bb03c1932c0949c7e544af1ddbf50dcac2", func := "loop.example/rangechains/laws.FnExactMergeRoutes", spec := "fnExactMergeRoutes", recurses := true, apart := false, narrowed := true }
def FnExactMergeRoutesUptoSaid : Prop := fnExactMergeRoutesUptoRow.holds Try.pinned (OpenSpec.upto fnExactMergeRoutesSpec)

/-- 'laws.FnCacheForget', WHERE WHAT IT READS IS OF BULK AT MOST 1048576: true; the input reads as it did. -/
def fnCacheForgetUptoRow : OpenClaim := { program := "ytinnjgogaidhlaa", sum := "14768237b78e59f24673b7eb3d85d9bb03c1932c0949c7e544af1ddbf50dcac2", func := "loop.example/rangechains/laws.FnCacheForget", spec := "fnCacheForget", recurses := true, apart := false, narrowed := true }
def FnCacheForgetUptoSaid : Prop := fnCacheForgetUptoRow.holds Try.pinned (OpenSpec.upto fnCacheForgetSpec)

/-- 'laws.FnExactSplitRoute', WHERE WHAT IT READS IS OF BULK AT MOST 1048576: true; the input reads as it did. -/
def fnExactSplitRouteUptoRow : OpenClaim := { program := "ytinnjgogaidhlaa", sum := "14768237b78e59f24673b7eb3d85d9bb03c1932c0949c7e544af1ddbf50dcac2", func := "loop.example/rangechains/laws.FnExactSplitRoute", spec := "fnExactSplitRoute", recurses := true, apart := false, narrowed := true }
def FnExactSplitRouteUptoSaid : Prop := fnExactSplitRouteUptoRow.holds Try.pinned (OpenSpec.upto fnExactSplitRouteSpec)

/-- 'laws.FnExactRequestOf', WHERE WHAT IT READS IS OF BULK AT MOST 1048576: true; the input reads as it did. -/
def fnExactRequestOfUptoRow : OpenClaim := { program := "ytinnjgogaidhlaa", sum := "14768237b78e59f24673b7eb3d85d9bb03c1932c0949c7e544af1ddbf50dcac2", func := "loop.example/rangechains/laws.FnExactRequestOf", spec := "fnExactRequestOf", recurses := true, apart := false, narrowed := true }
def FnExactRequestOfUptoSaid : Prop := fnExactRequestOfUptoRow.holds Try.pinned (OpenSpec.upto fnExactRequestOfSpec)

end Rows
end Go.Proofs.Ytinnjgogaidhlaa
