/-
  No cell of these rows narrows 'for every input' (looked for: loops, veiled, ifaces, maps, wideKeys, modest, calm, conditions, laid).
  DERIVED. THE GIVEN ROWS OF THIS SEAT. 12 by the template 'for every input the law returns true; each argument reads behind the call as it read before'; 0 by the template 'total and deterministic' (their statements: YtkjkokljgbpbbaaTotals.lean).
  GIVEN WITH THE SEED: the statements are not yours to turn. If you find one false, say at which input.
  Laid BY PROGRAM, IN A SANDBOX (cutbox-rows.mjs): the forced cells as the released guide's own fill.sh prints them over the translation 2a5822024d550dea… (all of the seat's roots in one cut). By AI agents, Wed Nov 11 2026. No macro, syntax, notation, axiom, sorry.
-/
import Derived.Test.YtkjkokljgbpbbaaChecked
import GoSem.Claim
import GoSem.ClaimJoined
import GoSem.ClaimMapViews
import Derived.JoinedTies
import Derived.KernelRfl
namespace Go.Proofs.Ytkjkokljgbpbbaa
/- THE CELL 'sum', in the pinned program and in every row, IS THE sha256 OF THE DUMP (.gsa) THAT YtkjkokljgbpbbaaProg.lean LOADS. Nothing in Lean hashes anything: it is a label: what it is worth is what the hold of that sum in a sandbox is worth. -/
noncomputable def Try.pinned : Pinned := { name := "ytkjkokljgbpbbaa", sum := "2a5822024d550dea6dea97396f56d2f43fb9b442b768ba0b5342b6cf12b31a12", checked := Try.checked }
namespace Rows
def none {H : Type} : Left H := { results := [], args := [] }

/-- 'laws.FnRouteOf': WHATEVER THE INPUT: true; the input reads as it did. -/
def fnRouteOfSpec : ChangeSpec := { name := "fnRouteOf", fn := fun _ => fun
  | [d] => { results := [.lit (.bool true)], args := [d] }
  | _ => none }
def fnRouteOfRow : OpenClaim := { program := "ytkjkokljgbpbbaa", sum := "2a5822024d550dea6dea97396f56d2f43fb9b442b768ba0b5342b6cf12b31a12", func := "loop.example/rangechains/laws.FnRouteOf", spec := "fnRouteOf", recurses := true, apart := false }
def FnRouteOfSaid : Prop := fnRouteOfRow.holds Try.pinned (OpenSpec.ofChange fnRouteOfSpec)

/-- ITS FALSE NEIGHBOUR: 'it returns false'. Refute it at one input. -/
def fnRouteOfWrong : ChangeSpec := { name := "fnRouteOf", fn := fun _ => fun
  | [d] => { results := [.lit (.bool false)], args := [d] }
  | _ => none }
def FnRouteOfWrongFalsely : Prop := fnRouteOfRow.holds Try.pinned (OpenSpec.ofChange fnRouteOfWrong)

/-- 'laws.FnCallerValid': WHATEVER THE INPUT: true; the input reads as it did. -/
def fnCallerValidSpec : ChangeSpec := { name := "fnCallerValid", fn := fun _ => fun
  | [d] => { results := [.lit (.bool true)], args := [d] }
  | _ => none }
def fnCallerValidRow : OpenClaim := { program := "ytkjkokljgbpbbaa", sum := "2a5822024d550dea6dea97396f56d2f43fb9b442b768ba0b5342b6cf12b31a12", func := "loop.example/rangechains/laws.FnCallerValid", spec := "fnCallerValid", recurses := true, apart := false }
def FnCallerValidSaid : Prop := fnCallerValidRow.holds Try.pinned (OpenSpec.ofChange fnCallerValidSpec)

/-- ITS FALSE NEIGHBOUR: 'it returns false'. Refute it at one input. -/
def fnCallerValidWrong : ChangeSpec := { name := "fnCallerValid", fn := fun _ => fun
  | [d] => { results := [.lit (.bool false)], args := [d] }
  | _ => none }
def FnCallerValidWrongFalsely : Prop := fnCallerValidRow.holds Try.pinned (OpenSpec.ofChange fnCallerValidWrong)

/-- 'laws.FnRequestOf': WHATEVER THE INPUT: true; the input reads as it did. -/
def fnRequestOfSpec : ChangeSpec := { name := "fnRequestOf", fn := fun _ => fun
  | [d] => { results := [.lit (.bool true)], args := [d] }
  | _ => none }
def fnRequestOfRow : OpenClaim := { program := "ytkjkokljgbpbbaa", sum := "2a5822024d550dea6dea97396f56d2f43fb9b442b768ba0b5342b6cf12b31a12", func := "loop.example/rangechains/laws.FnRequestOf", spec := "fnRequestOf", recurses := true, apart := false }
def FnRequestOfSaid : Prop := fnRequestOfRow.holds Try.pinned (OpenSpec.ofChange fnRequestOfSpec)

/-- ITS FALSE NEIGHBOUR: 'it returns false'. Refute it at one input. -/
def fnRequestOfWrong : ChangeSpec := { name := "fnRequestOf", fn := fun _ => fun
  | [d] => { results := [.lit (.bool false)], args := [d] }
  | _ => none }
def FnRequestOfWrongFalsely : Prop := fnRequestOfRow.holds Try.pinned (OpenSpec.ofChange fnRequestOfWrong)

/-- 'laws.FnMergeRoutes': WHATEVER THE INPUT: true; the input reads as it did. -/
def fnMergeRoutesSpec : ChangeSpec := { name := "fnMergeRoutes", fn := fun _ => fun
  | [d] => { results := [.lit (.bool true)], args := [d] }
  | _ => none }
def fnMergeRoutesRow : OpenClaim := { program := "ytkjkokljgbpbbaa", sum := "2a5822024d550dea6dea97396f56d2f43fb9b442b768ba0b5342b6cf12b31a12", func := "loop.example/rangechains/laws.FnMergeRoutes", spec := "fnMergeRoutes", recurses := true, apart := false }
def FnMergeRoutesSaid : Prop := fnMergeRoutesRow.holds Try.pinned (OpenSpec.ofChange fnMergeRoutesSpec)

/-- ITS FALSE NEIGHBOUR: 'it returns false'. Refute it at one input. -/
def fnMergeRoutesWrong : ChangeSpec := { name := "fnMergeRoutes", fn := fun _ => fun
  | [d] => { results := [.lit (.bool false)], args := [d] }
  | _ => none }
def FnMergeRoutesWrongFalsely : Prop := fnMergeRoutesRow.holds Try.pinned (OpenSpec.ofChange fnMergeRoutesWrong)

/-- 'laws.FnExactGiveUp': WHATEVER THE INPUT: true; the input reads as it did. -/
def fnExactGiveUpSpec : ChangeSpec := { name := "fnExactGiveUp", fn := fun _ => fun
  | [d] => { results := [.lit (.bool true)], args := [d] }
  | _ => none }
def fnExactGiveUpRow : OpenClaim := { program := "ytkjkokljgbpbbaa", sum := "2a5822024d550dea6dea97396f56d2f43fb9b442b768ba0b5342b6cf12b31a12", func := "loop.example/rangechains/laws.FnExactGiveUp", spec := "fnExactGiveUp", recurses := true, apart := false }
def FnExactGiveUpSaid : Prop := fnExactGiveUpRow.holds Try.pinned (OpenSpec.ofChange fnExactGiveUpSpec)

/-- ITS FALSE NEIGHBOUR: 'it returns false'. Refute it at one input. -/
def fnExactGiveUpWrong : ChangeSpec := { name := "fnExactGiveUp", fn := fun _ => fun
  | [d] => { results := [.lit (.bool false)], args := [d] }
  | _ => none }
def FnExactGiveUpWrongFalsely : Prop := fnExactGiveUpRow.holds Try.pinned (OpenSpec.ofChange fnExactGiveUpWrong)

/-- 'laws.FnGiveUp': WHATEVER THE INPUT: true; the input reads as it did. -/
def fnGiveUpSpec : ChangeSpec := { name := "fnGiveUp", fn := fun _ => fun
  | [d] => { results := [.lit (.bool true)], args := [d] }
  | _ => none }
def fnGiveUpRow : OpenClaim := { program := "ytkjkokljgbpbbaa", sum := "2a5822024d550dea6dea97396f56d2f43fb9b442b768ba0b5342b6cf12b31a12", func := "loop.example/rangechains/laws.FnGiveUp", spec := "fnGiveUp", recurses := true, apart := false }
def FnGiveUpSaid : Prop := fnGiveUpRow.holds Try.pinned (OpenSpec.ofChange fnGiveUpSpec)

/-- ITS FALSE NEIGHBOUR: 'it returns false'. Refute it at one input. -/
def fnGiveUpWrong : ChangeSpec := { name := "fnGiveUp", fn := fun _ => fun
  | [d] => { results := [.lit (.bool false)], args := [d] }
  | _ => none }
def FnGiveUpWrongFalsely : Prop := fnGiveUpRow.holds Try.pinned (OpenSpec.ofChange fnGiveUpWrong)

/-- 'laws.FnExactAskCaller': WHATEVER THE INPUT: true; the input reads as it did. -/
def fnExactAskCallerSpec : ChangeSpec := { name := "fnExactAskCaller", fn := fun _ => fun
  | [d1, d2, d3] => { results := [.lit (.bool true)], args := [d1, d2, d3] }
  | _ => none }
def fnExactAskCallerRow : OpenClaim := { program := "ytkjkokljgbpbbaa", sum := "2a5822024d550dea6dea97396f56d2f43fb9b442b768ba0b5342b6cf12b31a12", func := "loop.example/rangechains/laws.FnExactAskCaller", spec := "fnExactAskCaller", recurses := true, apart := false }
def FnExactAskCallerSaid : Prop := fnExactAskCallerRow.holds Try.pinned (OpenSpec.ofChange fnExactAskCallerSpec)

/-- ITS FALSE NEIGHBOUR: 'it returns false'. Refute it at one input. -/
def fnExactAskCallerWrong : ChangeSpec := { name := "fnExactAskCaller", fn := fun _ => fun
  | [d1, d2, d3] => { results := [.lit (.bool false)], args := [d1, d2, d3] }
  | _ => none }
def FnExactAskCallerWrongFalsely : Prop := fnExactAskCallerRow.holds Try.pinned (OpenSpec.ofChange fnExactAskCallerWrong)

/-- 'laws.FnExactCacheLearn': WHATEVER THE INPUT: true; the input reads as it did. -/
def fnExactCacheLearnSpec : ChangeSpec := { name := "fnExactCacheLearn", fn := fun _ => fun
  | [d1, d2] => { results := [.lit (.bool true)], args := [d1, d2] }
  | _ => none }
def fnExactCacheLearnRow : OpenClaim := { program := "ytkjkokljgbpbbaa", sum := "2a5822024d550dea6dea97396f56d2f43fb9b442b768ba0b5342b6cf12b31a12", func := "loop.example/rangechains/laws.FnExactCacheLearn", spec := "fnExactCacheLearn", inPlace := ["slices.overlaps[loop.example/rangechains/impl.Route]"], recurses := true, apart := false }
def FnExactCacheLearnSaid : Prop := fnExactCacheLearnRow.holds Try.pinned (OpenSpec.ofChange fnExactCacheLearnSpec)

/-- ITS FALSE NEIGHBOUR: 'it returns false'. Refute it at one input. -/
def fnExactCacheLearnWrong : ChangeSpec := { name := "fnExactCacheLearn", fn := fun _ => fun
  | [d1, d2] => { results := [.lit (.bool false)], args := [d1, d2] }
  | _ => none }
def FnExactCacheLearnWrongFalsely : Prop := fnExactCacheLearnRow.holds Try.pinned (OpenSpec.ofChange fnExactCacheLearnWrong)

/-- 'laws.FnExactFinishCaller': WHATEVER THE INPUT: true; the input reads as it did. -/
def fnExactFinishCallerSpec : ChangeSpec := { name := "fnExactFinishCaller", fn := fun _ => fun
  | [d1, d2, d3, d4] => { results := [.lit (.bool true)], args := [d1, d2, d3, d4] }
  | _ => none }
def fnExactFinishCallerRow : OpenClaim := { program := "ytkjkokljgbpbbaa", sum := "2a5822024d550dea6dea97396f56d2f43fb9b442b768ba0b5342b6cf12b31a12", func := "loop.example/rangechains/laws.FnExactFinishCaller", spec := "fnExactFinishCaller", recurses := true, apart := false }
def FnExactFinishCallerSaid : Prop := fnExactFinishCallerRow.holds Try.pinned (OpenSpec.ofChange fnExactFinishCallerSpec)

/-- ITS FALSE NEIGHBOUR: 'it returns false'. Refute it at one input. -/
def fnExactFinishCallerWrong : ChangeSpec := { name := "fnExactFinishCaller", fn := fun _ => fun
  | [d1, d2, d3, d4] => { results := [.lit (.bool false)], args := [d1, d2, d3, d4] }
  | _ => none }
def FnExactFinishCallerWrongFalsely : Prop := fnExactFinishCallerRow.holds Try.pinned (OpenSpec.ofChange fnExactFinishCallerWrong)

/-- 'laws.FnAskCaller': WHATEVER THE INPUT: true; the input reads as it did. -/
def fnAskCallerSpec : ChangeSpec := { name := "fnAskCaller", fn := fun _ => fun
  | [d] => { results := [.lit (.bool true)], args := [d] }
  | _ => none }
def fnAskCallerRow : OpenClaim := { program := "ytkjkokljgbpbbaa", sum := "2a5822024d550dea6dea97396f56d2f43fb9b442b768ba0b5342b6cf12b31a12", func := "loop.example/rangechains/laws.FnAskCaller", spec := "fnAskCaller", recurses := true, apart := false }
def FnAskCallerSaid : Prop := fnAskCallerRow.holds Try.pinned (OpenSpec.ofChange fnAskCallerSpec)

/-- ITS FALSE NEIGHBOUR: 'it returns false'. Refute it at one input. -/
def fnAskCallerWrong : ChangeSpec := { name := "fnAskCaller", fn := fun _ => fun
  | [d] => { results := [.lit (.bool false)], args := [d] }
  | _ => none }
def FnAskCallerWrongFalsely : Prop := fnAskCallerRow.holds Try.pinned (OpenSpec.ofChange fnAskCallerWrong)

/-- 'laws.FnFinishCaller': WHATEVER THE INPUT: true; the input reads as it did. -/
def fnFinishCallerSpec : ChangeSpec := { name := "fnFinishCaller", fn := fun _ => fun
  | [d] => { results := [.lit (.bool true)], args := [d] }
  | _ => none }
def fnFinishCallerRow : OpenClaim := { program := "ytkjkokljgbpbbaa", sum := "2a5822024d550dea6dea97396f56d2f43fb9b442b768ba0b5342b6cf12b31a12", func := "loop.example/rangechains/laws.FnFinishCaller", spec := "fnFinishCaller", recurses := true, apart := false }
def FnFinishCallerSaid : Prop := fnFinishCallerRow.holds Try.pinned (OpenSpec.ofChange fnFinishCallerSpec)

/-- ITS FALSE NEIGHBOUR: 'it returns false'. Refute it at one input. -/
def fnFinishCallerWrong : ChangeSpec := { name := "fnFinishCaller", fn := fun _ => fun
  | [d] => { results := [.lit (.bool false)], args := [d] }
  | _ => none }
def FnFinishCallerWrongFalsely : Prop := fnFinishCallerRow.holds Try.pinned (OpenSpec.ofChange fnFinishCallerWrong)

/-- 'laws.FnSplitRoute': WHATEVER THE INPUT: true; the input reads as it did. -/
def fnSplitRouteSpec : ChangeSpec := { name := "fnSplitRoute", fn := fun _ => fun
  | [d] => { results := [.lit (.bool true)], args := [d] }
  | _ => none }
def fnSplitRouteRow : OpenClaim := { program := "ytkjkokljgbpbbaa", sum := "2a5822024d550dea6dea97396f56d2f43fb9b442b768ba0b5342b6cf12b31a12", func := "loop.example/rangechains/laws.FnSplitRoute", spec := "fnSplitRoute", inPlace := ["internal/bytealg.abigen_runtime_cmpstring"], recurses := true, apart := false }
def FnSplitRouteSaid : Prop := fnSplitRouteRow.holds Try.pinned (OpenSpec.ofChange fnSplitRouteSpec)

/-- ITS FALSE NEIGHBOUR: 'it returns false'. Refute it at one input. -/
def fnSplitRouteWrong : ChangeSpec := { name := "fnSplitRoute", fn := fun _ => fun
  | [d] => { results := [.lit (.bool false)], args := [d] }
  | _ => none }
def FnSplitRouteWrongFalsely : Prop := fnSplitRouteRow.holds Try.pinned (OpenSpec.ofChange fnSplitRouteWrong)

/- THE SECOND FORM. 'bulk': how many values and letters a reading holds, each counted each time it is reached (what is shared counts as often as it is met; a slice's spare places count too). A statement '..UptoSaid' is the law's where the arguments, and the package variables that the reading takes, are together of bulk at most 1048576: NARROWER than '..Said'. Prove '..Said' where nothing that the law and all that it calls make is longer than what came in: it says more and counts as full. Else prove '..UptoSaid'. A law counts once. -/
mutual
def uptoBulk {H : Type} : DataW H → Nat
  | .lit (.string bytes) => bytes.length + 1
  | .lit _ => 1
  | .nil => 1
  | .ptr d => uptoBulk d + 1
  | .slice elems spare => uptoBulkAll elems + uptoBulkAll spare + 1
  | .agg parts => uptoBulkAll parts + 1
  | .iface _ d => uptoBulk d + 1
  | .map entries => uptoBulkEntries entries + 1
  | .held _ => 1
def uptoBulkAll {H : Type} : List (DataW H) → Nat
  | [] => 0
  | d :: r => uptoBulk d + uptoBulkAll r
def uptoBulkEntries {H : Type} : List (Lit × DataW H) → Nat
  | [] => 0
  | x :: r => uptoBulkEntry x + uptoBulkEntries r
def uptoBulkEntry {H : Type} : Lit × DataW H → Nat
  | (.string bytes, d) => bytes.length + uptoBulk d + 1
  | (_, d) => uptoBulk d + 1
 end
def uptoSmall : (H : Type) → List (DataW H) → Bool := fun _ ds => decide (uptoBulkAll ds ≤ 1048576)
def OpenSpec.upto (s : _root_.Go.ChangeSpec) : _root_.Go.OpenSpec := { _root_.Go.OpenSpec.ofChange s with cond := some uptoSmall }

/-- 'laws.FnRouteOf', WHERE WHAT IT READS IS OF BULK AT MOST 1048576: true; the input reads as it did. -/
def fnRouteOfUptoRow : OpenClaim := { program := "ytkjkokljgbpbbaa", sum := "2a5822024d550dea6dea97396f56d2f43fb9b442b768ba0b5342b6cf12b31a12", func := "loop.example/rangechains/laws.FnRouteOf", spec := "fnRouteOf", recurses := true, apart := false, narrowed := true }
def FnRouteOfUptoSaid : Prop := fnRouteOfUptoRow.holds Try.pinned (OpenSpec.upto fnRouteOfSpec)

/-- 'laws.FnCallerValid', WHERE WHAT IT READS IS OF BULK AT MOST 1048576: true; the input reads as it did. -/
def fnCallerValidUptoRow : OpenClaim := { program := "ytkjkokljgbpbbaa", sum := "2a5822024d550dea6dea97396f56d2f43fb9b442b768ba0b5342b6cf12b31a12", func := "loop.example/rangechains/laws.FnCallerValid", spec := "fnCallerValid", recurses := true, apart := false, narrowed := true }
def FnCallerValidUptoSaid : Prop := fnCallerValidUptoRow.holds Try.pinned (OpenSpec.upto fnCallerValidSpec)

/-- 'laws.FnRequestOf', WHERE WHAT IT READS IS OF BULK AT MOST 1048576: true; the input reads as it did. -/
def fnRequestOfUptoRow : OpenClaim := { program := "ytkjkokljgbpbbaa", sum := "2a5822024d550dea6dea97396f56d2f43fb9b442b768ba0b5342b6cf12b31a12", func := "loop.example/rangechains/laws.FnRequestOf", spec := "fnRequestOf", recurses := true, apart := false, narrowed := true }
def FnRequestOfUptoSaid : Prop := fnRequestOfUptoRow.holds Try.pinned (OpenSpec.upto fnRequestOfSpec)

/-- 'laws.FnMergeRoutes', WHERE WHAT IT READS IS OF BULK AT MOST 1048576: true; the input reads as it did. -/
def fnMergeRoutesUptoRow : OpenClaim := { program := "ytkjkokljgbpbbaa", sum := "2a5822024d550dea6dea97396f56d2f43fb9b442b768ba0b5342b6cf12b31a12", func := "loop.example/rangechains/laws.FnMergeRoutes", spec := "fnMergeRoutes", recurses := true, apart := false, narrowed := true }
def FnMergeRoutesUptoSaid : Prop := fnMergeRoutesUptoRow.holds Try.pinned (OpenSpec.upto fnMergeRoutesSpec)

/-- 'laws.FnExactGiveUp', WHERE WHAT IT READS IS OF BULK AT MOST 1048576: true; the input reads as it did. -/
def fnExactGiveUpUptoRow : OpenClaim := { program := "ytkjkokljgbpbbaa", sum := "2a5822024d550dea6dea97396f56d2f43fb9b442b768ba0b5342b6cf12b31a12", func := "loop.example/rangechains/laws.FnExactGiveUp", spec := "fnExactGiveUp", recurses := true, apart := false, narrowed := true }
def FnExactGiveUpUptoSaid : Prop := fnExactGiveUpUptoRow.holds Try.pinned (OpenSpec.upto fnExactGiveUpSpec)

/-- 'laws.FnGiveUp', WHERE WHAT IT READS IS OF BULK AT MOST 1048576: true; the input reads as it did. -/
def fnGiveUpUptoRow : OpenClaim := { program := "ytkjkokljgbpbbaa", sum := "2a5822024d550dea6dea97396f56d2f43fb9b442b768ba0b5342b6cf12b31a12", func := "loop.example/rangechains/laws.FnGiveUp", spec := "fnGiveUp", recurses := true, apart := false, narrowed := true }
def FnGiveUpUptoSaid : Prop := fnGiveUpUptoRow.holds Try.pinned (OpenSpec.upto fnGiveUpSpec)

/-- 'laws.FnExactAskCaller', WHERE WHAT IT READS IS OF BULK AT MOST 1048576: true; the input reads as it did. -/
def fnExactAskCallerUptoRow : OpenClaim := { program := "ytkjkokljgbpbbaa", sum := "2a5822024d550dea6dea97396f56d2f43fb9b442b768ba0b5342b6cf12b31a12", func := "loop.example/rangechains/laws.FnExactAskCaller", spec := "fnExactAskCaller", recurses := true, apart := false, narrowed := true }
def FnExactAskCallerUptoSaid : Prop := fnExactAskCallerUptoRow.holds Try.pinned (OpenSpec.upto fnExactAskCallerSpec)

/-- 'laws.FnExactCacheLearn', WHERE WHAT IT READS IS OF BULK AT MOST 1048576: true; the input reads as it did. -/
def fnExactCacheLearnUptoRow : OpenClaim := { program := "ytkjkokljgbpbbaa", sum := "2a5822024d550dea6dea97396f56d2f43fb9b442b768ba0b5342b6cf12b31a12", func := "loop.example/rangechains/laws.FnExactCacheLearn", spec := "fnExactCacheLearn", inPlace := ["slices.overlaps[loop.example/rangechains/impl.Route]"], recurses := true, apart := false, narrowed := true }
def FnExactCacheLearnUptoSaid : Prop := fnExactCacheLearnUptoRow.holds Try.pinned (OpenSpec.upto fnExactCacheLearnSpec)

/-- 'laws.FnExactFinishCaller', WHERE WHAT IT READS IS OF BULK AT MOST 1048576: true; the input reads as it did. -/
def fnExactFinishCallerUptoRow : OpenClaim := { program := "ytkjkokljgbpbbaa", sum := "2a5822024d550dea6dea97396f56d2f43fb9b442b768ba0b5342b6cf12b31a12", func := "loop.example/rangechains/laws.FnExactFinishCaller", spec := "fnExactFinishCaller", recurses := true, apart := false, narrowed := true }
def FnExactFinishCallerUptoSaid : Prop := fnExactFinishCallerUptoRow.holds Try.pinned (OpenSpec.upto fnExactFinishCallerSpec)

/-- 'laws.FnAskCaller', WHERE WHAT IT READS IS OF BULK AT MOST 1048576: true; the input reads as it did. -/
def fnAskCallerUptoRow : OpenClaim := { program := "ytkjkokljgbpbbaa", sum := "2a5822024d550dea6dea97396f56d2f43fb9b442b768ba0b5342b6cf12b31a12", func := "loop.example/rangechains/laws.FnAskCaller", spec := "fnAskCaller", recurses := true, apart := false, narrowed := true }
def FnAskCallerUptoSaid : Prop := fnAskCallerUptoRow.holds Try.pinned (OpenSpec.upto fnAskCallerSpec)

/-- 'laws.FnFinishCaller', WHERE WHAT IT READS IS OF BULK AT MOST 1048576: true; the input reads as it did. -/
def fnFinishCallerUptoRow : OpenClaim := { program := "ytkjkokljgbpbbaa", sum := "2a5822024d550dea6dea97396f56d2f43fb9b442b768ba0b5342b6cf12b31a12", func := "loop.example/rangechains/laws.FnFinishCaller", spec := "fnFinishCaller", recurses := true, apart := false, narrowed := true }
def FnFinishCallerUptoSaid : Prop := fnFinishCallerUptoRow.holds Try.pinned (OpenSpec.upto fnFinishCallerSpec)

/-- 'laws.FnSplitRoute', WHERE WHAT IT READS IS OF BULK AT MOST 1048576: true; the input reads as it did. -/
def fnSplitRouteUptoRow : OpenClaim := { program := "ytkjkokljgbpbbaa", sum := "2a5822024d550dea6dea97396f56d2f43fb9b442b768ba0b5342b6cf12b31a12", func := "loop.example/rangechains/laws.FnSplitRoute", spec := "fnSplitRoute", inPlace := ["internal/bytealg.abigen_runtime_cmpstring"], recurses := true, apart := false, narrowed := true }
def FnSplitRouteUptoSaid : Prop := fnSplitRouteUptoRow.holds Try.pinned (OpenSpec.upto fnSplitRouteSpec)

end Rows
end Go.Proofs.Ytkjkokljgbpbbaa
