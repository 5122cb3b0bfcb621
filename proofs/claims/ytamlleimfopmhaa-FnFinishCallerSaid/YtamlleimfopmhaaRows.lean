/-
  No cell of these rows narrows 'for every input' (looked for: loops, veiled, ifaces, maps, wideKeys, modest, calm, conditions, laid).
  DERIVED. THE GIVEN ROWS OF THIS SEAT. 8 by the template 'for every input the law returns true; each argument reads behind the call as it read before'; 0 by the template 'total and deterministic' (their statements: YtamlleimfopmhaaTotals.lean).
  GIVEN WITH THE SEED: the statements are not yours to turn. If you find one false, say at which input.
  Laid BY PROGRAM, IN A SANDBOX (cutbox-rows.mjs): the forced cells as the released guide's own fill.sh prints them over the translation cbb52c2e182094bc… (all of the seat's roots in one cut). By AI agents, Wed Nov 11 2026. No macro, syntax, notation, axiom, sorry.
-/
import Derived.Test.YtamlleimfopmhaaChecked
import GoSem.Claim
import GoSem.ClaimJoined
import GoSem.ClaimMapViews
import Derived.JoinedTies
import Derived.KernelRfl
namespace Go.Proofs.Ytamlleimfopmhaa
/- THE CELL 'sum', in the pinned program and in every row, IS THE sha256 OF THE DUMP (.gsa) THAT YtamlleimfopmhaaProg.lean LOADS. Nothing in Lean hashes anything: it is a label: what it is worth is what the hold of that sum in a sandbox is worth. -/
noncomputable def Try.pinned : Pinned := { name := "ytamlleimfopmhaa", sum := "cbb52c2e182094bcf477976c18efcad44334e8737facd8ea2ab3dc1933679d0c", checked := Try.checked }
namespace Rows
def none {H : Type} : Left H := { results := [], args := [] }

/-- 'laws.FnPrefixOf': WHATEVER THE INPUT: true; the input reads as it did. -/
def fnPrefixOfSpec : ChangeSpec := { name := "fnPrefixOf", fn := fun _ => fun
  | [d] => { results := [.lit (.bool true)], args := [d] }
  | _ => none }
def fnPrefixOfRow : OpenClaim := { program := "ytamlleimfopmhaa", sum := "cbb52c2e182094bcf477976c18efcad44334e8737facd8ea2ab3dc1933679d0c", func := "loop.example/rangechains/laws.FnPrefixOf", spec := "fnPrefixOf", recurses := true, apart := false }
def FnPrefixOfSaid : Prop := fnPrefixOfRow.holds Try.pinned (OpenSpec.ofChange fnPrefixOfSpec)

/-- ITS FALSE NEIGHBOUR: 'it returns false'. Refute it at one input. -/
def fnPrefixOfWrong : ChangeSpec := { name := "fnPrefixOf", fn := fun _ => fun
  | [d] => { results := [.lit (.bool false)], args := [d] }
  | _ => none }
def FnPrefixOfWrongFalsely : Prop := fnPrefixOfRow.holds Try.pinned (OpenSpec.ofChange fnPrefixOfWrong)

/-- 'laws.FnAskCaller': WHATEVER THE INPUT: true; the input reads as it did. -/
def fnAskCallerSpec : ChangeSpec := { name := "fnAskCaller", fn := fun _ => fun
  | [d] => { results := [.lit (.bool true)], args := [d] }
  | _ => none }
def fnAskCallerRow : OpenClaim := { program := "ytamlleimfopmhaa", sum := "cbb52c2e182094bcf477976c18efcad44334e8737facd8ea2ab3dc1933679d0c", func := "loop.example/rangechains/laws.FnAskCaller", spec := "fnAskCaller", recurses := true, apart := false }
def FnAskCallerSaid : Prop := fnAskCallerRow.holds Try.pinned (OpenSpec.ofChange fnAskCallerSpec)

/-- ITS FALSE NEIGHBOUR: 'it returns false'. Refute it at one input. -/
def fnAskCallerWrong : ChangeSpec := { name := "fnAskCaller", fn := fun _ => fun
  | [d] => { results := [.lit (.bool false)], args := [d] }
  | _ => none }
def FnAskCallerWrongFalsely : Prop := fnAskCallerRow.holds Try.pinned (OpenSpec.ofChange fnAskCallerWrong)

/-- 'laws.FnFinishCaller': WHATEVER THE INPUT: true; the input reads as it did. -/
def fnFinishCallerSpec : ChangeSpec := { name := "fnFinishCaller", fn := fun _ => fun
  | [d] => { results := [.lit (.bool true)], args := [d] }
  | _ => none }
def fnFinishCallerRow : OpenClaim := { program := "ytamlleimfopmhaa", sum := "cbb52c2e182094bcf477976c18efcad44334e8737facd8ea2ab3dc1933679d0c", func := "loop.example/rangechains/laws.FnFinishCaller", spec := "fnFinishCaller", recurses := true, apart := false }
def FnFinishCallerSaid : Prop := fnFinishCallerRow.holds Try.pinned (OpenSpec.ofChange fnFinishCallerSpec)

/-- ITS FALSE NEIGHBOUR: 'it returns false'. Refute it at one input. -/
def fnFinishCallerWrong : ChangeSpec := { name := "fnFinishCaller", fn := fun _ => fun
  | [d] => { results := [.lit (.bool false)], args := [d] }
  | _ => none }
def FnFinishCallerWrongFalsely : Prop := fnFinishCallerRow.holds Try.pinned (OpenSpec.ofChange fnFinishCallerWrong)

/-- 'laws.FnSplitRoute': WHATEVER THE INPUT: true; the input reads as it did. -/
def fnSplitRouteSpec : ChangeSpec := { name := "fnSplitRoute", fn := fun _ => fun
  | [d] => { results := [.lit (.bool true)], args := [d] }
  | _ => none }
def fnSplitRouteRow : OpenClaim := { program := "ytamlleimfopmhaa", sum := "cbb52c2e182094bcf477976c18efcad44334e8737facd8ea2ab3dc1933679d0c", func := "loop.example/rangechains/laws.FnSplitRoute", spec := "fnSplitRoute", inPlace := ["internal/bytealg.abigen_runtime_cmpstring"], recurses := true, apart := false }
def FnSplitRouteSaid : Prop := fnSplitRouteRow.holds Try.pinned (OpenSpec.ofChange fnSplitRouteSpec)

/-- ITS FALSE NEIGHBOUR: 'it returns false'. Refute it at one input. -/
def fnSplitRouteWrong : ChangeSpec := { name := "fnSplitRoute", fn := fun _ => fun
  | [d] => { results := [.lit (.bool false)], args := [d] }
  | _ => none }
def FnSplitRouteWrongFalsely : Prop := fnSplitRouteRow.holds Try.pinned (OpenSpec.ofChange fnSplitRouteWrong)

/-- 'laws.FnCacheLearn': WHATEVER THE INPUT: true; the input reads as it did. -/
def fnCacheLearnSpec : ChangeSpec := { name := "fnCacheLearn", fn := fun _ => fun
  | [d] => { results := [.lit (.bool true)], args := [d] }
  | _ => none }
def fnCacheLearnRow : OpenClaim := { program := "ytamlleimfopmhaa", sum := "cbb52c2e182094bcf477976c18efcad44334e8737facd8ea2ab3dc1933679d0c", func := "loop.example/rangechains/laws.FnCacheLearn", spec := "fnCacheLearn", inPlace := ["slices.overlaps[loop.example/rangechains/impl.Route]"], recurses := true, apart := false }
def FnCacheLearnSaid : Prop := fnCacheLearnRow.holds Try.pinned (OpenSpec.ofChange fnCacheLearnSpec)

/-- ITS FALSE NEIGHBOUR: 'it returns false'. Refute it at one input. -/
def fnCacheLearnWrong : ChangeSpec := { name := "fnCacheLearn", fn := fun _ => fun
  | [d] => { results := [.lit (.bool false)], args := [d] }
  | _ => none }
def FnCacheLearnWrongFalsely : Prop := fnCacheLearnRow.holds Try.pinned (OpenSpec.ofChange fnCacheLearnWrong)

/-- 'laws.FnExactAskCaller': WHATEVER THE INPUT: true; the input reads as it did. -/
def fnExactAskCallerSpec : ChangeSpec := { name := "fnExactAskCaller", fn := fun _ => fun
  | [d1, d2, d3] => { results := [.lit (.bool true)], args := [d1, d2, d3] }
  | _ => none }
def fnExactAskCallerRow : OpenClaim := { program := "ytamlleimfopmhaa", sum := "cbb52c2e182094bcf477976c18efcad44334e8737facd8ea2ab3dc1933679d0c", func := "loop.example/rangechains/laws.FnExactAskCaller", spec := "fnExactAskCaller", recurses := true, apart := false }
def FnExactAskCallerSaid : Prop := fnExactAskCallerRow.holds Try.pinned (OpenSpec.ofChange fnExactAskCallerSpec)

/-- ITS FALSE NEIGHBOUR: 'it returns false'. Refute it at one input. -/
def fnExactAskCallerWrong : ChangeSpec := { name := "fnExactAskCaller", fn := fun _ => fun
  | [d1, d2, d3] => { results := [.lit (.bool false)], args := [d1, d2, d3] }
  | _ => none }
def FnExactAskCallerWrongFalsely : Prop := fnExactAskCallerRow.holds Try.pinned (OpenSpec.ofChange fnExactAskCallerWrong)

/-- 'laws.FnExactCacheLearn': WHATEVER THE INPUT: true; the input reads as it did. -/
def fnExactCacheLearnSpec : ChangeSpec := { name := "fnExactCacheLearn", fn := fun _ => fun
  | [d1, d2] => { results := [.lit (.bool true)], args := [d1, d2] }
  | _ => none }
def fnExactCacheLearnRow : OpenClaim := { program := "ytamlleimfopmhaa", sum := "cbb52c2e182094bcf477976c18efcad44334e8737facd8ea2ab3dc1933679d0c", func := "loop.example/rangechains/laws.FnExactCacheLearn", spec := "fnExactCacheLearn", inPlace := ["slices.overlaps[loop.example/rangechains/impl.Route]"], recurses := true, apart := false }
def FnExactCacheLearnSaid : Prop := fnExactCacheLearnRow.holds Try.pinned (OpenSpec.ofChange fnExactCacheLearnSpec)

/-- ITS FALSE NEIGHBOUR: 'it returns false'. Refute it at one input. -/
def fnExactCacheLearnWrong : ChangeSpec := { name := "fnExactCacheLearn", fn := fun _ => fun
  | [d1, d2] => { results := [.lit (.bool false)], args := [d1, d2] }
  | _ => none }
def FnExactCacheLearnWrongFalsely : Prop := fnExactCacheLearnRow.holds Try.pinned (OpenSpec.ofChange fnExactCacheLearnWrong)

/-- 'laws.FnExactFinishCaller': WHATEVER THE INPUT: true; the input reads as it did. -/
def fnExactFinishCallerSpec : ChangeSpec := { name := "fnExactFinishCaller", fn := fun _ => fun
  | [d1, d2, d3, d4] => { results := [.lit (.bool true)], args := [d1, d2, d3, d4] }
  | _ => none }
def fnExactFinishCallerRow : OpenClaim := { program := "ytamlleimfopmhaa", sum := "cbb52c2e182094bcf477976c18efcad44334e8737facd8ea2ab3dc1933679d0c", func := "loop.example/rangechains/laws.FnExactFinishCaller", spec := "fnExactFinishCaller", recurses := true, apart := false }
def FnExactFinishCallerSaid : Prop := fnExactFinishCallerRow.holds Try.pinned (OpenSpec.ofChange fnExactFinishCallerSpec)

/-- ITS FALSE NEIGHBOUR: 'it returns false'. Refute it at one input. -/
def fnExactFinishCallerWrong : ChangeSpec := { name := "fnExactFinishCaller", fn := fun _ => fun
  | [d1, d2, d3, d4] => { results := [.lit (.bool false)], args := [d1, d2, d3, d4] }
  | _ => none }
def FnExactFinishCallerWrongFalsely : Prop := fnExactFinishCallerRow.holds Try.pinned (OpenSpec.ofChange fnExactFinishCallerWrong)

/- THE SECOND FORM. 'bulk': how many values and letters a reading holds, each counted each time it is reached (what is shared counts as often as it is met; a slice's spare places count too). A statement '..UptoSaid' is the law's where the arguments, and the package variables that the reading takes, are together of bulk at most 1048576: NARROWER than '..Said'. Prove '..Said' where nothing that the law and all that it calls make is longer than what came in: it says more and counts as full. Else prove '..UptoSaid'. A law counts once. -/
mutual
def uptoBulk {H : Type} : DataW H → Nat
  | .lit (.string bytes) => bytes.length + 1
  | .lit _ => 1
  | .nil => 1
  | .ptr d => uptoBulk d + 1
  | .slice elems spare => uptoBulkAll elems + uptoBulkAll spare + 1
  | .agg parts => uptoBulkAll parts + 1
  | .iface _ d => uptoBulk d + 1
  | .map entries => uptoBulkEntries entries + 1
  | .held _ => 1
def uptoBulkAll {H : Type} : List (DataW H) → Nat
  | [] => 0
  | d :: r => uptoBulk d + uptoBulkAll r
def uptoBulkEntries {H : Type} : List (Lit × DataW H) → Nat
  | [] => 0
  | x :: r => uptoBulkEntry x + uptoBulkEntries r
def uptoBulkEntry {H : Type} : Lit × DataW H → Nat
  | (.string bytes, d) => bytes.length + uptoBulk d + 1
  | (_, d) => uptoBulk d + 1
 end
def uptoSmall : (H : Type) → List (DataW H) → Bool := fun _ ds => decide (uptoBulkAll ds ≤ 1048576)
def OpenSpec.upto (s : _root_.Go.ChangeSpec) : _root_.Go.OpenSpec := { _root_.Go.OpenSpec.ofChange s with cond := some uptoSmall }

/-- 'laws.FnPrefixOf', WHERE WHAT IT READS IS OF BULK AT MOST 1048576: true; the input reads as it did. -/
def fnPrefixOfUptoRow : OpenClaim := { program := "ytamlleimfopmhaa", sum := "cbb52c2e182094bcf477976c18efcad44334e8737facd8ea2ab3dc1933679d0c", func := "loop.example/rangechains/laws.FnPrefixOf", spec := "fnPrefixOf", recurses := true, apart := false, narrowed := true }
def FnPrefixOfUptoSaid : Prop := fnPrefixOfUptoRow.holds Try.pinned (OpenSpec.upto fnPrefixOfSpec)

/-- 'laws.FnAskCaller', WHERE WHAT IT READS IS OF BULK AT MOST 1048576: true; the input reads as it did. -/
def fnAskCallerUptoRow : OpenClaim := { program := "ytamlleimfopmhaa", sum := "cbb52c2e182094bcf477976c18efcad44334e8737facd8ea2ab3dc1933679d0c", func := "loop.example/rangechains/laws.FnAskCaller", spec := "fnAskCaller", recurses := true, apart := false, narrowed := true }
def FnAskCallerUptoSaid : Prop := fnAskCallerUptoRow.holds Try.pinned (OpenSpec.upto fnAskCallerSpec)

/-- 'laws.FnFinishCaller', WHERE WHAT IT READS IS OF BULK AT MOST 1048576: true; the input reads as it did. -/
def fnFinishCallerUptoRow : OpenClaim := { program := "ytamlleimfopmhaa", sum := "cbb52c2e182094bcf477976c18efcad44334e8737facd8ea2ab3dc1933679d0c", func := "loop.example/rangechains/laws.FnFinishCaller", spec := "fnFinishCaller", recurses := true, apart := false, narrowed := true }
def FnFinishCallerUptoSaid : Prop := fnFinishCallerUptoRow.holds Try.pinned (OpenSpec.upto fnFinishCallerSpec)

/-- 'laws.FnSplitRoute', WHERE WHAT IT READS IS OF BULK AT MOST 1048576: true; the input reads as it did. -/
def fnSplitRouteUptoRow : OpenClaim := { program := "ytamlleimfopmhaa", sum := "cbb52c2e182094bcf477976c18efcad44334e8737facd8ea2ab3dc1933679d0c", func := "loop.example/rangechains/laws.FnSplitRoute", spec := "fnSplitRoute", inPlace := ["internal/bytealg.abigen_runtime_cmpstring"], recurses := true, apart := false, narrowed := true }
def FnSplitRouteUptoSaid : Prop := fnSplitRouteUptoRow.holds Try.pinned (OpenSpec.upto fnSplitRouteSpec)

/-- 'laws.FnCacheLearn', WHERE WHAT IT READS IS OF BULK AT MOST 1048576: true; the input reads as it did. -/
def fnCacheLearnUptoRow : OpenClaim := { program := "ytamlleimfopmhaa", sum := "cbb52c2e182094bcf477976c18efcad44334e8737facd8ea2ab3dc1933679d0c", func := "loop.example/rangechains/laws.FnCacheLearn", spec := "fnCacheLearn", inPlace := ["slices.overlaps[loop.example/rangechains/impl.Route]"], recurses := true, apart := false, narrowed := true }
def FnCacheLearnUptoSaid : Prop := fnCacheLearnUptoRow.holds Try.pinned (OpenSpec.upto fnCacheLearnSpec)

/-- 'laws.FnExactAskCaller', WHERE WHAT IT READS IS OF BULK AT MOST 1048576: true; the input reads as it did. -/
def fnExactAskCallerUptoRow : OpenClaim := { program := "ytamlleimfopmhaa", sum := "cbb52c2e182094bcf477976c18efcad44334e8737facd8ea2ab3dc1933679d0c", func := "loop.example/rangechains/laws.FnExactAskCaller", spec := "fnExactAskCaller", recurses := true, apart := false, narrowed := true }
def FnExactAskCallerUptoSaid : Prop := fnExactAskCallerUptoRow.holds Try.pinned (OpenSpec.upto fnExactAskCallerSpec)

/-- 'laws.FnExactCacheLearn', WHERE WHAT IT READS IS OF BULK AT MOST 1048576: true; the input reads as it did. -/
def fnExactCacheLearnUptoRow : OpenClaim := { program := "ytamlleimfopmhaa", sum := "cbb52c2e182094bcf477976c18efcad44334e8737facd8ea2ab3dc1933679d0c", func := "loop.example/rangechains/laws.FnExactCacheLearn", spec := "fnExactCacheLearn", inPlace := ["slices.overlaps[loop.example/rangechains/impl.Route]"], recurses := true, apart := false, narrowed := true }
def FnExactCacheLearnUptoSaid : Prop := fnExactCacheLearnUptoRow.holds Try.pinned (OpenSpec.upto fnExactCacheLearnSpec)

/-- 'laws.FnExactFinishCaller', WHERE WHAT IT READS IS OF BULK AT MOST 1048576: true; the input reads as it did. -/
def fnExactFinishCallerUptoRow : OpenClaim := { program := "ytamlleimfopmhaa", sum := "cbb52c2e182094bcf477976c18efcad44334e8737facd8ea2ab3dc1933679d0c", func := "loop.example/rangechains/laws.FnExactFinishCaller", spec := "fnExactFinishCaller", recurses := true, apart := false, narrowed := true }
def FnExactFinishCallerUptoSaid : Prop := fnExactFinishCallerUptoRow.holds Try.pinned (OpenSpec.upto fnExactFinishCallerSpec)

end Rows
end Go.Proofs.Ytamlleimfopmhaa
