/-
  No cell of these rows narrows 'for every input' (looked for: loops, veiled, ifaces, maps, wideKeys, modest, calm, conditions, laid).
  DERIVED. THE GIVEN ROWS OF THIS SEAT. 12 by the template 'for every input the law returns true; each argument reads behind the call as it read before'; 0 by the template 'total and deterministic' (their statements: YtoajkkfnblpnlaaTotals.lean).
  GIVEN WITH THE SEED: the statements are not yours to turn. If you find one false, say at which input.
  Laid BY PROGRAM, IN A SANDBOX (cutbox-rows.mjs): the forced cells as the released guide's own fill.sh prints them over the translation 6fbf23d0b1294d0b… (all of the seat's roots in one cut). By AI agents, Wed Nov 11 2026. No macro, syntax, notation, axiom, sorry.
-/
import Derived.Test.YtoajkkfnblpnlaaChecked
import GoSem.Claim
import GoSem.ClaimJoined
import GoSem.ClaimMapViews
import Derived.JoinedTies
import Derived.KernelRfl
namespace Go.Proofs.Ytoajkkfnblpnlaa
/- THE CELL 'sum', in the pinned program and in every row, IS THE sha256 OF THE DUMP (.gsa) THAT YtoajkkfnblpnlaaProg.lean LOADS. Nothing in Lean hashes anything: it is a label: what it is worth is what the hold of that sum in a sandbox is worth. -/
noncomputable def Try.pinned : Pinned := { name := "ytoajkkfnblpnlaa", sum := "6fbf23d0b1294d0b5917147c9f0183074c0c7f435834213f55b7e250efc3bfe9", checked := Try.checked }
namespace Rows
def none {H : Type} : Left H := { results := [], args := [] }

/-- 'laws.FnExactPlanValid': WHATEVER THE INPUT: true; the input reads as it did. -/
def fnExactPlanValidSpec : ChangeSpec := { name := "fnExactPlanValid", fn := fun _ => fun
  | [d] => { results := [.lit (.bool true)], args := [d] }
  | _ => none }
def fnExactPlanValidRow : OpenClaim := { program := "ytoajkkfnblpnlaa", sum := "6fbf23d0b1294d0b5917147c9f0183074c0c7f435834213f55b7e250efc3bfe9", func := "loop.example/rangechains/laws.FnExactPlanValid", spec := "fnExactPlanValid", recurses := true, apart := false }
def FnExactPlanValidSaid : Prop := fnExactPlanValidRow.holds Try.pinned (OpenSpec.ofChange fnExactPlanValidSpec)

/-- ITS FALSE NEIGHBOUR: 'it returns false'. Refute it at one input. -/
def fnExactPlanValidWrong : ChangeSpec := { name := "fnExactPlanValid", fn := fun _ => fun
  | [d] => { results := [.lit (.bool false)], args := [d] }
  | _ => none }
def FnExactPlanValidWrongFalsely : Prop := fnExactPlanValidRow.holds Try.pinned (OpenSpec.ofChange fnExactPlanValidWrong)

/-- 'laws.FnExactPrefixOf': WHATEVER THE INPUT: true; the input reads as it did. -/
def fnExactPrefixOfSpec : ChangeSpec := { name := "fnExactPrefixOf", fn := fun _ => fun
  | [d1, d2] => { results := [.lit (.bool true)], args := [d1, d2] }
  | _ => none }
def fnExactPrefixOfRow : OpenClaim := { program := "ytoajkkfnblpnlaa", sum := "6fbf23d0b1294d0b5917147c9f0183074c0c7f435834213f55b7e250efc3bfe9", func := "loop.example/rangechains/laws.FnExactPrefixOf", spec := "fnExactPrefixOf", apart := false }
def FnExactPrefixOfSaid : Prop := fnExactPrefixOfRow.holds Try.pinned (OpenSpec.ofChange fnExactPrefixOfSpec)

/-- ITS FALSE NEIGHBOUR: 'it returns false'. Refute it at one input. -/
def fnExactPrefixOfWrong : ChangeSpec := { name := "fnExactPrefixOf", fn := fun _ => fun
  | [d1, d2] => { results := [.lit (.bool false)], args := [d1, d2] }
  | _ => none }
def FnExactPrefixOfWrongFalsely : Prop := fnExactPrefixOfRow.holds Try.pinned (OpenSpec.ofChange fnExactPrefixOfWrong)

/-- 'laws.FnExactResultValid': WHATEVER THE INPUT: true; the input reads as it did. -/
def fnExactResultValidSpec : ChangeSpec := { name := "fnExactResultValid", fn := fun _ => fun
  | [d] => { results := [.lit (.bool true)], args := [d] }
  | _ => none }
def fnExactResultValidRow : OpenClaim := { program := "ytoajkkfnblpnlaa", sum := "6fbf23d0b1294d0b5917147c9f0183074c0c7f435834213f55b7e250efc3bfe9", func := "loop.example/rangechains/laws.FnExactResultValid", spec := "fnExactResultValid", recurses := true, apart := false }
def FnExactResultValidSaid : Prop := fnExactResultValidRow.holds Try.pinned (OpenSpec.ofChange fnExactResultValidSpec)

/-- ITS FALSE NEIGHBOUR: 'it returns false'. Refute it at one input. -/
def fnExactResultValidWrong : ChangeSpec := { name := "fnExactResultValid", fn := fun _ => fun
  | [d] => { results := [.lit (.bool false)], args := [d] }
  | _ => none }
def FnExactResultValidWrongFalsely : Prop := fnExactResultValidRow.holds Try.pinned (OpenSpec.ofChange fnExactResultValidWrong)

/-- 'laws.FnExactPlanSeal': WHATEVER THE INPUT: true; the input reads as it did. -/
def fnExactPlanSealSpec : ChangeSpec := { name := "fnExactPlanSeal", fn := fun _ => fun
  | [d1, d2] => { results := [.lit (.bool true)], args := [d1, d2] }
  | _ => none }
def fnExactPlanSealRow : OpenClaim := { program := "ytoajkkfnblpnlaa", sum := "6fbf23d0b1294d0b5917147c9f0183074c0c7f435834213f55b7e250efc3bfe9", func := "loop.example/rangechains/laws.FnExactPlanSeal", spec := "fnExactPlanSeal", recurses := true, apart := false }
def FnExactPlanSealSaid : Prop := fnExactPlanSealRow.holds Try.pinned (OpenSpec.ofChange fnExactPlanSealSpec)

/-- ITS FALSE NEIGHBOUR: 'it returns false'. Refute it at one input. -/
def fnExactPlanSealWrong : ChangeSpec := { name := "fnExactPlanSeal", fn := fun _ => fun
  | [d1, d2] => { results := [.lit (.bool false)], args := [d1, d2] }
  | _ => none }
def FnExactPlanSealWrongFalsely : Prop := fnExactPlanSealRow.holds Try.pinned (OpenSpec.ofChange fnExactPlanSealWrong)

/-- 'laws.FnPlanValid': WHATEVER THE INPUT: true; the input reads as it did. -/
def fnPlanValidSpec : ChangeSpec := { name := "fnPlanValid", fn := fun _ => fun
  | [d] => { results := [.lit (.bool true)], args := [d] }
  | _ => none }
def fnPlanValidRow : OpenClaim := { program := "ytoajkkfnblpnlaa", sum := "6fbf23d0b1294d0b5917147c9f0183074c0c7f435834213f55b7e250efc3bfe9", func := "loop.example/rangechains/laws.FnPlanValid", spec := "fnPlanValid", recurses := true, apart := false }
def FnPlanValidSaid : Prop := fnPlanValidRow.holds Try.pinned (OpenSpec.ofChange fnPlanValidSpec)

/-- ITS FALSE NEIGHBOUR: 'it returns false'. Refute it at one input. -/
def fnPlanValidWrong : ChangeSpec := { name := "fnPlanValid", fn := fun _ => fun
  | [d] => { results := [.lit (.bool false)], args := [d] }
  | _ => none }
def FnPlanValidWrongFalsely : Prop := fnPlanValidRow.holds Try.pinned (OpenSpec.ofChange fnPlanValidWrong)

/-- 'laws.FnExactCacheValid': WHATEVER THE INPUT: true; the input reads as it did. -/
def fnExactCacheValidSpec : ChangeSpec := { name := "fnExactCacheValid", fn := fun _ => fun
  | [d] => { results := [.lit (.bool true)], args := [d] }
  | _ => none }
def fnExactCacheValidRow : OpenClaim := { program := "ytoajkkfnblpnlaa", sum := "6fbf23d0b1294d0b5917147c9f0183074c0c7f435834213f55b7e250efc3bfe9", func := "loop.example/rangechains/laws.FnExactCacheValid", spec := "fnExactCacheValid", recurses := true, apart := false }
def FnExactCacheValidSaid : Prop := fnExactCacheValidRow.holds Try.pinned (OpenSpec.ofChange fnExactCacheValidSpec)

/-- ITS FALSE NEIGHBOUR: 'it returns false'. Refute it at one input. -/
def fnExactCacheValidWrong : ChangeSpec := { name := "fnExactCacheValid", fn := fun _ => fun
  | [d] => { results := [.lit (.bool false)], args := [d] }
  | _ => none }
def FnExactCacheValidWrongFalsely : Prop := fnExactCacheValidRow.holds Try.pinned (OpenSpec.ofChange fnExactCacheValidWrong)

/-- 'laws.FnPrefixOf': WHATEVER THE INPUT: true; the input reads as it did. -/
def fnPrefixOfSpec : ChangeSpec := { name := "fnPrefixOf", fn := fun _ => fun
  | [d] => { results := [.lit (.bool true)], args := [d] }
  | _ => none }
def fnPrefixOfRow : OpenClaim := { program := "ytoajkkfnblpnlaa", sum := "6fbf23d0b1294d0b5917147c9f0183074c0c7f435834213f55b7e250efc3bfe9", func := "loop.example/rangechains/laws.FnPrefixOf", spec := "fnPrefixOf", recurses := true, apart := false }
def FnPrefixOfSaid : Prop := fnPrefixOfRow.holds Try.pinned (OpenSpec.ofChange fnPrefixOfSpec)

/-- ITS FALSE NEIGHBOUR: 'it returns false'. Refute it at one input. -/
def fnPrefixOfWrong : ChangeSpec := { name := "fnPrefixOf", fn := fun _ => fun
  | [d] => { results := [.lit (.bool false)], args := [d] }
  | _ => none }
def FnPrefixOfWrongFalsely : Prop := fnPrefixOfRow.holds Try.pinned (OpenSpec.ofChange fnPrefixOfWrong)

/-- 'laws.FnPlanSeal': WHATEVER THE INPUT: true; the input reads as it did. -/
def fnPlanSealSpec : ChangeSpec := { name := "fnPlanSeal", fn := fun _ => fun
  | [d] => { results := [.lit (.bool true)], args := [d] }
  | _ => none }
def fnPlanSealRow : OpenClaim := { program := "ytoajkkfnblpnlaa", sum := "6fbf23d0b1294d0b5917147c9f0183074c0c7f435834213f55b7e250efc3bfe9", func := "loop.example/rangechains/laws.FnPlanSeal", spec := "fnPlanSeal", recurses := true, apart := false }
def FnPlanSealSaid : Prop := fnPlanSealRow.holds Try.pinned (OpenSpec.ofChange fnPlanSealSpec)

/-- ITS FALSE NEIGHBOUR: 'it returns false'. Refute it at one input. -/
def fnPlanSealWrong : ChangeSpec := { name := "fnPlanSeal", fn := fun _ => fun
  | [d] => { results := [.lit (.bool false)], args := [d] }
  | _ => none }
def FnPlanSealWrongFalsely : Prop := fnPlanSealRow.holds Try.pinned (OpenSpec.ofChange fnPlanSealWrong)

/-- 'laws.FnResultValid': WHATEVER THE INPUT: true; the input reads as it did. -/
def fnResultValidSpec : ChangeSpec := { name := "fnResultValid", fn := fun _ => fun
  | [d] => { results := [.lit (.bool true)], args := [d] }
  | _ => none }
def fnResultValidRow : OpenClaim := { program := "ytoajkkfnblpnlaa", sum := "6fbf23d0b1294d0b5917147c9f0183074c0c7f435834213f55b7e250efc3bfe9", func := "loop.example/rangechains/laws.FnResultValid", spec := "fnResultValid", recurses := true, apart := false }
def FnResultValidSaid : Prop := fnResultValidRow.holds Try.pinned (OpenSpec.ofChange fnResultValidSpec)

/-- ITS FALSE NEIGHBOUR: 'it returns false'. Refute it at one input. -/
def fnResultValidWrong : ChangeSpec := { name := "fnResultValid", fn := fun _ => fun
  | [d] => { results := [.lit (.bool false)], args := [d] }
  | _ => none }
def FnResultValidWrongFalsely : Prop := fnResultValidRow.holds Try.pinned (OpenSpec.ofChange fnResultValidWrong)

/-- 'laws.FnExactCacheFind': WHATEVER THE INPUT: true; the input reads as it did. -/
def fnExactCacheFindSpec : ChangeSpec := { name := "fnExactCacheFind", fn := fun _ => fun
  | [d1, d2] => { results := [.lit (.bool true)], args := [d1, d2] }
  | _ => none }
def fnExactCacheFindRow : OpenClaim := { program := "ytoajkkfnblpnlaa", sum := "6fbf23d0b1294d0b5917147c9f0183074c0c7f435834213f55b7e250efc3bfe9", func := "loop.example/rangechains/laws.FnExactCacheFind", spec := "fnExactCacheFind", recurses := true, apart := false }
def FnExactCacheFindSaid : Prop := fnExactCacheFindRow.holds Try.pinned (OpenSpec.ofChange fnExactCacheFindSpec)

/-- ITS FALSE NEIGHBOUR: 'it returns false'. Refute it at one input. -/
def fnExactCacheFindWrong : ChangeSpec := { name := "fnExactCacheFind", fn := fun _ => fun
  | [d1, d2] => { results := [.lit (.bool false)], args := [d1, d2] }
  | _ => none }
def FnExactCacheFindWrongFalsely : Prop := fnExactCacheFindRow.holds Try.pinned (OpenSpec.ofChange fnExactCacheFindWrong)

/-- 'laws.FnExactRoutesValid': WHATEVER THE INPUT: true; the input reads as it did. -/
def fnExactRoutesValidSpec : ChangeSpec := { name := "fnExactRoutesValid", fn := fun _ => fun
  | [d] => { results := [.lit (.bool true)], args := [d] }
  | _ => none }
def fnExactRoutesValidRow : OpenClaim := { program := "ytoajkkfnblpnlaa", sum := "6fbf23d0b1294d0b5917147c9f0183074c0c7f435834213f55b7e250efc3bfe9", func := "loop.example/rangechains/laws.FnExactRoutesValid", spec := "fnExactRoutesValid", recurses := true, apart := false }
def FnExactRoutesValidSaid : Prop := fnExactRoutesValidRow.holds Try.pinned (OpenSpec.ofChange fnExactRoutesValidSpec)

/-- ITS FALSE NEIGHBOUR: 'it returns false'. Refute it at one input. -/
def fnExactRoutesValidWrong : ChangeSpec := { name := "fnExactRoutesValid", fn := fun _ => fun
  | [d] => { results := [.lit (.bool false)], args := [d] }
  | _ => none }
def FnExactRoutesValidWrongFalsely : Prop := fnExactRoutesValidRow.holds Try.pinned (OpenSpec.ofChange fnExactRoutesValidWrong)

/-- 'laws.FnCacheValid': WHATEVER THE INPUT: true; the input reads as it did. -/
def fnCacheValidSpec : ChangeSpec := { name := "fnCacheValid", fn := fun _ => fun
  | [d] => { results := [.lit (.bool true)], args := [d] }
  | _ => none }
def fnCacheValidRow : OpenClaim := { program := "ytoajkkfnblpnlaa", sum := "6fbf23d0b1294d0b5917147c9f0183074c0c7f435834213f55b7e250efc3bfe9", func := "loop.example/rangechains/laws.FnCacheValid", spec := "fnCacheValid", recurses := true, apart := false }
def FnCacheValidSaid : Prop := fnCacheValidRow.holds Try.pinned (OpenSpec.ofChange fnCacheValidSpec)

/-- ITS FALSE NEIGHBOUR: 'it returns false'. Refute it at one input. -/
def fnCacheValidWrong : ChangeSpec := { name := "fnCacheValid", fn := fun _ => fun
  | [d] => { results := [.lit (.bool false)], args := [d] }
  | _ => none }
def FnCacheValidWrongFalsely : Prop := fnCacheValidRow.holds Try.pinned (OpenSpec.ofChange fnCacheValidWrong)

/- THE SECOND FORM. 'bulk': how many values and letters a reading holds, each counted each time it is reached (what is shared counts as often as it is met; a slice's spare places count too). A statement '..UptoSaid' is the law's where the arguments, and the package variables that the reading takes, are together of bulk at most 1048576: NARROWER than '..Said'. Prove '..Said' where nothing that the law and all that it calls make is longer than what came in: it says more and counts as full. Else prove '..UptoSaid'. A law counts once. -/
mutual
def uptoBulk {H : Type} : DataW H → Nat
  | .lit (.string bytes) => bytes.length + 1
  | .lit _ => 1
  | .nil => 1
  | .ptr d => uptoBulk d + 1
  | .slice elems spare => uptoBulkAll elems + uptoBulkAll spare + 1
  | .agg parts => uptoBulkAll parts + 1
  | .iface _ d => uptoBulk d + 1
  | .map entries => uptoBulkEntries entries + 1
  | .held _ => 1
def uptoBulkAll {H : Type} : List (DataW H) → Nat
  | [] => 0
  | d :: r => uptoBulk d + uptoBulkAll r
def uptoBulkEntries {H : Type} : List (Lit × DataW H) → Nat
  | [] => 0
  | x :: r => uptoBulkEntry x + uptoBulkEntries r
def uptoBulkEntry {H : Type} : Lit × DataW H → Nat
  | (.string bytes, d) => bytes.length + uptoBulk d + 1
  | (_, d) => uptoBulk d + 1
 end
def uptoSmall : (H : Type) → List (DataW H) → Bool := fun _ ds => decide (uptoBulkAll ds ≤ 1048576)
def OpenSpec.upto (s : _root_.Go.ChangeSpec) : _root_.Go.OpenSpec := { _root_.Go.OpenSpec.ofChange s with cond := some uptoSmall }

/-- 'laws.FnExactPlanValid', WHERE WHAT IT READS IS OF BULK AT MOST 1048576: true; the input reads as it did. -/
def fnExactPlanValidUptoRow : OpenClaim := { program := "ytoajkkfnblpnlaa", sum := "6fbf23d0b1294d0b5917147c9f0183074c0c7f435834213f55b7e250efc3bfe9", func := "loop.example/rangechains/laws.FnExactPlanValid", spec := "fnExactPlanValid", recurses := true, apart := false, narrowed := true }
def FnExactPlanValidUptoSaid : Prop := fnExactPlanValidUptoRow.holds Try.pinned (OpenSpec.upto fnExactPlanValidSpec)

/-- 'laws.FnExactPrefixOf', WHERE WHAT IT READS IS OF BULK AT MOST 1048576: true; the input reads as it did. -/
def fnExactPrefixOfUptoRow : OpenClaim := { program := "ytoajkkfnblpnlaa", sum := "6fbf23d0b1294d0b5917147c9f0183074c0c7f435834213f55b7e250efc3bfe9", func := "loop.example/rangechains/laws.FnExactPrefixOf", spec := "fnExactPrefixOf", apart := false, narrowed := true }
def FnExactPrefixOfUptoSaid : Prop := fnExactPrefixOfUptoRow.holds Try.pinned (OpenSpec.upto fnExactPrefixOfSpec)

/-- 'laws.FnExactResultValid', WHERE WHAT IT READS IS OF BULK AT MOST 1048576: true; the input reads as it did. -/
def fnExactResultValidUptoRow : OpenClaim := { program := "ytoajkkfnblpnlaa", sum := "6fbf23d0b1294d0b5917147c9f0183074c0c7f435834213f55b7e250efc3bfe9", func := "loop.example/rangechains/laws.FnExactResultValid", spec := "fnExactResultValid", recurses := true, apart := false, narrowed := true }
def FnExactResultValidUptoSaid : Prop := fnExactResultValidUptoRow.holds Try.pinned (OpenSpec.upto fnExactResultValidSpec)

/-- 'laws.FnExactPlanSeal', WHERE WHAT IT READS IS OF BULK AT MOST 1048576: true; the input reads as it did. -/
def fnExactPlanSealUptoRow : OpenClaim := { program := "ytoajkkfnblpnlaa", sum := "6fbf23d0b1294d0b5917147c9f0183074c0c7f435834213f55b7e250efc3bfe9", func := "loop.example/rangechains/laws.FnExactPlanSeal", spec := "fnExactPlanSeal", recurses := true, apart := false, narrowed := true }
def FnExactPlanSealUptoSaid : Prop := fnExactPlanSealUptoRow.holds Try.pinned (OpenSpec.upto fnExactPlanSealSpec)

/-- 'laws.FnPlanValid', WHERE WHAT IT READS IS OF BULK AT MOST 1048576: true; the input reads as it did. -/
def fnPlanValidUptoRow : OpenClaim := { program := "ytoajkkfnblpnlaa", sum := "6fbf23d0b1294d0b5917147c9f0183074c0c7f435834213f55b7e250efc3bfe9", func := "loop.example/rangechains/laws.FnPlanValid", spec := "fnPlanValid", recurses := true, apart := false, narrowed := true }
def FnPlanValidUptoSaid : Prop := fnPlanValidUptoRow.holds Try.pinned (OpenSpec.upto fnPlanValidSpec)

/-- 'laws.FnExactCacheValid', WHERE WHAT IT READS IS OF BULK AT MOST 1048576: true; the input reads as it did. -/
def fnExactCacheValidUptoRow : OpenClaim := { program := "ytoajkkfnblpnlaa", sum := "6fbf23d0b1294d0b5917147c9f0183074c0c7f435834213f55b7e250efc3bfe9", func := "loop.example/rangechains/laws.FnExactCacheValid", spec := "fnExactCacheValid", recurses := true, apart := false, narrowed := true }
def FnExactCacheValidUptoSaid : Prop := fnExactCacheValidUptoRow.holds Try.pinned (OpenSpec.upto fnExactCacheValidSpec)

/-- 'laws.FnPrefixOf', WHERE WHAT IT READS IS OF BULK AT MOST 1048576: true; the input reads as it did. -/
def fnPrefixOfUptoRow : OpenClaim := { program := "ytoajkkfnblpnlaa", sum := "6fbf23d0b1294d0b5917147c9f0183074c0c7f435834213f55b7e250efc3bfe9", func := "loop.example/rangechains/laws.FnPrefixOf", spec := "fnPrefixOf", recurses := true, apart := false, narrowed := true }
def FnPrefixOfUptoSaid : Prop := fnPrefixOfUptoRow.holds Try.pinned (OpenSpec.upto fnPrefixOfSpec)

/-- 'laws.FnPlanSeal', WHERE WHAT IT READS IS OF BULK AT MOST 1048576: true; the input reads as it did. -/
def fnPlanSealUptoRow : OpenClaim := { program := "ytoajkkfnblpnlaa", sum := "6fbf23d0b1294d0b5917147c9f0183074c0c7f435834213f55b7e250efc3bfe9", func := "loop.example/rangechains/laws.FnPlanSeal", spec := "fnPlanSeal", recurses := true, apart := false, narrowed := true }
def FnPlanSealUptoSaid : Prop := fnPlanSealUptoRow.holds Try.pinned (OpenSpec.upto fnPlanSealSpec)

/-- 'laws.FnResultValid', WHERE WHAT IT READS IS OF BULK AT MOST 1048576: true; the input reads as it did. -/
def fnResultValidUptoRow : OpenClaim := { program := "ytoajkkfnblpnlaa", sum := "6fbf23d0b1294d0b5917147c9f0183074c0c7f435834213f55b7e250efc3bfe9", func := "loop.example/rangechains/laws.FnResultValid", spec := "fnResultValid", recurses := true, apart := false, narrowed := true }
def FnResultValidUptoSaid : Prop := fnResultValidUptoRow.holds Try.pinned (OpenSpec.upto fnResultValidSpec)

/-- 'laws.FnExactCacheFind', WHERE WHAT IT READS IS OF BULK AT MOST 1048576: true; the input reads as it did. -/
def fnExactCacheFindUptoRow : OpenClaim := { program := "ytoajkkfnblpnlaa", sum := "6fbf23d0b1294d0b5917147c9f0183074c0c7f435834213f55b7e250efc3bfe9", func := "loop.example/rangechains/laws.FnExactCacheFind", spec := "fnExactCacheFind", recurses := true, apart := false, narrowed := true }
def FnExactCacheFindUptoSaid : Prop := fnExactCacheFindUptoRow.holds Try.pinned (OpenSpec.upto fnExactCacheFindSpec)

/-- 'laws.FnExactRoutesValid', WHERE WHAT IT READS IS OF BULK AT MOST 1048576: true; the input reads as it did. -/
def fnExactRoutesValidUptoRow : OpenClaim := { program := "ytoajkkfnblpnlaa", sum := "6fbf23d0b1294d0b5917147c9f0183074c0c7f435834213f55b7e250efc3bfe9", func := "loop.example/rangechains/laws.FnExactRoutesValid", spec := "fnExactRoutesValid", recurses := true, apart := false, narrowed := true }
def FnExactRoutesValidUptoSaid : Prop := fnExactRoutesValidUptoRow.holds Try.pinned (OpenSpec.upto fnExactRoutesValidSpec)

/-- 'laws.FnCacheValid', WHERE WHAT IT READS IS OF BULK AT MOST 1048576: true; the input reads as it did. -/
def fnCacheValidUptoRow : OpenClaim := { program := "ytoajkkfnblpnlaa", sum := "6fbf23d0b1294d0b5917147c9f0183074c0c7f435834213f55b7e250efc3bfe9", func := "loop.example/rangechains/laws.FnCacheValid", spec := "fnCacheValid", recurses := true, apart := false, narrowed := true }
def FnCacheValidUptoSaid : Prop := fnCacheValidUptoRow.holds Try.pinned (OpenSpec.upto fnCacheValidSpec)

end Rows
end Go.Proofs.Ytoajkkfnblpnlaa
