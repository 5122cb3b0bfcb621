/-
  No cell of these rows narrows 'for every input' (looked for: loops, veiled, ifaces, maps, wideKeys, modest, calm, conditions, laid).
  DERIVED. THE GIVEN ROWS OF THIS SEAT. 10 by the template 'for every input the law returns true; each argument reads behind the call as it read before'; 0 by the template 'total and deterministic' (their statements: YtakiodehjhpgkaaGreatTotals.lean).
  GIVEN WITH THE SEED: the statements are not yours to turn. If you find one false, say at which input.
  Laid BY PROGRAM, IN A SANDBOX (cutbox-rows.mjs): the forced cells as the released guide's own fill.sh prints them over the translation 9d94e07f21aacdf8… (all of the seat's roots in one cut). By AI agents, Wed Nov 11 2026. No macro, syntax, notation, axiom, sorry.
-/
import Derived.Test.YtakiodehjhpgkaaGreatChecked
import GoSem.Claim
import GoSem.ClaimJoined
import GoSem.ClaimMapViews
import Derived.JoinedTies
import Derived.KernelRfl
namespace Go.Proofs.YtakiodehjhpgkaaGreat
/- THE CELL 'sum', in the pinned program and in every row, IS THE sha256 OF THE DUMP (.gsa) THAT YtakiodehjhpgkaaGreatProg.lean LOADS. Nothing in Lean hashes anything: it is a label: what it is worth is what the hold of that sum in a sandbox is worth. -/
noncomputable def Tryz.pinned : Pinned := { name := "ytakiodehjhpgkaagreat", sum := "9d94e07f21aacdf8c896f56a7c8ebb43e5d681b9b45b23fe96e2d13329a60de0", checked := Tryz.checked }
namespace Rows
def none {H : Type} : Left H := { results := [], args := [] }

/-- 'laws.FnExactUnanswered': WHATEVER THE INPUT: true; the input reads as it did. -/
def fnExactUnansweredSpec : ChangeSpec := { name := "fnExactUnanswered", fn := fun _ => fun
  | [d] => { results := [.lit (.bool true)], args := [d] }
  | _ => none }
def fnExactUnansweredRow : OpenClaim := { program := "ytakiodehjhpgkaagreat", sum := "9d94e07f21aacdf8c896f56a7c8ebb43e5d681b9b45b23fe96e2d13329a60de0", func := "loop.example/rangechains/laws.FnExactUnanswered", spec := "fnExactUnanswered", recurses := true, apart := false }
def FnExactUnansweredSaid : Prop := fnExactUnansweredRow.holds Tryz.pinned (OpenSpec.ofChange fnExactUnansweredSpec)

/-- ITS FALSE NEIGHBOUR: 'it returns false'. Refute it at one input. -/
def fnExactUnansweredWrong : ChangeSpec := { name := "fnExactUnanswered", fn := fun _ => fun
  | [d] => { results := [.lit (.bool false)], args := [d] }
  | _ => none }
def FnExactUnansweredWrongFalsely : Prop := fnExactUnansweredRow.holds Tryz.pinned (OpenSpec.ofChange fnExactUnansweredWrong)

/-- 'laws.FnExactChainCalm': WHATEVER THE INPUT: true; the input reads as it did. -/
def fnExactChainCalmSpec : ChangeSpec := { name := "fnExactChainCalm", fn := fun _ => fun
  | [d] => { results := [.lit (.bool true)], args := [d] }
  | _ => none }
def fnExactChainCalmRow : OpenClaim := { program := "ytakiodehjhpgkaagreat", sum := "9d94e07f21aacdf8c896f56a7c8ebb43e5d681b9b45b23fe96e2d13329a60de0", func := "loop.example/rangechains/laws.FnExactChainCalm", spec := "fnExactChainCalm", recurses := true, apart := false }
def FnExactChainCalmSaid : Prop := fnExactChainCalmRow.holds Tryz.pinned (OpenSpec.ofChange fnExactChainCalmSpec)

/-- ITS FALSE NEIGHBOUR: 'it returns false'. Refute it at one input. -/
def fnExactChainCalmWrong : ChangeSpec := { name := "fnExactChainCalm", fn := fun _ => fun
  | [d] => { results := [.lit (.bool false)], args := [d] }
  | _ => none }
def FnExactChainCalmWrongFalsely : Prop := fnExactChainCalmRow.holds Tryz.pinned (OpenSpec.ofChange fnExactChainCalmWrong)

/-- 'laws.FnExactBehindMembers': WHATEVER THE INPUT: true; the input reads as it did. -/
def fnExactBehindMembersSpec : ChangeSpec := { name := "fnExactBehindMembers", fn := fun _ => fun
  | [d] => { results := [.lit (.bool true)], args := [d] }
  | _ => none }
def fnExactBehindMembersRow : OpenClaim := { program := "ytakiodehjhpgkaagreat", sum := "9d94e07f21aacdf8c896f56a7c8ebb43e5d681b9b45b23fe96e2d13329a60de0", func := "loop.example/rangechains/laws.FnExactBehindMembers", spec := "fnExactBehindMembers", recurses := true, apart := false }
def FnExactBehindMembersSaid : Prop := fnExactBehindMembersRow.holds Tryz.pinned (OpenSpec.ofChange fnExactBehindMembersSpec)

/-- ITS FALSE NEIGHBOUR: 'it returns false'. Refute it at one input. -/
def fnExactBehindMembersWrong : ChangeSpec := { name := "fnExactBehindMembers", fn := fun _ => fun
  | [d] => { results := [.lit (.bool false)], args := [d] }
  | _ => none }
def FnExactBehindMembersWrongFalsely : Prop := fnExactBehindMembersRow.holds Tryz.pinned (OpenSpec.ofChange fnExactBehindMembersWrong)

/-- 'laws.FnExactChainSafe': WHATEVER THE INPUT: true; the input reads as it did. -/
def fnExactChainSafeSpec : ChangeSpec := { name := "fnExactChainSafe", fn := fun _ => fun
  | [d] => { results := [.lit (.bool true)], args := [d] }
  | _ => none }
def fnExactChainSafeRow : OpenClaim := { program := "ytakiodehjhpgkaagreat", sum := "9d94e07f21aacdf8c896f56a7c8ebb43e5d681b9b45b23fe96e2d13329a60de0", func := "loop.example/rangechains/laws.FnExactChainSafe", spec := "fnExactChainSafe", unfollowed := true, recurses := true, apart := false }
def FnExactChainSafeSaid : Prop := fnExactChainSafeRow.holds Tryz.pinned (OpenSpec.ofChange fnExactChainSafeSpec)

/-- ITS FALSE NEIGHBOUR: 'it returns false'. Refute it at one input. -/
def fnExactChainSafeWrong : ChangeSpec := { name := "fnExactChainSafe", fn := fun _ => fun
  | [d] => { results := [.lit (.bool false)], args := [d] }
  | _ => none }
def FnExactChainSafeWrongFalsely : Prop := fnExactChainSafeRow.holds Tryz.pinned (OpenSpec.ofChange fnExactChainSafeWrong)

/-- 'laws.FnExactClusterValid': WHATEVER THE INPUT: true; the input reads as it did. -/
def fnExactClusterValidSpec : ChangeSpec := { name := "fnExactClusterValid", fn := fun _ => fun
  | [d] => { results := [.lit (.bool true)], args := [d] }
  | _ => none }
def fnExactClusterValidRow : OpenClaim := { program := "ytakiodehjhpgkaagreat", sum := "9d94e07f21aacdf8c896f56a7c8ebb43e5d681b9b45b23fe96e2d13329a60de0", func := "loop.example/rangechains/laws.FnExactClusterValid", spec := "fnExactClusterValid", unfollowed := true, recurses := true, apart := false }
def FnExactClusterValidSaid : Prop := fnExactClusterValidRow.holds Tryz.pinned (OpenSpec.ofChange fnExactClusterValidSpec)

/-- ITS FALSE NEIGHBOUR: 'it returns false'. Refute it at one input. -/
def fnExactClusterValidWrong : ChangeSpec := { name := "fnExactClusterValid", fn := fun _ => fun
  | [d] => { results := [.lit (.bool false)], args := [d] }
  | _ => none }
def FnExactClusterValidWrongFalsely : Prop := fnExactClusterValidRow.holds Tryz.pinned (OpenSpec.ofChange fnExactClusterValidWrong)

/-- 'laws.FnExactChainStep': WHATEVER THE INPUT: true; the input reads as it did. -/
def fnExactChainStepSpec : ChangeSpec := { name := "fnExactChainStep", fn := fun _ => fun
  | [d1, d2] => { results := [.lit (.bool true)], args := [d1, d2] }
  | _ => none }
def fnExactChainStepRow : OpenClaim := { program := "ytakiodehjhpgkaagreat", sum := "9d94e07f21aacdf8c896f56a7c8ebb43e5d681b9b45b23fe96e2d13329a60de0", func := "loop.example/rangechains/laws.FnExactChainStep", spec := "fnExactChainStep", unfollowed := true, recurses := true, apart := false }
def FnExactChainStepSaid : Prop := fnExactChainStepRow.holds Tryz.pinned (OpenSpec.ofChange fnExactChainStepSpec)

/-- ITS FALSE NEIGHBOUR: 'it returns false'. Refute it at one input. -/
def fnExactChainStepWrong : ChangeSpec := { name := "fnExactChainStep", fn := fun _ => fun
  | [d1, d2] => { results := [.lit (.bool false)], args := [d1, d2] }
  | _ => none }
def FnExactChainStepWrongFalsely : Prop := fnExactChainStepRow.holds Tryz.pinned (OpenSpec.ofChange fnExactChainStepWrong)

/-- 'laws.FnExactChainPlay': WHATEVER THE INPUT: true; the input reads as it did. -/
def fnExactChainPlaySpec : ChangeSpec := { name := "fnExactChainPlay", fn := fun _ => fun
  | [d1, d2] => { results := [.lit (.bool true)], args := [d1, d2] }
  | _ => none }
def fnExactChainPlayRow : OpenClaim := { program := "ytakiodehjhpgkaagreat", sum := "9d94e07f21aacdf8c896f56a7c8ebb43e5d681b9b45b23fe96e2d13329a60de0", func := "loop.example/rangechains/laws.FnExactChainPlay", spec := "fnExactChainPlay", unfollowed := true, recurses := true, apart := false }
def FnExactChainPlaySaid : Prop := fnExactChainPlayRow.holds Tryz.pinned (OpenSpec.ofChange fnExactChainPlaySpec)

/-- ITS FALSE NEIGHBOUR: 'it returns false'. Refute it at one input. -/
def fnExactChainPlayWrong : ChangeSpec := { name := "fnExactChainPlay", fn := fun _ => fun
  | [d1, d2] => { results := [.lit (.bool false)], args := [d1, d2] }
  | _ => none }
def FnExactChainPlayWrongFalsely : Prop := fnExactChainPlayRow.holds Tryz.pinned (OpenSpec.ofChange fnExactChainPlayWrong)

/-- 'laws.FnExactChainAlone': WHATEVER THE INPUT: true; the input reads as it did. -/
def fnExactChainAloneSpec : ChangeSpec := { name := "fnExactChainAlone", fn := fun _ => fun
  | [d1, d2] => { results := [.lit (.bool true)], args := [d1, d2] }
  | _ => none }
def fnExactChainAloneRow : OpenClaim := { program := "ytakiodehjhpgkaagreat", sum := "9d94e07f21aacdf8c896f56a7c8ebb43e5d681b9b45b23fe96e2d13329a60de0", func := "loop.example/rangechains/laws.FnExactChainAlone", spec := "fnExactChainAlone", unfollowed := true, recurses := true, apart := false }
def FnExactChainAloneSaid : Prop := fnExactChainAloneRow.holds Tryz.pinned (OpenSpec.ofChange fnExactChainAloneSpec)

/-- ITS FALSE NEIGHBOUR: 'it returns false'. Refute it at one input. -/
def fnExactChainAloneWrong : ChangeSpec := { name := "fnExactChainAlone", fn := fun _ => fun
  | [d1, d2] => { results := [.lit (.bool false)], args := [d1, d2] }
  | _ => none }
def FnExactChainAloneWrongFalsely : Prop := fnExactChainAloneRow.holds Tryz.pinned (OpenSpec.ofChange fnExactChainAloneWrong)

/-- 'laws.FnExactChainSettle': WHATEVER THE INPUT: true; the input reads as it did. -/
def fnExactChainSettleSpec : ChangeSpec := { name := "fnExactChainSettle", fn := fun _ => fun
  | [d] => { results := [.lit (.bool true)], args := [d] }
  | _ => none }
def fnExactChainSettleRow : OpenClaim := { program := "ytakiodehjhpgkaagreat", sum := "9d94e07f21aacdf8c896f56a7c8ebb43e5d681b9b45b23fe96e2d13329a60de0", func := "loop.example/rangechains/laws.FnExactChainSettle", spec := "fnExactChainSettle", unfollowed := true, recurses := true, apart := false }
def FnExactChainSettleSaid : Prop := fnExactChainSettleRow.holds Tryz.pinned (OpenSpec.ofChange fnExactChainSettleSpec)

/-- ITS FALSE NEIGHBOUR: 'it returns false'. Refute it at one input. -/
def fnExactChainSettleWrong : ChangeSpec := { name := "fnExactChainSettle", fn := fun _ => fun
  | [d] => { results := [.lit (.bool false)], args := [d] }
  | _ => none }
def FnExactChainSettleWrongFalsely : Prop := fnExactChainSettleRow.holds Tryz.pinned (OpenSpec.ofChange fnExactChainSettleWrong)

/-- 'laws.FnExactNewCluster': WHATEVER THE INPUT: true; the input reads as it did. -/
def fnExactNewClusterSpec : ChangeSpec := { name := "fnExactNewCluster", fn := fun _ => fun
  | [d] => { results := [.lit (.bool true)], args := [d] }
  | _ => none }
def fnExactNewClusterRow : OpenClaim := { program := "ytakiodehjhpgkaagreat", sum := "9d94e07f21aacdf8c896f56a7c8ebb43e5d681b9b45b23fe96e2d13329a60de0", func := "loop.example/rangechains/laws.FnExactNewCluster", spec := "fnExactNewCluster", recurses := true, apart := false }
def FnExactNewClusterSaid : Prop := fnExactNewClusterRow.holds Tryz.pinned (OpenSpec.ofChange fnExactNewClusterSpec)

/-- ITS FALSE NEIGHBOUR: 'it returns false'. Refute it at one input. -/
def fnExactNewClusterWrong : ChangeSpec := { name := "fnExactNewCluster", fn := fun _ => fun
  | [d] => { results := [.lit (.bool false)], args := [d] }
  | _ => none }
def FnExactNewClusterWrongFalsely : Prop := fnExactNewClusterRow.holds Tryz.pinned (OpenSpec.ofChange fnExactNewClusterWrong)

/- THE SECOND FORM. 'bulk': how many values and letters a reading holds, each counted each time it is reached (what is shared counts as often as it is met; a slice's spare places count too). A statement '..UptoSaid' is the law's where the arguments, and the package variables that the reading takes, are together of bulk at most 1048576: NARROWER than '..Said'. Prove '..Said' where nothing that the law and all that it calls make is longer than what came in: it says more and counts as full. Else prove '..UptoSaid'. A law counts once. -/
mutual
def uptoBulk {H : Type} : DataW H → Nat
  | .lit (.string bytes) => bytes.length + 1
  | .lit _ => 1
  | .nil => 1
  | .ptr d => uptoBulk d + 1
  | .slice elems spare => uptoBulkAll elems + uptoBulkAll spare + 1
  | .agg parts => uptoBulkAll parts + 1
  | .iface _ d => uptoBulk d + 1
  | .map entries => uptoBulkEntries entries + 1
  | .held _ => 1
def uptoBulkAll {H : Type} : List (DataW H) → Nat
  | [] => 0
  | d :: r => uptoBulk d + uptoBulkAll r
def uptoBulkEntries {H : Type} : List (Lit × DataW H) → Nat
  | [] => 0
  | x :: r => uptoBulkEntry x + uptoBulkEntries r
def uptoBulkEntry {H : Type} : Lit × DataW H → Nat
  | (.string bytes, d) => bytes.length + uptoBulk d + 1
  | (_, d) => uptoBulk d + 1
 end
def uptoSmall : (H : Type) → List (DataW H) → Bool := fun _ ds => decide (uptoBulkAll ds ≤ 1048576)
def OpenSpec.upto (s : _root_.Go.ChangeSpec) : _root_.Go.OpenSpec := { _root_.Go.OpenSpec.ofChange s with cond := some uptoSmall }

/-- 'laws.FnExactUnanswered', WHERE WHAT IT READS IS OF BULK AT MOST 1048576: true; the input reads as it did. -/
def fnExactUnansweredUptoRow : OpenClaim := { program := "ytakiodehjhpgkaagreat", sum := "9d94e07f21aacdf8c896f56a7c8ebb43e5d681b9b45b23fe96e2d13329a60de0", func := "loop.example/rangechains/laws.FnExactUnanswered", spec := "fnExactUnanswered", recurses := true, apart := false, narrowed := true }
def FnExactUnansweredUptoSaid : Prop := fnExactUnansweredUptoRow.holds Tryz.pinned (OpenSpec.upto fnExactUnansweredSpec)

/-- 'laws.FnExactChainCalm', WHERE WHAT IT READS IS OF BULK AT MOST 1048576: true; the input reads as it did. -/
def fnExactChainCalmUptoRow : OpenClaim := { program := "ytakiodehjhpgkaagreat", sum := "9d94e07f21aacdf8c896f56a7c8ebb43e5d681b9b45b23fe96e2d13329a60de0", func := "loop.example/rangechains/laws.FnExactChainCalm", spec := "fnExactChainCalm", recurses := true, apart := false, narrowed := true }
def FnExactChainCalmUptoSaid : Prop := fnExactChainCalmUptoRow.holds Tryz.pinned (OpenSpec.upto fnExactChainCalmSpec)

/-- 'laws.FnExactBehindMembers', WHERE WHAT IT READS IS OF BULK AT MOST 1048576: true; the input reads as it did. -/
def fnExactBehindMembersUptoRow : OpenClaim := { program := "ytakiodehjhpgkaagreat", sum := "9d94e07f21aacdf8c896f56a7c8ebb43e5d681b9b45b23fe96e2d13329a60de0", func := "loop.example/rangechains/laws.FnExactBehindMembers", spec := "fnExactBehindMembers", recurses := true, apart := false, narrowed := true }
def FnExactBehindMembersUptoSaid : Prop := fnExactBehindMembersUptoRow.holds Tryz.pinned (OpenSpec.upto fnExactBehindMembersSpec)

/-- 'laws.FnExactChainSafe', WHERE WHAT IT READS IS OF BULK AT MOST 1048576: true; the input reads as it did. -/
def fnExactChainSafeUptoRow : OpenClaim := { program := "ytakiodehjhpgkaagreat", sum := "9d94e07f21aacdf8c896f56a7c8ebb43e5d681b9b45b23fe96e2d13329a60de0", func := "loop.example/rangechains/laws.FnExactChainSafe", spec := "fnExactChainSafe", unfollowed := true, recurses := true, apart := false, narrowed := true }
def FnExactChainSafeUptoSaid : Prop := fnExactChainSafeUptoRow.holds Tryz.pinned (OpenSpec.upto fnExactChainSafeSpec)

/-- 'laws.FnExactClusterValid', WHERE WHAT IT READS IS OF BULK AT MOST 1048576: true; the input reads as it did. -/
def fnExactClusterValidUptoRow : OpenClaim := { program := "ytakiodehjhpgkaagreat", sum := "9d94e07f21aacdf8c896f56a7c8ebb43e5d681b9b45b23fe96e2d13329a60de0", func := "loop.example/rangechains/laws.FnExactClusterValid", spec := "fnExactClusterValid", unfollowed := true, recurses := true, apart := false, narrowed := true }
def FnExactClusterValidUptoSaid : Prop := fnExactClusterValidUptoRow.holds Tryz.pinned (OpenSpec.upto fnExactClusterValidSpec)

/-- 'laws.FnExactChainStep', WHERE WHAT IT READS IS OF BULK AT MOST 1048576: true; the input reads as it did. -/
def fnExactChainStepUptoRow : OpenClaim := { program := "ytakiodehjhpgkaagreat", sum := "9d94e07f21aacdf8c896f56a7c8ebb43e5d681b9b45b23fe96e2d13329a60de0", func := "loop.example/rangechains/laws.FnExactChainStep", spec := "fnExactChainStep", unfollowed := true, recurses := true, apart := false, narrowed := true }
def FnExactChainStepUptoSaid : Prop := fnExactChainStepUptoRow.holds Tryz.pinned (OpenSpec.upto fnExactChainStepSpec)

/-- 'laws.FnExactChainPlay', WHERE WHAT IT READS IS OF BULK AT MOST 1048576: true; the input reads as it did. -/
def fnExactChainPlayUptoRow : OpenClaim := { program := "ytakiodehjhpgkaagreat", sum := "9d94e07f21aacdf8c896f56a7c8ebb43e5d681b9b45b23fe96e2d13329a60de0", func := "loop.example/rangechains/laws.FnExactChainPlay", spec := "fnExactChainPlay", unfollowed := true, recurses := true, apart := false, narrowed := true }
def FnExactChainPlayUptoSaid : Prop := fnExactChainPlayUptoRow.holds Tryz.pinned (OpenSpec.upto fnExactChainPlaySpec)

/-- 'laws.FnExactChainAlone', WHERE WHAT IT READS IS OF BULK AT MOST 1048576: true; the input reads as it did. -/
def fnExactChainAloneUptoRow : OpenClaim := { program := "ytakiodehjhpgkaagreat", sum := "9d94e07f21aacdf8c896f56a7c8ebb43e5d681b9b45b23fe96e2d13329a60de0", func := "loop.example/rangechains/laws.FnExactChainAlone", spec := "fnExactChainAlone", unfollowed := true, recurses := true, apart := false, narrowed := true }
def FnExactChainAloneUptoSaid : Prop := fnExactChainAloneUptoRow.holds Tryz.pinned (OpenSpec.upto fnExactChainAloneSpec)

/-- 'laws.FnExactChainSettle', WHERE WHAT IT READS IS OF BULK AT MOST 1048576: true; the input reads as it did. -/
def fnExactChainSettleUptoRow : OpenClaim := { program := "ytakiodehjhpgkaagreat", sum := "9d94e07f21aacdf8c896f56a7c8ebb43e5d681b9b45b23fe96e2d13329a60de0", func := "loop.example/rangechains/laws.FnExactChainSettle", spec := "fnExactChainSettle", unfollowed := true, recurses := true, apart := false, narrowed := true }
def FnExactChainSettleUptoSaid : Prop := fnExactChainSettleUptoRow.holds Tryz.pinned (OpenSpec.upto fnExactChainSettleSpec)

/-- 'laws.FnExactNewCluster', WHERE WHAT IT READS IS OF BULK AT MOST 1048576: true; the input reads as it did. -/
def fnExactNewClusterUptoRow : OpenClaim := { program := "ytakiodehjhpgkaagreat", sum := "9d94e07f21aacdf8c896f56a7c8ebb43e5d681b9b45b23fe96e2d13329a60de0", func := "loop.example/rangechains/laws.FnExactNewCluster", spec := "fnExactNewCluster", recurses := true, apart := false, narrowed := true }
def FnExactNewClusterUptoSaid : Prop := fnExactNewClusterUptoRow.holds Tryz.pinned (OpenSpec.upto fnExactNewClusterSpec)

end Rows
end Go.Proofs.YtakiodehjhpgkaaGreat
