/-
  No cell of these rows narrows 'for every input' (looked for: loops, veiled, ifaces, maps, wideKeys, modest, calm, conditions, laid).
  DERIVED. THE GIVEN ROWS OF THIS SEAT. 6 by the template 'for every input the law returns true; each argument reads behind the call as it read before'; 0 by the template 'total and deterministic' (their statements: YtahdadmibmgpmaaTotals.lean).
  GIVEN WITH THE SEED: the statements are not yours to turn. If you find one false, say at which input.
  Laid BY PROGRAM, IN A SANDBOX (cutbox-rows.mjs): the forced cells as the released guide's own fill.sh prints them over the translation 0621d9623982c79e… (all of the seat's roots in one cut). By AI agents, Wed Nov 11 2026. No macro, syntax, notation, axiom, sorry.
-/
import Derived.Test.YtahdadmibmgpmaaChecked
import GoSem.Claim
import GoSem.ClaimJoined
import GoSem.ClaimMapViews
import Derived.JoinedTies
import Derived.KernelRfl
namespace Go.Proofs.Ytahdadmibmgpmaa
/- THE CELL 'sum', in the pinned program and in every row, IS THE sha256 OF THE DUMP (.gsa) THAT YtahdadmibmgpmaaProg.lean LOADS. Nothing in Lean hashes anything: it is a label: what it is worth is what the hold of that sum in a sandbox is worth. -/
noncomputable def Try.pinned : Pinned := { name := "ytahdadmibmgpmaa", sum := "0621d9623982c79eb68467b1198414e1500ae6265af3a3f578f48a821d3e7db4", checked := Try.checked }
namespace Rows
def none {H : Type} : Left H := { results := [], args := [] }

/-- 'dormouselaw22.AuditParts': WHATEVER THE INPUT: true; the input reads as it did. -/
def auditPartsSpec : ChangeSpec := { name := "auditParts", fn := fun _ => fun
  | [d1, d2, d3] => { results := [.lit (.bool true)], args := [d1, d2, d3] }
  | _ => none }
def auditPartsRow : OpenClaim := { program := "ytahdadmibmgpmaa", sum := "0621d9623982c79eb68467b1198414e1500ae6265af3a3f578f48a821d3e7db4", func := "dormouse/dormouselaw22.AuditParts", spec := "auditParts", unfollowed := true, recurses := true, apart := false }
def AuditPartsSaid : Prop := auditPartsRow.holds Try.pinned (OpenSpec.ofChange auditPartsSpec)

/-- ITS FALSE NEIGHBOUR: 'it returns false'. Refute it at one input. -/
def auditPartsWrong : ChangeSpec := { name := "auditParts", fn := fun _ => fun
  | [d1, d2, d3] => { results := [.lit (.bool false)], args := [d1, d2, d3] }
  | _ => none }
def AuditPartsWrongFalsely : Prop := auditPartsRow.holds Try.pinned (OpenSpec.ofChange auditPartsWrong)

/-- 'dormouselaw22.AuditCut': WHATEVER THE INPUT: true; the input reads as it did. -/
def auditCutSpec : ChangeSpec := { name := "auditCut", fn := fun _ => fun
  | [d1, d2, d3, d4] => { results := [.lit (.bool true)], args := [d1, d2, d3, d4] }
  | _ => none }
def auditCutRow : OpenClaim := { program := "ytahdadmibmgpmaa", sum := "0621d9623982c79eb68467b1198414e1500ae6265af3a3f578f48a821d3e7db4", func := "dormouse/dormouselaw22.AuditCut", spec := "auditCut", unfollowed := true, recurses := true, apart := false }
def AuditCutSaid : Prop := auditCutRow.holds Try.pinned (OpenSpec.ofChange auditCutSpec)

/-- ITS FALSE NEIGHBOUR: 'it returns false'. Refute it at one input. -/
def auditCutWrong : ChangeSpec := { name := "auditCut", fn := fun _ => fun
  | [d1, d2, d3, d4] => { results := [.lit (.bool false)], args := [d1, d2, d3, d4] }
  | _ => none }
def AuditCutWrongFalsely : Prop := auditCutRow.holds Try.pinned (OpenSpec.ofChange auditCutWrong)

/-- 'dormouselaw22.AuditSum': WHATEVER THE INPUT: true; the input reads as it did. -/
def auditSumSpec : ChangeSpec := { name := "auditSum", fn := fun _ => fun
  | [d1, d2] => { results := [.lit (.bool true)], args := [d1, d2] }
  | _ => none }
def auditSumRow : OpenClaim := { program := "ytahdadmibmgpmaa", sum := "0621d9623982c79eb68467b1198414e1500ae6265af3a3f578f48a821d3e7db4", func := "dormouse/dormouselaw22.AuditSum", spec := "auditSum", unfollowed := true, recurses := true, apart := false }
def AuditSumSaid : Prop := auditSumRow.holds Try.pinned (OpenSpec.ofChange auditSumSpec)

/-- ITS FALSE NEIGHBOUR: 'it returns false'. Refute it at one input. -/
def auditSumWrong : ChangeSpec := { name := "auditSum", fn := fun _ => fun
  | [d1, d2] => { results := [.lit (.bool false)], args := [d1, d2] }
  | _ => none }
def AuditSumWrongFalsely : Prop := auditSumRow.holds Try.pinned (OpenSpec.ofChange auditSumWrong)

/-- 'dormouselaw22.AuditKept': WHATEVER THE INPUT: true; the input reads as it did. -/
def auditKeptSpec : ChangeSpec := { name := "auditKept", fn := fun _ => fun
  | [d] => { results := [.lit (.bool true)], args := [d] }
  | _ => none }
def auditKeptRow : OpenClaim := { program := "ytahdadmibmgpmaa", sum := "0621d9623982c79eb68467b1198414e1500ae6265af3a3f578f48a821d3e7db4", func := "dormouse/dormouselaw22.AuditKept", spec := "auditKept", unfollowed := true, recurses := true, apart := false }
def AuditKeptSaid : Prop := auditKeptRow.holds Try.pinned (OpenSpec.ofChange auditKeptSpec)

/-- ITS FALSE NEIGHBOUR: 'it returns false'. Refute it at one input. -/
def auditKeptWrong : ChangeSpec := { name := "auditKept", fn := fun _ => fun
  | [d] => { results := [.lit (.bool false)], args := [d] }
  | _ => none }
def AuditKeptWrongFalsely : Prop := auditKeptRow.holds Try.pinned (OpenSpec.ofChange auditKeptWrong)

/-- 'dormouselaw22.AuditSlept': WHATEVER THE INPUT: true; the input reads as it did. -/
def auditSleptSpec : ChangeSpec := { name := "auditSlept", fn := fun _ => fun
  | [d1, d2] => { results := [.lit (.bool true)], args := [d1, d2] }
  | _ => none }
def auditSleptRow : OpenClaim := { program := "ytahdadmibmgpmaa", sum := "0621d9623982c79eb68467b1198414e1500ae6265af3a3f578f48a821d3e7db4", func := "dormouse/dormouselaw22.AuditSlept", spec := "auditSlept", unfollowed := true, recurses := true, apart := false }
def AuditSleptSaid : Prop := auditSleptRow.holds Try.pinned (OpenSpec.ofChange auditSleptSpec)

/-- ITS FALSE NEIGHBOUR: 'it returns false'. Refute it at one input. -/
def auditSleptWrong : ChangeSpec := { name := "auditSlept", fn := fun _ => fun
  | [d1, d2] => { results := [.lit (.bool false)], args := [d1, d2] }
  | _ => none }
def AuditSleptWrongFalsely : Prop := auditSleptRow.holds Try.pinned (OpenSpec.ofChange auditSleptWrong)

/-- 'dormouselaw22.AuditEarlier': WHATEVER THE INPUT: true; the input reads as it did. -/
def auditEarlierSpec : ChangeSpec := { name := "auditEarlier", fn := fun _ => fun
  | [d1, d2, d3, d4] => { results := [.lit (.bool true)], args := [d1, d2, d3, d4] }
  | _ => none }
def auditEarlierRow : OpenClaim := { program := "ytahdadmibmgpmaa", sum := "0621d9623982c79eb68467b1198414e1500ae6265af3a3f578f48a821d3e7db4", func := "dormouse/dormouselaw22.AuditEarlier", spec := "auditEarlier", unfollowed := true, recurses := true, apart := false }
def AuditEarlierSaid : Prop := auditEarlierRow.holds Try.pinned (OpenSpec.ofChange auditEarlierSpec)

/-- ITS FALSE NEIGHBOUR: 'it returns false'. Refute it at one input. -/
def auditEarlierWrong : ChangeSpec := { name := "auditEarlier", fn := fun _ => fun
  | [d1, d2, d3, d4] => { results := [.lit (.bool false)], args := [d1, d2, d3, d4] }
  | _ => none }
def AuditEarlierWrongFalsely : Prop := auditEarlierRow.holds Try.pinned (OpenSpec.ofChange auditEarlierWrong)

/- THE SECOND FORM. 'bulk': how many values and letters a reading holds, each counted each time it is reached (what is shared counts as often as it is met; a slice's spare places count too). A statement '..UptoSaid' is the law's where the arguments, and the package variables that the reading takes, are together of bulk at most 1048576: NARROWER than '..Said'. Prove '..Said' where nothing that the law and all that it calls make is longer than what came in: it says more and counts as full. Else prove '..UptoSaid'. A law counts once. -/
mutual
def uptoBulk {H : Type} : DataW H → Nat
  | .lit (.string bytes) => bytes.length + 1
  | .lit _ => 1
  | .nil => 1
  | .ptr d => uptoBulk d + 1
  | .slice elems spare => uptoBulkAll elems + uptoBulkAll spare + 1
  | .agg parts => uptoBulkAll parts + 1
  | .iface _ d => uptoBulk d + 1
  | .map entries => uptoBulkEntries entries + 1
  | .held _ => 1
def uptoBulkAll {H : Type} : List (DataW H) → Nat
  | [] => 0
  | d :: r => uptoBulk d + uptoBulkAll r
def uptoBulkEntries {H : Type} : List (Lit × DataW H) → Nat
  | [] => 0
  | x :: r => uptoBulkEntry x + uptoBulkEntries r
def uptoBulkEntry {H : Type} : Lit × DataW H → Nat
  | (.string bytes, d) => bytes.length + uptoBulk d + 1
  | (_, d) => uptoBulk d + 1
 end
def uptoSmall : (H : Type) → List (DataW H) → Bool := fun _ ds => decide (uptoBulkAll ds ≤ 1048576)
def OpenSpec.upto (s : _root_.Go.ChangeSpec) : _root_.Go.OpenSpec := { _root_.Go.OpenSpec.ofChange s with cond := some uptoSmall }

/-- 'dormouselaw22.AuditParts', WHERE WHAT IT READS IS OF BULK AT MOST 1048576: true; the input reads as it did. -/
def auditPartsUptoRow : OpenClaim := { program := "ytahdadmibmgpmaa", sum := "0621d9623982c79eb68467b1198414e1500ae6265af3a3f578f48a821d3e7db4", func := "dormouse/dormouselaw22.AuditParts", spec := "auditParts", unfollowed := true, recurses := true, apart := false, narrowed := true }
def AuditPartsUptoSaid : Prop := auditPartsUptoRow.holds Try.pinned (OpenSpec.upto auditPartsSpec)

/-- 'dormouselaw22.AuditCut', WHERE WHAT IT READS IS OF BULK AT MOST 1048576: true; the input reads as it did. -/
def auditCutUptoRow : OpenClaim := { program := "ytahdadmibmgpmaa", sum := "0621d9623982c79eb68467b1198414e1500ae6265af3a3f578f48a821d3e7db4", func := "dormouse/dormouselaw22.AuditCut", spec := "auditCut", unfollowed := true, recurses := true, apart := false, narrowed := true }
def AuditCutUptoSaid : Prop := auditCutUptoRow.holds Try.pinned (OpenSpec.upto auditCutSpec)

/-- 'dormouselaw22.AuditSum', WHERE WHAT IT READS IS OF BULK AT MOST 1048576: true; the input reads as it did. -/
def auditSumUptoRow : OpenClaim := { program := "ytahdadmibmgpmaa", sum := "0621d9623982c79eb68467b1198414e1500ae6265af3a3f578f48a821d3e7db4", func := "dormouse/dormouselaw22.AuditSum", spec := "auditSum", unfollowed := true, recurses := true, apart := false, narrowed := true }
def AuditSumUptoSaid : Prop := auditSumUptoRow.holds Try.pinned (OpenSpec.upto auditSumSpec)

/-- 'dormouselaw22.AuditKept', WHERE WHAT IT READS IS OF BULK AT MOST 1048576: true; the input reads as it did. -/
def auditKeptUptoRow : OpenClaim := { program := "ytahdadmibmgpmaa", sum := "0621d9623982c79eb68467b1198414e1500ae6265af3a3f578f48a821d3e7db4", func := "dormouse/dormouselaw22.AuditKept", spec := "auditKept", unfollowed := true, recurses := true, apart := false, narrowed := true }
def AuditKeptUptoSaid : Prop := auditKeptUptoRow.holds Try.pinned (OpenSpec.upto auditKeptSpec)

/-- 'dormouselaw22.AuditSlept', WHERE WHAT IT READS IS OF BULK AT MOST 1048576: true; the input reads as it did. -/
def auditSleptUptoRow : OpenClaim := { program := "ytahdadmibmgpmaa", sum := "0621d9623982c79eb68467b1198414e1500ae6265af3a3f578f48a821d3e7db4", func := "dormouse/dormouselaw22.AuditSlept", spec := "auditSlept", unfollowed := true, recurses := true, apart := false, narrowed := true }
def AuditSleptUptoSaid : Prop := auditSleptUptoRow.holds Try.pinned (OpenSpec.upto auditSleptSpec)

/-- 'dormouselaw22.AuditEarlier', WHERE WHAT IT READS IS OF BULK AT MOST 1048576: true; the input reads as it did. -/
def auditEarlierUptoRow : OpenClaim := { program := "ytahdadmibmgpmaa", sum := "0621d9623982c79eb68467b1198414e1500ae6265af3a3f578f48a821d3e7db4", func := "dormouse/dormouselaw22.AuditEarlier", spec := "auditEarlier", unfollowed := true, recurses := true, apart := false, narrowed := true }
def AuditEarlierUptoSaid : Prop := auditEarlierUptoRow.holds Try.pinned (OpenSpec.upto auditEarlierSpec)

end Rows
end Go.Proofs.Ytahdadmibmgpmaa
