/-
  No cell of these rows narrows 'for every input' (looked for: loops, veiled, ifaces, maps, wideKeys, modest, calm, conditions, laid).
  DERIVED. THE GIVEN ROWS OF THIS SEAT. 8 by the template 'for every input the law returns true; each argument reads behind the call as it read before'; 0 by the template 'total and deterministic' (their statements: YtfimgecceneagaaTotals.lean).
  GIVEN WITH THE SEED: the statements are not yours to turn. If you find one false, say at which input.
  Laid BY PROGRAM, IN A SANDBOX (cutbox-rows.mjs): the forced cells as the released guide's own fill.sh prints them over the translation 717225413cf08902… (all of the seat's roots in one cut). By AI agents, Wed Nov 11 2026. No macro, syntax, notation, axiom, sorry.
-/
import Derived.Test.YtfimgecceneagaaChecked
import GoSem.Claim
import GoSem.ClaimJoined
import GoSem.ClaimMapViews
import Derived.JoinedTies
import Derived.KernelRfl
namespace Go.Proofs.Ytfimgecceneagaa
/- THE CELL 'sum', in the pinned program and in every row, IS THE sha256 OF THE DUMP (.gsa) THAT YtfimgecceneagaaProg.lean LOADS. Nothing in Lean hashes anything: it is a label: what it is worth is what the hold of that sum in a sandbox is worth. -/
noncomputable def Try.pinned : Pinned := { name := "ytfimgecceneagaa", sum := "717225413cf089022feda1f8fa0284884f15f450481c8804eed4a827bb5b8cee", checked := Try.checked }
namespace Rows
def none {H : Type} : Left H := { results := [], args := [] }

/-- 'dormouselaw05.MeterOf': WHATEVER THE INPUT: true; the input reads as it did. -/
def meterOfSpec : ChangeSpec := { name := "meterOf", fn := fun _ => fun
  | [d1, d2] => { results := [.lit (.bool true)], args := [d1, d2] }
  | _ => none }
def meterOfRow : OpenClaim := { program := "ytfimgecceneagaa", sum := "717225413cf089022feda1f8fa0284884f15f450481c8804eed4a827bb5b8cee", func := "dormouse/dormouselaw05.MeterOf", spec := "meterOf", apart := false }
def MeterOfSaid : Prop := meterOfRow.holds Try.pinned (OpenSpec.ofChange meterOfSpec)

/-- ITS FALSE NEIGHBOUR: 'it returns false'. Refute it at one input. -/
def meterOfWrong : ChangeSpec := { name := "meterOf", fn := fun _ => fun
  | [d1, d2] => { results := [.lit (.bool false)], args := [d1, d2] }
  | _ => none }
def MeterOfWrongFalsely : Prop := meterOfRow.holds Try.pinned (OpenSpec.ofChange meterOfWrong)

/-- 'dormouselaw05.MeterAdds': WHATEVER THE INPUT: true; the input reads as it did. -/
def meterAddsSpec : ChangeSpec := { name := "meterAdds", fn := fun _ => fun
  | [d1, d2] => { results := [.lit (.bool true)], args := [d1, d2] }
  | _ => none }
def meterAddsRow : OpenClaim := { program := "ytfimgecceneagaa", sum := "717225413cf089022feda1f8fa0284884f15f450481c8804eed4a827bb5b8cee", func := "dormouse/dormouselaw05.MeterAdds", spec := "meterAdds", apart := false }
def MeterAddsSaid : Prop := meterAddsRow.holds Try.pinned (OpenSpec.ofChange meterAddsSpec)

/-- ITS FALSE NEIGHBOUR: 'it returns false'. Refute it at one input. -/
def meterAddsWrong : ChangeSpec := { name := "meterAdds", fn := fun _ => fun
  | [d1, d2] => { results := [.lit (.bool false)], args := [d1, d2] }
  | _ => none }
def MeterAddsWrongFalsely : Prop := meterAddsRow.holds Try.pinned (OpenSpec.ofChange meterAddsWrong)

/-- 'dormouselaw05.MeterOne': WHATEVER THE INPUT: true; the input reads as it did. -/
def meterOneSpec : ChangeSpec := { name := "meterOne", fn := fun _ => fun
  | [d1, d2, d3] => { results := [.lit (.bool true)], args := [d1, d2, d3] }
  | _ => none }
def meterOneRow : OpenClaim := { program := "ytfimgecceneagaa", sum := "717225413cf089022feda1f8fa0284884f15f450481c8804eed4a827bb5b8cee", func := "dormouse/dormouselaw05.MeterOne", spec := "meterOne", apart := false }
def MeterOneSaid : Prop := meterOneRow.holds Try.pinned (OpenSpec.ofChange meterOneSpec)

/-- ITS FALSE NEIGHBOUR: 'it returns false'. Refute it at one input. -/
def meterOneWrong : ChangeSpec := { name := "meterOne", fn := fun _ => fun
  | [d1, d2, d3] => { results := [.lit (.bool false)], args := [d1, d2, d3] }
  | _ => none }
def MeterOneWrongFalsely : Prop := meterOneRow.holds Try.pinned (OpenSpec.ofChange meterOneWrong)

/-- 'dormouselaw05.MeterTotal': WHATEVER THE INPUT: true; the input reads as it did. -/
def meterTotalSpec : ChangeSpec := { name := "meterTotal", fn := fun _ => fun
  | [d1, d2, d3, d4] => { results := [.lit (.bool true)], args := [d1, d2, d3, d4] }
  | _ => none }
def meterTotalRow : OpenClaim := { program := "ytfimgecceneagaa", sum := "717225413cf089022feda1f8fa0284884f15f450481c8804eed4a827bb5b8cee", func := "dormouse/dormouselaw05.MeterTotal", spec := "meterTotal", apart := false }
def MeterTotalSaid : Prop := meterTotalRow.holds Try.pinned (OpenSpec.ofChange meterTotalSpec)

/-- ITS FALSE NEIGHBOUR: 'it returns false'. Refute it at one input. -/
def meterTotalWrong : ChangeSpec := { name := "meterTotal", fn := fun _ => fun
  | [d1, d2, d3, d4] => { results := [.lit (.bool false)], args := [d1, d2, d3, d4] }
  | _ => none }
def MeterTotalWrongFalsely : Prop := meterTotalRow.holds Try.pinned (OpenSpec.ofChange meterTotalWrong)

/-- 'dormouselaw26.StatsTasks': WHATEVER THE INPUT: true; the input reads as it did. -/
def statsTasksSpec : ChangeSpec := { name := "statsTasks", fn := fun _ => fun
  | [d1, d2, d3] => { results := [.lit (.bool true)], args := [d1, d2, d3] }
  | _ => none }
def statsTasksRow : OpenClaim := { program := "ytfimgecceneagaa", sum := "717225413cf089022feda1f8fa0284884f15f450481c8804eed4a827bb5b8cee", func := "dormouse/dormouselaw26.StatsTasks", spec := "statsTasks", apart := false }
def StatsTasksSaid : Prop := statsTasksRow.holds Try.pinned (OpenSpec.ofChange statsTasksSpec)

/-- ITS FALSE NEIGHBOUR: 'it returns false'. Refute it at one input. -/
def statsTasksWrong : ChangeSpec := { name := "statsTasks", fn := fun _ => fun
  | [d1, d2, d3] => { results := [.lit (.bool false)], args := [d1, d2, d3] }
  | _ => none }
def StatsTasksWrongFalsely : Prop := statsTasksRow.holds Try.pinned (OpenSpec.ofChange statsTasksWrong)

/-- 'dormouselaw26.StatsTotal': WHATEVER THE INPUT: true; the input reads as it did. -/
def statsTotalSpec : ChangeSpec := { name := "statsTotal", fn := fun _ => fun
  | [d] => { results := [.lit (.bool true)], args := [d] }
  | _ => none }
def statsTotalRow : OpenClaim := { program := "ytfimgecceneagaa", sum := "717225413cf089022feda1f8fa0284884f15f450481c8804eed4a827bb5b8cee", func := "dormouse/dormouselaw26.StatsTotal", spec := "statsTotal", apart := false }
def StatsTotalSaid : Prop := statsTotalRow.holds Try.pinned (OpenSpec.ofChange statsTotalSpec)

/-- ITS FALSE NEIGHBOUR: 'it returns false'. Refute it at one input. -/
def statsTotalWrong : ChangeSpec := { name := "statsTotal", fn := fun _ => fun
  | [d] => { results := [.lit (.bool false)], args := [d] }
  | _ => none }
def StatsTotalWrongFalsely : Prop := statsTotalRow.holds Try.pinned (OpenSpec.ofChange statsTotalWrong)

/-- 'dormouselaw26.StatsAll': WHATEVER THE INPUT: true; the input reads as it did. -/
def statsAllSpec : ChangeSpec := { name := "statsAll", fn := fun _ => fun
  | [d1, d2, d3] => { results := [.lit (.bool true)], args := [d1, d2, d3] }
  | _ => none }
def statsAllRow : OpenClaim := { program := "ytfimgecceneagaa", sum := "717225413cf089022feda1f8fa0284884f15f450481c8804eed4a827bb5b8cee", func := "dormouse/dormouselaw26.StatsAll", spec := "statsAll", apart := false }
def StatsAllSaid : Prop := statsAllRow.holds Try.pinned (OpenSpec.ofChange statsAllSpec)

/-- ITS FALSE NEIGHBOUR: 'it returns false'. Refute it at one input. -/
def statsAllWrong : ChangeSpec := { name := "statsAll", fn := fun _ => fun
  | [d1, d2, d3] => { results := [.lit (.bool false)], args := [d1, d2, d3] }
  | _ => none }
def StatsAllWrongFalsely : Prop := statsAllRow.holds Try.pinned (OpenSpec.ofChange statsAllWrong)

/-- 'dormouselaw26.StatsParts': WHATEVER THE INPUT: true; the input reads as it did. -/
def statsPartsSpec : ChangeSpec := { name := "statsParts", fn := fun _ => fun
  | [d1, d2, d3, d4, d5] => { results := [.lit (.bool true)], args := [d1, d2, d3, d4, d5] }
  | _ => none }
def statsPartsRow : OpenClaim := { program := "ytfimgecceneagaa", sum := "717225413cf089022feda1f8fa0284884f15f450481c8804eed4a827bb5b8cee", func := "dormouse/dormouselaw26.StatsParts", spec := "statsParts", apart := false }
def StatsPartsSaid : Prop := statsPartsRow.holds Try.pinned (OpenSpec.ofChange statsPartsSpec)

/-- ITS FALSE NEIGHBOUR: 'it returns false'. Refute it at one input. -/
def statsPartsWrong : ChangeSpec := { name := "statsParts", fn := fun _ => fun
  | [d1, d2, d3, d4, d5] => { results := [.lit (.bool false)], args := [d1, d2, d3, d4, d5] }
  | _ => none }
def StatsPartsWrongFalsely : Prop := statsPartsRow.holds Try.pinned (OpenSpec.ofChange statsPartsWrong)

/- THE SECOND FORM. 'bulk': how many values and letters a reading holds, each counted each time it is reached (what is shared counts as often as it is met; a slice's spare places count too). A statement '..UptoSaid' is the law's where the arguments, and the package variables that the reading takes, are together of bulk at most 1048576: NARROWER than '..Said'. Prove '..Said' where nothing that the law and all that it calls make is longer than what came in: it says more and counts as full. Else prove '..UptoSaid'. A law counts once. -/
mutual
def uptoBulk {H : Type} : DataW H → Nat
  | .lit (.string bytes) => bytes.length + 1
  | .lit _ => 1
  | .nil => 1
  | .ptr d => uptoBulk d + 1
  | .slice elems spare => uptoBulkAll elems + uptoBulkAll spare + 1
  | .agg parts => uptoBulkAll parts + 1
  | .iface _ d => uptoBulk d + 1
  | .map entries => uptoBulkEntries entries + 1
  | .held _ => 1
def uptoBulkAll {H : Type} : List (DataW H) → Nat
  | [] => 0
  | d :: r => uptoBulk d + uptoBulkAll r
def uptoBulkEntries {H : Type} : List (Lit × DataW H) → Nat
  | [] => 0
  | x :: r => uptoBulkEntry x + uptoBulkEntries r
def uptoBulkEntry {H : Type} : Lit × DataW H → Nat
  | (.string bytes, d) => bytes.length + uptoBulk d + 1
  | (_, d) => uptoBulk d + 1
 end
def uptoSmall : (H : Type) → List (DataW H) → Bool := fun _ ds => decide (uptoBulkAll ds ≤ 1048576)
def OpenSpec.upto (s : _root_.Go.ChangeSpec) : _root_.Go.OpenSpec := { _root_.Go.OpenSpec.ofChange s with cond := some uptoSmall }

/-- 'dormouselaw05.MeterOf', WHERE WHAT IT READS IS OF BULK AT MOST 1048576: true; the input reads as it did. -/
def meterOfUptoRow : OpenClaim := { program := "ytfimgecceneagaa", sum := "717225413cf089022feda1f8fa0284884f15f450481c8804eed4a827bb5b8cee", func := "dormouse/dormouselaw05.MeterOf", spec := "meterOf", apart := false, narrowed := true }
def MeterOfUptoSaid : Prop := meterOfUptoRow.holds Try.pinned (OpenSpec.upto meterOfSpec)

/-- 'dormouselaw05.MeterAdds', WHERE WHAT IT READS IS OF BULK AT MOST 1048576: true; the input reads as it did. -/
def meterAddsUptoRow : OpenClaim := { program := "ytfimgecceneagaa", sum := "717225413cf089022feda1f8fa0284884f15f450481c8804eed4a827bb5b8cee", func := "dormouse/dormouselaw05.MeterAdds", spec := "meterAdds", apart := false, narrowed := true }
def MeterAddsUptoSaid : Prop := meterAddsUptoRow.holds Try.pinned (OpenSpec.upto meterAddsSpec)

/-- 'dormouselaw05.MeterOne', WHERE WHAT IT READS IS OF BULK AT MOST 1048576: true; the input reads as it did. -/
def meterOneUptoRow : OpenClaim := { program := "ytfimgecceneagaa", sum := "717225413cf089022feda1f8fa0284884f15f450481c8804eed4a827bb5b8cee", func := "dormouse/dormouselaw05.MeterOne", spec := "meterOne", apart := false, narrowed := true }
def MeterOneUptoSaid : Prop := meterOneUptoRow.holds Try.pinned (OpenSpec.upto meterOneSpec)

/-- 'dormouselaw05.MeterTotal', WHERE WHAT IT READS IS OF BULK AT MOST 1048576: true; the input reads as it did. -/
def meterTotalUptoRow : OpenClaim := { program := "ytfimgecceneagaa", sum := "717225413cf089022feda1f8fa0284884f15f450481c8804eed4a827bb5b8cee", func := "dormouse/dormouselaw05.MeterTotal", spec := "meterTotal", apart := false, narrowed := true }
def MeterTotalUptoSaid : Prop := meterTotalUptoRow.holds Try.pinned (OpenSpec.upto meterTotalSpec)

/-- 'dormouselaw26.StatsTasks', WHERE WHAT IT READS IS OF BULK AT MOST 1048576: true; the input reads as it did. -/
def statsTasksUptoRow : OpenClaim := { program := "ytfimgecceneagaa", sum := "717225413cf089022feda1f8fa0284884f15f450481c8804eed4a827bb5b8cee", func := "dormouse/dormouselaw26.StatsTasks", spec := "statsTasks", apart := false, narrowed := true }
def StatsTasksUptoSaid : Prop := statsTasksUptoRow.holds Try.pinned (OpenSpec.upto statsTasksSpec)

/-- 'dormouselaw26.StatsTotal', WHERE WHAT IT READS IS OF BULK AT MOST 1048576: true; the input reads as it did. -/
def statsTotalUptoRow : OpenClaim := { program := "ytfimgecceneagaa", sum := "717225413cf089022feda1f8fa0284884f15f450481c8804eed4a827bb5b8cee", func := "dormouse/dormouselaw26.StatsTotal", spec := "statsTotal", apart := false, narrowed := true }
def StatsTotalUptoSaid : Prop := statsTotalUptoRow.holds Try.pinned (OpenSpec.upto statsTotalSpec)

/-- 'dormouselaw26.StatsAll', WHERE WHAT IT READS IS OF BULK AT MOST 1048576: true; the input reads as it did. -/
def statsAllUptoRow : OpenClaim := { program := "ytfimgecceneagaa", sum := "717225413cf089022feda1f8fa0284884f15f450481c8804eed4a827bb5b8cee", func := "dormouse/dormouselaw26.StatsAll", spec := "statsAll", apart := false, narrowed := true }
def StatsAllUptoSaid : Prop := statsAllUptoRow.holds Try.pinned (OpenSpec.upto statsAllSpec)

/-- 'dormouselaw26.StatsParts', WHERE WHAT IT READS IS OF BULK AT MOST 1048576: true; the input reads as it did. -/
def statsPartsUptoRow : OpenClaim := { program := "ytfimgecceneagaa", sum := "717225413cf089022feda1f8fa0284884f15f450481c8804eed4a827bb5b8cee", func := "dormouse/dormouselaw26.StatsParts", spec := "statsParts", apart := false, narrowed := true }
def StatsPartsUptoSaid : Prop := statsPartsUptoRow.holds Try.pinned (OpenSpec.upto statsPartsSpec)

end Rows
end Go.Proofs.Ytfimgecceneagaa
