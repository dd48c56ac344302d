/-
  No cell of these rows narrows 'for every input' (looked for: loops, veiled, ifaces, maps, wideKeys, modest, calm, conditions, laid).
  DERIVED. THE GIVEN ROWS OF THIS SEAT. 12 by the template 'for every input the law returns true; each argument reads behind the call as it read before'; 0 by the template 'total and deterministic' (their statements: YtekppfjlmedhpaaTotals.lean).
  GIVEN WITH THE SEED: the statements are not yours to turn. If you find one false, say at which input.
  Laid BY PROGRAM, IN A SANDBOX (cutbox-rows.mjs): the forced cells as the released guide's own fill.sh prints them over the translation c6b3a81b72b5146a… (all of the seat's roots in one cut). By AI agents, Wed Nov 11 2026. No macro, syntax, notation, axiom, sorry.
-/
import Derived.Test.YtekppfjlmedhpaaChecked
import GoSem.Claim
import GoSem.ClaimJoined
import GoSem.ClaimMapViews
import Derived.JoinedTies
import Derived.KernelRfl
namespace Go.Proofs.Ytekppfjlmedhpaa
/- THE CELL 'sum', in the pinned program and in every row, IS THE sha256 OF THE DUMP (.gsa) THAT YtekppfjlmedhpaaProg.lean LOADS. Nothing in Lean hashes anything: it is a label: what it is worth is what the hold of that sum in a sandbox is worth. -/
noncomputable def Try.pinned : Pinned := { name := "ytekppfjlmedhpaa", sum := "c6b3a81b72b5146a2c9dffe9fb9f61c547d6b4f1f47cf760ccaf0189faeda862", checked := Try.checked }
namespace Rows
def none {H : Type} : Left H := { results := [], args := [] }

/-- 'dormouselaw08.NapCost': WHATEVER THE INPUT: true; the input reads as it did. -/
def napCostSpec : ChangeSpec := { name := "napCost", fn := fun _ => fun
  | [d1, d2, d3] => { results := [.lit (.bool true)], args := [d1, d2, d3] }
  | _ => none }
def napCostRow : OpenClaim := { program := "ytekppfjlmedhpaa", sum := "c6b3a81b72b5146a2c9dffe9fb9f61c547d6b4f1f47cf760ccaf0189faeda862", func := "dormouse/dormouselaw08.NapCost", spec := "napCost", apart := false }
def NapCostSaid : Prop := napCostRow.holds Try.pinned (OpenSpec.ofChange napCostSpec)

/-- ITS FALSE NEIGHBOUR: 'it returns false'. Refute it at one input. -/
def napCostWrong : ChangeSpec := { name := "napCost", fn := fun _ => fun
  | [d1, d2, d3] => { results := [.lit (.bool false)], args := [d1, d2, d3] }
  | _ => none }
def NapCostWrongFalsely : Prop := napCostRow.holds Try.pinned (OpenSpec.ofChange napCostWrong)

/-- 'dormouselaw08.NapBest': WHATEVER THE INPUT: true; the input reads as it did. -/
def napBestSpec : ChangeSpec := { name := "napBest", fn := fun _ => fun
  | [d1, d2] => { results := [.lit (.bool true)], args := [d1, d2] }
  | _ => none }
def napBestRow : OpenClaim := { program := "ytekppfjlmedhpaa", sum := "c6b3a81b72b5146a2c9dffe9fb9f61c547d6b4f1f47cf760ccaf0189faeda862", func := "dormouse/dormouselaw08.NapBest", spec := "napBest", apart := false }
def NapBestSaid : Prop := napBestRow.holds Try.pinned (OpenSpec.ofChange napBestSpec)

/-- ITS FALSE NEIGHBOUR: 'it returns false'. Refute it at one input. -/
def napBestWrong : ChangeSpec := { name := "napBest", fn := fun _ => fun
  | [d1, d2] => { results := [.lit (.bool false)], args := [d1, d2] }
  | _ => none }
def NapBestWrongFalsely : Prop := napBestRow.holds Try.pinned (OpenSpec.ofChange napBestWrong)

/-- 'dormouselaw08.NapLeast': WHATEVER THE INPUT: true; the input reads as it did. -/
def napLeastSpec : ChangeSpec := { name := "napLeast", fn := fun _ => fun
  | [d1, d2] => { results := [.lit (.bool true)], args := [d1, d2] }
  | _ => none }
def napLeastRow : OpenClaim := { program := "ytekppfjlmedhpaa", sum := "c6b3a81b72b5146a2c9dffe9fb9f61c547d6b4f1f47cf760ccaf0189faeda862", func := "dormouse/dormouselaw08.NapLeast", spec := "napLeast", apart := false }
def NapLeastSaid : Prop := napLeastRow.holds Try.pinned (OpenSpec.ofChange napLeastSpec)

/-- ITS FALSE NEIGHBOUR: 'it returns false'. Refute it at one input. -/
def napLeastWrong : ChangeSpec := { name := "napLeast", fn := fun _ => fun
  | [d1, d2] => { results := [.lit (.bool false)], args := [d1, d2] }
  | _ => none }
def NapLeastWrongFalsely : Prop := napLeastRow.holds Try.pinned (OpenSpec.ofChange napLeastWrong)

/-- 'dormouselaw08.NapLonger': WHATEVER THE INPUT: true; the input reads as it did. -/
def napLongerSpec : ChangeSpec := { name := "napLonger", fn := fun _ => fun
  | [d1, d2, d3] => { results := [.lit (.bool true)], args := [d1, d2, d3] }
  | _ => none }
def napLongerRow : OpenClaim := { program := "ytekppfjlmedhpaa", sum := "c6b3a81b72b5146a2c9dffe9fb9f61c547d6b4f1f47cf760ccaf0189faeda862", func := "dormouse/dormouselaw08.NapLonger", spec := "napLonger", apart := false }
def NapLongerSaid : Prop := napLongerRow.holds Try.pinned (OpenSpec.ofChange napLongerSpec)

/-- ITS FALSE NEIGHBOUR: 'it returns false'. Refute it at one input. -/
def napLongerWrong : ChangeSpec := { name := "napLonger", fn := fun _ => fun
  | [d1, d2, d3] => { results := [.lit (.bool false)], args := [d1, d2, d3] }
  | _ => none }
def NapLongerWrongFalsely : Prop := napLongerRow.holds Try.pinned (OpenSpec.ofChange napLongerWrong)

/-- 'dormouselaw14.PickWho': WHATEVER THE INPUT: true; the input reads as it did. -/
def pickWhoSpec : ChangeSpec := { name := "pickWho", fn := fun _ => fun
  | [d1, d2, d3, d4] => { results := [.lit (.bool true)], args := [d1, d2, d3, d4] }
  | _ => none }
def pickWhoRow : OpenClaim := { program := "ytekppfjlmedhpaa", sum := "c6b3a81b72b5146a2c9dffe9fb9f61c547d6b4f1f47cf760ccaf0189faeda862", func := "dormouse/dormouselaw14.PickWho", spec := "pickWho", apart := false }
def PickWhoSaid : Prop := pickWhoRow.holds Try.pinned (OpenSpec.ofChange pickWhoSpec)

/-- ITS FALSE NEIGHBOUR: 'it returns false'. Refute it at one input. -/
def pickWhoWrong : ChangeSpec := { name := "pickWho", fn := fun _ => fun
  | [d1, d2, d3, d4] => { results := [.lit (.bool false)], args := [d1, d2, d3, d4] }
  | _ => none }
def PickWhoWrongFalsely : Prop := pickWhoRow.holds Try.pinned (OpenSpec.ofChange pickWhoWrong)

/-- 'dormouselaw14.PickStarted': WHATEVER THE INPUT: true; the input reads as it did. -/
def pickStartedSpec : ChangeSpec := { name := "pickStarted", fn := fun _ => fun
  | [d1, d2, d3, d4] => { results := [.lit (.bool true)], args := [d1, d2, d3, d4] }
  | _ => none }
def pickStartedRow : OpenClaim := { program := "ytekppfjlmedhpaa", sum := "c6b3a81b72b5146a2c9dffe9fb9f61c547d6b4f1f47cf760ccaf0189faeda862", func := "dormouse/dormouselaw14.PickStarted", spec := "pickStarted", apart := false }
def PickStartedSaid : Prop := pickStartedRow.holds Try.pinned (OpenSpec.ofChange pickStartedSpec)

/-- ITS FALSE NEIGHBOUR: 'it returns false'. Refute it at one input. -/
def pickStartedWrong : ChangeSpec := { name := "pickStarted", fn := fun _ => fun
  | [d1, d2, d3, d4] => { results := [.lit (.bool false)], args := [d1, d2, d3, d4] }
  | _ => none }
def PickStartedWrongFalsely : Prop := pickStartedRow.holds Try.pinned (OpenSpec.ofChange pickStartedWrong)

/-- 'dormouselaw14.PickFree': WHATEVER THE INPUT: true; the input reads as it did. -/
def pickFreeSpec : ChangeSpec := { name := "pickFree", fn := fun _ => fun
  | [d1, d2, d3] => { results := [.lit (.bool true)], args := [d1, d2, d3] }
  | _ => none }
def pickFreeRow : OpenClaim := { program := "ytekppfjlmedhpaa", sum := "c6b3a81b72b5146a2c9dffe9fb9f61c547d6b4f1f47cf760ccaf0189faeda862", func := "dormouse/dormouselaw14.PickFree", spec := "pickFree", apart := false }
def PickFreeSaid : Prop := pickFreeRow.holds Try.pinned (OpenSpec.ofChange pickFreeSpec)

/-- ITS FALSE NEIGHBOUR: 'it returns false'. Refute it at one input. -/
def pickFreeWrong : ChangeSpec := { name := "pickFree", fn := fun _ => fun
  | [d1, d2, d3] => { results := [.lit (.bool false)], args := [d1, d2, d3] }
  | _ => none }
def PickFreeWrongFalsely : Prop := pickFreeRow.holds Try.pinned (OpenSpec.ofChange pickFreeWrong)

/-- 'dormouselaw14.PickHeld': WHATEVER THE INPUT: true; the input reads as it did. -/
def pickHeldSpec : ChangeSpec := { name := "pickHeld", fn := fun _ => fun
  | [d1, d2, d3, d4] => { results := [.lit (.bool true)], args := [d1, d2, d3, d4] }
  | _ => none }
def pickHeldRow : OpenClaim := { program := "ytekppfjlmedhpaa", sum := "c6b3a81b72b5146a2c9dffe9fb9f61c547d6b4f1f47cf760ccaf0189faeda862", func := "dormouse/dormouselaw14.PickHeld", spec := "pickHeld", apart := false }
def PickHeldSaid : Prop := pickHeldRow.holds Try.pinned (OpenSpec.ofChange pickHeldSpec)

/-- ITS FALSE NEIGHBOUR: 'it returns false'. Refute it at one input. -/
def pickHeldWrong : ChangeSpec := { name := "pickHeld", fn := fun _ => fun
  | [d1, d2, d3, d4] => { results := [.lit (.bool false)], args := [d1, d2, d3, d4] }
  | _ => none }
def PickHeldWrongFalsely : Prop := pickHeldRow.holds Try.pinned (OpenSpec.ofChange pickHeldWrong)

/-- 'dormouselaw21.GaugeBound': WHATEVER THE INPUT: true; the input reads as it did. -/
def gaugeBoundSpec : ChangeSpec := { name := "gaugeBound", fn := fun _ => fun
  | [d1, d2, d3] => { results := [.lit (.bool true)], args := [d1, d2, d3] }
  | _ => none }
def gaugeBoundRow : OpenClaim := { program := "ytekppfjlmedhpaa", sum := "c6b3a81b72b5146a2c9dffe9fb9f61c547d6b4f1f47cf760ccaf0189faeda862", func := "dormouse/dormouselaw21.GaugeBound", spec := "gaugeBound", apart := false }
def GaugeBoundSaid : Prop := gaugeBoundRow.holds Try.pinned (OpenSpec.ofChange gaugeBoundSpec)

/-- ITS FALSE NEIGHBOUR: 'it returns false'. Refute it at one input. -/
def gaugeBoundWrong : ChangeSpec := { name := "gaugeBound", fn := fun _ => fun
  | [d1, d2, d3] => { results := [.lit (.bool false)], args := [d1, d2, d3] }
  | _ => none }
def GaugeBoundWrongFalsely : Prop := gaugeBoundRow.holds Try.pinned (OpenSpec.ofChange gaugeBoundWrong)

/-- 'dormouselaw21.GaugeCounts': WHATEVER THE INPUT: true; the input reads as it did. -/
def gaugeCountsSpec : ChangeSpec := { name := "gaugeCounts", fn := fun _ => fun
  | [d] => { results := [.lit (.bool true)], args := [d] }
  | _ => none }
def gaugeCountsRow : OpenClaim := { program := "ytekppfjlmedhpaa", sum := "c6b3a81b72b5146a2c9dffe9fb9f61c547d6b4f1f47cf760ccaf0189faeda862", func := "dormouse/dormouselaw21.GaugeCounts", spec := "gaugeCounts", apart := false }
def GaugeCountsSaid : Prop := gaugeCountsRow.holds Try.pinned (OpenSpec.ofChange gaugeCountsSpec)

/-- ITS FALSE NEIGHBOUR: 'it returns false'. Refute it at one input. -/
def gaugeCountsWrong : ChangeSpec := { name := "gaugeCounts", fn := fun _ => fun
  | [d] => { results := [.lit (.bool false)], args := [d] }
  | _ => none }
def GaugeCountsWrongFalsely : Prop := gaugeCountsRow.holds Try.pinned (OpenSpec.ofChange gaugeCountsWrong)

/-- 'dormouselaw21.GaugeLevels': WHATEVER THE INPUT: true; the input reads as it did. -/
def gaugeLevelsSpec : ChangeSpec := { name := "gaugeLevels", fn := fun _ => fun
  | [d1, d2, d3, d4, d5, d6] => { results := [.lit (.bool true)], args := [d1, d2, d3, d4, d5, d6] }
  | _ => none }
def gaugeLevelsRow : OpenClaim := { program := "ytekppfjlmedhpaa", sum := "c6b3a81b72b5146a2c9dffe9fb9f61c547d6b4f1f47cf760ccaf0189faeda862", func := "dormouse/dormouselaw21.GaugeLevels", spec := "gaugeLevels", apart := false }
def GaugeLevelsSaid : Prop := gaugeLevelsRow.holds Try.pinned (OpenSpec.ofChange gaugeLevelsSpec)

/-- ITS FALSE NEIGHBOUR: 'it returns false'. Refute it at one input. -/
def gaugeLevelsWrong : ChangeSpec := { name := "gaugeLevels", fn := fun _ => fun
  | [d1, d2, d3, d4, d5, d6] => { results := [.lit (.bool false)], args := [d1, d2, d3, d4, d5, d6] }
  | _ => none }
def GaugeLevelsWrongFalsely : Prop := gaugeLevelsRow.holds Try.pinned (OpenSpec.ofChange gaugeLevelsWrong)

/-- 'dormouselaw21.GaugeParts': WHATEVER THE INPUT: true; the input reads as it did. -/
def gaugePartsSpec : ChangeSpec := { name := "gaugeParts", fn := fun _ => fun
  | [d1, d2] => { results := [.lit (.bool true)], args := [d1, d2] }
  | _ => none }
def gaugePartsRow : OpenClaim := { program := "ytekppfjlmedhpaa", sum := "c6b3a81b72b5146a2c9dffe9fb9f61c547d6b4f1f47cf760ccaf0189faeda862", func := "dormouse/dormouselaw21.GaugeParts", spec := "gaugeParts", apart := false }
def GaugePartsSaid : Prop := gaugePartsRow.holds Try.pinned (OpenSpec.ofChange gaugePartsSpec)

/-- ITS FALSE NEIGHBOUR: 'it returns false'. Refute it at one input. -/
def gaugePartsWrong : ChangeSpec := { name := "gaugeParts", fn := fun _ => fun
  | [d1, d2] => { results := [.lit (.bool false)], args := [d1, d2] }
  | _ => none }
def GaugePartsWrongFalsely : Prop := gaugePartsRow.holds Try.pinned (OpenSpec.ofChange gaugePartsWrong)

/- THE SECOND FORM. 'bulk': how many values and letters a reading holds, each counted each time it is reached (what is shared counts as often as it is met; a slice's spare places count too). A statement '..UptoSaid' is the law's where the arguments, and the package variables that the reading takes, are together of bulk at most 1048576: NARROWER than '..Said'. Prove '..Said' where nothing that the law and all that it calls make is longer than what came in: it says more and counts as full. Else prove '..UptoSaid'. A law counts once. -/
mutual
def uptoBulk {H : Type} : DataW H → Nat
  | .lit (.string bytes) => bytes.length + 1
  | .lit _ => 1
  | .nil => 1
  | .ptr d => uptoBulk d + 1
  | .slice elems spare => uptoBulkAll elems + uptoBulkAll spare + 1
  | .agg parts => uptoBulkAll parts + 1
  | .iface _ d => uptoBulk d + 1
  | .map entries => uptoBulkEntries entries + 1
  | .held _ => 1
def uptoBulkAll {H : Type} : List (DataW H) → Nat
  | [] => 0
  | d :: r => uptoBulk d + uptoBulkAll r
def uptoBulkEntries {H : Type} : List (Lit × DataW H) → Nat
  | [] => 0
  | x :: r => uptoBulkEntry x + uptoBulkEntries r
def uptoBulkEntry {H : Type} : Lit × DataW H → Nat
  | (.string bytes, d) => bytes.length + uptoBulk d + 1
  | (_, d) => uptoBulk d + 1
 end
def uptoSmall : (H : Type) → List (DataW H) → Bool := fun _ ds => decide (uptoBulkAll ds ≤ 1048576)
def OpenSpec.upto (s : _root_.Go.ChangeSpec) : _root_.Go.OpenSpec := { _root_.Go.OpenSpec.ofChange s with cond := some uptoSmall }

/-- 'dormouselaw08.NapCost', WHERE WHAT IT READS IS OF BULK AT MOST 1048576: true; the input reads as it did. -/
def napCostUptoRow : OpenClaim := { program := "ytekppfjlmedhpaa", sum := "c6b3a81b72b5146a2c9dffe9fb9f61c547d6b4f1f47cf760ccaf0189faeda862", func := "dormouse/dormouselaw08.NapCost", spec := "napCost", apart := false, narrowed := true }
def NapCostUptoSaid : Prop := napCostUptoRow.holds Try.pinned (OpenSpec.upto napCostSpec)

/-- 'dormouselaw08.NapBest', WHERE WHAT IT READS IS OF BULK AT MOST 1048576: true; the input reads as it did. -/
def napBestUptoRow : OpenClaim := { program := "ytekppfjlmedhpaa", sum := "c6b3a81b72b5146a2c9dffe9fb9f61c547d6b4f1f47cf760ccaf0189faeda862", func := "dormouse/dormouselaw08.NapBest", spec := "napBest", apart := false, narrowed := true }
def NapBestUptoSaid : Prop := napBestUptoRow.holds Try.pinned (OpenSpec.upto napBestSpec)

/-- 'dormouselaw08.NapLeast', WHERE WHAT IT READS IS OF BULK AT MOST 1048576: true; the input reads as it did. -/
def napLeastUptoRow : OpenClaim := { program := "ytekppfjlmedhpaa", sum := "c6b3a81b72b5146a2c9dffe9fb9f61c547d6b4f1f47cf760ccaf0189faeda862", func := "dormouse/dormouselaw08.NapLeast", spec := "napLeast", apart := false, narrowed := true }
def NapLeastUptoSaid : Prop := napLeastUptoRow.holds Try.pinned (OpenSpec.upto napLeastSpec)

/-- 'dormouselaw08.NapLonger', WHERE WHAT IT READS IS OF BULK AT MOST 1048576: true; the input reads as it did. -/
def napLongerUptoRow : OpenClaim := { program := "ytekppfjlmedhpaa", sum := "c6b3a81b72b5146a2c9dffe9fb9f61c547d6b4f1f47cf760ccaf0189faeda862", func := "dormouse/dormouselaw08.NapLonger", spec := "napLonger", apart := false, narrowed := true }
def NapLongerUptoSaid : Prop := napLongerUptoRow.holds Try.pinned (OpenSpec.upto napLongerSpec)

/-- 'dormouselaw14.PickWho', WHERE WHAT IT READS IS OF BULK AT MOST 1048576: true; the input reads as it did. -/
def pickWhoUptoRow : OpenClaim := { program := "ytekppfjlmedhpaa", sum := "c6b3a81b72b5146a2c9dffe9fb9f61c547d6b4f1f47cf760ccaf0189faeda862", func := "dormouse/dormouselaw14.PickWho", spec := "pickWho", apart := false, narrowed := true }
def PickWhoUptoSaid : Prop := pickWhoUptoRow.holds Try.pinned (OpenSpec.upto pickWhoSpec)

/-- 'dormouselaw14.PickStarted', WHERE WHAT IT READS IS OF BULK AT MOST 1048576: true; the input reads as it did. -/
def pickStartedUptoRow : OpenClaim := { program := "ytekppfjlmedhpaa", sum := "c6b3a81b72b5146a2c9dffe9fb9f61c547d6b4f1f47cf760ccaf0189faeda862", func := "dormouse/dormouselaw14.PickStarted", spec := "pickStarted", apart := false, narrowed := true }
def PickStartedUptoSaid : Prop := pickStartedUptoRow.holds Try.pinned (OpenSpec.upto pickStartedSpec)

/-- 'dormouselaw14.PickFree', WHERE WHAT IT READS IS OF BULK AT MOST 1048576: true; the input reads as it did. -/
def pickFreeUptoRow : OpenClaim := { program := "ytekppfjlmedhpaa", sum := "c6b3a81b72b5146a2c9dffe9fb9f61c547d6b4f1f47cf760ccaf0189faeda862", func := "dormouse/dormouselaw14.PickFree", spec := "pickFree", apart := false, narrowed := true }
def PickFreeUptoSaid : Prop := pickFreeUptoRow.holds Try.pinned (OpenSpec.upto pickFreeSpec)

/-- 'dormouselaw14.PickHeld', WHERE WHAT IT READS IS OF BULK AT MOST 1048576: true; the input reads as it did. -/
def pickHeldUptoRow : OpenClaim := { program := "ytekppfjlmedhpaa", sum := "c6b3a81b72b5146a2c9dffe9fb9f61c547d6b4f1f47cf760ccaf0189faeda862", func := "dormouse/dormouselaw14.PickHeld", spec := "pickHeld", apart := false, narrowed := true }
def PickHeldUptoSaid : Prop := pickHeldUptoRow.holds Try.pinned (OpenSpec.upto pickHeldSpec)

/-- 'dormouselaw21.GaugeBound', WHERE WHAT IT READS IS OF BULK AT MOST 1048576: true; the input reads as it did. -/
def gaugeBoundUptoRow : OpenClaim := { program := "ytekppfjlmedhpaa", sum := "c6b3a81b72b5146a2c9dffe9fb9f61c547d6b4f1f47cf760ccaf0189faeda862", func := "dormouse/dormouselaw21.GaugeBound", spec := "gaugeBound", apart := false, narrowed := true }
def GaugeBoundUptoSaid : Prop := gaugeBoundUptoRow.holds Try.pinned (OpenSpec.upto gaugeBoundSpec)

/-- 'dormouselaw21.GaugeCounts', WHERE WHAT IT READS IS OF BULK AT MOST 1048576: true; the input reads as it did. -/
def gaugeCountsUptoRow : OpenClaim := { program := "ytekppfjlmedhpaa", sum := "c6b3a81b72b5146a2c9dffe9fb9f61c547d6b4f1f47cf760ccaf0189faeda862", func := "dormouse/dormouselaw21.GaugeCounts", spec := "gaugeCounts", apart := false, narrowed := true }
def GaugeCountsUptoSaid : Prop := gaugeCountsUptoRow.holds Try.pinned (OpenSpec.upto gaugeCountsSpec)

/-- 'dormouselaw21.GaugeLevels', WHERE WHAT IT READS IS OF BULK AT MOST 1048576: true; the input reads as it did. -/
def gaugeLevelsUptoRow : OpenClaim := { program := "ytekppfjlmedhpaa", sum := "c6b3a81b72b5146a2c9dffe9fb9f61c547d6b4f1f47cf760ccaf0189faeda862", func := "dormouse/dormouselaw21.GaugeLevels", spec := "gaugeLevels", apart := false, narrowed := true }
def GaugeLevelsUptoSaid : Prop := gaugeLevelsUptoRow.holds Try.pinned (OpenSpec.upto gaugeLevelsSpec)

/-- 'dormouselaw21.GaugeParts', WHERE WHAT IT READS IS OF BULK AT MOST 1048576: true; the input reads as it did. -/
def gaugePartsUptoRow : OpenClaim := { program := "ytekppfjlmedhpaa", sum := "c6b3a81b72b5146a2c9dffe9fb9f61c547d6b4f1f47cf760ccaf0189faeda862", func := "dormouse/dormouselaw21.GaugeParts", spec := "gaugeParts", apart := false, narrowed := true }
def GaugePartsUptoSaid : Prop := gaugePartsUptoRow.holds Try.pinned (OpenSpec.upto gaugePartsSpec)

end Rows
end Go.Proofs.Ytekppfjlmedhpaa
