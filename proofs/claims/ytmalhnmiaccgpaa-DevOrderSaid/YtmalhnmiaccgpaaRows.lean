/-
  No cell of these rows narrows 'for every input' (looked for: loops, veiled, ifaces, maps, wideKeys, modest, calm, conditions, laid).
  DERIVED. THE GIVEN ROWS OF THIS SEAT. 7 by the template 'for every input the law returns true; each argument reads behind the call as it read before'; 0 by the template 'total and deterministic' (their statements: YtmalhnmiaccgpaaTotals.lean).
  GIVEN WITH THE SEED: the statements are not yours to turn. If you find one false, say at which input.
  Laid BY PROGRAM, IN A SANDBOX (cutbox-rows.mjs): the forced cells as the released guide's own fill.sh prints them over the translation 9b54633958dbe1c4… (all of the seat's roots in one cut). By AI agents, Wed Nov 11 2026. No macro, syntax, notation, axiom, sorry.
-/
import Derived.Test.YtmalhnmiaccgpaaChecked
import GoSem.Claim
import GoSem.ClaimJoined
import GoSem.ClaimMapViews
import Derived.JoinedTies
import Derived.KernelRfl
namespace Go.Proofs.Ytmalhnmiaccgpaa
/- THE CELL 'sum', in the pinned program and in every row, IS THE sha256 OF THE DUMP (.gsa) THAT YtmalhnmiaccgpaaProg.lean LOADS. Nothing in Lean hashes anything: it is a label: what it is worth is what the hold of that sum in a sandbox is worth. -/
noncomputable def Try.pinned : Pinned := { name := "ytmalhnmiaccgpaa", sum := "9b54633958dbe1c4613af61b0a88875d6d6878a638aed2b3cd03c09da565b2ed", checked := Try.checked }
namespace Rows
def none {H : Type} : Left H := { results := [], args := [] }

/-- 'dormouselaw07.DevStates': WHATEVER THE INPUT: true; the input reads as it did. -/
def devStatesSpec : ChangeSpec := { name := "devStates", fn := fun _ => fun
  | [d1, d2, d3] => { results := [.lit (.bool true)], args := [d1, d2, d3] }
  | _ => none }
def devStatesRow : OpenClaim := { program := "ytmalhnmiaccgpaa", sum := "9b54633958dbe1c4613af61b0a88875d6d6878a638aed2b3cd03c09da565b2ed", func := "dormouse/dormouselaw07.DevStates", spec := "devStates", apart := false }
def DevStatesSaid : Prop := devStatesRow.holds Try.pinned (OpenSpec.ofChange devStatesSpec)

/-- ITS FALSE NEIGHBOUR: 'it returns false'. Refute it at one input. -/
def devStatesWrong : ChangeSpec := { name := "devStates", fn := fun _ => fun
  | [d1, d2, d3] => { results := [.lit (.bool false)], args := [d1, d2, d3] }
  | _ => none }
def DevStatesWrongFalsely : Prop := devStatesRow.holds Try.pinned (OpenSpec.ofChange devStatesWrong)

/-- 'dormouselaw07.DevAways': WHATEVER THE INPUT: true; the input reads as it did. -/
def devAwaysSpec : ChangeSpec := { name := "devAways", fn := fun _ => fun
  | [d1, d2, d3, d4] => { results := [.lit (.bool true)], args := [d1, d2, d3, d4] }
  | _ => none }
def devAwaysRow : OpenClaim := { program := "ytmalhnmiaccgpaa", sum := "9b54633958dbe1c4613af61b0a88875d6d6878a638aed2b3cd03c09da565b2ed", func := "dormouse/dormouselaw07.DevAways", spec := "devAways", apart := false }
def DevAwaysSaid : Prop := devAwaysRow.holds Try.pinned (OpenSpec.ofChange devAwaysSpec)

/-- ITS FALSE NEIGHBOUR: 'it returns false'. Refute it at one input. -/
def devAwaysWrong : ChangeSpec := { name := "devAways", fn := fun _ => fun
  | [d1, d2, d3, d4] => { results := [.lit (.bool false)], args := [d1, d2, d3, d4] }
  | _ => none }
def DevAwaysWrongFalsely : Prop := devAwaysRow.holds Try.pinned (OpenSpec.ofChange devAwaysWrong)

/-- 'dormouselaw07.DevCalls': WHATEVER THE INPUT: true; the input reads as it did. -/
def devCallsSpec : ChangeSpec := { name := "devCalls", fn := fun _ => fun
  | [d1, d2, d3] => { results := [.lit (.bool true)], args := [d1, d2, d3] }
  | _ => none }
def devCallsRow : OpenClaim := { program := "ytmalhnmiaccgpaa", sum := "9b54633958dbe1c4613af61b0a88875d6d6878a638aed2b3cd03c09da565b2ed", func := "dormouse/dormouselaw07.DevCalls", spec := "devCalls", apart := false }
def DevCallsSaid : Prop := devCallsRow.holds Try.pinned (OpenSpec.ofChange devCallsSpec)

/-- ITS FALSE NEIGHBOUR: 'it returns false'. Refute it at one input. -/
def devCallsWrong : ChangeSpec := { name := "devCalls", fn := fun _ => fun
  | [d1, d2, d3] => { results := [.lit (.bool false)], args := [d1, d2, d3] }
  | _ => none }
def DevCallsWrongFalsely : Prop := devCallsRow.holds Try.pinned (OpenSpec.ofChange devCallsWrong)

/-- 'dormouselaw07.DevEnergy': WHATEVER THE INPUT: true; the input reads as it did. -/
def devEnergySpec : ChangeSpec := { name := "devEnergy", fn := fun _ => fun
  | [d1, d2, d3] => { results := [.lit (.bool true)], args := [d1, d2, d3] }
  | _ => none }
def devEnergyRow : OpenClaim := { program := "ytmalhnmiaccgpaa", sum := "9b54633958dbe1c4613af61b0a88875d6d6878a638aed2b3cd03c09da565b2ed", func := "dormouse/dormouselaw07.DevEnergy", spec := "devEnergy", apart := false }
def DevEnergySaid : Prop := devEnergyRow.holds Try.pinned (OpenSpec.ofChange devEnergySpec)

/-- ITS FALSE NEIGHBOUR: 'it returns false'. Refute it at one input. -/
def devEnergyWrong : ChangeSpec := { name := "devEnergy", fn := fun _ => fun
  | [d1, d2, d3] => { results := [.lit (.bool false)], args := [d1, d2, d3] }
  | _ => none }
def DevEnergyWrongFalsely : Prop := devEnergyRow.holds Try.pinned (OpenSpec.ofChange devEnergyWrong)

/-- 'dormouselaw07.DevAccrues': WHATEVER THE INPUT: true; the input reads as it did. -/
def devAccruesSpec : ChangeSpec := { name := "devAccrues", fn := fun _ => fun
  | [d1, d2, d3] => { results := [.lit (.bool true)], args := [d1, d2, d3] }
  | _ => none }
def devAccruesRow : OpenClaim := { program := "ytmalhnmiaccgpaa", sum := "9b54633958dbe1c4613af61b0a88875d6d6878a638aed2b3cd03c09da565b2ed", func := "dormouse/dormouselaw07.DevAccrues", spec := "devAccrues", apart := false }
def DevAccruesSaid : Prop := devAccruesRow.holds Try.pinned (OpenSpec.ofChange devAccruesSpec)

/-- ITS FALSE NEIGHBOUR: 'it returns false'. Refute it at one input. -/
def devAccruesWrong : ChangeSpec := { name := "devAccrues", fn := fun _ => fun
  | [d1, d2, d3] => { results := [.lit (.bool false)], args := [d1, d2, d3] }
  | _ => none }
def DevAccruesWrongFalsely : Prop := devAccruesRow.holds Try.pinned (OpenSpec.ofChange devAccruesWrong)

/-- 'dormouselaw07.DevSaves': WHATEVER THE INPUT: true; the input reads as it did. -/
def devSavesSpec : ChangeSpec := { name := "devSaves", fn := fun _ => fun
  | [d1, d2, d3, d4] => { results := [.lit (.bool true)], args := [d1, d2, d3, d4] }
  | _ => none }
def devSavesRow : OpenClaim := { program := "ytmalhnmiaccgpaa", sum := "9b54633958dbe1c4613af61b0a88875d6d6878a638aed2b3cd03c09da565b2ed", func := "dormouse/dormouselaw07.DevSaves", spec := "devSaves", apart := false }
def DevSavesSaid : Prop := devSavesRow.holds Try.pinned (OpenSpec.ofChange devSavesSpec)

/-- ITS FALSE NEIGHBOUR: 'it returns false'. Refute it at one input. -/
def devSavesWrong : ChangeSpec := { name := "devSaves", fn := fun _ => fun
  | [d1, d2, d3, d4] => { results := [.lit (.bool false)], args := [d1, d2, d3, d4] }
  | _ => none }
def DevSavesWrongFalsely : Prop := devSavesRow.holds Try.pinned (OpenSpec.ofChange devSavesWrong)

/-- 'dormouselaw07.DevOrder': WHATEVER THE INPUT: true; the input reads as it did. -/
def devOrderSpec : ChangeSpec := { name := "devOrder", fn := fun _ => fun
  | [d1, d2, d3] => { results := [.lit (.bool true)], args := [d1, d2, d3] }
  | _ => none }
def devOrderRow : OpenClaim := { program := "ytmalhnmiaccgpaa", sum := "9b54633958dbe1c4613af61b0a88875d6d6878a638aed2b3cd03c09da565b2ed", func := "dormouse/dormouselaw07.DevOrder", spec := "devOrder", apart := false }
def DevOrderSaid : Prop := devOrderRow.holds Try.pinned (OpenSpec.ofChange devOrderSpec)

/-- ITS FALSE NEIGHBOUR: 'it returns false'. Refute it at one input. -/
def devOrderWrong : ChangeSpec := { name := "devOrder", fn := fun _ => fun
  | [d1, d2, d3] => { results := [.lit (.bool false)], args := [d1, d2, d3] }
  | _ => none }
def DevOrderWrongFalsely : Prop := devOrderRow.holds Try.pinned (OpenSpec.ofChange devOrderWrong)

/- THE SECOND FORM. 'bulk': how many values and letters a reading holds, each counted each time it is reached (what is shared counts as often as it is met; a slice's spare places count too). A statement '..UptoSaid' is the law's where the arguments, and the package variables that the reading takes, are together of bulk at most 1048576: NARROWER than '..Said'. Prove '..Said' where nothing that the law and all that it calls make is longer than what came in: it says more and counts as full. Else prove '..UptoSaid'. A law counts once. -/
mutual
def uptoBulk {H : Type} : DataW H → Nat
  | .lit (.string bytes) => bytes.length + 1
  | .lit _ => 1
  | .nil => 1
  | .ptr d => uptoBulk d + 1
  | .slice elems spare => uptoBulkAll elems + uptoBulkAll spare + 1
  | .agg parts => uptoBulkAll parts + 1
  | .iface _ d => uptoBulk d + 1
  | .map entries => uptoBulkEntries entries + 1
  | .held _ => 1
def uptoBulkAll {H : Type} : List (DataW H) → Nat
  | [] => 0
  | d :: r => uptoBulk d + uptoBulkAll r
def uptoBulkEntries {H : Type} : List (Lit × DataW H) → Nat
  | [] => 0
  | x :: r => uptoBulkEntry x + uptoBulkEntries r
def uptoBulkEntry {H : Type} : Lit × DataW H → Nat
  | (.string bytes, d) => bytes.length + uptoBulk d + 1
  | (_, d) => uptoBulk d + 1
 end
def uptoSmall : (H : Type) → List (DataW H) → Bool := fun _ ds => decide (uptoBulkAll ds ≤ 1048576)
def OpenSpec.upto (s : _root_.Go.ChangeSpec) : _root_.Go.OpenSpec := { _root_.Go.OpenSpec.ofChange s with cond := some uptoSmall }

/-- 'dormouselaw07.DevStates', WHERE WHAT IT READS IS OF BULK AT MOST 1048576: true; the input reads as it did. -/
def devStatesUptoRow : OpenClaim := { program := "ytmalhnmiaccgpaa", sum := "9b54633958dbe1c4613af61b0a88875d6d6878a638aed2b3cd03c09da565b2ed", func := "dormouse/dormouselaw07.DevStates", spec := "devStates", apart := false, narrowed := true }
def DevStatesUptoSaid : Prop := devStatesUptoRow.holds Try.pinned (OpenSpec.upto devStatesSpec)

/-- 'dormouselaw07.DevAways', WHERE WHAT IT READS IS OF BULK AT MOST 1048576: true; the input reads as it did. -/
def devAwaysUptoRow : OpenClaim := { program := "ytmalhnmiaccgpaa", sum := "9b54633958dbe1c4613af61b0a88875d6d6878a638aed2b3cd03c09da565b2ed", func := "dormouse/dormouselaw07.DevAways", spec := "devAways", apart := false, narrowed := true }
def DevAwaysUptoSaid : Prop := devAwaysUptoRow.holds Try.pinned (OpenSpec.upto devAwaysSpec)

/-- 'dormouselaw07.DevCalls', WHERE WHAT IT READS IS OF BULK AT MOST 1048576: true; the input reads as it did. -/
def devCallsUptoRow : OpenClaim := { program := "ytmalhnmiaccgpaa", sum := "9b54633958dbe1c4613af61b0a88875d6d6878a638aed2b3cd03c09da565b2ed", func := "dormouse/dormouselaw07.DevCalls", spec := "devCalls", apart := false, narrowed := true }
def DevCallsUptoSaid : Prop := devCallsUptoRow.holds Try.pinned (OpenSpec.upto devCallsSpec)

/-- 'dormouselaw07.DevEnergy', WHERE WHAT IT READS IS OF BULK AT MOST 1048576: true; the input reads as it did. -/
def devEnergyUptoRow : OpenClaim := { program := "ytmalhnmiaccgpaa", sum := "9b54633958dbe1c4613af61b0a88875d6d6878a638aed2b3cd03c09da565b2ed", func := "dormouse/dormouselaw07.DevEnergy", spec := "devEnergy", apart := false, narrowed := true }
def DevEnergyUptoSaid : Prop := devEnergyUptoRow.holds Try.pinned (OpenSpec.upto devEnergySpec)

/-- 'dormouselaw07.DevAccrues', WHERE WHAT IT READS IS OF BULK AT MOST 1048576: true; the input reads as it did. -/
def devAccruesUptoRow : OpenClaim := { program := "ytmalhnmiaccgpaa", sum := "9b54633958dbe1c4613af61b0a88875d6d6878a638aed2b3cd03c09da565b2ed", func := "dormouse/dormouselaw07.DevAccrues", spec := "devAccrues", apart := false, narrowed := true }
def DevAccruesUptoSaid : Prop := devAccruesUptoRow.holds Try.pinned (OpenSpec.upto devAccruesSpec)

/-- 'dormouselaw07.DevSaves', WHERE WHAT IT READS IS OF BULK AT MOST 1048576: true; the input reads as it did. -/
def devSavesUptoRow : OpenClaim := { program := "ytmalhnmiaccgpaa", sum := "9b54633958dbe1c4613af61b0a88875d6d6878a638aed2b3cd03c09da565b2ed", func := "dormouse/dormouselaw07.DevSaves", spec := "devSaves", apart := false, narrowed := true }
def DevSavesUptoSaid : Prop := devSavesUptoRow.holds Try.pinned (OpenSpec.upto devSavesSpec)

/-- 'dormouselaw07.DevOrder', WHERE WHAT IT READS IS OF BULK AT MOST 1048576: true; the input reads as it did. -/
def devOrderUptoRow : OpenClaim := { program := "ytmalhnmiaccgpaa", sum := "9b54633958dbe1c4613af61b0a88875d6d6878a638aed2b3cd03c09da565b2ed", func := "dormouse/dormouselaw07.DevOrder", spec := "devOrder", apart := false, narrowed := true }
def DevOrderUptoSaid : Prop := devOrderUptoRow.holds Try.pinned (OpenSpec.upto devOrderSpec)

end Rows
end Go.Proofs.Ytmalhnmiaccgpaa
