/-
  No cell of these rows narrows 'for every input' (looked for: loops, veiled, ifaces, maps, wideKeys, modest, calm, conditions, laid).
  DERIVED. THE GIVEN ROWS OF THIS SEAT. 8 by the template 'for every input the law returns true; each argument reads behind the call as it read before'; 0 by the template 'total and deterministic' (their statements: YtajilfnceoeaiaaGreatTotals.lean).
  GIVEN WITH THE SEED: the statements are not yours to turn. If you find one false, say at which input.
  Laid BY PROGRAM, IN A SANDBOX (cutbox-rows.mjs): the forced cells as the released guide's own fill.sh prints them over the translation 32479f42dfaade53… (all of the seat's roots in one cut). By AI agents, Wed Nov 11 2026. No macro, syntax, notation, axiom, sorry.
-/
import Derived.Test.YtajilfnceoeaiaaGreatChecked
import GoSem.Claim
import GoSem.ClaimJoined
import GoSem.ClaimMapViews
import Derived.JoinedTies
import Derived.KernelRfl
namespace Go.Proofs.YtajilfnceoeaiaaGreat
/- THE CELL 'sum', in the pinned program and in every row, IS THE sha256 OF THE DUMP (.gsa) THAT YtajilfnceoeaiaaGreatProg.lean LOADS. Nothing in Lean hashes anything: it is a label: what it is worth is what the hold of that sum in a sandbox is worth. -/
noncomputable def Tryz.pinned : Pinned := { name := "ytajilfnceoeaiaagreat", sum := "32479f42dfaade53675dbbe9207b16e187ee2956eeb60f422ac917c1924430d7", checked := Tryz.checked }
namespace Rows
def none {H : Type} : Left H := { results := [], args := [] }

/-- 'dormousetop.WholeTimers': WHATEVER THE INPUT: true; the input reads as it did. -/
def wholeTimersSpec : ChangeSpec := { name := "wholeTimers", fn := fun _ => fun
  | [d1, d2, d3, d4, d5, d6] => { results := [.lit (.bool true)], args := [d1, d2, d3, d4, d5, d6] }
  | _ => none }
def wholeTimersRow : OpenClaim := { program := "ytajilfnceoeaiaagreat", sum := "32479f42dfaade53675dbbe9207b16e187ee2956eeb60f422ac917c1924430d7", func := "dormouse/dormousetop.WholeTimers", spec := "wholeTimers", unfollowed := true, recurses := true, apart := false }
def WholeTimersSaid : Prop := wholeTimersRow.holds Tryz.pinned (OpenSpec.ofChange wholeTimersSpec)

/-- ITS FALSE NEIGHBOUR: 'it returns false'. Refute it at one input. -/
def wholeTimersWrong : ChangeSpec := { name := "wholeTimers", fn := fun _ => fun
  | [d1, d2, d3, d4, d5, d6] => { results := [.lit (.bool false)], args := [d1, d2, d3, d4, d5, d6] }
  | _ => none }
def WholeTimersWrongFalsely : Prop := wholeTimersRow.holds Tryz.pinned (OpenSpec.ofChange wholeTimersWrong)

/-- 'dormousetop.WholeMeets': WHATEVER THE INPUT: true; the input reads as it did. -/
def wholeMeetsSpec : ChangeSpec := { name := "wholeMeets", fn := fun _ => fun
  | [d1, d2] => { results := [.lit (.bool true)], args := [d1, d2] }
  | _ => none }
def wholeMeetsRow : OpenClaim := { program := "ytajilfnceoeaiaagreat", sum := "32479f42dfaade53675dbbe9207b16e187ee2956eeb60f422ac917c1924430d7", func := "dormouse/dormousetop.WholeMeets", spec := "wholeMeets", unfollowed := true, recurses := true, apart := false }
def WholeMeetsSaid : Prop := wholeMeetsRow.holds Tryz.pinned (OpenSpec.ofChange wholeMeetsSpec)

/-- ITS FALSE NEIGHBOUR: 'it returns false'. Refute it at one input. -/
def wholeMeetsWrong : ChangeSpec := { name := "wholeMeets", fn := fun _ => fun
  | [d1, d2] => { results := [.lit (.bool false)], args := [d1, d2] }
  | _ => none }
def WholeMeetsWrongFalsely : Prop := wholeMeetsRow.holds Tryz.pinned (OpenSpec.ofChange wholeMeetsWrong)

/-- 'dormousetop.WholeApart': WHATEVER THE INPUT: true; the input reads as it did. -/
def wholeApartSpec : ChangeSpec := { name := "wholeApart", fn := fun _ => fun
  | [d1, d2] => { results := [.lit (.bool true)], args := [d1, d2] }
  | _ => none }
def wholeApartRow : OpenClaim := { program := "ytajilfnceoeaiaagreat", sum := "32479f42dfaade53675dbbe9207b16e187ee2956eeb60f422ac917c1924430d7", func := "dormouse/dormousetop.WholeApart", spec := "wholeApart", unfollowed := true, recurses := true, apart := false }
def WholeApartSaid : Prop := wholeApartRow.holds Tryz.pinned (OpenSpec.ofChange wholeApartSpec)

/-- ITS FALSE NEIGHBOUR: 'it returns false'. Refute it at one input. -/
def wholeApartWrong : ChangeSpec := { name := "wholeApart", fn := fun _ => fun
  | [d1, d2] => { results := [.lit (.bool false)], args := [d1, d2] }
  | _ => none }
def WholeApartWrongFalsely : Prop := wholeApartRow.holds Tryz.pinned (OpenSpec.ofChange wholeApartWrong)

/-- 'dormousetop.WholeSaves': WHATEVER THE INPUT: true; the input reads as it did. -/
def wholeSavesSpec : ChangeSpec := { name := "wholeSaves", fn := fun _ => fun
  | [d1, d2] => { results := [.lit (.bool true)], args := [d1, d2] }
  | _ => none }
def wholeSavesRow : OpenClaim := { program := "ytajilfnceoeaiaagreat", sum := "32479f42dfaade53675dbbe9207b16e187ee2956eeb60f422ac917c1924430d7", func := "dormouse/dormousetop.WholeSaves", spec := "wholeSaves", unfollowed := true, recurses := true, apart := false }
def WholeSavesSaid : Prop := wholeSavesRow.holds Tryz.pinned (OpenSpec.ofChange wholeSavesSpec)

/-- ITS FALSE NEIGHBOUR: 'it returns false'. Refute it at one input. -/
def wholeSavesWrong : ChangeSpec := { name := "wholeSaves", fn := fun _ => fun
  | [d1, d2] => { results := [.lit (.bool false)], args := [d1, d2] }
  | _ => none }
def WholeSavesWrongFalsely : Prop := wholeSavesRow.holds Tryz.pinned (OpenSpec.ofChange wholeSavesWrong)

/-- 'dormousetop.WholeAwake': WHATEVER THE INPUT: true; the input reads as it did. -/
def wholeAwakeSpec : ChangeSpec := { name := "wholeAwake", fn := fun _ => fun
  | [d1, d2] => { results := [.lit (.bool true)], args := [d1, d2] }
  | _ => none }
def wholeAwakeRow : OpenClaim := { program := "ytajilfnceoeaiaagreat", sum := "32479f42dfaade53675dbbe9207b16e187ee2956eeb60f422ac917c1924430d7", func := "dormouse/dormousetop.WholeAwake", spec := "wholeAwake", unfollowed := true, recurses := true, apart := false }
def WholeAwakeSaid : Prop := wholeAwakeRow.holds Tryz.pinned (OpenSpec.ofChange wholeAwakeSpec)

/-- ITS FALSE NEIGHBOUR: 'it returns false'. Refute it at one input. -/
def wholeAwakeWrong : ChangeSpec := { name := "wholeAwake", fn := fun _ => fun
  | [d1, d2] => { results := [.lit (.bool false)], args := [d1, d2] }
  | _ => none }
def WholeAwakeWrongFalsely : Prop := wholeAwakeRow.holds Tryz.pinned (OpenSpec.ofChange wholeAwakeWrong)

/-- 'dormousetop.WholeNests': WHATEVER THE INPUT: true; the input reads as it did. -/
def wholeNestsSpec : ChangeSpec := { name := "wholeNests", fn := fun _ => fun
  | [d1, d2] => { results := [.lit (.bool true)], args := [d1, d2] }
  | _ => none }
def wholeNestsRow : OpenClaim := { program := "ytajilfnceoeaiaagreat", sum := "32479f42dfaade53675dbbe9207b16e187ee2956eeb60f422ac917c1924430d7", func := "dormouse/dormousetop.WholeNests", spec := "wholeNests", unfollowed := true, recurses := true, apart := false }
def WholeNestsSaid : Prop := wholeNestsRow.holds Tryz.pinned (OpenSpec.ofChange wholeNestsSpec)

/-- ITS FALSE NEIGHBOUR: 'it returns false'. Refute it at one input. -/
def wholeNestsWrong : ChangeSpec := { name := "wholeNests", fn := fun _ => fun
  | [d1, d2] => { results := [.lit (.bool false)], args := [d1, d2] }
  | _ => none }
def WholeNestsWrongFalsely : Prop := wholeNestsRow.holds Tryz.pinned (OpenSpec.ofChange wholeNestsWrong)

/-- 'dormousetop.WholeSwitches': WHATEVER THE INPUT: true; the input reads as it did. -/
def wholeSwitchesSpec : ChangeSpec := { name := "wholeSwitches", fn := fun _ => fun
  | [d1, d2] => { results := [.lit (.bool true)], args := [d1, d2] }
  | _ => none }
def wholeSwitchesRow : OpenClaim := { program := "ytajilfnceoeaiaagreat", sum := "32479f42dfaade53675dbbe9207b16e187ee2956eeb60f422ac917c1924430d7", func := "dormouse/dormousetop.WholeSwitches", spec := "wholeSwitches", unfollowed := true, recurses := true, apart := false }
def WholeSwitchesSaid : Prop := wholeSwitchesRow.holds Tryz.pinned (OpenSpec.ofChange wholeSwitchesSpec)

/-- ITS FALSE NEIGHBOUR: 'it returns false'. Refute it at one input. -/
def wholeSwitchesWrong : ChangeSpec := { name := "wholeSwitches", fn := fun _ => fun
  | [d1, d2] => { results := [.lit (.bool false)], args := [d1, d2] }
  | _ => none }
def WholeSwitchesWrongFalsely : Prop := wholeSwitchesRow.holds Tryz.pinned (OpenSpec.ofChange wholeSwitchesWrong)

/-- 'dormousetop.WholeAdmits': WHATEVER THE INPUT: true; the input reads as it did. -/
def wholeAdmitsSpec : ChangeSpec := { name := "wholeAdmits", fn := fun _ => fun
  | [d1, d2, d3] => { results := [.lit (.bool true)], args := [d1, d2, d3] }
  | _ => none }
def wholeAdmitsRow : OpenClaim := { program := "ytajilfnceoeaiaagreat", sum := "32479f42dfaade53675dbbe9207b16e187ee2956eeb60f422ac917c1924430d7", func := "dormouse/dormousetop.WholeAdmits", spec := "wholeAdmits", unfollowed := true, recurses := true, apart := false }
def WholeAdmitsSaid : Prop := wholeAdmitsRow.holds Tryz.pinned (OpenSpec.ofChange wholeAdmitsSpec)

/-- ITS FALSE NEIGHBOUR: 'it returns false'. Refute it at one input. -/
def wholeAdmitsWrong : ChangeSpec := { name := "wholeAdmits", fn := fun _ => fun
  | [d1, d2, d3] => { results := [.lit (.bool false)], args := [d1, d2, d3] }
  | _ => none }
def WholeAdmitsWrongFalsely : Prop := wholeAdmitsRow.holds Tryz.pinned (OpenSpec.ofChange wholeAdmitsWrong)

/- THE SECOND FORM. 'bulk': how many values and letters a reading holds, each counted each time it is reached (what is shared counts as often as it is met; a slice's spare places count too). A statement '..UptoSaid' is the law's where the arguments, and the package variables that the reading takes, are together of bulk at most 1048576: NARROWER than '..Said'. Prove '..Said' where nothing that the law and all that it calls make is longer than what came in: it says more and counts as full. Else prove '..UptoSaid'. A law counts once. -/
mutual
def uptoBulk {H : Type} : DataW H → Nat
  | .lit (.string bytes) => bytes.length + 1
  | .lit _ => 1
  | .nil => 1
  | .ptr d => uptoBulk d + 1
  | .slice elems spare => uptoBulkAll elems + uptoBulkAll spare + 1
  | .agg parts => uptoBulkAll parts + 1
  | .iface _ d => uptoBulk d + 1
  | .map entries => uptoBulkEntries entries + 1
  | .held _ => 1
def uptoBulkAll {H : Type} : List (DataW H) → Nat
  | [] => 0
  | d :: r => uptoBulk d + uptoBulkAll r
def uptoBulkEntries {H : Type} : List (Lit × DataW H) → Nat
  | [] => 0
  | x :: r => uptoBulkEntry x + uptoBulkEntries r
def uptoBulkEntry {H : Type} : Lit × DataW H → Nat
  | (.string bytes, d) => bytes.length + uptoBulk d + 1
  | (_, d) => uptoBulk d + 1
 end
def uptoSmall : (H : Type) → List (DataW H) → Bool := fun _ ds => decide (uptoBulkAll ds ≤ 1048576)
def OpenSpec.upto (s : _root_.Go.ChangeSpec) : _root_.Go.OpenSpec := { _root_.Go.OpenSpec.ofChange s with cond := some uptoSmall }

/-- 'dormousetop.WholeTimers', WHERE WHAT IT READS IS OF BULK AT MOST 1048576: true; the input reads as it did. -/
def wholeTimersUptoRow : OpenClaim := { program := "ytajilfnceoeaiaagreat", sum := "32479f42dfaade53675dbbe9207b16e187ee2956eeb60f422ac917c1924430d7", func := "dormouse/dormousetop.WholeTimers", spec := "wholeTimers", unfollowed := true, recurses := true, apart := false, narrowed := true }
def WholeTimersUptoSaid : Prop := wholeTimersUptoRow.holds Tryz.pinned (OpenSpec.upto wholeTimersSpec)

/-- 'dormousetop.WholeMeets', WHERE WHAT IT READS IS OF BULK AT MOST 1048576: true; the input reads as it did. -/
def wholeMeetsUptoRow : OpenClaim := { program := "ytajilfnceoeaiaagreat", sum := "32479f42dfaade53675dbbe9207b16e187ee2956eeb60f422ac917c1924430d7", func := "dormouse/dormousetop.WholeMeets", spec := "wholeMeets", unfollowed := true, recurses := true, apart := false, narrowed := true }
def WholeMeetsUptoSaid : Prop := wholeMeetsUptoRow.holds Tryz.pinned (OpenSpec.upto wholeMeetsSpec)

/-- 'dormousetop.WholeApart', WHERE WHAT IT READS IS OF BULK AT MOST 1048576: true; the input reads as it did. -/
def wholeApartUptoRow : OpenClaim := { program := "ytajilfnceoeaiaagreat", sum := "32479f42dfaade53675dbbe9207b16e187ee2956eeb60f422ac917c1924430d7", func := "dormouse/dormousetop.WholeApart", spec := "wholeApart", unfollowed := true, recurses := true, apart := false, narrowed := true }
def WholeApartUptoSaid : Prop := wholeApartUptoRow.holds Tryz.pinned (OpenSpec.upto wholeApartSpec)

/-- 'dormousetop.WholeSaves', WHERE WHAT IT READS IS OF BULK AT MOST 1048576: true; the input reads as it did. -/
def wholeSavesUptoRow : OpenClaim := { program := "ytajilfnceoeaiaagreat", sum := "32479f42dfaade53675dbbe9207b16e187ee2956eeb60f422ac917c1924430d7", func := "dormouse/dormousetop.WholeSaves", spec := "wholeSaves", unfollowed := true, recurses := true, apart := false, narrowed := true }
def WholeSavesUptoSaid : Prop := wholeSavesUptoRow.holds Tryz.pinned (OpenSpec.upto wholeSavesSpec)

/-- 'dormousetop.WholeAwake', WHERE WHAT IT READS IS OF BULK AT MOST 1048576: true; the input reads as it did. -/
def wholeAwakeUptoRow : OpenClaim := { program := "ytajilfnceoeaiaagreat", sum := "32479f42dfaade53675dbbe9207b16e187ee2956eeb60f422ac917c1924430d7", func := "dormouse/dormousetop.WholeAwake", spec := "wholeAwake", unfollowed := true, recurses := true, apart := false, narrowed := true }
def WholeAwakeUptoSaid : Prop := wholeAwakeUptoRow.holds Tryz.pinned (OpenSpec.upto wholeAwakeSpec)

/-- 'dormousetop.WholeNests', WHERE WHAT IT READS IS OF BULK AT MOST 1048576: true; the input reads as it did. -/
def wholeNestsUptoRow : OpenClaim := { program := "ytajilfnceoeaiaagreat", sum := "32479f42dfaade53675dbbe9207b16e187ee2956eeb60f422ac917c1924430d7", func := "dormouse/dormousetop.WholeNests", spec := "wholeNests", unfollowed := true, recurses := true, apart := false, narrowed := true }
def WholeNestsUptoSaid : Prop := wholeNestsUptoRow.holds Tryz.pinned (OpenSpec.upto wholeNestsSpec)

/-- 'dormousetop.WholeSwitches', WHERE WHAT IT READS IS OF BULK AT MOST 1048576: true; the input reads as it did. -/
def wholeSwitchesUptoRow : OpenClaim := { program := "ytajilfnceoeaiaagreat", sum := "32479f42dfaade53675dbbe9207b16e187ee2956eeb60f422ac917c1924430d7", func := "dormouse/dormousetop.WholeSwitches", spec := "wholeSwitches", unfollowed := true, recurses := true, apart := false, narrowed := true }
def WholeSwitchesUptoSaid : Prop := wholeSwitchesUptoRow.holds Tryz.pinned (OpenSpec.upto wholeSwitchesSpec)

/-- 'dormousetop.WholeAdmits', WHERE WHAT IT READS IS OF BULK AT MOST 1048576: true; the input reads as it did. -/
def wholeAdmitsUptoRow : OpenClaim := { program := "ytajilfnceoeaiaagreat", sum := "32479f42dfaade53675dbbe9207b16e187ee2956eeb60f422ac917c1924430d7", func := "dormouse/dormousetop.WholeAdmits", spec := "wholeAdmits", unfollowed := true, recurses := true, apart := false, narrowed := true }
def WholeAdmitsUptoSaid : Prop := wholeAdmitsUptoRow.holds Tryz.pinned (OpenSpec.upto wholeAdmitsSpec)

end Rows
end Go.Proofs.YtajilfnceoeaiaaGreat
