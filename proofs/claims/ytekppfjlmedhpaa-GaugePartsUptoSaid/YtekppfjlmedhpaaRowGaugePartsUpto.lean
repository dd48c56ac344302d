/- The law GaugePartsUpto answers true at every input that can be read as data, and leaves its arguments as they were: the row over the printed walk and the pure statement. Condition: the arguments together hold at most 1048576 values. -/
import Derived.Test.YtekppfjlmedhpaaRows
import Derived.Test.YtekppfjlmedhpaaPureGaugePartsUpto
import Derived.WalkKit
import Derived.Test.YtekppfjlmedhpaaBulk
import Derived.JoinedCond
import Derived.Deep.CondSized
import Derived.ProofKit
import Derived.OpenShut
import Derived.ShutString
import Derived.ChangeOld
import Derived.Below
import Derived.SizedLaws
import Derived.Carry
namespace Go.Proofs.Ytekppfjlmedhpaa.gaugePartsUpto
open Go.ChangeShapes Go.WideShapes Go.ChangeAt Go.RowKit Go.Proofs.Ytekppfjlmedhpaa.Opens Go.Proofs.YtekppfjlmedhpaaW.PrintWords Go.Proofs.Ytekppfjlmedhpaa.PAll
open Go.ChangeMaps (open_string shut_string)
set_option linter.unusedVariables false
set_option linter.unusedSimpArgs false
theorem own : ownKnob Try.prog.godebug = none := by kernel_rfl
theorem laidOut : laidOutB Try.prog = true := by kernel_rfl
set_option maxRecDepth 100000 in
set_option maxHeartbeats 2000000 in
theorem contract (H : Type) (enc : TypeId × Value → H) (W : World) (base : Nat) (args : Array Value) (ds gs : List (DataW H)) (before : List MemPlace)
    (hval0 : ∀ (j : Nat) t v, Try.f14.params[j]? = some t → args[j]? = some v → Value.okWide Try.prog W .any base t v)
    (hW : DataW.Whole enc Try.prog Try.f14.params.toList Rows.gaugePartsSpec.vars false W args.toList ds gs before)
    (hk : Rows.uptoSmall H (ds ++ gs) = true) (hsz0 : (DataW.weightsEach Try.prog (Try.f14.params.toList ++ Rows.gaugePartsSpec.plain.varTypes Try.prog) (ds ++ gs)).all (· ≤ reachBytes) = true) :
    Calls Try.prog 14 args W fun e W' => ∃ v, e = .returned v ∧ Rows.gaugePartsSpec.post enc Try.prog Try.f14 false true false false W args v W' := by
  have hsz := hsz0
  have hval := hval0
  have hW' := hW
  obtain ⟨p, q, hA0, hV, rfl, hfz, hnd⟩ := hW
  have hA : DataW.TrodAll enc Try.prog W 0 (fun _ => true) true Try.f14.params.toList args.toList ds p := hA0
  rw [Try.params14] at hA hval hsz
  obtain ⟨v0, vs0, d0, ds0, p0, q0, hargs, rfl, rfl, h0, r0⟩ := trodAll_cons hA
  obtain ⟨v1, vs1, d1, ds1, p1, q1, rfl, rfl, rfl, h1, r1⟩ := trodAll_cons r0
  obtain ⟨rfl, rfl, rfl⟩ := trodAll_nil r1
  obtain rfl : args = #[v0, v1] := by cases args; simp_all
  obtain ⟨rfl, rfl⟩ := trodVars_none hV
  have k0 := h0
  have lt0 : ∀ x ∈ p0, x.block < W.heap.size := by obtain ⟨m, hm⟩ := k0; exact DataW.trod_lt m _ _ _ hm
  obtain ⟨l0, hK0, g0⟩ := Opens.arg (opens_slice (B := 48) Try.underlying52 (by kernel_rfl) (by kernel_rfl) opens54) hsz (j := 0) rfl rfl h0
  obtain ⟨A0, len0, c0, rfl⟩ := okWide_slice Try.underlying52 (hval 0 52 v0 rfl rfl)
  obtain ⟨rfl, hc0, hr0⟩ := slice_arg hK0
  have k1 := h1
  have lt1 : ∀ x ∈ p1, x.block < W.heap.size := by obtain ⟨m, hm⟩ := k1; exact DataW.trod_lt m _ _ _ hm
  obtain ⟨l1, hK1, g1⟩ := Opens.arg (opens_slice (B := 48) Try.underlying52 (by kernel_rfl) (by kernel_rfl) opens54) hsz (j := 1) rfl rfl h1
  obtain ⟨A1, len1, c1, rfl⟩ := okWide_slice Try.underlying52 (hval 1 52 v1 rfl rfl)
  obtain ⟨rfl, hc1, hr1⟩ := slice_arg hK1
  have hk := of_decide_eq_true hk
  simp only [List.cons_append, List.nil_append, List.append_nil, Rows.uptoBulkAll] at hk
  have hb0 := slice_bulk Try.underlying52 k0
  have hb1 := slice_bulk Try.underlying52 k1
  have hlen : l0.length + l1.length ≤ 1048576 := by omega
  clear hA0 hval0 hsz0 hsz
  obtain ⟨k, h⟩ := Pure.GaugePartsUpto l0 l1 g0 g1 hlen
  refine (dormouselaw21_GaugeParts.calls k A0 c0 l0 A1 c1 l1 W hr0 hc0 hr1 hc1 h).mono ?_
  rintro e W' ⟨rfl, bel⟩
  exact ⟨_, rfl, _, _, _, [], _, [], hW', trodAll_mk1 (shut_bool Try.underlying4 _), (trodAll_cons_mk (Below.trod laidOut (by kernel_rfl) (of_decide_eq_true (by kernel_rfl)) k0 bel lt0) (trodAll_cons_mk (Below.trod laidOut (by kernel_rfl) (of_decide_eq_true (by kernel_rfl)) k1 bel lt1) trodAll_mk0)), rfl, bel.frame _, fun h => by cases h⟩
set_option maxRecDepth 100000 in
theorem lifted (os : Os) (started : os.Started) (H : Type) (enc : TypeId × Value → H) (F : Stop.Interp) :
    ReturnsInHanded {} Try.checked os 14 .any ((Rows.OpenSpec.upto Rows.gaugePartsSpec).pre6 enc Try.prog Try.f14 Rows.gaugePartsUptoRow.domain false) (((Rows.OpenSpec.upto Rows.gaugePartsSpec).at F).post enc Try.prog Try.f14 false true false false) := by
  refine returnsInHanded_of_cond_sized (C := Try.checked) (s := Rows.OpenSpec.upto Rows.gaugePartsSpec) (k := Rows.uptoSmall) rfl own started (by kernel_rfl) Try.func14
    (OpenSpec.witness (enc := enc) (C := Try.checked) (s := Rows.OpenSpec.upto Rows.gaugePartsSpec) (k := Rows.uptoSmall) rfl false ⟨#[], #[.slice none 0 0, .slice none 0 0], []⟩ 8 (by kernel_rfl) (by kernel_rfl) (by kernel_rfl)
      (x := ([.nil, .nil], [], [])) (by kernel_rfl) rfl (by kernel_rfl)) ?_
  intro W base args ds gs before hval hW _ hk hsz _
  exact contract H enc W base args ds gs before hval hW hk hsz
theorem over : Rows.gaugePartsUptoRow.holds Try.pinned (Rows.OpenSpec.upto Rows.gaugePartsSpec) :=
  OpenClaim.holds_of_cond 14 Try.f14 rfl rfl rfl rfl rfl rfl rfl ⟨rfl, rfl, rfl, rfl, rfl⟩ rfl rfl rfl rfl rfl (by kernel_rfl) Try.func14 (by kernel_rfl)
    (of_decide_eq_true (by kernel_rfl)) (by unfold Func.isWrapper; first | (rw [if_pos (by decide +kernel)]; kernel_rfl) | (rw [if_neg (by decide +kernel)]; exact ⟨rfl, rfl⟩))
    (fun os started H enc _ F => lifted os started H enc F)
theorem proved : Rows.GaugePartsUptoSaid := over
#print axioms proved
end Go.Proofs.Ytekppfjlmedhpaa.gaugePartsUpto
namespace Go.Proofs.Ytekppfjlmedhpaa
/-- The row, under a short name, for the claim. -/
theorem gaugePartsUpto_holds : Rows.GaugePartsUptoSaid := gaugePartsUpto.proved
end Go.Proofs.Ytekppfjlmedhpaa
