/- The law GaugeLevels answers true at every input that can be read as data, and leaves its arguments as they were: the row over the printed walk and the pure statement. Condition: none. -/
import Derived.Test.YtekppfjlmedhpaaRows
import Derived.Test.YtekppfjlmedhpaaPureGaugeLevels
import Derived.WalkKit
import Derived.ProofKit
import Derived.OpenShut
import Derived.ShutString
import Derived.ChangeOld
import Derived.Below
import Derived.SizedLaws
import Derived.Carry
namespace Go.Proofs.Ytekppfjlmedhpaa.gaugeLevels
open Go.ChangeShapes Go.WideShapes Go.ChangeAt Go.RowKit Go.Proofs.Ytekppfjlmedhpaa.Opens Go.Proofs.YtekppfjlmedhpaaW.PrintWords Go.Proofs.Ytekppfjlmedhpaa.PAll
open Go.ChangeMaps (open_string shut_string)
set_option linter.unusedVariables false
set_option linter.unusedSimpArgs false
theorem own : ownKnob Try.prog.godebug = none := by kernel_rfl
theorem laidOut : laidOutB Try.prog = true := by kernel_rfl
set_option maxRecDepth 100000 in
set_option maxHeartbeats 2000000 in
theorem lifted (os : Os) (started : os.Started) (H : Type) (enc : TypeId × Value → H) :
    ReturnsInHanded {} Try.checked os 13 .any (Rows.gaugeLevelsSpec.pre6 enc Try.prog Try.f13 Rows.gaugeLevelsRow.domain false) (Rows.gaugeLevelsSpec.post enc Try.prog Try.f13 false true false false) := by
  refine returnsInHanded_of_change_sized (C := Try.checked) own started (by kernel_rfl) Try.func13
    (ChangeSpec.witness6 (enc := enc) (C := Try.checked) false ⟨#[], #[.agg #[.slice none 0 0, .slice none 0 0, .slice none 0 0, .int .i64 0, .int .i64 0, .int .i64 0, .int .i64 0, .int .i64 0, .int .i64 0], .int .u16 0, .int .u16 0, .int .u16 0, .int .u16 0, .int .u16 0], []⟩ 8 (by kernel_rfl) (by kernel_rfl) (by kernel_rfl) (by kernel_rfl)) ?_
  intro W base args ds gs before hval0 hW hcnd hsz0 _
  have hsz : (DataW.weightsEach Try.prog (Try.f13.params.toList ++ Rows.gaugeLevelsSpec.plain.varTypes Try.prog) (ds ++ gs)).all (· ≤ reachBytes) = true := hsz0
  have hval : ∀ (j : Nat) t v, Try.f13.params[j]? = some t → args[j]? = some v → Value.okWide Try.prog W .any base t v := hval0
  have hW' := hW
  obtain ⟨p, q, hA0, hV, rfl, hfz, hnd⟩ := hW
  have hA : DataW.TrodAll enc Try.prog W 0 (fun _ => true) true Try.f13.params.toList args.toList ds p := hA0
  rw [Try.params13] at hA hval hsz
  obtain ⟨v0, vs0, d0, ds0, p0, q0, hargs, rfl, rfl, h0, r0⟩ := trodAll_cons hA
  obtain ⟨v1, vs1, d1, ds1, p1, q1, rfl, rfl, rfl, h1, r1⟩ := trodAll_cons r0
  obtain ⟨v2, vs2, d2, ds2, p2, q2, rfl, rfl, rfl, h2, r2⟩ := trodAll_cons r1
  obtain ⟨v3, vs3, d3, ds3, p3, q3, rfl, rfl, rfl, h3, r3⟩ := trodAll_cons r2
  obtain ⟨v4, vs4, d4, ds4, p4, q4, rfl, rfl, rfl, h4, r4⟩ := trodAll_cons r3
  obtain ⟨v5, vs5, d5, ds5, p5, q5, rfl, rfl, rfl, h5, r5⟩ := trodAll_cons r4
  obtain ⟨rfl, rfl, rfl⟩ := trodAll_nil r5
  obtain rfl : args = #[v0, v1, v2, v3, v4, v5] := by cases args; simp_all
  obtain ⟨rfl, rfl⟩ := trodVars_none hV
  have k0 := h0
  have lt0 : ∀ x ∈ p0, x.block < W.heap.size := by obtain ⟨m, hm⟩ := k0; exact DataW.trod_lt m _ _ _ hm
  obtain ⟨⟨l0_0, l0_1, l0_2, a0_3, a0_4, a0_5, a0_6, a0_7, a0_8⟩, hK0, g0⟩ := Opens.arg (opens_struct Try.underlying32 (by kernel_rfl) (opensF_cons rfl (by kernel_rfl) (opens_slice (B := 16) Try.underlying28 (by kernel_rfl) (by kernel_rfl) opens59) (opensF_cons rfl (by kernel_rfl) (opens_slice (B := 48) Try.underlying29 (by kernel_rfl) (by kernel_rfl) opens23) (opensF_cons rfl (by kernel_rfl) (opens_slice (B := 56) Try.underlying30 (by kernel_rfl) (by kernel_rfl) opens66) (opensF_cons rfl (by kernel_rfl) (opens_int Try.underlying3) (opensF_cons rfl (by kernel_rfl) (opens_int Try.underlying3) (opensF_cons rfl (by kernel_rfl) (opens_int Try.underlying3) (opensF_cons rfl (by kernel_rfl) (opens_int Try.underlying3) (opensF_cons rfl (by kernel_rfl) (opens_int Try.underlying3) (opensF_one rfl (by kernel_rfl) (opens_int Try.underlying3))))))))))) hsz (j := 0) rfl rfl h0
  obtain ⟨_, _, hcs0, ⟨A0_0, c0_0, rfl, hc0_0, hr0_0⟩, ⟨_, _, rfl, ⟨A0_1, c0_1, rfl, hc0_1, hr0_1⟩, ⟨_, _, rfl, ⟨A0_2, c0_2, rfl, hc0_2, hr0_2⟩, ⟨_, _, rfl, rfl, ⟨_, _, rfl, rfl, ⟨_, _, rfl, rfl, ⟨_, _, rfl, rfl, ⟨_, _, rfl, rfl, rfl⟩⟩⟩⟩⟩⟩⟩⟩ := hK0
  simp only [List.cons_append, List.nil_append] at hcs0
  obtain ⟨cs0, hv0, _⟩ := okWide_struct Try.underlying32 (hval 0 32 v0 rfl rfl)
  obtain rfl : v0 = .agg #[.slice A0_0 l0_0.length c0_0, .slice A0_1 l0_1.length c0_1, .slice A0_2 l0_2.length c0_2, .int .i64 a0_3, .int .i64 a0_4, .int .i64 a0_5, .int .i64 a0_6, .int .i64 a0_7, .int .i64 a0_8] := agg_arg hv0 hcs0
  obtain ⟨a1, rfl, rfl, rfl, g1⟩ := open_int Try.underlying37 (hval 1 37 v1 rfl rfl) h1
  obtain ⟨a2, rfl, rfl, rfl, g2⟩ := open_int Try.underlying37 (hval 2 37 v2 rfl rfl) h2
  obtain ⟨a3, rfl, rfl, rfl, g3⟩ := open_int Try.underlying37 (hval 3 37 v3 rfl rfl) h3
  obtain ⟨a4, rfl, rfl, rfl, g4⟩ := open_int Try.underlying37 (hval 4 37 v4 rfl rfl) h4
  obtain ⟨a5, rfl, rfl, rfl, g5⟩ := open_int Try.underlying37 (hval 5 37 v5 rfl rfl) h5
  clear hA0 hval0 hsz0 hsz
  obtain ⟨k, h⟩ := Pure.GaugeLevels l0_0 l0_1 l0_2 a0_3 a0_4 a0_5 a0_6 a0_7 a0_8 a1 a2 a3 a4 a5 g0 g1 g2 g3 g4 g5
  refine (dormouselaw21_GaugeLevels.calls k A0_0 c0_0 l0_0 A0_1 c0_1 l0_1 A0_2 c0_2 l0_2 a0_3 a0_4 a0_5 a0_6 a0_7 a0_8 a1 a2 a3 a4 a5 W hr0_0 hc0_0 hr0_1 hc0_1 hr0_2 hc0_2 h).mono ?_
  rintro e W' ⟨rfl, bel⟩
  exact ⟨_, rfl, _, _, _, [], _, [], hW', trodAll_mk1 (shut_bool Try.underlying4 _), (trodAll_cons_mk (Below.trod laidOut (by kernel_rfl) (of_decide_eq_true (by kernel_rfl)) k0 bel lt0) (trodAll_cons_mk (shut_int Try.underlying37 g1) (trodAll_cons_mk (shut_int Try.underlying37 g2) (trodAll_cons_mk (shut_int Try.underlying37 g3) (trodAll_cons_mk (shut_int Try.underlying37 g4) (trodAll_cons_mk (shut_int Try.underlying37 g5) trodAll_mk0)))))), rfl, bel.frame _, fun h => by cases h⟩
theorem over : Rows.gaugeLevelsRow.holds Try.pinned (OpenSpec.ofChange Rows.gaugeLevelsSpec) :=
  OpenClaim.holds_of_wide 13 Try.f13 rfl rfl rfl rfl rfl rfl rfl ⟨rfl, rfl, rfl, rfl, rfl⟩ rfl rfl rfl rfl rfl (by kernel_rfl) Try.func13 (by kernel_rfl)
    (of_decide_eq_true (by kernel_rfl)) (by unfold Func.isWrapper; first | (rw [if_pos (by decide +kernel)]; kernel_rfl) | (rw [if_neg (by decide +kernel)]; exact ⟨rfl, rfl⟩))
    (fun os started H enc _ => lifted os started H enc)
theorem proved : Rows.GaugeLevelsSaid := over
#print axioms proved
end Go.Proofs.Ytekppfjlmedhpaa.gaugeLevels
namespace Go.Proofs.Ytekppfjlmedhpaa
/-- The row, under a short name, for the claim. -/
theorem gaugeLevels_holds : Rows.GaugeLevelsSaid := gaugeLevels.proved
end Go.Proofs.Ytekppfjlmedhpaa
