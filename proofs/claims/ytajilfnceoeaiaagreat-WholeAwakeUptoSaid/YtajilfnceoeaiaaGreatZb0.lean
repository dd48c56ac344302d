/- Parts of the proof: Propositions of function bodies, printed by a program, WholeAwake: the function returns true. -/
import Derived.Test.YtajilfnceoeaiaaGreatZa12
set_option linter.unusedVariables false
set_option linter.unusedSimpArgs false
/- Propositions of function bodies, printed by a program. -/
namespace Go.Proofs.YtajilfnceoeaiaaGreat.V
open Go
set_option linter.unusedVariables false
set_option maxRecDepth 100000
theorem f7_of (p : Plat) (steps : Sl) {K : Bool → World → Prop} {w : World} (vc :
 New [.slice p.levels.a p.levels.n p.levels.c, .slice p.sleeps.a p.sleeps.n p.sleeps.c, .slice p.devices.a p.devices.n p.devices.c, .int .i64 p.idle, .int .i64 p.crit, .int .i64 p.switch, .int .i64 p.switchE, .int .i64 p.sems, .int .i64 p.horizon] 26 (fun a1 w =>
 LdN shPlat.cs 0 a1 (fun s2 s3 s4 n5 n6 n7 n8 n9 n10 w =>
 Call P 11 [.agg #[.slice s2.a s2.n s2.c, .slice s3.a s3.n s3.c, .slice s4.a s4.n s4.c, .int .i64 n5, .int .i64 n6, .int .i64 n7, .int .i64 n8, .int .i64 n9, .int .i64 n10]] [sP] (fun p11 w =>
 If (Option.isNone p11) (
 LdN shPlat.cs 0 a1 (fun s12 s13 s14 n15 n16 n17 n18 n19 n20 w =>
 Call P 12 [.agg #[.slice s12.a s12.n s12.c, .slice s13.a s13.n s13.c, .slice s14.a s14.n s14.c, .int .i64 n15, .int .i64 n16, .int .i64 n17, .int .i64 n18, .int .i64 n19, .int .i64 n20]] [sB] (fun b21 w =>
 K b21 w) w) w) (
 ∃ (I23 : Int → World → Prop) (M24 : Int → World → Nat), I23 0 w ∧ ∀ (n22 : Int) (v25 : World), I23 n22 v25 → ∀ _ : Nat → Value,
 (fun w : World =>
 If (decide (n22 < ((steps.n : Nat) : Int))) (
 ((0 : Int) ≤ n22 ∧ n22 < ((steps.n : Nat) : Int)) ∧ WithAddr steps.a fun a26 =>
 LdN shStep.cs 0 (a26.add (Int.toNat n22 * 8)) (fun n27 n28 n29 n30 n31 n32 s33 s34 w =>
 New [.int .i64 0, .int .i64 0, .int .i64 0, .int .i64 0, .int .i64 0, .int .i64 0, .slice none 0 0, .slice none 0 0] 39 (fun a35 w =>
 StN [.int .i64 n27, .int .i64 n28, .int .i64 n29, .int .i64 n30, .int .i64 n31, .int .i64 n32, .slice s33.a s33.n s33.c, .slice s34.a s34.n s34.c] 0 a35 (fun w =>
 Ld (.ki .i64) (a35.add 0) (fun n36 w =>
 If (n36 != 7) (
 LdN shStep.cs 0 a35 (fun n37 n38 n39 n40 n41 n42 s43 s44 w =>
 Call P 13 [.pointer p11, .agg #[.int .i64 n37, .int .i64 n38, .int .i64 n39, .int .i64 n40, .int .i64 n41, .int .i64 n42, .slice s43.a s43.n s43.c, .slice s44.a s44.n s44.c]] [sI, sI] (fun n45 n46 w =>
 Call P 23 [.pointer p11] [sB] (fun b47 w =>
 If b47 (
 K false w) (
 I23 (IntKind.wrap .i64 (n22 + 1)) w ∧ M24 (IntKind.wrap .i64 (n22 + 1)) w < M24 n22 v25)) w) w) w) (
 Ld (.ki .i64) (a35.add 2) (fun n48 w =>
 If (n48 != 1) (
 LdN shStep.cs 0 a35 (fun n49 n50 n51 n52 n53 n54 s55 s56 w =>
 Call P 13 [.pointer p11, .agg #[.int .i64 n49, .int .i64 n50, .int .i64 n51, .int .i64 n52, .int .i64 n53, .int .i64 n54, .slice s55.a s55.n s55.c, .slice s56.a s56.n s56.c]] [sI, sI] (fun n57 n58 w =>
 Call P 23 [.pointer p11] [sB] (fun b59 w =>
 If b59 (
 K false w) (
 I23 (IntKind.wrap .i64 (n22 + 1)) w ∧ M24 (IntKind.wrap .i64 (n22 + 1)) w < M24 n22 v25)) w) w) w) (
 Call P 23 [.pointer p11] [sB] (fun b60 w =>
 If b60 (
 K false w) (
 I23 (IntKind.wrap .i64 (n22 + 1)) w ∧ M24 (IntKind.wrap .i64 (n22 + 1)) w < M24 n22 v25)) w)) w)) w) w) w) w) (
 Call P 24 [.pointer p11] [sS] (fun s61 w =>
 ∃ (I63 : Int → World → Prop) (M64 : Int → World → Nat), I63 0 w ∧ ∀ (n62 : Int) (v65 : World), I63 n62 v65 → ∀ _ : Nat → Value,
 (fun w : World =>
 If (decide (n62 < ((s61.n : Nat) : Int))) (
 ((0 : Int) ≤ n62 ∧ n62 < ((s61.n : Nat) : Int)) ∧ WithAddr s61.a fun a66 =>
 Ld (.ki .i64) ((a66.add (Int.toNat n62 * 6)).add 0) (fun n67 w =>
 If (n67 == 4) (
 K false w) (
 ((0 : Int) ≤ n62 ∧ n62 < ((s61.n : Nat) : Int)) ∧ WithAddr s61.a fun a68 =>
 Ld (.ki .i64) ((a68.add (Int.toNat n62 * 6)).add 0) (fun n69 w =>
 If (n69 == 5) (
 K false w) (
 ((0 : Int) ≤ n62 ∧ n62 < ((s61.n : Nat) : Int)) ∧ WithAddr s61.a fun a70 =>
 Ld (.ki .i64) ((a70.add (Int.toNat n62 * 6)).add 0) (fun n71 w =>
 If (n71 == 6) (
 K false w) (
 I63 (IntKind.wrap .i64 (n62 + 1)) w ∧ M64 (IntKind.wrap .i64 (n62 + 1)) w < M64 n62 v65)) w)) w)) w) (
 Call P 15 [] [sB] (fun b72 w =>
 If b72 (
 Call P 25 [.pointer p11] [shEvent] (fun n73 n74 n75 n76 w =>
 K (n76 == 0) w) w) (
 K false w)) w)) v65) w)) v25)) w) w) w) : Call P 7 [p.v, .slice steps.a steps.n steps.c] [sB] K w :=
  call_of (H := ⟨[(5, [(6, .ki .i64)]), (14, [(9, .ki .i64)])], [], [], []⟩) Tryz.func7 (by kernel_rfl) (by kernel_rfl) vc

end Go.Proofs.YtajilfnceoeaiaaGreat.V
/- WholeAwake: the function returns true. -/
namespace Go.Proofs.YtajilfnceoeaiaaGreat.V
open Go Go.RowKit Enc
set_option maxRecDepth 100000
theorem awake_spec {o : Own} {w : World} {m : Mach} {st : Sl} {l : List ASt} (hm : MachR o w m) (hs : StepsR o w st l) (hl : l.length ≤ 1048576) : Call P 7 [m.p.v, vS st] [sB] (fun b w' => b = true ∧ ∃ o', Up kl o w o' w') w := by
  have hn := hs.n
  refine f7_of _ _ (New_blk o 0 fun b1 o1 w1 k1 u1 _ => k1.bx.ldPlat (x := m.p) ?_)
  have hm := hm.up u1 rfl
  have hs := hs.up u1 rfl
  have hb := boot_law hm
  refine hb.imp1 ?_
  rintro pk w2 (⟨t, a, q, x, y, z, o2, rfl, L⟩ | ⟨nt, rfl, u2⟩)
  rotate_left
  · refine If_t ((k1.bx.below u2).ldPlat (x := m.p) ?_)
    have hno := none_spec (hm.below u2) nt
    refine hno.imp1 ?_
    rintro b w3 ⟨rfl, o3, u3⟩
    exact ⟨rfl, o3, (u1.of_no.trans (Up.of_below u2)).trans u3⟩
  have hs := hs.up L.U kl0
  generalize V.pl m x y z = m' at L
  have ha0 : Awk (s0 m') := ⟨rfl, rfl, fun x hx => (by cases hx), rfl⟩
  have L0 : ∃ o' q' s, LawS o1 w1 m' a 0 o' w2 q' s ∧ Awk s ∧ StepsR o' w2 st l := ⟨o2, q, _, L, ha0, hs⟩
  refine If_f ⟨fun n w' => ∃ k : Nat, n = k ∧ k ≤ l.length ∧ ∃ o' q' s, LawS o1 w1 m' a k o' w' q' s ∧ Awk s ∧ StepsR o' w' st l, fun n _ => l.length - n.toNat, ⟨0, rfl, Nat.zero_le _, L0⟩, ?_⟩
  rintro n v ⟨k, rfl, hk, o3, q3, s, L, aw, hs⟩ _
  refine If_d (fun hlt => ?_) fun hlt => ?_
  · have hkl : k < l.length := by omega
    have hx : l[k]? = some l[k] := List.getElem?_eq_getElem hkl
    have htx := hs.each _ (List.getElem_mem hkl)
    generalize l[k] = x at hx htx
    have hme : l.length - Int.toNat ((k : Int) + 1) < l.length - Int.toNat (k : Int) := by omega
    rw [wz_id (x := (k : Int) + 1) (by omega) (by omega)]
    refine hs.step rfl hx (NewSt_of (by rfl) fun b4 w4 c4 u4 => ?_)
    have c4 : Bx w4 b4 0 x.st.l := c4
    have L := L.below u4
    have htx := htx.below u4
    have hs := hs.up (C := no) (o' := o3) (Up.of_below u4) rfl
    -- behind the step
    have nxt : ∀ (o5 : Own) (w5 : World) (q5 : KPtr) (s5 : KS), LawS o1 w1 m' a (k + 1) o5 w5 q5 s5 → Awk s5 → StepsR o5 w5 st l →
        Call P 23 [vP a] [sB] (fun b w' => If b (false = true ∧ ∃ o', Up kl o w o' w') ((∃ k' : Nat, ((k : Int) + 1) = k' ∧ k' ≤ l.length ∧ ∃ o' q' s, LawS o1 w1 m' a k' o' w' q' s ∧ Awk s ∧ StepsR o' w' st l) ∧ l.length - Int.toNat ((k : Int) + 1) < l.length - Int.toNat (k : Int))) w5 := by
      intro o5 w5 q5 s5 L aw hs
      have hc := asleep_spec L.h
      refine hc.imp1 ?_
      rintro b w6 ⟨rfl, rfl⟩
      rw [aw.asleep]
      exact If_f ⟨⟨k + 1, by omega, by omega, o5, q5, s5, L, aw, hs⟩, hme⟩
    have doo : x.kind ≠ 7 ∨ x.b ≠ 1 → Call P 13 [vP a, x.st.v] [sI, sI] (fun _ _ w' => Call P 23 [vP a] [sB] (fun b w' => If b (false = true ∧ ∃ o', Up kl o w o' w') ((∃ k' : Nat, ((k : Int) + 1) = k' ∧ k' ≤ l.length ∧ ∃ o' q' s, LawS o1 w1 m' a k' o' w' q' s ∧ Awk s ∧ StepsR o' w' st l) ∧ l.length - Int.toNat ((k : Int) + 1) < l.length - Int.toNat (k : Int))) w') w4 := by
      intro hx
      have hd := L.doo (by omega) x htx
      refine hd.imp2 ?_
      rintro n e w5 ⟨s5, d5, q5, o5, L5, u5⟩
      exact nxt o5 w5 q5 s5 L5 (aw.doR hx d5) (hs.up u5 kl0)
    refine c4.ld (x := x.kind) rfl (If_ne (fun e7 => c4.ldStep (x := x.st) (doo (.inl e7))) fun e7 => c4.ld (x := x.b) rfl (If_ne (fun eb => c4.ldStep (x := x.st) (doo (.inr eb))) fun eb => ?_))
    exact nxt o3 w4 q3 s (L.skip (by omega)) aw hs
  · have htr := trace_spec L.h L.iv.trace
    refine htr.imp1 ?_
    rintro s6 w6 ⟨o6, r6, u6⟩
    have L := L.upno u6
    have hn6 := r6.n
    refine ⟨fun n w' => ∃ j : Nat, n = j ∧ j ≤ s.trace.length ∧ w' = w6, fun n _ => s.trace.length - n.toNat, ⟨0, rfl, Nat.zero_le _, rfl⟩, ?_⟩
    rintro n v6 ⟨j, rfl, hj, rfl⟩ _
    refine If_d (fun hlt => ?_) fun hlt => ?_
    · have hjl : j < s.trace.length := by omega
      have hy : s.trace[j]? = some s.trace[j] := List.getElem?_eq_getElem hjl
      have hyk := aw.trace _ (List.getElem_mem hjl)
      generalize s.trace[j] = y at hy hyk
      have hme : s.trace.length - Int.toNat ((j : Int) + 1) < s.trace.length - Int.toNat (j : Int) := by omega
      have htl := L.iv.trace
      unfold bigN at htl
      rw [wz_id (x := (j : Int) + 1) (by omega) (by omega)]
      refine r6.fld (f := 0) (e := .ki .i64) (y := y.kind) rfl hy rfl rfl (If_eq (fun e => absurd e hyk.1) fun _ => ?_)
      refine r6.fld (f := 0) (e := .ki .i64) (y := y.kind) rfl hy rfl rfl (If_eq (fun e => absurd e hyk.2.1) fun _ => ?_)
      refine r6.fld (f := 0) (e := .ki .i64) (y := y.kind) rfl hy rfl rfl (If_eq (fun e => absurd e hyk.2.2) fun _ => ?_)
      exact ⟨⟨j + 1, by omega, by omega, rfl⟩, hme⟩
    · have ha := answers_below v6
      refine ha.imp1 ?_
      rintro b w7 ⟨rfl, u7⟩
      have L := L.below u7
      refine If_t ?_
      have hme := meter_spec L.h
      refine hme.impI4 ?_
      rintro n1 n2 n3 n4 w8 ⟨em, u8⟩
      have hr : n4 = 0 := by
        have := congrArg Meter.sleep em
        rw [aw.sleep] at this
        exact this
      rw [hr]
      exact ⟨rfl, o6, u1.of_no.trans (L.below u8).U⟩
end Go.Proofs.YtajilfnceoeaiaaGreat.V
