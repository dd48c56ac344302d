/- Parts of the proof: Propositions of function bodies, printed by a program, Switches: no more than jobs came and ended; each leads to another level; each cycle runs at the level that was chosen last. Plain, Whenever a device is on, it has cost no more than if it had never been away. Plain, A timer is told for each of its moments, in order, at the first boundary from it on. Plain, WholeTimers: the function returns true. -/
import Derived.Test.YtajilfnceoeaiaaGreatZa12
set_option linter.unusedVariables false
set_option linter.unusedSimpArgs false
/- Propositions of function bodies, printed by a program. -/
namespace Go.Proofs.YtajilfnceoeaiaaGreat.V
open Go
set_option linter.unusedVariables false
set_option maxRecDepth 100000
theorem f3_of (p : Plat) (steps : Sl) (rest : Sl) (id : Int) (b : Int) (c : Int) {K : Bool → World → Prop} {w : World} (vc :
 New [.slice p.levels.a p.levels.n p.levels.c, .slice p.sleeps.a p.sleeps.n p.sleeps.c, .slice p.devices.a p.devices.n p.devices.c, .int .i64 p.idle, .int .i64 p.crit, .int .i64 p.switch, .int .i64 p.switchE, .int .i64 p.sems, .int .i64 p.horizon] 26 (fun a1 w =>
 LdN shPlat.cs 0 a1 (fun s2 s3 s4 n5 n6 n7 n8 n9 n10 w =>
 Call P 11 [.agg #[.slice s2.a s2.n s2.c, .slice s3.a s3.n s3.c, .slice s4.a s4.n s4.c, .int .i64 n5, .int .i64 n6, .int .i64 n7, .int .i64 n8, .int .i64 n9, .int .i64 n10]] [sP] (fun p11 w =>
 If (Option.isNone p11) (
 LdN shPlat.cs 0 a1 (fun s12 s13 s14 n15 n16 n17 n18 n19 n20 w =>
 Call P 12 [.agg #[.slice s12.a s12.n s12.c, .slice s13.a s13.n s13.c, .slice s14.a s14.n s14.c, .int .i64 n15, .int .i64 n16, .int .i64 n17, .int .i64 n18, .int .i64 n19, .int .i64 n20]] [sB] (fun b21 w =>
 K b21 w) w) w) (
 ∃ (I23 : Int → World → Prop) (M24 : Int → World → Nat), I23 0 w ∧ ∀ (n22 : Int) (v25 : World), I23 n22 v25 → ∀ _ : Nat → Value,
 (fun w : World =>
 If (decide (n22 < ((steps.n : Nat) : Int))) (
 ((0 : Int) ≤ n22 ∧ n22 < ((steps.n : Nat) : Int)) ∧ WithAddr steps.a fun a26 =>
 LdN shStep.cs 0 (a26.add (Int.toNat n22 * 8)) (fun n27 n28 n29 n30 n31 n32 s33 s34 w =>
 Call P 13 [.pointer p11, .agg #[.int .i64 n27, .int .i64 n28, .int .i64 n29, .int .i64 n30, .int .i64 n31, .int .i64 n32, .slice s33.a s33.n s33.c, .slice s34.a s34.n s34.c]] [sI, sI] (fun n35 n36 w =>
 I23 (IntKind.wrap .i64 (n22 + 1)) w ∧ M24 (IntKind.wrap .i64 (n22 + 1)) w < M24 n22 v25) w) w) (
 (fun w : World =>
 Ld (.ki .i64) (a1.add 8) (fun n37 w =>
 Call P 14 [.pointer p11] [sI] (fun n38 w =>
 (w.cell? ((a1.add 8).add 0) = some (.int .i64 n37)) ∧ If (decide (n38 ≥ n37)) (
 Call P 15 [] [sB] (fun b39 w =>
 K b39 w) w) (
 (4 : Int) ≠ 0 ∧ (2000 : Int) ≠ 0 ∧ Call P 14 [.pointer p11] [sI] (fun n40 w =>
 (2000 : Int) ≠ 0 ∧ Call P 16 [.pointer p11] [sS] (fun s41 w =>
 (2000 : Int) ≠ 0 ∧ Call P 13 [.pointer p11, .agg #[.int .i64 8, .int .i64 (Int.tmod (IntKind.wrap .i64 id) 4), .int .i64 (Int.tmod (IntKind.wrap .i64 b) 2000), .int .i64 (Int.tmod (IntKind.wrap .i64 c) 2000), .int .i64 0, .int .i64 0, .slice none 0 0, .slice none 0 0]] [sI, sI] (fun n42 n43 w =>
 If (n43 != 0) (
 K false w) (
 ∃ (I45 : Int → World → Prop) (M46 : Int → World → Nat), I45 0 w ∧ ∀ (n44 : Int) (v47 : World), I45 n44 v47 → ∀ _ : Nat → Value,
 (fun w : World =>
 If (decide (n44 < ((rest.n : Nat) : Int))) (
 ((0 : Int) ≤ n44 ∧ n44 < ((rest.n : Nat) : Int)) ∧ WithAddr rest.a fun a48 =>
 LdN shStep.cs 0 (a48.add (Int.toNat n44 * 8)) (fun n49 n50 n51 n52 n53 n54 s55 s56 w =>
 New [.int .i64 0, .int .i64 0, .int .i64 0, .int .i64 0, .int .i64 0, .int .i64 0, .slice none 0 0, .slice none 0 0] 39 (fun a57 w =>
 StN [.int .i64 n49, .int .i64 n50, .int .i64 n51, .int .i64 n52, .int .i64 n53, .int .i64 n54, .slice s55.a s55.n s55.c, .slice s56.a s56.n s56.c] 0 a57 (fun w =>
 Ld (.ki .i64) (a57.add 1) (fun n58 w =>
 If (n58 != (Int.tmod (IntKind.wrap .i64 id) 4)) (
 LdN shStep.cs 0 a57 (fun n59 n60 n61 n62 n63 n64 s65 s66 w =>
 Call P 13 [.pointer p11, .agg #[.int .i64 n59, .int .i64 n60, .int .i64 n61, .int .i64 n62, .int .i64 n63, .int .i64 n64, .slice s65.a s65.n s65.c, .slice s66.a s66.n s66.c]] [sI, sI] (fun n67 n68 w =>
 I45 (IntKind.wrap .i64 (n44 + 1)) w ∧ M46 (IntKind.wrap .i64 (n44 + 1)) w < M46 n44 v47) w) w) (
 Ld (.ki .i64) (a57.add 0) (fun n69 w =>
 If (n69 != 8) (
 Ld (.ki .i64) (a57.add 0) (fun n70 w =>
 If (n70 != 9) (
 LdN shStep.cs 0 a57 (fun n71 n72 n73 n74 n75 n76 s77 s78 w =>
 Call P 13 [.pointer p11, .agg #[.int .i64 n71, .int .i64 n72, .int .i64 n73, .int .i64 n74, .int .i64 n75, .int .i64 n76, .slice s77.a s77.n s77.c, .slice s78.a s78.n s78.c]] [sI, sI] (fun n79 n80 w =>
 I45 (IntKind.wrap .i64 (n44 + 1)) w ∧ M46 (IntKind.wrap .i64 (n44 + 1)) w < M46 n44 v47) w) w) (
 I45 (IntKind.wrap .i64 (n44 + 1)) w ∧ M46 (IntKind.wrap .i64 (n44 + 1)) w < M46 n44 v47)) w) (
 I45 (IntKind.wrap .i64 (n44 + 1)) w ∧ M46 (IntKind.wrap .i64 (n44 + 1)) w < M46 n44 v47)) w)) w) w) w) w) (
 Call P 16 [.pointer p11] [sS] (fun s81 w =>
 ∃ (I85 : Int → Int → Bool → World → Prop) (M86 : Int → Int → Bool → World → Nat), I85 (IntKind.wrap .i64 (n40 + (Int.tmod (IntKind.wrap .i64 b) 2000))) ((s41.n : Nat) : Int) false w ∧ ∀ (n82 : Int) (n83 : Int) (b84 : Bool) (v87 : World), I85 n82 n83 b84 v87 → ∀ _ : Nat → Value,
 (fun w : World =>
 If (decide (n83 < ((s81.n : Nat) : Int))) (
 ((0 : Int) ≤ n83 ∧ n83 < ((s81.n : Nat) : Int)) ∧ WithAddr s81.a fun a88 =>
 Ld (.ki .i64) ((a88.add (Int.toNat n83 * 4)).add 0) (fun n89 w =>
 If (n89 != 4) (
 I85 n82 (IntKind.wrap .i64 (n83 + 1)) b84 w ∧ M86 n82 (IntKind.wrap .i64 (n83 + 1)) b84 w < M86 n82 n83 b84 v87) (
 ((0 : Int) ≤ n83 ∧ n83 < ((s81.n : Nat) : Int)) ∧ WithAddr s81.a fun a90 =>
 Ld (.ki .i64) ((a90.add (Int.toNat n83 * 4)).add 1) (fun n91 w =>
 If (n91 != (Int.tmod (IntKind.wrap .i64 id) 4)) (
 I85 n82 (IntKind.wrap .i64 (n83 + 1)) b84 w ∧ M86 n82 (IntKind.wrap .i64 (n83 + 1)) b84 w < M86 n82 n83 b84 v87) (
 If b84 (
 K false w) (
 ((0 : Int) ≤ n83 ∧ n83 < ((s81.n : Nat) : Int)) ∧ WithAddr s81.a fun a92 =>
 Ld (.ki .i64) ((a92.add (Int.toNat n83 * 4)).add 3) (fun n93 w =>
 If (n93 != n82) (
 K false w) (
 ((0 : Int) ≤ n83 ∧ n83 < ((s81.n : Nat) : Int)) ∧ WithAddr s81.a fun a94 =>
 Ld (.ki .i64) ((a94.add (Int.toNat n83 * 4)).add 2) (fun n95 w =>
 If (decide (n95 < n82)) (
 K false w) (
 ((0 : Int) ≤ n83 ∧ n83 < ((s81.n : Nat) : Int)) ∧ WithAddr s81.a fun a96 =>
 Ld (.ki .i64) ((a96.add (Int.toNat n83 * 4)).add 2) (fun n97 w =>
 If (decide ((IntKind.wrap .i64 (n97 - n82)) ≥ 256)) (
 K false w) (
 I85 (IntKind.wrap .i64 (n82 + (Int.tmod (IntKind.wrap .i64 c) 2000))) (IntKind.wrap .i64 (n83 + 1)) ((Int.tmod (IntKind.wrap .i64 c) 2000) == 0) w ∧ M86 (IntKind.wrap .i64 (n82 + (Int.tmod (IntKind.wrap .i64 c) 2000))) (IntKind.wrap .i64 (n83 + 1)) ((Int.tmod (IntKind.wrap .i64 c) 2000) == 0) w < M86 n82 n83 b84 v87)) w)) w)) w))) w)) w) (
 Call P 15 [] [sB] (fun b98 w =>
 If b98 (
 If b84 (
 K true w) (
 Call P 14 [.pointer p11] [sI] (fun n99 w =>
 K (decide (n82 > n99)) w) w)) (
 K false w)) w)) v87) w)) v47)) w) w) w)) w) w) w.drew)) v25)) w) w) w) : Call P 3 [p.v, .slice steps.a steps.n steps.c, .slice rest.a rest.n rest.c, .int .u8 id, .int .u16 b, .int .u16 c] [sB] K w :=
  call_of (H := ⟨[(5, [(14, .ki .i64)]), (16, [(21, .ki .i64)]), (22, [(17, .ki .i64), (18, .ki .i64), (24, .kb)])], [], [(8, .take 0 (.take 2 (.take 3 (.run 1 (.take 4 .done)))))], []⟩) Tryz.func3 (by kernel_rfl) (by kernel_rfl) vc

end Go.Proofs.YtajilfnceoeaiaaGreat.V
/- Switches: no more than jobs came and ended; each leads to another level; each cycle runs at the level that was chosen last. Plain. -/
namespace Go.Proofs.YtajilfnceoeaiaaGreat.V
open Go Go.RowKit Enc
set_option maxRecDepth 100000
/-- The level, how many switches, and whether all is right so far. -/
structure Sw where
  lv : Int
  n : Nat
  ok : Bool
def swOne (crit : Int) (x : Sw) (i : Interval) : Sw :=
  if i.kind = 1 then ⟨x.lv, x.n, x.ok && (i.arg == x.lv)⟩ else if i.kind = 3 then ⟨i.arg, x.n + 1, x.ok && (!(i.arg == x.lv) && (decide (0 ≤ i.arg) && decide (i.arg ≤ crit)))⟩ else x
def swAll (crit : Int) (L : List Interval) : Sw := L.foldl (swOne crit) ⟨0, 0, true⟩
theorem swAll_snoc (crit : Int) (L : List Interval) (i : Interval) : swAll crit (L ++ [i]) = swOne crit (swAll crit L) i := by
  unfold swAll
  rw [List.foldl_append]
  rfl
theorem swOne_same (crit : Int) (x : Sw) (i j : Interval) (hk : i.kind = j.kind) (ha : i.arg = j.arg) : swOne crit x i = swOne crit x j := by
  unfold swOne
  rw [hk, ha]
theorem swOne_twice (crit : Int) (x : Sw) (i : Interval) (hk : i.kind = 1 ∨ i.kind = 2 ∨ i.kind = 5) : swOne crit (swOne crit x i) i = swOne crit x i := by
  unfold swOne
  by_cases h : i.kind = 1
  · simp only [if_pos h]
    cases x.ok <;> simp
  · have h3 : i.kind ≠ 3 := by omega
    simp only [if_neg h, if_neg h3]
theorem swAll_addZ (crit : Int) (L : List Interval) (i : Interval) : swAll crit (addZ L i) = swOne crit (swAll crit L) i := by
  unfold addZ
  split
  · rename_i y hy
    split
    · rename_i hj
      obtain ⟨Z, rfl⟩ := List.getLast?_eq_some_iff.1 hy
      rw [List.dropLast_concat, swAll_snoc, swAll_snoc]
      have h1 : swOne crit (swAll crit Z) (joinZ y i) = swOne crit (swAll crit Z) y := by
        refine swOne_same crit _ _ _ ?_ ?_
        · unfold joinZ; rw [if_pos hj]
        · unfold joinZ; rw [if_pos hj]
      have h2 : swOne crit (swOne crit (swAll crit Z) y) i = swOne crit (swOne crit (swAll crit Z) y) y := swOne_same crit _ _ _ hj.2.1.symm hj.2.2.1.symm
      rw [h1, h2, swOne_twice crit _ y hj.1]
    · exact swAll_snoc crit L i
  · rename_i h
    have : L = [] := by
      cases L with
      | nil => rfl
      | cons a l => simp at h
    subst this
    exact swAll_snoc crit [] i
/-- Events that may bring a switch. -/
def nonExp (E : List Event) : Nat := (E.filter fun e => e.kind != 4).length
theorem nonExp_snoc (E : List Event) (e : Event) : nonExp (E ++ [e]) = nonExp E + (if e.kind = 4 then 0 else 1) := by
  unfold nonExp
  rw [List.filter_append, List.length_append]
  congr 1
  by_cases h : e.kind = 4 <;> simp [h]
/-- What holds of switches. -/
structure SwI (m : Mach) (s : KS) : Prop where
  lv : (swAll m.p.crit s.trace).lv = s.level
  ok : (swAll m.p.crit s.trace).ok = true
  n : (swAll m.p.crit s.trace).n + wsum unW s.jobs + (if s.ended then 1 else 0) ≤ nonExp s.events
section
variable {m : Mach} {A B : Nat} {s s' : KS}
theorem SwI.did (h : SwI m s) (kind len arg task cyc : Int) (hk : kind ≠ 3) (ha : kind = 1 → arg = s.level) : SwI m (didZ m s kind len arg task cyc) := by
  have e : swAll m.p.crit (didZ m s kind len arg task cyc).trace = swAll m.p.crit s.trace := by
    show swAll m.p.crit (addZ s.trace _) = _
    rw [swAll_addZ]
    unfold swOne
    dsimp only
    split
    · rename_i h1
      rw [ha h1, h.lv, beq_self_eq_true, Bool.and_true]
      rw [← h.lv]
    · rfl
  refine ⟨by rw [e]; exact h.lv, by rw [e]; exact h.ok, ?_⟩
  rw [e]
  exact h.n
theorem SwI.endZ (h : SwI m s) (kind : Int) (hk : kind ≠ 4) (j : Job) : SwI m (endZ s kind j) := by
  refine ⟨h.lv, h.ok, ?_⟩
  have h1 := wsum_upd_le unW s.jobs j.task none
  have e0 : ow unW (none : Option Job) = 0 := rfl
  have hn := h.n
  show (swAll m.p.crit s.trace).n + wsum unW (upd s.jobs j.task none) + (if true = true then 1 else 0) ≤ nonExp (s.events ++ [⟨kind, j.task, s.now, j.deadline⟩])
  rw [nonExp_snoc, if_pos rfl, if_neg hk]
  omega
theorem SwI.startZ (iv : KInv m A B s) (h : SwI m s) {j : Job} (hj : s.jobs j.task = some j) (hc : j.started = false ∨ s.ended = true) : SwI m (startZ s j) ∧ (swAll m.p.crit (startZ s j).trace).n + 1 + wsum unW (startZ s j).jobs + (if (startZ s j).ended then 1 else 0) ≤ nonExp (startZ s j).events := by
  obtain ⟨_, h0, h6⟩ := iv.jobs _ _ hj
  have hn := h.n
  have key : (swAll m.p.crit (V.startZ s j).trace).n + 1 + wsum unW (V.startZ s j).jobs + (if (V.startZ s j).ended then 1 else 0) ≤ nonExp (V.startZ s j).events := by
    unfold V.startZ
    by_cases hs : j.started = true
    · rw [if_pos hs]
      have he : s.ended = true := hc.resolve_left (by rw [hs]; decide)
      rw [he] at hn
      show (swAll m.p.crit s.trace).n + 1 + wsum unW s.jobs + (if false = true then 1 else 0) ≤ nonExp s.events
      rw [if_pos rfl] at hn
      rw [if_neg (by decide)]
      omega
    · rw [if_neg hs]
      have w2 := wsum_upd unW s.jobs h0 (by omega) (some { j with started := true })
      rw [hj] at w2
      have e3 : ow unW (some j) = 1 := by show unW j = 1; rw [unW, if_neg hs]
      have e6 : ow unW (some ({ j with started := true } : Job)) = 0 := rfl
      show (swAll m.p.crit s.trace).n + 1 + wsum unW (upd s.jobs j.task (some { j with started := true })) + (if false = true then 1 else 0) ≤ nonExp s.events
      rw [if_neg (by decide)]
      split at hn <;> omega
  refine ⟨⟨?_, ?_, by omega⟩, key⟩
  · unfold V.startZ; split <;> exact h.lv
  · unfold V.startZ; split <;> exact h.ok
theorem SwI.runsTail (h : SwI m s) (iv : KInv m A B s) (n : Int) {j : Job} (hj : s.jobs j.task = some j) : SwI m (runsTailZ m s n j) := by
  have hd := h.did 1 (lvlP m s.level) s.level n 1 (by decide) (fun _ => rfl)
  obtain ⟨_, h0, h6⟩ := iv.jobs _ _ hj
  unfold runsTailZ
  dsimp only
  split
  · have h2 : SwI m { didZ m s 1 (lvlP m s.level) s.level n 1 with held := (didZ m s 1 (lvlP m s.level) s.level n 1).held.map (spendZ n) } := ⟨hd.lv, hd.ok, hd.n⟩
    refine h2.endZ _ ?_ _
    unfold jobHow
    split
    · decide
    · split <;> decide
  · refine ⟨hd.lv, hd.ok, ?_⟩
    have w2 := wsum_upd unW s.jobs h0 (by omega) (some (jobStep j))
    rw [hj] at w2
    have e2 : ow unW (some (jobStep j)) = ow unW (some j) := rfl
    have hn := hd.n
    have hn : (swAll m.p.crit (didZ m s 1 (lvlP m s.level) s.level n 1).trace).n + wsum unW s.jobs + (if s.ended then 1 else 0) ≤ nonExp s.events := hn
    show (swAll m.p.crit (didZ m s 1 (lvlP m s.level) s.level n 1).trace).n + wsum unW (upd s.jobs j.task (some (jobStep j))) + (if s.ended then 1 else 0) ≤ nonExp s.events
    omega
theorem SwI.runs (h : SwI m s) (iv : KInv m A B s) (hn : s.now < 16384) (ha : s.asleep = false) {n : Int} {j : Job} (hj : s.jobs n = some j) (hr : RunsR m s n s') : SwI m s' := by
  have hjt := (iv.jobs n j hj).1
  subst hjt
  unfold RunsR at hr
  rw [hj] at hr
  simp only [Option.getD_some] at hr
  split at hr
  · rw [hr]; exact h.endZ 3 (by decide) _
  · split at hr
    · rename_i hc
      obtain ⟨b, s1, hch, hb⟩ := hr
      obtain ⟨lv, l0, l1, _, hz⟩ := chooseR_start hch
      obtain ⟨hs, hs2⟩ := h.startZ iv hj hc
      obtain ⟨iv1, _, _, _, hlev, _, hj1⟩ := startZ_inv iv hj ha hc
      rcases hz with ⟨_, rfl, rfl⟩ | ⟨hne, rfl, rfl⟩
      · rw [if_neg (by decide)] at hb
        rw [hj1] at hb
        simp only [Option.getD_some] at hb
        rw [hb]
        exact hs.runsTail iv1 j.task (j := { j with started := true }) hj1
      · rw [if_pos rfl] at hb
        rw [hb]
        have e : swAll m.p.crit (didZ m { V.startZ s j with level := lv } 3 m.p.switch lv 0 0).trace = ⟨lv, (swAll m.p.crit (V.startZ s j).trace).n + 1, true⟩ := by
          show swAll m.p.crit (addZ (V.startZ s j).trace _) = _
          rw [swAll_addZ]
          unfold swOne
          dsimp only
          rw [if_neg (by decide), if_pos rfl, hs.ok, hs.lv, hlev]
          have : (lv == s.level) = false := by simpa using hne
          rw [this]
          simp [l0, l1]
        refine ⟨?_, ?_, ?_⟩
        · rw [e]; rfl
        · rw [e]
        · rw [e]
          exact hs2
    · rw [hr]; exact h.runsTail iv j.task hj
theorem SwI.step (h : SwI m s) (iv : KInv m A B s) (hn : s.now < 16384) (hr : StepR m s s') : SwI m s' := by
  unfold StepR at hr
  by_cases ha : s.asleep = true
  · rw [if_pos ha] at hr
    rw [hr]
    unfold sleepingZ
    dsimp only
    split
    · have h2 : SwI m { s with asleep := false } := ⟨h.lv, h.ok, h.n⟩
      exact h2.did 6 _ _ _ _ (by decide) (fun h => absurd h (by decide))
    · exact h.did 5 _ _ _ _ (by decide) (fun h => absurd h (by decide))
  · rw [if_neg ha] at hr
    have ha' : s.asleep = false := by simpa using ha
    obtain ⟨n, ok, L, hL, _, hw, hr⟩ := hr
    cases ok with
    | true =>
      rw [if_pos rfl] at hr
      obtain ⟨_, x, hx⟩ := whoOf_job iv hL hw
      exact h.runs iv hn ha' hx hr
    | false =>
      rw [if_neg (by decide)] at hr
      have hnn := h.n
      have hle : (swAll m.p.crit s.trace).n + wsum unW s.jobs + (if false = true then 1 else 0) ≤ nonExp s.events := by
        rw [if_neg (by decide)]
        omega
      rcases hr with rfl | ⟨_, k, x, t, _, _, _, _, rfl⟩
      · have h2 : SwI m { s with ended := false } := ⟨h.lv, h.ok, hle⟩
        exact h2.did 2 _ _ _ _ (by decide) (fun h => absurd h (by decide))
      · have h2 : SwI m { s with ended := false, asleep := true, state := (k : Int), wake := wz (s.now + t) } := ⟨h.lv, h.ok, hle⟩
        exact h2.did 4 _ _ _ _ (by decide) (fun h => absurd h (by decide))
theorem SwI.rel (h : SwI m s) (hr : RelOne s s') : SwI m s' := by
  obtain ⟨n, at_, cyc, t, _, _, _, _, rfl⟩ := hr
  refine ⟨h.lv, h.ok, ?_⟩
  have h1 := wsum_upd_le unW s.jobs n (some (jobNew n t.t at_ cyc))
  have e0 : ow unW (some (jobNew n t.t at_ cyc)) = 1 := rfl
  have hn := h.n
  show (swAll m.p.crit s.trace).n + wsum unW (upd s.jobs n (some (jobNew n t.t at_ cyc))) + (if s.ended then 1 else 0) ≤ nonExp (s.events ++ [_])
  rw [nonExp_snoc, if_neg (show ¬ (1 : Int) = 4 by decide)]
  omega
theorem SwI.exp (h : SwI m s) (hr : ExpOne s s') : SwI m s' := by
  obtain ⟨n, at_, cyc, _, _, _, rfl⟩ := hr
  refine ⟨h.lv, h.ok, ?_⟩
  have hn := h.n
  show (swAll m.p.crit s.trace).n + wsum unW s.jobs + (if s.ended then 1 else 0) ≤ nonExp (s.events ++ [_])
  rw [nonExp_snoc]
  omega
theorem SwI.bound (h : SwI m s) (hr : BoundR m s s') : SwI m s' := by
  obtain ⟨s1, s2, h1, _, h2, _, D, X, rfl, _⟩ := hr
  have i1 := Star.keep (I := SwI m) (fun _ _ r i => i.rel r) h1 h
  have i2 := Star.keep (I := SwI m) (fun _ _ r i => i.exp r) h2 i1
  exact ⟨i2.lv, i2.ok, i2.n⟩
/-- What a step that is no tick leaves as it was. -/
structure Calm (s s' : KS) : Prop where
  now : s'.now = s.now
  level : s'.level = s.level
  jobs : s'.jobs = s.jobs
  stack : s'.stack = s.stack
  ended : s'.ended = s.ended
  spent : s'.spent = s.spent
  asleep : s'.asleep = s.asleep
  state : s'.state = s.state
  wake : s'.wake = s.wake
  trace : s'.trace = s.trace
  meter : s'.meter = s.meter
  events : s'.events = s.events
theorem Calm.refl : Calm s s := ⟨rfl, rfl, rfl, rfl, rfl, rfl, rfl, rfl, rfl, rfl, rfl, rfl⟩
theorem AdmitR.calm {x : ATask} {n e : Int} (hr : AdmitR m s x n e s') : Calm s s' := by
  rcases hr with ⟨_, _, _, rfl⟩ | ⟨_, ⟨_, _, _, rfl⟩ | ⟨_, ⟨_, _, _, rfl⟩ | ⟨_, ⟨_, _, _, rfl⟩ | ⟨_, _, i, y, z, r, s1, _, _, _, _, ⟨D, rfl, _⟩, _, _, _, _, rfl⟩⟩⟩⟩
  · exact .refl
  · exact .refl
  · exact .refl
  · exact .refl
  · exact ⟨rfl, rfl, rfl, rfl, rfl, rfl, rfl, rfl, rfl, rfl, rfl, rfl⟩
theorem OneR.calm {x : ASt} {n e : Int} (hr : OneR m s x n e s') : (x.kind = 4 ∧ TickR m s x.a e s') ∨ Calm s s' := by
  rcases hr with ⟨_, hr⟩ | ⟨_, _, hr⟩ | ⟨_, _, hr⟩ | ⟨hk, _, hr⟩ | ⟨_, _, hr⟩ | ⟨hk, _, hr⟩ | ⟨_, _, hr⟩ | ⟨_, _, _, rfl⟩
  · exact .inr hr.calm
  · rcases hr with ⟨rfl, _⟩ | ⟨_, _, _, _, _, rfl⟩
    · exact .inr .refl
    · exact .inr ⟨rfl, rfl, rfl, rfl, rfl, rfl, rfl, rfl, rfl, rfl, rfl, rfl⟩
  · rcases hr with ⟨_, rfl⟩ | ⟨_, _, _, _, _, _, _, _, rfl⟩
    · exact .inr .refl
    · exact .inr ⟨rfl, rfl, rfl, rfl, rfl, rfl, rfl, rfl, rfl, rfl, rfl, rfl⟩
  · exact .inl ⟨hk, hr⟩
  · rcases hr with ⟨rfl, _⟩ | ⟨_, n, L, _, _, _, _, t, _, _, _, hr⟩
    · exact .inr .refl
    · rcases hr with ⟨_, i, _, rfl⟩ | ⟨_, _, c, _, rfl⟩
      · exact .inr ⟨rfl, rfl, rfl, rfl, rfl, rfl, rfl, rfl, rfl, rfl, rfl, rfl⟩
      · exact .inr ⟨rfl, rfl, rfl, rfl, rfl, rfl, rfl, rfl, rfl, rfl, rfl, rfl⟩
  · rcases hr with ⟨_, _, rfl⟩ | ⟨_, _, _, h0, h1, rfl⟩
    · exact .inr .refl
    · exact .inr ⟨rfl, rfl, rfl, rfl, rfl, rfl, rfl, rfl, rfl, rfl, rfl, rfl⟩
  · unfold TimerR at hr
    split at hr
    · rcases hr with ⟨_, _, rfl⟩ | ⟨_, _, rfl⟩
      · exact .inr ⟨rfl, rfl, rfl, rfl, rfl, rfl, rfl, rfl, rfl, rfl, rfl, rfl⟩
      · exact .inr .refl
    · rcases hr with ⟨_, _, rfl⟩ | ⟨_, _, _, _, _, _, _, rfl⟩
      · exact .inr .refl
      · exact .inr ⟨rfl, rfl, rfl, rfl, rfl, rfl, rfl, rfl, rfl, rfl, rfl, rfl⟩
  · exact .inr .refl
theorem TickR.keep {I : KS → Prop} (hstep : ∀ s s', KInv m A B s → s.now < 16384 → StepR m s s' → I s → I s') (hbound : ∀ s s', KInv m A B s → BoundR m s s' → I s → I s') {n e : Int} (iv : KInv m A B s) (hr : TickR m s n e s') (h : I s) : I s' := by
  rcases hr with ⟨_, _, rfl⟩ | ⟨_, _, _, hs, _⟩
  · exact h
  · have hE := endT_le iv.mok s n
    refine (Star.keep (I := fun s => KInv m A B s ∧ I s) (fun s1 s2 r i => ?_) hs ⟨iv, h⟩).2
    obtain ⟨hlt, s3, h1, h2⟩ := r
    have j1 := stepR_inv i.1 (by omega) h1
    exact ⟨(h2.inv j1.1).1, hbound _ _ j1.1 h2 (hstep _ _ i.1 (by omega) h1 i.2)⟩
theorem DoR.keep {I : KS → Prop} (hcalm : ∀ s s', Calm s s' → I s → I s') (hstep : ∀ s s', KInv m (A + 1) (B + 70000) s → s.now < 16384 → StepR m s s' → I s → I s') (hbound : ∀ s s', KInv m (A + 1) (B + 70000) s → BoundR m s s' → I s → I s')
    {x : ASt} {n e : Int} (iv : KInv m A B s) (hA : A + 1 ≤ 800000000) (hB : B + 70000 ≤ bigN) (hr : DoR m s x n e s') (h : I s) : I s' := by
  rcases hr with ⟨_, _, _, rfl⟩ | ⟨_, ⟨_, _, rfl⟩ | ⟨_, s1, h1, h2⟩⟩
  · exact h
  · exact h
  · have iv1 := (h1.inv iv hA hB).1
    refine hbound _ _ iv1 h2 ?_
    rcases h1.calm with ⟨_, ht⟩ | hc
    · exact ht.keep hstep hbound (iv.mono (by omega) (by omega) hA hB) h
    · exact hcalm _ _ hc h
theorem SwI.calm (h : SwI m s) (c : Calm s s') : SwI m s' := ⟨by rw [c.trace, c.level]; exact h.lv, by rw [c.trace]; exact h.ok, by rw [c.trace, c.jobs, c.ended, c.events]; exact h.n⟩
theorem SwI.doR (h : SwI m s) {x : ASt} {n e : Int} (iv : KInv m A B s) (hA : A + 1 ≤ 800000000) (hB : B + 70000 ≤ bigN) (hr : DoR m s x n e s') : SwI m s' :=
  DoR.keep (fun _ _ c i => i.calm c) (fun _ _ iv hn r i => i.step iv hn r) (fun _ _ _ r i => i.bound r) iv hA hB hr h
theorem SwI.s0 (m : Mach) : SwI m (s0 m) := ⟨rfl, rfl, Nat.le_refl _⟩
end
end Go.Proofs.YtajilfnceoeaiaaGreat.V
/- Whenever a device is on, it has cost no more than if it had never been away. Plain. -/
namespace Go.Proofs.YtajilfnceoeaiaaGreat.V
open Go Go.RowKit Enc
set_option maxRecDepth 100000
/-- What a step of the machine leaves as it was; time goes by, but not for long. -/
structure StepF (s s' : KS) : Prop where
  devs : s'.devs = s.devs
  spent : s'.spent = s.spent
  T : s'.T = s.T
  N : s'.N = s.N
  lat : s'.lat = s.lat
  tim : s'.tim = s.tim
  places : s'.places = s.places
  policy : s'.policy = s.policy
  naps : s'.naps = s.naps
  le : s.now ≤ s'.now
  far : s'.now ≤ s.now + 256
section
variable {m : Mach} {A B : Nat} {s s' s'' : KS}
theorem StepF.did (hn : 0 ≤ s.now ∧ s.now ≤ 17000) (kind len arg task cyc : Int) (hl : 0 ≤ len ∧ len ≤ 256) : StepF s (didZ m s kind len arg task cyc) := by
  have hw : wz (s.now + len) = s.now + len := wz_id (by omega) (by omega)
  refine ⟨rfl, rfl, rfl, rfl, rfl, rfl, rfl, rfl, rfl, ?_, ?_⟩
  · show s.now ≤ wz (s.now + len)
    omega
  · show wz (s.now + len) ≤ s.now + 256
    omega
theorem StepF.same {s1 s2 : KS} (h : StepF s1 s2) (e1 : s1.devs = s.devs) (e2 : s1.spent = s.spent) (e3 : s1.T = s.T) (e4 : s1.N = s.N) (e5 : s1.lat = s.lat) (e6 : s1.tim = s.tim) (e7 : s1.places = s.places) (e8 : s1.policy = s.policy) (e9 : s1.naps = s.naps) (e10 : s1.now = s.now) : StepF s s2 :=
  ⟨h.devs.trans e1, h.spent.trans e2, h.T.trans e3, h.N.trans e4, h.lat.trans e5, h.tim.trans e6, h.places.trans e7, h.policy.trans e8, h.naps.trans e9, by rw [← e10]; exact h.le, by rw [← e10]; exact h.far⟩
theorem StepF.endZ (h : StepF s s') (kind : Int) (j : Job) : StepF s (endZ s' kind j) := ⟨h.devs, h.spent, h.T, h.N, h.lat, h.tim, h.places, h.policy, h.naps, h.le, h.far⟩
theorem lvlP_in (iv : KInv m A B s) : 1 ≤ lvlP m s.level ∧ lvlP m s.level ≤ 256 := by
  have hlev := iv.lev
  have hcr := iv.crit.hi
  obtain ⟨i, hi⟩ : ∃ i : Nat, s.level = i := ⟨s.level.toNat, by omega⟩
  obtain ⟨x, hx⟩ : ∃ x, m.L[i]? = some x := ⟨m.L[i]'(by omega), List.getElem?_eq_getElem (by omega)⟩
  have hp := iv.mok.lev i x hx
  have hlp : lvlP m s.level = x.p := by rw [lvlP, hi, Int.toNat_natCast, hx]; rfl
  rw [hlp]
  exact hp
theorem StepF.runsTail (iv : KInv m A B s) (n : Int) (j : Job) : StepF s (runsTailZ m s n j) := by
  have hd : StepF s (didZ m s 1 (lvlP m s.level) s.level n 1) := StepF.did iv.now 1 _ _ _ _ ⟨by have := (lvlP_in iv).1; omega, (lvlP_in iv).2⟩
  have h2 : StepF s { didZ m s 1 (lvlP m s.level) s.level n 1 with held := (didZ m s 1 (lvlP m s.level) s.level n 1).held.map (spendZ n) } := ⟨hd.devs, hd.spent, hd.T, hd.N, hd.lat, hd.tim, hd.places, hd.policy, hd.naps, hd.le, hd.far⟩
  unfold runsTailZ
  dsimp only
  split
  · exact h2.endZ _ _
  · exact ⟨hd.devs, hd.spent, hd.T, hd.N, hd.lat, hd.tim, hd.places, hd.policy, hd.naps, hd.le, hd.far⟩
theorem startZ_same (s : KS) (j : Job) : (startZ s j).devs = s.devs ∧ (startZ s j).spent = s.spent ∧ (startZ s j).T = s.T ∧ (startZ s j).N = s.N ∧ (startZ s j).lat = s.lat ∧ (startZ s j).tim = s.tim ∧ (startZ s j).places = s.places ∧ (startZ s j).policy = s.policy ∧ (startZ s j).naps = s.naps ∧ (startZ s j).now = s.now := by
  unfold startZ
  split <;> exact ⟨rfl, rfl, rfl, rfl, rfl, rfl, rfl, rfl, rfl, rfl⟩
theorem StepR.frame (iv : KInv m A B s) (hn : s.now < 16384) (hr : StepR m s s') : StepF s s' := by
  have hnow := iv.now
  have hsw := iv.mok.sw
  unfold StepR at hr
  by_cases ha : s.asleep = true
  · rw [if_pos ha] at hr
    rw [hr]
    obtain ⟨h0, h1⟩ := iv.slp ha
    obtain ⟨k, hk⟩ : ∃ k : Nat, s.state = k := ⟨s.state.toNat, by omega⟩
    obtain ⟨x, hx⟩ : ∃ x, m.S[k]? = some x := ⟨m.S[k]'(by omega), List.getElem?_eq_getElem (by omega)⟩
    obtain ⟨g1, g2, g3, g4, g5, g6⟩ := iv.mok.slp k x hx
    have hz : sleepingZ m s = if s.now ≥ wz (s.wake - x.exit) then didZ m { s with asleep := false } 6 x.exit s.state 0 0 else didZ m s 5 1 s.state 0 0 := by
      unfold sleepingZ
      rw [hk, Int.toNat_natCast, hx]
      rfl
    rw [hz]
    split
    · exact (StepF.did (s := { s with asleep := false }) (m := m) hnow 6 x.exit s.state 0 0 ⟨g3, g4⟩).same rfl rfl rfl rfl rfl rfl rfl rfl rfl rfl
    · exact StepF.did hnow 5 1 s.state 0 0 (by omega)
  · rw [if_neg ha] at hr
    have ha' : s.asleep = false := by simpa using ha
    obtain ⟨n, ok, L, hL, _, hw, hr⟩ := hr
    cases ok with
    | true =>
      rw [if_pos rfl] at hr
      obtain ⟨_, j, hj⟩ := whoOf_job iv hL hw
      have hjt := (iv.jobs n j hj).1
      subst hjt
      unfold RunsR at hr
      rw [hj] at hr
      simp only [Option.getD_some] at hr
      split at hr
      · rw [hr]
        exact StepF.endZ ⟨rfl, rfl, rfl, rfl, rfl, rfl, rfl, rfl, rfl, Int.le_refl _, by omega⟩ _ _
      · split at hr
        · rename_i hc
          obtain ⟨b, s1, hch, hb⟩ := hr
          obtain ⟨lv, l0, l1, _, hz⟩ := chooseR_start hch
          obtain ⟨iv1, _, _, _, hlev, _, hj1⟩ := startZ_inv iv hj ha' hc
          obtain ⟨e1, e2, e3, e4, e5, e6, e7, e8, e9, e10⟩ := startZ_same s j
          rcases hz with ⟨_, rfl, rfl⟩ | ⟨hne, rfl, rfl⟩
          · rw [if_neg (by decide)] at hb
            rw [hb]
            exact (StepF.runsTail iv1 _ _).same e1 e2 e3 e4 e5 e6 e7 e8 e9 e10
          · rw [if_pos rfl] at hb
            rw [hb]
            exact (StepF.did (s := { startZ s j with level := lv }) (m := m) (by show 0 ≤ (startZ s j).now ∧ (startZ s j).now ≤ 17000; rw [e10]; exact hnow) 3 m.p.switch lv 0 0 hsw).same e1 e2 e3 e4 e5 e6 e7 e8 e9 e10
        · rw [hr]; exact StepF.runsTail iv _ _
    | false =>
      rw [if_neg (by decide)] at hr
      rcases hr with rfl | ⟨_, k, x, t, hx, _, _, _, rfl⟩
      · exact (StepF.did (s := { s with ended := false }) (m := m) hnow 2 1 0 0 0 (by omega)).same rfl rfl rfl rfl rfl rfl rfl rfl rfl rfl
      · obtain ⟨g1, g2, _⟩ := iv.mok.slp k x hx
        exact (StepF.did (s := { s with ended := false, asleep := true, state := (k : Int), wake := wz (s.now + t) }) (m := m) hnow 4 x.enter k 0 0 ⟨g1, g2⟩).same rfl rfl rfl rfl rfl rfl rfl rfl rfl rfl
/-- A device's moments and its cost. -/
def DevOne (now : Int) (d : Device) (x : Away) (p : Int) : Prop :=
  (x = ⟨0, 0⟩ ∧ p = 0) ∨ (0 ≤ x.from_ ∧ x.from_ ≤ now ∧ x.from_ + d.even ≤ x.until_ ∧ x.until_ ≤ 1099511627776 ∧ 0 ≤ p ∧ p ≤ d.on * x.from_)
theorem DevOne.later {now now' : Int} {d : Device} {x : Away} {p : Int} (h : DevOne now d x p) (hl : now ≤ now') : DevOne now' d x p := by
  rcases h with h | ⟨h1, h2, h3⟩
  · exact .inl h
  · exact .inr ⟨h1, by omega, h3⟩
theorem DevOne.on_le {now : Int} {d : Device} {x : Away} {p : Int} (hd : AwayOk d.down d.up d.downE d.upE d.off d.on d.even) (h0 : 0 ≤ now) (h1 : now ≤ 17000) (h : DevOne now d x p) (hs : stateZ d x now = 1) : wz (p + energyZ d x now) = p + energyZ d x now ∧ 0 ≤ p + energyZ d x now ∧ p + energyZ d x now ≤ d.on * now := by
  obtain ⟨k1, k2, k3, k4, k5, k6, k7, k8, k9, k10⟩ := hd
  have hon := mul_in k5.1 k5.2 h0 h1
  rcases h with ⟨rfl, rfl⟩ | ⟨f0, f1, f2, f3, p0, p1⟩
  · have he : energyZ d ⟨0, 0⟩ now = d.on * now := by
      unfold energyZ
      rw [if_pos (show neverZ ⟨0, 0⟩ = true from rfl), if_neg (by omega)]
      exact wz_id (by omega) (by omega)
    rw [he]
    refine ⟨wz_id (by omega) (by omega), by omega, by omega⟩
  · have hnv : neverZ x = false := by
      unfold neverZ
      by_cases e : x.from_ = 0
      · have : x.until_ ≠ 0 := by omega
        simp [this]
      · simp [e]
    have hu : now ≥ x.until_ := by
      unfold stateZ at hs
      rw [hnv] at hs
      by_cases g : now ≥ x.until_
      · exact g
      · rw [if_neg (by simp; omega)] at hs
        split at hs
        · cases hs
        · split at hs <;> cases hs
    have w1 : wz (x.from_ + d.down) = x.from_ + d.down := wz_id (by omega) (by omega)
    have w2 : wz (x.until_ - d.up) = x.until_ - d.up := wz_id (by omega) (by omega)
    have w3 : wz (0 + d.downE) = d.downE := by rw [show 0 + d.downE = d.downE by omega]; exact wz_id (by omega) (by omega)
    have w4 : wz (d.downE + d.upE) = d.downE + d.upE := wz_id (by omega) (by omega)
    have w5 : wz (x.until_ - d.up - (x.from_ + d.down)) = x.until_ - d.up - (x.from_ + d.down) := wz_id (by omega) (by omega)
    have w6 : wz (now - x.until_) = now - x.until_ := wz_id (by omega) (by omega)
    have hspan : spanZ (x.from_ + d.down) (x.until_ - d.up) now = x.until_ - d.up - (x.from_ + d.down) := by
      unfold spanZ
      have hif : (if now < x.until_ - d.up then now else x.until_ - d.up) = x.until_ - d.up := if_neg (by omega)
      rw [hif, w5, if_neg (by omega)]
    have m1 := mul_in k6.1 (show d.off ≤ 65536 by omega) (show 0 ≤ x.until_ - d.up - (x.from_ + d.down) by omega) (show x.until_ - d.up - (x.from_ + d.down) ≤ 17000 by omega)
    have m2 := mul_in k5.1 k5.2 (show 0 ≤ now - x.until_ by omega) (show now - x.until_ ≤ 17000 by omega)
    have he : energyZ d x now = d.downE + d.upE + d.off * (x.until_ - d.up - (x.from_ + d.down)) + d.on * (now - x.until_) := by
      unfold energyZ
      rw [hnv, if_neg (by decide)]
      dsimp only
      rw [w1, w2, hspan, if_pos (by omega), if_pos (by omega), w3, w4, w6, if_neg (by omega), wzi (x := d.off * (x.until_ - d.up - (x.from_ + d.down))) (by omega) (by omega), wzi (x := d.on * (now - x.until_)) (by omega) (by omega), wzi (x := d.downE + d.upE + d.off * (x.until_ - d.up - (x.from_ + d.down))) (by omega) (by omega)]
      exact wz_id (by omega) (by omega)
    -- off for longer than the least is no dearer than on
    have m3 : d.off * (x.until_ - d.up - (x.from_ + d.down)) = d.off * (d.even - d.down - d.up) + d.off * (x.until_ - x.from_ - d.even) := by
      rw [← Int.mul_add]
      congr 1
      omega
    have m4 : d.off * (x.until_ - x.from_ - d.even) ≤ d.on * (x.until_ - x.from_ - d.even) := Int.mul_le_mul_of_nonneg_right k6.2 (by omega)
    have m5 : d.on * now = d.on * x.from_ + (d.on * d.even + d.on * (x.until_ - x.from_ - d.even) + d.on * (now - x.until_)) := by
      rw [← Int.mul_add, ← Int.mul_add, ← Int.mul_add]
      congr 1
      omega
    rw [he]
    have hp1 := mul_in k5.1 k5.2 f0 (show x.from_ ≤ 17000 by omega)
    refine ⟨wz_id (by omega) (by omega), by omega, by omega⟩
theorem DevOne.call {now : Int} {d : Device} {x : Away} {p : Int} (hd : AwayOk d.down d.up d.downE d.upE d.off d.on d.even) (h0 : 0 ≤ now) (h1 : now ≤ 17000) (h : DevOne now d x p) : DevOne now d (callZ d x now) p := by
  obtain ⟨k1, k2, k3, k4, k5, k6, k7, k8, k9, k10⟩ := hd
  unfold callZ
  split
  · rename_i hu
    rcases h with ⟨rfl, rfl⟩ | ⟨f0, f1, f2, f3, p0, p1⟩
    · cases hu
    · have w1 : wz (x.from_ + d.even) = x.from_ + d.even := wz_id (by omega) (by omega)
      have w2 : wz (now + d.up) = now + d.up := wz_id (by omega) (by omega)
      have w3 : wz (x.from_ + d.down) = x.from_ + d.down := wz_id (by omega) (by omega)
      have w4 : wz (x.from_ + d.down + d.up) = x.from_ + d.down + d.up := wz_id (by omega) (by omega)
      refine .inr ⟨f0, f1, ?_, ?_, p0, p1⟩
      · dsimp only
        rw [w1, w2, w3, w4]
        unfold mxZ
        split <;> split <;> omega
      · dsimp only
        rw [w1, w2, w3, w4]
        unfold mxZ
        split <;> split <;> omega
  · exact h
theorem DevOne.calls {now : Int} {d : Device} {x : Away} {p : Int} (hd : AwayOk d.down d.up d.downE d.upE d.off d.on d.even) (h0 : 0 ≤ now) (h1 : now ≤ 17000) (h : DevOne now d x p) (n : Nat) : DevOne now d (Nat.repeat (fun z => callZ d z now) n x) p := by
  induction n with
  | zero => exact h
  | succ n ih => exact DevOne.call hd h0 h1 ih
theorem DevOne.away {now : Int} {d : Device} {x x' : Away} {p p' : Int} (hd : AwayOk d.down d.up d.downE d.upE d.off d.on d.even) (h0 : 0 ≤ now) (h1 : now ≤ 17000) (h : DevOne now d x p) (ha : AwayOne d now x p x' p') : DevOne now d x' p' := by
  obtain ⟨u, u0, u1, ⟨_, rfl, rfl⟩ | ⟨hb, rfl, rfl⟩⟩ := ha
  · exact h
  · unfold awayB at hb
    simp only [Bool.and_eq_true, beq_iff_eq, Bool.not_eq_true', decide_eq_false_iff_not] at hb
    obtain ⟨hs, he⟩ := hb
    rw [wzi (x := u - now) (by omega) (by omega)] at he
    obtain ⟨e1, e2, e3⟩ := h.on_le hd h0 h1 hs
    rw [e1]
    exact .inr ⟨h0, Int.le_refl _, by dsimp only; omega, u1, e2, e3⟩
/-- What holds of all devices. -/
def DevI (m : Mach) (s : KS) : Prop := ∀ (i : Nat) (d : Device) (x : Away) (p : Int), m.D[i]? = some d → s.devs[i]? = some x → s.spent[i]? = some p → DevOne s.now d x p
theorem DevI.eq (h : DevI m s) (e1 : s'.devs = s.devs) (e2 : s'.spent = s.spent) (e3 : s.now ≤ s'.now) : DevI m s' := fun i d x p hd hx hp => (h i d x p hd (by rw [← e1]; exact hx) (by rw [← e2]; exact hp)).later e3
theorem rel_frame (hr : RelOne s s') : s'.devs = s.devs ∧ s'.spent = s.spent ∧ s'.now = s.now ∧ s'.T = s.T ∧ s'.tim = s.tim := by
  obtain ⟨n, at_, cyc, t, _, _, _, _, rfl⟩ := hr
  exact ⟨rfl, rfl, rfl, rfl, rfl⟩
theorem exp_frame (hr : ExpOne s s') : s'.devs = s.devs ∧ s'.spent = s.spent ∧ s'.now = s.now ∧ s'.T = s.T ∧ s'.lat = s.lat ∧ s'.N = s.N := by
  obtain ⟨n, at_, cyc, _, _, _, rfl⟩ := hr
  exact ⟨rfl, rfl, rfl, rfl, rfl, rfl⟩
theorem DevI.bound (t : Tab m) (iv : KInv m A B s) (h : DevI m s) (hr : BoundR m s s') : DevI m s' := by
  obtain ⟨s1, s2, h1, _, h2, _, D, X, rfl, hDl, hXl, ha⟩ := hr
  have i1 := Star.keep (I := DevI m) (fun _ _ r i => i.eq (rel_frame r).1 (rel_frame r).2.1 (Int.le_of_eq (rel_frame r).2.2.1.symm)) h1 h
  have i2 := Star.keep (I := DevI m) (fun _ _ r i => i.eq (exp_frame r).1 (exp_frame r).2.1 (Int.le_of_eq (exp_frame r).2.2.1.symm)) h2 i1
  obtain ⟨j1, _, n1⟩ := h1.relInv iv
  obtain ⟨j2, _, n2⟩ := h2.expInv j1
  have hnow := j2.now
  intro i d x' p' hd hx' hp'
  have hx' : D[i]? = some x' := hx'
  have hp' : X[i]? = some p' := hp'
  have hlx : i < s2.devs.length := by have := lt_of_get hx'; omega
  have hlp : i < s2.spent.length := by have := lt_of_get hp'; omega
  obtain ⟨x3, p3, e1, e2, e3⟩ := ha i d _ _ hd (List.getElem?_eq_getElem hlx) (List.getElem?_eq_getElem hlp)
  rw [hx'] at e1
  rw [hp'] at e2
  cases e1; cases e2
  exact (i2 i d _ _ hd (List.getElem?_eq_getElem hlx) (List.getElem?_eq_getElem hlp)).away (t.dev i d hd) hnow.1 hnow.2 e3
theorem DevI.calm (t : Tab m) (iv : KInv m A B s) (h : DevI m s) {x : ASt} {n e : Int} (hr : OneR m s x n e s') (hk : x.kind ≠ 4) : DevI m s' := by
  have hnow := iv.now
  rcases hr with ⟨_, hr⟩ | ⟨_, _, hr⟩ | ⟨_, _, hr⟩ | ⟨hk4, _, hr⟩ | ⟨_, _, hr⟩ | ⟨_, _, hr⟩ | ⟨_, _, hr⟩ | ⟨_, _, _, rfl⟩
  · rcases hr with ⟨_, _, _, rfl⟩ | ⟨_, ⟨_, _, _, rfl⟩ | ⟨_, ⟨_, _, _, rfl⟩ | ⟨_, ⟨_, _, _, rfl⟩ | ⟨_, _, i, y, z, r, s1, _, _, _, _, ⟨D, rfl, ⟨hDl, hD⟩, _⟩, _, _, _, _, rfl⟩⟩⟩⟩
    · exact h
    · exact h
    · exact h
    · exact h
    · intro i d x p hd hx hp
      have hx : D[i]? = some x := hx
      have hlx : i < s.devs.length := by have := lt_of_get hx; rw [hDl] at this; exact this
      obtain ⟨y, n, e1, e2⟩ := hD i _ d hd (List.getElem?_eq_getElem hlx)
      rw [hx] at e1; cases e1
      rw [e2]
      exact (h i d _ p hd (List.getElem?_eq_getElem hlx) hp).calls (t.dev i d hd) hnow.1 hnow.2 n
  · rcases hr with ⟨rfl, _⟩ | ⟨_, _, _, _, _, rfl⟩
    · exact h
    · exact h.eq rfl rfl (Int.le_refl _)
  · rcases hr with ⟨_, rfl⟩ | ⟨_, _, _, _, _, _, _, _, rfl⟩
    · exact h
    · exact h.eq rfl rfl (Int.le_refl _)
  · exact absurd hk4 hk
  · rcases hr with ⟨rfl, _⟩ | ⟨_, n, L, _, _, _, _, t, _, _, _, hr⟩
    · exact h
    · rcases hr with ⟨_, i, _, rfl⟩ | ⟨_, _, c, _, rfl⟩ <;> exact h.eq rfl rfl (Int.le_refl _)
  · rcases hr with ⟨_, _, rfl⟩ | ⟨_, _, _, h0, h1, rfl⟩
    · exact h
    · exact h.eq rfl rfl (Int.le_refl _)
  · unfold TimerR at hr
    split at hr
    · rcases hr with ⟨_, _, rfl⟩ | ⟨_, _, rfl⟩
      · exact h.eq rfl rfl (Int.le_refl _)
      · exact h
    · rcases hr with ⟨_, _, rfl⟩ | ⟨_, _, _, _, _, _, _, rfl⟩
      · exact h
      · exact h.eq rfl rfl (Int.le_refl _)
  · exact h
theorem DevI.doR (t : Tab m) (h : DevI m s) {x : ASt} {n e : Int} (iv : KInv m A B s) (hA : A + 1 ≤ 800000000) (hB : B + 70000 ≤ bigN) (hr : DoR m s x n e s') : DevI m s' := by
  rcases hr with ⟨_, _, _, rfl⟩ | ⟨_, ⟨_, _, rfl⟩ | ⟨_, s1, h1, h2⟩⟩
  · exact h
  · exact h
  · have iv1 := (h1.inv iv hA hB).1
    refine DevI.bound t iv1 ?_ h2
    by_cases hk : x.kind = 4
    · rcases h1.calm with ⟨_, ht⟩ | hc
      · exact ht.keep (fun _ _ iv hn r i => i.eq (StepR.frame iv hn r).devs (StepR.frame iv hn r).spent (StepR.frame iv hn r).le) (fun _ _ iv r i => i.bound t iv r) iv h
      · rcases h1 with ⟨hk', _⟩ | ⟨hk', _⟩ | ⟨hk', _⟩ | ⟨_, _, ht⟩ | ⟨hk', _⟩ | ⟨hk', _⟩ | ⟨hk', _⟩ | ⟨hk', _⟩
        · omega
        · omega
        · omega
        · exact ht.keep (fun _ _ iv hn r i => i.eq (StepR.frame iv hn r).devs (StepR.frame iv hn r).spent (StepR.frame iv hn r).le) (fun _ _ iv r i => i.bound t iv r) iv h
        all_goals omega
    · exact h.calm t iv h1 hk
theorem DevI.s0 (m : Mach) : DevI m (s0 m) := by
  intro i d x p hd hx hp
  have hx := List.mem_of_getElem? hx
  have hp := List.mem_of_getElem? hp
  exact .inl ⟨List.eq_of_mem_replicate hx, List.eq_of_mem_replicate hp⟩
end
end Go.Proofs.YtajilfnceoeaiaaGreat.V
/- A timer is told for each of its moments, in order, at the first boundary from it on. Plain. -/
namespace Go.Proofs.YtajilfnceoeaiaaGreat.V
open Go Go.RowKit Enc
set_option maxRecDepth 100000
/-- The moment that is next, whether there is none any more, and whether all is right so far. -/
structure Tm where
  want : Int
  over : Bool
  ok : Bool
def tmOne (n every : Int) (x : Tm) (e : Event) : Tm :=
  if e.kind = 4 ∧ e.task = n then ⟨x.want + every, every == 0, x.ok && (!x.over && ((e.due == x.want) && (decide (x.want ≤ e.at_) && decide (e.at_ - x.want < 256))))⟩ else x
def tmAll (n every want : Int) (E : List Event) : Tm := E.foldl (tmOne n every) ⟨want, false, true⟩
theorem tmAll_snoc (n every want : Int) (E : List Event) (e : Event) : tmAll n every want (E ++ [e]) = tmOne n every (tmAll n every want E) e := by
  unfold tmAll
  rw [List.foldl_append]
  rfl
theorem tmOne_other {n every : Int} {x : Tm} {e : Event} (h : ¬ (e.kind = 4 ∧ e.task = n)) : tmOne n every x e = x := if_neg h
/-- What holds of one timer, behind so many events; it may be late by less than so much. -/
structure TmI (n every want : Int) (k0 : Nat) (late : Int) (s : KS) : Prop where
  len : k0 ≤ s.events.length
  ok : (tmAll n every want (s.events.drop k0)).ok = true
  off : (tmAll n every want (s.events.drop k0)).over = true → every = 0 ∧ s.tim n = none
  on : (tmAll n every want (s.events.drop k0)).over = false → s.tim n = some ((tmAll n every want (s.events.drop k0)).want, every) ∧ s.now < (tmAll n every want (s.events.drop k0)).want + late
  hi : (tmAll n every want (s.events.drop k0)).want ≤ 1000000
section
variable {m : Mach} {A B : Nat} {s s' : KS} {n every want late late' : Int} {k0 : Nat}
theorem TmI.mono (h : TmI n every want k0 late s) (hl : late ≤ late') : TmI n every want k0 late' s := ⟨h.len, h.ok, h.off, fun e => ⟨(h.on e).1, by have := (h.on e).2; omega⟩, h.hi⟩
theorem TmI.eq (h : TmI n every want k0 late s) (e1 : s'.events = s.events) (e2 : s'.tim n = s.tim n) (e3 : s'.now - s.now ≤ late' - late) : TmI n every want k0 late' s' := by
  refine ⟨by rw [e1]; exact h.len, by rw [e1]; exact h.ok, ?_, ?_, by rw [e1]; exact h.hi⟩
  · rw [e1, e2]; exact h.off
  · rw [e1, e2]
    intro e
    have := h.on e
    exact ⟨this.1, by omega⟩
theorem TmI.tell (h : TmI n every want k0 late s) {e : Event} (he : s'.events = s.events ++ [e]) (hne : ¬ (e.kind = 4 ∧ e.task = n)) (e2 : s'.tim n = s.tim n) (e3 : s'.now - s.now ≤ late' - late) : TmI n every want k0 late' s' := by
  have hd : tmAll n every want (s'.events.drop k0) = tmAll n every want (s.events.drop k0) := by
    rw [he, List.drop_append_of_le_length h.len, tmAll_snoc, tmOne_other hne]
  refine ⟨by rw [he, List.length_append]; exact Nat.le_trans h.len (Nat.le_add_right _ _), by rw [hd]; exact h.ok, ?_, ?_, by rw [hd]; exact h.hi⟩
  · rw [hd, e2]; exact h.off
  · rw [hd, e2]
    intro e
    have := h.on e
    exact ⟨this.1, by omega⟩
/-- What a step of the machine tells: at most that a job has ended. -/
theorem StepR.tells (iv : KInv m A B s) (hr : StepR m s s') : s'.events = s.events ∨ ∃ e, s'.events = s.events ++ [e] ∧ (e.kind = 2 ∨ e.kind = 3) := by
  have tail : ∀ (s1 : KS) (n : Int) (j : Job), (runsTailZ m s1 n j).events = s1.events ∨ ∃ e, (runsTailZ m s1 n j).events = s1.events ++ [e] ∧ (e.kind = 2 ∨ e.kind = 3) := by
    intro s1 n j
    unfold runsTailZ
    dsimp only
    split
    · rename_i hh
      refine .inr ⟨_, rfl, ?_⟩
      show jobHow j = 2 ∨ jobHow j = 3
      revert hh
      unfold jobHow
      split
      · exact fun _ => .inl rfl
      · split
        · exact fun _ => .inr rfl
        · exact fun h => absurd rfl h
    · exact .inl rfl
  have hst : ∀ (j : Job), (startZ s j).events = s.events := fun j => by unfold startZ; split <;> rfl
  unfold StepR at hr
  by_cases ha : s.asleep = true
  · rw [if_pos ha] at hr
    rw [hr]
    unfold sleepingZ
    dsimp only
    split <;> exact .inl rfl
  · rw [if_neg ha] at hr
    obtain ⟨n, ok, L, hL, _, hw, hr⟩ := hr
    cases ok with
    | true =>
      rw [if_pos rfl] at hr
      unfold RunsR at hr
      dsimp only at hr
      split at hr
      · rw [hr]
        exact .inr ⟨_, rfl, .inr rfl⟩
      · split at hr
        · obtain ⟨b, s1, hch, hb⟩ := hr
          obtain ⟨lv, l0, l1, _, hz⟩ := chooseR_start hch
          rcases hz with ⟨_, rfl, rfl⟩ | ⟨hne, rfl, rfl⟩
          · rw [if_neg (by decide)] at hb
            rw [hb]
            have := tail (startZ s ((s.jobs n).getD noJob)) n (((startZ s ((s.jobs n).getD noJob)).jobs n).getD noJob)
            rwa [hst] at this
          · rw [if_pos rfl] at hb
            rw [hb]
            exact .inl (hst _)
        · rw [hr]; exact tail s n _
    | false =>
      rw [if_neg (by decide)] at hr
      rcases hr with rfl | ⟨_, k, x, t, hx, _, _, _, rfl⟩
      · exact .inl rfl
      · exact .inl rfl
theorem TmI.step (iv : KInv m A B s) (hn : s.now < 16384) (h : TmI n every want k0 0 s) (hr : StepR m s s') : TmI n every want k0 256 s' := by
  have hf := StepR.frame iv hn hr
  have hfar := hf.far
  have ht : s'.tim n = s.tim n := by rw [hf.tim]
  rcases StepR.tells iv hr with he | ⟨e, he, hk⟩
  · exact h.eq he ht (by omega)
  · exact h.tell he (fun h => by omega) ht (by omega)
theorem TmI.rel (h : TmI n every want k0 256 s) (hr : RelOne s s') : TmI n every want k0 256 s' := by
  obtain ⟨k, at_, cyc, t, _, _, _, _, rfl⟩ := hr
  exact h.tell (e := ⟨1, k, at_, _⟩) rfl (fun h => absurd h.1 (show ¬ (1 : Int) = 4 by decide)) rfl (by show s.now - s.now ≤ _; omega)
theorem TmI.exp (iv : KInv m A B s) (he : 0 ≤ every ∧ every ≤ 16384) (h : TmI n every want k0 256 s) (hr : ExpOne s s') : TmI n every want k0 256 s' := by
  obtain ⟨id, at_, ev, hl, hd, hm, rfl⟩ := hr
  have hnow := iv.now
  by_cases hid : id = n
  · subst hid
    cases hov : (tmAll id every want (s.events.drop k0)).over with
    | true => have := (h.off hov).2; rw [this] at hl; cases hl
    | false =>
      obtain ⟨h1, h2⟩ := h.on hov
      rw [h1] at hl
      simp only [Option.some.injEq, Prod.mk.injEq] at hl
      obtain ⟨hw, rfl⟩ := hl
      have hrg := iv.tim id _ h1
      dsimp only at hrg
      have hnew : tmAll id every want ((s.events ++ [(⟨4, id, s.now, at_⟩ : Event)]).drop k0) = ⟨at_ + every, every == 0, true⟩ := by
        rw [List.drop_append_of_le_length h.len, tmAll_snoc]
        unfold tmOne
        rw [if_pos ⟨rfl, rfl⟩, h.ok, hov, hw]
        have : decide (at_ ≤ s.now) = true := decide_eq_true hd
        have h3 : decide (s.now - at_ < 256) = true := decide_eq_true (by omega)
        simp [this, h3]
      have hev : (tellZ { s with tim := if every > 0 then upd s.tim id (some (laterZ at_ every, every)) else upd s.tim id none } 4 id s.now at_).events = s.events ++ [⟨4, id, s.now, at_⟩] := rfl
      refine ⟨by rw [hev, List.length_append]; exact Nat.le_trans h.len (Nat.le_add_right _ _), by rw [hev, hnew], ?_, ?_, by rw [hev, hnew]; dsimp only; omega⟩
      · rw [hev, hnew]
        intro e0
        have e0 : every = 0 := by simpa using e0
        refine ⟨e0, ?_⟩
        show (if every > 0 then upd s.tim id (some (laterZ at_ every, every)) else upd s.tim id none) id = none
        rw [if_neg (by omega), upd, if_pos rfl]
      · rw [hev, hnew]
        intro e0
        have e0 : every ≠ 0 := by simpa using e0
        refine ⟨?_, ?_⟩
        · show (if every > 0 then upd s.tim id (some (laterZ at_ every, every)) else upd s.tim id none) id = some (at_ + every, every)
          rw [if_pos (by omega), upd, if_pos rfl, laterZ_in (by omega) (by omega) (by omega) he.2]
        · show s.now < at_ + every + 256
          omega
  · refine h.tell (e := ⟨4, id, s.now, at_⟩) rfl (fun h => hid h.2) ?_ (by show s.now - s.now ≤ _; omega)
    show (if ev > 0 then upd s.tim id (some (laterZ at_ ev, ev)) else upd s.tim id none) n = s.tim n
    split <;> rw [upd, if_neg (Ne.symm hid)]
theorem TmI.bound (iv : KInv m A B s) (he : 0 ≤ every ∧ every ≤ 16384) (h : TmI n every want k0 256 s) (hr : BoundR m s s') : TmI n every want k0 0 s' := by
  obtain ⟨s1, s2, h1, _, h2, hend, D, X, rfl, _⟩ := hr
  have i1 := Star.keep (I := TmI n every want k0 256) (fun _ _ r i => i.rel r) h1 h
  obtain ⟨j1, _, _⟩ := h1.relInv iv
  have i2 := (Star.keep (I := fun s => KInv m A B s ∧ TmI n every want k0 256 s) (fun _ _ r i => ⟨(r.inv i.1).1, i.2.exp i.1 he r⟩) h2 ⟨j1, i1⟩).2
  refine ⟨i2.len, i2.ok, i2.off, fun e => ?_, i2.hi⟩
  have := i2.on e
  have hlt := hend n _ this.1
  exact ⟨this.1, by dsimp only at hlt ⊢; omega⟩
theorem TmI.tick (he : 0 ≤ every ∧ every ≤ 16384) (iv : KInv m A B s) (h : TmI n every want k0 0 s) {a e : Int} (hr : TickR m s a e s') : TmI n every want k0 0 s' := by
  rcases hr with ⟨_, _, rfl⟩ | ⟨_, _, _, hs, _⟩
  · exact h
  · have hE := endT_le iv.mok s a
    refine (Star.keep (I := fun s => KInv m A B s ∧ TmI n every want k0 0 s) (fun s1 s2 r i => ?_) hs ⟨iv, h⟩).2
    obtain ⟨hlt, s3, h1, h2⟩ := r
    have j1 := stepR_inv i.1 (by omega) h1
    exact ⟨(h2.inv j1.1).1, (i.2.step i.1 (by omega) h1).bound j1.1 he h2⟩
/-- Steps that set no such timer leave it as it is. -/
theorem OneR.tim {x : ASt} {a e : Int} (hr : OneR m s x a e s') (hx : x.a ≠ n ∨ (x.kind ≠ 8 ∧ x.kind ≠ 9)) : x.kind = 4 ∨ s'.tim n = s.tim n := by
  rcases hr with ⟨_, hr⟩ | ⟨_, _, hr⟩ | ⟨_, _, hr⟩ | ⟨hk, _, hr⟩ | ⟨_, _, hr⟩ | ⟨hk, _, hr⟩ | ⟨hk, _, hr⟩ | ⟨_, _, _, rfl⟩
  · refine .inr ?_
    rcases hr with ⟨_, _, _, rfl⟩ | ⟨_, ⟨_, _, _, rfl⟩ | ⟨_, ⟨_, _, _, rfl⟩ | ⟨_, ⟨_, _, _, rfl⟩ | ⟨_, _, i, y, z, r, s1, _, _, _, _, ⟨D, rfl, _⟩, _, _, _, _, rfl⟩⟩⟩⟩ <;> rfl
  · refine .inr ?_
    rcases hr with ⟨rfl, _⟩ | ⟨_, _, _, _, _, rfl⟩ <;> rfl
  · refine .inr ?_
    rcases hr with ⟨_, rfl⟩ | ⟨_, _, _, _, _, _, _, _, rfl⟩ <;> rfl
  · exact .inl hk
  · refine .inr ?_
    rcases hr with ⟨rfl, _⟩ | ⟨_, n, L, _, _, _, _, t, _, _, _, hr⟩
    · rfl
    · rcases hr with ⟨_, i, _, rfl⟩ | ⟨_, _, c, _, rfl⟩ <;> rfl
  · refine .inr ?_
    rcases hr with ⟨_, _, rfl⟩ | ⟨_, _, _, h0, h1, rfl⟩ <;> rfl
  · have hne : n ≠ x.a := fun h => (by rcases hx with hx | hx <;> omega)
    refine .inr ?_
    unfold TimerR at hr
    have hst : x.st.a = x.a := rfl
    split at hr
    · rcases hr with ⟨_, _, rfl⟩ | ⟨_, _, rfl⟩
      · show upd s.tim x.st.a none n = s.tim n
        rw [hst, upd, if_neg hne]
      · rfl
    · rcases hr with ⟨_, _, rfl⟩ | ⟨_, _, _, _, _, _, _, rfl⟩
      · rfl
      · show upd s.tim x.st.a _ n = s.tim n
        rw [hst, upd, if_neg hne]
  · exact .inr rfl
theorem TmI.doR (he : 0 ≤ every ∧ every ≤ 16384) (h : TmI n every want k0 0 s) {x : ASt} {a e : Int} (hx : x.a ≠ n ∨ (x.kind ≠ 8 ∧ x.kind ≠ 9)) (iv : KInv m A B s) (hA : A + 1 ≤ 800000000) (hB : B + 70000 ≤ bigN) (hr : DoR m s x a e s') : TmI n every want k0 0 s' := by
  rcases hr with ⟨_, _, _, rfl⟩ | ⟨_, ⟨_, _, rfl⟩ | ⟨_, s1, h1, h2⟩⟩
  · exact h
  · exact h
  · have iv1 := (h1.inv iv hA hB).1
    refine TmI.bound iv1 he ?_ h2
    by_cases hk : x.kind = 4
    · rcases h1 with ⟨hk', _⟩ | ⟨hk', _⟩ | ⟨hk', _⟩ | ⟨_, _, ht⟩ | ⟨hk', _⟩ | ⟨hk', _⟩ | ⟨hk', _⟩ | ⟨hk', _⟩
      · omega
      · omega
      · omega
      · exact (h.tick he iv ht).mono (by omega)
      all_goals omega
    · have ht := (h1.tim hx).resolve_left hk
      rcases h1.calm with ⟨hk4, _⟩ | c
      · exact absurd hk4 hk
      · exact h.eq c.events ht (by rw [c.now]; omega)
/-- A timer is set. -/
theorem TmI.set {x : ASt} {a e : Int} (hk : x.kind = 8) (ha : x.a = n) (hn : 0 ≤ n ∧ n ≤ 3) (hb : 0 ≤ x.b ∧ x.b ≤ 2000) (hc : x.c = every) (he : 0 ≤ every ∧ every ≤ 2000) (hw : want = s.now + x.b) (hlt : s.now < m.p.horizon) (iv : KInv m A B s) (hA : A + 1 ≤ 800000000) (hB : B + 70000 ≤ bigN) (hr : DoR m s x a e s') :
    e = 0 ∧ TmI n every want s.events.length 0 s' := by
  have hnow := iv.now
  have hone : ∀ e s1, OneR m s x a e s1 → TimerR s x.st e s1 := by
    intro e s1 h
    rcases h with ⟨h, _⟩ | ⟨h, _⟩ | ⟨h, _⟩ | ⟨h, _⟩ | ⟨h, _⟩ | ⟨h, _⟩ | ⟨_, _, h⟩ | ⟨h, _⟩
    · omega
    · omega
    · omega
    · omega
    · omega
    · omega
    · exact h
    · omega
  have hset : ∀ e s1, TimerR s x.st e s1 → e = 0 ∧ s1 = { s with tim := upd s.tim n (some (want, every)) } := by
    intro e s1 h
    unfold TimerR at h
    rw [if_neg (show ¬ x.st.kind = 9 by show ¬ x.kind = 9; omega)] at h
    have e1 : x.st.a = n := ha
    have e2 : x.st.b = x.b := rfl
    have e3 : x.st.c = every := hc
    rw [e1, e2, e3] at h
    rcases h with ⟨_, hne, _⟩ | ⟨rfl, _, _, _, _, _, _, rfl⟩
    · exact absurd ⟨hn.1, hn.2, hb.1, by omega, he.1, by omega⟩ hne
    · have hwz : wz (s.now + x.b) = want := by rw [hw]; exact wz_id (by omega) (by omega)
      rw [hwz, if_neg (by omega)]
      exact ⟨rfl, rfl⟩
  rcases hr with ⟨h, _⟩ | ⟨_, ⟨hne, h, _⟩ | ⟨rfl, s1, h1, h2⟩⟩
  · omega
  · exact absurd (hset e s (hone e s h)).1 hne
  · refine ⟨rfl, ?_⟩
    have iv1 := (h1.inv iv hA hB).1
    obtain ⟨_, rfl⟩ := hset 0 s1 (hone 0 s1 h1)
    refine TmI.bound iv1 (by omega) ?_ h2
    have hd : tmAll n every want (s.events.drop s.events.length) = ⟨want, false, true⟩ := by rw [List.drop_length]; rfl
    refine ⟨Nat.le_refl _, ?_, ?_, ?_, ?_⟩
    · show (tmAll n every want (s.events.drop s.events.length)).ok = true
      rw [hd]
    · show (tmAll n every want (s.events.drop s.events.length)).over = true → _
      rw [hd]
      exact fun h => by cases h
    · show (tmAll n every want (s.events.drop s.events.length)).over = false → upd s.tim n (some (want, every)) n = some ((tmAll n every want (s.events.drop s.events.length)).want, every) ∧ s.now < (tmAll n every want (s.events.drop s.events.length)).want + 256
      rw [hd]
      intro _
      refine ⟨by rw [upd, if_pos rfl], by dsimp only; omega⟩
    · show (tmAll n every want (s.events.drop s.events.length)).want ≤ 1000000
      rw [hd]
      dsimp only
      omega
end
end Go.Proofs.YtajilfnceoeaiaaGreat.V
/- WholeTimers: the function returns true. -/
namespace Go.Proofs.YtajilfnceoeaiaaGreat.V
open Go Go.RowKit Enc
set_option maxRecDepth 100000
theorem tm_bad (n every : Int) : ∀ (E : List Event) (x : Tm), x.ok = false → (E.foldl (tmOne n every) x).ok = false
  | [], x, h => h
  | e :: E, x, h => by
    refine tm_bad n every E _ ?_
    unfold tmOne
    split
    · simp [h]
    · exact h
theorem tm_split (n every want : Int) (E : List Event) (j : Nat) : tmAll n every want E = (E.drop j).foldl (tmOne n every) (tmAll n every want (E.take j)) := by
  unfold tmAll
  rw [← List.foldl_append, List.take_append_drop]
theorem tm_take (n every want : Int) (E : List Event) (j : Nat) (h : (tmAll n every want E).ok = true) : (tmAll n every want (E.take j)).ok = true := by
  cases hb : (tmAll n every want (E.take j)).ok with
  | true => rfl
  | false =>
    rw [tm_split n every want E j, tm_bad n every _ _ hb] at h
    cases h
theorem tm_mono (n every : Int) (he : 0 ≤ every) : ∀ (E : List Event) (x : Tm), x.want ≤ (E.foldl (tmOne n every) x).want
  | [], x => Int.le_refl _
  | e :: E, x => by
    refine Int.le_trans ?_ (tm_mono n every he E _)
    unfold tmOne
    split
    · show x.want ≤ x.want + every
      omega
    · exact Int.le_refl _
theorem tm_le (n every want : Int) (he : 0 ≤ every) (E : List Event) (j : Nat) : want ≤ (tmAll n every want (E.take j)).want ∧ (tmAll n every want (E.take j)).want ≤ (tmAll n every want E).want := by
  refine ⟨tm_mono n every he _ ⟨want, false, true⟩, ?_⟩
  rw [tm_split n every want E j]
  exact tm_mono n every he _ _
theorem tmodZ {a b : Int} (h0 : 0 ≤ a) (h1 : a ≤ 65535) (hb : 0 < b) : Int.tmod (wz a) b = a % b := by
  have hw : wz a = a := wz_id (by omega) (by omega)
  rw [hw]
  exact Int.tmod_eq_emod_of_nonneg h0
/-- The step that sets the timer. -/
def xT (n b c : Int) : ASt := ⟨8, n, b, c, ⟨⟨0, 0, ⟨none, 0, 0⟩, ⟨none, 0, 0⟩⟩, [], []⟩⟩
theorem timers_spec {o : Own} {w : World} {m : Mach} {st rs : Sl} {l r : List ASt} {id b c : Int} (hm : MachR o w m) (hs : StepsR o w st l) (hr : StepsR o w rs r) (hid : 0 ≤ id ∧ id ≤ 255) (hb : 0 ≤ b ∧ b ≤ 65535) (hc : 0 ≤ c ∧ c ≤ 65535) (hl : l.length + r.length ≤ 1048576) :
    Call P 3 [m.p.v, vS st, vS rs, .int .u8 id, .int .u16 b, .int .u16 c] [sB] (fun b w' => b = true ∧ ∃ o', Up kl o w o' w') w := by
  have hn := hs.n
  have hrn := hr.n
  refine f3_of _ _ _ _ _ _ (New_blk o 0 fun b1 o1 w1 k1 u1 _ => k1.bx.ldPlat (x := m.p) ?_)
  have hm := hm.up u1 rfl
  have hs := hs.up u1 rfl
  have hr := hr.up u1 rfl
  have hbt := boot_law hm
  refine hbt.imp1 ?_
  rintro pk w2 (⟨t, a, q, x, y, z, o2, rfl, L⟩ | ⟨nt, rfl, u2⟩)
  rotate_left
  · refine If_t ((k1.bx.below u2).ldPlat (x := m.p) ?_)
    have hno := none_spec (hm.below u2) nt
    refine hno.imp1 ?_
    rintro b w3 ⟨rfl, o3, u3⟩
    exact ⟨rfl, o3, (u1.of_no.trans (Up.of_below u2)).trans u3⟩
  have hs := hs.up L.U kl0
  have hr := hr.up L.U kl0
  have k1 := k1.up L.U kl0
  have hhor : (V.pl m x y z).p.horizon = m.p.horizon := rfl
  generalize V.pl m x y z = m' at L hhor
  refine If_f ⟨fun n w' => ∃ k : Nat, n = k ∧ k ≤ l.length ∧ ∃ o' q' s, LawS o1 w1 m' a k o' w' q' s ∧ StepsR o' w' st l ∧ StepsR o' w' rs r ∧ Blk o' w' 0 b1 (.cells m.p.l.toArray 26 (0, 0)), fun n _ => l.length - n.toNat, ⟨0, rfl, Nat.zero_le _, o2, q, _, L, hs, hr, k1⟩, ?_⟩
  rintro n v ⟨k, rfl, hk, o3, q3, s, L, hs, hr, k1⟩ _
  refine If_d (fun hlt => ?_) fun hlt => ?_
  · have hkl : k < l.length := by omega
    have hx : l[k]? = some l[k] := List.getElem?_eq_getElem hkl
    have htx := hs.each _ (List.getElem_mem hkl)
    generalize l[k] = x at hx htx
    have hme : l.length - Int.toNat ((k : Int) + 1) < l.length - Int.toNat (k : Int) := by omega
    rw [wz_id (x := (k : Int) + 1) (by omega) (by omega)]
    refine hs.step rfl hx ?_
    have hd := L.doo (by omega) x htx
    refine hd.imp2 ?_
    rintro n e w5 ⟨s5, d5, q5, o5, L5, u5⟩
    exact ⟨⟨k + 1, by omega, by omega, o5, q5, s5, L5, hs.up u5 kl0, hr.up u5 kl0, k1.up u5 kl0⟩, hme⟩
  · have hke : k = l.length := by omega
    have L := L.below bdrew
    have k1 := k1.up (C := no) (o' := o3) (w' := v.drew) .drew rfl
    have hr := hr.up (C := no) (o' := o3) (w' := v.drew) .drew rfl
    refine k1.bx.ld (x := m.p.horizon) rfl ?_
    have hno := now_spec L.h
    refine hno.imp1 ?_
    rintro nw w4 ⟨rfl, rfl⟩
    refine ⟨by (first | (apply Bx.get0f; apply Blk.bx; assumption; rfl) | (apply Bx.get0f; apply Blk.bx; apply KRep.b; assumption; rfl) | (apply Bx.get0f; assumption; rfl) | (apply Bx.get00; apply Blk.bx; apply KRep.b; assumption; rfl) | (apply Bx.get0; apply Blk.bx; apply KRep.b; assumption; rfl) | (apply Bx.get00; apply Blk.bx; assumption; rfl) | (apply Bx.get00; assumption; rfl) | (apply Bx.getAt; assumption; rfl) | (apply Bx.get0; assumption; rfl) | (apply Bx.get; assumption; rfl) | (apply Bx.get0; apply Blk.bx; assumption; rfl) | (apply Bx.get; apply Blk.bx; assumption; rfl)), If_d (c := s.now ≥ m.p.horizon) (fun hge => ?_) fun hge => ?_⟩
    · have ha := answers_below v.drew
      refine ha.imp1 ?_
      rintro b w7 ⟨rfl, u7⟩
      exact ⟨rfl, o3, u1.of_no.trans (L.below u7).U⟩
    · have hlt : s.now < m'.p.horizon := by rw [hhor]; omega
      refine ⟨by decide, by decide, ?_⟩
      have hno := now_spec L.h
      refine hno.imp1 ?_
      rintro nw w4 ⟨rfl, rfl⟩
      refine ⟨by decide, ?_⟩
      have hev := events_spec L.h L.iv.events
      refine hev.imp1 ?_
      rintro s6 w6 ⟨o6, r6, u6⟩
      have L := L.upno u6
      have hr := hr.up u6 rfl
      have hn6 := r6.n
      have h6 := L.iv.events
      unfold bigN at h6
      have hnow := L.iv.now
      rw [tmodZ hid.1 (by omega) (by decide), tmodZ hb.1 (by omega) (by decide), tmodZ hc.1 (by omega) (by decide)]
      generalize hnn : id % 4 = n
      generalize hbb : b % 2000 = b'
      generalize hcc : c % 2000 = every
      have hn3 : 0 ≤ n ∧ n ≤ 3 := by omega
      have hb2 : 0 ≤ b' ∧ b' ≤ 2000 := by omega
      have hev2 : 0 ≤ every ∧ every ≤ 2000 := by omega
      refine ⟨by decide, ?_⟩
      have hd := L.doo (by omega) (xT n b' every) (taskNil _ _ _ _)
      refine hd.imp2 ?_
      rintro nn e w7 ⟨s7, d7, q7, o7, L7, u7⟩
      obtain ⟨rfl, tm⟩ := TmI.set (n := n) (every := every) (want := s.now + b') rfl rfl hn3 hb2 rfl hev2 rfl hlt L.iv (by omega) (by unfold budB bigN; omega) d7
      have hr := hr.up u7 kl0
      refine If_ne (fun e => absurd rfl e) fun _ => ?_
      refine ⟨fun j w' => ∃ k' : Nat, j = k' ∧ k' ≤ r.length ∧ ∃ o' q' s', LawS o1 w1 m' a (k + 1 + k') o' w' q' s' ∧ TmI n every (s.now + b') s.events.length 0 s' ∧ StepsR o' w' rs r, fun j _ => r.length - j.toNat, ⟨0, rfl, Nat.zero_le _, o7, q7, s7, L7, tm, hr⟩, ?_⟩
      rintro j v8 ⟨k', rfl, hk', o8, q8, s8, L, tm, hr⟩ _
      refine If_d (fun hlt => ?_) fun hlt => ?_
      · have hkl : k' < r.length := by omega
        have hx : r[k']? = some r[k'] := List.getElem?_eq_getElem hkl
        have htx := hr.each _ (List.getElem_mem hkl)
        generalize r[k'] = x at hx htx
        have hme : r.length - Int.toNat ((k' : Int) + 1) < r.length - Int.toNat (k' : Int) := by omega
        rw [wz_id (x := (k' : Int) + 1) (by omega) (by omega)]
        refine hr.step rfl hx (NewSt_of (by rfl) fun b4 w9 c4 u9 => ?_)
        have c4 : Bx w9 b4 0 x.st.l := c4
        have L := L.below u9
        have htx := htx.below u9
        have hr := hr.up (C := no) (o' := o8) (Up.of_below u9) rfl
        have doo : (x.a ≠ n ∨ (x.kind ≠ 8 ∧ x.kind ≠ 9)) → Call P 13 [vP a, x.st.v] [sI, sI] (fun _ _ w' => (∃ k2 : Nat, ((k' : Int) + 1) = k2 ∧ k2 ≤ r.length ∧ ∃ o' q' s', LawS o1 w1 m' a (k + 1 + k2) o' w' q' s' ∧ TmI n every (s.now + b') s.events.length 0 s' ∧ StepsR o' w' rs r) ∧ r.length - Int.toNat ((k' : Int) + 1) < r.length - Int.toNat (k' : Int)) w9 := by
          intro hx
          have hd := L.doo (by omega) x htx
          refine hd.imp2 ?_
          rintro n2 e2 w10 ⟨s10, d10, q10, o10, L10, u10⟩
          exact ⟨⟨k' + 1, by omega, by omega, o10, q10, s10, L10, tm.doR (by omega) hx L.iv (by omega) (by unfold budB bigN; omega) d10, hr.up u10 kl0⟩, hme⟩
        have skip : (∃ k2 : Nat, ((k' : Int) + 1) = k2 ∧ k2 ≤ r.length ∧ ∃ o' q' s', LawS o1 w1 m' a (k + 1 + k2) o' w9 q' s' ∧ TmI n every (s.now + b') s.events.length 0 s' ∧ StepsR o' w9 rs r) ∧ r.length - Int.toNat ((k' : Int) + 1) < r.length - Int.toNat (k' : Int) :=
          ⟨⟨k' + 1, by omega, by omega, o8, q8, s8, L.skip (by omega), tm, hr⟩, hme⟩
        refine c4.ld (x := x.a) rfl ?_
        refine If_ne (fun ea => ?_) fun ea => ?_
        · refine c4.ldStep (x := x.st) ?_
          exact doo (.inl ea)
        · refine c4.ld (x := x.kind) rfl ?_
          refine If_ne (fun e8 => ?_) fun _ => skip
          refine c4.ld (x := x.kind) rfl ?_
          refine If_ne (fun e9 => ?_) fun _ => skip
          refine c4.ldStep (x := x.st) ?_
          exact doo (.inr ⟨e8, e9⟩)
      · have hev := events_spec L.h L.iv.events
        refine hev.imp1 ?_
        rintro s9 w9 ⟨o9, r9, u9⟩
        have L := L.upno u9
        have hn9 := r9.n
        have h9 := L.iv.events
        unfold bigN at h9
        have hlen := tm.len
        have hnow8 := L.iv.now
        have hhi := tm.hi
        refine ⟨fun wt i ov w' => ∃ j : Nat, i = j ∧ s.events.length ≤ j ∧ j ≤ s8.events.length ∧ (wt = (tmAll n every (s.now + b') ((s8.events.drop s.events.length).take (j - s.events.length))).want ∧ ov = (tmAll n every (s.now + b') ((s8.events.drop s.events.length).take (j - s.events.length))).over) ∧ w' = w9, fun _ i _ _ => s8.events.length - i.toNat, ⟨s.events.length, by rw [hn6], Nat.le_refl _, hlen, ?_, rfl⟩, ?_⟩
        · rw [Nat.sub_self, List.take_zero]
          refine ⟨?_, rfl⟩
          show wz (s.now + b') = s.now + b'
          exact wz_id (by omega) (by omega)
        rintro wt i ov v10 ⟨j, rfl, hj0, hj1, ⟨rfl, rfl⟩, rfl⟩ _
        have hle := tm_le n every (s.now + b') hev2.1 (s8.events.drop s.events.length) (j - s.events.length)
        refine If_d (fun hlt => ?_) fun hlt => ?_
        · have hjl : j < s8.events.length := by omega
          have hy : s8.events[j]? = some s8.events[j] := List.getElem?_eq_getElem hjl
          generalize s8.events[j] = y at hy
          have hyd : (s8.events.drop s.events.length)[j - s.events.length]? = some y := by
            rw [List.getElem?_drop, ← hy]
            congr 1
            omega
          have htk : (s8.events.drop s.events.length).take (j + 1 - s.events.length) = (s8.events.drop s.events.length).take (j - s.events.length) ++ [y] := by
            rw [← take_succ_get hyd]
            congr 1
            omega
          have hok := tm_take n every (s.now + b') (s8.events.drop s.events.length) (j + 1 - s.events.length) tm.ok
          rw [htk, tmAll_snoc] at hok
          have hme : s8.events.length - Int.toNat ((j : Int) + 1) < s8.events.length - Int.toNat (j : Int) := by omega
          rw [wz_id (x := (j : Int) + 1) (by omega) (by omega)]
          have skip : ¬ (y.kind = 4 ∧ y.task = n) → (∃ j' : Nat, ((j : Int) + 1) = j' ∧ s.events.length ≤ j' ∧ j' ≤ s8.events.length ∧ ((tmAll n every (s.now + b') ((s8.events.drop s.events.length).take (j - s.events.length))).want = (tmAll n every (s.now + b') ((s8.events.drop s.events.length).take (j' - s.events.length))).want ∧ (tmAll n every (s.now + b') ((s8.events.drop s.events.length).take (j - s.events.length))).over = (tmAll n every (s.now + b') ((s8.events.drop s.events.length).take (j' - s.events.length))).over) ∧ v10 = v10) ∧ s8.events.length - Int.toNat ((j : Int) + 1) < s8.events.length - Int.toNat (j : Int) := by
            intro hne
            refine ⟨⟨j + 1, by omega, by omega, by omega, ?_, rfl⟩, hme⟩
            rw [htk, tmAll_snoc, tmOne_other hne]
            exact ⟨rfl, rfl⟩
          refine r9.fld (f := 0) (e := .ki .i64) (y := y.kind) rfl hy rfl rfl ?_
          refine If_ne (fun e => skip fun h => e h.1) fun e4 => ?_
          refine r9.fld (f := 1) (e := .ki .i64) (y := y.task) rfl hy rfl rfl ?_
          refine If_ne (fun e => skip fun h => e h.2) fun en => ?_
          have hone : tmOne n every (tmAll n every (s.now + b') ((s8.events.drop s.events.length).take (j - s.events.length))) y = ⟨(tmAll n every (s.now + b') ((s8.events.drop s.events.length).take (j - s.events.length))).want + every, every == 0, (tmAll n every (s.now + b') ((s8.events.drop s.events.length).take (j - s.events.length))).ok && (!(tmAll n every (s.now + b') ((s8.events.drop s.events.length).take (j - s.events.length))).over && ((y.due == (tmAll n every (s.now + b') ((s8.events.drop s.events.length).take (j - s.events.length))).want) && (decide ((tmAll n every (s.now + b') ((s8.events.drop s.events.length).take (j - s.events.length))).want ≤ y.at_) && decide (y.at_ - (tmAll n every (s.now + b') ((s8.events.drop s.events.length).take (j - s.events.length))).want < 256))))⟩ := if_pos ⟨e4, en⟩
          rw [hone] at hok
          simp only [Bool.and_eq_true, Bool.not_eq_true', beq_iff_eq, decide_eq_true_eq] at hok
          obtain ⟨_, hov, hdue, hat, hlate⟩ := hok
          generalize hX : tmAll n every (s.now + b') ((s8.events.drop s.events.length).take (j - s.events.length)) = X at *
          rw [hov]
          refine If_f ?_
          refine r9.fld (f := 3) (e := .ki .i64) (y := y.due) rfl hy rfl rfl ?_
          refine If_ne (fun e => absurd hdue e) fun _ => ?_
          refine r9.fld (f := 2) (e := .ki .i64) (y := y.at_) rfl hy rfl rfl ?_
          refine If_d (c := y.at_ < X.want) (fun e => absurd hat (Int.not_le.2 e)) fun _ => ?_
          refine r9.fld (f := 2) (e := .ki .i64) (y := y.at_) rfl hy rfl rfl ?_
          rw [wz_id (x := y.at_ - X.want) (by omega) (by omega), wz_id (x := X.want + every) (by omega) (by omega)]
          refine If_d (c := y.at_ - X.want ≥ 256) (fun e => absurd hlate (Int.not_lt.2 e)) fun _ => ?_
          refine ⟨⟨j + 1, by omega, by omega, by omega, ?_, rfl⟩, hme⟩
          rw [htk, tmAll_snoc, hX, hone]
          exact ⟨rfl, rfl⟩
        · have hje : j = s8.events.length := by omega
          have htk : (s8.events.drop s.events.length).take (j - s.events.length) = s8.events.drop s.events.length := by
            rw [List.take_of_length_le]
            rw [List.length_drop]
            omega
          rw [htk]
          have ha := answers_below v10
          refine ha.imp1 ?_
          rintro bb w11 ⟨rfl, u11⟩
          have L := L.below u11
          refine If_t (If_b (fun _ => ⟨rfl, o9, u1.of_no.trans L.U⟩) fun hov => ?_)
          have hno := now_spec L.h
          refine hno.imp1 ?_
          rintro nw w12 ⟨rfl, rfl⟩
          have := (tm.on hov).2
          exact ⟨decide_eq_true (by omega), o9, u1.of_no.trans L.U⟩
end Go.Proofs.YtajilfnceoeaiaaGreat.V
