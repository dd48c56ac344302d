/- Parts of the proof: Propositions of function bodies, printed by a program, Switches: no more than jobs came and ended; each leads to another level; each cycle runs at the level that was chosen last. Plain, WholeSwitches: the function returns true. -/
import Derived.Test.YtajilfnceoeaiaaGreatZa12
set_option linter.unusedVariables false
set_option linter.unusedSimpArgs false
/- Propositions of function bodies, printed by a program. -/
namespace Go.Proofs.YtajilfnceoeaiaaGreat.V
open Go
set_option linter.unusedVariables false
set_option maxRecDepth 100000
theorem f9_of (p : Plat) (steps : Sl) {K : Bool → World → Prop} {w : World} (vc :
 New [.slice p.levels.a p.levels.n p.levels.c, .slice p.sleeps.a p.sleeps.n p.sleeps.c, .slice p.devices.a p.devices.n p.devices.c, .int .i64 p.idle, .int .i64 p.crit, .int .i64 p.switch, .int .i64 p.switchE, .int .i64 p.sems, .int .i64 p.horizon] 26 (fun a1 w =>
 LdN shPlat.cs 0 a1 (fun s2 s3 s4 n5 n6 n7 n8 n9 n10 w =>
 Call P 11 [.agg #[.slice s2.a s2.n s2.c, .slice s3.a s3.n s3.c, .slice s4.a s4.n s4.c, .int .i64 n5, .int .i64 n6, .int .i64 n7, .int .i64 n8, .int .i64 n9, .int .i64 n10]] [sP] (fun p11 w =>
 If (Option.isNone p11) (
 LdN shPlat.cs 0 a1 (fun s12 s13 s14 n15 n16 n17 n18 n19 n20 w =>
 Call P 12 [.agg #[.slice s12.a s12.n s12.c, .slice s13.a s13.n s13.c, .slice s14.a s14.n s14.c, .int .i64 n15, .int .i64 n16, .int .i64 n17, .int .i64 n18, .int .i64 n19, .int .i64 n20]] [sB] (fun b21 w =>
 K b21 w) w) w) (
 ∃ (I23 : Int → World → Prop) (M24 : Int → World → Nat), I23 0 w ∧ ∀ (n22 : Int) (v25 : World), I23 n22 v25 → ∀ _ : Nat → Value,
 (fun w : World =>
 If (decide (n22 < ((steps.n : Nat) : Int))) (
 ((0 : Int) ≤ n22 ∧ n22 < ((steps.n : Nat) : Int)) ∧ WithAddr steps.a fun a26 =>
 LdN shStep.cs 0 (a26.add (Int.toNat n22 * 8)) (fun n27 n28 n29 n30 n31 n32 s33 s34 w =>
 Call P 13 [.pointer p11, .agg #[.int .i64 n27, .int .i64 n28, .int .i64 n29, .int .i64 n30, .int .i64 n31, .int .i64 n32, .slice s33.a s33.n s33.c, .slice s34.a s34.n s34.c]] [sI, sI] (fun n35 n36 w =>
 I23 (IntKind.wrap .i64 (n22 + 1)) w ∧ M24 (IntKind.wrap .i64 (n22 + 1)) w < M24 n22 v25) w) w) (
 Call P 16 [.pointer p11] [sS] (fun s37 w =>
 Call P 24 [.pointer p11] [sS] (fun s38 w =>
 ∃ (I41 : Int → Int → World → Prop) (M42 : Int → Int → World → Nat), I41 0 0 w ∧ ∀ (n39 : Int) (n40 : Int) (v43 : World), I41 n39 n40 v43 → ∀ _ : Nat → Value,
 (fun w : World =>
 If (decide (n40 < ((s37.n : Nat) : Int))) (
 ((0 : Int) ≤ n40 ∧ n40 < ((s37.n : Nat) : Int)) ∧ WithAddr s37.a fun a44 =>
 Ld (.ki .i64) ((a44.add (Int.toNat n40 * 4)).add 0) (fun n45 w =>
 If (n45 != 4) (
 I41 (IntKind.wrap .i64 (n39 + 1)) (IntKind.wrap .i64 (n40 + 1)) w ∧ M42 (IntKind.wrap .i64 (n39 + 1)) (IntKind.wrap .i64 (n40 + 1)) w < M42 n39 n40 v43) (
 I41 n39 (IntKind.wrap .i64 (n40 + 1)) w ∧ M42 n39 (IntKind.wrap .i64 (n40 + 1)) w < M42 n39 n40 v43)) w) (
 ∃ (I49 : Int → Int → Int → World → Prop) (M50 : Int → Int → Int → World → Nat), I49 0 0 0 w ∧ ∀ (n46 : Int) (n47 : Int) (n48 : Int) (v51 : World), I49 n46 n47 n48 v51 → ∀ _ : Nat → Value,
 (fun w : World =>
 If (decide (n48 < ((s38.n : Nat) : Int))) (
 ((0 : Int) ≤ n48 ∧ n48 < ((s38.n : Nat) : Int)) ∧ WithAddr s38.a fun a52 =>
 Ld (.ki .i64) ((a52.add (Int.toNat n48 * 6)).add 0) (fun n53 w =>
 If (n53 == 1) (
 ((0 : Int) ≤ n48 ∧ n48 < ((s38.n : Nat) : Int)) ∧ WithAddr s38.a fun a54 =>
 Ld (.ki .i64) ((a54.add (Int.toNat n48 * 6)).add 3) (fun n55 w =>
 If (n55 != n46) (
 K false w) (
 ((0 : Int) ≤ n48 ∧ n48 < ((s38.n : Nat) : Int)) ∧ WithAddr s38.a fun a56 =>
 Ld (.ki .i64) ((a56.add (Int.toNat n48 * 6)).add 0) (fun n57 w =>
 If (n57 == 3) (
 (fun w : World =>
 ((0 : Int) ≤ n48 ∧ n48 < ((s38.n : Nat) : Int)) ∧ WithAddr s38.a fun a58 =>
 Ld (.ki .i64) ((a58.add (Int.toNat n48 * 6)).add 3) (fun n59 w =>
 If (n59 == n46) (
 K false w) (
 ((0 : Int) ≤ n48 ∧ n48 < ((s38.n : Nat) : Int)) ∧ WithAddr s38.a fun a60 =>
 Ld (.ki .i64) ((a60.add (Int.toNat n48 * 6)).add 3) (fun n61 w =>
 If (decide (n61 < 0)) (
 K false w) (
 ((0 : Int) ≤ n48 ∧ n48 < ((s38.n : Nat) : Int)) ∧ WithAddr s38.a fun a62 =>
 Ld (.ki .i64) ((a62.add (Int.toNat n48 * 6)).add 3) (fun n63 w =>
 Ld (.ki .i64) (a1.add 4) (fun n64 w =>
 If (decide (n63 > n64)) (
 K false w) (
 ((0 : Int) ≤ n48 ∧ n48 < ((s38.n : Nat) : Int)) ∧ WithAddr s38.a fun a65 =>
 Ld (.ki .i64) ((a65.add (Int.toNat n48 * 6)).add 3) (fun n66 w =>
 I49 n66 (IntKind.wrap .i64 (n47 + 1)) (IntKind.wrap .i64 (n48 + 1)) w ∧ M50 n66 (IntKind.wrap .i64 (n47 + 1)) (IntKind.wrap .i64 (n48 + 1)) w < M50 n46 n47 n48 v51) w)) w) w)) w)) w) w.drew) (
 I49 n46 n47 (IntKind.wrap .i64 (n48 + 1)) w ∧ M50 n46 n47 (IntKind.wrap .i64 (n48 + 1)) w < M50 n46 n47 n48 v51)) w)) w) (
 ((0 : Int) ≤ n48 ∧ n48 < ((s38.n : Nat) : Int)) ∧ WithAddr s38.a fun a67 =>
 Ld (.ki .i64) ((a67.add (Int.toNat n48 * 6)).add 0) (fun n68 w =>
 If (n68 == 3) (
 (fun w : World =>
 ((0 : Int) ≤ n48 ∧ n48 < ((s38.n : Nat) : Int)) ∧ WithAddr s38.a fun a69 =>
 Ld (.ki .i64) ((a69.add (Int.toNat n48 * 6)).add 3) (fun n70 w =>
 If (n70 == n46) (
 K false w) (
 ((0 : Int) ≤ n48 ∧ n48 < ((s38.n : Nat) : Int)) ∧ WithAddr s38.a fun a71 =>
 Ld (.ki .i64) ((a71.add (Int.toNat n48 * 6)).add 3) (fun n72 w =>
 If (decide (n72 < 0)) (
 K false w) (
 ((0 : Int) ≤ n48 ∧ n48 < ((s38.n : Nat) : Int)) ∧ WithAddr s38.a fun a73 =>
 Ld (.ki .i64) ((a73.add (Int.toNat n48 * 6)).add 3) (fun n74 w =>
 Ld (.ki .i64) (a1.add 4) (fun n75 w =>
 If (decide (n74 > n75)) (
 K false w) (
 ((0 : Int) ≤ n48 ∧ n48 < ((s38.n : Nat) : Int)) ∧ WithAddr s38.a fun a76 =>
 Ld (.ki .i64) ((a76.add (Int.toNat n48 * 6)).add 3) (fun n77 w =>
 I49 n77 (IntKind.wrap .i64 (n47 + 1)) (IntKind.wrap .i64 (n48 + 1)) w ∧ M50 n77 (IntKind.wrap .i64 (n47 + 1)) (IntKind.wrap .i64 (n48 + 1)) w < M50 n46 n47 n48 v51) w)) w) w)) w)) w) w.drew) (
 I49 n46 n47 (IntKind.wrap .i64 (n48 + 1)) w ∧ M50 n46 n47 (IntKind.wrap .i64 (n48 + 1)) w < M50 n46 n47 n48 v51)) w)) w) (
 Call P 15 [] [sB] (fun b78 w =>
 If b78 (
 If (decide (n47 ≤ n39)) (
 Call P 29 [.pointer p11] [sI] (fun n79 w =>
 K (n79 == n46) w) w) (
 K false w)) (
 K false w)) w)) v51)) v43) w) w)) v25)) w) w) w) : Call P 9 [p.v, .slice steps.a steps.n steps.c] [sB] K w :=
  call_of (H := ⟨[(5, [(6, .ki .i64)]), (11, [(9, .ki .i64), (12, .ki .i64)]), (16, [(10, .ki .i64), (11, .ki .i64), (13, .ki .i64)])], [], [(21, .take 0 (.take 1 (.take 2 (.take 3 (.take 4 (.take 5 (.take 6 (.take 7 (.take 8 (.take 9 (.take 10 (.take 11 (.take 12 (.take 13 (.take 14 (.take 15 (.take 16 (.take 17 (.take 18 (.take 19 (.take 20 (.take 21 (.take 22 (.take 23 (.take 24 .done)))))))))))))))))))))))))], []⟩) Tryz.func9 (by kernel_rfl) (by kernel_rfl) vc

end Go.Proofs.YtajilfnceoeaiaaGreat.V
/- Switches: no more than jobs came and ended; each leads to another level; each cycle runs at the level that was chosen last. Plain. -/
namespace Go.Proofs.YtajilfnceoeaiaaGreat.V
open Go Go.RowKit Enc
set_option maxRecDepth 100000
/-- The level, how many switches, and whether all is right so far. -/
structure Sw where
  lv : Int
  n : Nat
  ok : Bool
def swOne (crit : Int) (x : Sw) (i : Interval) : Sw :=
  if i.kind = 1 then ⟨x.lv, x.n, x.ok && (i.arg == x.lv)⟩ else if i.kind = 3 then ⟨i.arg, x.n + 1, x.ok && (!(i.arg == x.lv) && (decide (0 ≤ i.arg) && decide (i.arg ≤ crit)))⟩ else x
def swAll (crit : Int) (L : List Interval) : Sw := L.foldl (swOne crit) ⟨0, 0, true⟩
theorem swAll_snoc (crit : Int) (L : List Interval) (i : Interval) : swAll crit (L ++ [i]) = swOne crit (swAll crit L) i := by
  unfold swAll
  rw [List.foldl_append]
  rfl
theorem swOne_same (crit : Int) (x : Sw) (i j : Interval) (hk : i.kind = j.kind) (ha : i.arg = j.arg) : swOne crit x i = swOne crit x j := by
  unfold swOne
  rw [hk, ha]
theorem swOne_twice (crit : Int) (x : Sw) (i : Interval) (hk : i.kind = 1 ∨ i.kind = 2 ∨ i.kind = 5) : swOne crit (swOne crit x i) i = swOne crit x i := by
  unfold swOne
  by_cases h : i.kind = 1
  · simp only [if_pos h]
    cases x.ok <;> simp
  · have h3 : i.kind ≠ 3 := by omega
    simp only [if_neg h, if_neg h3]
theorem swAll_addZ (crit : Int) (L : List Interval) (i : Interval) : swAll crit (addZ L i) = swOne crit (swAll crit L) i := by
  unfold addZ
  split
  · rename_i y hy
    split
    · rename_i hj
      obtain ⟨Z, rfl⟩ := List.getLast?_eq_some_iff.1 hy
      rw [List.dropLast_concat, swAll_snoc, swAll_snoc]
      have h1 : swOne crit (swAll crit Z) (joinZ y i) = swOne crit (swAll crit Z) y := by
        refine swOne_same crit _ _ _ ?_ ?_
        · unfold joinZ; rw [if_pos hj]
        · unfold joinZ; rw [if_pos hj]
      have h2 : swOne crit (swOne crit (swAll crit Z) y) i = swOne crit (swOne crit (swAll crit Z) y) y := swOne_same crit _ _ _ hj.2.1.symm hj.2.2.1.symm
      rw [h1, h2, swOne_twice crit _ y hj.1]
    · exact swAll_snoc crit L i
  · rename_i h
    have : L = [] := by
      cases L with
      | nil => rfl
      | cons a l => simp at h
    subst this
    exact swAll_snoc crit [] i
/-- Events that may bring a switch. -/
def nonExp (E : List Event) : Nat := (E.filter fun e => e.kind != 4).length
theorem nonExp_snoc (E : List Event) (e : Event) : nonExp (E ++ [e]) = nonExp E + (if e.kind = 4 then 0 else 1) := by
  unfold nonExp
  rw [List.filter_append, List.length_append]
  congr 1
  by_cases h : e.kind = 4 <;> simp [h]
/-- What holds of switches. -/
structure SwI (m : Mach) (s : KS) : Prop where
  lv : (swAll m.p.crit s.trace).lv = s.level
  ok : (swAll m.p.crit s.trace).ok = true
  n : (swAll m.p.crit s.trace).n + wsum unW s.jobs + (if s.ended then 1 else 0) ≤ nonExp s.events
section
variable {m : Mach} {A B : Nat} {s s' : KS}
theorem SwI.did (h : SwI m s) (kind len arg task cyc : Int) (hk : kind ≠ 3) (ha : kind = 1 → arg = s.level) : SwI m (didZ m s kind len arg task cyc) := by
  have e : swAll m.p.crit (didZ m s kind len arg task cyc).trace = swAll m.p.crit s.trace := by
    show swAll m.p.crit (addZ s.trace _) = _
    rw [swAll_addZ]
    unfold swOne
    dsimp only
    split
    · rename_i h1
      rw [ha h1, h.lv, beq_self_eq_true, Bool.and_true]
      rw [← h.lv]
    · rfl
  refine ⟨by rw [e]; exact h.lv, by rw [e]; exact h.ok, ?_⟩
  rw [e]
  exact h.n
theorem SwI.endZ (h : SwI m s) (kind : Int) (hk : kind ≠ 4) (j : Job) : SwI m (endZ s kind j) := by
  refine ⟨h.lv, h.ok, ?_⟩
  have h1 := wsum_upd_le unW s.jobs j.task none
  have e0 : ow unW (none : Option Job) = 0 := rfl
  have hn := h.n
  show (swAll m.p.crit s.trace).n + wsum unW (upd s.jobs j.task none) + (if true = true then 1 else 0) ≤ nonExp (s.events ++ [⟨kind, j.task, s.now, j.deadline⟩])
  rw [nonExp_snoc, if_pos rfl, if_neg hk]
  omega
theorem SwI.startZ (iv : KInv m A B s) (h : SwI m s) {j : Job} (hj : s.jobs j.task = some j) (hc : j.started = false ∨ s.ended = true) : SwI m (startZ s j) ∧ (swAll m.p.crit (startZ s j).trace).n + 1 + wsum unW (startZ s j).jobs + (if (startZ s j).ended then 1 else 0) ≤ nonExp (startZ s j).events := by
  obtain ⟨_, h0, h6⟩ := iv.jobs _ _ hj
  have hn := h.n
  have key : (swAll m.p.crit (V.startZ s j).trace).n + 1 + wsum unW (V.startZ s j).jobs + (if (V.startZ s j).ended then 1 else 0) ≤ nonExp (V.startZ s j).events := by
    unfold V.startZ
    by_cases hs : j.started = true
    · rw [if_pos hs]
      have he : s.ended = true := hc.resolve_left (by rw [hs]; decide)
      rw [he] at hn
      show (swAll m.p.crit s.trace).n + 1 + wsum unW s.jobs + (if false = true then 1 else 0) ≤ nonExp s.events
      rw [if_pos rfl] at hn
      rw [if_neg (by decide)]
      omega
    · rw [if_neg hs]
      have w2 := wsum_upd unW s.jobs h0 (by omega) (some { j with started := true })
      rw [hj] at w2
      have e3 : ow unW (some j) = 1 := by show unW j = 1; rw [unW, if_neg hs]
      have e6 : ow unW (some ({ j with started := true } : Job)) = 0 := rfl
      show (swAll m.p.crit s.trace).n + 1 + wsum unW (upd s.jobs j.task (some { j with started := true })) + (if false = true then 1 else 0) ≤ nonExp s.events
      rw [if_neg (by decide)]
      split at hn <;> omega
  refine ⟨⟨?_, ?_, by omega⟩, key⟩
  · unfold V.startZ; split <;> exact h.lv
  · unfold V.startZ; split <;> exact h.ok
theorem SwI.runsTail (h : SwI m s) (iv : KInv m A B s) (n : Int) {j : Job} (hj : s.jobs j.task = some j) : SwI m (runsTailZ m s n j) := by
  have hd := h.did 1 (lvlP m s.level) s.level n 1 (by decide) (fun _ => rfl)
  obtain ⟨_, h0, h6⟩ := iv.jobs _ _ hj
  unfold runsTailZ
  dsimp only
  split
  · have h2 : SwI m { didZ m s 1 (lvlP m s.level) s.level n 1 with held := (didZ m s 1 (lvlP m s.level) s.level n 1).held.map (spendZ n) } := ⟨hd.lv, hd.ok, hd.n⟩
    refine h2.endZ _ ?_ _
    unfold jobHow
    split
    · decide
    · split <;> decide
  · refine ⟨hd.lv, hd.ok, ?_⟩
    have w2 := wsum_upd unW s.jobs h0 (by omega) (some (jobStep j))
    rw [hj] at w2
    have e2 : ow unW (some (jobStep j)) = ow unW (some j) := rfl
    have hn := hd.n
    have hn : (swAll m.p.crit (didZ m s 1 (lvlP m s.level) s.level n 1).trace).n + wsum unW s.jobs + (if s.ended then 1 else 0) ≤ nonExp s.events := hn
    show (swAll m.p.crit (didZ m s 1 (lvlP m s.level) s.level n 1).trace).n + wsum unW (upd s.jobs j.task (some (jobStep j))) + (if s.ended then 1 else 0) ≤ nonExp s.events
    omega
theorem SwI.runs (h : SwI m s) (iv : KInv m A B s) (hn : s.now < 16384) (ha : s.asleep = false) {n : Int} {j : Job} (hj : s.jobs n = some j) (hr : RunsR m s n s') : SwI m s' := by
  have hjt := (iv.jobs n j hj).1
  subst hjt
  unfold RunsR at hr
  rw [hj] at hr
  simp only [Option.getD_some] at hr
  split at hr
  · rw [hr]; exact h.endZ 3 (by decide) _
  · split at hr
    · rename_i hc
      obtain ⟨b, s1, hch, hb⟩ := hr
      obtain ⟨lv, l0, l1, _, hz⟩ := chooseR_start hch
      obtain ⟨hs, hs2⟩ := h.startZ iv hj hc
      obtain ⟨iv1, _, _, _, hlev, _, hj1⟩ := startZ_inv iv hj ha hc
      rcases hz with ⟨_, rfl, rfl⟩ | ⟨hne, rfl, rfl⟩
      · rw [if_neg (by decide)] at hb
        rw [hj1] at hb
        simp only [Option.getD_some] at hb
        rw [hb]
        exact hs.runsTail iv1 j.task (j := { j with started := true }) hj1
      · rw [if_pos rfl] at hb
        rw [hb]
        have e : swAll m.p.crit (didZ m { V.startZ s j with level := lv } 3 m.p.switch lv 0 0).trace = ⟨lv, (swAll m.p.crit (V.startZ s j).trace).n + 1, true⟩ := by
          show swAll m.p.crit (addZ (V.startZ s j).trace _) = _
          rw [swAll_addZ]
          unfold swOne
          dsimp only
          rw [if_neg (by decide), if_pos rfl, hs.ok, hs.lv, hlev]
          have : (lv == s.level) = false := by simpa using hne
          rw [this]
          simp [l0, l1]
        refine ⟨?_, ?_, ?_⟩
        · rw [e]; rfl
        · rw [e]
        · rw [e]
          exact hs2
    · rw [hr]; exact h.runsTail iv j.task hj
theorem SwI.step (h : SwI m s) (iv : KInv m A B s) (hn : s.now < 16384) (hr : StepR m s s') : SwI m s' := by
  unfold StepR at hr
  by_cases ha : s.asleep = true
  · rw [if_pos ha] at hr
    rw [hr]
    unfold sleepingZ
    dsimp only
    split
    · have h2 : SwI m { s with asleep := false } := ⟨h.lv, h.ok, h.n⟩
      exact h2.did 6 _ _ _ _ (by decide) (fun h => absurd h (by decide))
    · exact h.did 5 _ _ _ _ (by decide) (fun h => absurd h (by decide))
  · rw [if_neg ha] at hr
    have ha' : s.asleep = false := by simpa using ha
    obtain ⟨n, ok, L, hL, _, hw, hr⟩ := hr
    cases ok with
    | true =>
      rw [if_pos rfl] at hr
      obtain ⟨_, x, hx⟩ := whoOf_job iv hL hw
      exact h.runs iv hn ha' hx hr
    | false =>
      rw [if_neg (by decide)] at hr
      have hnn := h.n
      have hle : (swAll m.p.crit s.trace).n + wsum unW s.jobs + (if false = true then 1 else 0) ≤ nonExp s.events := by
        rw [if_neg (by decide)]
        omega
      rcases hr with rfl | ⟨_, k, x, t, _, _, _, _, rfl⟩
      · have h2 : SwI m { s with ended := false } := ⟨h.lv, h.ok, hle⟩
        exact h2.did 2 _ _ _ _ (by decide) (fun h => absurd h (by decide))
      · have h2 : SwI m { s with ended := false, asleep := true, state := (k : Int), wake := wz (s.now + t) } := ⟨h.lv, h.ok, hle⟩
        exact h2.did 4 _ _ _ _ (by decide) (fun h => absurd h (by decide))
theorem SwI.rel (h : SwI m s) (hr : RelOne s s') : SwI m s' := by
  obtain ⟨n, at_, cyc, t, _, _, _, _, rfl⟩ := hr
  refine ⟨h.lv, h.ok, ?_⟩
  have h1 := wsum_upd_le unW s.jobs n (some (jobNew n t.t at_ cyc))
  have e0 : ow unW (some (jobNew n t.t at_ cyc)) = 1 := rfl
  have hn := h.n
  show (swAll m.p.crit s.trace).n + wsum unW (upd s.jobs n (some (jobNew n t.t at_ cyc))) + (if s.ended then 1 else 0) ≤ nonExp (s.events ++ [_])
  rw [nonExp_snoc, if_neg (show ¬ (1 : Int) = 4 by decide)]
  omega
theorem SwI.exp (h : SwI m s) (hr : ExpOne s s') : SwI m s' := by
  obtain ⟨n, at_, cyc, _, _, _, rfl⟩ := hr
  refine ⟨h.lv, h.ok, ?_⟩
  have hn := h.n
  show (swAll m.p.crit s.trace).n + wsum unW s.jobs + (if s.ended then 1 else 0) ≤ nonExp (s.events ++ [_])
  rw [nonExp_snoc]
  omega
theorem SwI.bound (h : SwI m s) (hr : BoundR m s s') : SwI m s' := by
  obtain ⟨s1, s2, h1, _, h2, _, D, X, rfl, _⟩ := hr
  have i1 := Star.keep (I := SwI m) (fun _ _ r i => i.rel r) h1 h
  have i2 := Star.keep (I := SwI m) (fun _ _ r i => i.exp r) h2 i1
  exact ⟨i2.lv, i2.ok, i2.n⟩
/-- What a step that is no tick leaves as it was. -/
structure Calm (s s' : KS) : Prop where
  now : s'.now = s.now
  level : s'.level = s.level
  jobs : s'.jobs = s.jobs
  stack : s'.stack = s.stack
  ended : s'.ended = s.ended
  spent : s'.spent = s.spent
  asleep : s'.asleep = s.asleep
  state : s'.state = s.state
  wake : s'.wake = s.wake
  trace : s'.trace = s.trace
  meter : s'.meter = s.meter
  events : s'.events = s.events
theorem Calm.refl : Calm s s := ⟨rfl, rfl, rfl, rfl, rfl, rfl, rfl, rfl, rfl, rfl, rfl, rfl⟩
theorem AdmitR.calm {x : ATask} {n e : Int} (hr : AdmitR m s x n e s') : Calm s s' := by
  rcases hr with ⟨_, _, _, rfl⟩ | ⟨_, ⟨_, _, _, rfl⟩ | ⟨_, ⟨_, _, _, rfl⟩ | ⟨_, ⟨_, _, _, rfl⟩ | ⟨_, _, i, y, z, r, s1, _, _, _, _, ⟨D, rfl, _⟩, _, _, _, _, rfl⟩⟩⟩⟩
  · exact .refl
  · exact .refl
  · exact .refl
  · exact .refl
  · exact ⟨rfl, rfl, rfl, rfl, rfl, rfl, rfl, rfl, rfl, rfl, rfl, rfl⟩
theorem OneR.calm {x : ASt} {n e : Int} (hr : OneR m s x n e s') : (x.kind = 4 ∧ TickR m s x.a e s') ∨ Calm s s' := by
  rcases hr with ⟨_, hr⟩ | ⟨_, _, hr⟩ | ⟨_, _, hr⟩ | ⟨hk, _, hr⟩ | ⟨_, _, hr⟩ | ⟨hk, _, hr⟩ | ⟨_, _, hr⟩ | ⟨_, _, _, rfl⟩
  · exact .inr hr.calm
  · rcases hr with ⟨rfl, _⟩ | ⟨_, _, _, _, _, rfl⟩
    · exact .inr .refl
    · exact .inr ⟨rfl, rfl, rfl, rfl, rfl, rfl, rfl, rfl, rfl, rfl, rfl, rfl⟩
  · rcases hr with ⟨_, rfl⟩ | ⟨_, _, _, _, _, _, _, _, rfl⟩
    · exact .inr .refl
    · exact .inr ⟨rfl, rfl, rfl, rfl, rfl, rfl, rfl, rfl, rfl, rfl, rfl, rfl⟩
  · exact .inl ⟨hk, hr⟩
  · rcases hr with ⟨rfl, _⟩ | ⟨_, n, L, _, _, _, _, t, _, _, _, hr⟩
    · exact .inr .refl
    · rcases hr with ⟨_, i, _, rfl⟩ | ⟨_, _, c, _, rfl⟩
      · exact .inr ⟨rfl, rfl, rfl, rfl, rfl, rfl, rfl, rfl, rfl, rfl, rfl, rfl⟩
      · exact .inr ⟨rfl, rfl, rfl, rfl, rfl, rfl, rfl, rfl, rfl, rfl, rfl, rfl⟩
  · rcases hr with ⟨_, _, rfl⟩ | ⟨_, _, _, h0, h1, rfl⟩
    · exact .inr .refl
    · exact .inr ⟨rfl, rfl, rfl, rfl, rfl, rfl, rfl, rfl, rfl, rfl, rfl, rfl⟩
  · unfold TimerR at hr
    split at hr
    · rcases hr with ⟨_, _, rfl⟩ | ⟨_, _, rfl⟩
      · exact .inr ⟨rfl, rfl, rfl, rfl, rfl, rfl, rfl, rfl, rfl, rfl, rfl, rfl⟩
      · exact .inr .refl
    · rcases hr with ⟨_, _, rfl⟩ | ⟨_, _, _, _, _, _, _, rfl⟩
      · exact .inr .refl
      · exact .inr ⟨rfl, rfl, rfl, rfl, rfl, rfl, rfl, rfl, rfl, rfl, rfl, rfl⟩
  · exact .inr .refl
theorem TickR.keep {I : KS → Prop} (hstep : ∀ s s', KInv m A B s → s.now < 16384 → StepR m s s' → I s → I s') (hbound : ∀ s s', KInv m A B s → BoundR m s s' → I s → I s') {n e : Int} (iv : KInv m A B s) (hr : TickR m s n e s') (h : I s) : I s' := by
  rcases hr with ⟨_, _, rfl⟩ | ⟨_, _, _, hs, _⟩
  · exact h
  · have hE := endT_le iv.mok s n
    refine (Star.keep (I := fun s => KInv m A B s ∧ I s) (fun s1 s2 r i => ?_) hs ⟨iv, h⟩).2
    obtain ⟨hlt, s3, h1, h2⟩ := r
    have j1 := stepR_inv i.1 (by omega) h1
    exact ⟨(h2.inv j1.1).1, hbound _ _ j1.1 h2 (hstep _ _ i.1 (by omega) h1 i.2)⟩
theorem DoR.keep {I : KS → Prop} (hcalm : ∀ s s', Calm s s' → I s → I s') (hstep : ∀ s s', KInv m (A + 1) (B + 70000) s → s.now < 16384 → StepR m s s' → I s → I s') (hbound : ∀ s s', KInv m (A + 1) (B + 70000) s → BoundR m s s' → I s → I s')
    {x : ASt} {n e : Int} (iv : KInv m A B s) (hA : A + 1 ≤ 800000000) (hB : B + 70000 ≤ bigN) (hr : DoR m s x n e s') (h : I s) : I s' := by
  rcases hr with ⟨_, _, _, rfl⟩ | ⟨_, ⟨_, _, rfl⟩ | ⟨_, s1, h1, h2⟩⟩
  · exact h
  · exact h
  · have iv1 := (h1.inv iv hA hB).1
    refine hbound _ _ iv1 h2 ?_
    rcases h1.calm with ⟨_, ht⟩ | hc
    · exact ht.keep hstep hbound (iv.mono (by omega) (by omega) hA hB) h
    · exact hcalm _ _ hc h
theorem SwI.calm (h : SwI m s) (c : Calm s s') : SwI m s' := ⟨by rw [c.trace, c.level]; exact h.lv, by rw [c.trace]; exact h.ok, by rw [c.trace, c.jobs, c.ended, c.events]; exact h.n⟩
theorem SwI.doR (h : SwI m s) {x : ASt} {n e : Int} (iv : KInv m A B s) (hA : A + 1 ≤ 800000000) (hB : B + 70000 ≤ bigN) (hr : DoR m s x n e s') : SwI m s' :=
  DoR.keep (fun _ _ c i => i.calm c) (fun _ _ iv hn r i => i.step iv hn r) (fun _ _ _ r i => i.bound r) iv hA hB hr h
theorem SwI.s0 (m : Mach) : SwI m (s0 m) := ⟨rfl, rfl, Nat.le_refl _⟩
end
end Go.Proofs.YtajilfnceoeaiaaGreat.V
/- WholeSwitches: the function returns true. -/
namespace Go.Proofs.YtajilfnceoeaiaaGreat.V
open Go Go.RowKit Enc
set_option maxRecDepth 100000
theorem sw_bad (crit : Int) : ∀ (L : List Interval) (x : Sw), x.ok = false → (L.foldl (swOne crit) x).ok = false
  | [], x, h => h
  | i :: L, x, h => by
    refine sw_bad crit L _ ?_
    unfold swOne
    split
    · simp [h]
    · split
      · simp [h]
      · exact h
theorem sw_take (crit : Int) (L : List Interval) (j : Nat) (h : (swAll crit L).ok = true) : (swAll crit (L.take j)).ok = true := by
  cases hb : (swAll crit (L.take j)).ok with
  | true => rfl
  | false =>
    have : swAll crit L = (L.drop j).foldl (swOne crit) (swAll crit (L.take j)) := by
      unfold swAll
      rw [← List.foldl_append, List.take_append_drop]
    rw [this, sw_bad crit _ _ hb] at h
    cases h
theorem sw_count (crit : Int) : ∀ (L : List Interval), (swAll crit L).n ≤ L.length := by
  have key : ∀ (L : List Interval) (x : Sw), (L.foldl (swOne crit) x).n ≤ x.n + L.length := by
    intro L
    induction L with
    | nil => exact fun x => Nat.le_refl _
    | cons i L ih =>
      intro x
      have h1 := ih (swOne crit x i)
      have h2 : (swOne crit x i).n ≤ x.n + 1 := by
        unfold swOne
        split
        · exact Nat.le_succ _
        · split
          · exact Nat.le_refl _
          · exact Nat.le_succ _
      simp only [List.foldl_cons, List.length_cons]
      omega
  intro L
  have := key L ⟨0, 0, true⟩
  unfold swAll
  simpa using this
theorem nonExp_take_le (E : List Event) (j : Nat) : nonExp (E.take j) ≤ j := by
  unfold nonExp
  refine Nat.le_trans (List.length_filter_le _ _) ?_
  rw [List.length_take]
  omega
theorem switches_spec {o : Own} {w : World} {m : Mach} {st : Sl} {l : List ASt} (hm : MachR o w m) (hs : StepsR o w st l) (hl : l.length ≤ 1048576) : Call P 9 [m.p.v, vS st] [sB] (fun b w' => b = true ∧ ∃ o', Up kl o w o' w') w := by
  have hn := hs.n
  refine f9_of _ _ (New_blk o 0 fun b1 o1 w1 k1 u1 _ => k1.bx.ldPlat (x := m.p) ?_)
  have hm := hm.up u1 rfl
  have hs := hs.up u1 rfl
  have hb := boot_law hm
  refine hb.imp1 ?_
  rintro pk w2 (⟨t, a, q, x, y, z, o2, rfl, L⟩ | ⟨nt, rfl, u2⟩)
  rotate_left
  · refine If_t ((k1.bx.below u2).ldPlat (x := m.p) ?_)
    have hno := none_spec (hm.below u2) nt
    refine hno.imp1 ?_
    rintro b w3 ⟨rfl, o3, u3⟩
    exact ⟨rfl, o3, (u1.of_no.trans (Up.of_below u2)).trans u3⟩
  have hs := hs.up L.U kl0
  have k1 := k1.up L.U kl0
  have hcr : (V.pl m x y z).p.crit = m.p.crit := rfl
  generalize V.pl m x y z = m' at L hcr
  have L0 : ∃ o' q' s, LawS o1 w1 m' a 0 o' w2 q' s ∧ SwI m' s ∧ StepsR o' w2 st l ∧ Blk o' w2 0 b1 (.cells m.p.l.toArray 26 (0, 0)) := ⟨o2, q, _, L, SwI.s0 m', hs, k1⟩
  refine If_f ⟨fun n w' => ∃ k : Nat, n = k ∧ k ≤ l.length ∧ ∃ o' q' s, LawS o1 w1 m' a k o' w' q' s ∧ SwI m' s ∧ StepsR o' w' st l ∧ Blk o' w' 0 b1 (.cells m.p.l.toArray 26 (0, 0)), fun n _ => l.length - n.toNat, ⟨0, rfl, Nat.zero_le _, L0⟩, ?_⟩
  rintro n v ⟨k, rfl, hk, o3, q3, s, L, sw, hs, k1⟩ _
  refine If_d (fun hlt => ?_) fun hlt => ?_
  · have hkl : k < l.length := by omega
    have hx : l[k]? = some l[k] := List.getElem?_eq_getElem hkl
    have htx := hs.each _ (List.getElem_mem hkl)
    generalize l[k] = x at hx htx
    have hme : l.length - Int.toNat ((k : Int) + 1) < l.length - Int.toNat (k : Int) := by omega
    rw [wz_id (x := (k : Int) + 1) (by omega) (by omega)]
    refine hs.step rfl hx ?_
    have hd := L.doo (by omega) x htx
    refine hd.imp2 ?_
    rintro n e w5 ⟨s5, d5, q5, o5, L5, u5⟩
    exact ⟨⟨k + 1, by omega, by omega, o5, q5, s5, L5, sw.doR L.iv (by omega) (by unfold budB bigN; omega) d5, hs.up u5 kl0, k1.up u5 kl0⟩, hme⟩
  · have hev := events_spec L.h L.iv.events
    refine hev.imp1 ?_
    rintro s6 w6 ⟨o6, r6, u6⟩
    have L := L.upno u6
    have k1 := k1.up u6 rfl
    have htr := trace_spec L.h L.iv.trace
    refine htr.imp1 ?_
    rintro s7 w7 ⟨o7, r7, u7⟩
    have L := L.upno u7
    have k1 := k1.up u7 rfl
    have r6 := r6.up u7 rfl
    have hn6 := r6.n
    have hn7 := r7.n
    have htl := L.iv.trace
    have hel := L.iv.events
    unfold bigN at htl hel
    -- events that count
    refine ⟨fun c n w' => ∃ j : Nat, n = j ∧ j ≤ s.events.length ∧ c = (nonExp (s.events.take j) : Nat) ∧ w' = w7, fun _ n _ => s.events.length - n.toNat, ⟨0, rfl, Nat.zero_le _, rfl, rfl⟩, ?_⟩
    rintro c n v6 ⟨j, rfl, hj, rfl, rfl⟩ _
    refine If_d (fun hlt => ?_) fun hlt => ?_
    · have hjl : j < s.events.length := by omega
      have hy : s.events[j]? = some s.events[j] := List.getElem?_eq_getElem hjl
      have htk := take_succ_get hy
      generalize s.events[j] = y at hy htk
      have hme : s.events.length - Int.toNat ((j : Int) + 1) < s.events.length - Int.toNat (j : Int) := by omega
      have hcl := nonExp_take_le s.events j
      rw [wz_id (x := (j : Int) + 1) (by omega) (by omega), wz_id (x := (nonExp (s.events.take j) : Int) + 1) (by omega) (by omega)]
      have hsn := nonExp_snoc (s.events.take j) y
      refine r6.fld (f := 0) (e := .ki .i64) (y := y.kind) rfl hy rfl rfl (If_ne (fun e => ?_) fun e => ?_)
      · rw [if_neg e] at hsn
        exact ⟨⟨j + 1, by omega, by omega, by rw [htk, hsn]; omega, rfl⟩, hme⟩
      · rw [if_pos e] at hsn
        exact ⟨⟨j + 1, by omega, by omega, by rw [htk, hsn]; omega, rfl⟩, hme⟩
    · have hje : j = s.events.length := by omega
      subst hje
      rw [List.take_length]
      -- the intervals
      refine ⟨fun lv c n w' => ∃ j : Nat, n = j ∧ j ≤ s.trace.length ∧ lv = (swAll m'.p.crit (s.trace.take j)).lv ∧ c = ((swAll m'.p.crit (s.trace.take j)).n : Nat) ∧ Below v6.heap.size v6 w', fun _ _ n _ => s.trace.length - n.toNat, ⟨0, rfl, Nat.zero_le _, rfl, rfl, Below.refl _ _⟩, ?_⟩
      rintro lv c n v7 ⟨j, rfl, hj, rfl, rfl, u8⟩ _
      have r7 := r7.below u8
      have L := L.below u8
      have c1 := k1.bx.below u8
      refine If_d (fun hlt => ?_) fun hlt => ?_
      · have hjl : j < s.trace.length := by omega
        have hy : s.trace[j]? = some s.trace[j] := List.getElem?_eq_getElem hjl
        have htk := take_succ_get hy
        generalize s.trace[j] = y at hy htk
        have hme : s.trace.length - Int.toNat ((j : Int) + 1) < s.trace.length - Int.toNat (j : Int) := by omega
        have hcl := sw_count m'.p.crit (s.trace.take j)
        rw [List.length_take] at hcl
        have hok := sw_take m'.p.crit s.trace (j + 1) sw.ok
        have hok0 := sw_take m'.p.crit s.trace j sw.ok
        rw [wz_id (x := (j : Int) + 1) (by omega) (by omega), wz_id (x := ((swAll m'.p.crit (s.trace.take j)).n : Int) + 1) (by omega) (by omega)]
        rw [htk, swAll_snoc] at hok
        have same : y.kind ≠ 3 → ∀ w', Below v6.heap.size v6 w' → (∃ j' : Nat, ((j : Int) + 1) = j' ∧ j' ≤ s.trace.length ∧ (swAll m'.p.crit (s.trace.take j)).lv = (swAll m'.p.crit (s.trace.take j')).lv ∧ ((swAll m'.p.crit (s.trace.take j)).n : Int) = ((swAll m'.p.crit (s.trace.take j')).n : Nat) ∧ Below v6.heap.size v6 w') ∧ s.trace.length - Int.toNat ((j : Int) + 1) < s.trace.length - Int.toNat (j : Int) := by
          intro h3 w' ub
          refine ⟨⟨j + 1, by omega, by omega, ?_, ?_, ub⟩, hme⟩
          · rw [htk, swAll_snoc]
            unfold swOne
            split <;> rfl
          · rw [htk, swAll_snoc]
            unfold swOne
            split <;> rfl
        refine r7.fld (f := 0) (e := .ki .i64) (y := y.kind) rfl hy rfl rfl (If_eq (fun e1 => ?_) fun e1 => ?_)
        · have e1 : y.kind = 1 := e1
          have h3 : y.kind ≠ 3 := by omega
          have ha : y.arg = (swAll m'.p.crit (s.trace.take j)).lv := by
            unfold swOne at hok
            rw [if_pos e1] at hok
            simp only [Bool.and_eq_true, beq_iff_eq] at hok
            exact hok.2
          refine r7.fld (f := 3) (e := .ki .i64) (y := y.arg) rfl hy rfl rfl (If_ne (fun e => absurd ha e) fun _ => ?_)
          exact r7.fld (f := 0) (e := .ki .i64) (y := y.kind) rfl hy rfl rfl (If_eq (fun e => absurd e h3) fun _ => same h3 _ u8)
        · have e1 : y.kind ≠ 1 := e1
          refine r7.fld (f := 0) (e := .ki .i64) (y := y.kind) rfl hy rfl rfl (If_eq (fun e3 => ?_) fun e3 => same e3 _ u8)
          have e3 : y.kind = 3 := e3
          have hone : swOne m'.p.crit (swAll m'.p.crit (s.trace.take j)) y = ⟨y.arg, (swAll m'.p.crit (s.trace.take j)).n + 1, (swAll m'.p.crit (s.trace.take j)).ok && (!(y.arg == (swAll m'.p.crit (s.trace.take j)).lv) && (decide (0 ≤ y.arg) && decide (y.arg ≤ m'.p.crit)))⟩ := by
            unfold swOne
            rw [if_neg e1, if_pos e3]
          rw [hone] at hok
          simp only [Bool.and_eq_true, Bool.not_eq_true', beq_eq_false_iff_ne, decide_eq_true_eq] at hok
          obtain ⟨_, ha, hb0, hb1⟩ := hok
          have r7 := r7.below bdrew
          have c1 := c1.below bdrew
          have u9 := u8.on bdrew
          refine r7.fld (f := 3) (e := .ki .i64) (y := y.arg) rfl hy rfl rfl (If_eq (fun e => absurd e ha) fun _ => ?_)
          refine r7.fld (f := 3) (e := .ki .i64) (y := y.arg) rfl hy rfl rfl (If_d (c := y.arg < 0) (fun e => by omega) fun _ => ?_)
          refine r7.fld (f := 3) (e := .ki .i64) (y := y.arg) rfl hy rfl rfl (c1.ld (x := m.p.crit) rfl (If_d (c := y.arg > m.p.crit) (fun e => by omega) fun _ => ?_))
          refine r7.fld (f := 3) (e := .ki .i64) (y := y.arg) rfl hy rfl rfl ⟨⟨j + 1, by omega, by omega, ?_, ?_, u9⟩, hme⟩
          · rw [htk, swAll_snoc, hone]
          · rw [htk, swAll_snoc, hone]
            show _ = ((_ + 1 : Nat) : Int)
            omega
      · have hje : j = s.trace.length := by omega
        subst hje
        rw [List.take_length, sw.lv]
        have ha := answers_below v7
        refine ha.imp1 ?_
        rintro b w9 ⟨rfl, u9⟩
        have L := L.below u9
        have hle := sw.n
        refine If_t (If_d (fun _ => ?_) fun h => absurd (by omega) h)
        have hlv := level_spec L.h
        refine hlv.imp1 ?_
        rintro r w10 ⟨rfl, rfl⟩
        exact ⟨by simp, o7, u1.of_no.trans L.U⟩
end Go.Proofs.YtajilfnceoeaiaaGreat.V
