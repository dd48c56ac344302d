/- Parts of the proof: Propositions of function bodies, printed by a program, Switches: no more than jobs came and ended; each leads to another level; each cycle runs at the level that was chosen last. Plain, Whenever a device is on, it has cost no more than if it had never been away. Plain, WholeSaves: the function returns true. -/
import Derived.Test.YtajilfnceoeaiaaGreatZa12
set_option linter.unusedVariables false
set_option linter.unusedSimpArgs false
/- Propositions of function bodies, printed by a program. -/
namespace Go.Proofs.YtajilfnceoeaiaaGreat.V
open Go
set_option linter.unusedVariables false
set_option maxRecDepth 100000
theorem f21_of (k : Option Addr) (d : Int) {K : Int → Int → World → Prop} {w : World} (vc :
 New [.int .i64 0, .int .i64 0] 60 (fun a1 w =>
 Call P 43 [.pointer k, .int .i64 d] [shAway] (fun n2 n3 w =>
 New [.int .i64 0, .int .i64 0] 97 (fun a4 w =>
 StN [.int .i64 n2, .int .i64 n3] 0 a4 (fun w =>
 Ld (.ki .i64) (a4.add 0) (fun n5 w =>
 Ld (.ki .i64) (a4.add 1) (fun n6 w =>
 StN [.int .i64 n5, .int .i64 n6] 0 a1 (fun w =>
 LdN shItem.cs 0 a1 (fun n7 n8 w =>
 K n7 n8 w) w) w) w) w) w) w) w) w) : Call P 21 [.pointer k, .int .i64 d] [shAway] K w :=
  call_of (H := ⟨[], [], [], []⟩) Tryz.func21 (by kernel_rfl) (by kernel_rfl) vc

theorem f6_of (p : Plat) (steps : Sl) {K : Bool → World → Prop} {w : World} (vc :
 New [.slice p.levels.a p.levels.n p.levels.c, .slice p.sleeps.a p.sleeps.n p.sleeps.c, .slice p.devices.a p.devices.n p.devices.c, .int .i64 p.idle, .int .i64 p.crit, .int .i64 p.switch, .int .i64 p.switchE, .int .i64 p.sems, .int .i64 p.horizon] 26 (fun a1 w =>
 LdN shPlat.cs 0 a1 (fun s2 s3 s4 n5 n6 n7 n8 n9 n10 w =>
 Call P 11 [.agg #[.slice s2.a s2.n s2.c, .slice s3.a s3.n s3.c, .slice s4.a s4.n s4.c, .int .i64 n5, .int .i64 n6, .int .i64 n7, .int .i64 n8, .int .i64 n9, .int .i64 n10]] [sP] (fun p11 w =>
 If (Option.isNone p11) (
 LdN shPlat.cs 0 a1 (fun s12 s13 s14 n15 n16 n17 n18 n19 n20 w =>
 Call P 12 [.agg #[.slice s12.a s12.n s12.c, .slice s13.a s13.n s13.c, .slice s14.a s14.n s14.c, .int .i64 n15, .int .i64 n16, .int .i64 n17, .int .i64 n18, .int .i64 n19, .int .i64 n20]] [sB] (fun b21 w =>
 K b21 w) w) w) (
 ∃ (I23 : Int → World → Prop) (M24 : Int → World → Nat), I23 0 w ∧ ∀ (n22 : Int) (v25 : World), I23 n22 v25 → ∀ _ : Nat → Value,
 (fun w : World =>
 If (decide (n22 < ((steps.n : Nat) : Int))) (
 ((0 : Int) ≤ n22 ∧ n22 < ((steps.n : Nat) : Int)) ∧ WithAddr steps.a fun a26 =>
 LdN shStep.cs 0 (a26.add (Int.toNat n22 * 8)) (fun n27 n28 n29 n30 n31 n32 s33 s34 w =>
 Call P 13 [.pointer p11, .agg #[.int .i64 n27, .int .i64 n28, .int .i64 n29, .int .i64 n30, .int .i64 n31, .int .i64 n32, .slice s33.a s33.n s33.c, .slice s34.a s34.n s34.c]] [sI, sI] (fun n35 n36 w =>
 ∃ (I38 : Int → World → Prop) (M39 : Int → World → Nat), I38 0 w ∧ ∀ (n37 : Int) (v40 : World), I38 n37 v40 → ∀ _ : Nat → Value,
 (fun w : World =>
 Ld (.ks) (a1.add 2) (fun s41 w =>
 If (decide (n37 < ((s41.n : Nat) : Int))) (
 (fun w : World =>
 Ld (.ks) (a1.add 2) (fun s42 w =>
 ((0 : Int) ≤ n37 ∧ n37 < ((s42.n : Nat) : Int)) ∧ WithAddr s42.a fun a43 =>
 LdN shDevice.cs 0 (a43.add (Int.toNat n37 * 7)) (fun n44 n45 n46 n47 n48 n49 n50 w =>
 Call P 21 [.pointer p11, .int .i64 n37] [shAway] (fun n51 n52 w =>
 (w.cell? ((a43.add (Int.toNat n37 * 7)).add 0) = some (.int .i64 n44) ∧ w.cell? ((a43.add (Int.toNat n37 * 7)).add 1) = some (.int .i64 n45) ∧ w.cell? ((a43.add (Int.toNat n37 * 7)).add 2) = some (.int .i64 n46) ∧ w.cell? ((a43.add (Int.toNat n37 * 7)).add 3) = some (.int .i64 n47) ∧ w.cell? ((a43.add (Int.toNat n37 * 7)).add 4) = some (.int .i64 n48) ∧ w.cell? ((a43.add (Int.toNat n37 * 7)).add 5) = some (.int .i64 n49) ∧ w.cell? ((a43.add (Int.toNat n37 * 7)).add 6) = some (.int .i64 n50)) ∧ (w.cell? ((a1.add 2).add 0) = some (.slice s42.a s42.n s42.c)) ∧ Call P 14 [.pointer p11] [sI] (fun n53 w =>
 (w.cell? ((a43.add (Int.toNat n37 * 7)).add 0) = some (.int .i64 n44) ∧ w.cell? ((a43.add (Int.toNat n37 * 7)).add 1) = some (.int .i64 n45) ∧ w.cell? ((a43.add (Int.toNat n37 * 7)).add 2) = some (.int .i64 n46) ∧ w.cell? ((a43.add (Int.toNat n37 * 7)).add 3) = some (.int .i64 n47) ∧ w.cell? ((a43.add (Int.toNat n37 * 7)).add 4) = some (.int .i64 n48) ∧ w.cell? ((a43.add (Int.toNat n37 * 7)).add 5) = some (.int .i64 n49) ∧ w.cell? ((a43.add (Int.toNat n37 * 7)).add 6) = some (.int .i64 n50)) ∧ (w.cell? ((a1.add 2).add 0) = some (.slice s42.a s42.n s42.c)) ∧ Call P 20 [.agg #[.int .i64 n44, .int .i64 n45, .int .i64 n46, .int .i64 n47, .int .i64 n48, .int .i64 n49, .int .i64 n50], .agg #[.int .i64 n51, .int .i64 n52], .int .i64 n53] [sI] (fun n54 w =>
 (w.cell? ((a1.add 2).add 0) = some (.slice s42.a s42.n s42.c)) ∧ If (n54 == 1) (
 Ld (.ks) (a1.add 2) (fun s55 w =>
 ((0 : Int) ≤ n37 ∧ n37 < ((s55.n : Nat) : Int)) ∧ WithAddr s55.a fun a56 =>
 Ld (.ki .i64) ((a56.add (Int.toNat n37 * 7)).add 0) (fun n57 w =>
 Call P 22 [.pointer p11, .int .i64 n37] [sI] (fun n58 w =>
 (w.cell? (((a56.add (Int.toNat n37 * 7)).add 0).add 0) = some (.int .i64 n57)) ∧ (w.cell? ((a1.add 2).add 0) = some (.slice s55.a s55.n s55.c)) ∧ (w.cell? ((a43.add (Int.toNat n37 * 7)).add 0) = some (.int .i64 n44) ∧ w.cell? ((a43.add (Int.toNat n37 * 7)).add 1) = some (.int .i64 n45) ∧ w.cell? ((a43.add (Int.toNat n37 * 7)).add 2) = some (.int .i64 n46) ∧ w.cell? ((a43.add (Int.toNat n37 * 7)).add 3) = some (.int .i64 n47) ∧ w.cell? ((a43.add (Int.toNat n37 * 7)).add 4) = some (.int .i64 n48) ∧ w.cell? ((a43.add (Int.toNat n37 * 7)).add 5) = some (.int .i64 n49) ∧ w.cell? ((a43.add (Int.toNat n37 * 7)).add 6) = some (.int .i64 n50)) ∧ (w.cell? ((a1.add 2).add 0) = some (.slice s42.a s42.n s42.c)) ∧ Call P 14 [.pointer p11] [sI] (fun n59 w =>
 (w.cell? (((a56.add (Int.toNat n37 * 7)).add 0).add 0) = some (.int .i64 n57)) ∧ (w.cell? ((a1.add 2).add 0) = some (.slice s55.a s55.n s55.c)) ∧ (w.cell? ((a43.add (Int.toNat n37 * 7)).add 0) = some (.int .i64 n44) ∧ w.cell? ((a43.add (Int.toNat n37 * 7)).add 1) = some (.int .i64 n45) ∧ w.cell? ((a43.add (Int.toNat n37 * 7)).add 2) = some (.int .i64 n46) ∧ w.cell? ((a43.add (Int.toNat n37 * 7)).add 3) = some (.int .i64 n47) ∧ w.cell? ((a43.add (Int.toNat n37 * 7)).add 4) = some (.int .i64 n48) ∧ w.cell? ((a43.add (Int.toNat n37 * 7)).add 5) = some (.int .i64 n49) ∧ w.cell? ((a43.add (Int.toNat n37 * 7)).add 6) = some (.int .i64 n50)) ∧ (w.cell? ((a1.add 2).add 0) = some (.slice s42.a s42.n s42.c)) ∧ If (decide (n58 > (IntKind.wrap .i64 (n57 * n59)))) (
 K false w) (
 I38 (IntKind.wrap .i64 (n37 + 1)) w ∧ M39 (IntKind.wrap .i64 (n37 + 1)) w < M39 n37 v40)) w) w) w) w) (
 I38 (IntKind.wrap .i64 (n37 + 1)) w ∧ M39 (IntKind.wrap .i64 (n37 + 1)) w < M39 n37 v40)) w) w) w) w) w) w.drew) (
 I23 (IntKind.wrap .i64 (n22 + 1)) w ∧ M24 (IntKind.wrap .i64 (n22 + 1)) w < M24 n22 v25)) w) v40) w) w) (
 Call P 15 [] [sB] (fun b60 w =>
 K b60 w) w)) v25)) w) w) w) : Call P 6 [p.v, .slice steps.a steps.n steps.c] [sB] K w :=
  call_of (H := ⟨[(5, [(6, .ki .i64)]), (9, [(7, .ki .i64)])], [], [(11, .take 0 (.take 1 (.take 2 (.take 3 (.take 4 (.take 5 (.take 6 (.take 8 (.run 7 (.run 9 (.run 10 (.take 11 (.take 12 (.take 13 (.take 14 (.take 16 (.take 17 (.take 18 (.take 19 (.take 20 (.take 21 (.take 22 (.run 15 (.run 23 (.take 24 (.take 25 (.take 26 .done)))))))))))))))))))))))))))], []⟩) Tryz.func6 (by kernel_rfl) (by kernel_rfl) vc

theorem f20_of (d : Device) (x : Away) (now : Int) {K : Int → World → Prop} {w : World} (vc :
 New [.int .i64 d.on, .int .i64 d.off, .int .i64 d.down, .int .i64 d.up, .int .i64 d.downE, .int .i64 d.upE, .int .i64 d.even] 58 (fun a1 w =>
 New [.int .i64 x.from_, .int .i64 x.until_] 60 (fun a2 w =>
 Ld (.ki .i64) (a2.add 0) (fun n3 w =>
 If (n3 == 0) (
 Ld (.ki .i64) (a2.add 1) (fun n4 w =>
 If (n4 == 0) (
 K 1 w) (
 Ld (.ki .i64) (a2.add 0) (fun n5 w =>
 If (decide (now < n5)) (
 K 1 w) (
 Ld (.ki .i64) (a2.add 1) (fun n6 w =>
 If (decide (now ≥ n6)) (
 K 1 w) (
 Ld (.ki .i64) (a2.add 0) (fun n7 w =>
 Ld (.ki .i64) (a1.add 2) (fun n8 w =>
 If (decide (now < (IntKind.wrap .i64 (n7 + n8)))) (
 K 3 w) (
 Ld (.ki .i64) (a2.add 1) (fun n9 w =>
 Ld (.ki .i64) (a1.add 3) (fun n10 w =>
 If (decide (now ≥ (IntKind.wrap .i64 (n9 - n10)))) (
 K 4 w) (
 K 2 w)) w) w)) w) w)) w)) w)) w) (
 Ld (.ki .i64) (a2.add 0) (fun n11 w =>
 If (decide (now < n11)) (
 K 1 w) (
 Ld (.ki .i64) (a2.add 1) (fun n12 w =>
 If (decide (now ≥ n12)) (
 K 1 w) (
 Ld (.ki .i64) (a2.add 0) (fun n13 w =>
 Ld (.ki .i64) (a1.add 2) (fun n14 w =>
 If (decide (now < (IntKind.wrap .i64 (n13 + n14)))) (
 K 3 w) (
 Ld (.ki .i64) (a2.add 1) (fun n15 w =>
 Ld (.ki .i64) (a1.add 3) (fun n16 w =>
 If (decide (now ≥ (IntKind.wrap .i64 (n15 - n16)))) (
 K 4 w) (
 K 2 w)) w) w)) w) w)) w)) w)) w) w) w) : Call P 20 [d.v, x.v, .int .i64 now] [sI] K w :=
  call_of (H := ⟨[], [], [], []⟩) Tryz.func20 (by kernel_rfl) (by kernel_rfl) vc

end Go.Proofs.YtajilfnceoeaiaaGreat.V
/- Switches: no more than jobs came and ended; each leads to another level; each cycle runs at the level that was chosen last. Plain. -/
namespace Go.Proofs.YtajilfnceoeaiaaGreat.V
open Go Go.RowKit Enc
set_option maxRecDepth 100000
/-- The level, how many switches, and whether all is right so far. -/
structure Sw where
  lv : Int
  n : Nat
  ok : Bool
def swOne (crit : Int) (x : Sw) (i : Interval) : Sw :=
  if i.kind = 1 then ⟨x.lv, x.n, x.ok && (i.arg == x.lv)⟩ else if i.kind = 3 then ⟨i.arg, x.n + 1, x.ok && (!(i.arg == x.lv) && (decide (0 ≤ i.arg) && decide (i.arg ≤ crit)))⟩ else x
def swAll (crit : Int) (L : List Interval) : Sw := L.foldl (swOne crit) ⟨0, 0, true⟩
theorem swAll_snoc (crit : Int) (L : List Interval) (i : Interval) : swAll crit (L ++ [i]) = swOne crit (swAll crit L) i := by
  unfold swAll
  rw [List.foldl_append]
  rfl
theorem swOne_same (crit : Int) (x : Sw) (i j : Interval) (hk : i.kind = j.kind) (ha : i.arg = j.arg) : swOne crit x i = swOne crit x j := by
  unfold swOne
  rw [hk, ha]
theorem swOne_twice (crit : Int) (x : Sw) (i : Interval) (hk : i.kind = 1 ∨ i.kind = 2 ∨ i.kind = 5) : swOne crit (swOne crit x i) i = swOne crit x i := by
  unfold swOne
  by_cases h : i.kind = 1
  · simp only [if_pos h]
    cases x.ok <;> simp
  · have h3 : i.kind ≠ 3 := by omega
    simp only [if_neg h, if_neg h3]
theorem swAll_addZ (crit : Int) (L : List Interval) (i : Interval) : swAll crit (addZ L i) = swOne crit (swAll crit L) i := by
  unfold addZ
  split
  · rename_i y hy
    split
    · rename_i hj
      obtain ⟨Z, rfl⟩ := List.getLast?_eq_some_iff.1 hy
      rw [List.dropLast_concat, swAll_snoc, swAll_snoc]
      have h1 : swOne crit (swAll crit Z) (joinZ y i) = swOne crit (swAll crit Z) y := by
        refine swOne_same crit _ _ _ ?_ ?_
        · unfold joinZ; rw [if_pos hj]
        · unfold joinZ; rw [if_pos hj]
      have h2 : swOne crit (swOne crit (swAll crit Z) y) i = swOne crit (swOne crit (swAll crit Z) y) y := swOne_same crit _ _ _ hj.2.1.symm hj.2.2.1.symm
      rw [h1, h2, swOne_twice crit _ y hj.1]
    · exact swAll_snoc crit L i
  · rename_i h
    have : L = [] := by
      cases L with
      | nil => rfl
      | cons a l => simp at h
    subst this
    exact swAll_snoc crit [] i
/-- Events that may bring a switch. -/
def nonExp (E : List Event) : Nat := (E.filter fun e => e.kind != 4).length
theorem nonExp_snoc (E : List Event) (e : Event) : nonExp (E ++ [e]) = nonExp E + (if e.kind = 4 then 0 else 1) := by
  unfold nonExp
  rw [List.filter_append, List.length_append]
  congr 1
  by_cases h : e.kind = 4 <;> simp [h]
/-- What holds of switches. -/
structure SwI (m : Mach) (s : KS) : Prop where
  lv : (swAll m.p.crit s.trace).lv = s.level
  ok : (swAll m.p.crit s.trace).ok = true
  n : (swAll m.p.crit s.trace).n + wsum unW s.jobs + (if s.ended then 1 else 0) ≤ nonExp s.events
section
variable {m : Mach} {A B : Nat} {s s' : KS}
theorem SwI.did (h : SwI m s) (kind len arg task cyc : Int) (hk : kind ≠ 3) (ha : kind = 1 → arg = s.level) : SwI m (didZ m s kind len arg task cyc) := by
  have e : swAll m.p.crit (didZ m s kind len arg task cyc).trace = swAll m.p.crit s.trace := by
    show swAll m.p.crit (addZ s.trace _) = _
    rw [swAll_addZ]
    unfold swOne
    dsimp only
    split
    · rename_i h1
      rw [ha h1, h.lv, beq_self_eq_true, Bool.and_true]
      rw [← h.lv]
    · rfl
  refine ⟨by rw [e]; exact h.lv, by rw [e]; exact h.ok, ?_⟩
  rw [e]
  exact h.n
theorem SwI.endZ (h : SwI m s) (kind : Int) (hk : kind ≠ 4) (j : Job) : SwI m (endZ s kind j) := by
  refine ⟨h.lv, h.ok, ?_⟩
  have h1 := wsum_upd_le unW s.jobs j.task none
  have e0 : ow unW (none : Option Job) = 0 := rfl
  have hn := h.n
  show (swAll m.p.crit s.trace).n + wsum unW (upd s.jobs j.task none) + (if true = true then 1 else 0) ≤ nonExp (s.events ++ [⟨kind, j.task, s.now, j.deadline⟩])
  rw [nonExp_snoc, if_pos rfl, if_neg hk]
  omega
theorem SwI.startZ (iv : KInv m A B s) (h : SwI m s) {j : Job} (hj : s.jobs j.task = some j) (hc : j.started = false ∨ s.ended = true) : SwI m (startZ s j) ∧ (swAll m.p.crit (startZ s j).trace).n + 1 + wsum unW (startZ s j).jobs + (if (startZ s j).ended then 1 else 0) ≤ nonExp (startZ s j).events := by
  obtain ⟨_, h0, h6⟩ := iv.jobs _ _ hj
  have hn := h.n
  have key : (swAll m.p.crit (V.startZ s j).trace).n + 1 + wsum unW (V.startZ s j).jobs + (if (V.startZ s j).ended then 1 else 0) ≤ nonExp (V.startZ s j).events := by
    unfold V.startZ
    by_cases hs : j.started = true
    · rw [if_pos hs]
      have he : s.ended = true := hc.resolve_left (by rw [hs]; decide)
      rw [he] at hn
      show (swAll m.p.crit s.trace).n + 1 + wsum unW s.jobs + (if false = true then 1 else 0) ≤ nonExp s.events
      rw [if_pos rfl] at hn
      rw [if_neg (by decide)]
      omega
    · rw [if_neg hs]
      have w2 := wsum_upd unW s.jobs h0 (by omega) (some { j with started := true })
      rw [hj] at w2
      have e3 : ow unW (some j) = 1 := by show unW j = 1; rw [unW, if_neg hs]
      have e6 : ow unW (some ({ j with started := true } : Job)) = 0 := rfl
      show (swAll m.p.crit s.trace).n + 1 + wsum unW (upd s.jobs j.task (some { j with started := true })) + (if false = true then 1 else 0) ≤ nonExp s.events
      rw [if_neg (by decide)]
      split at hn <;> omega
  refine ⟨⟨?_, ?_, by omega⟩, key⟩
  · unfold V.startZ; split <;> exact h.lv
  · unfold V.startZ; split <;> exact h.ok
theorem SwI.runsTail (h : SwI m s) (iv : KInv m A B s) (n : Int) {j : Job} (hj : s.jobs j.task = some j) : SwI m (runsTailZ m s n j) := by
  have hd := h.did 1 (lvlP m s.level) s.level n 1 (by decide) (fun _ => rfl)
  obtain ⟨_, h0, h6⟩ := iv.jobs _ _ hj
  unfold runsTailZ
  dsimp only
  split
  · have h2 : SwI m { didZ m s 1 (lvlP m s.level) s.level n 1 with held := (didZ m s 1 (lvlP m s.level) s.level n 1).held.map (spendZ n) } := ⟨hd.lv, hd.ok, hd.n⟩
    refine h2.endZ _ ?_ _
    unfold jobHow
    split
    · decide
    · split <;> decide
  · refine ⟨hd.lv, hd.ok, ?_⟩
    have w2 := wsum_upd unW s.jobs h0 (by omega) (some (jobStep j))
    rw [hj] at w2
    have e2 : ow unW (some (jobStep j)) = ow unW (some j) := rfl
    have hn := hd.n
    have hn : (swAll m.p.crit (didZ m s 1 (lvlP m s.level) s.level n 1).trace).n + wsum unW s.jobs + (if s.ended then 1 else 0) ≤ nonExp s.events := hn
    show (swAll m.p.crit (didZ m s 1 (lvlP m s.level) s.level n 1).trace).n + wsum unW (upd s.jobs j.task (some (jobStep j))) + (if s.ended then 1 else 0) ≤ nonExp s.events
    omega
theorem SwI.runs (h : SwI m s) (iv : KInv m A B s) (hn : s.now < 16384) (ha : s.asleep = false) {n : Int} {j : Job} (hj : s.jobs n = some j) (hr : RunsR m s n s') : SwI m s' := by
  have hjt := (iv.jobs n j hj).1
  subst hjt
  unfold RunsR at hr
  rw [hj] at hr
  simp only [Option.getD_some] at hr
  split at hr
  · rw [hr]; exact h.endZ 3 (by decide) _
  · split at hr
    · rename_i hc
      obtain ⟨b, s1, hch, hb⟩ := hr
      obtain ⟨lv, l0, l1, _, hz⟩ := chooseR_start hch
      obtain ⟨hs, hs2⟩ := h.startZ iv hj hc
      obtain ⟨iv1, _, _, _, hlev, _, hj1⟩ := startZ_inv iv hj ha hc
      rcases hz with ⟨_, rfl, rfl⟩ | ⟨hne, rfl, rfl⟩
      · rw [if_neg (by decide)] at hb
        rw [hj1] at hb
        simp only [Option.getD_some] at hb
        rw [hb]
        exact hs.runsTail iv1 j.task (j := { j with started := true }) hj1
      · rw [if_pos rfl] at hb
        rw [hb]
        have e : swAll m.p.crit (didZ m { V.startZ s j with level := lv } 3 m.p.switch lv 0 0).trace = ⟨lv, (swAll m.p.crit (V.startZ s j).trace).n + 1, true⟩ := by
          show swAll m.p.crit (addZ (V.startZ s j).trace _) = _
          rw [swAll_addZ]
          unfold swOne
          dsimp only
          rw [if_neg (by decide), if_pos rfl, hs.ok, hs.lv, hlev]
          have : (lv == s.level) = false := by simpa using hne
          rw [this]
          simp [l0, l1]
        refine ⟨?_, ?_, ?_⟩
        · rw [e]; rfl
        · rw [e]
        · rw [e]
          exact hs2
    · rw [hr]; exact h.runsTail iv j.task hj
theorem SwI.step (h : SwI m s) (iv : KInv m A B s) (hn : s.now < 16384) (hr : StepR m s s') : SwI m s' := by
  unfold StepR at hr
  by_cases ha : s.asleep = true
  · rw [if_pos ha] at hr
    rw [hr]
    unfold sleepingZ
    dsimp only
    split
    · have h2 : SwI m { s with asleep := false } := ⟨h.lv, h.ok, h.n⟩
      exact h2.did 6 _ _ _ _ (by decide) (fun h => absurd h (by decide))
    · exact h.did 5 _ _ _ _ (by decide) (fun h => absurd h (by decide))
  · rw [if_neg ha] at hr
    have ha' : s.asleep = false := by simpa using ha
    obtain ⟨n, ok, L, hL, _, hw, hr⟩ := hr
    cases ok with
    | true =>
      rw [if_pos rfl] at hr
      obtain ⟨_, x, hx⟩ := whoOf_job iv hL hw
      exact h.runs iv hn ha' hx hr
    | false =>
      rw [if_neg (by decide)] at hr
      have hnn := h.n
      have hle : (swAll m.p.crit s.trace).n + wsum unW s.jobs + (if false = true then 1 else 0) ≤ nonExp s.events := by
        rw [if_neg (by decide)]
        omega
      rcases hr with rfl | ⟨_, k, x, t, _, _, _, _, rfl⟩
      · have h2 : SwI m { s with ended := false } := ⟨h.lv, h.ok, hle⟩
        exact h2.did 2 _ _ _ _ (by decide) (fun h => absurd h (by decide))
      · have h2 : SwI m { s with ended := false, asleep := true, state := (k : Int), wake := wz (s.now + t) } := ⟨h.lv, h.ok, hle⟩
        exact h2.did 4 _ _ _ _ (by decide) (fun h => absurd h (by decide))
theorem SwI.rel (h : SwI m s) (hr : RelOne s s') : SwI m s' := by
  obtain ⟨n, at_, cyc, t, _, _, _, _, rfl⟩ := hr
  refine ⟨h.lv, h.ok, ?_⟩
  have h1 := wsum_upd_le unW s.jobs n (some (jobNew n t.t at_ cyc))
  have e0 : ow unW (some (jobNew n t.t at_ cyc)) = 1 := rfl
  have hn := h.n
  show (swAll m.p.crit s.trace).n + wsum unW (upd s.jobs n (some (jobNew n t.t at_ cyc))) + (if s.ended then 1 else 0) ≤ nonExp (s.events ++ [_])
  rw [nonExp_snoc, if_neg (show ¬ (1 : Int) = 4 by decide)]
  omega
theorem SwI.exp (h : SwI m s) (hr : ExpOne s s') : SwI m s' := by
  obtain ⟨n, at_, cyc, _, _, _, rfl⟩ := hr
  refine ⟨h.lv, h.ok, ?_⟩
  have hn := h.n
  show (swAll m.p.crit s.trace).n + wsum unW s.jobs + (if s.ended then 1 else 0) ≤ nonExp (s.events ++ [_])
  rw [nonExp_snoc]
  omega
theorem SwI.bound (h : SwI m s) (hr : BoundR m s s') : SwI m s' := by
  obtain ⟨s1, s2, h1, _, h2, _, D, X, rfl, _⟩ := hr
  have i1 := Star.keep (I := SwI m) (fun _ _ r i => i.rel r) h1 h
  have i2 := Star.keep (I := SwI m) (fun _ _ r i => i.exp r) h2 i1
  exact ⟨i2.lv, i2.ok, i2.n⟩
/-- What a step that is no tick leaves as it was. -/
structure Calm (s s' : KS) : Prop where
  now : s'.now = s.now
  level : s'.level = s.level
  jobs : s'.jobs = s.jobs
  stack : s'.stack = s.stack
  ended : s'.ended = s.ended
  spent : s'.spent = s.spent
  asleep : s'.asleep = s.asleep
  state : s'.state = s.state
  wake : s'.wake = s.wake
  trace : s'.trace = s.trace
  meter : s'.meter = s.meter
  events : s'.events = s.events
theorem Calm.refl : Calm s s := ⟨rfl, rfl, rfl, rfl, rfl, rfl, rfl, rfl, rfl, rfl, rfl, rfl⟩
theorem AdmitR.calm {x : ATask} {n e : Int} (hr : AdmitR m s x n e s') : Calm s s' := by
  rcases hr with ⟨_, _, _, rfl⟩ | ⟨_, ⟨_, _, _, rfl⟩ | ⟨_, ⟨_, _, _, rfl⟩ | ⟨_, ⟨_, _, _, rfl⟩ | ⟨_, _, i, y, z, r, s1, _, _, _, _, ⟨D, rfl, _⟩, _, _, _, _, rfl⟩⟩⟩⟩
  · exact .refl
  · exact .refl
  · exact .refl
  · exact .refl
  · exact ⟨rfl, rfl, rfl, rfl, rfl, rfl, rfl, rfl, rfl, rfl, rfl, rfl⟩
theorem OneR.calm {x : ASt} {n e : Int} (hr : OneR m s x n e s') : (x.kind = 4 ∧ TickR m s x.a e s') ∨ Calm s s' := by
  rcases hr with ⟨_, hr⟩ | ⟨_, _, hr⟩ | ⟨_, _, hr⟩ | ⟨hk, _, hr⟩ | ⟨_, _, hr⟩ | ⟨hk, _, hr⟩ | ⟨_, _, hr⟩ | ⟨_, _, _, rfl⟩
  · exact .inr hr.calm
  · rcases hr with ⟨rfl, _⟩ | ⟨_, _, _, _, _, rfl⟩
    · exact .inr .refl
    · exact .inr ⟨rfl, rfl, rfl, rfl, rfl, rfl, rfl, rfl, rfl, rfl, rfl, rfl⟩
  · rcases hr with ⟨_, rfl⟩ | ⟨_, _, _, _, _, _, _, _, rfl⟩
    · exact .inr .refl
    · exact .inr ⟨rfl, rfl, rfl, rfl, rfl, rfl, rfl, rfl, rfl, rfl, rfl, rfl⟩
  · exact .inl ⟨hk, hr⟩
  · rcases hr with ⟨rfl, _⟩ | ⟨_, n, L, _, _, _, _, t, _, _, _, hr⟩
    · exact .inr .refl
    · rcases hr with ⟨_, i, _, rfl⟩ | ⟨_, _, c, _, rfl⟩
      · exact .inr ⟨rfl, rfl, rfl, rfl, rfl, rfl, rfl, rfl, rfl, rfl, rfl, rfl⟩
      · exact .inr ⟨rfl, rfl, rfl, rfl, rfl, rfl, rfl, rfl, rfl, rfl, rfl, rfl⟩
  · rcases hr with ⟨_, _, rfl⟩ | ⟨_, _, _, h0, h1, rfl⟩
    · exact .inr .refl
    · exact .inr ⟨rfl, rfl, rfl, rfl, rfl, rfl, rfl, rfl, rfl, rfl, rfl, rfl⟩
  · unfold TimerR at hr
    split at hr
    · rcases hr with ⟨_, _, rfl⟩ | ⟨_, _, rfl⟩
      · exact .inr ⟨rfl, rfl, rfl, rfl, rfl, rfl, rfl, rfl, rfl, rfl, rfl, rfl⟩
      · exact .inr .refl
    · rcases hr with ⟨_, _, rfl⟩ | ⟨_, _, _, _, _, _, _, rfl⟩
      · exact .inr .refl
      · exact .inr ⟨rfl, rfl, rfl, rfl, rfl, rfl, rfl, rfl, rfl, rfl, rfl, rfl⟩
  · exact .inr .refl
theorem TickR.keep {I : KS → Prop} (hstep : ∀ s s', KInv m A B s → s.now < 16384 → StepR m s s' → I s → I s') (hbound : ∀ s s', KInv m A B s → BoundR m s s' → I s → I s') {n e : Int} (iv : KInv m A B s) (hr : TickR m s n e s') (h : I s) : I s' := by
  rcases hr with ⟨_, _, rfl⟩ | ⟨_, _, _, hs, _⟩
  · exact h
  · have hE := endT_le iv.mok s n
    refine (Star.keep (I := fun s => KInv m A B s ∧ I s) (fun s1 s2 r i => ?_) hs ⟨iv, h⟩).2
    obtain ⟨hlt, s3, h1, h2⟩ := r
    have j1 := stepR_inv i.1 (by omega) h1
    exact ⟨(h2.inv j1.1).1, hbound _ _ j1.1 h2 (hstep _ _ i.1 (by omega) h1 i.2)⟩
theorem DoR.keep {I : KS → Prop} (hcalm : ∀ s s', Calm s s' → I s → I s') (hstep : ∀ s s', KInv m (A + 1) (B + 70000) s → s.now < 16384 → StepR m s s' → I s → I s') (hbound : ∀ s s', KInv m (A + 1) (B + 70000) s → BoundR m s s' → I s → I s')
    {x : ASt} {n e : Int} (iv : KInv m A B s) (hA : A + 1 ≤ 800000000) (hB : B + 70000 ≤ bigN) (hr : DoR m s x n e s') (h : I s) : I s' := by
  rcases hr with ⟨_, _, _, rfl⟩ | ⟨_, ⟨_, _, rfl⟩ | ⟨_, s1, h1, h2⟩⟩
  · exact h
  · exact h
  · have iv1 := (h1.inv iv hA hB).1
    refine hbound _ _ iv1 h2 ?_
    rcases h1.calm with ⟨_, ht⟩ | hc
    · exact ht.keep hstep hbound (iv.mono (by omega) (by omega) hA hB) h
    · exact hcalm _ _ hc h
theorem SwI.calm (h : SwI m s) (c : Calm s s') : SwI m s' := ⟨by rw [c.trace, c.level]; exact h.lv, by rw [c.trace]; exact h.ok, by rw [c.trace, c.jobs, c.ended, c.events]; exact h.n⟩
theorem SwI.doR (h : SwI m s) {x : ASt} {n e : Int} (iv : KInv m A B s) (hA : A + 1 ≤ 800000000) (hB : B + 70000 ≤ bigN) (hr : DoR m s x n e s') : SwI m s' :=
  DoR.keep (fun _ _ c i => i.calm c) (fun _ _ iv hn r i => i.step iv hn r) (fun _ _ _ r i => i.bound r) iv hA hB hr h
theorem SwI.s0 (m : Mach) : SwI m (s0 m) := ⟨rfl, rfl, Nat.le_refl _⟩
end
end Go.Proofs.YtajilfnceoeaiaaGreat.V
/- Whenever a device is on, it has cost no more than if it had never been away. Plain. -/
namespace Go.Proofs.YtajilfnceoeaiaaGreat.V
open Go Go.RowKit Enc
set_option maxRecDepth 100000
/-- What a step of the machine leaves as it was; time goes by, but not for long. -/
structure StepF (s s' : KS) : Prop where
  devs : s'.devs = s.devs
  spent : s'.spent = s.spent
  T : s'.T = s.T
  N : s'.N = s.N
  lat : s'.lat = s.lat
  tim : s'.tim = s.tim
  places : s'.places = s.places
  policy : s'.policy = s.policy
  naps : s'.naps = s.naps
  le : s.now ≤ s'.now
  far : s'.now ≤ s.now + 256
section
variable {m : Mach} {A B : Nat} {s s' s'' : KS}
theorem StepF.did (hn : 0 ≤ s.now ∧ s.now ≤ 17000) (kind len arg task cyc : Int) (hl : 0 ≤ len ∧ len ≤ 256) : StepF s (didZ m s kind len arg task cyc) := by
  have hw : wz (s.now + len) = s.now + len := wz_id (by omega) (by omega)
  refine ⟨rfl, rfl, rfl, rfl, rfl, rfl, rfl, rfl, rfl, ?_, ?_⟩
  · show s.now ≤ wz (s.now + len)
    omega
  · show wz (s.now + len) ≤ s.now + 256
    omega
theorem StepF.same {s1 s2 : KS} (h : StepF s1 s2) (e1 : s1.devs = s.devs) (e2 : s1.spent = s.spent) (e3 : s1.T = s.T) (e4 : s1.N = s.N) (e5 : s1.lat = s.lat) (e6 : s1.tim = s.tim) (e7 : s1.places = s.places) (e8 : s1.policy = s.policy) (e9 : s1.naps = s.naps) (e10 : s1.now = s.now) : StepF s s2 :=
  ⟨h.devs.trans e1, h.spent.trans e2, h.T.trans e3, h.N.trans e4, h.lat.trans e5, h.tim.trans e6, h.places.trans e7, h.policy.trans e8, h.naps.trans e9, by rw [← e10]; exact h.le, by rw [← e10]; exact h.far⟩
theorem StepF.endZ (h : StepF s s') (kind : Int) (j : Job) : StepF s (endZ s' kind j) := ⟨h.devs, h.spent, h.T, h.N, h.lat, h.tim, h.places, h.policy, h.naps, h.le, h.far⟩
theorem lvlP_in (iv : KInv m A B s) : 1 ≤ lvlP m s.level ∧ lvlP m s.level ≤ 256 := by
  have hlev := iv.lev
  have hcr := iv.crit.hi
  obtain ⟨i, hi⟩ : ∃ i : Nat, s.level = i := ⟨s.level.toNat, by omega⟩
  obtain ⟨x, hx⟩ : ∃ x, m.L[i]? = some x := ⟨m.L[i]'(by omega), List.getElem?_eq_getElem (by omega)⟩
  have hp := iv.mok.lev i x hx
  have hlp : lvlP m s.level = x.p := by rw [lvlP, hi, Int.toNat_natCast, hx]; rfl
  rw [hlp]
  exact hp
theorem StepF.runsTail (iv : KInv m A B s) (n : Int) (j : Job) : StepF s (runsTailZ m s n j) := by
  have hd : StepF s (didZ m s 1 (lvlP m s.level) s.level n 1) := StepF.did iv.now 1 _ _ _ _ ⟨by have := (lvlP_in iv).1; omega, (lvlP_in iv).2⟩
  have h2 : StepF s { didZ m s 1 (lvlP m s.level) s.level n 1 with held := (didZ m s 1 (lvlP m s.level) s.level n 1).held.map (spendZ n) } := ⟨hd.devs, hd.spent, hd.T, hd.N, hd.lat, hd.tim, hd.places, hd.policy, hd.naps, hd.le, hd.far⟩
  unfold runsTailZ
  dsimp only
  split
  · exact h2.endZ _ _
  · exact ⟨hd.devs, hd.spent, hd.T, hd.N, hd.lat, hd.tim, hd.places, hd.policy, hd.naps, hd.le, hd.far⟩
theorem startZ_same (s : KS) (j : Job) : (startZ s j).devs = s.devs ∧ (startZ s j).spent = s.spent ∧ (startZ s j).T = s.T ∧ (startZ s j).N = s.N ∧ (startZ s j).lat = s.lat ∧ (startZ s j).tim = s.tim ∧ (startZ s j).places = s.places ∧ (startZ s j).policy = s.policy ∧ (startZ s j).naps = s.naps ∧ (startZ s j).now = s.now := by
  unfold startZ
  split <;> exact ⟨rfl, rfl, rfl, rfl, rfl, rfl, rfl, rfl, rfl, rfl⟩
theorem StepR.frame (iv : KInv m A B s) (hn : s.now < 16384) (hr : StepR m s s') : StepF s s' := by
  have hnow := iv.now
  have hsw := iv.mok.sw
  unfold StepR at hr
  by_cases ha : s.asleep = true
  · rw [if_pos ha] at hr
    rw [hr]
    obtain ⟨h0, h1⟩ := iv.slp ha
    obtain ⟨k, hk⟩ : ∃ k : Nat, s.state = k := ⟨s.state.toNat, by omega⟩
    obtain ⟨x, hx⟩ : ∃ x, m.S[k]? = some x := ⟨m.S[k]'(by omega), List.getElem?_eq_getElem (by omega)⟩
    obtain ⟨g1, g2, g3, g4, g5, g6⟩ := iv.mok.slp k x hx
    have hz : sleepingZ m s = if s.now ≥ wz (s.wake - x.exit) then didZ m { s with asleep := false } 6 x.exit s.state 0 0 else didZ m s 5 1 s.state 0 0 := by
      unfold sleepingZ
      rw [hk, Int.toNat_natCast, hx]
      rfl
    rw [hz]
    split
    · exact (StepF.did (s := { s with asleep := false }) (m := m) hnow 6 x.exit s.state 0 0 ⟨g3, g4⟩).same rfl rfl rfl rfl rfl rfl rfl rfl rfl rfl
    · exact StepF.did hnow 5 1 s.state 0 0 (by omega)
  · rw [if_neg ha] at hr
    have ha' : s.asleep = false := by simpa using ha
    obtain ⟨n, ok, L, hL, _, hw, hr⟩ := hr
    cases ok with
    | true =>
      rw [if_pos rfl] at hr
      obtain ⟨_, j, hj⟩ := whoOf_job iv hL hw
      have hjt := (iv.jobs n j hj).1
      subst hjt
      unfold RunsR at hr
      rw [hj] at hr
      simp only [Option.getD_some] at hr
      split at hr
      · rw [hr]
        exact StepF.endZ ⟨rfl, rfl, rfl, rfl, rfl, rfl, rfl, rfl, rfl, Int.le_refl _, by omega⟩ _ _
      · split at hr
        · rename_i hc
          obtain ⟨b, s1, hch, hb⟩ := hr
          obtain ⟨lv, l0, l1, _, hz⟩ := chooseR_start hch
          obtain ⟨iv1, _, _, _, hlev, _, hj1⟩ := startZ_inv iv hj ha' hc
          obtain ⟨e1, e2, e3, e4, e5, e6, e7, e8, e9, e10⟩ := startZ_same s j
          rcases hz with ⟨_, rfl, rfl⟩ | ⟨hne, rfl, rfl⟩
          · rw [if_neg (by decide)] at hb
            rw [hb]
            exact (StepF.runsTail iv1 _ _).same e1 e2 e3 e4 e5 e6 e7 e8 e9 e10
          · rw [if_pos rfl] at hb
            rw [hb]
            exact (StepF.did (s := { startZ s j with level := lv }) (m := m) (by show 0 ≤ (startZ s j).now ∧ (startZ s j).now ≤ 17000; rw [e10]; exact hnow) 3 m.p.switch lv 0 0 hsw).same e1 e2 e3 e4 e5 e6 e7 e8 e9 e10
        · rw [hr]; exact StepF.runsTail iv _ _
    | false =>
      rw [if_neg (by decide)] at hr
      rcases hr with rfl | ⟨_, k, x, t, hx, _, _, _, rfl⟩
      · exact (StepF.did (s := { s with ended := false }) (m := m) hnow 2 1 0 0 0 (by omega)).same rfl rfl rfl rfl rfl rfl rfl rfl rfl rfl
      · obtain ⟨g1, g2, _⟩ := iv.mok.slp k x hx
        exact (StepF.did (s := { s with ended := false, asleep := true, state := (k : Int), wake := wz (s.now + t) }) (m := m) hnow 4 x.enter k 0 0 ⟨g1, g2⟩).same rfl rfl rfl rfl rfl rfl rfl rfl rfl rfl
/-- A device's moments and its cost. -/
def DevOne (now : Int) (d : Device) (x : Away) (p : Int) : Prop :=
  (x = ⟨0, 0⟩ ∧ p = 0) ∨ (0 ≤ x.from_ ∧ x.from_ ≤ now ∧ x.from_ + d.even ≤ x.until_ ∧ x.until_ ≤ 1099511627776 ∧ 0 ≤ p ∧ p ≤ d.on * x.from_)
theorem DevOne.later {now now' : Int} {d : Device} {x : Away} {p : Int} (h : DevOne now d x p) (hl : now ≤ now') : DevOne now' d x p := by
  rcases h with h | ⟨h1, h2, h3⟩
  · exact .inl h
  · exact .inr ⟨h1, by omega, h3⟩
theorem DevOne.on_le {now : Int} {d : Device} {x : Away} {p : Int} (hd : AwayOk d.down d.up d.downE d.upE d.off d.on d.even) (h0 : 0 ≤ now) (h1 : now ≤ 17000) (h : DevOne now d x p) (hs : stateZ d x now = 1) : wz (p + energyZ d x now) = p + energyZ d x now ∧ 0 ≤ p + energyZ d x now ∧ p + energyZ d x now ≤ d.on * now := by
  obtain ⟨k1, k2, k3, k4, k5, k6, k7, k8, k9, k10⟩ := hd
  have hon := mul_in k5.1 k5.2 h0 h1
  rcases h with ⟨rfl, rfl⟩ | ⟨f0, f1, f2, f3, p0, p1⟩
  · have he : energyZ d ⟨0, 0⟩ now = d.on * now := by
      unfold energyZ
      rw [if_pos (show neverZ ⟨0, 0⟩ = true from rfl), if_neg (by omega)]
      exact wz_id (by omega) (by omega)
    rw [he]
    refine ⟨wz_id (by omega) (by omega), by omega, by omega⟩
  · have hnv : neverZ x = false := by
      unfold neverZ
      by_cases e : x.from_ = 0
      · have : x.until_ ≠ 0 := by omega
        simp [this]
      · simp [e]
    have hu : now ≥ x.until_ := by
      unfold stateZ at hs
      rw [hnv] at hs
      by_cases g : now ≥ x.until_
      · exact g
      · rw [if_neg (by simp; omega)] at hs
        split at hs
        · cases hs
        · split at hs <;> cases hs
    have w1 : wz (x.from_ + d.down) = x.from_ + d.down := wz_id (by omega) (by omega)
    have w2 : wz (x.until_ - d.up) = x.until_ - d.up := wz_id (by omega) (by omega)
    have w3 : wz (0 + d.downE) = d.downE := by rw [show 0 + d.downE = d.downE by omega]; exact wz_id (by omega) (by omega)
    have w4 : wz (d.downE + d.upE) = d.downE + d.upE := wz_id (by omega) (by omega)
    have w5 : wz (x.until_ - d.up - (x.from_ + d.down)) = x.until_ - d.up - (x.from_ + d.down) := wz_id (by omega) (by omega)
    have w6 : wz (now - x.until_) = now - x.until_ := wz_id (by omega) (by omega)
    have hspan : spanZ (x.from_ + d.down) (x.until_ - d.up) now = x.until_ - d.up - (x.from_ + d.down) := by
      unfold spanZ
      have hif : (if now < x.until_ - d.up then now else x.until_ - d.up) = x.until_ - d.up := if_neg (by omega)
      rw [hif, w5, if_neg (by omega)]
    have m1 := mul_in k6.1 (show d.off ≤ 65536 by omega) (show 0 ≤ x.until_ - d.up - (x.from_ + d.down) by omega) (show x.until_ - d.up - (x.from_ + d.down) ≤ 17000 by omega)
    have m2 := mul_in k5.1 k5.2 (show 0 ≤ now - x.until_ by omega) (show now - x.until_ ≤ 17000 by omega)
    have he : energyZ d x now = d.downE + d.upE + d.off * (x.until_ - d.up - (x.from_ + d.down)) + d.on * (now - x.until_) := by
      unfold energyZ
      rw [hnv, if_neg (by decide)]
      dsimp only
      rw [w1, w2, hspan, if_pos (by omega), if_pos (by omega), w3, w4, w6, if_neg (by omega), wzi (x := d.off * (x.until_ - d.up - (x.from_ + d.down))) (by omega) (by omega), wzi (x := d.on * (now - x.until_)) (by omega) (by omega), wzi (x := d.downE + d.upE + d.off * (x.until_ - d.up - (x.from_ + d.down))) (by omega) (by omega)]
      exact wz_id (by omega) (by omega)
    -- off for longer than the least is no dearer than on
    have m3 : d.off * (x.until_ - d.up - (x.from_ + d.down)) = d.off * (d.even - d.down - d.up) + d.off * (x.until_ - x.from_ - d.even) := by
      rw [← Int.mul_add]
      congr 1
      omega
    have m4 : d.off * (x.until_ - x.from_ - d.even) ≤ d.on * (x.until_ - x.from_ - d.even) := Int.mul_le_mul_of_nonneg_right k6.2 (by omega)
    have m5 : d.on * now = d.on * x.from_ + (d.on * d.even + d.on * (x.until_ - x.from_ - d.even) + d.on * (now - x.until_)) := by
      rw [← Int.mul_add, ← Int.mul_add, ← Int.mul_add]
      congr 1
      omega
    rw [he]
    have hp1 := mul_in k5.1 k5.2 f0 (show x.from_ ≤ 17000 by omega)
    refine ⟨wz_id (by omega) (by omega), by omega, by omega⟩
theorem DevOne.call {now : Int} {d : Device} {x : Away} {p : Int} (hd : AwayOk d.down d.up d.downE d.upE d.off d.on d.even) (h0 : 0 ≤ now) (h1 : now ≤ 17000) (h : DevOne now d x p) : DevOne now d (callZ d x now) p := by
  obtain ⟨k1, k2, k3, k4, k5, k6, k7, k8, k9, k10⟩ := hd
  unfold callZ
  split
  · rename_i hu
    rcases h with ⟨rfl, rfl⟩ | ⟨f0, f1, f2, f3, p0, p1⟩
    · cases hu
    · have w1 : wz (x.from_ + d.even) = x.from_ + d.even := wz_id (by omega) (by omega)
      have w2 : wz (now + d.up) = now + d.up := wz_id (by omega) (by omega)
      have w3 : wz (x.from_ + d.down) = x.from_ + d.down := wz_id (by omega) (by omega)
      have w4 : wz (x.from_ + d.down + d.up) = x.from_ + d.down + d.up := wz_id (by omega) (by omega)
      refine .inr ⟨f0, f1, ?_, ?_, p0, p1⟩
      · dsimp only
        rw [w1, w2, w3, w4]
        unfold mxZ
        split <;> split <;> omega
      · dsimp only
        rw [w1, w2, w3, w4]
        unfold mxZ
        split <;> split <;> omega
  · exact h
theorem DevOne.calls {now : Int} {d : Device} {x : Away} {p : Int} (hd : AwayOk d.down d.up d.downE d.upE d.off d.on d.even) (h0 : 0 ≤ now) (h1 : now ≤ 17000) (h : DevOne now d x p) (n : Nat) : DevOne now d (Nat.repeat (fun z => callZ d z now) n x) p := by
  induction n with
  | zero => exact h
  | succ n ih => exact DevOne.call hd h0 h1 ih
theorem DevOne.away {now : Int} {d : Device} {x x' : Away} {p p' : Int} (hd : AwayOk d.down d.up d.downE d.upE d.off d.on d.even) (h0 : 0 ≤ now) (h1 : now ≤ 17000) (h : DevOne now d x p) (ha : AwayOne d now x p x' p') : DevOne now d x' p' := by
  obtain ⟨u, u0, u1, ⟨_, rfl, rfl⟩ | ⟨hb, rfl, rfl⟩⟩ := ha
  · exact h
  · unfold awayB at hb
    simp only [Bool.and_eq_true, beq_iff_eq, Bool.not_eq_true', decide_eq_false_iff_not] at hb
    obtain ⟨hs, he⟩ := hb
    rw [wzi (x := u - now) (by omega) (by omega)] at he
    obtain ⟨e1, e2, e3⟩ := h.on_le hd h0 h1 hs
    rw [e1]
    exact .inr ⟨h0, Int.le_refl _, by dsimp only; omega, u1, e2, e3⟩
/-- What holds of all devices. -/
def DevI (m : Mach) (s : KS) : Prop := ∀ (i : Nat) (d : Device) (x : Away) (p : Int), m.D[i]? = some d → s.devs[i]? = some x → s.spent[i]? = some p → DevOne s.now d x p
theorem DevI.eq (h : DevI m s) (e1 : s'.devs = s.devs) (e2 : s'.spent = s.spent) (e3 : s.now ≤ s'.now) : DevI m s' := fun i d x p hd hx hp => (h i d x p hd (by rw [← e1]; exact hx) (by rw [← e2]; exact hp)).later e3
theorem rel_frame (hr : RelOne s s') : s'.devs = s.devs ∧ s'.spent = s.spent ∧ s'.now = s.now ∧ s'.T = s.T ∧ s'.tim = s.tim := by
  obtain ⟨n, at_, cyc, t, _, _, _, _, rfl⟩ := hr
  exact ⟨rfl, rfl, rfl, rfl, rfl⟩
theorem exp_frame (hr : ExpOne s s') : s'.devs = s.devs ∧ s'.spent = s.spent ∧ s'.now = s.now ∧ s'.T = s.T ∧ s'.lat = s.lat ∧ s'.N = s.N := by
  obtain ⟨n, at_, cyc, _, _, _, rfl⟩ := hr
  exact ⟨rfl, rfl, rfl, rfl, rfl, rfl⟩
theorem DevI.bound (t : Tab m) (iv : KInv m A B s) (h : DevI m s) (hr : BoundR m s s') : DevI m s' := by
  obtain ⟨s1, s2, h1, _, h2, _, D, X, rfl, hDl, hXl, ha⟩ := hr
  have i1 := Star.keep (I := DevI m) (fun _ _ r i => i.eq (rel_frame r).1 (rel_frame r).2.1 (Int.le_of_eq (rel_frame r).2.2.1.symm)) h1 h
  have i2 := Star.keep (I := DevI m) (fun _ _ r i => i.eq (exp_frame r).1 (exp_frame r).2.1 (Int.le_of_eq (exp_frame r).2.2.1.symm)) h2 i1
  obtain ⟨j1, _, n1⟩ := h1.relInv iv
  obtain ⟨j2, _, n2⟩ := h2.expInv j1
  have hnow := j2.now
  intro i d x' p' hd hx' hp'
  have hx' : D[i]? = some x' := hx'
  have hp' : X[i]? = some p' := hp'
  have hlx : i < s2.devs.length := by have := lt_of_get hx'; omega
  have hlp : i < s2.spent.length := by have := lt_of_get hp'; omega
  obtain ⟨x3, p3, e1, e2, e3⟩ := ha i d _ _ hd (List.getElem?_eq_getElem hlx) (List.getElem?_eq_getElem hlp)
  rw [hx'] at e1
  rw [hp'] at e2
  cases e1; cases e2
  exact (i2 i d _ _ hd (List.getElem?_eq_getElem hlx) (List.getElem?_eq_getElem hlp)).away (t.dev i d hd) hnow.1 hnow.2 e3
theorem DevI.calm (t : Tab m) (iv : KInv m A B s) (h : DevI m s) {x : ASt} {n e : Int} (hr : OneR m s x n e s') (hk : x.kind ≠ 4) : DevI m s' := by
  have hnow := iv.now
  rcases hr with ⟨_, hr⟩ | ⟨_, _, hr⟩ | ⟨_, _, hr⟩ | ⟨hk4, _, hr⟩ | ⟨_, _, hr⟩ | ⟨_, _, hr⟩ | ⟨_, _, hr⟩ | ⟨_, _, _, rfl⟩
  · rcases hr with ⟨_, _, _, rfl⟩ | ⟨_, ⟨_, _, _, rfl⟩ | ⟨_, ⟨_, _, _, rfl⟩ | ⟨_, ⟨_, _, _, rfl⟩ | ⟨_, _, i, y, z, r, s1, _, _, _, _, ⟨D, rfl, ⟨hDl, hD⟩, _⟩, _, _, _, _, rfl⟩⟩⟩⟩
    · exact h
    · exact h
    · exact h
    · exact h
    · intro i d x p hd hx hp
      have hx : D[i]? = some x := hx
      have hlx : i < s.devs.length := by have := lt_of_get hx; rw [hDl] at this; exact this
      obtain ⟨y, n, e1, e2⟩ := hD i _ d hd (List.getElem?_eq_getElem hlx)
      rw [hx] at e1; cases e1
      rw [e2]
      exact (h i d _ p hd (List.getElem?_eq_getElem hlx) hp).calls (t.dev i d hd) hnow.1 hnow.2 n
  · rcases hr with ⟨rfl, _⟩ | ⟨_, _, _, _, _, rfl⟩
    · exact h
    · exact h.eq rfl rfl (Int.le_refl _)
  · rcases hr with ⟨_, rfl⟩ | ⟨_, _, _, _, _, _, _, _, rfl⟩
    · exact h
    · exact h.eq rfl rfl (Int.le_refl _)
  · exact absurd hk4 hk
  · rcases hr with ⟨rfl, _⟩ | ⟨_, n, L, _, _, _, _, t, _, _, _, hr⟩
    · exact h
    · rcases hr with ⟨_, i, _, rfl⟩ | ⟨_, _, c, _, rfl⟩ <;> exact h.eq rfl rfl (Int.le_refl _)
  · rcases hr with ⟨_, _, rfl⟩ | ⟨_, _, _, h0, h1, rfl⟩
    · exact h
    · exact h.eq rfl rfl (Int.le_refl _)
  · unfold TimerR at hr
    split at hr
    · rcases hr with ⟨_, _, rfl⟩ | ⟨_, _, rfl⟩
      · exact h.eq rfl rfl (Int.le_refl _)
      · exact h
    · rcases hr with ⟨_, _, rfl⟩ | ⟨_, _, _, _, _, _, _, rfl⟩
      · exact h
      · exact h.eq rfl rfl (Int.le_refl _)
  · exact h
theorem DevI.doR (t : Tab m) (h : DevI m s) {x : ASt} {n e : Int} (iv : KInv m A B s) (hA : A + 1 ≤ 800000000) (hB : B + 70000 ≤ bigN) (hr : DoR m s x n e s') : DevI m s' := by
  rcases hr with ⟨_, _, _, rfl⟩ | ⟨_, ⟨_, _, rfl⟩ | ⟨_, s1, h1, h2⟩⟩
  · exact h
  · exact h
  · have iv1 := (h1.inv iv hA hB).1
    refine DevI.bound t iv1 ?_ h2
    by_cases hk : x.kind = 4
    · rcases h1.calm with ⟨_, ht⟩ | hc
      · exact ht.keep (fun _ _ iv hn r i => i.eq (StepR.frame iv hn r).devs (StepR.frame iv hn r).spent (StepR.frame iv hn r).le) (fun _ _ iv r i => i.bound t iv r) iv h
      · rcases h1 with ⟨hk', _⟩ | ⟨hk', _⟩ | ⟨hk', _⟩ | ⟨_, _, ht⟩ | ⟨hk', _⟩ | ⟨hk', _⟩ | ⟨hk', _⟩ | ⟨hk', _⟩
        · omega
        · omega
        · omega
        · exact ht.keep (fun _ _ iv hn r i => i.eq (StepR.frame iv hn r).devs (StepR.frame iv hn r).spent (StepR.frame iv hn r).le) (fun _ _ iv r i => i.bound t iv r) iv h
        all_goals omega
    · exact h.calm t iv h1 hk
theorem DevI.s0 (m : Mach) : DevI m (s0 m) := by
  intro i d x p hd hx hp
  have hx := List.mem_of_getElem? hx
  have hp := List.mem_of_getElem? hp
  exact .inl ⟨List.eq_of_mem_replicate hx, List.eq_of_mem_replicate hp⟩
end
end Go.Proofs.YtajilfnceoeaiaaGreat.V
/- WholeSaves: the function returns true. -/
namespace Go.Proofs.YtajilfnceoeaiaaGreat.V
open Go Go.RowKit Enc
set_option maxRecDepth 100000
theorem rstate_spec (d : Device) (x : Away) (now : Int) (w : World) : Call P 20 [d.v, x.v, .int .i64 now] [sI] (fun r w' => Below w.heap.size w w' ∧ (r = 1 → stateZ d x now = 1)) w := by
  refine f20_of _ _ _ (New_of fun b1 w1 c1 u1 => New_of fun b2 w2 c2 u2 => ?_)
  have c1 := c1.below u2
  have u := u1.on u2
  have one : neverZ x = true ∨ now < x.from_ ∨ now ≥ x.until_ → (Below w.heap.size w w2 ∧ ((1 : Int) = 1 → stateZ d x now = 1)) := fun h => ⟨u, fun _ => by unfold stateZ; rw [if_pos h]⟩
  have oth : ∀ r : Int, r ≠ 1 → (Below w.heap.size w w2 ∧ (r = 1 → stateZ d x now = 1)) := fun r h => ⟨u, fun e => absurd e h⟩
  refine c2.ld (x := x.from_) rfl (If_eq (fun e0 => ?_) fun e0 => ?_)
  · refine c2.ld (x := x.until_) rfl (If_eq (fun e1 => one (.inl ?_)) fun e1 => ?_)
    · have e0 : x.from_ = 0 := e0
      have e1 : x.until_ = 0 := e1
      unfold neverZ
      rw [e0, e1]; rfl
    · refine c2.ld (x := x.from_) rfl (If_d (fun h => one (.inr (.inl h))) fun _ => c2.ld (x := x.until_) rfl (If_d (fun h => one (.inr (.inr h))) fun _ => ?_))
      refine c2.ld (x := x.from_) rfl (c1.ld (x := d.down) rfl (If_d (fun _ => oth 3 (by decide)) fun _ => c2.ld (x := x.until_) rfl (c1.ld (x := d.up) rfl (If_d (fun _ => oth 4 (by decide)) fun _ => oth 2 (by decide)))))
  · refine c2.ld (x := x.from_) rfl (If_d (fun h => one (.inr (.inl h))) fun _ => c2.ld (x := x.until_) rfl (If_d (fun h => one (.inr (.inr h))) fun _ => ?_))
    refine c2.ld (x := x.from_) rfl (c1.ld (x := d.down) rfl (If_d (fun _ => oth 3 (by decide)) fun _ => c2.ld (x := x.until_) rfl (c1.ld (x := d.up) rfl (If_d (fun _ => oth 4 (by decide)) fun _ => oth 2 (by decide)))))
theorem tdevice_spec {o : Own} {w : World} {m : Mach} {a : Nat} {q : KPtr} {s : KS} (h : KRep o w m a q s) (d : Nat) (hd : d < s.devs.length) : Call P 21 [vP a, .int .i64 d] [shAway] (fun a b w' => s.devs[d]? = some ⟨a, b⟩ ∧ Below w.heap.size w w') w := by
  refine f21_of _ _ (New_blk o 90 fun b1 o1 w1 k1 u1 hb1 => ?_)
  have h := h.upno u1
  have hv := device_spec h d hd
  refine hv.impI2 ?_
  rintro n1 n2 w2 ⟨hx, u2⟩
  have k1 := k1.up (C := no) (o' := o1) (Up.of_below u2) rfl
  refine NewSt_of (by rfl) fun b3 w3 c3 u3 => ?_
  have c3 : Bx w3 b3 0 (⟨n1, n2⟩ : Away).l := c3
  have k1 := k1.up (C := no) (o' := o1) (Up.of_below u3) rfl
  refine c3.ld (x := n1) rfl ?_
  refine c3.ld (x := n2) rfl ?_
  refine k1.wr0 (vs := [.int .i64 n1, .int .i64 n2]) (by rfl) fun w4 k4 hw => ?_
  have k4 : Bx w4 b1 0 (⟨n1, n2⟩ : Away).l := k4.bx
  refine LdAway k4 ?_
  refine ⟨hx, ?_⟩
  have U : Up no o w o1 w3 := (u1.trans (Up.of_below u2)).trans (Up.of_below u3)
  exact (U.wr hw (by rw [hb1]; exact Nat.le_refl _)).below
theorem saves_spec {o : Own} {w : World} {m : Mach} {st : Sl} {l : List ASt} (hm : MachR o w m) (hs : StepsR o w st l) (hl : l.length ≤ 1048576) : Call P 6 [m.p.v, vS st] [sB] (fun b w' => b = true ∧ ∃ o', Up kl o w o' w') w := by
  have hn := hs.n
  refine f6_of _ _ (New_blk o 0 fun b1 o1 w1 k1 u1 _ => k1.bx.ldPlat (x := m.p) ?_)
  have hm := hm.up u1 rfl
  have hs := hs.up u1 rfl
  have hb := boot_law hm
  refine hb.imp1 ?_
  rintro pk w2 (⟨t, a, q, x, y, z, o2, rfl, L⟩ | ⟨nt, rfl, u2⟩)
  rotate_left
  · refine If_t ((k1.bx.below u2).ldPlat (x := m.p) ?_)
    have hno := none_spec (hm.below u2) nt
    refine hno.imp1 ?_
    rintro b w3 ⟨rfl, o3, u3⟩
    exact ⟨rfl, o3, (u1.of_no.trans (Up.of_below u2)).trans u3⟩
  have hs := hs.up L.U kl0
  have k1 := k1.up L.U kl0
  have hm := hm.up L.U kl0
  have t' := t.pl x y z
  have hD : (V.pl m x y z).D = m.D := rfl
  generalize V.pl m x y z = m' at L t' hD
  refine If_f ⟨fun n w' => ∃ k : Nat, n = k ∧ k ≤ l.length ∧ ∃ o' q' s, LawS o1 w1 m' a k o' w' q' s ∧ DevI m' s ∧ StepsR o' w' st l ∧ Blk o' w' 0 b1 (.cells m.p.l.toArray 26 (0, 0)) ∧ MachR o' w' m, fun n _ => l.length - n.toNat, ⟨0, rfl, Nat.zero_le _, o2, q, _, L, DevI.s0 m', hs, k1, hm⟩, ?_⟩
  rintro n v ⟨k, rfl, hk, o3, q3, s, L, dv, hs, k1, hm⟩ _
  refine If_d (fun hlt => ?_) fun hlt => ?_
  · have hkl : k < l.length := by omega
    have hx : l[k]? = some l[k] := List.getElem?_eq_getElem hkl
    have htx := hs.each _ (List.getElem_mem hkl)
    generalize l[k] = x at hx htx
    have hme : l.length - Int.toNat ((k : Int) + 1) < l.length - Int.toNat (k : Int) := by omega
    rw [wz_id (x := (k : Int) + 1) (by omega) (by omega)]
    refine hs.step rfl hx ?_
    have hd := L.doo (by omega) x htx
    refine hd.imp2 ?_
    rintro n e w5 ⟨s5, d5, q5, o5, L5, u5⟩
    have dv := dv.doR t' L.iv (by omega) (by unfold budB bigN; omega) d5
    have hs := hs.up u5 kl0
    have k1 := k1.up u5 kl0
    have hm := hm.up u5 kl0
    have hDn := hm.D.n
    have hd3 := t.d3
    refine ⟨fun n w' => ∃ j : Nat, n = j ∧ j ≤ m.D.length ∧ Below w5.heap.size w5 w', fun n _ => m.D.length - n.toNat, ⟨0, rfl, Nat.zero_le _, Below.refl _ _⟩, ?_⟩
    rintro n v6 ⟨j, rfl, hj, u6⟩ _
    have L6 := L5.below u6
    have k1 := k1.up (C := no) (o' := o5) (Up.of_below u6) rfl
    have hm := hm.below u6
    refine k1.bx.ld (x := m.p.devices) rfl (If_d (fun hlt => ?_) fun hlt => ?_)
    · have hjl : j < m.D.length := by omega
      have hy : m.D[j]? = some m.D[j] := List.getElem?_eq_getElem hjl
      generalize m.D[j] = y at hy
      have hme' : m.D.length - Int.toNat ((j : Int) + 1) < m.D.length - Int.toNat (j : Int) := by omega
      rw [wz_id (x := (j : Int) + 1) (by omega) (by omega)]
      have hdl : j < s5.devs.length := by rw [L6.iv.D, hD]; exact hjl
      have hpl : j < s5.spent.length := by rw [L6.iv.X, hD]; exact hjl
      have L6 := L6.below bdrew
      have k1 := k1.up (C := no) (o' := o5) (w' := v6.drew) .drew rfl
      have hm := hm.below bdrew
      have u6 := u6.on bdrew
      refine k1.bx.ld (x := m.p.devices) rfl (RL.at' hm.D rfl hy fun bd fd had hbd => ?_)
      have hadr : (⟨bd, fd, none⟩ : Addr).add (Int.toNat (j : Int) * 7) = ⟨bd, fd + j * 7, none⟩ := by rw [Addr.add_mk, Int.toNat_natCast]
      have hbd : Bx v6.drew bd (fd + j * 7) y.l := hbd
      rw [hadr]
      refine hbd.ldDevice (x := y) ?_
      have hv := tdevice_spec L6.h j hdl
      refine hv.impI2 ?_
      rintro n1 n2 w7 ⟨hx7, u7⟩
      have L6 := L6.below u7
      have k1 := k1.up (C := no) (o' := o5) (Up.of_below u7) rfl
      have hbd := hbd.below u7
      have hm := hm.below u7
      have u6 := u6.on u7
      refine ⟨by (repeat' (first | (apply Bx.get0f; apply Blk.bx; assumption; rfl) | (apply Bx.get0f; apply Blk.bx; apply KRep.b; assumption; rfl) | (apply Bx.get0f; assumption; rfl) | (apply Bx.get00; apply Blk.bx; apply KRep.b; assumption; rfl) | (apply Bx.get0; apply Blk.bx; apply KRep.b; assumption; rfl) | (apply Bx.get00; apply Blk.bx; assumption; rfl) | (apply Bx.get00; assumption; rfl) | (apply Bx.getAt; assumption; rfl) | (apply Bx.get0; assumption; rfl) | (apply Bx.get; assumption; rfl) | (apply Bx.get0; apply Blk.bx; assumption; rfl) | (apply Bx.get; apply Blk.bx; assumption; rfl) | apply And.intro)), by (first | (apply Bx.get0f; apply Blk.bx; assumption; rfl) | (apply Bx.get0f; apply Blk.bx; apply KRep.b; assumption; rfl) | (apply Bx.get0f; assumption; rfl) | (apply Bx.get00; apply Blk.bx; apply KRep.b; assumption; rfl) | (apply Bx.get0; apply Blk.bx; apply KRep.b; assumption; rfl) | (apply Bx.get00; apply Blk.bx; assumption; rfl) | (apply Bx.get00; assumption; rfl) | (apply Bx.getAt; assumption; rfl) | (apply Bx.get0; assumption; rfl) | (apply Bx.get; assumption; rfl) | (apply Bx.get0; apply Blk.bx; assumption; rfl) | (apply Bx.get; apply Blk.bx; assumption; rfl)), ?_⟩
      have hno := now_spec L6.h
      refine hno.imp1 ?_
      rintro r w8 ⟨rfl, rfl⟩
      refine ⟨by (repeat' (first | (apply Bx.get0f; apply Blk.bx; assumption; rfl) | (apply Bx.get0f; apply Blk.bx; apply KRep.b; assumption; rfl) | (apply Bx.get0f; assumption; rfl) | (apply Bx.get00; apply Blk.bx; apply KRep.b; assumption; rfl) | (apply Bx.get0; apply Blk.bx; apply KRep.b; assumption; rfl) | (apply Bx.get00; apply Blk.bx; assumption; rfl) | (apply Bx.get00; assumption; rfl) | (apply Bx.getAt; assumption; rfl) | (apply Bx.get0; assumption; rfl) | (apply Bx.get; assumption; rfl) | (apply Bx.get0; apply Blk.bx; assumption; rfl) | (apply Bx.get; apply Blk.bx; assumption; rfl) | apply And.intro)), by (first | (apply Bx.get0f; apply Blk.bx; assumption; rfl) | (apply Bx.get0f; apply Blk.bx; apply KRep.b; assumption; rfl) | (apply Bx.get0f; assumption; rfl) | (apply Bx.get00; apply Blk.bx; apply KRep.b; assumption; rfl) | (apply Bx.get0; apply Blk.bx; apply KRep.b; assumption; rfl) | (apply Bx.get00; apply Blk.bx; assumption; rfl) | (apply Bx.get00; assumption; rfl) | (apply Bx.getAt; assumption; rfl) | (apply Bx.get0; assumption; rfl) | (apply Bx.get; assumption; rfl) | (apply Bx.get0; apply Blk.bx; assumption; rfl) | (apply Bx.get; apply Blk.bx; assumption; rfl)), ?_⟩
      have hst := rstate_spec y ⟨n1, n2⟩ s5.now w8
      refine hst.imp1 ?_
      rintro r w9 ⟨u9, hr⟩
      have L6 := L6.below u9
      have k1 := k1.up (C := no) (o' := o5) (Up.of_below u9) rfl
      have hbd := hbd.below u9
      have hm := hm.below u9
      have u6 := u6.on u9
      refine ⟨by (first | (apply Bx.get0f; apply Blk.bx; assumption; rfl) | (apply Bx.get0f; apply Blk.bx; apply KRep.b; assumption; rfl) | (apply Bx.get0f; assumption; rfl) | (apply Bx.get00; apply Blk.bx; apply KRep.b; assumption; rfl) | (apply Bx.get0; apply Blk.bx; apply KRep.b; assumption; rfl) | (apply Bx.get00; apply Blk.bx; assumption; rfl) | (apply Bx.get00; assumption; rfl) | (apply Bx.getAt; assumption; rfl) | (apply Bx.get0; assumption; rfl) | (apply Bx.get; assumption; rfl) | (apply Bx.get0; apply Blk.bx; assumption; rfl) | (apply Bx.get; apply Blk.bx; assumption; rfl)), If_eq (fun e => ?_) fun _ => ⟨⟨j + 1, by omega, by omega, u6⟩, hme'⟩⟩
      have hon := hr e
      refine k1.bx.ld (x := m.p.devices) rfl (RL.at' hm.D rfl hy fun be fe hae hbe => ?_)
      have hadr : (⟨be, fe, none⟩ : Addr).add (Int.toNat (j : Int) * 7) = ⟨be, fe + j * 7, none⟩ := by rw [Addr.add_mk, Int.toNat_natCast]
      have hbe : Bx w9 be (fe + j * 7) y.l := hbe
      rw [hadr]
      refine Ld_of (x := y.on) (hbe.getAt rfl) ?_
      have hsp := spent_spec L6.h (by rw [L6.iv.X, L6.iv.D]) L6.iv.D j hdl
      refine hsp.imp1 ?_
      rintro r w10 ⟨⟨x2, p2, e2, he2, hx2, hp2, rfl⟩, u10⟩
      rw [hD, hy] at he2
      cases he2
      rw [hx7] at hx2
      cases hx2
      have L6 := L6.below u10
      have k1 := k1.up (C := no) (o' := o5) (Up.of_below u10) rfl
      have hbd := hbd.below u10
      have hbe := hbe.below u10
      have u6 := u6.on u10
      refine ⟨by rw [Addr.add_mk, Addr.add_mk]; exact hbe.cell 0 _ rfl, by (first | (apply Bx.get0f; apply Blk.bx; assumption; rfl) | (apply Bx.get0f; apply Blk.bx; apply KRep.b; assumption; rfl) | (apply Bx.get0f; assumption; rfl) | (apply Bx.get00; apply Blk.bx; apply KRep.b; assumption; rfl) | (apply Bx.get0; apply Blk.bx; apply KRep.b; assumption; rfl) | (apply Bx.get00; apply Blk.bx; assumption; rfl) | (apply Bx.get00; assumption; rfl) | (apply Bx.getAt; assumption; rfl) | (apply Bx.get0; assumption; rfl) | (apply Bx.get; assumption; rfl) | (apply Bx.get0; apply Blk.bx; assumption; rfl) | (apply Bx.get; apply Blk.bx; assumption; rfl)), by (repeat' (first | (apply Bx.get0f; apply Blk.bx; assumption; rfl) | (apply Bx.get0f; apply Blk.bx; apply KRep.b; assumption; rfl) | (apply Bx.get0f; assumption; rfl) | (apply Bx.get00; apply Blk.bx; apply KRep.b; assumption; rfl) | (apply Bx.get0; apply Blk.bx; apply KRep.b; assumption; rfl) | (apply Bx.get00; apply Blk.bx; assumption; rfl) | (apply Bx.get00; assumption; rfl) | (apply Bx.getAt; assumption; rfl) | (apply Bx.get0; assumption; rfl) | (apply Bx.get; assumption; rfl) | (apply Bx.get0; apply Blk.bx; assumption; rfl) | (apply Bx.get; apply Blk.bx; assumption; rfl) | apply And.intro)), by (first | (apply Bx.get0f; apply Blk.bx; assumption; rfl) | (apply Bx.get0f; apply Blk.bx; apply KRep.b; assumption; rfl) | (apply Bx.get0f; assumption; rfl) | (apply Bx.get00; apply Blk.bx; apply KRep.b; assumption; rfl) | (apply Bx.get0; apply Blk.bx; apply KRep.b; assumption; rfl) | (apply Bx.get00; apply Blk.bx; assumption; rfl) | (apply Bx.get00; assumption; rfl) | (apply Bx.getAt; assumption; rfl) | (apply Bx.get0; assumption; rfl) | (apply Bx.get; assumption; rfl) | (apply Bx.get0; apply Blk.bx; assumption; rfl) | (apply Bx.get; apply Blk.bx; assumption; rfl)), ?_⟩
      have hno := now_spec L6.h
      refine hno.imp1 ?_
      rintro r w11 ⟨rfl, rfl⟩
      refine ⟨by rw [Addr.add_mk, Addr.add_mk]; exact hbe.cell 0 _ rfl, by (first | (apply Bx.get0f; apply Blk.bx; assumption; rfl) | (apply Bx.get0f; apply Blk.bx; apply KRep.b; assumption; rfl) | (apply Bx.get0f; assumption; rfl) | (apply Bx.get00; apply Blk.bx; apply KRep.b; assumption; rfl) | (apply Bx.get0; apply Blk.bx; apply KRep.b; assumption; rfl) | (apply Bx.get00; apply Blk.bx; assumption; rfl) | (apply Bx.get00; assumption; rfl) | (apply Bx.getAt; assumption; rfl) | (apply Bx.get0; assumption; rfl) | (apply Bx.get; assumption; rfl) | (apply Bx.get0; apply Blk.bx; assumption; rfl) | (apply Bx.get; apply Blk.bx; assumption; rfl)), by (repeat' (first | (apply Bx.get0f; apply Blk.bx; assumption; rfl) | (apply Bx.get0f; apply Blk.bx; apply KRep.b; assumption; rfl) | (apply Bx.get0f; assumption; rfl) | (apply Bx.get00; apply Blk.bx; apply KRep.b; assumption; rfl) | (apply Bx.get0; apply Blk.bx; apply KRep.b; assumption; rfl) | (apply Bx.get00; apply Blk.bx; assumption; rfl) | (apply Bx.get00; assumption; rfl) | (apply Bx.getAt; assumption; rfl) | (apply Bx.get0; assumption; rfl) | (apply Bx.get; assumption; rfl) | (apply Bx.get0; apply Blk.bx; assumption; rfl) | (apply Bx.get; apply Blk.bx; assumption; rfl) | apply And.intro)), by (first | (apply Bx.get0f; apply Blk.bx; assumption; rfl) | (apply Bx.get0f; apply Blk.bx; apply KRep.b; assumption; rfl) | (apply Bx.get0f; assumption; rfl) | (apply Bx.get00; apply Blk.bx; apply KRep.b; assumption; rfl) | (apply Bx.get0; apply Blk.bx; apply KRep.b; assumption; rfl) | (apply Bx.get00; apply Blk.bx; assumption; rfl) | (apply Bx.get00; assumption; rfl) | (apply Bx.getAt; assumption; rfl) | (apply Bx.get0; assumption; rfl) | (apply Bx.get; assumption; rfl) | (apply Bx.get0; apply Blk.bx; assumption; rfl) | (apply Bx.get; apply Blk.bx; assumption; rfl)), ?_⟩
      have hnow := L6.iv.now
      have hdo := (dv j y ⟨n1, n2⟩ p2 (by rw [hD]; exact hy) hx7 hp2).on_le (t.dev j y hy) hnow.1 hnow.2 hon
      have hao := t.dev j y hy
      obtain ⟨_, _, _, _, k5, _⟩ := hao
      have hmu := mul_in k5.1 k5.2 hnow.1 hnow.2
      rw [hdo.1, wz_id (x := y.on * s5.now) (by omega) (by omega)]
      exact If_d (c := p2 + energyZ y ⟨n1, n2⟩ s5.now > y.on * s5.now) (fun h => absurd h (Int.not_lt.2 hdo.2.2)) fun _ => ⟨⟨j + 1, by omega, by omega, u6⟩, hme'⟩
    · exact ⟨⟨k + 1, by omega, by omega, o5, q5, s5, L6, dv, hs.up (C := no) (o' := o5) (Up.of_below u6) rfl, k1, hm⟩, hme⟩
  · have ha := answers_below v
    refine ha.imp1 ?_
    rintro b w7 ⟨rfl, u7⟩
    exact ⟨rfl, o3, u1.of_no.trans (L.below u7).U⟩
end Go.Proofs.YtajilfnceoeaiaaGreat.V
