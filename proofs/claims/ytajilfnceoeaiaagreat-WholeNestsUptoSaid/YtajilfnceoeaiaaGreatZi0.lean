/- Parts of the proof: Propositions of function bodies, printed by a program, How much time there is: slack's value in plain numbers. Plain, How much time there is: slack's value in plain numbers, bounded. Plain, How much time there is, as time passes. Plain, The scheduler's invariant: what there has to be time for. Plain, Parts of the whole: what they are at the least. Plain, A set of tasks for which there is time enou. -/
import Derived.Test.YtajilfnceoeaiaaGreatZa12
set_option linter.unusedVariables false
set_option linter.unusedSimpArgs false
/- Propositions of function bodies, printed by a program. -/
namespace Go.Proofs.YtajilfnceoeaiaaGreat.V
open Go
set_option linter.unusedVariables false
set_option maxRecDepth 100000
theorem f4_of (p : Plat) (steps : Sl) {K : Bool → World → Prop} {w : World} (vc :
 New [.slice p.levels.a p.levels.n p.levels.c, .slice p.sleeps.a p.sleeps.n p.sleeps.c, .slice p.devices.a p.devices.n p.devices.c, .int .i64 p.idle, .int .i64 p.crit, .int .i64 p.switch, .int .i64 p.switchE, .int .i64 p.sems, .int .i64 p.horizon] 26 (fun a1 w =>
 LdN shPlat.cs 0 a1 (fun s2 s3 s4 n5 n6 n7 n8 n9 n10 w =>
 Call P 11 [.agg #[.slice s2.a s2.n s2.c, .slice s3.a s3.n s3.c, .slice s4.a s4.n s4.c, .int .i64 n5, .int .i64 n6, .int .i64 n7, .int .i64 n8, .int .i64 n9, .int .i64 n10]] [sP] (fun p11 w =>
 If (Option.isNone p11) (
 LdN shPlat.cs 0 a1 (fun s12 s13 s14 n15 n16 n17 n18 n19 n20 w =>
 Call P 12 [.agg #[.slice s12.a s12.n s12.c, .slice s13.a s13.n s13.c, .slice s14.a s14.n s14.c, .int .i64 n15, .int .i64 n16, .int .i64 n17, .int .i64 n18, .int .i64 n19, .int .i64 n20]] [sB] (fun b21 w =>
 K b21 w) w) w) (
 ∃ (I23 : Int → World → Prop) (M24 : Int → World → Nat), I23 0 w ∧ ∀ (n22 : Int) (v25 : World), I23 n22 v25 → ∀ _ : Nat → Value,
 (fun w : World =>
 If (decide (n22 < ((steps.n : Nat) : Int))) (
 ((0 : Int) ≤ n22 ∧ n22 < ((steps.n : Nat) : Int)) ∧ WithAddr steps.a fun a26 =>
 LdN shStep.cs 0 (a26.add (Int.toNat n22 * 8)) (fun n27 n28 n29 n30 n31 n32 s33 s34 w =>
 Call P 13 [.pointer p11, .agg #[.int .i64 n27, .int .i64 n28, .int .i64 n29, .int .i64 n30, .int .i64 n31, .int .i64 n32, .slice s33.a s33.n s33.c, .slice s34.a s34.n s34.c]] [sI, sI] (fun n35 n36 w =>
 Call P 17 [.pointer p11] [sS] (fun s37 w =>
 ∃ (I39 : Int → World → Prop) (M40 : Int → World → Nat), I39 0 w ∧ ∀ (n38 : Int) (v41 : World), I39 n38 v41 → ∀ _ : Nat → Value,
 (fun w : World =>
 If (decide (n38 < ((s37.n : Nat) : Int))) (
 (fun w : World =>
 ((0 : Int) ≤ n38 ∧ n38 < ((s37.n : Nat) : Int)) ∧ WithAddr s37.a fun a42 =>
 Ld (.ki .i64) ((a42.add (Int.toNat n38 * 6)).add 2) (fun n43 w =>
 Call P 14 [.pointer p11] [sI] (fun n44 w =>
 (w.cell? (((a42.add (Int.toNat n38 * 6)).add 2).add 0) = some (.int .i64 n43)) ∧ If (decide (n43 ≤ n44)) (
 K false w) (
 I39 (IntKind.wrap .i64 (n38 + 1)) w ∧ M40 (IntKind.wrap .i64 (n38 + 1)) w < M40 n38 v41)) w) w) w.drew) (
 I23 (IntKind.wrap .i64 (n22 + 1)) w ∧ M24 (IntKind.wrap .i64 (n22 + 1)) w < M24 n22 v25)) v41) w) w) w) (
 Call P 16 [.pointer p11] [sS] (fun s45 w =>
 ∃ (I49 : Int → Int → Int → World → Prop) (M50 : Int → Int → Int → World → Nat), I49 0 0 0 w ∧ ∀ (n46 : Int) (n47 : Int) (n48 : Int) (v51 : World), I49 n46 n47 n48 v51 → ∀ _ : Nat → Value,
 (fun w : World =>
 If (decide (n48 < ((s45.n : Nat) : Int))) (
 ((0 : Int) ≤ n48 ∧ n48 < ((s45.n : Nat) : Int)) ∧ WithAddr s45.a fun a52 =>
 Ld (.ki .i64) ((a52.add (Int.toNat n48 * 4)).add 0) (fun n53 w =>
 If (n53 == 1) (
 ((0 : Int) ≤ n48 ∧ n48 < ((s45.n : Nat) : Int)) ∧ WithAddr s45.a fun a54 =>
 Ld (.ki .i64) ((a54.add (Int.toNat n48 * 4)).add 0) (fun n55 w =>
 If (n55 == 2) (
 (fun w : World =>
 ((0 : Int) ≤ n48 ∧ n48 < ((s45.n : Nat) : Int)) ∧ WithAddr s45.a fun a56 =>
 Ld (.ki .i64) ((a56.add (Int.toNat n48 * 4)).add 2) (fun n57 w =>
 ((0 : Int) ≤ n48 ∧ n48 < ((s45.n : Nat) : Int)) ∧ WithAddr s45.a fun a58 =>
 Ld (.ki .i64) ((a58.add (Int.toNat n48 * 4)).add 3) (fun n59 w =>
 If (decide (n57 > n59)) (
 K false w) (
 I49 (IntKind.wrap .i64 (n46 + 1)) (IntKind.wrap .i64 (n47 + 1)) (IntKind.wrap .i64 (n48 + 1)) w ∧ M50 (IntKind.wrap .i64 (n46 + 1)) (IntKind.wrap .i64 (n47 + 1)) (IntKind.wrap .i64 (n48 + 1)) w < M50 n46 n47 n48 v51)) w) w) w.drew) (
 ((0 : Int) ≤ n48 ∧ n48 < ((s45.n : Nat) : Int)) ∧ WithAddr s45.a fun a60 =>
 Ld (.ki .i64) ((a60.add (Int.toNat n48 * 4)).add 0) (fun n61 w =>
 If (n61 == 3) (
 (fun w : World =>
 ((0 : Int) ≤ n48 ∧ n48 < ((s45.n : Nat) : Int)) ∧ WithAddr s45.a fun a62 =>
 Ld (.ki .i64) ((a62.add (Int.toNat n48 * 4)).add 2) (fun n63 w =>
 ((0 : Int) ≤ n48 ∧ n48 < ((s45.n : Nat) : Int)) ∧ WithAddr s45.a fun a64 =>
 Ld (.ki .i64) ((a64.add (Int.toNat n48 * 4)).add 3) (fun n65 w =>
 If (decide (n63 > n65)) (
 K false w) (
 I49 (IntKind.wrap .i64 (n46 + 1)) (IntKind.wrap .i64 (n47 + 1)) (IntKind.wrap .i64 (n48 + 1)) w ∧ M50 (IntKind.wrap .i64 (n46 + 1)) (IntKind.wrap .i64 (n47 + 1)) (IntKind.wrap .i64 (n48 + 1)) w < M50 n46 n47 n48 v51)) w) w) w.drew) (
 I49 (IntKind.wrap .i64 (n46 + 1)) n47 (IntKind.wrap .i64 (n48 + 1)) w ∧ M50 (IntKind.wrap .i64 (n46 + 1)) n47 (IntKind.wrap .i64 (n48 + 1)) w < M50 n46 n47 n48 v51)) w)) w) (
 ((0 : Int) ≤ n48 ∧ n48 < ((s45.n : Nat) : Int)) ∧ WithAddr s45.a fun a66 =>
 Ld (.ki .i64) ((a66.add (Int.toNat n48 * 4)).add 0) (fun n67 w =>
 If (n67 == 2) (
 (fun w : World =>
 ((0 : Int) ≤ n48 ∧ n48 < ((s45.n : Nat) : Int)) ∧ WithAddr s45.a fun a68 =>
 Ld (.ki .i64) ((a68.add (Int.toNat n48 * 4)).add 2) (fun n69 w =>
 ((0 : Int) ≤ n48 ∧ n48 < ((s45.n : Nat) : Int)) ∧ WithAddr s45.a fun a70 =>
 Ld (.ki .i64) ((a70.add (Int.toNat n48 * 4)).add 3) (fun n71 w =>
 If (decide (n69 > n71)) (
 K false w) (
 I49 n46 (IntKind.wrap .i64 (n47 + 1)) (IntKind.wrap .i64 (n48 + 1)) w ∧ M50 n46 (IntKind.wrap .i64 (n47 + 1)) (IntKind.wrap .i64 (n48 + 1)) w < M50 n46 n47 n48 v51)) w) w) w.drew) (
 ((0 : Int) ≤ n48 ∧ n48 < ((s45.n : Nat) : Int)) ∧ WithAddr s45.a fun a72 =>
 Ld (.ki .i64) ((a72.add (Int.toNat n48 * 4)).add 0) (fun n73 w =>
 If (n73 == 3) (
 (fun w : World =>
 ((0 : Int) ≤ n48 ∧ n48 < ((s45.n : Nat) : Int)) ∧ WithAddr s45.a fun a74 =>
 Ld (.ki .i64) ((a74.add (Int.toNat n48 * 4)).add 2) (fun n75 w =>
 ((0 : Int) ≤ n48 ∧ n48 < ((s45.n : Nat) : Int)) ∧ WithAddr s45.a fun a76 =>
 Ld (.ki .i64) ((a76.add (Int.toNat n48 * 4)).add 3) (fun n77 w =>
 If (decide (n75 > n77)) (
 K false w) (
 I49 n46 (IntKind.wrap .i64 (n47 + 1)) (IntKind.wrap .i64 (n48 + 1)) w ∧ M50 n46 (IntKind.wrap .i64 (n47 + 1)) (IntKind.wrap .i64 (n48 + 1)) w < M50 n46 n47 n48 v51)) w) w) w.drew) (
 I49 n46 n47 (IntKind.wrap .i64 (n48 + 1)) w ∧ M50 n46 n47 (IntKind.wrap .i64 (n48 + 1)) w < M50 n46 n47 n48 v51)) w)) w)) w) (
 Call P 15 [] [sB] (fun b78 w =>
 If b78 (
 Call P 17 [.pointer p11] [sS] (fun s79 w =>
 K (n46 == (IntKind.wrap .i64 (n47 + ((s79.n : Nat) : Int)))) w) w) (
 K false w)) w)) v51) w)) v25)) w) w) w) : Call P 4 [p.v, .slice steps.a steps.n steps.c] [sB] K w :=
  call_of (H := ⟨[(5, [(6, .ki .i64)]), (10, [(8, .ki .i64)]), (17, [(10, .ki .i64), (11, .ki .i64), (12, .ki .i64)])], [], [(12, .take 0 (.take 1 (.take 2 (.take 3 (.take 4 (.take 5 (.run 6 (.take 7 .done)))))))), (23, .take 0 (.take 1 (.take 2 (.take 3 (.take 4 (.take 5 (.take 6 (.take 7 (.take 8 (.take 9 (.take 10 .done)))))))))))], []⟩) Tryz.func4 (by kernel_rfl) (by kernel_rfl) vc

theorem f28_of (l : Sl) (task : Int) {K : Int → Int → Int → Int → Int → Bool → Bool → World → Prop} {w : World} (vc :
 New [.int .i64 0, .int .i64 0, .int .i64 0, .int .i64 0, .int .i64 0, .bool false] 50 (fun a1 w =>
 ∃ (I3 : Int → World → Prop) (M4 : Int → World → Nat), I3 0 w ∧ ∀ (n2 : Int) (v5 : World), I3 n2 v5 → ∀ _ : Nat → Value,
 (fun w : World =>
 If (decide (n2 < ((l.n : Nat) : Int))) (
 ((0 : Int) ≤ n2 ∧ n2 < ((l.n : Nat) : Int)) ∧ WithAddr l.a fun a6 =>
 Ld (.ki .i64) ((a6.add (Int.toNat n2 * 6)).add 0) (fun n7 w =>
 If (n7 == task) (
 ((0 : Int) ≤ n2 ∧ n2 < ((l.n : Nat) : Int)) ∧ WithAddr l.a fun a8 =>
 LdN shJob.cs 0 (a8.add (Int.toNat n2 * 6)) (fun n9 n10 n11 n12 n13 b14 w =>
 StN [.int .i64 n9, .int .i64 n10, .int .i64 n11, .int .i64 n12, .int .i64 n13, .bool b14] 0 a1 (fun w =>
 LdN shJob.cs 0 a1 (fun n15 n16 n17 n18 n19 b20 w =>
 K n15 n16 n17 n18 n19 b20 true w) w) w) w) (
 I3 (IntKind.wrap .i64 (n2 + 1)) w ∧ M4 (IntKind.wrap .i64 (n2 + 1)) w < M4 n2 v5)) w) (
 StN [.int .i64 0, .int .i64 0, .int .i64 0, .int .i64 0, .int .i64 0, .bool false] 0 a1 (fun w =>
 LdN shJob.cs 0 a1 (fun n21 n22 n23 n24 n25 b26 w =>
 K n21 n22 n23 n24 n25 b26 false w) w) w)) v5) w) : Call P 28 [.slice l.a l.n l.c, .int .i64 task] [shJob, sB] K w :=
  call_of (H := ⟨[(2, [(6, .ki .i64)])], [], [], []⟩) Tryz.func28 (by kernel_rfl) (by kernel_rfl) vc

theorem f8_of (p : Plat) (steps : Sl) {K : Bool → World → Prop} {w : World} (vc :
 New [.slice p.levels.a p.levels.n p.levels.c, .slice p.sleeps.a p.sleeps.n p.sleeps.c, .slice p.devices.a p.devices.n p.devices.c, .int .i64 p.idle, .int .i64 p.crit, .int .i64 p.switch, .int .i64 p.switchE, .int .i64 p.sems, .int .i64 p.horizon] 26 (fun a1 w =>
 LdN shPlat.cs 0 a1 (fun s2 s3 s4 n5 n6 n7 n8 n9 n10 w =>
 Call P 11 [.agg #[.slice s2.a s2.n s2.c, .slice s3.a s3.n s3.c, .slice s4.a s4.n s4.c, .int .i64 n5, .int .i64 n6, .int .i64 n7, .int .i64 n8, .int .i64 n9, .int .i64 n10]] [sP] (fun p11 w =>
 If (Option.isNone p11) (
 LdN shPlat.cs 0 a1 (fun s12 s13 s14 n15 n16 n17 n18 n19 n20 w =>
 Call P 12 [.agg #[.slice s12.a s12.n s12.c, .slice s13.a s13.n s13.c, .slice s14.a s14.n s14.c, .int .i64 n15, .int .i64 n16, .int .i64 n17, .int .i64 n18, .int .i64 n19, .int .i64 n20]] [sB] (fun b21 w =>
 K b21 w) w) w) (
 ∃ (I23 : Int → World → Prop) (M24 : Int → World → Nat), I23 0 w ∧ ∀ (n22 : Int) (v25 : World), I23 n22 v25 → ∀ _ : Nat → Value,
 (fun w : World =>
 If (decide (n22 < ((steps.n : Nat) : Int))) (
 ((0 : Int) ≤ n22 ∧ n22 < ((steps.n : Nat) : Int)) ∧ WithAddr steps.a fun a26 =>
 LdN shStep.cs 0 (a26.add (Int.toNat n22 * 8)) (fun n27 n28 n29 n30 n31 n32 s33 s34 w =>
 Call P 13 [.pointer p11, .agg #[.int .i64 n27, .int .i64 n28, .int .i64 n29, .int .i64 n30, .int .i64 n31, .int .i64 n32, .slice s33.a s33.n s33.c, .slice s34.a s34.n s34.c]] [sI, sI] (fun n35 n36 w =>
 Call P 17 [.pointer p11] [sS] (fun s37 w =>
 Call P 26 [.pointer p11] [sS] (fun s38 w =>
 Call P 27 [.pointer p11] [sS] (fun s39 w =>
 ∃ (I42 : Int → Int → World → Prop) (M43 : Int → Int → World → Nat), I42 0 0 w ∧ ∀ (n40 : Int) (n41 : Int) (v44 : World), I42 n40 n41 v44 → ∀ _ : Nat → Value,
 (fun w : World =>
 If (decide (n41 < ((s37.n : Nat) : Int))) (
 ((0 : Int) ≤ n41 ∧ n41 < ((s37.n : Nat) : Int)) ∧ WithAddr s37.a fun a45 =>
 Ld (.kb) ((a45.add (Int.toNat n41 * 6)).add 5) (fun b46 w =>
 If b46 (
 I42 (IntKind.wrap .i64 (n40 + 1)) (IntKind.wrap .i64 (n41 + 1)) w ∧ M43 (IntKind.wrap .i64 (n40 + 1)) (IntKind.wrap .i64 (n41 + 1)) w < M43 n40 n41 v44) (
 I42 n40 (IntKind.wrap .i64 (n41 + 1)) w ∧ M43 n40 (IntKind.wrap .i64 (n41 + 1)) w < M43 n40 n41 v44)) w) (
 New [.int .i64 0, .int .i64 0, .int .i64 0, .int .i64 0, .int .i64 0, .bool false] 50 (fun a47 w =>
 StN [.int .i64 0, .int .i64 0, .int .i64 0, .int .i64 0, .int .i64 0, .bool false] 0 a47 (fun w =>
 ∃ (I49 : Int → World → Prop) (M50 : Int → World → Nat), I49 0 w ∧ ∀ (n48 : Int) (v51 : World), I49 n48 v51 → ∀ _ : Nat → Value,
 (fun w : World =>
 If (decide (n48 < ((s38.n : Nat) : Int))) (
 ((0 : Int) ≤ n48 ∧ n48 < ((s38.n : Nat) : Int)) ∧ WithAddr s38.a fun a52 =>
 Ld (.ki .i64) (a52.add (Int.toNat n48 * 1)) (fun n53 w =>
 Call P 28 [.slice s37.a s37.n s37.c, .int .i64 n53] [shJob, sB] (fun n54 n55 n56 n57 n58 b59 b60 w =>
 New [.int .i64 0, .int .i64 0, .int .i64 0, .int .i64 0, .int .i64 0, .bool false] 50 (fun a61 w =>
 StN [.int .i64 n54, .int .i64 n55, .int .i64 n56, .int .i64 n57, .int .i64 n58, .bool b59] 0 a61 (fun w =>
 If (!b60) (
 K false w) (
 Ld (.kb) (a61.add 5) (fun b62 w =>
 If (!b62) (
 K false w) (
 If (decide (n48 > 0)) (
 Ld (.ki .i64) (a61.add 2) (fun n63 w =>
 Ld (.ki .i64) (a47.add 2) (fun n64 w =>
 If (decide (n63 > n64)) (
 K false w) (
 Ld (.ki .i64) (a61.add 2) (fun n65 w =>
 Ld (.ki .i64) (a47.add 2) (fun n66 w =>
 If (n65 == n66) (
 Ld (.ki .i64) (a61.add 0) (fun n67 w =>
 Ld (.ki .i64) (a47.add 0) (fun n68 w =>
 If (decide (n67 > n68)) (
 K false w) (
 LdN shJob.cs 0 a61 (fun n69 n70 n71 n72 n73 b74 w =>
 StN [.int .i64 n69, .int .i64 n70, .int .i64 n71, .int .i64 n72, .int .i64 n73, .bool b74] 0 a47 (fun w =>
 I49 (IntKind.wrap .i64 (n48 + 1)) w ∧ M50 (IntKind.wrap .i64 (n48 + 1)) w < M50 n48 v51) w) w)) w) w) (
 LdN shJob.cs 0 a61 (fun n75 n76 n77 n78 n79 b80 w =>
 StN [.int .i64 n75, .int .i64 n76, .int .i64 n77, .int .i64 n78, .int .i64 n79, .bool b80] 0 a47 (fun w =>
 I49 (IntKind.wrap .i64 (n48 + 1)) w ∧ M50 (IntKind.wrap .i64 (n48 + 1)) w < M50 n48 v51) w) w)) w) w)) w) w) (
 LdN shJob.cs 0 a61 (fun n81 n82 n83 n84 n85 b86 w =>
 StN [.int .i64 n81, .int .i64 n82, .int .i64 n83, .int .i64 n84, .int .i64 n85, .bool b86] 0 a47 (fun w =>
 I49 (IntKind.wrap .i64 (n48 + 1)) w ∧ M50 (IntKind.wrap .i64 (n48 + 1)) w < M50 n48 v51) w) w))) w)) w) w) w) w) (
 ∃ (I88 : Int → World → Prop) (M89 : Int → World → Nat), I88 0 w ∧ ∀ (n87 : Int) (v90 : World), I88 n87 v90 → ∀ _ : Nat → Value,
 (fun w : World =>
 If (decide (n87 < ((s39.n : Nat) : Int))) (
 ((0 : Int) ≤ n87 ∧ n87 < ((s39.n : Nat) : Int)) ∧ WithAddr s39.a fun a91 =>
 Ld (.ki .i64) ((a91.add (Int.toNat n87 * 3)).add 0) (fun n92 w =>
 Call P 28 [.slice s37.a s37.n s37.c, .int .i64 n92] [shJob, sB] (fun n93 n94 n95 n96 n97 b98 b99 w =>
 New [.int .i64 0, .int .i64 0, .int .i64 0, .int .i64 0, .int .i64 0, .bool false] 50 (fun a100 w =>
 StN [.int .i64 n93, .int .i64 n94, .int .i64 n95, .int .i64 n96, .int .i64 n97, .bool b98] 0 a100 (fun w =>
 If (!b99) (
 K false w) (
 Ld (.kb) (a100.add 5) (fun b101 w =>
 If (!b101) (
 K false w) (
 I88 (IntKind.wrap .i64 (n87 + 1)) w ∧ M89 (IntKind.wrap .i64 (n87 + 1)) w < M89 n87 v90)) w)) w) w) w) w) (
 If (n40 != ((s38.n : Nat) : Int)) (
 K false w) (
 I23 (IntKind.wrap .i64 (n22 + 1)) w ∧ M24 (IntKind.wrap .i64 (n22 + 1)) w < M24 n22 v25))) v90)) v51) w) w)) v44) w) w) w) w) w) (
 Call P 15 [] [sB] (fun b102 w =>
 K b102 w) w)) v25)) w) w) w) : Call P 8 [p.v, .slice steps.a steps.n steps.c] [sB] K w :=
  call_of (H := ⟨[(5, [(6, .ki .i64)]), (11, [(10, .ki .i64), (11, .ki .i64)]), (17, [(13, .ki .i64)]), (24, [(16, .ki .i64)])], [], [], []⟩) Tryz.func8 (by kernel_rfl) (by kernel_rfl) vc

end Go.Proofs.YtajilfnceoeaiaaGreat.V
/- How much time there is: slack's value in plain numbers. Plain. -/
namespace Go.Proofs.YtajilfnceoeaiaaGreat.V
open Go Go.RowKit Enc
set_option maxRecDepth 100000
def sum6 (f : Nat → Int) : Int := f 0 + f 1 + f 2 + f 3 + f 4 + f 5
theorem sum6_le {f g : Nat → Int} (h : ∀ k, k < 6 → f k ≤ g k) : sum6 f ≤ sum6 g := by
  have h0 := h 0 (by decide)
  have h1 := h 1 (by decide)
  have h2 := h 2 (by decide)
  have h3 := h 3 (by decide)
  have h4 := h 4 (by decide)
  have h5 := h 5 (by decide)
  unfold sum6
  omega
theorem sum6_add (f g : Nat → Int) : sum6 (fun k => f k + g k) = sum6 f + sum6 g := by
  simp only [sum6]
  omega
theorem sum6_one {n : Nat} (hn : n < 6) (c : Int) : sum6 (fun k => if n = k then c else 0) = c := by
  have : n = 0 ∨ n = 1 ∨ n = 2 ∨ n = 3 ∨ n = 4 ∨ n = 5 := by omega
  rcases this with rfl | rfl | rfl | rfl | rfl | rfl <;> simp [sum6]
/-- One term grows by so much at the least, the others do not fall. -/
theorem sum6_at {f g : Nat → Int} {n : Nat} (hn : n < 6) {c : Int} (h : ∀ k, k < 6 → k ≠ n → f k ≤ g k) (hc : f n + c ≤ g n) : sum6 f + c ≤ sum6 g := by
  have e : sum6 f + c = sum6 (fun k => f k + (if n = k then c else 0)) := by rw [sum6_add, sum6_one hn]
  rw [e]
  refine sum6_le fun k hk => ?_
  by_cases hkn : n = k
  · subst hkn
    rw [if_pos rfl]
    exact hc
  · rw [if_neg hkn, Int.add_zero]
    exact h k hk (Ne.symm hkn)
/-- The sum over a list, parted by tasks. -/
def sumL (g : Job → Int) (L : List Job) : Int := L.foldl (fun a x => a + g x) 0
theorem foldl_add (g : Job → Int) : ∀ (L : List Job) (a : Int), L.foldl (fun a x => a + g x) a = a + sumL g L
  | [], a => by simp [sumL]
  | x :: L, a => by
    unfold sumL
    rw [List.foldl_cons, foldl_add g L, List.foldl_cons, foldl_add g L]
    omega
theorem sumL_cons (g : Job → Int) (x : Job) (L : List Job) : sumL g (x :: L) = g x + sumL g L := by
  unfold sumL
  rw [List.foldl_cons, foldl_add]
  unfold sumL
  omega
theorem sumL_parts (g : Job → Int) : ∀ (L : List Job), (∀ x ∈ L, 0 ≤ x.task ∧ x.task < 6) → sumL g L = sum6 (fun k => sumL g (L.filter fun x => x.task == (k : Int)))
  | [], _ => by simp [sumL, sum6]
  | x :: L, h => by
    obtain ⟨h0, h6⟩ := h x (.head _)
    obtain ⟨n, hn⟩ : ∃ n : Nat, x.task = n := ⟨x.task.toNat, by omega⟩
    rw [sumL_cons, sumL_parts g L fun y hy => h y (.tail _ hy)]
    have e : (fun k : Nat => sumL g ((x :: L).filter fun x => x.task == (k : Int))) = fun k : Nat => (if n = k then g x else 0) + sumL g (L.filter fun x => x.task == (k : Int)) := by
      funext k
      rw [List.filter_cons]
      by_cases hk : n = k
      · subst hk
        rw [if_pos rfl, if_pos (by simp [hn]), sumL_cons]
      · rw [if_neg hk, if_neg (by simp [hn]; omega), Int.zero_add]
    rw [e, sum6_add, sum6_one (by omega)]
theorem sumL_nonneg {g : Job → Int} (hg : ∀ x, 0 ≤ g x) : ∀ L, 0 ≤ sumL g L
  | [] => Int.le_refl _
  | x :: L => by
    rw [sumL_cons]
    have := sumL_nonneg hg L
    have := hg x
    omega
theorem sumL_ge {g : Job → Int} (hg : ∀ x, 0 ≤ g x) : ∀ {L : List Job} {x : Job}, x ∈ L → g x ≤ sumL g L
  | y :: L, x, h => by
    rw [sumL_cons]
    rcases List.mem_cons.1 h with rfl | h
    · have := sumL_nonneg hg L
      omega
    · have := sumL_ge hg h
      have := hg y
      omega
/-- All jobs that there are are in the list. -/
theorem sumL_jobs {g : Job → Int} (hg : ∀ x, 0 ≤ g x) {f : Int → Option Job} {L : List Job} (hL : ListOf f L) (h6 : ∀ k x, f k = some x → x.task = k ∧ 0 ≤ k ∧ k < 6) :
    sum6 (fun k => match f k with | some x => g x | none => 0) ≤ sumL g L := by
  rw [sumL_parts g L fun x hx => by
    have := h6 _ _ ((hL.iff x).1 hx)
    omega]
  refine sum6_le fun k hk => ?_
  cases hf : f k with
  | none => exact sumL_nonneg hg _
  | some x =>
    have hxk := (h6 _ _ hf).1
    refine sumL_ge hg ?_
    rw [List.mem_filter]
    refine ⟨(hL.iff x).2 (by rw [hxk]; exact hf), by simp [hxk]⟩
end Go.Proofs.YtajilfnceoeaiaaGreat.V
/- How much time there is: slack's value in plain numbers, bounded. Plain. -/
namespace Go.Proofs.YtajilfnceoeaiaaGreat.V
open Go Go.RowKit Enc
set_option maxRecDepth 100000
def pos (x : Int) : Int := if 0 > x then 0 else x
theorem pos_ge (x : Int) : 0 ≤ pos x := by
  unfold pos
  by_cases h : 0 > x
  · rw [if_pos h]; omega
  · rw [if_neg h]; omega
theorem pos_mono {x y : Int} (h : x ≤ y) : pos x ≤ pos y := by
  unfold pos
  by_cases h1 : 0 > x <;> by_cases h2 : 0 > y
  · rw [if_pos h1, if_pos h2]; omega
  · rw [if_pos h1, if_neg h2]; omega
  · rw [if_neg h1, if_pos h2]; omega
  · rw [if_neg h1, if_neg h2]; exact h
theorem pos_of {x : Int} (h : 0 ≤ x) : pos x = x := if_neg (by omega)
theorem pos_zero {x : Int} (h : x ≤ 0) : pos x = 0 := by
  unfold pos
  by_cases h1 : 0 > x
  · rw [if_pos h1]
  · rw [if_neg h1]; omega
/-- What a job may take yet, at the first level. -/
def QZ (m : Mach) (j : Job) : Int := pos j.left * lev0 m + m.p.switch + (if j.started then 0 else m.p.switch)
def UZ (m : Mach) (T : List ATask) (k : Nat) : Int := if perN T k > 0 then partZ m (tk T k) 0 else 0
/-- From when on a task's next job may come. -/
def fZ (s : KS) (k : Nat) : Int := if (s.lat k).isSome then s.N.getD k 0 else fromZ s.N s.now k
def demJ (m : Mach) (x : Int) : Option Job → Int
  | some j => if j.deadline ≤ x then QZ m j else 0
  | none => 0
/-- What one task asks for up to a moment. -/
def demZ (m : Mach) (s : KS) (x : Int) (k : Nat) : Int := demJ m x (s.jobs k) * 4294967296 + UZ m s.T k * pos (x - fZ s k)
/-- How much there is up to a moment. -/
def DZ (m : Mach) (s : KS) (x : Int) : Int := (x - s.now) * 4294967296 - sum6 (demZ m s x)
theorem wze {x : Int} (h : -9223372036854775808 ≤ x) (k : x ≤ 9223372036854775807) : wz x = x := wz_id h k
/-- Numbers of a machine. -/
structure Mb (m : Mach) : Prop where
  p0 : 1 ≤ lev0 m ∧ lev0 m ≤ 256
  sw : 0 ≤ m.p.switch ∧ m.p.switch ≤ 256
theorem QZ_in {m : Mach} (b : Mb m) {j : Job} (hl : j.left ≤ 4096) : 0 ≤ pos j.left * lev0 m ∧ pos j.left * lev0 m ≤ 1048576 ∧ 0 ≤ QZ m j ∧ QZ m j ≤ 1049088 := by
  have hp := pos_ge j.left
  have hp2 : pos j.left ≤ 4096 := by
    have := pos_mono hl
    rw [pos_of (x := 4096) (by decide)] at this
    exact this
  obtain ⟨h1, h2⟩ := b.p0
  obtain ⟨h3, h4⟩ := b.sw
  have hm : 0 ≤ pos j.left * lev0 m := Int.mul_nonneg hp (by omega)
  have hm2 : pos j.left * lev0 m ≤ 4096 * 256 := Int.mul_le_mul hp2 h2 (by omega) (by decide)
  unfold QZ
  refine ⟨hm, by omega, ?_, ?_⟩
  · cases j.started <;> simp <;> omega
  · cases j.started <;> simp <;> omega
theorem jqZ_eq {m : Mach} (b : Mb m) {j : Job} (hl : j.left ≤ 4096) : jqZ m j = QZ m j := by
  obtain ⟨h1, h2, _, _⟩ := QZ_in b hl
  obtain ⟨h3, h4⟩ := b.sw
  have e : (if 0 > j.left then 0 else j.left) = pos j.left := rfl
  unfold jqZ QZ
  rw [e]
  generalize pos j.left * lev0 m = z at h1 h2
  cases j.started
  · simp only [Bool.false_eq_true, if_false]
    rw [wze (x := z) (by omega) (by omega), wze (x := z + m.p.switch) (by omega) (by omega), wze (by omega) (by omega)]
  · simp only [if_true]
    rw [wze (x := z) (by omega) (by omega), wze (by omega) (by omega), Int.add_zero]
theorem timesZ_eq {u n : Int} (hu : 0 ≤ u ∧ u ≤ 17179869184) (hn : n ≤ 134217728) : timesZ u n = u * pos n := by
  have e1 : clampZ u 0 17179869184 = u := by
    unfold clampZ
    rw [if_neg (show ¬ (0 : Int) > u by omega), if_neg (by omega)]
  have hp := pos_ge n
  have hp2 : pos n ≤ 134217728 := by
    have := pos_mono hn
    rw [pos_of (x := 134217728) (by decide)] at this
    exact this
  have e2 : clampZ n 0 134217728 = pos n := by
    have e : (if (0 : Int) > n then 0 else n) = pos n := rfl
    unfold clampZ
    rw [e, if_neg (by omega)]
  have h1 : 0 ≤ u * pos n := Int.mul_nonneg hu.1 hp
  have h2 : u * pos n ≤ 17179869184 * 134217728 := Int.mul_le_mul hu.2 hp2 hp (by decide)
  unfold timesZ
  rw [e1, e2, wze (by omega) (by omega)]
theorem wholeZ_eq {n : Int} (h0 : -1073741824 ≤ n) (h1 : n ≤ 1073741824) : wholeZ n = n * 4294967296 := by
  have e : clampZ n (-1073741824) 1073741824 = n := by
    unfold clampZ
    by_cases h : (-1073741824 : Int) > n
    · omega
    · rw [if_neg h, if_neg (by omega)]
  have hp : (2 : Int) ^ 32 = 4294967296 := by decide
  unfold wholeZ
  rw [e, hp, wze (by omega) (by omega)]
theorem fold_due {m : Mach} (b : Mb m) (x : Int) : ∀ (L : List Job) (a : Int), (∀ j ∈ L, j.left ≤ 4096) → -1000000000 ≤ a - L.length * 1049088 → a ≤ 1000000000 → L.foldl (dueOne m x) a = a - sumL (fun j => if j.deadline ≤ x then QZ m j else 0) L
  | [], a, _, _, _ => by simp [sumL]
  | j :: L, a, hl, h0, h1 => by
    obtain ⟨_, _, q0, q1⟩ := QZ_in b (hl j (.head _))
    rw [List.length_cons] at h0
    rw [List.foldl_cons, sumL_cons]
    have hd : dueOne m x a j = a - (if j.deadline ≤ x then QZ m j else 0) := by
      unfold dueOne
      by_cases hx : j.deadline ≤ x
      · rw [if_pos hx, if_pos hx, jqZ_eq b (hl j (.head _)), wze (by omega) (by omega)]
      · rw [if_neg hx, if_neg hx, Int.sub_zero]
    have hq : 0 ≤ (if j.deadline ≤ x then QZ m j else 0) ∧ (if j.deadline ≤ x then QZ m j else 0) ≤ 1049088 := by
      by_cases hx : j.deadline ≤ x
      · rw [if_pos hx]; exact ⟨q0, q1⟩
      · rw [if_neg hx]; omega
    rw [hd, fold_due b x L _ (fun y hy => hl y (.tail _ hy)) (by omega) (by omega)]
    omega
theorem come_one {m : Mach} {T : List ATask} {N : List Int} {now x a : Int} {k : Nat} (hU : 0 ≤ UZ m T k ∧ UZ m T k ≤ 4294967296) (hx : -1048576 ≤ x - fromZ N now k ∧ x - fromZ N now k ≤ 1048576) (h0 : -4700000000000000000 ≤ a) (h1 : a ≤ 4700000000000000000) :
    comeOne m T N now x a k = a - UZ m T k * pos (x - fromZ N now k) ∧ 0 ≤ UZ m T k * pos (x - fromZ N now k) ∧ UZ m T k * pos (x - fromZ N now k) ≤ 4503599627370496 := by
  have hp := pos_ge (x - fromZ N now k)
  have hp2 : pos (x - fromZ N now k) ≤ 1048576 := by
    have := pos_mono hx.2
    rw [pos_of (x := 1048576) (by decide)] at this
    exact this
  have q0 : 0 ≤ UZ m T k * pos (x - fromZ N now k) := Int.mul_nonneg hU.1 hp
  have q1 : UZ m T k * pos (x - fromZ N now k) ≤ 4294967296 * 1048576 := Int.mul_le_mul hU.2 hp2 hp (by decide)
  refine ⟨?_, q0, by omega⟩
  unfold comeOne
  by_cases hper : perN T k > 0
  · have hu : UZ m T k = partZ m (tk T k) 0 := if_pos hper
    rw [if_pos hper, ← hu, wze (x := x - fromZ N now k) (by omega) (by omega), timesZ_eq ⟨hU.1, by omega⟩ (by omega), wze (by omega) (by omega)]
  · have hu : UZ m T k = 0 := if_neg hper
    rw [if_neg hper, hu, Int.zero_mul, Int.sub_zero]
theorem fold_come {m : Mach} {T : List ATask} {N : List Int} {now x a : Int} (hT : T.length = 6) (hU : ∀ k, k < 6 → 0 ≤ UZ m T k ∧ UZ m T k ≤ 4294967296) (hx : ∀ k, k < 6 → -1048576 ≤ x - fromZ N now k ∧ x - fromZ N now k ≤ 1048576) (h0 : -4650000000000000000 ≤ a) (h1 : a ≤ 4700000000000000000) :
    (List.range T.length).foldl (comeOne m T N now x) a = a - sum6 (fun k => UZ m T k * pos (x - fromZ N now k)) := by
  rw [hT]
  have hr : List.range 6 = [0, 1, 2, 3, 4, 5] := rfl
  rw [hr]
  simp only [List.foldl_cons, List.foldl_nil, sum6]
  obtain ⟨e0, a0, b0⟩ := come_one (a := a) (hU 0 (by decide)) (hx 0 (by decide)) (by omega) (by omega)
  rw [e0]
  obtain ⟨e1, a1, b1⟩ := come_one (a := a - UZ m T 0 * pos (x - fromZ N now 0)) (hU 1 (by decide)) (hx 1 (by decide)) (by omega) (by omega)
  rw [e1]
  generalize UZ m T 0 * pos (x - fromZ N now 0) = z0 at *
  generalize UZ m T 1 * pos (x - fromZ N now 1) = z1 at *
  obtain ⟨e2, a2, b2⟩ := come_one (a := a - z0 - z1) (hU 2 (by decide)) (hx 2 (by decide)) (by omega) (by omega)
  rw [e2]
  generalize UZ m T 2 * pos (x - fromZ N now 2) = z2 at *
  obtain ⟨e3, a3, b3⟩ := come_one (a := a - z0 - z1 - z2) (hU 3 (by decide)) (hx 3 (by decide)) (by omega) (by omega)
  rw [e3]
  generalize UZ m T 3 * pos (x - fromZ N now 3) = z3 at *
  obtain ⟨e4, a4, b4⟩ := come_one (a := a - z0 - z1 - z2 - z3) (hU 4 (by decide)) (hx 4 (by decide)) (by omega) (by omega)
  rw [e4]
  generalize UZ m T 4 * pos (x - fromZ N now 4) = z4 at *
  obtain ⟨e5, a5, b5⟩ := come_one (a := a - z0 - z1 - z2 - z3 - z4) (hU 5 (by decide)) (hx 5 (by decide)) (by omega) (by omega)
  rw [e5]
  omega
theorem at_eq {m : Mach} (b : Mb m) {T : List ATask} {N : List Int} {L : List Job} {H : List Held} {now x : Int} (hT : T.length = 6) (hU : ∀ k, k < 6 → 0 ≤ UZ m T k ∧ UZ m T k ≤ 4294967296) (hx : ∀ k, k < 6 → -1048576 ≤ x - fromZ N now k ∧ x - fromZ N now k ≤ 1048576)
    (hL : ∀ j ∈ L, j.left ≤ 4096) (hLl : L.length ≤ 8) (hn : -1048576 ≤ x - now ∧ x - now ≤ 1048576) (hh : 0 ≤ hindZ m T N L H now x ∧ hindZ m T N L H now x ≤ 2097152) :
    atZ m T N L H now x = (x - now - hindZ m T N L H now x - sumL (fun j => if j.deadline ≤ x then QZ m j else 0) L) * 4294967296 - sum6 (fun k => UZ m T k * pos (x - fromZ N now k)) := by
  have hb : ∀ (L : List Job), (∀ j ∈ L, j.left ≤ 4096) → 0 ≤ sumL (fun j => if j.deadline ≤ x then QZ m j else 0) L ∧ sumL (fun j => if j.deadline ≤ x then QZ m j else 0) L ≤ L.length * 1049088 := by
    intro L
    induction L with
    | nil => intro _; simp [sumL]
    | cons j L ih =>
      intro hl
      obtain ⟨i0, i1⟩ := ih fun y hy => hl y (.tail _ hy)
      obtain ⟨_, _, q0, q1⟩ := QZ_in b (hl j (.head _))
      rw [sumL_cons, List.length_cons]
      by_cases hx : j.deadline ≤ x
      · simp only [if_pos hx]; omega
      · simp only [if_neg hx]; omega
  obtain ⟨s0, s1⟩ := hb L hL
  unfold atZ
  rw [wze (x := x - now) (by omega) (by omega), wze (x := x - now - hindZ m T N L H now x) (by omega) (by omega), fold_due b x L _ hL (by omega) (by omega), wholeZ_eq (by omega) (by omega), fold_come hT hU hx (by omega) (by omega)]
end Go.Proofs.YtajilfnceoeaiaaGreat.V
/- How much time there is, as time passes. Plain. -/
namespace Go.Proofs.YtajilfnceoeaiaaGreat.V
open Go Go.RowKit Enc
set_option maxRecDepth 100000
section
variable {m : Mach} {s s' : KS}
theorem fromZ_mono {N : List Int} {a b : Int} (h : a ≤ b) (k : Nat) : fromZ N a k ≤ fromZ N b k := by
  unfold fromZ
  by_cases h1 : N.getD k 0 > a <;> by_cases h2 : N.getD k 0 > b
  · rw [if_pos h1, if_pos h2]; exact Int.le_refl _
  · rw [if_pos h1, if_neg h2]; omega
  · rw [if_neg h1, if_pos h2]; omega
  · rw [if_neg h1, if_neg h2]; exact h
theorem fZ_mono (hN : s'.N = s.N) (hl : s'.lat = s.lat) (hn : s.now ≤ s'.now) (k : Nat) : fZ s k ≤ fZ s' k := by
  unfold fZ
  rw [hN, hl]
  by_cases h : (s.lat k).isSome = true
  · rw [if_pos h, if_pos h]; exact Int.le_refl _
  · rw [if_neg h, if_neg h]; exact fromZ_mono hn k
/-- Time passes; one task's job has less to do. -/
theorem DZ_adv (hU : ∀ k, k < 6 → 0 ≤ UZ m s.T k) (hT : s'.T = s.T) (hf : ∀ k, k < 6 → fZ s k ≤ fZ s' k) (x : Int) {n : Nat} (hn : n < 6) {c : Int} (hj : ∀ k : Nat, k < 6 → k ≠ n → s'.jobs k = s.jobs k) (hc : demJ m x (s'.jobs n) + c ≤ demJ m x (s.jobs n)) :
    DZ m s x - (s'.now - s.now) * 4294967296 + c * 4294967296 ≤ DZ m s' x := by
  have hp : ∀ k, k < 6 → UZ m s'.T k * pos (x - fZ s' k) ≤ UZ m s.T k * pos (x - fZ s k) := fun k hk => by
    rw [hT]
    exact Int.mul_le_mul_of_nonneg_left (pos_mono (by have := hf k hk; omega)) (hU k hk)
  have hs : sum6 (demZ m s' x) + c * 4294967296 ≤ sum6 (demZ m s x) := by
    refine sum6_at hn (fun k hk hkn => ?_) ?_
    · have := hp k hk
      unfold demZ
      rw [hj k hk hkn]
      omega
    · have := hp n hn
      unfold demZ
      omega
  unfold DZ
  omega
end
end Go.Proofs.YtajilfnceoeaiaaGreat.V
/- The scheduler's invariant: what there has to be time for. Plain. -/
namespace Go.Proofs.YtajilfnceoeaiaaGreat.V
open Go Go.RowKit Enc
set_option maxRecDepth 100000
/-- May a task have a job that is due up to a moment? -/
def mayP (s : KS) (i : Nat) (x : Int) : Prop := 0 < perN s.T i ∧ ((∃ j, s.jobs i = some j ∧ j.deadline ≤ x) ∨ fZ s i + perN s.T i ≤ x)
def MomZ (s : KS) (x : Int) : Prop := ∃ i, i < 6 ∧ mayP s i x
/-- There is time for what is held by those that are due later. -/
def EhOk (m : Mach) (s : KS) (x d : Int) : Prop :=
  ∀ (p : Nat) (h : Held) (j : Job) (i : Nat), s.held[p]? = some h → s.jobs h.task = some j → x < j.deadline → i < 6 → perN s.T i < perN s.T h.task.toNat → ceilZ s.T h.sem ≤ perN s.T i → mayP s i x →
    ∃ q h', q ≤ p ∧ s.held[q]? = some h' ∧ h'.task = h.task ∧ h'.left * slowZ m * 4294967296 ≤ d
def Ok (m : Mach) (s : KS) (x d : Int) : Prop := 0 ≤ d ∧ EhOk m s x d
section
variable {m : Mach} {s s' : KS} {x d d' : Int}
theorem EhOk.mono (h : EhOk m s x d) (hd : d ≤ d') : EhOk m s x d' := fun p y j i h1 h2 h3 h4 h5 h6 h7 => by
  obtain ⟨q, y', k1, k2, k3, k4⟩ := h p y j i h1 h2 h3 h4 h5 h6 h7
  exact ⟨q, y', k1, k2, k3, Int.le_trans k4 hd⟩
theorem Ok.mono (h : Ok m s x d) (hd : d ≤ d') : Ok m s x d' := ⟨Int.le_trans h.1 hd, h.2.mono hd⟩
end
end Go.Proofs.YtajilfnceoeaiaaGreat.V
/- Parts of the whole: what they are at the least. Plain. -/
namespace Go.Proofs.YtajilfnceoeaiaaGreat.V
open Go Go.RowKit Enc
set_option maxRecDepth 100000
theorem utilZ_ge {c t : Int} (hc : 0 ≤ c ∧ c ≤ 536870912) (ht : 1 ≤ t) : c * 4294967296 ≤ utilZ c t * t ∧ 0 ≤ utilZ c t ∧ utilZ c t ≤ c * 4294967296 + 1 := by
  have e1 : clampZ c 0 536870912 = c := by
    unfold clampZ
    rw [if_neg (show ¬ (0 : Int) > c by omega), if_neg (by omega)]
  have hp : (2 : Int) ^ 32 = 4294967296 := by decide
  unfold utilZ
  rw [if_neg (by omega), e1, hp, wze (x := c * 4294967296) (by omega) (by omega)]
  have hn : 0 ≤ c * 4294967296 := by omega
  have hn2 : c * 4294967296 ≤ 2305843009213693952 := by omega
  generalize c * 4294967296 = n at hn hn2
  have hd : Int.tdiv n t = n / t := Int.tdiv_eq_ediv_of_nonneg hn
  have hm : Int.tmod n t = n % t := Int.tmod_eq_emod_of_nonneg hn
  rw [hd, hm]
  have hem := Int.emod_add_mul_ediv n t
  have hr0 := Int.emod_nonneg n (show t ≠ 0 by omega)
  have hr1 := Int.emod_lt_of_pos n (show 0 < t by omega)
  have hq0 : 0 ≤ n / t := Int.ediv_nonneg hn (by omega)
  have hq1 : n / t ≤ n := Int.ediv_le_self _ hn
  rw [wze (x := n / t) (by omega) (by omega)]
  have hz : ∀ r : Int, r = (if 1 < n % t then 1 else n % t) → 0 ≤ r ∧ r ≤ 1 ∧ (n % t ≠ 0 → r = 1) := fun r h => by
    by_cases g : 1 < n % t
    · rw [if_pos g] at h; omega
    · rw [if_neg g] at h; omega
  obtain ⟨z0, z1, z2⟩ := hz _ rfl
  generalize (if 1 < n % t then 1 else n % t) = r at z0 z1 z2
  rw [wze (by omega) (by omega)]
  refine ⟨?_, by omega, by omega⟩
  rw [Int.add_mul, Int.mul_comm (n / t) t]
  by_cases g : n % t = 0
  · have : 0 ≤ r * t := Int.mul_nonneg z0 (by omega)
    omega
  · rw [z2 g]
    omega
/-- A job's quanta, whole. -/
theorem quantaZ_eq {m : Mach} (b : Mb m) (hL : 0 < m.L.length) {x : ATask} (hc : 1 ≤ x.t.cycles ∧ x.t.cycles ≤ 4096) : quantaZ m x 0 = x.t.cycles * lev0 m + 2 * m.p.switch ∧ 0 ≤ x.t.cycles * lev0 m ∧ x.t.cycles * lev0 m ≤ 1048576 := by
  obtain ⟨h1, h2⟩ := b.p0
  obtain ⟨h3, h4⟩ := b.sw
  have hm : 0 ≤ x.t.cycles * lev0 m := Int.mul_nonneg (by omega) (by omega)
  have hm2 : x.t.cycles * lev0 m ≤ 4096 * 256 := Int.mul_le_mul hc.2 h2 (by omega) (by decide)
  refine ⟨?_, hm, by omega⟩
  unfold quantaZ
  rw [if_neg (by omega)]
  show wz (wz (x.t.cycles * lev0 m) + wz (2 * m.p.switch)) = _
  rw [wze (x := x.t.cycles * lev0 m) (by omega) (by omega), wze (x := 2 * m.p.switch) (by omega) (by omega), wze (by omega) (by omega)]
/-- A task's part is enough for a job a period. -/
theorem partZ_ge {m : Mach} (b : Mb m) (hL : 0 < m.L.length) {x : ATask} (hc : 1 ≤ x.t.cycles ∧ x.t.cycles ≤ 4096) (hp : 1 ≤ x.t.period) :
    (x.t.cycles * lev0 m + 2 * m.p.switch) * 4294967296 ≤ partZ m x 0 * x.t.period ∧ 0 ≤ partZ m x 0 ∧ partZ m x 0 ≤ 4600000000000000 := by
  obtain ⟨e, h0, h1⟩ := quantaZ_eq b hL hc
  obtain ⟨h3, h4⟩ := b.sw
  unfold partZ
  rw [e]
  obtain ⟨g1, g2, g3⟩ := utilZ_ge (c := x.t.cycles * lev0 m + 2 * m.p.switch) (t := x.t.period) ⟨by omega, by omega⟩ hp
  exact ⟨g1, g2, by omega⟩
def partsZ (m : Mach) (l : List ATask) : Int := l.foldl (fun a x => a + partZ m x 0) 0
theorem partsZ_cons (m : Mach) (x : ATask) (l : List ATask) : partsZ m (x :: l) = partZ m x 0 + partsZ m l := by
  have h : ∀ (l : List ATask) (a : Int), l.foldl (fun a x => a + partZ m x 0) a = a + partsZ m l := by
    intro l
    induction l with
    | nil => intro a; simp [partsZ]
    | cons y l ih =>
      intro a
      unfold partsZ
      rw [List.foldl_cons, ih, List.foldl_cons, ih]
      omega
  unfold partsZ
  rw [List.foldl_cons, h]
  unfold partsZ
  omega
theorem fold_load {m : Mach} (l : List ATask) (a : Int) (h : ∀ x ∈ l, 0 ≤ partZ m x 0 ∧ partZ m x 0 ≤ 4600000000000000) (hl : l.length ≤ 8) (h0 : 0 ≤ a) (h1 : a ≤ 460000000000000000 - (l.length : Int) * 4600000000000000) : l.foldl (fun a x => wz (a + partZ m x 0)) a = a + partsZ m l := by
  induction l generalizing a with
  | nil => simp [partsZ]
  | cons x l ih =>
    obtain ⟨p0, p1⟩ := h x (.head _)
    rw [List.length_cons] at hl h1
    have e : wz (a + partZ m x 0) = a + partZ m x 0 := wze (by omega) (by omega)
    rw [List.foldl_cons, e, ih _ (fun y hy => h y (.tail _ hy)) (by omega) (by omega) (by omega), partsZ_cons]
    omega
end Go.Proofs.YtajilfnceoeaiaaGreat.V
/- A set of tasks for which there is time enough: parts, and what may block. Plain. -/
namespace Go.Proofs.YtajilfnceoeaiaaGreat.V
open Go Go.RowKit Enc
set_option maxRecDepth 100000
def mxS (m : Mach) : Int := if m.p.switch > slowZ m then m.p.switch else slowZ m
/-- Numbers of a machine, levels too. -/
structure Mc (m : Mach) : Prop where
  b : Mb m
  L : 0 < m.L.length
  slow : 1 ≤ slowZ m ∧ slowZ m ≤ 256
  lev : ∀ n, 0 ≤ n → n ≤ m.p.crit → lev0 m ≤ lvlP m n ∧ lvlP m n ≤ slowZ m
  dev : ∀ (i : Nat) (d : Device), m.D[i]? = some d → (0 ≤ d.down ∧ d.down ≤ 256) ∧ (0 ≤ d.up ∧ d.up ≤ 256) ∧ 1 ≤ d.even ∧ d.even ≤ 16384
theorem mxS_in {m : Mach} (c : Mc m) : m.p.switch ≤ mxS m ∧ slowZ m ≤ mxS m ∧ mxS m ≤ 256 := by
  have h1 := c.b.sw
  have h2 := c.slow
  unfold mxS
  by_cases h : m.p.switch > slowZ m
  · rw [if_pos h]; omega
  · rw [if_neg h]; omega
/-- There is time enough for these tasks. -/
structure Bud (m : Mach) (T : List ATask) (R : Int) : Prop where
  r0 : 0 ≤ R
  u0 : ∀ k, k < 6 → 0 ≤ UZ m T k ∧ UZ m T k ≤ 4294967296
  sum : sum6 (UZ m T) + R ≤ 4294967296
  job : ∀ k, k < 6 → 0 < perN T k → ((tk T k).t.cycles * lev0 m + 2 * m.p.switch) * 4294967296 ≤ UZ m T k * perN T k
  one : ∀ k, k < 6 → 0 < perN T k → mxS m * 4294967296 ≤ R * perN T k
  blk : ∀ (k l : Nat) (sem : Int), k < 6 → l < 6 → 0 < perN T k → perN T k < perN T l → ceilZ T sem ≤ perN T k → usesZ (tk T l) sem = true → ((tk T l).sec.getD sem.toNat 0 * slowZ m + mxS m) * 4294967296 ≤ R * perN T k
/-! ### ceilings -/
theorem ceil_fold (s : Int) : ∀ (l : List ATask) (a : Int), (l.foldl (fun a x => if usesZ x s then (if x.t.period < a then x.t.period else a) else a) a ≤ a ∧ ∀ x ∈ l, usesZ x s = true → l.foldl (fun a x => if usesZ x s then (if x.t.period < a then x.t.period else a) else a) a ≤ x.t.period) ∧
    (l.foldl (fun a x => if usesZ x s then (if x.t.period < a then x.t.period else a) else a) a = a ∨ ∃ x ∈ l, usesZ x s = true ∧ l.foldl (fun a x => if usesZ x s then (if x.t.period < a then x.t.period else a) else a) a = x.t.period)
  | [], a => ⟨⟨Int.le_refl _, fun x hx => by cases hx⟩, .inl rfl⟩
  | y :: l, a => by
    obtain ⟨⟨h1, h2⟩, h3⟩ := ceil_fold s l (if usesZ y s then (if y.t.period < a then y.t.period else a) else a)
    rw [List.foldl_cons]
    have ha : (if usesZ y s then (if y.t.period < a then y.t.period else a) else a) ≤ a := by
      by_cases u : usesZ y s = true
      · rw [if_pos u]
        by_cases v : y.t.period < a
        · rw [if_pos v]; omega
        · rw [if_neg v]; omega
      · rw [if_neg u]; omega
    have hy : usesZ y s = true → (if usesZ y s then (if y.t.period < a then y.t.period else a) else a) ≤ y.t.period := fun u => by
      rw [if_pos u]
      by_cases v : y.t.period < a
      · rw [if_pos v]; omega
      · rw [if_neg v]; omega
    refine ⟨⟨Int.le_trans h1 ha, fun x hx hu => ?_⟩, ?_⟩
    · rcases List.mem_cons.1 hx with rfl | hx
      · exact Int.le_trans h1 (hy hu)
      · exact h2 x hx hu
    · rcases h3 with h3 | ⟨x, hx, hu, he⟩
      · by_cases u : usesZ y s = true
        · by_cases v : y.t.period < a
          · rw [if_pos u, if_pos v] at h3
            exact .inr ⟨y, .head _, u, by rw [if_pos u, if_pos v]; exact h3⟩
          · rw [if_pos u, if_neg v] at h3
            exact .inl (by rw [if_pos u, if_neg v]; exact h3)
        · rw [if_neg u] at h3
          exact .inl (by rw [if_neg u]; exact h3)
      · exact .inr ⟨x, .tail _ hx, hu, he⟩
theorem ceil_top (l : List ATask) (s : Int) : ceilZ l s ≤ 1099511627776 := (ceil_fold s l _).1.1
theorem ceil_le {l : List ATask} {s : Int} {x : ATask} (hx : x ∈ l) (hu : usesZ x s = true) : ceilZ l s ≤ x.t.period := (ceil_fold s l _).1.2 x hx hu
theorem ceil_is (l : List ATask) (s : Int) : ceilZ l s = 1099511627776 ∨ ∃ x ∈ l, usesZ x s = true ∧ ceilZ l s = x.t.period := (ceil_fold s l _).2
/-- Fewer that use it: the ceiling rises. -/
theorem ceil_mono {l l' : List ATask} {s : Int} (h : ∀ a ∈ l', usesZ a s = true → ∃ b ∈ l, usesZ b s = true ∧ b.t.period = a.t.period) : ceilZ l s ≤ ceilZ l' s := by
  rcases ceil_is l' s with e | ⟨a, ha, hu, e⟩
  · rw [e]; exact ceil_top _ _
  · obtain ⟨b, hb, hv, hp⟩ := h a ha hu
    have := ceil_le hb hv
    omega
/-! ### what may block -/
theorem longOne_ge (l : List ATask) (p : Int) (x : ATask) : ∀ (n : Nat) (a : Int), a ≤ longOne l p x a n ∧ (∀ s : Nat, s < n → x.t.period > p ∧ usesZ x s = true ∧ ceilZ l s ≤ p → x.sec.getD s 0 ≤ longOne l p x a n) ∧ ∀ B, a ≤ B → (∀ s : Nat, x.sec.getD s 0 ≤ B) → longOne l p x a n ≤ B := by
  intro n
  induction n with
  | zero => exact fun a => ⟨Int.le_refl _, fun s h => by omega, fun B h _ => h⟩
  | succ n ih =>
    intro a
    obtain ⟨h1, h2, h3⟩ := ih a
    have e : longOne l p x a (n + 1) = (if x.t.period > p ∧ usesZ x n = true ∧ ceilZ l n ≤ p then (if x.sec.getD n 0 > longOne l p x a n then x.sec.getD n 0 else longOne l p x a n) else longOne l p x a n) := by
      unfold longOne
      rw [List.range_succ, List.foldl_append]
      rfl
    rw [e]
    generalize longOne l p x a n = r at *
    by_cases c : x.t.period > p ∧ usesZ x n = true ∧ ceilZ l n ≤ p
    · rw [if_pos c]
      by_cases d : x.sec.getD n 0 > r
      · rw [if_pos d]
        refine ⟨by omega, fun s hs hc => ?_, fun B hB hs => hs n⟩
        by_cases g : s = n
        · subst g; omega
        · have := h2 s (by omega) hc; omega
      · rw [if_neg d]
        refine ⟨h1, fun s hs hc => ?_, h3⟩
        by_cases g : s = n
        · subst g; omega
        · exact h2 s (by omega) hc
    · rw [if_neg c]
      refine ⟨h1, fun s hs hc => ?_, h3⟩
      by_cases g : s = n
      · subst g; exact absurd hc c
      · exact h2 s (by omega) hc
theorem long_fold (l : List ATask) (p : Int) : ∀ (k : List ATask) (a : Int), a ≤ k.foldl (fun a x => longOne l p x a x.sec.length) a ∧ (∀ x ∈ k, ∀ s : Nat, s < x.sec.length → x.t.period > p ∧ usesZ x s = true ∧ ceilZ l s ≤ p → x.sec.getD s 0 ≤ k.foldl (fun a x => longOne l p x a x.sec.length) a) ∧ ∀ B, a ≤ B → (∀ x ∈ k, ∀ s : Nat, x.sec.getD s 0 ≤ B) → k.foldl (fun a x => longOne l p x a x.sec.length) a ≤ B
  | [], a => ⟨Int.le_refl _, fun x hx => (by cases hx), fun B h _ => h⟩
  | y :: k, a => by
    obtain ⟨h1, h2, h3⟩ := long_fold l p k (longOne l p y a y.sec.length)
    obtain ⟨g1, g2, g3⟩ := longOne_ge l p y y.sec.length a
    rw [List.foldl_cons]
    refine ⟨Int.le_trans g1 h1, fun x hx s hs hc => ?_, fun B hB hx => h3 B (g3 B hB (hx y (.head _))) fun x hx' => hx x (.tail _ hx')⟩
    rcases List.mem_cons.1 hx with rfl | hx
    · exact Int.le_trans (g2 s hs hc) h1
    · exact h2 x hx s hs hc
theorem block_eq {m : Mach} (c : Mc m) {l : List ATask} (hl : ∀ x ∈ l, ∀ s : Nat, x.sec.getD s 0 ≤ 4096) (p : Int) : blockZ m l p = longZ l p * slowZ m + mxS m ∧ 0 ≤ longZ l p * slowZ m ∧ longZ l p * slowZ m ≤ 1048576 := by
  obtain ⟨h1, _, h3⟩ := long_fold l p l 0
  have h4 : longZ l p ≤ 4096 := h3 4096 (by decide) hl
  have h5 : 0 ≤ longZ l p := h1
  obtain ⟨s1, s2⟩ := c.slow
  have hm := mxS_in c
  have h6 : 0 ≤ longZ l p * slowZ m := Int.mul_nonneg h5 (by omega)
  have h7 : longZ l p * slowZ m ≤ 4096 * 256 := Int.mul_le_mul h4 s2 (by omega) (by decide)
  refine ⟨?_, h6, by omega⟩
  have e : (if m.p.switch > slowZ m then m.p.switch else slowZ m) = mxS m := rfl
  unfold blockZ
  rw [e]
  generalize longZ l p * slowZ m = z at *
  rw [wze (x := z) (by omega) (by omega), wze (by omega) (by omega)]
theorem res_fold (m : Mach) (l : List ATask) : ∀ (k : List ATask) (a : Int), a ≤ k.foldl (fun a x => if utilZ (blockZ m l x.t.period) x.t.period > a then utilZ (blockZ m l x.t.period) x.t.period else a) a ∧ (∀ x ∈ k, utilZ (blockZ m l x.t.period) x.t.period ≤ k.foldl (fun a x => if utilZ (blockZ m l x.t.period) x.t.period > a then utilZ (blockZ m l x.t.period) x.t.period else a) a) ∧ ∀ B, a ≤ B → (∀ x ∈ k, utilZ (blockZ m l x.t.period) x.t.period ≤ B) → k.foldl (fun a x => if utilZ (blockZ m l x.t.period) x.t.period > a then utilZ (blockZ m l x.t.period) x.t.period else a) a ≤ B
  | [], a => ⟨Int.le_refl _, fun x hx => (by cases hx), fun B h _ => h⟩
  | y :: k, a => by
    obtain ⟨h1, h2, h3⟩ := res_fold m l k (if utilZ (blockZ m l y.t.period) y.t.period > a then utilZ (blockZ m l y.t.period) y.t.period else a)
    rw [List.foldl_cons]
    have g : a ≤ (if utilZ (blockZ m l y.t.period) y.t.period > a then utilZ (blockZ m l y.t.period) y.t.period else a) ∧ utilZ (blockZ m l y.t.period) y.t.period ≤ (if utilZ (blockZ m l y.t.period) y.t.period > a then utilZ (blockZ m l y.t.period) y.t.period else a) := by
      split <;> omega
    refine ⟨Int.le_trans g.1 h1, fun x hx => ?_, fun B hB hx => h3 B ?_ fun x hx' => hx x (.tail _ hx')⟩
    · rcases List.mem_cons.1 hx with rfl | hx
      · exact Int.le_trans g.2 h1
      · exact h2 x hx
    · have := hx y (.head _)
      split <;> omega
/-! ### the sum of the parts -/
def pz (m : Mach) (x : ATask) : Int := if x.t.period > 0 then partZ m x 0 else 0
def pzS (m : Mach) : List ATask → Int
  | [] => 0
  | x :: l => pz m x + pzS m l
theorem pzS_there (m : Mach) : ∀ (l : List ATask), (∀ x ∈ l, 0 ≤ x.t.period) → partsZ m (thereZ l) = pzS m l
  | [], _ => rfl
  | x :: l, h => by
    have ih := pzS_there m l fun y hy => h y (.tail _ hy)
    have h0 := h x (.head _)
    unfold thereZ at ih ⊢
    rw [List.filter_cons]
    by_cases e : x.t.period = 0
    · rw [if_neg (by simp [e]), ih]
      show _ = pz m x + pzS m l
      unfold pz
      rw [if_neg (by omega), Int.zero_add]
    · rw [if_pos (by simpa using e), partsZ_cons, ih]
      show _ = pz m x + pzS m l
      unfold pz
      rw [if_pos (by omega)]
theorem sum6_UZ (m : Mach) {T : List ATask} (hT : T.length = 6) : sum6 (UZ m T) = pzS m T := by
  obtain ⟨a, b, c, d, e, f, rfl⟩ : ∃ a b c d e f, T = [a, b, c, d, e, f] := by
    match T, hT with
    | [a, b, c, d, e, f], _ => exact ⟨a, b, c, d, e, f, rfl⟩
  show pz m a + pz m b + pz m c + pz m d + pz m e + pz m f = pz m a + (pz m b + (pz m c + (pz m d + (pz m e + (pz m f + 0)))))
  omega
theorem pzS_set (m : Mach) : ∀ (l : List ATask) (i : Nat) (y z : ATask), l[i]? = some y → pzS m (l.set i z) + pz m y = pzS m l + pz m z
  | [], i, y, z, h => by cases h
  | a :: l, 0, y, z, h => by
    cases h
    show pz m z + pzS m l + pz m a = pz m a + pzS m l + pz m z
    omega
  | a :: l, i + 1, y, z, h => by
    have := pzS_set m l i y z h
    show pz m a + pzS m (l.set i z) + pz m y = pz m a + pzS m l + pz m z
    omega
theorem partsZ_snoc (m : Mach) (x : ATask) : ∀ l : List ATask, partsZ m (l ++ [x]) = partsZ m l + partZ m x 0
  | [] => by
    show partsZ m [x] = _
    rw [partsZ_cons]
    show partZ m x 0 + 0 = 0 + partZ m x 0
    omega
  | y :: l => by
    rw [List.cons_append, partsZ_cons, partsZ_snoc m x l, partsZ_cons]
    omega
end Go.Proofs.YtajilfnceoeaiaaGreat.V
/- A set of tasks for which there is time enough: a task comes, or goes. Plain. -/
namespace Go.Proofs.YtajilfnceoeaiaaGreat.V
open Go Go.RowKit Enc
set_option maxRecDepth 100000
section
variable {m : Mach} {T : List ATask} {R : Int}
theorem tk_some {k : Nat} {x : ATask} (h : T[k]? = some x) : tk T k = x := by unfold tk; rw [h]; rfl
theorem tk_set {i k : Nat} {z : ATask} (hi : i < T.length) : tk (T.set i z) k = if k = i then z else tk T k := by
  unfold tk
  rw [List.getElem?_set]
  by_cases h : i = k
  · subst h; rw [if_pos rfl, if_pos rfl, if_pos hi]; rfl
  · rw [if_neg h, if_neg (Ne.symm h)]
theorem checkZ_sec {x : ATask} (h : checkZ m x = 0) (s : Nat) : 0 ≤ x.sec.getD s 0 ∧ x.sec.getD s 0 ≤ 4096 := by
  have hc := (checkZ_zero h).2.2.2.1
  have hc1 := (checkZ_zero h).2.2.1
  unfold checkZ at h
  split at h
  · cases h
  · rename_i hn
    simp only [not_or] at hn
    have ha := hn.2.2.2.2.2.1
    rw [List.getD_eq_getElem?_getD]
    cases hx : x.sec[s]? with
    | none => exact ⟨Int.le_refl _, by show (0 : Int) ≤ 4096; decide⟩
    | some v =>
      have hm := List.mem_of_getElem? hx
      have hv : ¬ (v < 0 ∨ v > x.t.cycles) := fun g => ha (List.any_eq_true.2 ⟨v, hm, by simpa using g⟩)
      show 0 ≤ v ∧ v ≤ 4096
      omega
/-- All in a list pass: what the load tells. -/
theorem Bud.mk' (c : Mc m) {l : List ATask} (hck : ∀ x ∈ l, checkZ m x = 0) (hl : l.length ≤ 8) (hload : loadZ m l 0 ≤ 4294967296)
    (hT : ∀ k, k < 6 → 0 < perN T k → ∃ y ∈ l, y.t.period = perN T k ∧ y.t.cycles = (tk T k).t.cycles ∧ y.sec = (tk T k).sec) (hp : ∀ k, k < 6 → 0 ≤ perN T k) (h6 : T.length = 6) (hz : ∀ k, k < 6 → perN T k = 0 → (tk T k).sec = []) (hs : sum6 (UZ m T) = partsZ m l) : ∃ R, Bud m T R := by
  have hsec : ∀ x ∈ l, ∀ s : Nat, x.sec.getD s 0 ≤ 4096 := fun x hx s => (checkZ_sec (hck x hx) s).2
  have hw := mxS_in c
  have hsl := c.slow
  have hsw := c.b.sw
  have hblk := block_eq c hsec
  have huz : ∀ x ∈ l, blockZ m l x.t.period * 4294967296 ≤ utilZ (blockZ m l x.t.period) x.t.period * x.t.period ∧ 0 ≤ utilZ (blockZ m l x.t.period) x.t.period ∧ utilZ (blockZ m l x.t.period) x.t.period ≤ 4600000000000000 := fun x hx => by
    obtain ⟨e, b0, b1⟩ := hblk x.t.period
    obtain ⟨g1, g2, g3⟩ := utilZ_ge (c := blockZ m l x.t.period) (t := x.t.period) ⟨by omega, by omega⟩ (checkZ_zero (hck x hx)).1
    exact ⟨g1, g2, by omega⟩
  obtain ⟨r0, r1, r2⟩ := res_fold m l l 0
  have hR : (l.foldl (fun a x => if utilZ (blockZ m l x.t.period) x.t.period > a then utilZ (blockZ m l x.t.period) x.t.period else a) 0) = reserveZ m l := rfl
  rw [hR] at r0 r1 r2
  have hRb := r2 4600000000000000 (by decide) fun x hx => (huz x hx).2.2
  have hpz : ∀ x ∈ l, (x.t.cycles * lev0 m + 2 * m.p.switch) * 4294967296 ≤ partZ m x 0 * x.t.period ∧ 0 ≤ partZ m x 0 ∧ partZ m x 0 ≤ 4600000000000000 := fun x hx => by
    obtain ⟨c1, _, c3, c4, _⟩ := checkZ_zero (hck x hx)
    exact partZ_ge c.b c.L ⟨c3, c4⟩ c1
  have hlz : loadZ m l 0 = reserveZ m l + partsZ m l := by
    unfold loadZ
    exact fold_load l _ (fun x hx => (hpz x hx).2) hl r0 (by omega)
  -- a part is that of one in the list
  have hUZ : ∀ k, k < 6 → 0 < perN T k → ∃ y ∈ l, y.t.period = perN T k ∧ y.t.cycles = (tk T k).t.cycles ∧ y.sec = (tk T k).sec ∧ UZ m T k = partZ m y 0 := fun k hk h0 => by
    obtain ⟨y, hy, e1, e2, e3⟩ := hT k hk h0
    refine ⟨y, hy, e1, e2, e3, ?_⟩
    unfold UZ
    rw [if_pos h0]
    unfold partZ quantaZ
    rw [e2, e1]
    rfl
  have hU0 : ∀ k, k < 6 → 0 ≤ UZ m T k := fun k hk => by
    by_cases h0 : 0 < perN T k
    · obtain ⟨y, hy, _, _, _, e⟩ := hUZ k hk h0
      rw [e]; exact (hpz y hy).2.1
    · unfold UZ
      rw [if_neg h0]
      exact Int.le_refl _
  have hsum : sum6 (UZ m T) + reserveZ m l ≤ 4294967296 := by omega
  have hcl : ∀ sem, ceilZ l sem ≤ ceilZ T sem := fun sem => ceil_mono fun a ha hu => by
    obtain ⟨k, hk⟩ := List.mem_iff_getElem?.1 ha
    have hk6 := lt_of_get hk
    have hak : tk T k = a := tk_some hk
    have hp0 := hp k (by omega)
    have h0 : 0 < perN T k := by
      have hne : perN T k ≠ 0 := fun e => by
        have := hz k (by omega) e
        rw [hak] at this
        simp [usesZ, this] at hu
      omega
    obtain ⟨y, hy, e1, e2, e3⟩ := hT k (by omega) h0
    refine ⟨y, hy, ?_, by rw [e1]; unfold perN; rw [hak]⟩
    unfold usesZ at hu ⊢
    rw [e3, hak]
    exact hu
  have hone : ∀ y ∈ l, ∀ z, 0 ≤ z → z ≤ longZ l y.t.period * slowZ m → (z + mxS m) * 4294967296 ≤ reserveZ m l * y.t.period := fun y hy z hz0 hz => by
    obtain ⟨e, b0, b1⟩ := hblk y.t.period
    obtain ⟨g1, _, _⟩ := huz y hy
    have g2 := r1 y hy
    have hp1 := (checkZ_zero (hck y hy)).1
    have g3 : utilZ (blockZ m l y.t.period) y.t.period * y.t.period ≤ reserveZ m l * y.t.period := Int.mul_le_mul_of_nonneg_right g2 (by omega)
    generalize blockZ m l y.t.period = bb at e g1 g3
    omega
  refine ⟨reserveZ m l, r0, fun k hk => ⟨hU0 k hk, ?_⟩, hsum, fun k hk h0 => ?_, fun k hk h0 => ?_, fun k q sem hk hq h0 hlt hce hu => ?_⟩
  · have h0 := hU0 0 (by decide); have h1 := hU0 1 (by decide); have h2 := hU0 2 (by decide); have h3 := hU0 3 (by decide); have h4 := hU0 4 (by decide); have h5 := hU0 5 (by decide)
    unfold sum6 at hsum
    have : k = 0 ∨ k = 1 ∨ k = 2 ∨ k = 3 ∨ k = 4 ∨ k = 5 := by omega
    rcases this with rfl | rfl | rfl | rfl | rfl | rfl <;> omega
  · obtain ⟨y, hy, e1, e2, e3, e⟩ := hUZ k hk h0
    rw [e, ← e1, ← e2]
    exact (hpz y hy).1
  · obtain ⟨y, hy, e1, e2, e3, e⟩ := hUZ k hk h0
    have := hone y hy 0 (Int.le_refl _) (hblk y.t.period).2.1
    rw [e1, Int.zero_add] at this
    exact this
  · obtain ⟨y, hy, e1, e2, e3, e⟩ := hUZ k hk h0
    obtain ⟨v, hv, f1, f2, f3, _⟩ := hUZ q hq (by omega)
    have hu' : usesZ v sem = true := by
      unfold usesZ at hu ⊢
      rw [f3]; exact hu
    have hsem : sem ≥ 0 ∧ sem < v.sec.length := by
      simp only [usesZ, Bool.and_eq_true, decide_eq_true_eq] at hu'
      exact hu'.1
    have hcast : ((sem.toNat : Nat) : Int) = sem := by omega
    have hlong : v.sec.getD sem.toNat 0 ≤ longZ l y.t.period := by
      obtain ⟨_, g2, _⟩ := long_fold l y.t.period l 0
      refine g2 v hv sem.toNat (by omega) ⟨by omega, by rw [hcast]; exact hu', by rw [hcast]; have := hcl sem; omega⟩
    have hs0 := (checkZ_sec (hck v hv) sem.toNat).1
    have hle : v.sec.getD sem.toNat 0 * slowZ m ≤ longZ l y.t.period * slowZ m := Int.mul_le_mul_of_nonneg_right hlong (by omega)
    have := hone y hy _ (Int.mul_nonneg hs0 (by omega)) hle
    rw [e1, f3] at this
    exact this
theorem perN_set {i k : Nat} {z : ATask} (hi : i < T.length) : perN (T.set i z) k = if k = i then z.t.period else perN T k := by
  unfold perN
  rw [tk_set hi]
  split <;> rfl
/-- A task comes. -/
theorem Bud.admit (c : Mc m) (h6 : T.length = 6) (hper : ∀ x ∈ T, 0 ≤ x.t.period) (hz0 : ∀ x ∈ T, x.t.period = 0 → x.sec = []) (hck : ∀ x ∈ T, x.t.period ≠ 0 → checkZ m x = 0) {x y z : ATask} (hcx : checkZ m x = 0) (hload : loadZ m (thereZ T ++ [x]) 0 ≤ 4294967296) {i : Nat} (hy : T[i]? = some y) (hy0 : y.t.period = 0)
    (z1 : z.t.period = x.t.period) (z2 : z.t.cycles = x.t.cycles) (z3 : z.sec = x.sec) : ∃ R, Bud m (T.set i z) R := by
  have hi := lt_of_get hy
  have hxp := (checkZ_zero hcx).1
  have get : ∀ k, k < 6 → T[k]? = some (tk T k) := fun k hk => by
    unfold tk
    rw [List.getElem?_eq_getElem (by omega)]
    rfl
  refine Bud.mk' c (l := thereZ T ++ [x]) (fun u hu => ?_) ?_ hload (fun k hk h0 => ?_) (fun k hk => ?_) (by simpa using h6) (fun k hk h0 => ?_) ?_
  · rcases List.mem_append.1 hu with hu | hu
    · obtain ⟨h1, h2⟩ := List.mem_filter.1 hu
      exact hck u h1 (by simpa using h2)
    · rw [List.mem_singleton.1 hu]; exact hcx
  · rw [List.length_append]
    have := List.length_filter_le (fun x : ATask => !(x.t.period == 0)) T
    unfold thereZ
    simp only [List.length_singleton]
    omega
  · rw [perN_set hi] at h0 ⊢
    rw [tk_set hi]
    by_cases e : k = i
    · rw [if_pos e, if_pos e]
      exact ⟨x, List.mem_append.2 (.inr (List.mem_singleton.2 rfl)), z1.symm, z2.symm, z3.symm⟩
    · rw [if_neg e] at h0
      rw [if_neg e, if_neg e]
      refine ⟨tk T k, List.mem_append.2 (.inl (List.mem_filter.2 ⟨List.mem_of_getElem? (get k hk), ?_⟩)), rfl, rfl, rfl⟩
      have h0 : 0 < (tk T k).t.period := h0
      have : (tk T k).t.period ≠ 0 := by omega
      simpa using this
  · rw [perN_set hi]
    split
    · omega
    · exact hper _ (List.mem_of_getElem? (get k hk))
  · rw [perN_set hi] at h0
    rw [tk_set hi]
    by_cases e : k = i
    · rw [if_pos e] at h0
      omega
    · rw [if_neg e] at h0 ⊢
      exact hz0 _ (List.mem_of_getElem? (get k hk)) h0
  · rw [sum6_UZ m (by simpa using h6), partsZ_snoc, pzS_there m T hper]
    have := pzS_set m T i y z hy
    have e1 : pz m y = 0 := if_neg (by omega)
    have e2 : pz m z = partZ m x 0 := by
      unfold pz
      rw [if_pos (by omega)]
      unfold partZ quantaZ
      rw [z1, z2]
    omega
/-- A task goes. -/
theorem Bud.remove (h6 : T.length = 6) (h : Bud m T R) {i : Nat} (hi : i < 6) (hR : Bud m T R) : Bud m (T.set i noTask) R := by
  have hU : ∀ k, UZ m (T.set i noTask) k = if k = i then 0 else UZ m T k := fun k => by
    unfold UZ
    rw [perN_set (by omega), tk_set (by omega)]
    by_cases e : k = i
    · simp [e, noTask]
    · simp [e]
  have hp : ∀ k, 0 < perN (T.set i noTask) k → k ≠ i ∧ perN (T.set i noTask) k = perN T k ∧ tk (T.set i noTask) k = tk T k := fun k hk => by
    rw [perN_set (by omega)] at hk ⊢
    rw [tk_set (by omega)]
    by_cases e : k = i
    · rw [if_pos e] at hk; exact absurd hk (by decide)
    · rw [if_neg e, if_neg e]; exact ⟨e, rfl, rfl⟩
  have hUk : ∀ k, k < 6 → UZ m (T.set i noTask) k ≤ UZ m T k ∧ 0 ≤ UZ m (T.set i noTask) k := fun k hk => by
    rw [hU]
    have := h.u0 k hk
    split <;> omega
  have hc : ∀ sem, ceilZ T sem ≤ ceilZ (T.set i noTask) sem := fun sem => ceil_mono fun a ha hu => by
    rcases List.mem_or_eq_of_mem_set ha with ha | rfl
    · exact ⟨a, ha, hu, rfl⟩
    · simp [usesZ, noTask] at hu
  refine ⟨h.r0, fun k hk => ⟨(hUk k hk).2, Int.le_trans (hUk k hk).1 (h.u0 k hk).2⟩, ?_, fun k hk h0 => ?_, fun k hk h0 => ?_, fun k l sem hk hl h0 hlt hce hu => ?_⟩
  · have h1 := sum6_le fun k hk => (hUk k hk).1
    have h2 := h.sum
    omega
  · obtain ⟨e, e1, e2⟩ := hp k h0
    rw [e1] at h0 ⊢
    rw [e2, hU, if_neg e]
    exact h.job k hk h0
  · obtain ⟨e, e1, e2⟩ := hp k h0
    rw [e1] at h0 ⊢
    exact h.one k hk h0
  · obtain ⟨e, e1, e2⟩ := hp k h0
    obtain ⟨f, f1, f2⟩ := hp l (by omega)
    rw [e1] at h0 hlt hce ⊢
    rw [f1] at hlt
    rw [f2] at hu ⊢
    exact h.blk k l sem hk hl h0 hlt (Int.le_trans (hc sem) hce) hu
end
end Go.Proofs.YtajilfnceoeaiaaGreat.V
/- How much time there is between the moments that count. Plain. -/
namespace Go.Proofs.YtajilfnceoeaiaaGreat.V
open Go Go.RowKit Enc
set_option maxRecDepth 100000
section
variable {m : Mach} {s s' : KS} {R x y : Int}
/-- Behind a boundary: what comes, comes later. -/
def Bh (s : KS) : Prop := ∀ k z, s.lat k = some z → s.now < z.1
/-- What comes, comes when its task's next job may. -/
def LatN (s : KS) : Prop := ∀ k a c, s.lat k = some (a, c) → s.N.getD k.toNat 0 = a
theorem fZ_from (hb : Bh s) (hl : LatN s) (k : Nat) : fZ s k = fromZ s.N s.now k := by
  unfold fZ
  cases h : s.lat k with
  | none => rfl
  | some z =>
    have h1 := hb k z h
    have h2 := hl k z.1 z.2 h
    rw [Int.toNat_natCast] at h2
    show s.N.getD k 0 = _
    unfold fromZ
    rw [if_pos (by omega)]
theorem fromZ_ge (N : List Int) (now : Int) (k : Nat) : now ≤ fromZ N now k := by
  unfold fromZ
  split <;> omega
theorem fZ_ge (hb : Bh s) (hl : LatN s) (k : Nat) : s.now ≤ fZ s k := by
  rw [fZ_from hb hl]
  exact fromZ_ge _ _ _
theorem sum6_mul (f : Nat → Int) (c : Int) : sum6 (fun k => f k * c) = sum6 f * c := by
  simp only [sum6, Int.add_mul]
theorem pos_add {a b : Int} (h : a ≤ b) : pos b ≤ pos a + (b - a) := by
  have h0 := pos_ge a
  unfold pos at *
  by_cases h1 : 0 > a <;> by_cases h2 : 0 > b
  · rw [if_pos h1, if_pos h2]; omega
  · rw [if_pos h1, if_neg h2]; omega
  · omega
  · rw [if_neg h1, if_neg h2]; omega
theorem demJ_none {o : Option Job} (h : ∀ j, o = some j → x < j.deadline) : demJ m x o = 0 := by
  cases o with
  | none => rfl
  | some j => exact if_neg (by have := h j rfl; omega)
/-- No job is due: what is kept aside is there. -/
theorem idle_ge (B : Bud m s.T R) (hf : ∀ k, k < 6 → s.now ≤ fZ s k) (hx : s.now ≤ x) (hj : ∀ k : Nat, k < 6 → ∀ j, s.jobs k = some j → x < j.deadline) : R * (x - s.now) ≤ DZ m s x := by
  have hd : ∀ k, k < 6 → demZ m s x k ≤ UZ m s.T k * (x - s.now) := fun k hk => by
    unfold demZ
    rw [demJ_none (hj k hk), Int.zero_mul, Int.zero_add]
    refine Int.mul_le_mul_of_nonneg_left ?_ (B.u0 k hk).1
    have h1 := pos_mono (x := x - fZ s k) (y := x - s.now) (by have := hf k hk; omega)
    rw [pos_of (x := x - s.now) (by omega)] at h1
    exact h1
  have h1 := sum6_le hd
  rw [sum6_mul] at h1
  have h2 : (sum6 (UZ m s.T) + R) * (x - s.now) ≤ 4294967296 * (x - s.now) := Int.mul_le_mul_of_nonneg_right B.sum (by omega)
  rw [Int.add_mul] at h2
  unfold DZ
  omega
/-- Between two moments that count there is no less. -/
theorem DZ_grow (B : Bud m s.T R) (hxy : x ≤ y) (hj : ∀ k : Nat, k < 6 → ∀ j, s.jobs k = some j → j.deadline ≤ y → j.deadline ≤ x) : DZ m s x ≤ DZ m s y := by
  have hd : ∀ k, k < 6 → demZ m s y k ≤ demZ m s x k + UZ m s.T k * (y - x) := fun k hk => by
    unfold demZ
    have h1 : demJ m y (s.jobs k) = demJ m x (s.jobs k) := by
      cases hjk : s.jobs k with
      | none => rfl
      | some j =>
        have := hj k hk j hjk
        show (if j.deadline ≤ y then _ else _) = (if j.deadline ≤ x then _ else _)
        by_cases h : j.deadline ≤ x
        · rw [if_pos h, if_pos (by omega)]
        · rw [if_neg h, if_neg (fun g => h (this g))]
    have h2 : UZ m s.T k * pos (y - fZ s k) ≤ UZ m s.T k * (pos (x - fZ s k) + (y - x)) := by
      refine Int.mul_le_mul_of_nonneg_left ?_ (B.u0 k hk).1
      have := pos_add (a := x - fZ s k) (b := y - fZ s k) (by omega)
      omega
    rw [Int.mul_add] at h2
    rw [h1]
    omega
  have h1 := sum6_le hd
  rw [sum6_add, sum6_mul] at h1
  have h2 : (sum6 (UZ m s.T) + R) * (y - x) ≤ 4294967296 * (y - x) := Int.mul_le_mul_of_nonneg_right B.sum (by omega)
  have h3 : 0 ≤ R * (y - x) := Int.mul_nonneg B.r0 (by omega)
  rw [Int.add_mul] at h2
  unfold DZ
  omega
/-- The greatest one. -/
theorem max_ex {P : Int → Prop} {b : Int} (hb : ∀ z, P z → z ≤ b) : ∀ (n : Nat) (a : Int), P a → (b - a).toNat ≤ n → ∃ y, P y ∧ a ≤ y ∧ ∀ z, P z → z ≤ y
  | 0, a, ha, h => ⟨a, ha, Int.le_refl _, fun z hz => by have := hb z hz; have := hb a ha; omega⟩
  | n + 1, a, ha, h => by
    by_cases g : ∃ z, P z ∧ a < z
    · obtain ⟨z, hz, haz⟩ := g
      have := hb z hz
      obtain ⟨y, h1, h2, h3⟩ := max_ex hb n z hz (by omega)
      exact ⟨y, h1, by omega, h3⟩
    · exact ⟨a, ha, Int.le_refl _, fun z hz => Int.not_lt.1 fun hlt => g ⟨z, hz, hlt⟩⟩
/-- A moment that counts. -/
def MomE (s : KS) (x : Int) : Prop := ∃ i : Nat, i < 6 ∧ ((∃ j, s.jobs i = some j ∧ x = j.deadline) ∨ (0 < perN s.T i ∧ x = fZ s i + perN s.T i))
/-- The last moment that counts up to another one. -/
theorem mom_last {d : Int} (hd : MomE s d) (hdx : d ≤ x) : ∃ y, MomE s y ∧ d ≤ y ∧ y ≤ x ∧ ∀ z, MomE s z → z ≤ x → z ≤ y := by
  obtain ⟨y, h1, h2, h3⟩ := max_ex (P := fun z => MomE s z ∧ z ≤ x) (b := x) (fun z h => h.2) _ d ⟨hd, hdx⟩ (Nat.le_refl _)
  exact ⟨y, h1.1, h2, h1.2, fun z hz hx => h3 z ⟨hz, hx⟩⟩
/-- Who may have a job by then may have it by the last moment that counts. -/
theorem may_last (hlast : ∀ z, MomE s z → z ≤ x → z ≤ y) {i : Nat} (hi : i < 6) (h : mayP s i x) : mayP s i y := by
  refine ⟨h.1, ?_⟩
  rcases h.2 with ⟨j, hj, hd⟩ | h2
  · exact .inl ⟨j, hj, hlast _ ⟨i, hi, .inl ⟨j, hj, rfl⟩⟩ hd⟩
  · exact .inr (hlast _ ⟨i, hi, .inr ⟨h.1, rfl⟩⟩ h2)
/-- What holds at the last moment that counts holds behind it. -/
theorem ok_last {c : Int} (B : Bud m s.T R) (hyx : y ≤ x) (hlast : ∀ z, MomE s z → z ≤ x → z ≤ y) (h : Ok m s y (DZ m s y - c)) : Ok m s x (DZ m s x - c) := by
  have hg : DZ m s y ≤ DZ m s x := DZ_grow B hyx fun k hk j hj hd => hlast _ ⟨k, hk, .inl ⟨j, hj, rfl⟩⟩ hd
  refine ⟨by have := h.1; omega, fun p u j i h1 h2 h3 hi h4 h5 h6 => ?_⟩
  obtain ⟨q, u', g1, g2, g3, g4⟩ := h.2 p u j i h1 h2 (by omega) hi h4 h5 (may_last hlast hi h6)
  exact ⟨q, u', g1, g2, g3, by omega⟩
end
end Go.Proofs.YtajilfnceoeaiaaGreat.V
/- What slack finds is there. Plain. -/
namespace Go.Proofs.YtajilfnceoeaiaaGreat.V
open Go Go.RowKit Enc
set_option maxRecDepth 100000
/-- Bounds of what a kernel (repeat (refine ⟨by (first | (apply Bx.get0f; apply Blk.bx; assumption; rfl) | (apply Bx.get0f; apply Blk.bx; apply KRep.b; assumption; rfl) | (apply Bx.get0f; assumption; rfl) | (apply Bx.get00; apply Blk.bx; apply KRep.b; assumption; rfl) | (apply Bx.get0; apply Blk.bx; apply KRep.b; assumption; rfl) | (apply Bx.get00; apply Blk.bx; assumption; rfl) | (apply Bx.get00; assumption; rfl) | (apply Bx.getAt; assumption; rfl) | (apply Bx.get0; assumption; rfl) | (apply Bx.get; assumption; rfl) | (apply Bx.get0; apply Blk.bx; assumption; rfl) | (apply Bx.get; apply Blk.bx; assumption; rfl)), ?_⟩)). -/
structure Bnd (m : Mach) (s : KS) : Prop where
  T : s.T.length = 6
  now : 0 ≤ s.now ∧ s.now ≤ 17000
  N : ∀ k : Nat, k < 6 → 0 ≤ s.N.getD k 0 ∧ s.N.getD k 0 ≤ 40000
  per : ∀ k : Nat, k < 6 → 0 ≤ perN s.T k ∧ perN s.T k ≤ 16384
  jobs : ∀ k j, s.jobs k = some j → j.task = k ∧ 0 ≤ k ∧ k < 6
  job : ∀ k j, s.jobs k = some j → 0 ≤ j.deadline ∧ j.deadline ≤ 40000 ∧ 0 ≤ j.left ∧ j.left ≤ 4096
  held : ∀ h ∈ s.held, 0 ≤ h.task ∧ h.task < 6 ∧ h.left ≤ 4096
section
variable {m : Mach} {s : KS} {R x y : Int} {L : List Job}
theorem dead_some (b : Bnd m s) (hL : ListOf s.jobs L) {n : Int} {j : Job} (hj : s.jobs n = some j) : deadO L n = some j.deadline := by
  have ht := (b.jobs n j hj).1
  have hm : j ∈ L := (hL.iff j).2 (by rw [ht]; exact hj)
  unfold deadO
  cases hf : L.find? fun j => j.task == n with
  | none =>
    have := List.find?_eq_none.1 hf j hm
    simp [ht] at this
  | some y =>
    have h1 := List.find?_some hf
    have h2 := (hL.iff y).1 (List.mem_of_find?_eq_some hf)
    have h3 : y.task = n := by simpa using h1
    rw [h3, hj] at h2
    cases h2
    rfl
theorem fromZ_hi (b : Bnd m s) {k : Nat} (hk : k < 6) : 0 ≤ fromZ s.N s.now k ∧ fromZ s.N s.now k ≤ 40000 := by
  have h1 := b.N k hk
  have h2 := b.now
  unfold fromZ
  split <;> omega
theorem may_ok (b : Bnd m s) (hb : Bh s) (hl : LatN s) (hL : ListOf s.jobs L) {i : Nat} (hi : i < 6) (h : mayP s i x) : mayZ s.T s.N L s.now i x = true := by
  unfold mayZ
  rw [Bool.or_eq_true]
  rcases h.2 with ⟨j, hj, hd⟩ | h2
  · left
    rw [dead_some b hL hj]
    exact decide_eq_true hd
  · right
    rw [fZ_from hb hl] at h2
    have h3 := fromZ_hi b hi
    have h4 := b.per i hi
    rw [wze (by omega) (by omega)]
    exact decide_eq_true h2
theorem hindOne_ge (m : Mach) (T : List ATask) (N : List Int) (J : List Job) (now x a : Int) (h : Held) : a ≤ hindOne m T N J now x a h := by
  unfold hindOne
  split
  · split
    · split <;> omega
    · exact Int.le_refl _
  · exact Int.le_refl _
theorem hind_fold (m : Mach) (T : List ATask) (N : List Int) (J : List Job) (now x : Int) : ∀ (H : List Held) (a : Int), a ≤ H.foldl (hindOne m T N J now x) a ∧ (∀ h ∈ H, ∀ d, deadO J h.task = some d → d > x → holdsZ m T N J now h x ≤ H.foldl (hindOne m T N J now x) a) ∧ ∀ B, a ≤ B → (∀ h ∈ H, holdsZ m T N J now h x ≤ B) → H.foldl (hindOne m T N J now x) a ≤ B
  | [], a => ⟨Int.le_refl _, fun h hh => (by cases hh), fun B h _ => h⟩
  | y :: H, a => by
    obtain ⟨h1, h2, h3⟩ := hind_fold m T N J now x H (hindOne m T N J now x a y)
    rw [List.foldl_cons]
    refine ⟨Int.le_trans (hindOne_ge m T N J now x a y) h1, fun u hu d hd hdx => ?_, fun B hB hall => h3 B ?_ fun u hu => hall u (.tail _ hu)⟩
    · rcases List.mem_cons.1 hu with rfl | hu
      · refine Int.le_trans ?_ h1
        unfold hindOne
        rw [hd]
        show _ ≤ if d > x then (if holdsZ m T N J now u x > a then holdsZ m T N J now u x else a) else a
        rw [if_pos hdx]
        split <;> omega
      · exact h2 u hu d hd hdx
    · have := hall y (.head _)
      unfold hindOne
      split
      · split
        · split <;> omega
        · exact hB
      · exact hB
theorem left_in (c : Mc m) {l : Int} (hl : l ≤ 4096) : (if 0 > l then 0 else l) = pos l ∧ 0 ≤ pos l * slowZ m ∧ pos l * slowZ m ≤ 1048576 := by
  obtain ⟨s1, s2⟩ := c.slow
  have h0 := pos_ge l
  have h1 : pos l ≤ 4096 := by
    have := pos_mono hl
    rw [pos_of (x := 4096) (by decide)] at this
    exact this
  have h7 : pos l * slowZ m ≤ 4096 * 256 := Int.mul_le_mul h1 s2 (by omega) (by decide)
  exact ⟨rfl, Int.mul_nonneg h0 (by omega), by omega⟩
theorem hind_in (c : Mc m) (b : Bnd m s) : 0 ≤ hindZ m s.T s.N L s.held s.now x ∧ hindZ m s.T s.N L s.held s.now x ≤ 2097152 := by
  obtain ⟨h1, _, h3⟩ := hind_fold m s.T s.N L s.now x s.held 0
  refine ⟨h1, h3 2097152 (by decide) fun u hu => ?_⟩
  obtain ⟨e, g0, g1⟩ := left_in c (b.held u hu).2.2
  unfold holdsZ
  rw [e]
  split
  · rw [wze (by omega) (by omega)]; omega
  · decide
/-- What is held by those that are due later is taken aside. -/
theorem eh_hind (c : Mc m) (b : Bnd m s) (hb : Bh s) (hl : LatN s) (hL : ListOf s.jobs L) : EhOk m s x (hindZ m s.T s.N L s.held s.now x * 4294967296) := by
  intro p u j i hp hj hx hi hlt hce hm
  have hu := List.mem_of_getElem? hp
  refine ⟨p, u, Nat.le_refl _, hp, rfl, ?_⟩
  obtain ⟨_, h2, _⟩ := hind_fold m s.T s.N L s.now x s.held 0
  have h3 := h2 u hu j.deadline (dead_some b hL hj) hx
  have h4 : blkZ s.T s.N L s.now u x s.T.length = true := by
    unfold blkZ
    rw [List.any_eq_true]
    refine ⟨i, List.mem_range.2 (by rw [b.T]; exact hi), ?_⟩
    have hm' := may_ok b hb hl hL hi hm
    simp only [Bool.and_eq_true, decide_eq_true_eq]
    exact ⟨⟨⟨hm.1, hlt⟩, hce⟩, hm'⟩
  obtain ⟨e, g0, g1⟩ := left_in c (b.held u hu).2.2
  have h5 : holdsZ m s.T s.N L s.now u x = pos u.left * slowZ m := by
    unfold holdsZ
    rw [if_pos h4, e, wze (by omega) (by omega)]
  have h6 : u.left * slowZ m ≤ pos u.left * slowZ m := by
    refine Int.mul_le_mul_of_nonneg_right ?_ (by have := c.slow; omega)
    have e2 : pos u.left = (if 0 > u.left then 0 else u.left) := rfl
    rw [e2]
    split <;> omega
  refine Int.mul_le_mul_of_nonneg_right ?_ (by decide)
  have h7 : holdsZ m s.T s.N L s.now u x ≤ hindZ m s.T s.N L s.held s.now x := h3
  omega
/-- Slack's value is what there is, less what is taken aside. -/
theorem at_le (c : Mc m) (B : Bud m s.T R) (b : Bnd m s) (hb : Bh s) (hl : LatN s) (hL : ListOf s.jobs L) (hl8 : L.length ≤ 8) (hx : 0 ≤ x ∧ x ≤ 100000) : atZ m s.T s.N L s.held s.now x ≤ DZ m s x - hindZ m s.T s.N L s.held s.now x * 4294967296 := by
  have hn := b.now
  have hlm : ∀ j ∈ L, j.left ≤ 4096 := fun j hj => (b.job _ j ((hL.iff j).1 hj)).2.2.2
  rw [at_eq c.b b.T B.u0 (fun k hk => by have := fromZ_hi b hk; omega) hlm hl8 (by omega) (hind_in c b)]
  have hq : ∀ j : Job, 0 ≤ (fun j : Job => if j.deadline ≤ x ∧ j.left ≤ 4096 then QZ m j else 0) j := fun j => by
    show 0 ≤ if j.deadline ≤ x ∧ j.left ≤ 4096 then QZ m j else 0
    split
    · rename_i h
      exact (QZ_in c.b h.2).2.2.1
    · exact Int.le_refl _
  have e0 : sumL (fun j => if j.deadline ≤ x then QZ m j else 0) L = sumL (fun j => if j.deadline ≤ x ∧ j.left ≤ 4096 then QZ m j else 0) L := by
    have : ∀ (L : List Job), (∀ j ∈ L, j.left ≤ 4096) → sumL (fun j => if j.deadline ≤ x then QZ m j else 0) L = sumL (fun j => if j.deadline ≤ x ∧ j.left ≤ 4096 then QZ m j else 0) L := by
      intro L
      induction L with
      | nil => intro _; rfl
      | cons j L ih =>
        intro h
        rw [sumL_cons, sumL_cons, ih fun y hy => h y (.tail _ hy)]
        have := h j (.head _)
        simp [this]
    exact this L hlm
  have h1 : sum6 (fun k => demJ m x (s.jobs k)) ≤ sumL (fun j => if j.deadline ≤ x ∧ j.left ≤ 4096 then QZ m j else 0) L := by
    refine Int.le_trans (Int.le_of_eq ?_) (sumL_jobs hq hL b.jobs)
    congr 1
    funext k
    cases h : s.jobs (k : Int) with
    | none => rfl
    | some j =>
      show (if j.deadline ≤ x then QZ m j else 0) = (if j.deadline ≤ x ∧ j.left ≤ 4096 then QZ m j else 0)
      have := (b.job _ j h).2.2.2
      simp [this]
  have e2 : sum6 (demZ m s x) = sum6 (fun k => demJ m x (s.jobs k)) * 4294967296 + sum6 (fun k => UZ m s.T k * pos (x - fromZ s.N s.now k)) := by
    rw [← sum6_mul, ← sum6_add]
    congr 1
    funext k
    unfold demZ
    rw [fZ_from hb hl]
  rw [e0]
  unfold DZ
  rw [e2]
  generalize hindZ m s.T s.N L s.held s.now x = z0
  generalize sumL (fun j => if j.deadline ≤ x ∧ j.left ≤ 4096 then QZ m j else 0) L = z1 at *
  generalize sum6 (fun k => demJ m x (s.jobs k)) = z2 at *
  generalize sum6 (fun k => UZ m s.T k * pos (x - fromZ s.N s.now k)) = z3
  omega
theorem mom_in (b : Bnd m s) (hb : Bh s) (hl : LatN s) (hL : ListOf s.jobs L) (h : MomE s x) : InMom s.T s.N L s.now x ∧ 0 ≤ x ∧ x ≤ 100000 := by
  obtain ⟨i, hi, ⟨j, hj, rfl⟩ | ⟨h0, rfl⟩⟩ := h
  · have h1 := (b.jobs _ j hj).1
    have h2 := b.job _ j hj
    exact ⟨.inl ⟨j, (hL.iff j).2 (by rw [h1]; exact hj), rfl⟩, h2.1, by omega⟩
  · have h3 := fromZ_hi b hi
    have h4 := b.per i hi
    rw [fZ_from hb hl]
    exact ⟨.inr ⟨i, by rw [b.T]; exact hi, h0, by rw [wze (by omega) (by omega)]⟩, by omega, by omega⟩
/-- What there is at each moment that slack looks at is there behind it. -/
theorem least_ok (c : Mc m) (B : Bud m s.T R) (b : Bnd m s) (hb : Bh s) (hl : LatN s) (hL : ListOf s.jobs L) (hl8 : L.length ≤ 8) {r d : Int} (hd : MomE s d) (h : ∀ y, InMom s.T s.N L s.now y → y ≥ d → r ≤ atZ m s.T s.N L s.held s.now y) (hx : d ≤ x) : Ok m s x (DZ m s x - r) := by
  obtain ⟨y, hy, hdy, hyx, hlast⟩ := mom_last hd hx
  obtain ⟨hi, hy0, hy1⟩ := mom_in b hb hl hL hy
  have h1 := h y hi hdy
  have h2 := at_le c B b hb hl hL hl8 ⟨hy0, hy1⟩
  have h3 := (hind_in (L := L) (x := y) c b).1
  refine ok_last B hyx hlast ⟨?_, (eh_hind c b hb hl hL).mono ?_⟩
  · generalize hindZ m s.T s.N L s.held s.now y = z at *
    omega
  · generalize hindZ m s.T s.N L s.held s.now y = z at *
    omega
end
end Go.Proofs.YtajilfnceoeaiaaGreat.V
/- The scheduler's invariant. Plain. -/
namespace Go.Proofs.YtajilfnceoeaiaaGreat.V
open Go Go.RowKit Enc
set_option maxRecDepth 100000
/-- The stack, and who holds what. -/
structure Nst (s : KS) : Prop where
  nod : s.stack.Nodup
  on : ∀ n, n ∈ s.stack → ∃ j, s.jobs n = some j ∧ j.started = true
  of : ∀ n j, s.jobs n = some j → j.started = true → n ∈ s.stack
  ord : s.stack.Pairwise fun a b => ∀ x y, s.jobs a = some x → s.jobs b = some y → y.lt x
  own : ∀ h ∈ s.held, h.task ∈ s.stack
  cel : s.stack.Pairwise fun a b => ∀ h ∈ s.held, h.task = a → perN s.T b.toNat < ceilZ s.T h.sem
  sec : ∀ h ∈ s.held, usesZ (tk s.T h.task.toNat) h.sem = true ∧ h.left ≤ (tk s.T h.task.toNat).sec.getD h.sem.toNat 0
/-- A device is away no longer than what is known. -/
def DevB (y : Away) : Prop := (y.until_ = 1099511627776 ∨ y.until_ ≤ 40000) ∧ 0 ≤ y.from_ ∧ y.from_ ≤ 17000
/-- Moments of jobs, and of what comes. -/
structure Tms (e : Int) (s : KS) : Prop where
  job : ∀ k j, s.jobs k = some j → 0 < perN s.T k.toNat ∧ 0 ≤ j.release ∧ j.release ≤ s.now ∧ j.deadline = j.release + perN s.T k.toNat ∧ j.deadline ≤ s.N.getD k.toNat 0 ∧ 0 ≤ j.left ∧ j.left ≤ 4096
  lat : ∀ k a c, s.lat k = some (a, c) → 0 < perN s.T k.toNat ∧ s.N.getD k.toNat 0 = a
  aft : ∀ k a c n j, s.lat k = some (a, c) → s.jobs n = some j → j.started = true → j.release < a
  rel : ∀ n j, s.jobs n = some j → j.started = true → j.release < e
  nst : ∀ k n x y, s.jobs k = some x → s.jobs n = some y → x.started = false → y.started = true → x.lt y → perN s.T k.toNat < perN s.T n.toNat
  N : ∀ k : Nat, k < 6 → 0 ≤ s.N.getD k 0 ∧ s.N.getD k 0 ≤ 40000
  dev : ∀ y ∈ s.devs, DevB y
  sec0 : ∀ x ∈ s.T, x.t.period = 0 → x.sec = []
/-- A job has ended: there is time for a switch. -/
def EndOk (m : Mach) (e : Int) (s : KS) : Prop :=
  ∃ E, (∀ x, E ≤ x → MomZ s x → Ok m s x (DZ m s x - m.p.switch * 4294967296)) ∧ (∀ n j, s.stack.getLast? = some n → s.jobs n = some j → E ≤ j.deadline) ∧
    (E ≤ s.now ∨ ∃ r t, E = r + t ∧ r < e ∧ (∀ h ∈ s.held, t < ceilZ s.T h.sem) ∧ (∀ k j, s.jobs k = some j → j.started = false → j.deadline < E → perN s.T k.toNat < t) ∧ ∀ k a c, s.lat k = some (a, c) → r < a)
/-- Asleep: nobody is missed till the CPU is there. -/
structure SlpOk (m : Mach) (s : KS) : Prop where
  stack : s.stack = []
  time : ∀ x, MomZ s x → (s.wake - s.now) * 4294967296 ≤ DZ m s x
  wake : s.now + exitZ m s ≤ s.wake
structure Sch (m : Mach) (e : Int) (s : KS) : Prop where
  bud : ∃ R, Bud m s.T R
  nst : Nst s
  tms : Tms e s
  D : ∀ x, MomZ s x → Ok m s x (DZ m s x)
  top : s.ended = false → ∀ n j, s.stack.getLast? = some n → s.jobs n = some j → ∀ x, j.deadline ≤ x → Ok m s x (DZ m s x - j.left * (lvlP m s.level - lev0 m) * 4294967296)
  fin : s.ended = true → s.stack ≠ [] → EndOk m e s
  slp : s.asleep = true → SlpOk m s
/-- Each job has a cycle yet. -/
def Lft (s : KS) : Prop := ∀ k j, s.jobs k = some j → 1 ≤ j.left
section
variable {m : Mach} {A B : Nat} {s s' : KS} {R x y d d' e : Int} {L : List Job}
theorem Tms.latN (h : Tms e s) : LatN s := fun k a c hk => (h.lat k a c hk).2
theorem perN_tk {T : List ATask} {k : Nat} (hk : k < T.length) : tk T k ∈ T := by
  have : T[k]? = some (tk T k) := by unfold tk; rw [List.getElem?_eq_getElem hk]; rfl
  exact List.mem_of_getElem? this
theorem Sch.bnd (h : Sch m e s) (iv : KInv m A B s) : Bnd m s := by
  have hT := iv.T
  have ck : ∀ k : Nat, k < 6 → 0 ≤ perN s.T k ∧ (perN s.T k = 0 → (tk s.T k).sec = []) ∧ (perN s.T k ≠ 0 → checkZ m (tk s.T k) = 0) := fun k hk => by
    have hm := perN_tk (T := s.T) (k := k) (by omega)
    exact ⟨iv.per _ hm, h.tms.sec0 _ hm, (iv.sec _ hm).2.2⟩
  refine ⟨hT, iv.now, h.tms.N, fun k hk => ?_, iv.jobs, fun k j hj => ?_, fun u hu => ?_⟩
  · obtain ⟨h0, _, h2⟩ := ck k hk
    have hor := iv.mok.hor
    by_cases e : perN s.T k = 0
    · omega
    · have := (checkZ_zero (h2 e)).2.1
      have e2 : perN s.T k = (tk s.T k).t.period := rfl
      omega
  · obtain ⟨_, h0, h6⟩ := iv.jobs k j hj
    obtain ⟨g1, g2, g3, g4, g5, g6, g7⟩ := h.tms.job k j hj
    have := h.tms.N k.toNat (by omega)
    omega
  · obtain ⟨g0, g1⟩ := iv.held u hu
    obtain ⟨g2, g3⟩ := h.nst.sec u hu
    refine ⟨g0, g1, ?_⟩
    obtain ⟨_, h1, h2⟩ := ck u.task.toNat (by omega)
    by_cases e : perN s.T u.task.toNat = 0
    · have := h1 e
      simp [usesZ, this] at g2
    · have := (checkZ_sec (h2 e) u.sem.toNat).2
      omega
/-! ### what is held, before and behind -/
/-- What is held comes from what was held. -/
def HeldTo (H H' : List Held) : Prop := ∀ (p : Nat) (h' : Held), H'[p]? = some h' → ∃ p0 h, H[p0]? = some h ∧ h.task = h'.task ∧ h.sem = h'.sem ∧ ∀ (q : Nat) (u : Held), q ≤ p0 → H[q]? = some u → u.task = h.task → ∃ q' u', q' ≤ p ∧ H'[q']? = some u' ∧ u'.task = u.task ∧ u'.left ≤ u.left
theorem HeldTo.refl (H : List Held) : HeldTo H H := fun p h hp => ⟨p, h, hp, rfl, rfl, fun q u hq hu _ => ⟨q, u, hq, hu, rfl, Int.le_refl _⟩⟩
theorem filter_at {α : Type} (f : α → Bool) : ∀ (l : List α) (p : Nat) (h : α), (l.filter f)[p]? = some h → ∃ p0 : Nat, l[p0]? = some h ∧ ∀ (q : Nat) (u : α), q ≤ p0 → l[q]? = some u → f u = true → ∃ q', q' ≤ p ∧ (l.filter f)[q']? = some u
  | [], p, h, hp => by cases hp
  | a :: l, p, h, hp => by
    rw [List.filter_cons] at hp
    rw [List.filter_cons]
    by_cases fa : f a = true
    · rw [if_pos fa] at hp ⊢
      cases p with
      | zero =>
        cases hp
        refine ⟨0, rfl, fun q u hq hu _ => ?_⟩
        have : q = 0 := by omega
        subst this
        exact ⟨0, Nat.le_refl _, hu⟩
      | succ p =>
        obtain ⟨p0, h1, h2⟩ := filter_at f l p h hp
        refine ⟨p0 + 1, h1, fun q u hq hu hf => ?_⟩
        cases q with
        | zero => exact ⟨0, Nat.zero_le _, hu⟩
        | succ q =>
          obtain ⟨q', g1, g2⟩ := h2 q u (by omega) hu hf
          exact ⟨q' + 1, by omega, g2⟩
    · rw [if_neg fa] at hp ⊢
      obtain ⟨p0, h1, h2⟩ := filter_at f l p h hp
      refine ⟨p0 + 1, h1, fun q u hq hu hf => ?_⟩
      cases q with
      | zero => cases hu; exact absurd hf fa
      | succ q => exact h2 q u (by omega) hu hf
theorem HeldTo.filter (H : List Held) (n : Int) : HeldTo H (H.filter fun x => !(x.task == n)) := fun p h hp => by
  obtain ⟨p0, h1, h2⟩ := filter_at _ H p h hp
  have hf := (List.mem_filter.1 (List.mem_of_getElem? hp)).2
  refine ⟨p0, h, h1, rfl, rfl, fun q u hq hu ht => ?_⟩
  obtain ⟨q', g1, g2⟩ := h2 q u hq hu (by rw [ht]; exact hf)
  exact ⟨q', u, g1, g2, rfl, Int.le_refl _⟩
theorem HeldTo.erase {H : List Held} {n : Int} {i : Nat} (hl : LastOf H n i) : HeldTo H (H.eraseIdx i) := fun p h hp => by
  obtain ⟨_, ⟨x, hx, hxn⟩, hlast⟩ := hl
  rw [List.getElem?_eraseIdx] at hp
  have key : ∀ p0 : Nat, (p0 = if p < i then p else p + 1) → H[p0]? = some h → ∃ p0 h0, H[p0]? = some h0 ∧ h0.task = h.task ∧ h0.sem = h.sem ∧ ∀ (q : Nat) (u : Held), q ≤ p0 → H[q]? = some u → u.task = h0.task → ∃ q' u', q' ≤ p ∧ (H.eraseIdx i)[q']? = some u' ∧ u'.task = u.task ∧ u'.left ≤ u.left := by
    intro p0 hp0 hh
    refine ⟨p0, h, hh, rfl, rfl, fun q u hq hu ht => ?_⟩
    have hpi : p0 ≠ i := by rw [hp0]; split <;> omega
    by_cases hqi : q = i
    · subst hqi
      rw [hx] at hu
      cases hu
      have : q < p0 := by omega
      exact absurd (ht.symm.trans hxn) (hlast p0 h this hh)
    · by_cases hlt : q < i
      · refine ⟨q, u, ?_, by rw [List.getElem?_eraseIdx, if_pos hlt]; exact hu, rfl, Int.le_refl _⟩
        rw [hp0] at hq
        by_cases g : p < i
        · rw [if_pos g] at hq; exact hq
        · omega
      · refine ⟨q - 1, u, ?_, ?_, rfl, Int.le_refl _⟩
        · rw [hp0] at hq
          by_cases g : p < i
          · rw [if_pos g] at hq; omega
          · rw [if_neg g] at hq; omega
        · rw [List.getElem?_eraseIdx, if_neg (by omega), show q - 1 + 1 = q by omega]
          exact hu
  by_cases g : p < i
  · rw [if_pos g] at hp
    exact key p (by rw [if_pos g]) hp
  · rw [if_neg g] at hp
    exact key (p + 1) (by rw [if_neg g]) hp
theorem spendZ_left {n : Int} {h : Held} (hl : 0 ≤ h.left + 1000) (hh : h.left ≤ 4096) : (spendZ n h).task = h.task ∧ (spendZ n h).sem = h.sem ∧ (spendZ n h).left = (if h.task = n then h.left - 1 else h.left) := by
  unfold spendZ
  by_cases g : h.task = n
  · rw [if_pos g, if_pos g]
    exact ⟨rfl, rfl, wze (by omega) (by omega)⟩
  · rw [if_neg g, if_neg g]
    exact ⟨rfl, rfl, rfl⟩
theorem EhOk.to (hs : 0 ≤ slowZ m) (hT : s'.T = s.T) (hj : ∀ n j', s'.jobs n = some j' → x < j'.deadline → (∃ h ∈ s'.held, h.task = n) → ∃ j, s.jobs n = some j ∧ x < j.deadline) (hm : ∀ i, i < 6 → mayP s' i x → mayP s i x) (hh : HeldTo s.held s'.held) (h : EhOk m s x d) : EhOk m s' x d := by
  intro p u' j' i hp hj' hx hi hlt hce hmay
  obtain ⟨p0, u, h1, h2, h3, h4⟩ := hh p u' hp
  obtain ⟨j, g1, g2⟩ := hj _ j' hj' hx ⟨u', List.mem_of_getElem? hp, rfl⟩
  rw [hT] at hlt hce
  rw [← h2] at hlt g1
  rw [← h3] at hce
  obtain ⟨q, v, k1, k2, k3, k4⟩ := h p0 u j i h1 g1 g2 hi hlt hce (hm i hi hmay)
  obtain ⟨q', v', l1, l2, l3, l4⟩ := h4 q v k1 k2 k3
  refine ⟨q', v', l1, l2, by rw [l3, k3, h2], Int.le_trans ?_ k4⟩
  exact Int.mul_le_mul_of_nonneg_right (Int.mul_le_mul_of_nonneg_right l4 hs) (by decide)
theorem Ok.to (hs : 0 ≤ slowZ m) (hT : s'.T = s.T) (hj : ∀ n j', s'.jobs n = some j' → x < j'.deadline → (∃ h ∈ s'.held, h.task = n) → ∃ j, s.jobs n = some j ∧ x < j.deadline) (hm : ∀ i, i < 6 → mayP s' i x → mayP s i x) (hh : HeldTo s.held s'.held) (hd : d ≤ d') (h : Ok m s x d) : Ok m s' x d' :=
  Ok.mono ⟨h.1, h.2.to hs hT hj hm hh⟩ hd
/-- Nobody holds anything: there is time, just if there is. -/
theorem Ok.non (hh : s.held = []) (h : 0 ≤ d) : Ok m s x d := ⟨h, fun p u j i hp => by rw [hh] at hp; cases hp⟩
/-! ### no job is due -/
theorem Sch.none_due (c : Mc m) (h : Sch m e s) (hb : Bh s) {i : Nat} (hi : i < 6) (hm : mayP s i x) (hj : ∀ k : Nat, k < 6 → ∀ j, s.jobs k = some j → x < j.deadline) :
    s.now ≤ x ∧ mxS m * 4294967296 ≤ DZ m s x ∧ ∀ (l : Nat) (sem : Int), l < 6 → perN s.T i < perN s.T l → ceilZ s.T sem ≤ perN s.T i → usesZ (tk s.T l) sem = true → ((tk s.T l).sec.getD sem.toNat 0 * slowZ m + mxS m) * 4294967296 ≤ DZ m s x := by
  obtain ⟨R, B⟩ := h.bud
  have hf := fun k : Nat => fZ_ge hb h.tms.latN k
  have h0 := hm.1
  have h1 : fZ s i + perN s.T i ≤ x := by
    rcases hm.2 with ⟨j, hjj, hd⟩ | h2
    · have := hj i hi j hjj
      omega
    · exact h2
  have h2 := hf i
  have h3 := idle_ge B (fun k _ => hf k) (x := x) (by omega) hj
  have h4 : R * perN s.T i ≤ R * (x - s.now) := Int.mul_le_mul_of_nonneg_left (by omega) B.r0
  refine ⟨by omega, ?_, fun l sem hl hlt hce hu => ?_⟩
  · have := B.one i hi h0
    omega
  · have := B.blk i l sem hi hl h0 hlt hce hu
    omega
/-- There is time for a step of any kind. -/
theorem Sch.none_ok (c : Mc m) (h : Sch m e s) (hb : Bh s) (hj : ∀ k : Nat, k < 6 → ∀ j, s.jobs k = some j → x < j.deadline) {cost : Int} (hc : cost ≤ mxS m) (hT : s'.T = s.T) (hm : ∀ i, i < 6 → mayP s' i x → mayP s i x) (hmom : MomZ s' x)
    (hh : ∀ u ∈ s'.held, (0 ≤ u.task ∧ u.task < 6) ∧ usesZ (tk s.T u.task.toNat) u.sem = true ∧ u.left ≤ (tk s.T u.task.toNat).sec.getD u.sem.toNat 0) (hd : DZ m s x - cost * 4294967296 ≤ d) : Ok m s' x d := by
  obtain ⟨i, hi, hmi⟩ := hmom
  refine ⟨?_, fun p u j i hp hjj hx hi hlt hce hmay => ?_⟩
  · obtain ⟨_, h1, _⟩ := h.none_due c hb hi (hm i hi hmi) hj
    omega
  · obtain ⟨_, _, h2⟩ := h.none_due c hb hi (hm i hi hmay) hj
    obtain ⟨g0, g1, g2⟩ := hh u (List.mem_of_getElem? hp)
    rw [hT] at hlt hce
    have h3 := h2 u.task.toNat u.sem (by omega) hlt hce g1
    have h4 : u.left * slowZ m ≤ (tk s.T u.task.toNat).sec.getD u.sem.toNat 0 * slowZ m := Int.mul_le_mul_of_nonneg_right g2 (by have := c.slow; omega)
    refine ⟨p, u, Nat.le_refl _, hp, rfl, ?_⟩
    generalize (tk s.T u.task.toNat).sec.getD u.sem.toNat 0 * slowZ m = z at *
    omega
/-- No job is late. -/
theorem Sch.due (c : Mc m) (h : Sch m e s) (iv : KInv m A B s) (hl : Lft s) {k : Int} {j : Job} (hj : s.jobs k = some j) : s.now < j.deadline ∧ s.now + j.left * lev0 m + m.p.switch ≤ j.deadline := by
  obtain ⟨_, h0, h6⟩ := iv.jobs k j hj
  obtain ⟨i, rfl⟩ : ∃ i : Nat, k = i := ⟨k.toNat, by omega⟩
  have hper := (h.tms.job i j hj).1
  rw [Int.toNat_natCast] at hper
  have hD := (h.D j.deadline ⟨i, by omega, hper, .inl ⟨j, hj, Int.le_refl _⟩⟩).1
  obtain ⟨R, B⟩ := h.bud
  have hleft := hl i j hj
  have hq := h.tms.job i j hj
  obtain ⟨p0, p1⟩ := c.b.p0
  obtain ⟨w0, w1⟩ := c.b.sw
  have hn : ∀ k, k < 6 → 0 ≤ demZ m s j.deadline k := fun k hk => by
    unfold demZ
    have h1 : 0 ≤ demJ m j.deadline (s.jobs k) := by
      cases hjk : s.jobs (k : Int) with
      | none => exact Int.le_refl _
      | some y =>
        show 0 ≤ if y.deadline ≤ j.deadline then QZ m y else 0
        have := (QZ_in c.b (h.tms.job k y hjk).2.2.2.2.2.2).2.2.1
        split
        · exact this
        · exact Int.le_refl _
    have h2 : 0 ≤ UZ m s.T k * pos (j.deadline - fZ s k) := Int.mul_nonneg (B.u0 k hk).1 (pos_ge _)
    omega
  have hi : demZ m s j.deadline i ≥ (j.left * lev0 m + m.p.switch) * 4294967296 := by
    unfold demZ
    have h2 : 0 ≤ UZ m s.T i * pos (j.deadline - fZ s i) := Int.mul_nonneg (B.u0 i (by omega)).1 (pos_ge _)
    rw [hj]
    have e : demJ m j.deadline (some j) = QZ m j := if_pos (Int.le_refl _)
    have h3 : j.left * lev0 m + m.p.switch ≤ QZ m j := by
      unfold QZ
      rw [pos_of (by omega)]
      split <;> omega
    rw [e]
    have : (j.left * lev0 m + m.p.switch) * 4294967296 ≤ QZ m j * 4294967296 := Int.mul_le_mul_of_nonneg_right h3 (by decide)
    omega
  have hs : (j.left * lev0 m + m.p.switch) * 4294967296 ≤ sum6 (demZ m s j.deadline) := by
    have h0 := hn 0 (by decide); have h1 := hn 1 (by decide); have h2 := hn 2 (by decide); have h3 := hn 3 (by decide); have h4 := hn 4 (by decide); have h5 := hn 5 (by decide)
    have : i = 0 ∨ i = 1 ∨ i = 2 ∨ i = 3 ∨ i = 4 ∨ i = 5 := by omega
    unfold sum6
    generalize j.left * lev0 m = z at *
    rcases this with rfl | rfl | rfl | rfl | rfl | rfl <;> omega
  unfold DZ at hD
  have hp : 1 ≤ j.left * lev0 m := by
    have : 1 * 1 ≤ j.left * lev0 m := Int.mul_le_mul hleft p0 (by decide) (by omega)
    omega
  generalize j.left * lev0 m = z at *
  generalize sum6 (demZ m s j.deadline) = z2 at *
  constructor <;> omega
end
end Go.Proofs.YtajilfnceoeaiaaGreat.V
/- The scheduler's invariant: a job comes; what does not matter. Plain. -/
namespace Go.Proofs.YtajilfnceoeaiaaGreat.V
open Go Go.RowKit Enc
set_option maxRecDepth 100000
section
variable {m : Mach} {A B : Nat} {s s' : KS} {R x y d d' e e' : Int} {L : List Job}
theorem upd_self {α : Type} (f : Int → α) (k : Int) (v : α) : upd f k v k = v := if_pos rfl
theorem upd_other {α : Type} (f : Int → α) {k q : Int} (v : α) (h : q ≠ k) : upd f k v q = f q := if_neg h
theorem Sch.mono (h : Sch m e s) (he : e ≤ e') : Sch m e' s := by
  refine ⟨h.bud, h.nst, ⟨h.tms.job, h.tms.lat, h.tms.aft, fun n j h1 h2 => Int.lt_of_lt_of_le (h.tms.rel n j h1 h2) he, h.tms.nst, h.tms.N, h.tms.dev, h.tms.sec0⟩, h.D, h.top, fun h1 h2 => ?_, h.slp⟩
  obtain ⟨E, g1, g2, g3⟩ := h.fin h1 h2
  refine ⟨E, g1, g2, ?_⟩
  rcases g3 with g3 | ⟨r, t, k1, k2, k3⟩
  · exact .inl g3
  · exact .inr ⟨r, t, k1, Int.lt_of_lt_of_le k2 he, k3⟩
/-- What does not matter. -/
theorem Sch.same (h : Sch m e s) (e1 : s'.now = s.now) (e2 : s'.T = s.T) (e3 : s'.N = s.N) (e4 : s'.jobs = s.jobs) (e5 : s'.stack = s.stack) (e6 : s'.ended = s.ended) (e7 : s'.held = s.held) (e8 : s'.lat = s.lat) (e9 : s'.asleep = s.asleep) (e10 : s'.state = s.state) (e11 : s'.wake = s.wake) (e12 : s'.level = s.level)
    (hd : ∀ y ∈ s'.devs, DevB y) : Sch m e s' := by
  cases s
  cases s'
  dsimp only at e1 e2 e3 e4 e5 e6 e7 e8 e9 e10 e11 e12
  subst e1 e2 e3 e4 e5 e6 e7 e8 e9 e10 e11 e12
  exact ⟨h.bud, ⟨h.nst.nod, h.nst.on, h.nst.of, h.nst.ord, h.nst.own, h.nst.cel, h.nst.sec⟩, ⟨h.tms.job, h.tms.lat, h.tms.aft, h.tms.rel, h.tms.nst, h.tms.N, hd, h.tms.sec0⟩, h.D, h.top, h.fin, fun ha => ⟨(h.slp ha).stack, (h.slp ha).time, (h.slp ha).wake⟩⟩
theorem getD_set_self {l : List Int} {i : Nat} (h : i < l.length) (v : Int) : (l.set i v).getD i 0 = v := by
  rw [List.getD_eq_getElem?_getD, List.getElem?_set_self h]
  rfl
theorem getD_set_ne {l : List Int} {i j : Nat} (h : i ≠ j) (v : Int) : (l.set i v).getD j 0 = l.getD j 0 := by
  rw [List.getD_eq_getElem?_getD, List.getElem?_set_ne h, ← List.getD_eq_getElem?_getD]
/-- What the switches, the naps and the locks need of a new state, where tasks stay. -/
theorem Sch.carry (c : Mc m) (h : Sch m e s) (hT : s'.T = s.T) (hst : s'.stack = s.stack) (hen : s'.ended = s.ended) (hlv : s'.level = s.level) (hnow : s'.now = s.now) (hhd : s'.held = s.held) (hjs : ∀ k, (∃ j, s.jobs k = some j) → s'.jobs k = s.jobs k) (hjn : ∀ k j, s'.jobs k = some j → s.jobs k = none → j.started = false)
    (hlat : ∀ k a c, s'.lat k = some (a, c) → s.lat k = some (a, c) ∨ e ≤ a) (hcome : ∀ k j r t, s'.jobs k = some j → s.jobs k = none → (∀ k a c, s.lat k = some (a, c) → r < a) → j.deadline < r + t → perN s.T k.toNat < t)
    (hm : ∀ x i, i < 6 → mayP s' i x → mayP s i x) (hD : ∀ x, DZ m s x ≤ DZ m s' x) :
    (∀ x, MomZ s' x → Ok m s' x (DZ m s' x)) ∧ (s'.ended = false → ∀ n j, s'.stack.getLast? = some n → s'.jobs n = some j → ∀ x, j.deadline ≤ x → Ok m s' x (DZ m s' x - j.left * (lvlP m s'.level - lev0 m) * 4294967296)) ∧ (s'.ended = true → s'.stack ≠ [] → EndOk m e s') := by
  have hs0 : 0 ≤ slowZ m := by have := c.slow; omega
  have hmom : ∀ x, MomZ s' x → MomZ s x := fun x ⟨i, hi, h1⟩ => ⟨i, hi, hm x i hi h1⟩
  have onj : ∀ n, n ∈ s.stack → s'.jobs n = s.jobs n := fun n hn => by
    obtain ⟨j, hj, _⟩ := h.nst.on n hn
    exact hjs n ⟨j, hj⟩
  have ok : ∀ x d d', d ≤ d' → Ok m s x d → Ok m s' x d' := fun x d d' hd ho => by
    refine ho.to hs0 hT (fun n j' hj' hx ⟨u, hu, hun⟩ => ?_) (hm x) (by rw [hhd]; exact .refl _) hd
    rw [hhd] at hu
    have := h.nst.own u hu
    rw [hun] at this
    rw [onj n this] at hj'
    exact ⟨j', hj', hx⟩
  refine ⟨fun x hx => ok x _ _ (hD x) (h.D x (hmom x hx)), fun he n j hn hj x hx => ?_, fun he hne => ?_⟩
  · rw [hst] at hn
    rw [onj n (List.mem_of_getLast? hn)] at hj
    rw [hlv]
    exact ok x _ _ (by have := hD x; omega) (h.top (by rw [← hen]; exact he) n j hn hj x hx)
  · obtain ⟨E, g1, g2, g3⟩ := h.fin (by rw [← hen]; exact he) (by rw [← hst]; exact hne)
    refine ⟨E, fun x hx hmx => ok x _ _ (by have := hD x; omega) (g1 x hx (hmom x hmx)), fun n j hn hj => ?_, ?_⟩
    · rw [hst] at hn
      rw [onj n (List.mem_of_getLast? hn)] at hj
      exact g2 n j hn hj
    · rcases g3 with g3 | ⟨r, t, k1, k2, k3, k4, k5⟩
      · exact .inl (by rw [hnow]; exact g3)
      · refine .inr ⟨r, t, k1, k2, by rw [hhd, hT]; exact k3, fun k j hj hst hd => ?_, fun k a c hk => ?_⟩
        · rw [hT]
          cases ho : s.jobs k with
          | some j0 =>
            rw [hjs k ⟨j0, ho⟩] at hj
            exact k4 k j hj hst hd
          | none => exact hcome k j r t hj ho k5 (by omega)
        · rcases hlat k a c hk with h1 | h1
          · exact k5 k a c h1
          · omega
/-- A job comes. -/
theorem Sch.rel (c : Mc m) (iv : KInv m A B s) (h : Sch m e s) (hl : Lft s) (hr : RelOne s s') : Sch m e s' ∧ Lft s' := by
  obtain ⟨n, at_, cyc, t, hlat, hd, _, ht, rfl⟩ := hr
  obtain ⟨h0, h6⟩ := iv.lat n _ hlat
  obtain ⟨i, rfl⟩ : ∃ i : Nat, n = i := ⟨n.toNat, by omega⟩
  rw [Int.toNat_natCast] at ht
  obtain ⟨hper, hNi⟩ := h.tms.lat _ _ _ hlat
  have b := h.bnd iv
  have hNl := iv.N
  have hTl := iv.T
  have hi6 : i < 6 := by omega
  rw [Int.toNat_natCast] at hper hNi
  have htk : tk s.T i = t := tk_some ht
  have hpt : perN s.T i = t.t.period := by unfold perN; rw [htk]
  have hp1 := b.per i hi6
  have hN1 := b.N i hi6
  have hnow := b.now
  have hdl : (jobNew i t.t at_ cyc).deadline = at_ + t.t.period := wze (by omega) (by omega)
  have hck : checkZ m t = 0 := (iv.sec t (List.mem_of_getElem? ht)).2.2 (by omega)
  obtain ⟨_, _, hc1, hc2, _⟩ := checkZ_zero hck
  have hnone : s.jobs i = none := by
    cases hj : s.jobs (i : Int) with
    | none => rfl
    | some j =>
      have h1 := (h.due c iv hl hj).1
      have h2 := (h.tms.job i j hj).2.2.2.2.1
      rw [Int.toNat_natCast] at h2
      omega
  rw [Int.toNat_natCast, hdl]
  generalize hJ : jobNew i t.t at_ cyc = J at *
  have hJd : J.deadline = at_ + t.t.period := hdl
  have hJl : J.left = t.t.cycles := by rw [← hJ]; rfl
  have hJs : J.started = false := by rw [← hJ]; rfl
  have hJr : J.release = at_ := by rw [← hJ]; rfl
  generalize hs' : tellZ { s with lat := upd s.lat (i : Int) none, jobs := upd s.jobs (i : Int) (some J), N := s.N.set i (at_ + t.t.period), U := s.U.set i J.left } 1 (i : Int) at_ (at_ + t.t.period) = s'
  have eT : s'.T = s.T := by rw [← hs']; rfl
  have eN : s'.N = s.N.set i (at_ + t.t.period) := by rw [← hs']; rfl
  have ej : s'.jobs = upd s.jobs (i : Int) (some J) := by rw [← hs']; rfl
  have el : s'.lat = upd s.lat (i : Int) none := by rw [← hs']; rfl
  have en : s'.now = s.now := by rw [← hs']; rfl
  have est : s'.stack = s.stack := by rw [← hs']; rfl
  have ehd : s'.held = s.held := by rw [← hs']; rfl
  have jne : ∀ k : Int, k ≠ i → s'.jobs k = s.jobs k := fun k hk => by rw [ej]; exact upd_other _ _ hk
  have jself : s'.jobs i = some J := by rw [ej]; exact upd_self _ _ _
  have lne : ∀ k : Int, k ≠ i → s'.lat k = s.lat k := fun k hk => by rw [el]; exact upd_other _ _ hk
  have lself : s'.lat i = none := by rw [el]; exact upd_self _ _ _
  have Nne : ∀ k : Nat, k ≠ i → s'.N.getD k 0 = s.N.getD k 0 := fun k hk => by rw [eN]; exact getD_set_ne (Ne.symm hk) _
  have Nself : s'.N.getD i 0 = at_ + t.t.period := by rw [eN]; exact getD_set_self (by omega) _
  have cne : ∀ k : Nat, k ≠ i → ((k : Nat) : Int) ≠ i := fun k hk => by omega
  have fne : ∀ k : Nat, k ≠ i → fZ s' k = fZ s k := fun k hk => by
    unfold fZ fromZ
    rw [lne k (cne k hk), Nne k hk, en]
  have fold_ : fZ s i = at_ := by
    unfold fZ
    rw [hlat]
    exact hNi
  have fself : at_ + t.t.period ≤ fZ s' i := by
    unfold fZ fromZ
    rw [lself, Nself]
    show _ ≤ if at_ + t.t.period > s'.now then at_ + t.t.period else s'.now
    split <;> omega
  have hm : ∀ x k, k < 6 → mayP s' k x → mayP s k x := fun x k hk hk' => by
    unfold mayP at hk' ⊢
    rw [eT] at hk'
    refine ⟨hk'.1, ?_⟩
    by_cases e : k = i
    · subst e
      right
      rw [fold_, hpt]
      rcases hk'.2 with ⟨j, hj, hd⟩ | h2
      · rw [jself] at hj
        cases hj
        omega
      · omega
    · rw [jne k (cne k e), fne k e] at hk'
      exact hk'.2
  obtain ⟨R, Bd⟩ := h.bud
  have hD : ∀ x, DZ m s x ≤ DZ m s' x := fun x => by
    have : sum6 (demZ m s' x) ≤ sum6 (demZ m s x) := by
      refine sum6_le fun k hk => ?_
      unfold demZ
      rw [eT]
      by_cases e : k = i
      · subst e
        rw [jself, hnone, fold_]
        have hU := (Bd.u0 k hi6).1
        have hjob := Bd.job k hi6 hper
        rw [htk, hpt] at hjob
        have e0 : demJ m x (none : Option Job) = 0 := rfl
        rw [e0, Int.zero_mul, Int.zero_add]
        by_cases hx : at_ + t.t.period ≤ x
        · have e1 : demJ m x (some J) = QZ m J := if_pos (by omega)
          have e2 : QZ m J = t.t.cycles * lev0 m + 2 * m.p.switch := by
            unfold QZ
            rw [hJs, hJl, pos_of (by omega)]
            simp only [Bool.false_eq_true, if_false]
            omega
          rw [e1, e2]
          have h1 : UZ m s.T k * pos (x - fZ s' k) ≤ UZ m s.T k * (x - at_ - t.t.period) := by
            refine Int.mul_le_mul_of_nonneg_left ?_ hU
            have := pos_mono (x := x - fZ s' k) (y := x - at_ - t.t.period) (by omega)
            rw [pos_of (x := x - at_ - t.t.period) (by omega)] at this
            exact this
          rw [pos_of (x := x - at_) (by omega)]
          have h2 : UZ m s.T k * (x - at_) = UZ m s.T k * (x - at_ - t.t.period) + UZ m s.T k * t.t.period := by
            rw [← Int.mul_add]
            congr 1
            omega
          omega
        · have e1 : demJ m x (some J) = 0 := if_neg (by omega)
          rw [e1, pos_zero (x := x - fZ s' k) (by omega), Int.mul_zero, Int.zero_mul]
          have := Int.mul_nonneg hU (pos_ge (x - at_))
          omega
      · rw [jne k (cne k e), fne k e]
        exact Int.le_refl _
    unfold DZ
    rw [en]
    omega
  have on : ∀ n ∈ s.stack, n ≠ i := fun n hn hni => by
    obtain ⟨j, hj, _⟩ := h.nst.on n hn
    rw [hni, hnone] at hj
    cases hj
  have stj : ∀ k j, s'.jobs k = some j → j.started = true → k ≠ i ∧ s.jobs k = some j := fun k j hj hs => by
    by_cases e : k = i
    · rw [e, jself] at hj
      cases hj
      rw [hJs] at hs
      cases hs
    · exact ⟨e, by rw [← jne k e]; exact hj⟩
  obtain ⟨hDn, htop, hfin⟩ := h.carry (s' := s') c eT est (by rw [← hs']; rfl) (by rw [← hs']; rfl) en ehd
    (fun k ⟨j, hj⟩ => jne k fun e => by rw [e, hnone] at hj; cases hj)
    (fun k j hj hn => by
      by_cases e : k = i
      · rw [e, jself] at hj; cases hj; exact hJs
      · rw [jne k e, hn] at hj; cases hj)
    (fun k a cc hk => .inl (by
      by_cases e : k = i
      · rw [e, lself] at hk; cases hk
      · rw [← lne k e]; exact hk))
    (fun k j r tt hj hn hlr hdd => by
      by_cases e : k = i
      · rw [e, jself] at hj
        cases hj
        have := hlr i at_ cyc hlat
        rw [e, Int.toNat_natCast, hpt]
        omega
      · rw [jne k e, hn] at hj; cases hj)
    hm hD
  refine ⟨⟨⟨R, by rw [eT]; exact Bd⟩, ⟨by rw [est]; exact h.nst.nod, fun k hk => ?_, fun k j hj hs => ?_, ?_, by rw [ehd, est]; exact h.nst.own, by rw [ehd, est, eT]; exact h.nst.cel, by rw [ehd, eT]; exact h.nst.sec⟩,
    ⟨fun k j hj => ?_, fun k a cc hk => ?_, fun k a cc k2 j hk hj hs => ?_, fun k j hj hs => h.tms.rel k j (stj k j hj hs).2 hs, fun k k2 u v hu hv hus hvs hlt => ?_, fun k hk => ?_, by rw [← hs']; exact h.tms.dev, by rw [eT]; exact h.tms.sec0⟩, hDn, htop, hfin, fun ha => ?_⟩, fun k j hj => ?_⟩
  · rw [est] at hk
    rw [jne k (on k hk)]
    exact h.nst.on k hk
  · rw [est]
    exact h.nst.of k j (stj k j hj hs).2 hs
  · rw [est]
    refine h.nst.ord.imp_of_mem fun {a b} ha hb hab u v hu hv => ?_
    rw [jne a (on a ha)] at hu
    rw [jne b (on b hb)] at hv
    exact hab u v hu hv
  · rw [eT, en]
    by_cases e : k = i
    · rw [e, jself] at hj
      cases hj
      rw [e, Int.toNat_natCast, Nself, hpt]
      omega
    · rw [jne k e] at hj
      have := iv.jobs k j hj
      rw [Nne k.toNat (by omega)]
      exact h.tms.job k j hj
  · by_cases e : k = i
    · rw [e, lself] at hk; cases hk
    · rw [lne k e] at hk
      have := iv.lat k _ hk
      rw [eT, Nne k.toNat (by omega)]
      exact h.tms.lat k a cc hk
  · by_cases e : k = i
    · rw [e, lself] at hk; cases hk
    · rw [lne k e] at hk
      exact h.tms.aft k a cc k2 j hk (stj k2 j hj hs).2 hs
  · rw [eT]
    obtain ⟨_, hv⟩ := stj k2 v hv hvs
    by_cases e : k = i
    · rw [e, jself] at hu
      cases hu
      have h1 := h.tms.aft i at_ cyc k2 v hlat hv hvs
      have h2 := (h.tms.job k2 v hv).2.2.2.1
      rw [e, Int.toNat_natCast, hpt]
      simp only [Job.lt] at hlt
      omega
    · rw [jne k e] at hu
      exact h.tms.nst k k2 u v hu hv hus hvs hlt
  · by_cases e : k = i
    · rw [e, Nself]; omega
    · rw [Nne k e]; exact h.tms.N k hk
  · have ha' : s.asleep = true := by rw [← hs'] at ha; exact ha
    have hs := h.slp ha'
    refine ⟨by rw [est]; exact hs.stack, fun x hx => ?_, by rw [← hs']; exact hs.wake⟩
    obtain ⟨k, hk, h1⟩ := hx
    have h2 := hs.time x ⟨k, hk, hm x k hk h1⟩
    have h3 := hD x
    have ew : s'.wake = s.wake := by rw [← hs']; rfl
    rw [ew, en]
    omega
  · by_cases e : k = i
    · rw [e, jself] at hj
      cases hj
      omega
    · rw [jne k e] at hj
      exact hl k j hj
end
end Go.Proofs.YtajilfnceoeaiaaGreat.V
