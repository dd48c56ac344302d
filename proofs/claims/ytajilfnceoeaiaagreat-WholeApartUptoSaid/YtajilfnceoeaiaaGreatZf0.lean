/- Parts of the proof: Propositions of function bodies, printed by a program, Switches: no more than jobs came and ended; each leads to another level; each cycle runs at the level that was chosen last. Plain, Whenever a device is on, it has cost no more than if it had never been away. Plain, A timer is told for each of its moments, in order, at the first boundary from it on. Plain, Jobs of one task come no closer than i. -/
import Derived.Test.YtajilfnceoeaiaaGreatZa12
set_option linter.unusedVariables false
set_option linter.unusedSimpArgs false
/- Propositions of function bodies, printed by a program. -/
namespace Go.Proofs.YtajilfnceoeaiaaGreat.V
open Go
set_option linter.unusedVariables false
set_option maxRecDepth 100000
theorem f5_of (p : Plat) (steps : Sl) {K : Bool → World → Prop} {w : World} (vc :
 New [.slice p.levels.a p.levels.n p.levels.c, .slice p.sleeps.a p.sleeps.n p.sleeps.c, .slice p.devices.a p.devices.n p.devices.c, .int .i64 p.idle, .int .i64 p.crit, .int .i64 p.switch, .int .i64 p.switchE, .int .i64 p.sems, .int .i64 p.horizon] 26 (fun a1 w =>
 LdN shPlat.cs 0 a1 (fun s2 s3 s4 n5 n6 n7 n8 n9 n10 w =>
 Call P 11 [.agg #[.slice s2.a s2.n s2.c, .slice s3.a s3.n s3.c, .slice s4.a s4.n s4.c, .int .i64 n5, .int .i64 n6, .int .i64 n7, .int .i64 n8, .int .i64 n9, .int .i64 n10]] [sP] (fun p11 w =>
 If (Option.isNone p11) (
 LdN shPlat.cs 0 a1 (fun s12 s13 s14 n15 n16 n17 n18 n19 n20 w =>
 Call P 12 [.agg #[.slice s12.a s12.n s12.c, .slice s13.a s13.n s13.c, .slice s14.a s14.n s14.c, .int .i64 n15, .int .i64 n16, .int .i64 n17, .int .i64 n18, .int .i64 n19, .int .i64 n20]] [sB] (fun b21 w =>
 K b21 w) w) w) (
 New [.int .i64 0, .int .i64 0, .int .i64 0, .int .i64 0, .int .i64 0, .int .i64 0] 52 (fun a22 w =>
 New [.int .i64 0, .int .i64 0, .int .i64 0, .int .i64 0, .int .i64 0, .int .i64 0] 52 (fun a23 w =>
 ∃ (I26 : Int → Int → World → Prop) (M27 : Int → Int → World → Nat), I26 0 0 w ∧ ∀ (n24 : Int) (n25 : Int) (v28 : World), I26 n24 n25 v28 → ∀ _ : Nat → Value,
 (fun w : World =>
 If (decide (n25 < ((steps.n : Nat) : Int))) (
 (fun w : World =>
 ((0 : Int) ≤ n25 ∧ n25 < ((steps.n : Nat) : Int)) ∧ WithAddr steps.a fun a29 =>
 LdN shStep.cs 0 (a29.add (Int.toNat n25 * 8)) (fun n30 n31 n32 n33 n34 n35 s36 s37 w =>
 (
 Call P 14 [.pointer p11] [sI] (fun n38 w =>
 (w.cell? ((a29.add (Int.toNat n25 * 8)).add 0) = some (.int .i64 n30) ∧ w.cell? ((a29.add (Int.toNat n25 * 8)).add 1) = some (.int .i64 n31) ∧ w.cell? ((a29.add (Int.toNat n25 * 8)).add 2) = some (.int .i64 n32) ∧ w.cell? ((a29.add (Int.toNat n25 * 8)).add 3) = some (.int .i64 n33) ∧ w.cell? ((a29.add (Int.toNat n25 * 8)).add 4) = some (.int .i64 n34) ∧ w.cell? ((a29.add (Int.toNat n25 * 8)).add 5) = some (.int .i64 n35) ∧ w.cell? ((a29.add (Int.toNat n25 * 8)).add 6) = some (.slice s36.a s36.n s36.c) ∧ w.cell? ((a29.add (Int.toNat n25 * 8)).add 7) = some (.slice s37.a s37.n s37.c)) ∧ New [.int .i64 0, .int .i64 0, .int .i64 0, .int .i64 0, .int .i64 0, .int .i64 0, .slice none 0 0, .slice none 0 0] 39 (fun a39 w =>
 (w.cell? ((a29.add (Int.toNat n25 * 8)).add 0) = some (.int .i64 n30) ∧ w.cell? ((a29.add (Int.toNat n25 * 8)).add 1) = some (.int .i64 n31) ∧ w.cell? ((a29.add (Int.toNat n25 * 8)).add 2) = some (.int .i64 n32) ∧ w.cell? ((a29.add (Int.toNat n25 * 8)).add 3) = some (.int .i64 n33) ∧ w.cell? ((a29.add (Int.toNat n25 * 8)).add 4) = some (.int .i64 n34) ∧ w.cell? ((a29.add (Int.toNat n25 * 8)).add 5) = some (.int .i64 n35) ∧ w.cell? ((a29.add (Int.toNat n25 * 8)).add 6) = some (.slice s36.a s36.n s36.c) ∧ w.cell? ((a29.add (Int.toNat n25 * 8)).add 7) = some (.slice s37.a s37.n s37.c)) ∧ StN [.int .i64 n30, .int .i64 n31, .int .i64 n32, .int .i64 n33, .int .i64 n34, .int .i64 n35, .slice s36.a s36.n s36.c, .slice s37.a s37.n s37.c] 0 a39 (fun w =>
 Ld (.ki .i64) (a39.add 0) (fun n40 w =>
 If (n40 == 2) (
 I26 n24 (IntKind.wrap .i64 (n25 + 1)) w ∧ M27 n24 (IntKind.wrap .i64 (n25 + 1)) w < M27 n24 n25 v28) (
 LdN shStep.cs 0 a39 (fun n41 n42 n43 n44 n45 n46 s47 s48 w =>
 Call P 13 [.pointer p11, .agg #[.int .i64 n41, .int .i64 n42, .int .i64 n43, .int .i64 n44, .int .i64 n45, .int .i64 n46, .slice s47.a s47.n s47.c, .slice s48.a s48.n s48.c]] [sI, sI] (fun n49 n50 w =>
 Ld (.ki .i64) (a39.add 0) (fun n51 w =>
 If (n51 == 3) (
 If (n50 == 0) (
 Ld (.ki .i64) (a39.add 1) (fun n52 w =>
 Call P 18 [.int .i64 n52] [sB] (fun b53 w =>
 If (!b53) (
 K false w) (
 Ld (.ki .i64) (a39.add 1) (fun n54 w =>
 Ld (.ki .i64) (a39.add 2) (fun n55 w =>
 ((0 : Int) ≤ n54 ∧ n54 < ((6 : Nat) : Int)) ∧ StN [.int .i64 (IntKind.wrap .i64 (n38 + n55))] 0 (a22.add (Int.toNat n54 * 1)) (fun w =>
 Call P 16 [.pointer p11] [sS] (fun s56 w =>
 Call P 19 [.pointer p11] [sS] (fun s57 w =>
 ∃ (I59 : Int → World → Prop) (M60 : Int → World → Nat), I59 n24 w ∧ ∀ (n58 : Int) (v61 : World), I59 n58 v61 → ∀ _ : Nat → Value,
 (fun w : World =>
 If (decide (n58 < ((s56.n : Nat) : Int))) (
 ((0 : Int) ≤ n58 ∧ n58 < ((s56.n : Nat) : Int)) ∧ WithAddr s56.a fun a62 =>
 Ld (.ki .i64) ((a62.add (Int.toNat n58 * 4)).add 1) (fun n63 w =>
 ((0 : Int) ≤ n58 ∧ n58 < ((s56.n : Nat) : Int)) ∧ WithAddr s56.a fun a64 =>
 Ld (.ki .i64) ((a64.add (Int.toNat n58 * 4)).add 0) (fun n65 w =>
 If (n65 != 1) (
 I59 (IntKind.wrap .i64 (n58 + 1)) w ∧ M60 (IntKind.wrap .i64 (n58 + 1)) w < M60 n58 v61) (
 (fun w : World =>
 Call P 18 [.int .i64 n63] [sB] (fun b66 w =>
 If (!b66) (
 K false w) (
 If (decide (n63 ≥ ((s57.n : Nat) : Int))) (
 K false w) (
 ((0 : Int) ≤ n58 ∧ n58 < ((s56.n : Nat) : Int)) ∧ WithAddr s56.a fun a67 =>
 Ld (.ki .i64) ((a67.add (Int.toNat n58 * 4)).add 2) (fun n68 w =>
 ((0 : Int) ≤ n63 ∧ n63 < ((6 : Nat) : Int)) ∧ Ld (.ki .i64) (a23.add (Int.toNat n63 * 1)) (fun n69 w =>
 If (decide (n68 < n69)) (
 K false w) (
 ((0 : Int) ≤ n58 ∧ n58 < ((s56.n : Nat) : Int)) ∧ WithAddr s56.a fun a70 =>
 Ld (.ki .i64) ((a70.add (Int.toNat n58 * 4)).add 2) (fun n71 w =>
 ((0 : Int) ≤ n63 ∧ n63 < ((6 : Nat) : Int)) ∧ Ld (.ki .i64) (a22.add (Int.toNat n63 * 1)) (fun n72 w =>
 If (n71 != n72) (
 K false w) (
 ((0 : Int) ≤ n58 ∧ n58 < ((s56.n : Nat) : Int)) ∧ WithAddr s56.a fun a73 =>
 Ld (.ki .i64) ((a73.add (Int.toNat n58 * 4)).add 3) (fun n74 w =>
 ((0 : Int) ≤ n58 ∧ n58 < ((s56.n : Nat) : Int)) ∧ WithAddr s56.a fun a75 =>
 Ld (.ki .i64) ((a75.add (Int.toNat n58 * 4)).add 2) (fun n76 w =>
 ((0 : Int) ≤ n63 ∧ n63 < ((s57.n : Nat) : Int)) ∧ WithAddr s57.a fun a77 =>
 Ld (.ki .i64) ((a77.add (Int.toNat n63 * 4)).add 0) (fun n78 w =>
 If (n74 != (IntKind.wrap .i64 (n76 + n78))) (
 K false w) (
 ((0 : Int) ≤ n58 ∧ n58 < ((s56.n : Nat) : Int)) ∧ WithAddr s56.a fun a79 =>
 Ld (.ki .i64) ((a79.add (Int.toNat n58 * 4)).add 3) (fun n80 w =>
 ((0 : Int) ≤ n63 ∧ n63 < ((6 : Nat) : Int)) ∧ StN [.int .i64 n80] 0 (a23.add (Int.toNat n63 * 1)) (fun w =>
 I59 (IntKind.wrap .i64 (n58 + 1)) w ∧ M60 (IntKind.wrap .i64 (n58 + 1)) w < M60 n58 v61) w) w)) w) w) w)) w) w)) w) w))) w) w.drew)) w) w) (
 I26 n58 (IntKind.wrap .i64 (n25 + 1)) w ∧ M27 n58 (IntKind.wrap .i64 (n25 + 1)) w < M27 n24 n25 v28)) v61) w) w) w) w) w)) w) w) (
 Call P 16 [.pointer p11] [sS] (fun s81 w =>
 Call P 19 [.pointer p11] [sS] (fun s82 w =>
 ∃ (I84 : Int → World → Prop) (M85 : Int → World → Nat), I84 n24 w ∧ ∀ (n83 : Int) (v86 : World), I84 n83 v86 → ∀ _ : Nat → Value,
 (fun w : World =>
 If (decide (n83 < ((s81.n : Nat) : Int))) (
 ((0 : Int) ≤ n83 ∧ n83 < ((s81.n : Nat) : Int)) ∧ WithAddr s81.a fun a87 =>
 Ld (.ki .i64) ((a87.add (Int.toNat n83 * 4)).add 1) (fun n88 w =>
 ((0 : Int) ≤ n83 ∧ n83 < ((s81.n : Nat) : Int)) ∧ WithAddr s81.a fun a89 =>
 Ld (.ki .i64) ((a89.add (Int.toNat n83 * 4)).add 0) (fun n90 w =>
 If (n90 != 1) (
 I84 (IntKind.wrap .i64 (n83 + 1)) w ∧ M85 (IntKind.wrap .i64 (n83 + 1)) w < M85 n83 v86) (
 (fun w : World =>
 Call P 18 [.int .i64 n88] [sB] (fun b91 w =>
 If (!b91) (
 K false w) (
 If (decide (n88 ≥ ((s82.n : Nat) : Int))) (
 K false w) (
 ((0 : Int) ≤ n83 ∧ n83 < ((s81.n : Nat) : Int)) ∧ WithAddr s81.a fun a92 =>
 Ld (.ki .i64) ((a92.add (Int.toNat n83 * 4)).add 2) (fun n93 w =>
 ((0 : Int) ≤ n88 ∧ n88 < ((6 : Nat) : Int)) ∧ Ld (.ki .i64) (a23.add (Int.toNat n88 * 1)) (fun n94 w =>
 If (decide (n93 < n94)) (
 K false w) (
 ((0 : Int) ≤ n83 ∧ n83 < ((s81.n : Nat) : Int)) ∧ WithAddr s81.a fun a95 =>
 Ld (.ki .i64) ((a95.add (Int.toNat n83 * 4)).add 2) (fun n96 w =>
 ((0 : Int) ≤ n88 ∧ n88 < ((6 : Nat) : Int)) ∧ Ld (.ki .i64) (a22.add (Int.toNat n88 * 1)) (fun n97 w =>
 If (n96 != n97) (
 K false w) (
 ((0 : Int) ≤ n83 ∧ n83 < ((s81.n : Nat) : Int)) ∧ WithAddr s81.a fun a98 =>
 Ld (.ki .i64) ((a98.add (Int.toNat n83 * 4)).add 3) (fun n99 w =>
 ((0 : Int) ≤ n83 ∧ n83 < ((s81.n : Nat) : Int)) ∧ WithAddr s81.a fun a100 =>
 Ld (.ki .i64) ((a100.add (Int.toNat n83 * 4)).add 2) (fun n101 w =>
 ((0 : Int) ≤ n88 ∧ n88 < ((s82.n : Nat) : Int)) ∧ WithAddr s82.a fun a102 =>
 Ld (.ki .i64) ((a102.add (Int.toNat n88 * 4)).add 0) (fun n103 w =>
 If (n99 != (IntKind.wrap .i64 (n101 + n103))) (
 K false w) (
 ((0 : Int) ≤ n83 ∧ n83 < ((s81.n : Nat) : Int)) ∧ WithAddr s81.a fun a104 =>
 Ld (.ki .i64) ((a104.add (Int.toNat n83 * 4)).add 3) (fun n105 w =>
 ((0 : Int) ≤ n88 ∧ n88 < ((6 : Nat) : Int)) ∧ StN [.int .i64 n105] 0 (a23.add (Int.toNat n88 * 1)) (fun w =>
 I84 (IntKind.wrap .i64 (n83 + 1)) w ∧ M85 (IntKind.wrap .i64 (n83 + 1)) w < M85 n83 v86) w) w)) w) w) w)) w) w)) w) w))) w) w.drew)) w) w) (
 I26 n83 (IntKind.wrap .i64 (n25 + 1)) w ∧ M27 n83 (IntKind.wrap .i64 (n25 + 1)) w < M27 n24 n25 v28)) v86) w) w)) (
 Call P 16 [.pointer p11] [sS] (fun s106 w =>
 Call P 19 [.pointer p11] [sS] (fun s107 w =>
 ∃ (I109 : Int → World → Prop) (M110 : Int → World → Nat), I109 n24 w ∧ ∀ (n108 : Int) (v111 : World), I109 n108 v111 → ∀ _ : Nat → Value,
 (fun w : World =>
 If (decide (n108 < ((s106.n : Nat) : Int))) (
 ((0 : Int) ≤ n108 ∧ n108 < ((s106.n : Nat) : Int)) ∧ WithAddr s106.a fun a112 =>
 Ld (.ki .i64) ((a112.add (Int.toNat n108 * 4)).add 1) (fun n113 w =>
 ((0 : Int) ≤ n108 ∧ n108 < ((s106.n : Nat) : Int)) ∧ WithAddr s106.a fun a114 =>
 Ld (.ki .i64) ((a114.add (Int.toNat n108 * 4)).add 0) (fun n115 w =>
 If (n115 != 1) (
 I109 (IntKind.wrap .i64 (n108 + 1)) w ∧ M110 (IntKind.wrap .i64 (n108 + 1)) w < M110 n108 v111) (
 (fun w : World =>
 Call P 18 [.int .i64 n113] [sB] (fun b116 w =>
 If (!b116) (
 K false w) (
 If (decide (n113 ≥ ((s107.n : Nat) : Int))) (
 K false w) (
 ((0 : Int) ≤ n108 ∧ n108 < ((s106.n : Nat) : Int)) ∧ WithAddr s106.a fun a117 =>
 Ld (.ki .i64) ((a117.add (Int.toNat n108 * 4)).add 2) (fun n118 w =>
 ((0 : Int) ≤ n113 ∧ n113 < ((6 : Nat) : Int)) ∧ Ld (.ki .i64) (a23.add (Int.toNat n113 * 1)) (fun n119 w =>
 If (decide (n118 < n119)) (
 K false w) (
 ((0 : Int) ≤ n108 ∧ n108 < ((s106.n : Nat) : Int)) ∧ WithAddr s106.a fun a120 =>
 Ld (.ki .i64) ((a120.add (Int.toNat n108 * 4)).add 2) (fun n121 w =>
 ((0 : Int) ≤ n113 ∧ n113 < ((6 : Nat) : Int)) ∧ Ld (.ki .i64) (a22.add (Int.toNat n113 * 1)) (fun n122 w =>
 If (n121 != n122) (
 K false w) (
 ((0 : Int) ≤ n108 ∧ n108 < ((s106.n : Nat) : Int)) ∧ WithAddr s106.a fun a123 =>
 Ld (.ki .i64) ((a123.add (Int.toNat n108 * 4)).add 3) (fun n124 w =>
 ((0 : Int) ≤ n108 ∧ n108 < ((s106.n : Nat) : Int)) ∧ WithAddr s106.a fun a125 =>
 Ld (.ki .i64) ((a125.add (Int.toNat n108 * 4)).add 2) (fun n126 w =>
 ((0 : Int) ≤ n113 ∧ n113 < ((s107.n : Nat) : Int)) ∧ WithAddr s107.a fun a127 =>
 Ld (.ki .i64) ((a127.add (Int.toNat n113 * 4)).add 0) (fun n128 w =>
 If (n124 != (IntKind.wrap .i64 (n126 + n128))) (
 K false w) (
 ((0 : Int) ≤ n108 ∧ n108 < ((s106.n : Nat) : Int)) ∧ WithAddr s106.a fun a129 =>
 Ld (.ki .i64) ((a129.add (Int.toNat n108 * 4)).add 3) (fun n130 w =>
 ((0 : Int) ≤ n113 ∧ n113 < ((6 : Nat) : Int)) ∧ StN [.int .i64 n130] 0 (a23.add (Int.toNat n113 * 1)) (fun w =>
 I109 (IntKind.wrap .i64 (n108 + 1)) w ∧ M110 (IntKind.wrap .i64 (n108 + 1)) w < M110 n108 v111) w) w)) w) w) w)) w) w)) w) w))) w) w.drew)) w) w) (
 I26 n108 (IntKind.wrap .i64 (n25 + 1)) w ∧ M27 n108 (IntKind.wrap .i64 (n25 + 1)) w < M27 n24 n25 v28)) v111) w) w)) w) w) w)) w) w) w) w) ∧ (
 New [.int .i64 0, .int .i64 0, .int .i64 0, .int .i64 0, .int .i64 0, .int .i64 0, .slice none 0 0, .slice none 0 0] 39 (fun a131 w =>
 (w.cell? ((a29.add (Int.toNat n25 * 8)).add 0) = some (.int .i64 n30) ∧ w.cell? ((a29.add (Int.toNat n25 * 8)).add 1) = some (.int .i64 n31) ∧ w.cell? ((a29.add (Int.toNat n25 * 8)).add 2) = some (.int .i64 n32) ∧ w.cell? ((a29.add (Int.toNat n25 * 8)).add 3) = some (.int .i64 n33) ∧ w.cell? ((a29.add (Int.toNat n25 * 8)).add 4) = some (.int .i64 n34) ∧ w.cell? ((a29.add (Int.toNat n25 * 8)).add 5) = some (.int .i64 n35) ∧ w.cell? ((a29.add (Int.toNat n25 * 8)).add 6) = some (.slice s36.a s36.n s36.c) ∧ w.cell? ((a29.add (Int.toNat n25 * 8)).add 7) = some (.slice s37.a s37.n s37.c)) ∧ Call P 14 [.pointer p11] [sI] (fun n132 w =>
 (w.cell? ((a29.add (Int.toNat n25 * 8)).add 0) = some (.int .i64 n30) ∧ w.cell? ((a29.add (Int.toNat n25 * 8)).add 1) = some (.int .i64 n31) ∧ w.cell? ((a29.add (Int.toNat n25 * 8)).add 2) = some (.int .i64 n32) ∧ w.cell? ((a29.add (Int.toNat n25 * 8)).add 3) = some (.int .i64 n33) ∧ w.cell? ((a29.add (Int.toNat n25 * 8)).add 4) = some (.int .i64 n34) ∧ w.cell? ((a29.add (Int.toNat n25 * 8)).add 5) = some (.int .i64 n35) ∧ w.cell? ((a29.add (Int.toNat n25 * 8)).add 6) = some (.slice s36.a s36.n s36.c) ∧ w.cell? ((a29.add (Int.toNat n25 * 8)).add 7) = some (.slice s37.a s37.n s37.c)) ∧ StN [.int .i64 n30, .int .i64 n31, .int .i64 n32, .int .i64 n33, .int .i64 n34, .int .i64 n35, .slice s36.a s36.n s36.c, .slice s37.a s37.n s37.c] 0 a131 (fun w =>
 Ld (.ki .i64) (a131.add 0) (fun n133 w =>
 If (n133 == 2) (
 I26 n24 (IntKind.wrap .i64 (n25 + 1)) w ∧ M27 n24 (IntKind.wrap .i64 (n25 + 1)) w < M27 n24 n25 v28) (
 LdN shStep.cs 0 a131 (fun n134 n135 n136 n137 n138 n139 s140 s141 w =>
 Call P 13 [.pointer p11, .agg #[.int .i64 n134, .int .i64 n135, .int .i64 n136, .int .i64 n137, .int .i64 n138, .int .i64 n139, .slice s140.a s140.n s140.c, .slice s141.a s141.n s141.c]] [sI, sI] (fun n142 n143 w =>
 Ld (.ki .i64) (a131.add 0) (fun n144 w =>
 If (n144 == 3) (
 If (n143 == 0) (
 Ld (.ki .i64) (a131.add 1) (fun n145 w =>
 Call P 18 [.int .i64 n145] [sB] (fun b146 w =>
 If (!b146) (
 K false w) (
 Ld (.ki .i64) (a131.add 1) (fun n147 w =>
 Ld (.ki .i64) (a131.add 2) (fun n148 w =>
 ((0 : Int) ≤ n147 ∧ n147 < ((6 : Nat) : Int)) ∧ StN [.int .i64 (IntKind.wrap .i64 (n132 + n148))] 0 (a22.add (Int.toNat n147 * 1)) (fun w =>
 Call P 16 [.pointer p11] [sS] (fun s149 w =>
 Call P 19 [.pointer p11] [sS] (fun s150 w =>
 ∃ (I152 : Int → World → Prop) (M153 : Int → World → Nat), I152 n24 w ∧ ∀ (n151 : Int) (v154 : World), I152 n151 v154 → ∀ _ : Nat → Value,
 (fun w : World =>
 If (decide (n151 < ((s149.n : Nat) : Int))) (
 ((0 : Int) ≤ n151 ∧ n151 < ((s149.n : Nat) : Int)) ∧ WithAddr s149.a fun a155 =>
 Ld (.ki .i64) ((a155.add (Int.toNat n151 * 4)).add 1) (fun n156 w =>
 ((0 : Int) ≤ n151 ∧ n151 < ((s149.n : Nat) : Int)) ∧ WithAddr s149.a fun a157 =>
 Ld (.ki .i64) ((a157.add (Int.toNat n151 * 4)).add 0) (fun n158 w =>
 If (n158 != 1) (
 I152 (IntKind.wrap .i64 (n151 + 1)) w ∧ M153 (IntKind.wrap .i64 (n151 + 1)) w < M153 n151 v154) (
 (fun w : World =>
 Call P 18 [.int .i64 n156] [sB] (fun b159 w =>
 If (!b159) (
 K false w) (
 If (decide (n156 ≥ ((s150.n : Nat) : Int))) (
 K false w) (
 ((0 : Int) ≤ n151 ∧ n151 < ((s149.n : Nat) : Int)) ∧ WithAddr s149.a fun a160 =>
 Ld (.ki .i64) ((a160.add (Int.toNat n151 * 4)).add 2) (fun n161 w =>
 ((0 : Int) ≤ n156 ∧ n156 < ((6 : Nat) : Int)) ∧ Ld (.ki .i64) (a23.add (Int.toNat n156 * 1)) (fun n162 w =>
 If (decide (n161 < n162)) (
 K false w) (
 ((0 : Int) ≤ n151 ∧ n151 < ((s149.n : Nat) : Int)) ∧ WithAddr s149.a fun a163 =>
 Ld (.ki .i64) ((a163.add (Int.toNat n151 * 4)).add 2) (fun n164 w =>
 ((0 : Int) ≤ n156 ∧ n156 < ((6 : Nat) : Int)) ∧ Ld (.ki .i64) (a22.add (Int.toNat n156 * 1)) (fun n165 w =>
 If (n164 != n165) (
 K false w) (
 ((0 : Int) ≤ n151 ∧ n151 < ((s149.n : Nat) : Int)) ∧ WithAddr s149.a fun a166 =>
 Ld (.ki .i64) ((a166.add (Int.toNat n151 * 4)).add 3) (fun n167 w =>
 ((0 : Int) ≤ n151 ∧ n151 < ((s149.n : Nat) : Int)) ∧ WithAddr s149.a fun a168 =>
 Ld (.ki .i64) ((a168.add (Int.toNat n151 * 4)).add 2) (fun n169 w =>
 ((0 : Int) ≤ n156 ∧ n156 < ((s150.n : Nat) : Int)) ∧ WithAddr s150.a fun a170 =>
 Ld (.ki .i64) ((a170.add (Int.toNat n156 * 4)).add 0) (fun n171 w =>
 If (n167 != (IntKind.wrap .i64 (n169 + n171))) (
 K false w) (
 ((0 : Int) ≤ n151 ∧ n151 < ((s149.n : Nat) : Int)) ∧ WithAddr s149.a fun a172 =>
 Ld (.ki .i64) ((a172.add (Int.toNat n151 * 4)).add 3) (fun n173 w =>
 ((0 : Int) ≤ n156 ∧ n156 < ((6 : Nat) : Int)) ∧ StN [.int .i64 n173] 0 (a23.add (Int.toNat n156 * 1)) (fun w =>
 I152 (IntKind.wrap .i64 (n151 + 1)) w ∧ M153 (IntKind.wrap .i64 (n151 + 1)) w < M153 n151 v154) w) w)) w) w) w)) w) w)) w) w))) w) w.drew)) w) w) (
 I26 n151 (IntKind.wrap .i64 (n25 + 1)) w ∧ M27 n151 (IntKind.wrap .i64 (n25 + 1)) w < M27 n24 n25 v28)) v154) w) w) w) w) w)) w) w) (
 Call P 16 [.pointer p11] [sS] (fun s174 w =>
 Call P 19 [.pointer p11] [sS] (fun s175 w =>
 ∃ (I177 : Int → World → Prop) (M178 : Int → World → Nat), I177 n24 w ∧ ∀ (n176 : Int) (v179 : World), I177 n176 v179 → ∀ _ : Nat → Value,
 (fun w : World =>
 If (decide (n176 < ((s174.n : Nat) : Int))) (
 ((0 : Int) ≤ n176 ∧ n176 < ((s174.n : Nat) : Int)) ∧ WithAddr s174.a fun a180 =>
 Ld (.ki .i64) ((a180.add (Int.toNat n176 * 4)).add 1) (fun n181 w =>
 ((0 : Int) ≤ n176 ∧ n176 < ((s174.n : Nat) : Int)) ∧ WithAddr s174.a fun a182 =>
 Ld (.ki .i64) ((a182.add (Int.toNat n176 * 4)).add 0) (fun n183 w =>
 If (n183 != 1) (
 I177 (IntKind.wrap .i64 (n176 + 1)) w ∧ M178 (IntKind.wrap .i64 (n176 + 1)) w < M178 n176 v179) (
 (fun w : World =>
 Call P 18 [.int .i64 n181] [sB] (fun b184 w =>
 If (!b184) (
 K false w) (
 If (decide (n181 ≥ ((s175.n : Nat) : Int))) (
 K false w) (
 ((0 : Int) ≤ n176 ∧ n176 < ((s174.n : Nat) : Int)) ∧ WithAddr s174.a fun a185 =>
 Ld (.ki .i64) ((a185.add (Int.toNat n176 * 4)).add 2) (fun n186 w =>
 ((0 : Int) ≤ n181 ∧ n181 < ((6 : Nat) : Int)) ∧ Ld (.ki .i64) (a23.add (Int.toNat n181 * 1)) (fun n187 w =>
 If (decide (n186 < n187)) (
 K false w) (
 ((0 : Int) ≤ n176 ∧ n176 < ((s174.n : Nat) : Int)) ∧ WithAddr s174.a fun a188 =>
 Ld (.ki .i64) ((a188.add (Int.toNat n176 * 4)).add 2) (fun n189 w =>
 ((0 : Int) ≤ n181 ∧ n181 < ((6 : Nat) : Int)) ∧ Ld (.ki .i64) (a22.add (Int.toNat n181 * 1)) (fun n190 w =>
 If (n189 != n190) (
 K false w) (
 ((0 : Int) ≤ n176 ∧ n176 < ((s174.n : Nat) : Int)) ∧ WithAddr s174.a fun a191 =>
 Ld (.ki .i64) ((a191.add (Int.toNat n176 * 4)).add 3) (fun n192 w =>
 ((0 : Int) ≤ n176 ∧ n176 < ((s174.n : Nat) : Int)) ∧ WithAddr s174.a fun a193 =>
 Ld (.ki .i64) ((a193.add (Int.toNat n176 * 4)).add 2) (fun n194 w =>
 ((0 : Int) ≤ n181 ∧ n181 < ((s175.n : Nat) : Int)) ∧ WithAddr s175.a fun a195 =>
 Ld (.ki .i64) ((a195.add (Int.toNat n181 * 4)).add 0) (fun n196 w =>
 If (n192 != (IntKind.wrap .i64 (n194 + n196))) (
 K false w) (
 ((0 : Int) ≤ n176 ∧ n176 < ((s174.n : Nat) : Int)) ∧ WithAddr s174.a fun a197 =>
 Ld (.ki .i64) ((a197.add (Int.toNat n176 * 4)).add 3) (fun n198 w =>
 ((0 : Int) ≤ n181 ∧ n181 < ((6 : Nat) : Int)) ∧ StN [.int .i64 n198] 0 (a23.add (Int.toNat n181 * 1)) (fun w =>
 I177 (IntKind.wrap .i64 (n176 + 1)) w ∧ M178 (IntKind.wrap .i64 (n176 + 1)) w < M178 n176 v179) w) w)) w) w) w)) w) w)) w) w))) w) w.drew)) w) w) (
 I26 n176 (IntKind.wrap .i64 (n25 + 1)) w ∧ M27 n176 (IntKind.wrap .i64 (n25 + 1)) w < M27 n24 n25 v28)) v179) w) w)) (
 Call P 16 [.pointer p11] [sS] (fun s199 w =>
 Call P 19 [.pointer p11] [sS] (fun s200 w =>
 ∃ (I202 : Int → World → Prop) (M203 : Int → World → Nat), I202 n24 w ∧ ∀ (n201 : Int) (v204 : World), I202 n201 v204 → ∀ _ : Nat → Value,
 (fun w : World =>
 If (decide (n201 < ((s199.n : Nat) : Int))) (
 ((0 : Int) ≤ n201 ∧ n201 < ((s199.n : Nat) : Int)) ∧ WithAddr s199.a fun a205 =>
 Ld (.ki .i64) ((a205.add (Int.toNat n201 * 4)).add 1) (fun n206 w =>
 ((0 : Int) ≤ n201 ∧ n201 < ((s199.n : Nat) : Int)) ∧ WithAddr s199.a fun a207 =>
 Ld (.ki .i64) ((a207.add (Int.toNat n201 * 4)).add 0) (fun n208 w =>
 If (n208 != 1) (
 I202 (IntKind.wrap .i64 (n201 + 1)) w ∧ M203 (IntKind.wrap .i64 (n201 + 1)) w < M203 n201 v204) (
 (fun w : World =>
 Call P 18 [.int .i64 n206] [sB] (fun b209 w =>
 If (!b209) (
 K false w) (
 If (decide (n206 ≥ ((s200.n : Nat) : Int))) (
 K false w) (
 ((0 : Int) ≤ n201 ∧ n201 < ((s199.n : Nat) : Int)) ∧ WithAddr s199.a fun a210 =>
 Ld (.ki .i64) ((a210.add (Int.toNat n201 * 4)).add 2) (fun n211 w =>
 ((0 : Int) ≤ n206 ∧ n206 < ((6 : Nat) : Int)) ∧ Ld (.ki .i64) (a23.add (Int.toNat n206 * 1)) (fun n212 w =>
 If (decide (n211 < n212)) (
 K false w) (
 ((0 : Int) ≤ n201 ∧ n201 < ((s199.n : Nat) : Int)) ∧ WithAddr s199.a fun a213 =>
 Ld (.ki .i64) ((a213.add (Int.toNat n201 * 4)).add 2) (fun n214 w =>
 ((0 : Int) ≤ n206 ∧ n206 < ((6 : Nat) : Int)) ∧ Ld (.ki .i64) (a22.add (Int.toNat n206 * 1)) (fun n215 w =>
 If (n214 != n215) (
 K false w) (
 ((0 : Int) ≤ n201 ∧ n201 < ((s199.n : Nat) : Int)) ∧ WithAddr s199.a fun a216 =>
 Ld (.ki .i64) ((a216.add (Int.toNat n201 * 4)).add 3) (fun n217 w =>
 ((0 : Int) ≤ n201 ∧ n201 < ((s199.n : Nat) : Int)) ∧ WithAddr s199.a fun a218 =>
 Ld (.ki .i64) ((a218.add (Int.toNat n201 * 4)).add 2) (fun n219 w =>
 ((0 : Int) ≤ n206 ∧ n206 < ((s200.n : Nat) : Int)) ∧ WithAddr s200.a fun a220 =>
 Ld (.ki .i64) ((a220.add (Int.toNat n206 * 4)).add 0) (fun n221 w =>
 If (n217 != (IntKind.wrap .i64 (n219 + n221))) (
 K false w) (
 ((0 : Int) ≤ n201 ∧ n201 < ((s199.n : Nat) : Int)) ∧ WithAddr s199.a fun a222 =>
 Ld (.ki .i64) ((a222.add (Int.toNat n201 * 4)).add 3) (fun n223 w =>
 ((0 : Int) ≤ n206 ∧ n206 < ((6 : Nat) : Int)) ∧ StN [.int .i64 n223] 0 (a23.add (Int.toNat n206 * 1)) (fun w =>
 I202 (IntKind.wrap .i64 (n201 + 1)) w ∧ M203 (IntKind.wrap .i64 (n201 + 1)) w < M203 n201 v204) w) w)) w) w) w)) w) w)) w) w))) w) w.drew)) w) w) (
 I26 n201 (IntKind.wrap .i64 (n25 + 1)) w ∧ M27 n201 (IntKind.wrap .i64 (n25 + 1)) w < M27 n24 n25 v28)) v204) w) w)) w) w) w)) w) w) w) w)) w) w.drew) (
 Call P 15 [] [sB] (fun b224 w =>
 K b224 w) w)) v28) w) w)) w) w) w) : Call P 5 [p.v, .slice steps.a steps.n steps.c] [sB] K w :=
  call_of (H := ⟨[(7, [(8, .ki .i64), (9, .ki .i64)]), (17, [(8, .ki .i64)])], [], [(9, .take 0 (.take 1 (.take 2 (.take 3 (.take 4 (.run2 5 (.run 6 (.run 7 (.take 8 .done))) 6 (.run 5 (.run 7 (.take 8 .done))))))))), (21, .take 0 (.run 1 (.take 2 (.take 3 (.take 4 (.take 5 (.take 6 (.take 7 (.take 8 (.take 9 (.take 10 (.take 11 (.take 12 (.take 13 (.take 14 (.take 15 (.take 16 (.take 17 (.take 18 (.take 19 (.take 20 (.take 21 (.take 22 (.take 23 (.take 24 (.take 25 (.take 26 (.take 27 (.take 28 (.take 29 (.take 30 (.take 31 (.take 32 (.take 33 (.take 34 (.take 35 (.take 36 (.take 37 (.take 38 (.take 39 (.take 40 (.take 41 (.take 42 (.take 43 (.take 44 (.take 45 (.take 46 (.take 47 (.take 48 (.take 49 .done))))))))))))))))))))))))))))))))))))))))))))))))))], []⟩) Tryz.func5 (by kernel_rfl) (by kernel_rfl) vc

theorem f18_of (n : Int) {K : Bool → World → Prop} {w : World} (vc :
 If (decide (n ≥ 0)) (
 K (decide (n < 6)) w) (
 K false w)) : Call P 18 [.int .i64 n] [sB] K w :=
  call_of (H := ⟨[], [], [], []⟩) Tryz.func18 (by kernel_rfl) (by kernel_rfl) vc

end Go.Proofs.YtajilfnceoeaiaaGreat.V
/- Switches: no more than jobs came and ended; each leads to another level; each cycle runs at the level that was chosen last. Plain. -/
namespace Go.Proofs.YtajilfnceoeaiaaGreat.V
open Go Go.RowKit Enc
set_option maxRecDepth 100000
/-- The level, how many switches, and whether all is right so far. -/
structure Sw where
  lv : Int
  n : Nat
  ok : Bool
def swOne (crit : Int) (x : Sw) (i : Interval) : Sw :=
  if i.kind = 1 then ⟨x.lv, x.n, x.ok && (i.arg == x.lv)⟩ else if i.kind = 3 then ⟨i.arg, x.n + 1, x.ok && (!(i.arg == x.lv) && (decide (0 ≤ i.arg) && decide (i.arg ≤ crit)))⟩ else x
def swAll (crit : Int) (L : List Interval) : Sw := L.foldl (swOne crit) ⟨0, 0, true⟩
theorem swAll_snoc (crit : Int) (L : List Interval) (i : Interval) : swAll crit (L ++ [i]) = swOne crit (swAll crit L) i := by
  unfold swAll
  rw [List.foldl_append]
  rfl
theorem swOne_same (crit : Int) (x : Sw) (i j : Interval) (hk : i.kind = j.kind) (ha : i.arg = j.arg) : swOne crit x i = swOne crit x j := by
  unfold swOne
  rw [hk, ha]
theorem swOne_twice (crit : Int) (x : Sw) (i : Interval) (hk : i.kind = 1 ∨ i.kind = 2 ∨ i.kind = 5) : swOne crit (swOne crit x i) i = swOne crit x i := by
  unfold swOne
  by_cases h : i.kind = 1
  · simp only [if_pos h]
    cases x.ok <;> simp
  · have h3 : i.kind ≠ 3 := by omega
    simp only [if_neg h, if_neg h3]
theorem swAll_addZ (crit : Int) (L : List Interval) (i : Interval) : swAll crit (addZ L i) = swOne crit (swAll crit L) i := by
  unfold addZ
  split
  · rename_i y hy
    split
    · rename_i hj
      obtain ⟨Z, rfl⟩ := List.getLast?_eq_some_iff.1 hy
      rw [List.dropLast_concat, swAll_snoc, swAll_snoc]
      have h1 : swOne crit (swAll crit Z) (joinZ y i) = swOne crit (swAll crit Z) y := by
        refine swOne_same crit _ _ _ ?_ ?_
        · unfold joinZ; rw [if_pos hj]
        · unfold joinZ; rw [if_pos hj]
      have h2 : swOne crit (swOne crit (swAll crit Z) y) i = swOne crit (swOne crit (swAll crit Z) y) y := swOne_same crit _ _ _ hj.2.1.symm hj.2.2.1.symm
      rw [h1, h2, swOne_twice crit _ y hj.1]
    · exact swAll_snoc crit L i
  · rename_i h
    have : L = [] := by
      cases L with
      | nil => rfl
      | cons a l => simp at h
    subst this
    exact swAll_snoc crit [] i
/-- Events that may bring a switch. -/
def nonExp (E : List Event) : Nat := (E.filter fun e => e.kind != 4).length
theorem nonExp_snoc (E : List Event) (e : Event) : nonExp (E ++ [e]) = nonExp E + (if e.kind = 4 then 0 else 1) := by
  unfold nonExp
  rw [List.filter_append, List.length_append]
  congr 1
  by_cases h : e.kind = 4 <;> simp [h]
/-- What holds of switches. -/
structure SwI (m : Mach) (s : KS) : Prop where
  lv : (swAll m.p.crit s.trace).lv = s.level
  ok : (swAll m.p.crit s.trace).ok = true
  n : (swAll m.p.crit s.trace).n + wsum unW s.jobs + (if s.ended then 1 else 0) ≤ nonExp s.events
section
variable {m : Mach} {A B : Nat} {s s' : KS}
theorem SwI.did (h : SwI m s) (kind len arg task cyc : Int) (hk : kind ≠ 3) (ha : kind = 1 → arg = s.level) : SwI m (didZ m s kind len arg task cyc) := by
  have e : swAll m.p.crit (didZ m s kind len arg task cyc).trace = swAll m.p.crit s.trace := by
    show swAll m.p.crit (addZ s.trace _) = _
    rw [swAll_addZ]
    unfold swOne
    dsimp only
    split
    · rename_i h1
      rw [ha h1, h.lv, beq_self_eq_true, Bool.and_true]
      rw [← h.lv]
    · rfl
  refine ⟨by rw [e]; exact h.lv, by rw [e]; exact h.ok, ?_⟩
  rw [e]
  exact h.n
theorem SwI.endZ (h : SwI m s) (kind : Int) (hk : kind ≠ 4) (j : Job) : SwI m (endZ s kind j) := by
  refine ⟨h.lv, h.ok, ?_⟩
  have h1 := wsum_upd_le unW s.jobs j.task none
  have e0 : ow unW (none : Option Job) = 0 := rfl
  have hn := h.n
  show (swAll m.p.crit s.trace).n + wsum unW (upd s.jobs j.task none) + (if true = true then 1 else 0) ≤ nonExp (s.events ++ [⟨kind, j.task, s.now, j.deadline⟩])
  rw [nonExp_snoc, if_pos rfl, if_neg hk]
  omega
theorem SwI.startZ (iv : KInv m A B s) (h : SwI m s) {j : Job} (hj : s.jobs j.task = some j) (hc : j.started = false ∨ s.ended = true) : SwI m (startZ s j) ∧ (swAll m.p.crit (startZ s j).trace).n + 1 + wsum unW (startZ s j).jobs + (if (startZ s j).ended then 1 else 0) ≤ nonExp (startZ s j).events := by
  obtain ⟨_, h0, h6⟩ := iv.jobs _ _ hj
  have hn := h.n
  have key : (swAll m.p.crit (V.startZ s j).trace).n + 1 + wsum unW (V.startZ s j).jobs + (if (V.startZ s j).ended then 1 else 0) ≤ nonExp (V.startZ s j).events := by
    unfold V.startZ
    by_cases hs : j.started = true
    · rw [if_pos hs]
      have he : s.ended = true := hc.resolve_left (by rw [hs]; decide)
      rw [he] at hn
      show (swAll m.p.crit s.trace).n + 1 + wsum unW s.jobs + (if false = true then 1 else 0) ≤ nonExp s.events
      rw [if_pos rfl] at hn
      rw [if_neg (by decide)]
      omega
    · rw [if_neg hs]
      have w2 := wsum_upd unW s.jobs h0 (by omega) (some { j with started := true })
      rw [hj] at w2
      have e3 : ow unW (some j) = 1 := by show unW j = 1; rw [unW, if_neg hs]
      have e6 : ow unW (some ({ j with started := true } : Job)) = 0 := rfl
      show (swAll m.p.crit s.trace).n + 1 + wsum unW (upd s.jobs j.task (some { j with started := true })) + (if false = true then 1 else 0) ≤ nonExp s.events
      rw [if_neg (by decide)]
      split at hn <;> omega
  refine ⟨⟨?_, ?_, by omega⟩, key⟩
  · unfold V.startZ; split <;> exact h.lv
  · unfold V.startZ; split <;> exact h.ok
theorem SwI.runsTail (h : SwI m s) (iv : KInv m A B s) (n : Int) {j : Job} (hj : s.jobs j.task = some j) : SwI m (runsTailZ m s n j) := by
  have hd := h.did 1 (lvlP m s.level) s.level n 1 (by decide) (fun _ => rfl)
  obtain ⟨_, h0, h6⟩ := iv.jobs _ _ hj
  unfold runsTailZ
  dsimp only
  split
  · have h2 : SwI m { didZ m s 1 (lvlP m s.level) s.level n 1 with held := (didZ m s 1 (lvlP m s.level) s.level n 1).held.map (spendZ n) } := ⟨hd.lv, hd.ok, hd.n⟩
    refine h2.endZ _ ?_ _
    unfold jobHow
    split
    · decide
    · split <;> decide
  · refine ⟨hd.lv, hd.ok, ?_⟩
    have w2 := wsum_upd unW s.jobs h0 (by omega) (some (jobStep j))
    rw [hj] at w2
    have e2 : ow unW (some (jobStep j)) = ow unW (some j) := rfl
    have hn := hd.n
    have hn : (swAll m.p.crit (didZ m s 1 (lvlP m s.level) s.level n 1).trace).n + wsum unW s.jobs + (if s.ended then 1 else 0) ≤ nonExp s.events := hn
    show (swAll m.p.crit (didZ m s 1 (lvlP m s.level) s.level n 1).trace).n + wsum unW (upd s.jobs j.task (some (jobStep j))) + (if s.ended then 1 else 0) ≤ nonExp s.events
    omega
theorem SwI.runs (h : SwI m s) (iv : KInv m A B s) (hn : s.now < 16384) (ha : s.asleep = false) {n : Int} {j : Job} (hj : s.jobs n = some j) (hr : RunsR m s n s') : SwI m s' := by
  have hjt := (iv.jobs n j hj).1
  subst hjt
  unfold RunsR at hr
  rw [hj] at hr
  simp only [Option.getD_some] at hr
  split at hr
  · rw [hr]; exact h.endZ 3 (by decide) _
  · split at hr
    · rename_i hc
      obtain ⟨b, s1, hch, hb⟩ := hr
      obtain ⟨lv, l0, l1, _, hz⟩ := chooseR_start hch
      obtain ⟨hs, hs2⟩ := h.startZ iv hj hc
      obtain ⟨iv1, _, _, _, hlev, _, hj1⟩ := startZ_inv iv hj ha hc
      rcases hz with ⟨_, rfl, rfl⟩ | ⟨hne, rfl, rfl⟩
      · rw [if_neg (by decide)] at hb
        rw [hj1] at hb
        simp only [Option.getD_some] at hb
        rw [hb]
        exact hs.runsTail iv1 j.task (j := { j with started := true }) hj1
      · rw [if_pos rfl] at hb
        rw [hb]
        have e : swAll m.p.crit (didZ m { V.startZ s j with level := lv } 3 m.p.switch lv 0 0).trace = ⟨lv, (swAll m.p.crit (V.startZ s j).trace).n + 1, true⟩ := by
          show swAll m.p.crit (addZ (V.startZ s j).trace _) = _
          rw [swAll_addZ]
          unfold swOne
          dsimp only
          rw [if_neg (by decide), if_pos rfl, hs.ok, hs.lv, hlev]
          have : (lv == s.level) = false := by simpa using hne
          rw [this]
          simp [l0, l1]
        refine ⟨?_, ?_, ?_⟩
        · rw [e]; rfl
        · rw [e]
        · rw [e]
          exact hs2
    · rw [hr]; exact h.runsTail iv j.task hj
theorem SwI.step (h : SwI m s) (iv : KInv m A B s) (hn : s.now < 16384) (hr : StepR m s s') : SwI m s' := by
  unfold StepR at hr
  by_cases ha : s.asleep = true
  · rw [if_pos ha] at hr
    rw [hr]
    unfold sleepingZ
    dsimp only
    split
    · have h2 : SwI m { s with asleep := false } := ⟨h.lv, h.ok, h.n⟩
      exact h2.did 6 _ _ _ _ (by decide) (fun h => absurd h (by decide))
    · exact h.did 5 _ _ _ _ (by decide) (fun h => absurd h (by decide))
  · rw [if_neg ha] at hr
    have ha' : s.asleep = false := by simpa using ha
    obtain ⟨n, ok, L, hL, _, hw, hr⟩ := hr
    cases ok with
    | true =>
      rw [if_pos rfl] at hr
      obtain ⟨_, x, hx⟩ := whoOf_job iv hL hw
      exact h.runs iv hn ha' hx hr
    | false =>
      rw [if_neg (by decide)] at hr
      have hnn := h.n
      have hle : (swAll m.p.crit s.trace).n + wsum unW s.jobs + (if false = true then 1 else 0) ≤ nonExp s.events := by
        rw [if_neg (by decide)]
        omega
      rcases hr with rfl | ⟨_, k, x, t, _, _, _, _, rfl⟩
      · have h2 : SwI m { s with ended := false } := ⟨h.lv, h.ok, hle⟩
        exact h2.did 2 _ _ _ _ (by decide) (fun h => absurd h (by decide))
      · have h2 : SwI m { s with ended := false, asleep := true, state := (k : Int), wake := wz (s.now + t) } := ⟨h.lv, h.ok, hle⟩
        exact h2.did 4 _ _ _ _ (by decide) (fun h => absurd h (by decide))
theorem SwI.rel (h : SwI m s) (hr : RelOne s s') : SwI m s' := by
  obtain ⟨n, at_, cyc, t, _, _, _, _, rfl⟩ := hr
  refine ⟨h.lv, h.ok, ?_⟩
  have h1 := wsum_upd_le unW s.jobs n (some (jobNew n t.t at_ cyc))
  have e0 : ow unW (some (jobNew n t.t at_ cyc)) = 1 := rfl
  have hn := h.n
  show (swAll m.p.crit s.trace).n + wsum unW (upd s.jobs n (some (jobNew n t.t at_ cyc))) + (if s.ended then 1 else 0) ≤ nonExp (s.events ++ [_])
  rw [nonExp_snoc, if_neg (show ¬ (1 : Int) = 4 by decide)]
  omega
theorem SwI.exp (h : SwI m s) (hr : ExpOne s s') : SwI m s' := by
  obtain ⟨n, at_, cyc, _, _, _, rfl⟩ := hr
  refine ⟨h.lv, h.ok, ?_⟩
  have hn := h.n
  show (swAll m.p.crit s.trace).n + wsum unW s.jobs + (if s.ended then 1 else 0) ≤ nonExp (s.events ++ [_])
  rw [nonExp_snoc]
  omega
theorem SwI.bound (h : SwI m s) (hr : BoundR m s s') : SwI m s' := by
  obtain ⟨s1, s2, h1, _, h2, _, D, X, rfl, _⟩ := hr
  have i1 := Star.keep (I := SwI m) (fun _ _ r i => i.rel r) h1 h
  have i2 := Star.keep (I := SwI m) (fun _ _ r i => i.exp r) h2 i1
  exact ⟨i2.lv, i2.ok, i2.n⟩
/-- What a step that is no tick leaves as it was. -/
structure Calm (s s' : KS) : Prop where
  now : s'.now = s.now
  level : s'.level = s.level
  jobs : s'.jobs = s.jobs
  stack : s'.stack = s.stack
  ended : s'.ended = s.ended
  spent : s'.spent = s.spent
  asleep : s'.asleep = s.asleep
  state : s'.state = s.state
  wake : s'.wake = s.wake
  trace : s'.trace = s.trace
  meter : s'.meter = s.meter
  events : s'.events = s.events
theorem Calm.refl : Calm s s := ⟨rfl, rfl, rfl, rfl, rfl, rfl, rfl, rfl, rfl, rfl, rfl, rfl⟩
theorem AdmitR.calm {x : ATask} {n e : Int} (hr : AdmitR m s x n e s') : Calm s s' := by
  rcases hr with ⟨_, _, _, rfl⟩ | ⟨_, ⟨_, _, _, rfl⟩ | ⟨_, ⟨_, _, _, rfl⟩ | ⟨_, ⟨_, _, _, rfl⟩ | ⟨_, _, i, y, z, r, s1, _, _, _, _, ⟨D, rfl, _⟩, _, _, _, _, rfl⟩⟩⟩⟩
  · exact .refl
  · exact .refl
  · exact .refl
  · exact .refl
  · exact ⟨rfl, rfl, rfl, rfl, rfl, rfl, rfl, rfl, rfl, rfl, rfl, rfl⟩
theorem OneR.calm {x : ASt} {n e : Int} (hr : OneR m s x n e s') : (x.kind = 4 ∧ TickR m s x.a e s') ∨ Calm s s' := by
  rcases hr with ⟨_, hr⟩ | ⟨_, _, hr⟩ | ⟨_, _, hr⟩ | ⟨hk, _, hr⟩ | ⟨_, _, hr⟩ | ⟨hk, _, hr⟩ | ⟨_, _, hr⟩ | ⟨_, _, _, rfl⟩
  · exact .inr hr.calm
  · rcases hr with ⟨rfl, _⟩ | ⟨_, _, _, _, _, rfl⟩
    · exact .inr .refl
    · exact .inr ⟨rfl, rfl, rfl, rfl, rfl, rfl, rfl, rfl, rfl, rfl, rfl, rfl⟩
  · rcases hr with ⟨_, rfl⟩ | ⟨_, _, _, _, _, _, _, _, rfl⟩
    · exact .inr .refl
    · exact .inr ⟨rfl, rfl, rfl, rfl, rfl, rfl, rfl, rfl, rfl, rfl, rfl, rfl⟩
  · exact .inl ⟨hk, hr⟩
  · rcases hr with ⟨rfl, _⟩ | ⟨_, n, L, _, _, _, _, t, _, _, _, hr⟩
    · exact .inr .refl
    · rcases hr with ⟨_, i, _, rfl⟩ | ⟨_, _, c, _, rfl⟩
      · exact .inr ⟨rfl, rfl, rfl, rfl, rfl, rfl, rfl, rfl, rfl, rfl, rfl, rfl⟩
      · exact .inr ⟨rfl, rfl, rfl, rfl, rfl, rfl, rfl, rfl, rfl, rfl, rfl, rfl⟩
  · rcases hr with ⟨_, _, rfl⟩ | ⟨_, _, _, h0, h1, rfl⟩
    · exact .inr .refl
    · exact .inr ⟨rfl, rfl, rfl, rfl, rfl, rfl, rfl, rfl, rfl, rfl, rfl, rfl⟩
  · unfold TimerR at hr
    split at hr
    · rcases hr with ⟨_, _, rfl⟩ | ⟨_, _, rfl⟩
      · exact .inr ⟨rfl, rfl, rfl, rfl, rfl, rfl, rfl, rfl, rfl, rfl, rfl, rfl⟩
      · exact .inr .refl
    · rcases hr with ⟨_, _, rfl⟩ | ⟨_, _, _, _, _, _, _, rfl⟩
      · exact .inr .refl
      · exact .inr ⟨rfl, rfl, rfl, rfl, rfl, rfl, rfl, rfl, rfl, rfl, rfl, rfl⟩
  · exact .inr .refl
theorem TickR.keep {I : KS → Prop} (hstep : ∀ s s', KInv m A B s → s.now < 16384 → StepR m s s' → I s → I s') (hbound : ∀ s s', KInv m A B s → BoundR m s s' → I s → I s') {n e : Int} (iv : KInv m A B s) (hr : TickR m s n e s') (h : I s) : I s' := by
  rcases hr with ⟨_, _, rfl⟩ | ⟨_, _, _, hs, _⟩
  · exact h
  · have hE := endT_le iv.mok s n
    refine (Star.keep (I := fun s => KInv m A B s ∧ I s) (fun s1 s2 r i => ?_) hs ⟨iv, h⟩).2
    obtain ⟨hlt, s3, h1, h2⟩ := r
    have j1 := stepR_inv i.1 (by omega) h1
    exact ⟨(h2.inv j1.1).1, hbound _ _ j1.1 h2 (hstep _ _ i.1 (by omega) h1 i.2)⟩
theorem DoR.keep {I : KS → Prop} (hcalm : ∀ s s', Calm s s' → I s → I s') (hstep : ∀ s s', KInv m (A + 1) (B + 70000) s → s.now < 16384 → StepR m s s' → I s → I s') (hbound : ∀ s s', KInv m (A + 1) (B + 70000) s → BoundR m s s' → I s → I s')
    {x : ASt} {n e : Int} (iv : KInv m A B s) (hA : A + 1 ≤ 800000000) (hB : B + 70000 ≤ bigN) (hr : DoR m s x n e s') (h : I s) : I s' := by
  rcases hr with ⟨_, _, _, rfl⟩ | ⟨_, ⟨_, _, rfl⟩ | ⟨_, s1, h1, h2⟩⟩
  · exact h
  · exact h
  · have iv1 := (h1.inv iv hA hB).1
    refine hbound _ _ iv1 h2 ?_
    rcases h1.calm with ⟨_, ht⟩ | hc
    · exact ht.keep hstep hbound (iv.mono (by omega) (by omega) hA hB) h
    · exact hcalm _ _ hc h
theorem SwI.calm (h : SwI m s) (c : Calm s s') : SwI m s' := ⟨by rw [c.trace, c.level]; exact h.lv, by rw [c.trace]; exact h.ok, by rw [c.trace, c.jobs, c.ended, c.events]; exact h.n⟩
theorem SwI.doR (h : SwI m s) {x : ASt} {n e : Int} (iv : KInv m A B s) (hA : A + 1 ≤ 800000000) (hB : B + 70000 ≤ bigN) (hr : DoR m s x n e s') : SwI m s' :=
  DoR.keep (fun _ _ c i => i.calm c) (fun _ _ iv hn r i => i.step iv hn r) (fun _ _ _ r i => i.bound r) iv hA hB hr h
theorem SwI.s0 (m : Mach) : SwI m (s0 m) := ⟨rfl, rfl, Nat.le_refl _⟩
end
end Go.Proofs.YtajilfnceoeaiaaGreat.V
/- Whenever a device is on, it has cost no more than if it had never been away. Plain. -/
namespace Go.Proofs.YtajilfnceoeaiaaGreat.V
open Go Go.RowKit Enc
set_option maxRecDepth 100000
/-- What a step of the machine leaves as it was; time goes by, but not for long. -/
structure StepF (s s' : KS) : Prop where
  devs : s'.devs = s.devs
  spent : s'.spent = s.spent
  T : s'.T = s.T
  N : s'.N = s.N
  lat : s'.lat = s.lat
  tim : s'.tim = s.tim
  places : s'.places = s.places
  policy : s'.policy = s.policy
  naps : s'.naps = s.naps
  le : s.now ≤ s'.now
  far : s'.now ≤ s.now + 256
section
variable {m : Mach} {A B : Nat} {s s' s'' : KS}
theorem StepF.did (hn : 0 ≤ s.now ∧ s.now ≤ 17000) (kind len arg task cyc : Int) (hl : 0 ≤ len ∧ len ≤ 256) : StepF s (didZ m s kind len arg task cyc) := by
  have hw : wz (s.now + len) = s.now + len := wz_id (by omega) (by omega)
  refine ⟨rfl, rfl, rfl, rfl, rfl, rfl, rfl, rfl, rfl, ?_, ?_⟩
  · show s.now ≤ wz (s.now + len)
    omega
  · show wz (s.now + len) ≤ s.now + 256
    omega
theorem StepF.same {s1 s2 : KS} (h : StepF s1 s2) (e1 : s1.devs = s.devs) (e2 : s1.spent = s.spent) (e3 : s1.T = s.T) (e4 : s1.N = s.N) (e5 : s1.lat = s.lat) (e6 : s1.tim = s.tim) (e7 : s1.places = s.places) (e8 : s1.policy = s.policy) (e9 : s1.naps = s.naps) (e10 : s1.now = s.now) : StepF s s2 :=
  ⟨h.devs.trans e1, h.spent.trans e2, h.T.trans e3, h.N.trans e4, h.lat.trans e5, h.tim.trans e6, h.places.trans e7, h.policy.trans e8, h.naps.trans e9, by rw [← e10]; exact h.le, by rw [← e10]; exact h.far⟩
theorem StepF.endZ (h : StepF s s') (kind : Int) (j : Job) : StepF s (endZ s' kind j) := ⟨h.devs, h.spent, h.T, h.N, h.lat, h.tim, h.places, h.policy, h.naps, h.le, h.far⟩
theorem lvlP_in (iv : KInv m A B s) : 1 ≤ lvlP m s.level ∧ lvlP m s.level ≤ 256 := by
  have hlev := iv.lev
  have hcr := iv.crit.hi
  obtain ⟨i, hi⟩ : ∃ i : Nat, s.level = i := ⟨s.level.toNat, by omega⟩
  obtain ⟨x, hx⟩ : ∃ x, m.L[i]? = some x := ⟨m.L[i]'(by omega), List.getElem?_eq_getElem (by omega)⟩
  have hp := iv.mok.lev i x hx
  have hlp : lvlP m s.level = x.p := by rw [lvlP, hi, Int.toNat_natCast, hx]; rfl
  rw [hlp]
  exact hp
theorem StepF.runsTail (iv : KInv m A B s) (n : Int) (j : Job) : StepF s (runsTailZ m s n j) := by
  have hd : StepF s (didZ m s 1 (lvlP m s.level) s.level n 1) := StepF.did iv.now 1 _ _ _ _ ⟨by have := (lvlP_in iv).1; omega, (lvlP_in iv).2⟩
  have h2 : StepF s { didZ m s 1 (lvlP m s.level) s.level n 1 with held := (didZ m s 1 (lvlP m s.level) s.level n 1).held.map (spendZ n) } := ⟨hd.devs, hd.spent, hd.T, hd.N, hd.lat, hd.tim, hd.places, hd.policy, hd.naps, hd.le, hd.far⟩
  unfold runsTailZ
  dsimp only
  split
  · exact h2.endZ _ _
  · exact ⟨hd.devs, hd.spent, hd.T, hd.N, hd.lat, hd.tim, hd.places, hd.policy, hd.naps, hd.le, hd.far⟩
theorem startZ_same (s : KS) (j : Job) : (startZ s j).devs = s.devs ∧ (startZ s j).spent = s.spent ∧ (startZ s j).T = s.T ∧ (startZ s j).N = s.N ∧ (startZ s j).lat = s.lat ∧ (startZ s j).tim = s.tim ∧ (startZ s j).places = s.places ∧ (startZ s j).policy = s.policy ∧ (startZ s j).naps = s.naps ∧ (startZ s j).now = s.now := by
  unfold startZ
  split <;> exact ⟨rfl, rfl, rfl, rfl, rfl, rfl, rfl, rfl, rfl, rfl⟩
theorem StepR.frame (iv : KInv m A B s) (hn : s.now < 16384) (hr : StepR m s s') : StepF s s' := by
  have hnow := iv.now
  have hsw := iv.mok.sw
  unfold StepR at hr
  by_cases ha : s.asleep = true
  · rw [if_pos ha] at hr
    rw [hr]
    obtain ⟨h0, h1⟩ := iv.slp ha
    obtain ⟨k, hk⟩ : ∃ k : Nat, s.state = k := ⟨s.state.toNat, by omega⟩
    obtain ⟨x, hx⟩ : ∃ x, m.S[k]? = some x := ⟨m.S[k]'(by omega), List.getElem?_eq_getElem (by omega)⟩
    obtain ⟨g1, g2, g3, g4, g5, g6⟩ := iv.mok.slp k x hx
    have hz : sleepingZ m s = if s.now ≥ wz (s.wake - x.exit) then didZ m { s with asleep := false } 6 x.exit s.state 0 0 else didZ m s 5 1 s.state 0 0 := by
      unfold sleepingZ
      rw [hk, Int.toNat_natCast, hx]
      rfl
    rw [hz]
    split
    · exact (StepF.did (s := { s with asleep := false }) (m := m) hnow 6 x.exit s.state 0 0 ⟨g3, g4⟩).same rfl rfl rfl rfl rfl rfl rfl rfl rfl rfl
    · exact StepF.did hnow 5 1 s.state 0 0 (by omega)
  · rw [if_neg ha] at hr
    have ha' : s.asleep = false := by simpa using ha
    obtain ⟨n, ok, L, hL, _, hw, hr⟩ := hr
    cases ok with
    | true =>
      rw [if_pos rfl] at hr
      obtain ⟨_, j, hj⟩ := whoOf_job iv hL hw
      have hjt := (iv.jobs n j hj).1
      subst hjt
      unfold RunsR at hr
      rw [hj] at hr
      simp only [Option.getD_some] at hr
      split at hr
      · rw [hr]
        exact StepF.endZ ⟨rfl, rfl, rfl, rfl, rfl, rfl, rfl, rfl, rfl, Int.le_refl _, by omega⟩ _ _
      · split at hr
        · rename_i hc
          obtain ⟨b, s1, hch, hb⟩ := hr
          obtain ⟨lv, l0, l1, _, hz⟩ := chooseR_start hch
          obtain ⟨iv1, _, _, _, hlev, _, hj1⟩ := startZ_inv iv hj ha' hc
          obtain ⟨e1, e2, e3, e4, e5, e6, e7, e8, e9, e10⟩ := startZ_same s j
          rcases hz with ⟨_, rfl, rfl⟩ | ⟨hne, rfl, rfl⟩
          · rw [if_neg (by decide)] at hb
            rw [hb]
            exact (StepF.runsTail iv1 _ _).same e1 e2 e3 e4 e5 e6 e7 e8 e9 e10
          · rw [if_pos rfl] at hb
            rw [hb]
            exact (StepF.did (s := { startZ s j with level := lv }) (m := m) (by show 0 ≤ (startZ s j).now ∧ (startZ s j).now ≤ 17000; rw [e10]; exact hnow) 3 m.p.switch lv 0 0 hsw).same e1 e2 e3 e4 e5 e6 e7 e8 e9 e10
        · rw [hr]; exact StepF.runsTail iv _ _
    | false =>
      rw [if_neg (by decide)] at hr
      rcases hr with rfl | ⟨_, k, x, t, hx, _, _, _, rfl⟩
      · exact (StepF.did (s := { s with ended := false }) (m := m) hnow 2 1 0 0 0 (by omega)).same rfl rfl rfl rfl rfl rfl rfl rfl rfl rfl
      · obtain ⟨g1, g2, _⟩ := iv.mok.slp k x hx
        exact (StepF.did (s := { s with ended := false, asleep := true, state := (k : Int), wake := wz (s.now + t) }) (m := m) hnow 4 x.enter k 0 0 ⟨g1, g2⟩).same rfl rfl rfl rfl rfl rfl rfl rfl rfl rfl
/-- A device's moments and its cost. -/
def DevOne (now : Int) (d : Device) (x : Away) (p : Int) : Prop :=
  (x = ⟨0, 0⟩ ∧ p = 0) ∨ (0 ≤ x.from_ ∧ x.from_ ≤ now ∧ x.from_ + d.even ≤ x.until_ ∧ x.until_ ≤ 1099511627776 ∧ 0 ≤ p ∧ p ≤ d.on * x.from_)
theorem DevOne.later {now now' : Int} {d : Device} {x : Away} {p : Int} (h : DevOne now d x p) (hl : now ≤ now') : DevOne now' d x p := by
  rcases h with h | ⟨h1, h2, h3⟩
  · exact .inl h
  · exact .inr ⟨h1, by omega, h3⟩
theorem DevOne.on_le {now : Int} {d : Device} {x : Away} {p : Int} (hd : AwayOk d.down d.up d.downE d.upE d.off d.on d.even) (h0 : 0 ≤ now) (h1 : now ≤ 17000) (h : DevOne now d x p) (hs : stateZ d x now = 1) : wz (p + energyZ d x now) = p + energyZ d x now ∧ 0 ≤ p + energyZ d x now ∧ p + energyZ d x now ≤ d.on * now := by
  obtain ⟨k1, k2, k3, k4, k5, k6, k7, k8, k9, k10⟩ := hd
  have hon := mul_in k5.1 k5.2 h0 h1
  rcases h with ⟨rfl, rfl⟩ | ⟨f0, f1, f2, f3, p0, p1⟩
  · have he : energyZ d ⟨0, 0⟩ now = d.on * now := by
      unfold energyZ
      rw [if_pos (show neverZ ⟨0, 0⟩ = true from rfl), if_neg (by omega)]
      exact wz_id (by omega) (by omega)
    rw [he]
    refine ⟨wz_id (by omega) (by omega), by omega, by omega⟩
  · have hnv : neverZ x = false := by
      unfold neverZ
      by_cases e : x.from_ = 0
      · have : x.until_ ≠ 0 := by omega
        simp [this]
      · simp [e]
    have hu : now ≥ x.until_ := by
      unfold stateZ at hs
      rw [hnv] at hs
      by_cases g : now ≥ x.until_
      · exact g
      · rw [if_neg (by simp; omega)] at hs
        split at hs
        · cases hs
        · split at hs <;> cases hs
    have w1 : wz (x.from_ + d.down) = x.from_ + d.down := wz_id (by omega) (by omega)
    have w2 : wz (x.until_ - d.up) = x.until_ - d.up := wz_id (by omega) (by omega)
    have w3 : wz (0 + d.downE) = d.downE := by rw [show 0 + d.downE = d.downE by omega]; exact wz_id (by omega) (by omega)
    have w4 : wz (d.downE + d.upE) = d.downE + d.upE := wz_id (by omega) (by omega)
    have w5 : wz (x.until_ - d.up - (x.from_ + d.down)) = x.until_ - d.up - (x.from_ + d.down) := wz_id (by omega) (by omega)
    have w6 : wz (now - x.until_) = now - x.until_ := wz_id (by omega) (by omega)
    have hspan : spanZ (x.from_ + d.down) (x.until_ - d.up) now = x.until_ - d.up - (x.from_ + d.down) := by
      unfold spanZ
      have hif : (if now < x.until_ - d.up then now else x.until_ - d.up) = x.until_ - d.up := if_neg (by omega)
      rw [hif, w5, if_neg (by omega)]
    have m1 := mul_in k6.1 (show d.off ≤ 65536 by omega) (show 0 ≤ x.until_ - d.up - (x.from_ + d.down) by omega) (show x.until_ - d.up - (x.from_ + d.down) ≤ 17000 by omega)
    have m2 := mul_in k5.1 k5.2 (show 0 ≤ now - x.until_ by omega) (show now - x.until_ ≤ 17000 by omega)
    have he : energyZ d x now = d.downE + d.upE + d.off * (x.until_ - d.up - (x.from_ + d.down)) + d.on * (now - x.until_) := by
      unfold energyZ
      rw [hnv, if_neg (by decide)]
      dsimp only
      rw [w1, w2, hspan, if_pos (by omega), if_pos (by omega), w3, w4, w6, if_neg (by omega), wzi (x := d.off * (x.until_ - d.up - (x.from_ + d.down))) (by omega) (by omega), wzi (x := d.on * (now - x.until_)) (by omega) (by omega), wzi (x := d.downE + d.upE + d.off * (x.until_ - d.up - (x.from_ + d.down))) (by omega) (by omega)]
      exact wz_id (by omega) (by omega)
    -- off for longer than the least is no dearer than on
    have m3 : d.off * (x.until_ - d.up - (x.from_ + d.down)) = d.off * (d.even - d.down - d.up) + d.off * (x.until_ - x.from_ - d.even) := by
      rw [← Int.mul_add]
      congr 1
      omega
    have m4 : d.off * (x.until_ - x.from_ - d.even) ≤ d.on * (x.until_ - x.from_ - d.even) := Int.mul_le_mul_of_nonneg_right k6.2 (by omega)
    have m5 : d.on * now = d.on * x.from_ + (d.on * d.even + d.on * (x.until_ - x.from_ - d.even) + d.on * (now - x.until_)) := by
      rw [← Int.mul_add, ← Int.mul_add, ← Int.mul_add]
      congr 1
      omega
    rw [he]
    have hp1 := mul_in k5.1 k5.2 f0 (show x.from_ ≤ 17000 by omega)
    refine ⟨wz_id (by omega) (by omega), by omega, by omega⟩
theorem DevOne.call {now : Int} {d : Device} {x : Away} {p : Int} (hd : AwayOk d.down d.up d.downE d.upE d.off d.on d.even) (h0 : 0 ≤ now) (h1 : now ≤ 17000) (h : DevOne now d x p) : DevOne now d (callZ d x now) p := by
  obtain ⟨k1, k2, k3, k4, k5, k6, k7, k8, k9, k10⟩ := hd
  unfold callZ
  split
  · rename_i hu
    rcases h with ⟨rfl, rfl⟩ | ⟨f0, f1, f2, f3, p0, p1⟩
    · cases hu
    · have w1 : wz (x.from_ + d.even) = x.from_ + d.even := wz_id (by omega) (by omega)
      have w2 : wz (now + d.up) = now + d.up := wz_id (by omega) (by omega)
      have w3 : wz (x.from_ + d.down) = x.from_ + d.down := wz_id (by omega) (by omega)
      have w4 : wz (x.from_ + d.down + d.up) = x.from_ + d.down + d.up := wz_id (by omega) (by omega)
      refine .inr ⟨f0, f1, ?_, ?_, p0, p1⟩
      · dsimp only
        rw [w1, w2, w3, w4]
        unfold mxZ
        split <;> split <;> omega
      · dsimp only
        rw [w1, w2, w3, w4]
        unfold mxZ
        split <;> split <;> omega
  · exact h
theorem DevOne.calls {now : Int} {d : Device} {x : Away} {p : Int} (hd : AwayOk d.down d.up d.downE d.upE d.off d.on d.even) (h0 : 0 ≤ now) (h1 : now ≤ 17000) (h : DevOne now d x p) (n : Nat) : DevOne now d (Nat.repeat (fun z => callZ d z now) n x) p := by
  induction n with
  | zero => exact h
  | succ n ih => exact DevOne.call hd h0 h1 ih
theorem DevOne.away {now : Int} {d : Device} {x x' : Away} {p p' : Int} (hd : AwayOk d.down d.up d.downE d.upE d.off d.on d.even) (h0 : 0 ≤ now) (h1 : now ≤ 17000) (h : DevOne now d x p) (ha : AwayOne d now x p x' p') : DevOne now d x' p' := by
  obtain ⟨u, u0, u1, ⟨_, rfl, rfl⟩ | ⟨hb, rfl, rfl⟩⟩ := ha
  · exact h
  · unfold awayB at hb
    simp only [Bool.and_eq_true, beq_iff_eq, Bool.not_eq_true', decide_eq_false_iff_not] at hb
    obtain ⟨hs, he⟩ := hb
    rw [wzi (x := u - now) (by omega) (by omega)] at he
    obtain ⟨e1, e2, e3⟩ := h.on_le hd h0 h1 hs
    rw [e1]
    exact .inr ⟨h0, Int.le_refl _, by dsimp only; omega, u1, e2, e3⟩
/-- What holds of all devices. -/
def DevI (m : Mach) (s : KS) : Prop := ∀ (i : Nat) (d : Device) (x : Away) (p : Int), m.D[i]? = some d → s.devs[i]? = some x → s.spent[i]? = some p → DevOne s.now d x p
theorem DevI.eq (h : DevI m s) (e1 : s'.devs = s.devs) (e2 : s'.spent = s.spent) (e3 : s.now ≤ s'.now) : DevI m s' := fun i d x p hd hx hp => (h i d x p hd (by rw [← e1]; exact hx) (by rw [← e2]; exact hp)).later e3
theorem rel_frame (hr : RelOne s s') : s'.devs = s.devs ∧ s'.spent = s.spent ∧ s'.now = s.now ∧ s'.T = s.T ∧ s'.tim = s.tim := by
  obtain ⟨n, at_, cyc, t, _, _, _, _, rfl⟩ := hr
  exact ⟨rfl, rfl, rfl, rfl, rfl⟩
theorem exp_frame (hr : ExpOne s s') : s'.devs = s.devs ∧ s'.spent = s.spent ∧ s'.now = s.now ∧ s'.T = s.T ∧ s'.lat = s.lat ∧ s'.N = s.N := by
  obtain ⟨n, at_, cyc, _, _, _, rfl⟩ := hr
  exact ⟨rfl, rfl, rfl, rfl, rfl, rfl⟩
theorem DevI.bound (t : Tab m) (iv : KInv m A B s) (h : DevI m s) (hr : BoundR m s s') : DevI m s' := by
  obtain ⟨s1, s2, h1, _, h2, _, D, X, rfl, hDl, hXl, ha⟩ := hr
  have i1 := Star.keep (I := DevI m) (fun _ _ r i => i.eq (rel_frame r).1 (rel_frame r).2.1 (Int.le_of_eq (rel_frame r).2.2.1.symm)) h1 h
  have i2 := Star.keep (I := DevI m) (fun _ _ r i => i.eq (exp_frame r).1 (exp_frame r).2.1 (Int.le_of_eq (exp_frame r).2.2.1.symm)) h2 i1
  obtain ⟨j1, _, n1⟩ := h1.relInv iv
  obtain ⟨j2, _, n2⟩ := h2.expInv j1
  have hnow := j2.now
  intro i d x' p' hd hx' hp'
  have hx' : D[i]? = some x' := hx'
  have hp' : X[i]? = some p' := hp'
  have hlx : i < s2.devs.length := by have := lt_of_get hx'; omega
  have hlp : i < s2.spent.length := by have := lt_of_get hp'; omega
  obtain ⟨x3, p3, e1, e2, e3⟩ := ha i d _ _ hd (List.getElem?_eq_getElem hlx) (List.getElem?_eq_getElem hlp)
  rw [hx'] at e1
  rw [hp'] at e2
  cases e1; cases e2
  exact (i2 i d _ _ hd (List.getElem?_eq_getElem hlx) (List.getElem?_eq_getElem hlp)).away (t.dev i d hd) hnow.1 hnow.2 e3
theorem DevI.calm (t : Tab m) (iv : KInv m A B s) (h : DevI m s) {x : ASt} {n e : Int} (hr : OneR m s x n e s') (hk : x.kind ≠ 4) : DevI m s' := by
  have hnow := iv.now
  rcases hr with ⟨_, hr⟩ | ⟨_, _, hr⟩ | ⟨_, _, hr⟩ | ⟨hk4, _, hr⟩ | ⟨_, _, hr⟩ | ⟨_, _, hr⟩ | ⟨_, _, hr⟩ | ⟨_, _, _, rfl⟩
  · rcases hr with ⟨_, _, _, rfl⟩ | ⟨_, ⟨_, _, _, rfl⟩ | ⟨_, ⟨_, _, _, rfl⟩ | ⟨_, ⟨_, _, _, rfl⟩ | ⟨_, _, i, y, z, r, s1, _, _, _, _, ⟨D, rfl, ⟨hDl, hD⟩, _⟩, _, _, _, _, rfl⟩⟩⟩⟩
    · exact h
    · exact h
    · exact h
    · exact h
    · intro i d x p hd hx hp
      have hx : D[i]? = some x := hx
      have hlx : i < s.devs.length := by have := lt_of_get hx; rw [hDl] at this; exact this
      obtain ⟨y, n, e1, e2⟩ := hD i _ d hd (List.getElem?_eq_getElem hlx)
      rw [hx] at e1; cases e1
      rw [e2]
      exact (h i d _ p hd (List.getElem?_eq_getElem hlx) hp).calls (t.dev i d hd) hnow.1 hnow.2 n
  · rcases hr with ⟨rfl, _⟩ | ⟨_, _, _, _, _, rfl⟩
    · exact h
    · exact h.eq rfl rfl (Int.le_refl _)
  · rcases hr with ⟨_, rfl⟩ | ⟨_, _, _, _, _, _, _, _, rfl⟩
    · exact h
    · exact h.eq rfl rfl (Int.le_refl _)
  · exact absurd hk4 hk
  · rcases hr with ⟨rfl, _⟩ | ⟨_, n, L, _, _, _, _, t, _, _, _, hr⟩
    · exact h
    · rcases hr with ⟨_, i, _, rfl⟩ | ⟨_, _, c, _, rfl⟩ <;> exact h.eq rfl rfl (Int.le_refl _)
  · rcases hr with ⟨_, _, rfl⟩ | ⟨_, _, _, h0, h1, rfl⟩
    · exact h
    · exact h.eq rfl rfl (Int.le_refl _)
  · unfold TimerR at hr
    split at hr
    · rcases hr with ⟨_, _, rfl⟩ | ⟨_, _, rfl⟩
      · exact h.eq rfl rfl (Int.le_refl _)
      · exact h
    · rcases hr with ⟨_, _, rfl⟩ | ⟨_, _, _, _, _, _, _, rfl⟩
      · exact h
      · exact h.eq rfl rfl (Int.le_refl _)
  · exact h
theorem DevI.doR (t : Tab m) (h : DevI m s) {x : ASt} {n e : Int} (iv : KInv m A B s) (hA : A + 1 ≤ 800000000) (hB : B + 70000 ≤ bigN) (hr : DoR m s x n e s') : DevI m s' := by
  rcases hr with ⟨_, _, _, rfl⟩ | ⟨_, ⟨_, _, rfl⟩ | ⟨_, s1, h1, h2⟩⟩
  · exact h
  · exact h
  · have iv1 := (h1.inv iv hA hB).1
    refine DevI.bound t iv1 ?_ h2
    by_cases hk : x.kind = 4
    · rcases h1.calm with ⟨_, ht⟩ | hc
      · exact ht.keep (fun _ _ iv hn r i => i.eq (StepR.frame iv hn r).devs (StepR.frame iv hn r).spent (StepR.frame iv hn r).le) (fun _ _ iv r i => i.bound t iv r) iv h
      · rcases h1 with ⟨hk', _⟩ | ⟨hk', _⟩ | ⟨hk', _⟩ | ⟨_, _, ht⟩ | ⟨hk', _⟩ | ⟨hk', _⟩ | ⟨hk', _⟩ | ⟨hk', _⟩
        · omega
        · omega
        · omega
        · exact ht.keep (fun _ _ iv hn r i => i.eq (StepR.frame iv hn r).devs (StepR.frame iv hn r).spent (StepR.frame iv hn r).le) (fun _ _ iv r i => i.bound t iv r) iv h
        all_goals omega
    · exact h.calm t iv h1 hk
theorem DevI.s0 (m : Mach) : DevI m (s0 m) := by
  intro i d x p hd hx hp
  have hx := List.mem_of_getElem? hx
  have hp := List.mem_of_getElem? hp
  exact .inl ⟨List.eq_of_mem_replicate hx, List.eq_of_mem_replicate hp⟩
end
end Go.Proofs.YtajilfnceoeaiaaGreat.V
/- A timer is told for each of its moments, in order, at the first boundary from it on. Plain. -/
namespace Go.Proofs.YtajilfnceoeaiaaGreat.V
open Go Go.RowKit Enc
set_option maxRecDepth 100000
/-- The moment that is next, whether there is none any more, and whether all is right so far. -/
structure Tm where
  want : Int
  over : Bool
  ok : Bool
def tmOne (n every : Int) (x : Tm) (e : Event) : Tm :=
  if e.kind = 4 ∧ e.task = n then ⟨x.want + every, every == 0, x.ok && (!x.over && ((e.due == x.want) && (decide (x.want ≤ e.at_) && decide (e.at_ - x.want < 256))))⟩ else x
def tmAll (n every want : Int) (E : List Event) : Tm := E.foldl (tmOne n every) ⟨want, false, true⟩
theorem tmAll_snoc (n every want : Int) (E : List Event) (e : Event) : tmAll n every want (E ++ [e]) = tmOne n every (tmAll n every want E) e := by
  unfold tmAll
  rw [List.foldl_append]
  rfl
theorem tmOne_other {n every : Int} {x : Tm} {e : Event} (h : ¬ (e.kind = 4 ∧ e.task = n)) : tmOne n every x e = x := if_neg h
/-- What holds of one timer, behind so many events; it may be late by less than so much. -/
structure TmI (n every want : Int) (k0 : Nat) (late : Int) (s : KS) : Prop where
  len : k0 ≤ s.events.length
  ok : (tmAll n every want (s.events.drop k0)).ok = true
  off : (tmAll n every want (s.events.drop k0)).over = true → every = 0 ∧ s.tim n = none
  on : (tmAll n every want (s.events.drop k0)).over = false → s.tim n = some ((tmAll n every want (s.events.drop k0)).want, every) ∧ s.now < (tmAll n every want (s.events.drop k0)).want + late
  hi : (tmAll n every want (s.events.drop k0)).want ≤ 1000000
section
variable {m : Mach} {A B : Nat} {s s' : KS} {n every want late late' : Int} {k0 : Nat}
theorem TmI.mono (h : TmI n every want k0 late s) (hl : late ≤ late') : TmI n every want k0 late' s := ⟨h.len, h.ok, h.off, fun e => ⟨(h.on e).1, by have := (h.on e).2; omega⟩, h.hi⟩
theorem TmI.eq (h : TmI n every want k0 late s) (e1 : s'.events = s.events) (e2 : s'.tim n = s.tim n) (e3 : s'.now - s.now ≤ late' - late) : TmI n every want k0 late' s' := by
  refine ⟨by rw [e1]; exact h.len, by rw [e1]; exact h.ok, ?_, ?_, by rw [e1]; exact h.hi⟩
  · rw [e1, e2]; exact h.off
  · rw [e1, e2]
    intro e
    have := h.on e
    exact ⟨this.1, by omega⟩
theorem TmI.tell (h : TmI n every want k0 late s) {e : Event} (he : s'.events = s.events ++ [e]) (hne : ¬ (e.kind = 4 ∧ e.task = n)) (e2 : s'.tim n = s.tim n) (e3 : s'.now - s.now ≤ late' - late) : TmI n every want k0 late' s' := by
  have hd : tmAll n every want (s'.events.drop k0) = tmAll n every want (s.events.drop k0) := by
    rw [he, List.drop_append_of_le_length h.len, tmAll_snoc, tmOne_other hne]
  refine ⟨by rw [he, List.length_append]; exact Nat.le_trans h.len (Nat.le_add_right _ _), by rw [hd]; exact h.ok, ?_, ?_, by rw [hd]; exact h.hi⟩
  · rw [hd, e2]; exact h.off
  · rw [hd, e2]
    intro e
    have := h.on e
    exact ⟨this.1, by omega⟩
/-- What a step of the machine tells: at most that a job has ended. -/
theorem StepR.tells (iv : KInv m A B s) (hr : StepR m s s') : s'.events = s.events ∨ ∃ e, s'.events = s.events ++ [e] ∧ (e.kind = 2 ∨ e.kind = 3) := by
  have tail : ∀ (s1 : KS) (n : Int) (j : Job), (runsTailZ m s1 n j).events = s1.events ∨ ∃ e, (runsTailZ m s1 n j).events = s1.events ++ [e] ∧ (e.kind = 2 ∨ e.kind = 3) := by
    intro s1 n j
    unfold runsTailZ
    dsimp only
    split
    · rename_i hh
      refine .inr ⟨_, rfl, ?_⟩
      show jobHow j = 2 ∨ jobHow j = 3
      revert hh
      unfold jobHow
      split
      · exact fun _ => .inl rfl
      · split
        · exact fun _ => .inr rfl
        · exact fun h => absurd rfl h
    · exact .inl rfl
  have hst : ∀ (j : Job), (startZ s j).events = s.events := fun j => by unfold startZ; split <;> rfl
  unfold StepR at hr
  by_cases ha : s.asleep = true
  · rw [if_pos ha] at hr
    rw [hr]
    unfold sleepingZ
    dsimp only
    split <;> exact .inl rfl
  · rw [if_neg ha] at hr
    obtain ⟨n, ok, L, hL, _, hw, hr⟩ := hr
    cases ok with
    | true =>
      rw [if_pos rfl] at hr
      unfold RunsR at hr
      dsimp only at hr
      split at hr
      · rw [hr]
        exact .inr ⟨_, rfl, .inr rfl⟩
      · split at hr
        · obtain ⟨b, s1, hch, hb⟩ := hr
          obtain ⟨lv, l0, l1, _, hz⟩ := chooseR_start hch
          rcases hz with ⟨_, rfl, rfl⟩ | ⟨hne, rfl, rfl⟩
          · rw [if_neg (by decide)] at hb
            rw [hb]
            have := tail (startZ s ((s.jobs n).getD noJob)) n (((startZ s ((s.jobs n).getD noJob)).jobs n).getD noJob)
            rwa [hst] at this
          · rw [if_pos rfl] at hb
            rw [hb]
            exact .inl (hst _)
        · rw [hr]; exact tail s n _
    | false =>
      rw [if_neg (by decide)] at hr
      rcases hr with rfl | ⟨_, k, x, t, hx, _, _, _, rfl⟩
      · exact .inl rfl
      · exact .inl rfl
theorem TmI.step (iv : KInv m A B s) (hn : s.now < 16384) (h : TmI n every want k0 0 s) (hr : StepR m s s') : TmI n every want k0 256 s' := by
  have hf := StepR.frame iv hn hr
  have hfar := hf.far
  have ht : s'.tim n = s.tim n := by rw [hf.tim]
  rcases StepR.tells iv hr with he | ⟨e, he, hk⟩
  · exact h.eq he ht (by omega)
  · exact h.tell he (fun h => by omega) ht (by omega)
theorem TmI.rel (h : TmI n every want k0 256 s) (hr : RelOne s s') : TmI n every want k0 256 s' := by
  obtain ⟨k, at_, cyc, t, _, _, _, _, rfl⟩ := hr
  exact h.tell (e := ⟨1, k, at_, _⟩) rfl (fun h => absurd h.1 (show ¬ (1 : Int) = 4 by decide)) rfl (by show s.now - s.now ≤ _; omega)
theorem TmI.exp (iv : KInv m A B s) (he : 0 ≤ every ∧ every ≤ 16384) (h : TmI n every want k0 256 s) (hr : ExpOne s s') : TmI n every want k0 256 s' := by
  obtain ⟨id, at_, ev, hl, hd, hm, rfl⟩ := hr
  have hnow := iv.now
  by_cases hid : id = n
  · subst hid
    cases hov : (tmAll id every want (s.events.drop k0)).over with
    | true => have := (h.off hov).2; rw [this] at hl; cases hl
    | false =>
      obtain ⟨h1, h2⟩ := h.on hov
      rw [h1] at hl
      simp only [Option.some.injEq, Prod.mk.injEq] at hl
      obtain ⟨hw, rfl⟩ := hl
      have hrg := iv.tim id _ h1
      dsimp only at hrg
      have hnew : tmAll id every want ((s.events ++ [(⟨4, id, s.now, at_⟩ : Event)]).drop k0) = ⟨at_ + every, every == 0, true⟩ := by
        rw [List.drop_append_of_le_length h.len, tmAll_snoc]
        unfold tmOne
        rw [if_pos ⟨rfl, rfl⟩, h.ok, hov, hw]
        have : decide (at_ ≤ s.now) = true := decide_eq_true hd
        have h3 : decide (s.now - at_ < 256) = true := decide_eq_true (by omega)
        simp [this, h3]
      have hev : (tellZ { s with tim := if every > 0 then upd s.tim id (some (laterZ at_ every, every)) else upd s.tim id none } 4 id s.now at_).events = s.events ++ [⟨4, id, s.now, at_⟩] := rfl
      refine ⟨by rw [hev, List.length_append]; exact Nat.le_trans h.len (Nat.le_add_right _ _), by rw [hev, hnew], ?_, ?_, by rw [hev, hnew]; dsimp only; omega⟩
      · rw [hev, hnew]
        intro e0
        have e0 : every = 0 := by simpa using e0
        refine ⟨e0, ?_⟩
        show (if every > 0 then upd s.tim id (some (laterZ at_ every, every)) else upd s.tim id none) id = none
        rw [if_neg (by omega), upd, if_pos rfl]
      · rw [hev, hnew]
        intro e0
        have e0 : every ≠ 0 := by simpa using e0
        refine ⟨?_, ?_⟩
        · show (if every > 0 then upd s.tim id (some (laterZ at_ every, every)) else upd s.tim id none) id = some (at_ + every, every)
          rw [if_pos (by omega), upd, if_pos rfl, laterZ_in (by omega) (by omega) (by omega) he.2]
        · show s.now < at_ + every + 256
          omega
  · refine h.tell (e := ⟨4, id, s.now, at_⟩) rfl (fun h => hid h.2) ?_ (by show s.now - s.now ≤ _; omega)
    show (if ev > 0 then upd s.tim id (some (laterZ at_ ev, ev)) else upd s.tim id none) n = s.tim n
    split <;> rw [upd, if_neg (Ne.symm hid)]
theorem TmI.bound (iv : KInv m A B s) (he : 0 ≤ every ∧ every ≤ 16384) (h : TmI n every want k0 256 s) (hr : BoundR m s s') : TmI n every want k0 0 s' := by
  obtain ⟨s1, s2, h1, _, h2, hend, D, X, rfl, _⟩ := hr
  have i1 := Star.keep (I := TmI n every want k0 256) (fun _ _ r i => i.rel r) h1 h
  obtain ⟨j1, _, _⟩ := h1.relInv iv
  have i2 := (Star.keep (I := fun s => KInv m A B s ∧ TmI n every want k0 256 s) (fun _ _ r i => ⟨(r.inv i.1).1, i.2.exp i.1 he r⟩) h2 ⟨j1, i1⟩).2
  refine ⟨i2.len, i2.ok, i2.off, fun e => ?_, i2.hi⟩
  have := i2.on e
  have hlt := hend n _ this.1
  exact ⟨this.1, by dsimp only at hlt ⊢; omega⟩
theorem TmI.tick (he : 0 ≤ every ∧ every ≤ 16384) (iv : KInv m A B s) (h : TmI n every want k0 0 s) {a e : Int} (hr : TickR m s a e s') : TmI n every want k0 0 s' := by
  rcases hr with ⟨_, _, rfl⟩ | ⟨_, _, _, hs, _⟩
  · exact h
  · have hE := endT_le iv.mok s a
    refine (Star.keep (I := fun s => KInv m A B s ∧ TmI n every want k0 0 s) (fun s1 s2 r i => ?_) hs ⟨iv, h⟩).2
    obtain ⟨hlt, s3, h1, h2⟩ := r
    have j1 := stepR_inv i.1 (by omega) h1
    exact ⟨(h2.inv j1.1).1, (i.2.step i.1 (by omega) h1).bound j1.1 he h2⟩
/-- Steps that set no such timer leave it as it is. -/
theorem OneR.tim {x : ASt} {a e : Int} (hr : OneR m s x a e s') (hx : x.a ≠ n ∨ (x.kind ≠ 8 ∧ x.kind ≠ 9)) : x.kind = 4 ∨ s'.tim n = s.tim n := by
  rcases hr with ⟨_, hr⟩ | ⟨_, _, hr⟩ | ⟨_, _, hr⟩ | ⟨hk, _, hr⟩ | ⟨_, _, hr⟩ | ⟨hk, _, hr⟩ | ⟨hk, _, hr⟩ | ⟨_, _, _, rfl⟩
  · refine .inr ?_
    rcases hr with ⟨_, _, _, rfl⟩ | ⟨_, ⟨_, _, _, rfl⟩ | ⟨_, ⟨_, _, _, rfl⟩ | ⟨_, ⟨_, _, _, rfl⟩ | ⟨_, _, i, y, z, r, s1, _, _, _, _, ⟨D, rfl, _⟩, _, _, _, _, rfl⟩⟩⟩⟩ <;> rfl
  · refine .inr ?_
    rcases hr with ⟨rfl, _⟩ | ⟨_, _, _, _, _, rfl⟩ <;> rfl
  · refine .inr ?_
    rcases hr with ⟨_, rfl⟩ | ⟨_, _, _, _, _, _, _, _, rfl⟩ <;> rfl
  · exact .inl hk
  · refine .inr ?_
    rcases hr with ⟨rfl, _⟩ | ⟨_, n, L, _, _, _, _, t, _, _, _, hr⟩
    · rfl
    · rcases hr with ⟨_, i, _, rfl⟩ | ⟨_, _, c, _, rfl⟩ <;> rfl
  · refine .inr ?_
    rcases hr with ⟨_, _, rfl⟩ | ⟨_, _, _, h0, h1, rfl⟩ <;> rfl
  · have hne : n ≠ x.a := fun h => (by rcases hx with hx | hx <;> omega)
    refine .inr ?_
    unfold TimerR at hr
    have hst : x.st.a = x.a := rfl
    split at hr
    · rcases hr with ⟨_, _, rfl⟩ | ⟨_, _, rfl⟩
      · show upd s.tim x.st.a none n = s.tim n
        rw [hst, upd, if_neg hne]
      · rfl
    · rcases hr with ⟨_, _, rfl⟩ | ⟨_, _, _, _, _, _, _, rfl⟩
      · rfl
      · show upd s.tim x.st.a _ n = s.tim n
        rw [hst, upd, if_neg hne]
  · exact .inr rfl
theorem TmI.doR (he : 0 ≤ every ∧ every ≤ 16384) (h : TmI n every want k0 0 s) {x : ASt} {a e : Int} (hx : x.a ≠ n ∨ (x.kind ≠ 8 ∧ x.kind ≠ 9)) (iv : KInv m A B s) (hA : A + 1 ≤ 800000000) (hB : B + 70000 ≤ bigN) (hr : DoR m s x a e s') : TmI n every want k0 0 s' := by
  rcases hr with ⟨_, _, _, rfl⟩ | ⟨_, ⟨_, _, rfl⟩ | ⟨_, s1, h1, h2⟩⟩
  · exact h
  · exact h
  · have iv1 := (h1.inv iv hA hB).1
    refine TmI.bound iv1 he ?_ h2
    by_cases hk : x.kind = 4
    · rcases h1 with ⟨hk', _⟩ | ⟨hk', _⟩ | ⟨hk', _⟩ | ⟨_, _, ht⟩ | ⟨hk', _⟩ | ⟨hk', _⟩ | ⟨hk', _⟩ | ⟨hk', _⟩
      · omega
      · omega
      · omega
      · exact (h.tick he iv ht).mono (by omega)
      all_goals omega
    · have ht := (h1.tim hx).resolve_left hk
      rcases h1.calm with ⟨hk4, _⟩ | c
      · exact absurd hk4 hk
      · exact h.eq c.events ht (by rw [c.now]; omega)
/-- A timer is set. -/
theorem TmI.set {x : ASt} {a e : Int} (hk : x.kind = 8) (ha : x.a = n) (hn : 0 ≤ n ∧ n ≤ 3) (hb : 0 ≤ x.b ∧ x.b ≤ 2000) (hc : x.c = every) (he : 0 ≤ every ∧ every ≤ 2000) (hw : want = s.now + x.b) (hlt : s.now < m.p.horizon) (iv : KInv m A B s) (hA : A + 1 ≤ 800000000) (hB : B + 70000 ≤ bigN) (hr : DoR m s x a e s') :
    e = 0 ∧ TmI n every want s.events.length 0 s' := by
  have hnow := iv.now
  have hone : ∀ e s1, OneR m s x a e s1 → TimerR s x.st e s1 := by
    intro e s1 h
    rcases h with ⟨h, _⟩ | ⟨h, _⟩ | ⟨h, _⟩ | ⟨h, _⟩ | ⟨h, _⟩ | ⟨h, _⟩ | ⟨_, _, h⟩ | ⟨h, _⟩
    · omega
    · omega
    · omega
    · omega
    · omega
    · omega
    · exact h
    · omega
  have hset : ∀ e s1, TimerR s x.st e s1 → e = 0 ∧ s1 = { s with tim := upd s.tim n (some (want, every)) } := by
    intro e s1 h
    unfold TimerR at h
    rw [if_neg (show ¬ x.st.kind = 9 by show ¬ x.kind = 9; omega)] at h
    have e1 : x.st.a = n := ha
    have e2 : x.st.b = x.b := rfl
    have e3 : x.st.c = every := hc
    rw [e1, e2, e3] at h
    rcases h with ⟨_, hne, _⟩ | ⟨rfl, _, _, _, _, _, _, rfl⟩
    · exact absurd ⟨hn.1, hn.2, hb.1, by omega, he.1, by omega⟩ hne
    · have hwz : wz (s.now + x.b) = want := by rw [hw]; exact wz_id (by omega) (by omega)
      rw [hwz, if_neg (by omega)]
      exact ⟨rfl, rfl⟩
  rcases hr with ⟨h, _⟩ | ⟨_, ⟨hne, h, _⟩ | ⟨rfl, s1, h1, h2⟩⟩
  · omega
  · exact absurd (hset e s (hone e s h)).1 hne
  · refine ⟨rfl, ?_⟩
    have iv1 := (h1.inv iv hA hB).1
    obtain ⟨_, rfl⟩ := hset 0 s1 (hone 0 s1 h1)
    refine TmI.bound iv1 (by omega) ?_ h2
    have hd : tmAll n every want (s.events.drop s.events.length) = ⟨want, false, true⟩ := by rw [List.drop_length]; rfl
    refine ⟨Nat.le_refl _, ?_, ?_, ?_, ?_⟩
    · show (tmAll n every want (s.events.drop s.events.length)).ok = true
      rw [hd]
    · show (tmAll n every want (s.events.drop s.events.length)).over = true → _
      rw [hd]
      exact fun h => by cases h
    · show (tmAll n every want (s.events.drop s.events.length)).over = false → upd s.tim n (some (want, every)) n = some ((tmAll n every want (s.events.drop s.events.length)).want, every) ∧ s.now < (tmAll n every want (s.events.drop s.events.length)).want + 256
      rw [hd]
      intro _
      refine ⟨by rw [upd, if_pos rfl], by dsimp only; omega⟩
    · show (tmAll n every want (s.events.drop s.events.length)).want ≤ 1000000
      rw [hd]
      dsimp only
      omega
end
end Go.Proofs.YtajilfnceoeaiaaGreat.V
/- Jobs of one task come no closer than its period; each at just the moment that was told, with its deadline a period later. Plain. -/
namespace Go.Proofs.YtajilfnceoeaiaaGreat.V
open Go Go.RowKit Enc
set_option maxRecDepth 100000
def perZ (T : List ATask) (n : Int) : Int := ((T[n.toNat]?).map fun x => x.t.period).getD 0
/-- When the last job of each task was due, and whether all is right so far. -/
structure Ap where
  D : Int → Int
  ok : Bool
def apOne (A per : Int → Int) (x : Ap) (e : Event) : Ap :=
  if e.kind = 1 then ⟨upd x.D e.task e.due, x.ok && ((decide (0 ≤ e.task) && decide (e.task < 6)) && ((decide (0 ≤ e.at_) && decide (e.at_ ≤ 17000)) && (decide (x.D e.task ≤ e.at_) && ((e.at_ == A e.task) && (e.due == e.at_ + per e.task)))))⟩ else x
def apAll (A per D : Int → Int) (E : List Event) : Ap := E.foldl (apOne A per) ⟨D, true⟩
theorem apAll_snoc (A per D : Int → Int) (E : List Event) (e : Event) : apAll A per D (E ++ [e]) = apOne A per (apAll A per D E) e := by
  unfold apAll
  rw [List.foldl_append]
  rfl
/-- What holds of tasks: what was asked, and when the last one was due. -/
structure ApS (A D : Int → Int) (s : KS) : Prop where
  tb : ∀ x ∈ s.T, x.t.period ≤ 16384
  has : ∀ n, hasZ s n → 0 ≤ D n ∧ D n ≤ s.N.getD n.toNat 0
  lat : ∀ n a c, s.lat n = some (a, c) → hasZ s n ∧ a = A n ∧ D n ≤ a
  non : ∀ n, ¬ hasZ s n → D n = 0
structure ApW (A per D : Int → Int) (k0 : Nat) (s : KS) : Prop where
  len : k0 ≤ s.events.length
  ok : (apAll A per D (s.events.drop k0)).ok = true
  st : ApS A (apAll A per D (s.events.drop k0)).D s
  per : perZ s.T = per
section
variable {m : Mach} {A B : Nat} {s s' : KS} {F per D : Int → Int} {k0 : Nat}
theorem ApS.eq (h : ApS F D s) (e1 : s'.T = s.T) (e2 : s'.N = s.N) (e3 : s'.lat = s.lat) : ApS F D s' := by
  have hh : ∀ n, hasZ s' n ↔ hasZ s n := fun n => by unfold hasZ; rw [e1]
  exact ⟨by rw [e1]; exact h.tb, fun n hn => by rw [e2]; exact h.has n ((hh n).1 hn), fun n a c hl => by rw [e3] at hl; obtain ⟨h1, h2⟩ := h.lat n a c hl; exact ⟨(hh n).2 h1, h2⟩, fun n hn => h.non n fun h => hn ((hh n).2 h)⟩
theorem ApW.eq (h : ApW F per D k0 s) (e0 : s'.events = s.events) (e1 : s'.T = s.T) (e2 : s'.N = s.N) (e3 : s'.lat = s.lat) : ApW F per D k0 s' :=
  ⟨by rw [e0]; exact h.len, by rw [e0]; exact h.ok, by rw [e0]; exact h.st.eq e1 e2 e3, by rw [e1]; exact h.per⟩
theorem ApW.tell (h : ApW F per D k0 s) {e : Event} (he : s'.events = s.events ++ [e]) (hk : e.kind ≠ 1) (e1 : s'.T = s.T) (e2 : s'.N = s.N) (e3 : s'.lat = s.lat) : ApW F per D k0 s' := by
  have hd : apAll F per D (s'.events.drop k0) = apAll F per D (s.events.drop k0) := by
    rw [he, List.drop_append_of_le_length h.len, apAll_snoc]
    unfold apOne
    rw [if_neg hk]
  exact ⟨by rw [he, List.length_append]; exact Nat.le_trans h.len (Nat.le_add_right _ _), by rw [hd]; exact h.ok, by rw [hd]; exact h.st.eq e1 e2 e3, by rw [e1]; exact h.per⟩
theorem ApW.step (iv : KInv m A B s) (hn : s.now < 16384) (h : ApW F per D k0 s) (hr : StepR m s s') : ApW F per D k0 s' := by
  have hf := StepR.frame iv hn hr
  rcases StepR.tells iv hr with he | ⟨e, he, hk⟩
  · exact h.eq he hf.T hf.N hf.lat
  · exact h.tell he (by omega) hf.T hf.N hf.lat
theorem ApW.exp (h : ApW F per D k0 s) (hr : ExpOne s s') : ApW F per D k0 s' := by
  obtain ⟨id, at_, ev, _, _, _, rfl⟩ := hr
  exact h.tell (e := ⟨4, id, s.now, at_⟩) rfl (show ¬ (4 : Int) = 1 by decide) rfl rfl rfl
theorem ApW.rel (iv : KInv m A B s) (h : ApW F per D k0 s) (hr : RelOne s s') : ApW F per D k0 s' := by
  obtain ⟨n, at_, cyc, t, hl, hd, hm, ht, rfl⟩ := hr
  obtain ⟨hz, hA, hD⟩ := h.st.lat n at_ cyc hl
  obtain ⟨h0, h6⟩ := iv.lat n _ hl
  have hD0 := (h.st.has n hz).1
  have hnow := iv.now
  have hN := iv.N
  obtain ⟨_, t', ht', hper⟩ := id hz
  rw [ht] at ht'
  cases ht'
  have htb := h.st.tb t (List.mem_of_getElem? ht)
  have hpz : per n = t.t.period := by rw [← h.per]; unfold perZ; rw [ht]; rfl
  have hj : (jobNew n t.t at_ cyc).deadline = at_ + t.t.period := wz_id (by omega) (by omega)
  have hnew : apAll F per D ((s.events ++ [(⟨1, n, at_, at_ + t.t.period⟩ : Event)]).drop k0) = ⟨upd (apAll F per D (s.events.drop k0)).D n (at_ + t.t.period), true⟩ := by
    rw [List.drop_append_of_le_length h.len, apAll_snoc]
    unfold apOne
    rw [if_pos rfl, h.ok]
    have hp0 : 0 ≤ at_ := by omega
    have hp1 : at_ ≤ 17000 := by omega
    simp [h0, h6, hA, hpz]
    refine ⟨⟨?_, ?_⟩, ?_⟩ <;> omega
  rw [hj]
  have hev : (tellZ { s with lat := upd s.lat n none, jobs := upd s.jobs n (some (jobNew n t.t at_ cyc)), N := s.N.set n.toNat (at_ + t.t.period), U := s.U.set n.toNat (jobNew n t.t at_ cyc).left } 1 n at_ (at_ + t.t.period)).events = s.events ++ [⟨1, n, at_, at_ + t.t.period⟩] := rfl
  refine ⟨by rw [hev, List.length_append]; exact Nat.le_trans h.len (Nat.le_add_right _ _), by rw [hev, hnew], ?_, h.per⟩
  rw [hev, hnew]
  refine ⟨h.st.tb, fun k hk => ?_, fun k a c hk => ?_, fun k hk => ?_⟩
  · show 0 ≤ upd _ n _ k ∧ upd _ n _ k ≤ (s.N.set n.toNat (at_ + t.t.period)).getD k.toNat 0
    by_cases e : k = n
    · subst e
      rw [upd, if_pos rfl, List.getD_eq_getElem?_getD, List.getElem?_set_self (by omega)]
      exact ⟨by omega, Int.le_refl _⟩
    · obtain ⟨g0, _⟩ := id hk
      rw [upd, if_neg e, List.getD_eq_getElem?_getD, List.getElem?_set_ne (by omega), ← List.getD_eq_getElem?_getD]
      exact h.st.has k hk
  · have hk : upd s.lat n none k = some (a, c) := hk
    by_cases e : k = n
    · rw [upd, if_pos e] at hk; cases hk
    · rw [upd, if_neg e] at hk
      obtain ⟨g1, g2, g3⟩ := h.st.lat k a c hk
      refine ⟨g1, g2, ?_⟩
      show upd _ n _ k ≤ a
      rw [upd, if_neg e]
      exact g3
  · have hne : k ≠ n := fun e => hk (by rw [e]; exact hz)
    show upd _ n _ k = 0
    rw [upd, if_neg hne]
    exact h.st.non k hk
theorem ApW.bound (iv : KInv m A B s) (h : ApW F per D k0 s) (hr : BoundR m s s') : ApW F per D k0 s' := by
  obtain ⟨s1, s2, h1, _, h2, _, D', X, rfl, _⟩ := hr
  have i1 := (Star.keep (I := fun s => KInv m A B s ∧ ApW F per D k0 s) (fun _ _ r i => ⟨(r.inv i.1).1, i.2.rel i.1 r⟩) h1 ⟨iv, h⟩).2
  have i2 := Star.keep (I := ApW F per D k0) (fun _ _ r i => i.exp r) h2 i1
  exact i2.eq rfl rfl rfl rfl
theorem ApW.tick (iv : KInv m A B s) (h : ApW F per D k0 s) {a e : Int} (hr : TickR m s a e s') : ApW F per D k0 s' :=
  hr.keep (fun _ _ iv hn r i => i.step iv hn r) (fun _ _ iv r i => i.bound iv r) iv h
theorem hasZ_set {T : List ATask} {s s' : KS} {i : Nat} {z : ATask} (e : s.T = T) (e' : s'.T = T.set i z) (hi : i < T.length) (n : Int) (hn : 0 ≤ n) : hasZ s' n ↔ (if n.toNat = i then z.t.period > 0 else hasZ s n) := by
  unfold hasZ
  rw [e, e', List.getElem?_set]
  by_cases h : i = n.toNat
  · subst h
    rw [if_pos rfl, if_pos rfl, if_pos hi]
    simp [hn]
  · rw [if_neg h, if_neg (Ne.symm h)]
/-- What was asked, behind a step. -/
def askedZ (F : Int → Int) (s : KS) (x : ASt) (e : Int) : Int → Int := if x.kind = 3 ∧ e = 0 then upd F x.a (s.now + x.b) else F
theorem ApS.one (iv : KInv m A B s) (h : ApS F D s) {x : ASt} {n e : Int} (hk2 : x.kind ≠ 2) (hk4 : x.kind ≠ 4) (hr : OneR m s x n e s') : ApS (askedZ F s x e) D s' ∧ (x.kind = 3 ∧ e = 0 → 0 ≤ x.a ∧ x.a < 6) := by
  have hnow := iv.now
  have hT := iv.T
  have hN := iv.N
  have hor := iv.mok.hor
  have same : x.kind ≠ 3 → askedZ F s x e = F := fun h => if_neg fun g => h g.1
  rcases hr with ⟨hk, hr⟩ | ⟨hk, _, hr⟩ | ⟨hk, _, hr⟩ | ⟨hk, _, hr⟩ | ⟨hk, _, hr⟩ | ⟨hk, _, hr⟩ | ⟨hk, _, hr⟩ | ⟨hk, _, _, rfl⟩
  · rw [same (by omega)]
    refine ⟨?_, fun g => by omega⟩
    rcases hr with ⟨_, _, _, rfl⟩ | ⟨hck, ⟨_, _, _, rfl⟩ | ⟨_, ⟨_, _, _, rfl⟩ | ⟨_, ⟨_, _, _, rfl⟩ | ⟨_, _, i, y, z, r, s1, _, hy, hy0, _, ⟨D1, rfl, _, hr0, _⟩, z1, z2, z3, z4, rfl⟩⟩⟩⟩
    · exact h
    · exact h
    · exact h
    · exact h
    · obtain ⟨c1, c2, _⟩ := checkZ_zero hck
      have hi := lt_of_get hy
      have hi6 : i < 6 := by omega
      have hr0 : s.now ≤ r := hr0
      have hnot : ∀ n : Int, 0 ≤ n → n.toNat = i → ¬ hasZ s n := by
        rintro n h0 hni ⟨_, t, ht, hp⟩
        rw [hni, hy] at ht
        cases ht
        omega
      have hz := fun (n : Int) (h0 : 0 ≤ n) => hasZ_set (s := s) (s' := { s with places := s.places + 1, devs := D1, T := s.T.set i z, N := s.N.set i r, U := s.U.set i x.t.t.cycles }) (z := z) rfl rfl hi n h0
      refine ⟨fun u hu => ?_, fun n hn => ?_, fun n a c hl => ?_, fun n hn => ?_⟩
      · rcases List.mem_or_eq_of_mem_set hu with hu | rfl
        · exact h.tb u hu
        · omega
      · have h0 : 0 ≤ n := hn.1
        have hn' := (hz n h0).1 hn
        show 0 ≤ D n ∧ D n ≤ (s.N.set i r).getD n.toNat 0
        by_cases e : n.toNat = i
        · rw [h.non n (hnot n h0 e), e, List.getD_eq_getElem?_getD, List.getElem?_set_self (by omega)]
          exact ⟨Int.le_refl _, by show (0 : Int) ≤ r; omega⟩
        · rw [if_neg e] at hn'
          rw [List.getD_eq_getElem?_getD, List.getElem?_set_ne (Ne.symm e), ← List.getD_eq_getElem?_getD]
          exact h.has n hn'
      · obtain ⟨g1, g2, g3⟩ := h.lat n a c hl
        refine ⟨(hz n g1.1).2 ?_, g2, g3⟩
        by_cases e : n.toNat = i
        · exact absurd g1 (hnot n g1.1 e)
        · rw [if_neg e]; exact g1
      · by_cases h0 : 0 ≤ n
        · by_cases e : n.toNat = i
          · exact h.non n (hnot n h0 e)
          · refine h.non n fun g => hn ((hz n h0).2 ?_)
            rw [if_neg e]; exact g
        · exact h.non n fun g => h0 g.1
  · exact absurd hk hk2
  · rcases hr with ⟨herr, es⟩ | ⟨hz, a0, a1, _, _, hl, hNn, rfl, rfl⟩
    · have he : e ≠ 0 := by rcases herr with ⟨_, rfl⟩ | ⟨_, ⟨_, rfl⟩ | ⟨_, rfl⟩ | ⟨_, rfl⟩ | ⟨_, rfl⟩⟩ <;> decide
      have : askedZ F s x e = F := if_neg fun g => he g.2
      rw [this, es]
      exact ⟨h, fun g => absurd g.2 he⟩
    · have hw : wz (s.now + x.b) = s.now + x.b := wz_id (by omega) (by omega)
      rw [hw] at hNn ⊢
      have hF : askedZ F s x 0 = upd F x.a (s.now + x.b) := if_pos ⟨hk, rfl⟩
      rw [hF]
      have hx6 : x.a < 6 := by
        obtain ⟨g0, t, ht, _⟩ := id hz
        have := lt_of_get ht
        omega
      have hx0 := hz.1
      refine ⟨⟨h.tb, fun n hn => ?_, fun n a c hl => ?_, h.non⟩, fun _ => ⟨hx0, hx6⟩⟩
      · have hn' : hasZ s n := hn
        have h1 := h.has n hn'
        refine ⟨h1.1, ?_⟩
        show D n ≤ (s.N.set x.a.toNat (s.now + x.b)).getD n.toNat 0
        by_cases e : n = x.a
        · subst e
          rw [List.getD_eq_getElem?_getD, List.getElem?_set_self (by omega)]
          exact Int.le_trans h1.2 hNn
        · have := hn.1
          rw [List.getD_eq_getElem?_getD, List.getElem?_set_ne (by omega), ← List.getD_eq_getElem?_getD]
          exact h1.2
      · have hl : upd s.lat x.a (some (s.now + x.b, x.c)) n = some (a, c) := hl
        by_cases e : n = x.a
        · subst e
          rw [upd, if_pos rfl] at hl
          simp only [Option.some.injEq, Prod.mk.injEq] at hl
          obtain ⟨rfl, rfl⟩ := hl
          exact ⟨hz, by rw [upd, if_pos rfl], Int.le_trans (h.has _ hz).2 hNn⟩
        · rw [upd, if_neg e] at hl
          obtain ⟨g1, g2, g3⟩ := h.lat n a c hl
          exact ⟨g1, by rw [upd, if_neg e]; exact g2, g3⟩
  · exact absurd hk hk4
  · rw [same (by omega)]
    refine ⟨?_, fun g => by omega⟩
    rcases hr with ⟨rfl, _⟩ | ⟨_, n, L, _, _, _, _, t, _, _, _, hr⟩
    · exact h
    · rcases hr with ⟨_, i, _, rfl⟩ | ⟨_, _, c, _, rfl⟩ <;> exact h.eq rfl rfl rfl
  · rw [same (by omega)]
    refine ⟨?_, fun g => by omega⟩
    rcases hr with ⟨_, _, rfl⟩ | ⟨_, _, _, h0, h1, rfl⟩
    · exact h
    · exact h.eq rfl rfl rfl
  · rw [same (by omega)]
    refine ⟨?_, fun g => by omega⟩
    unfold TimerR at hr
    split at hr
    · rcases hr with ⟨_, _, rfl⟩ | ⟨_, _, rfl⟩
      · exact h.eq rfl rfl rfl
      · exact h
    · rcases hr with ⟨_, _, rfl⟩ | ⟨_, _, _, _, _, _, _, rfl⟩
      · exact h
      · exact h.eq rfl rfl rfl
  · rw [same (by omega)]
    exact ⟨h, fun g => by omega⟩
/-- Behind a step of a script that is no removal. -/
theorem ApS.doR (h : ApS F D s) {x : ASt} {n e : Int} (hk2 : x.kind ≠ 2) (iv : KInv m A B s) (hA : A + 1 ≤ 800000000) (hB : B + 70000 ≤ bigN) (hr : DoR m s x n e s') :
    ApW (askedZ F s x e) (perZ s'.T) D s.events.length s' ∧ (x.kind = 3 ∧ e = 0 → 0 ≤ x.a ∧ x.a < 6) := by
  have start : ∀ (G : Int → Int) (s1 : KS), s1.events = s.events → ApS G D s1 → ApW G (perZ s1.T) D s.events.length s1 := by
    intro G s1 he h1
    have hd : apAll G (perZ s1.T) D (s1.events.drop s.events.length) = ⟨D, true⟩ := by rw [he, List.drop_length]; rfl
    exact ⟨by rw [he]; exact Nat.le_refl _, by rw [hd], by rw [hd]; exact h1, rfl⟩
  have stay : e ≠ 0 → s' = s → ApW (askedZ F s x e) (perZ s'.T) D s.events.length s' ∧ (x.kind = 3 ∧ e = 0 → 0 ≤ x.a ∧ x.a < 6) := by
    intro he es
    have : askedZ F s x e = F := if_neg fun g => he g.2
    rw [this, es]
    exact ⟨start F s rfl h, fun g => absurd g.2 he⟩
  rcases hr with ⟨_, _, rfl, e1⟩ | ⟨_, ⟨he, _, e1⟩ | ⟨rfl, s1, h1, h2⟩⟩
  · exact stay (by decide) e1
  · exact stay he e1
  · have iv1 := (h1.inv iv hA hB).1
    by_cases hk : x.kind = 4
    · have hF : askedZ F s x 0 = F := if_neg fun g => by omega
      rw [hF]
      refine ⟨?_, fun g => by omega⟩
      have ht : TickR m s x.a 0 s1 := by
        rcases h1 with ⟨hk', _⟩ | ⟨hk', _⟩ | ⟨hk', _⟩ | ⟨_, _, ht⟩ | ⟨hk', _⟩ | ⟨hk', _⟩ | ⟨hk', _⟩ | ⟨hk', _⟩
        · omega
        · omega
        · omega
        · exact ht
        all_goals omega
      have w1 := (start F s rfl h).tick iv ht
      have w2 := w1.bound iv1 h2
      rw [w2.per]
      exact w2
    · obtain ⟨g1, g2⟩ := h.one iv hk2 hk h1
      have hev : s1.events = s.events := by
        rcases h1.calm with ⟨hk4, _⟩ | c
        · exact absurd hk4 hk
        · exact c.events
      have w1 := (start _ s1 hev g1).bound iv1 h2
      refine ⟨?_, g2⟩
      rw [w1.per]
      exact w1
theorem ApS.s0 (m : Mach) : ApS (fun _ => 0) (fun _ => 0) (s0 m) := by
  have hno : ∀ n, ¬ hasZ (V.s0 m) n := by
    rintro n ⟨_, t, ht, hp⟩
    have := List.eq_of_mem_replicate (List.mem_of_getElem? ht)
    subst this
    exact absurd hp (by decide)
  refine ⟨fun x hx => ?_, fun n hn => absurd hn (hno n), fun n a c hl => (by cases hl), fun _ _ => rfl⟩
  rw [List.eq_of_mem_replicate hx]
  decide
end
end Go.Proofs.YtajilfnceoeaiaaGreat.V
