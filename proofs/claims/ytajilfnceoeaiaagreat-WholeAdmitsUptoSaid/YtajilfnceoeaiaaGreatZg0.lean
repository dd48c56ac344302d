/- Parts of the proof: Propositions of function bodies, printed by a program, The reference's functions of admission, The reference's functions of admission: Part, Reserve, Load, Task, SameTask, Switches: no more than jobs came and ended; each leads to another level; each cycle runs at the level that was chosen last. Plain, Whenever a device is on, it has cost no more than if it had never been away. Plain. -/
import Derived.Test.YtajilfnceoeaiaaGreatZa12
set_option linter.unusedVariables false
set_option linter.unusedSimpArgs false
/- Propositions of function bodies, printed by a program. -/
namespace Go.Proofs.YtajilfnceoeaiaaGreat.V
open Go
set_option linter.unusedVariables false
set_option maxRecDepth 100000
theorem f33_of (a : Task) (b : Task) {K : Bool → World → Prop} {w : World} (vc :
 New [.int .i64 a.period, .int .i64 a.cycles, .slice a.sec.a a.sec.n a.sec.c, .slice a.devs.a a.devs.n a.devs.c] 37 (fun a1 w =>
 New [.int .i64 b.period, .int .i64 b.cycles, .slice b.sec.a b.sec.n b.sec.c, .slice b.devs.a b.devs.n b.devs.c] 37 (fun a2 w =>
 Ld (.ki .i64) (a1.add 0) (fun n3 w =>
 Ld (.ki .i64) (a2.add 0) (fun n4 w =>
 If (n3 != n4) (
 K false w) (
 Ld (.ki .i64) (a1.add 1) (fun n5 w =>
 Ld (.ki .i64) (a2.add 1) (fun n6 w =>
 If (n5 != n6) (
 K false w) (
 Ld (.ks) (a1.add 2) (fun s7 w =>
 Ld (.ks) (a2.add 2) (fun s8 w =>
 If (((s7.n : Nat) : Int) != ((s8.n : Nat) : Int)) (
 K false w) (
 Ld (.ks) (a1.add 3) (fun s9 w =>
 Ld (.ks) (a2.add 3) (fun s10 w =>
 If (((s9.n : Nat) : Int) != ((s10.n : Nat) : Int)) (
 K false w) (
 ∃ (I12 : Int → World → Prop) (M13 : Int → World → Nat), I12 0 w ∧ ∀ (n11 : Int) (v14 : World), I12 n11 v14 → ∀ _ : Nat → Value,
 (fun w : World =>
 Ld (.ks) (a1.add 2) (fun s15 w =>
 If (decide (n11 < ((s15.n : Nat) : Int))) (
 (fun w : World =>
 Ld (.ks) (a1.add 2) (fun s16 w =>
 ((0 : Int) ≤ n11 ∧ n11 < ((s16.n : Nat) : Int)) ∧ WithAddr s16.a fun a17 =>
 Ld (.ki .i64) (a17.add (Int.toNat n11 * 1)) (fun n18 w =>
 Ld (.ks) (a2.add 2) (fun s19 w =>
 ((0 : Int) ≤ n11 ∧ n11 < ((s19.n : Nat) : Int)) ∧ WithAddr s19.a fun a20 =>
 Ld (.ki .i64) (a20.add (Int.toNat n11 * 1)) (fun n21 w =>
 If (n18 != n21) (
 K false w) (
 I12 (IntKind.wrap .i64 (n11 + 1)) w ∧ M13 (IntKind.wrap .i64 (n11 + 1)) w < M13 n11 v14)) w) w) w) w) w.drew) (
 ∃ (I23 : Int → World → Prop) (M24 : Int → World → Nat), I23 0 w ∧ ∀ (n22 : Int) (v25 : World), I23 n22 v25 → ∀ _ : Nat → Value,
 (fun w : World =>
 Ld (.ks) (a1.add 3) (fun s26 w =>
 If (decide (n22 < ((s26.n : Nat) : Int))) (
 (fun w : World =>
 Ld (.ks) (a1.add 3) (fun s27 w =>
 ((0 : Int) ≤ n22 ∧ n22 < ((s27.n : Nat) : Int)) ∧ WithAddr s27.a fun a28 =>
 Ld (.ki .i64) (a28.add (Int.toNat n22 * 1)) (fun n29 w =>
 Ld (.ks) (a2.add 3) (fun s30 w =>
 ((0 : Int) ≤ n22 ∧ n22 < ((s30.n : Nat) : Int)) ∧ WithAddr s30.a fun a31 =>
 Ld (.ki .i64) (a31.add (Int.toNat n22 * 1)) (fun n32 w =>
 If (n29 != n32) (
 K false w) (
 I23 (IntKind.wrap .i64 (n22 + 1)) w ∧ M24 (IntKind.wrap .i64 (n22 + 1)) w < M24 n22 v25)) w) w) w) w) w.drew) (
 K true w)) w) v25)) w) v14)) w) w)) w) w)) w) w)) w) w) w) w) : Call P 33 [a.v, b.v] [sB] K w :=
  call_of (H := ⟨[(4, [(5, .ki .i64)]), (9, [(6, .ki .i64)])], [], [(6, .take 0 (.take 1 (.take 2 (.take 3 (.take 4 (.take 5 (.take 6 (.take 7 (.take 8 (.take 9 (.take 10 .done))))))))))), (11, .take 0 (.take 1 (.take 2 (.take 3 (.take 4 (.take 5 (.take 6 (.take 7 (.take 8 (.take 9 (.take 10 .done)))))))))))], []⟩) Tryz.func33 (by kernel_rfl) (by kernel_rfl) vc

theorem f122_of (l : Sl) (s : Int) {K : Int → World → Prop} {w : World} (vc :
 ∃ (I3 : Int → Int → World → Prop) (M4 : Int → Int → World → Nat), I3 1099511627776 0 w ∧ ∀ (n1 : Int) (n2 : Int) (v5 : World), I3 n1 n2 v5 → ∀ _ : Nat → Value,
 (fun w : World =>
 If (decide (n2 < ((l.n : Nat) : Int))) (
 ((0 : Int) ≤ n2 ∧ n2 < ((l.n : Nat) : Int)) ∧ WithAddr l.a fun a6 =>
 LdN shTask.cs 0 (a6.add (Int.toNat n2 * 4)) (fun n7 n8 s9 s10 w =>
 Call P 158 [.agg #[.int .i64 n7, .int .i64 n8, .slice s9.a s9.n s9.c, .slice s10.a s10.n s10.c], .int .i64 s] [sB] (fun b11 w =>
 If b11 (
 ((0 : Int) ≤ n2 ∧ n2 < ((l.n : Nat) : Int)) ∧ WithAddr l.a fun a12 =>
 Ld (.ki .i64) ((a12.add (Int.toNat n2 * 4)).add 0) (fun n13 w =>
 If (decide (n13 < n1)) (
 ((0 : Int) ≤ n2 ∧ n2 < ((l.n : Nat) : Int)) ∧ WithAddr l.a fun a14 =>
 Ld (.ki .i64) ((a14.add (Int.toNat n2 * 4)).add 0) (fun n15 w =>
 I3 n15 (IntKind.wrap .i64 (n2 + 1)) w ∧ M4 n15 (IntKind.wrap .i64 (n2 + 1)) w < M4 n1 n2 v5) w) (
 I3 n1 (IntKind.wrap .i64 (n2 + 1)) w ∧ M4 n1 (IntKind.wrap .i64 (n2 + 1)) w < M4 n1 n2 v5)) w) (
 I3 n1 (IntKind.wrap .i64 (n2 + 1)) w ∧ M4 n1 (IntKind.wrap .i64 (n2 + 1)) w < M4 n1 n2 v5)) w) w) (
 K n1 w)) v5) : Call P 122 [.slice l.a l.n l.c, .int .i64 s] [sI] K w :=
  call_of (H := ⟨[(3, [(5, .ki .i64), (6, .ki .i64)])], [], [], []⟩) Tryz.func122 (by kernel_rfl) (by kernel_rfl) vc

theorem f10_of (p : Plat) (steps : Sl) (t : Task) {K : Bool → World → Prop} {w : World} (vc :
 New [.slice p.levels.a p.levels.n p.levels.c, .slice p.sleeps.a p.sleeps.n p.sleeps.c, .slice p.devices.a p.devices.n p.devices.c, .int .i64 p.idle, .int .i64 p.crit, .int .i64 p.switch, .int .i64 p.switchE, .int .i64 p.sems, .int .i64 p.horizon] 26 (fun a1 w =>
 New [.int .i64 t.period, .int .i64 t.cycles, .slice t.sec.a t.sec.n t.sec.c, .slice t.devs.a t.devs.n t.devs.c] 37 (fun a2 w =>
 LdN shPlat.cs 0 a1 (fun s3 s4 s5 n6 n7 n8 n9 n10 n11 w =>
 Call P 11 [.agg #[.slice s3.a s3.n s3.c, .slice s4.a s4.n s4.c, .slice s5.a s5.n s5.c, .int .i64 n6, .int .i64 n7, .int .i64 n8, .int .i64 n9, .int .i64 n10, .int .i64 n11]] [sP] (fun p12 w =>
 If (Option.isNone p12) (
 LdN shPlat.cs 0 a1 (fun s13 s14 s15 n16 n17 n18 n19 n20 n21 w =>
 Call P 12 [.agg #[.slice s13.a s13.n s13.c, .slice s14.a s14.n s14.c, .slice s15.a s15.n s15.c, .int .i64 n16, .int .i64 n17, .int .i64 n18, .int .i64 n19, .int .i64 n20, .int .i64 n21]] [sB] (fun b22 w =>
 K b22 w) w) w) (
 ∃ (I24 : Int → World → Prop) (M25 : Int → World → Nat), I24 0 w ∧ ∀ (n23 : Int) (v26 : World), I24 n23 v26 → ∀ _ : Nat → Value,
 (fun w : World =>
 If (decide (n23 < ((steps.n : Nat) : Int))) (
 ((0 : Int) ≤ n23 ∧ n23 < ((steps.n : Nat) : Int)) ∧ WithAddr steps.a fun a27 =>
 LdN shStep.cs 0 (a27.add (Int.toNat n23 * 8)) (fun n28 n29 n30 n31 n32 n33 s34 s35 w =>
 Call P 13 [.pointer p12, .agg #[.int .i64 n28, .int .i64 n29, .int .i64 n30, .int .i64 n31, .int .i64 n32, .int .i64 n33, .slice s34.a s34.n s34.c, .slice s35.a s35.n s35.c]] [sI, sI] (fun n36 n37 w =>
 I24 (IntKind.wrap .i64 (n23 + 1)) w ∧ M25 (IntKind.wrap .i64 (n23 + 1)) w < M25 n23 v26) w) w) (
 Call P 19 [.pointer p12] [sS] (fun s38 w =>
 Call P 17 [.pointer p12] [sS] (fun s39 w =>
 Call P 14 [.pointer p12] [sI] (fun n40 w =>
 ∃ (I44 : Sl → Int → Int → World → Prop) (M45 : Sl → Int → Int → World → Nat), I44 ⟨none, 0, 0⟩ (-1) (IntKind.wrap .i64 (((s38.n : Nat) : Int) - 1)) w ∧ ∀ (s41 : Sl) (n42 : Int) (n43 : Int) (v46 : World), I44 s41 n42 n43 v46 → ∀ _ : Nat → Value,
 (fun w : World =>
 If (decide (n43 ≥ 0)) (
 ((0 : Int) ≤ n43 ∧ n43 < ((s38.n : Nat) : Int)) ∧ WithAddr s38.a fun a47 =>
 Ld (.ki .i64) ((a47.add (Int.toNat n43 * 4)).add 0) (fun n48 w =>
 If (decide (n48 > 0)) (
 ((0 : Int) ≤ n43 ∧ n43 < ((s38.n : Nat) : Int)) ∧ WithAddr s38.a fun a49 =>
 LdN shTask.cs 0 (a49.add (Int.toNat n43 * 4)) (fun n50 n51 s52 s53 w =>
 New [.int .i64 n50, .int .i64 n51, .slice s52.a s52.n s52.c, .slice s53.a s53.n s53.c] 37 (fun a54 w =>
 Sm P (Builtin.append_ #[54, 54] 54 [.slice s41.a s41.n s41.c, .slice (some a54) 1 1].toArray) [sS] (fun s55 w =>
 I44 s55 n42 (IntKind.wrap .i64 (n43 - 1)) w ∧ M45 s55 n42 (IntKind.wrap .i64 (n43 - 1)) w < M45 s41 n42 n43 v46) w) w) w) (
 I44 s41 n43 (IntKind.wrap .i64 (n43 - 1)) w ∧ M45 s41 n43 (IntKind.wrap .i64 (n43 - 1)) w < M45 s41 n42 n43 v46)) w) (
 Ld (.ki .i64) (a1.add 8) (fun n56 w =>
 If (decide (n40 ≥ n56)) (
 LdN shTask.cs 0 a2 (fun n57 n58 s59 s60 w =>
 Call P 13 [.pointer p12, .agg #[.int .i64 1, .int .i64 0, .int .i64 0, .int .i64 0, .int .i64 n57, .int .i64 n58, .slice s59.a s59.n s59.c, .slice s60.a s60.n s60.c]] [sI, sI] (fun n61 n62 w =>
 If (n62 != 11) (
 Call P 15 [] [sB] (fun b63 w =>
 If b63 (
 If (n62 == 11) (
 K (n61 == 0) w) (
 K false w)) (
 K false w)) w) (
 If (n62 != 0) (
 Call P 15 [] [sB] (fun b64 w =>
 If b64 (
 If (n62 == 11) (
 K (n61 == 0) w) (
 K false w)) (
 K false w)) w) (
 ∃ (I66 : Int → World → Prop) (M67 : Int → World → Nat), I66 0 w ∧ ∀ (n65 : Int) (v68 : World), I66 n65 v68 → ∀ _ : Nat → Value,
 (fun w : World =>
 If (decide (n65 < ((s39.n : Nat) : Int))) (
 (fun w : World =>
 ((0 : Int) ≤ n65 ∧ n65 < ((s39.n : Nat) : Int)) ∧ WithAddr s39.a fun a69 =>
 Ld (.ki .i64) ((a69.add (Int.toNat n65 * 6)).add 2) (fun n70 w =>
 Call P 32 [.pointer p12, .int .i64 n61] [sI] (fun n71 w =>
 (w.cell? (((a69.add (Int.toNat n65 * 6)).add 2).add 0) = some (.int .i64 n70)) ∧ If (decide (n71 < n70)) (
 K false w) (
 I66 (IntKind.wrap .i64 (n65 + 1)) w ∧ M67 (IntKind.wrap .i64 (n65 + 1)) w < M67 n65 v68)) w) w) w.drew) (
 Call P 19 [.pointer p12] [sS] (fun s72 w =>
 (fun w : World =>
 Call P 15 [] [sB] (fun b73 w =>
 If b73 (
 If (n61 == n42) (
 Call P 32 [.pointer p12, .int .i64 n61] [sI] (fun n74 w =>
 If (decide (n74 ≥ n40)) (
 If (decide (n61 < ((s72.n : Nat) : Int))) (
 ((0 : Int) ≤ n61 ∧ n61 < ((s72.n : Nat) : Int)) ∧ WithAddr s72.a fun a75 =>
 LdN shTask.cs 0 (a75.add (Int.toNat n61 * 4)) (fun n76 n77 s78 s79 w =>
 LdN shTask.cs 0 a2 (fun n80 n81 s82 s83 w =>
 Call P 33 [.agg #[.int .i64 n76, .int .i64 n77, .slice s78.a s78.n s78.c, .slice s79.a s79.n s79.c], .agg #[.int .i64 n80, .int .i64 n81, .slice s82.a s82.n s82.c, .slice s83.a s83.n s83.c]] [sB] (fun b84 w =>
 K b84 w) w) w) w) (
 K false w)) (
 K false w)) w) (
 K false w)) (
 K false w)) w) w.drew) w)) v68))) w) w) (
 LdN shPlat.cs 0 a1 (fun s85 s86 s87 n88 n89 n90 n91 n92 n93 w =>
 LdN shTask.cs 0 a2 (fun n94 n95 s96 s97 w =>
 Call P 30 [.agg #[.slice s85.a s85.n s85.c, .slice s86.a s86.n s86.c, .slice s87.a s87.n s87.c, .int .i64 n88, .int .i64 n89, .int .i64 n90, .int .i64 n91, .int .i64 n92, .int .i64 n93], .agg #[.int .i64 n94, .int .i64 n95, .slice s96.a s96.n s96.c, .slice s97.a s97.n s97.c]] [sB] (fun b98 w =>
 If (!b98) (
 LdN shTask.cs 0 a2 (fun n99 n100 s101 s102 w =>
 Call P 13 [.pointer p12, .agg #[.int .i64 1, .int .i64 0, .int .i64 0, .int .i64 0, .int .i64 n99, .int .i64 n100, .slice s101.a s101.n s101.c, .slice s102.a s102.n s102.c]] [sI, sI] (fun n103 n104 w =>
 If (n104 != 3) (
 Call P 15 [] [sB] (fun b105 w =>
 If b105 (
 If (n104 == 3) (
 K (n103 == 0) w) (
 K false w)) (
 K false w)) w) (
 If (n104 != 0) (
 Call P 15 [] [sB] (fun b106 w =>
 If b106 (
 If (n104 == 3) (
 K (n103 == 0) w) (
 K false w)) (
 K false w)) w) (
 ∃ (I108 : Int → World → Prop) (M109 : Int → World → Nat), I108 0 w ∧ ∀ (n107 : Int) (v110 : World), I108 n107 v110 → ∀ _ : Nat → Value,
 (fun w : World =>
 If (decide (n107 < ((s39.n : Nat) : Int))) (
 (fun w : World =>
 ((0 : Int) ≤ n107 ∧ n107 < ((s39.n : Nat) : Int)) ∧ WithAddr s39.a fun a111 =>
 Ld (.ki .i64) ((a111.add (Int.toNat n107 * 6)).add 2) (fun n112 w =>
 Call P 32 [.pointer p12, .int .i64 n103] [sI] (fun n113 w =>
 (w.cell? (((a111.add (Int.toNat n107 * 6)).add 2).add 0) = some (.int .i64 n112)) ∧ If (decide (n113 < n112)) (
 K false w) (
 I108 (IntKind.wrap .i64 (n107 + 1)) w ∧ M109 (IntKind.wrap .i64 (n107 + 1)) w < M109 n107 v110)) w) w) w.drew) (
 Call P 19 [.pointer p12] [sS] (fun s114 w =>
 (fun w : World =>
 Call P 15 [] [sB] (fun b115 w =>
 If b115 (
 If (n103 == n42) (
 Call P 32 [.pointer p12, .int .i64 n103] [sI] (fun n116 w =>
 If (decide (n116 ≥ n40)) (
 If (decide (n103 < ((s114.n : Nat) : Int))) (
 ((0 : Int) ≤ n103 ∧ n103 < ((s114.n : Nat) : Int)) ∧ WithAddr s114.a fun a117 =>
 LdN shTask.cs 0 (a117.add (Int.toNat n103 * 4)) (fun n118 n119 s120 s121 w =>
 LdN shTask.cs 0 a2 (fun n122 n123 s124 s125 w =>
 Call P 33 [.agg #[.int .i64 n118, .int .i64 n119, .slice s120.a s120.n s120.c, .slice s121.a s121.n s121.c], .agg #[.int .i64 n122, .int .i64 n123, .slice s124.a s124.n s124.c, .slice s125.a s125.n s125.c]] [sB] (fun b126 w =>
 K b126 w) w) w) w) (
 K false w)) (
 K false w)) w) (
 K false w)) (
 K false w)) w) w.drew) w)) v110))) w) w) (
 Call P 27 [.pointer p12] [sS] (fun s127 w =>
 If (decide (((s127.n : Nat) : Int) > 0)) (
 LdN shTask.cs 0 a2 (fun n128 n129 s130 s131 w =>
 Call P 13 [.pointer p12, .agg #[.int .i64 1, .int .i64 0, .int .i64 0, .int .i64 0, .int .i64 n128, .int .i64 n129, .slice s130.a s130.n s130.c, .slice s131.a s131.n s131.c]] [sI, sI] (fun n132 n133 w =>
 If (n133 != 8) (
 Call P 15 [] [sB] (fun b134 w =>
 If b134 (
 If (n133 == 8) (
 K (n132 == 0) w) (
 K false w)) (
 K false w)) w) (
 If (n133 != 0) (
 Call P 15 [] [sB] (fun b135 w =>
 If b135 (
 If (n133 == 8) (
 K (n132 == 0) w) (
 K false w)) (
 K false w)) w) (
 ∃ (I137 : Int → World → Prop) (M138 : Int → World → Nat), I137 0 w ∧ ∀ (n136 : Int) (v139 : World), I137 n136 v139 → ∀ _ : Nat → Value,
 (fun w : World =>
 If (decide (n136 < ((s39.n : Nat) : Int))) (
 (fun w : World =>
 ((0 : Int) ≤ n136 ∧ n136 < ((s39.n : Nat) : Int)) ∧ WithAddr s39.a fun a140 =>
 Ld (.ki .i64) ((a140.add (Int.toNat n136 * 6)).add 2) (fun n141 w =>
 Call P 32 [.pointer p12, .int .i64 n132] [sI] (fun n142 w =>
 (w.cell? (((a140.add (Int.toNat n136 * 6)).add 2).add 0) = some (.int .i64 n141)) ∧ If (decide (n142 < n141)) (
 K false w) (
 I137 (IntKind.wrap .i64 (n136 + 1)) w ∧ M138 (IntKind.wrap .i64 (n136 + 1)) w < M138 n136 v139)) w) w) w.drew) (
 Call P 19 [.pointer p12] [sS] (fun s143 w =>
 (fun w : World =>
 Call P 15 [] [sB] (fun b144 w =>
 If b144 (
 If (n132 == n42) (
 Call P 32 [.pointer p12, .int .i64 n132] [sI] (fun n145 w =>
 If (decide (n145 ≥ n40)) (
 If (decide (n132 < ((s143.n : Nat) : Int))) (
 ((0 : Int) ≤ n132 ∧ n132 < ((s143.n : Nat) : Int)) ∧ WithAddr s143.a fun a146 =>
 LdN shTask.cs 0 (a146.add (Int.toNat n132 * 4)) (fun n147 n148 s149 s150 w =>
 LdN shTask.cs 0 a2 (fun n151 n152 s153 s154 w =>
 Call P 33 [.agg #[.int .i64 n147, .int .i64 n148, .slice s149.a s149.n s149.c, .slice s150.a s150.n s150.c], .agg #[.int .i64 n151, .int .i64 n152, .slice s153.a s153.n s153.c, .slice s154.a s154.n s154.c]] [sB] (fun b155 w =>
 K b155 w) w) w) w) (
 K false w)) (
 K false w)) w) (
 K false w)) (
 K false w)) w) w.drew) w)) v139))) w) w) (
 If (((s41.n : Nat) : Int) == 6) (
 LdN shTask.cs 0 a2 (fun n156 n157 s158 s159 w =>
 Call P 13 [.pointer p12, .agg #[.int .i64 1, .int .i64 0, .int .i64 0, .int .i64 0, .int .i64 n156, .int .i64 n157, .slice s158.a s158.n s158.c, .slice s159.a s159.n s159.c]] [sI, sI] (fun n160 n161 w =>
 If (n161 != 4) (
 Call P 15 [] [sB] (fun b162 w =>
 If b162 (
 If (n161 == 4) (
 K (n160 == 0) w) (
 K false w)) (
 K false w)) w) (
 If (n161 != 0) (
 Call P 15 [] [sB] (fun b163 w =>
 If b163 (
 If (n161 == 4) (
 K (n160 == 0) w) (
 K false w)) (
 K false w)) w) (
 ∃ (I165 : Int → World → Prop) (M166 : Int → World → Nat), I165 0 w ∧ ∀ (n164 : Int) (v167 : World), I165 n164 v167 → ∀ _ : Nat → Value,
 (fun w : World =>
 If (decide (n164 < ((s39.n : Nat) : Int))) (
 (fun w : World =>
 ((0 : Int) ≤ n164 ∧ n164 < ((s39.n : Nat) : Int)) ∧ WithAddr s39.a fun a168 =>
 Ld (.ki .i64) ((a168.add (Int.toNat n164 * 6)).add 2) (fun n169 w =>
 Call P 32 [.pointer p12, .int .i64 n160] [sI] (fun n170 w =>
 (w.cell? (((a168.add (Int.toNat n164 * 6)).add 2).add 0) = some (.int .i64 n169)) ∧ If (decide (n170 < n169)) (
 K false w) (
 I165 (IntKind.wrap .i64 (n164 + 1)) w ∧ M166 (IntKind.wrap .i64 (n164 + 1)) w < M166 n164 v167)) w) w) w.drew) (
 Call P 19 [.pointer p12] [sS] (fun s171 w =>
 (fun w : World =>
 Call P 15 [] [sB] (fun b172 w =>
 If b172 (
 If (n160 == n42) (
 Call P 32 [.pointer p12, .int .i64 n160] [sI] (fun n173 w =>
 If (decide (n173 ≥ n40)) (
 If (decide (n160 < ((s171.n : Nat) : Int))) (
 ((0 : Int) ≤ n160 ∧ n160 < ((s171.n : Nat) : Int)) ∧ WithAddr s171.a fun a174 =>
 LdN shTask.cs 0 (a174.add (Int.toNat n160 * 4)) (fun n175 n176 s177 s178 w =>
 LdN shTask.cs 0 a2 (fun n179 n180 s181 s182 w =>
 Call P 33 [.agg #[.int .i64 n175, .int .i64 n176, .slice s177.a s177.n s177.c, .slice s178.a s178.n s178.c], .agg #[.int .i64 n179, .int .i64 n180, .slice s181.a s181.n s181.c, .slice s182.a s182.n s182.c]] [sB] (fun b183 w =>
 K b183 w) w) w) w) (
 K false w)) (
 K false w)) w) (
 K false w)) (
 K false w)) w) w.drew) w)) v167))) w) w) (
 (fun w : World =>
 LdN shPlat.cs 0 a1 (fun s184 s185 s186 n187 n188 n189 n190 n191 n192 w =>
 LdN shTask.cs 0 a2 (fun n193 n194 s195 s196 w =>
 New [.int .i64 n193, .int .i64 n194, .slice s195.a s195.n s195.c, .slice s196.a s196.n s196.c] 37 (fun a197 w =>
 (w.cell? (a1.add 0) = some (.slice s184.a s184.n s184.c) ∧ w.cell? (a1.add 1) = some (.slice s185.a s185.n s185.c) ∧ w.cell? (a1.add 2) = some (.slice s186.a s186.n s186.c) ∧ w.cell? (a1.add 3) = some (.int .i64 n187) ∧ w.cell? (a1.add 4) = some (.int .i64 n188) ∧ w.cell? (a1.add 5) = some (.int .i64 n189) ∧ w.cell? (a1.add 6) = some (.int .i64 n190) ∧ w.cell? (a1.add 7) = some (.int .i64 n191) ∧ w.cell? (a1.add 8) = some (.int .i64 n192)) ∧ Sm P (Builtin.append_ #[54, 54] 54 [.slice s41.a s41.n s41.c, .slice (some a197) 1 1].toArray) [sS] (fun s198 w =>
 (w.cell? (a2.add 0) = some (.int .i64 n193) ∧ w.cell? (a2.add 1) = some (.int .i64 n194) ∧ w.cell? (a2.add 2) = some (.slice s195.a s195.n s195.c) ∧ w.cell? (a2.add 3) = some (.slice s196.a s196.n s196.c)) ∧ (w.cell? (a1.add 0) = some (.slice s184.a s184.n s184.c) ∧ w.cell? (a1.add 1) = some (.slice s185.a s185.n s185.c) ∧ w.cell? (a1.add 2) = some (.slice s186.a s186.n s186.c) ∧ w.cell? (a1.add 3) = some (.int .i64 n187) ∧ w.cell? (a1.add 4) = some (.int .i64 n188) ∧ w.cell? (a1.add 5) = some (.int .i64 n189) ∧ w.cell? (a1.add 6) = some (.int .i64 n190) ∧ w.cell? (a1.add 7) = some (.int .i64 n191) ∧ w.cell? (a1.add 8) = some (.int .i64 n192)) ∧ Call P 31 [.agg #[.slice s184.a s184.n s184.c, .slice s185.a s185.n s185.c, .slice s186.a s186.n s186.c, .int .i64 n187, .int .i64 n188, .int .i64 n189, .int .i64 n190, .int .i64 n191, .int .i64 n192], .slice s198.a s198.n s198.c, .int .i64 0] [sI] (fun n199 w =>
 (w.cell? (a2.add 0) = some (.int .i64 n193) ∧ w.cell? (a2.add 1) = some (.int .i64 n194) ∧ w.cell? (a2.add 2) = some (.slice s195.a s195.n s195.c) ∧ w.cell? (a2.add 3) = some (.slice s196.a s196.n s196.c)) ∧ If (decide (n199 > 4294967296)) (
 LdN shTask.cs 0 a2 (fun n200 n201 s202 s203 w =>
 Call P 13 [.pointer p12, .agg #[.int .i64 1, .int .i64 0, .int .i64 0, .int .i64 0, .int .i64 n200, .int .i64 n201, .slice s202.a s202.n s202.c, .slice s203.a s203.n s203.c]] [sI, sI] (fun n204 n205 w =>
 If (n205 != 5) (
 Call P 15 [] [sB] (fun b206 w =>
 If b206 (
 If (n205 == 5) (
 K (n204 == 0) w) (
 K false w)) (
 K false w)) w) (
 If (n205 != 0) (
 Call P 15 [] [sB] (fun b207 w =>
 If b207 (
 If (n205 == 5) (
 K (n204 == 0) w) (
 K false w)) (
 K false w)) w) (
 ∃ (I209 : Int → World → Prop) (M210 : Int → World → Nat), I209 0 w ∧ ∀ (n208 : Int) (v211 : World), I209 n208 v211 → ∀ _ : Nat → Value,
 (fun w : World =>
 If (decide (n208 < ((s39.n : Nat) : Int))) (
 (fun w : World =>
 ((0 : Int) ≤ n208 ∧ n208 < ((s39.n : Nat) : Int)) ∧ WithAddr s39.a fun a212 =>
 Ld (.ki .i64) ((a212.add (Int.toNat n208 * 6)).add 2) (fun n213 w =>
 Call P 32 [.pointer p12, .int .i64 n204] [sI] (fun n214 w =>
 (w.cell? (((a212.add (Int.toNat n208 * 6)).add 2).add 0) = some (.int .i64 n213)) ∧ If (decide (n214 < n213)) (
 K false w) (
 I209 (IntKind.wrap .i64 (n208 + 1)) w ∧ M210 (IntKind.wrap .i64 (n208 + 1)) w < M210 n208 v211)) w) w) w.drew) (
 Call P 19 [.pointer p12] [sS] (fun s215 w =>
 (fun w : World =>
 Call P 15 [] [sB] (fun b216 w =>
 If b216 (
 If (n204 == n42) (
 Call P 32 [.pointer p12, .int .i64 n204] [sI] (fun n217 w =>
 If (decide (n217 ≥ n40)) (
 If (decide (n204 < ((s215.n : Nat) : Int))) (
 ((0 : Int) ≤ n204 ∧ n204 < ((s215.n : Nat) : Int)) ∧ WithAddr s215.a fun a218 =>
 LdN shTask.cs 0 (a218.add (Int.toNat n204 * 4)) (fun n219 n220 s221 s222 w =>
 LdN shTask.cs 0 a2 (fun n223 n224 s225 s226 w =>
 Call P 33 [.agg #[.int .i64 n219, .int .i64 n220, .slice s221.a s221.n s221.c, .slice s222.a s222.n s222.c], .agg #[.int .i64 n223, .int .i64 n224, .slice s225.a s225.n s225.c, .slice s226.a s226.n s226.c]] [sB] (fun b227 w =>
 K b227 w) w) w) w) (
 K false w)) (
 K false w)) w) (
 K false w)) (
 K false w)) w) w.drew) w)) v211))) w) w) (
 LdN shTask.cs 0 a2 (fun n228 n229 s230 s231 w =>
 Call P 13 [.pointer p12, .agg #[.int .i64 1, .int .i64 0, .int .i64 0, .int .i64 0, .int .i64 n228, .int .i64 n229, .slice s230.a s230.n s230.c, .slice s231.a s231.n s231.c]] [sI, sI] (fun n232 n233 w =>
 If (n233 != 0) (
 Call P 15 [] [sB] (fun b234 w =>
 If b234 (
 If (n233 == 0) (
 K (n232 == 0) w) (
 K false w)) (
 K false w)) w) (
 If (n233 != 0) (
 Call P 15 [] [sB] (fun b235 w =>
 If b235 (
 If (n233 == 0) (
 K (n232 == 0) w) (
 K false w)) (
 K false w)) w) (
 ∃ (I237 : Int → World → Prop) (M238 : Int → World → Nat), I237 0 w ∧ ∀ (n236 : Int) (v239 : World), I237 n236 v239 → ∀ _ : Nat → Value,
 (fun w : World =>
 If (decide (n236 < ((s39.n : Nat) : Int))) (
 (fun w : World =>
 ((0 : Int) ≤ n236 ∧ n236 < ((s39.n : Nat) : Int)) ∧ WithAddr s39.a fun a240 =>
 Ld (.ki .i64) ((a240.add (Int.toNat n236 * 6)).add 2) (fun n241 w =>
 Call P 32 [.pointer p12, .int .i64 n232] [sI] (fun n242 w =>
 (w.cell? (((a240.add (Int.toNat n236 * 6)).add 2).add 0) = some (.int .i64 n241)) ∧ If (decide (n242 < n241)) (
 K false w) (
 I237 (IntKind.wrap .i64 (n236 + 1)) w ∧ M238 (IntKind.wrap .i64 (n236 + 1)) w < M238 n236 v239)) w) w) w.drew) (
 Call P 19 [.pointer p12] [sS] (fun s243 w =>
 (fun w : World =>
 Call P 15 [] [sB] (fun b244 w =>
 If b244 (
 If (n232 == n42) (
 Call P 32 [.pointer p12, .int .i64 n232] [sI] (fun n245 w =>
 If (decide (n245 ≥ n40)) (
 If (decide (n232 < ((s243.n : Nat) : Int))) (
 ((0 : Int) ≤ n232 ∧ n232 < ((s243.n : Nat) : Int)) ∧ WithAddr s243.a fun a246 =>
 LdN shTask.cs 0 (a246.add (Int.toNat n232 * 4)) (fun n247 n248 s249 s250 w =>
 LdN shTask.cs 0 a2 (fun n251 n252 s253 s254 w =>
 Call P 33 [.agg #[.int .i64 n247, .int .i64 n248, .slice s249.a s249.n s249.c, .slice s250.a s250.n s250.c], .agg #[.int .i64 n251, .int .i64 n252, .slice s253.a s253.n s253.c, .slice s254.a s254.n s254.c]] [sB] (fun b255 w =>
 K b255 w) w) w) w) (
 K false w)) (
 K false w)) w) (
 K false w)) (
 K false w)) w) w.drew) w)) v239))) w) w)) w) w) w) w) w) w.drew))) w)) w) w) w)) w)) v46) w) w) w)) v26)) w) w) w) w) : Call P 10 [p.v, .slice steps.a steps.n steps.c, t.v] [sB] K w :=
  call_of (H := ⟨[(5, [(8, .ki .i64)]), (12, [(9, .ks), (13, .ki .i64), (14, .ki .i64)]), (32, [(18, .ki .i64)])], [], [(34, .take 0 (.take 1 (.take 3 (.take 4 (.take 5 (.take 6 (.take 7 (.run 2 (.take 8 .done))))))))), (37, .run 0 (.take 1 (.take 2 (.take 3 (.take 4 (.take 5 (.take 6 (.take 7 (.take 8 (.take 10 (.run 9 (.take 11 (.take 12 (.take 13 (.take 14 (.take 15 (.take 16 (.take 17 (.take 18 (.take 19 (.take 20 (.take 21 (.take 22 (.take 23 (.take 24 (.run 25 (.take 26 (.take 27 .done)))))))))))))))))))))))))))), (26, .take 0 (.take 1 (.take 2 (.run 3 (.run 4 (.run 5 (.take 6 .done)))))))], []⟩) Tryz.func10 (by kernel_rfl) (by kernel_rfl) vc

theorem f30_of (p : Plat) (t : Task) {K : Bool → World → Prop} {w : World} (vc :
 New [.slice p.levels.a p.levels.n p.levels.c, .slice p.sleeps.a p.sleeps.n p.sleeps.c, .slice p.devices.a p.devices.n p.devices.c, .int .i64 p.idle, .int .i64 p.crit, .int .i64 p.switch, .int .i64 p.switchE, .int .i64 p.sems, .int .i64 p.horizon] 26 (fun a1 w =>
 New [.int .i64 t.period, .int .i64 t.cycles, .slice t.sec.a t.sec.n t.sec.c, .slice t.devs.a t.devs.n t.devs.c] 37 (fun a2 w =>
 Ld (.ki .i64) (a2.add 0) (fun n3 w =>
 If (decide (n3 < 1)) (
 K false w) (
 Ld (.ki .i64) (a2.add 0) (fun n4 w =>
 Ld (.ki .i64) (a1.add 8) (fun n5 w =>
 If (decide (n4 > n5)) (
 K false w) (
 Ld (.ki .i64) (a2.add 1) (fun n6 w =>
 If (decide (n6 < 1)) (
 K false w) (
 Ld (.ki .i64) (a2.add 1) (fun n7 w =>
 If (decide (n7 > 4096)) (
 K false w) (
 Ld (.ks) (a2.add 2) (fun s8 w =>
 Ld (.ki .i64) (a1.add 7) (fun n9 w =>
 If (decide (((s8.n : Nat) : Int) > n9)) (
 K false w) (
 ∃ (I11 : Int → World → Prop) (M12 : Int → World → Nat), I11 0 w ∧ ∀ (n10 : Int) (v13 : World), I11 n10 v13 → ∀ _ : Nat → Value,
 (fun w : World =>
 Ld (.ks) (a2.add 2) (fun s14 w =>
 If (decide (n10 < ((s14.n : Nat) : Int))) (
 (fun w : World =>
 Ld (.ks) (a2.add 2) (fun s15 w =>
 ((0 : Int) ≤ n10 ∧ n10 < ((s15.n : Nat) : Int)) ∧ WithAddr s15.a fun a16 =>
 Ld (.ki .i64) (a16.add (Int.toNat n10 * 1)) (fun n17 w =>
 If (decide (n17 < 0)) (
 K false w) (
 Ld (.ks) (a2.add 2) (fun s18 w =>
 ((0 : Int) ≤ n10 ∧ n10 < ((s18.n : Nat) : Int)) ∧ WithAddr s18.a fun a19 =>
 Ld (.ki .i64) (a19.add (Int.toNat n10 * 1)) (fun n20 w =>
 Ld (.ki .i64) (a2.add 1) (fun n21 w =>
 If (decide (n20 > n21)) (
 K false w) (
 I11 (IntKind.wrap .i64 (n10 + 1)) w ∧ M12 (IntKind.wrap .i64 (n10 + 1)) w < M12 n10 v13)) w) w) w)) w) w) w.drew) (
 ∃ (I23 : Int → World → Prop) (M24 : Int → World → Nat), I23 0 w ∧ ∀ (n22 : Int) (v25 : World), I23 n22 v25 → ∀ _ : Nat → Value,
 (fun w : World =>
 Ld (.ks) (a2.add 3) (fun s26 w =>
 If (decide (n22 < ((s26.n : Nat) : Int))) (
 (fun w : World =>
 Ld (.ks) (a2.add 3) (fun s27 w =>
 ((0 : Int) ≤ n22 ∧ n22 < ((s27.n : Nat) : Int)) ∧ WithAddr s27.a fun a28 =>
 Ld (.ki .i64) (a28.add (Int.toNat n22 * 1)) (fun n29 w =>
 If (decide (n29 < 0)) (
 K false w) (
 Ld (.ks) (a2.add 3) (fun s30 w =>
 ((0 : Int) ≤ n22 ∧ n22 < ((s30.n : Nat) : Int)) ∧ WithAddr s30.a fun a31 =>
 Ld (.ki .i64) (a31.add (Int.toNat n22 * 1)) (fun n32 w =>
 Ld (.ks) (a1.add 2) (fun s33 w =>
 If (decide (n32 ≥ ((s33.n : Nat) : Int))) (
 K false w) (
 If (decide (n22 > 0)) (
 Ld (.ks) (a2.add 3) (fun s34 w =>
 ((0 : Int) ≤ (IntKind.wrap .i64 (n22 - 1)) ∧ (IntKind.wrap .i64 (n22 - 1)) < ((s34.n : Nat) : Int)) ∧ WithAddr s34.a fun a35 =>
 Ld (.ki .i64) (a35.add (Int.toNat (IntKind.wrap .i64 (n22 - 1)) * 1)) (fun n36 w =>
 Ld (.ks) (a2.add 3) (fun s37 w =>
 ((0 : Int) ≤ n22 ∧ n22 < ((s37.n : Nat) : Int)) ∧ WithAddr s37.a fun a38 =>
 Ld (.ki .i64) (a38.add (Int.toNat n22 * 1)) (fun n39 w =>
 If (decide (n36 ≥ n39)) (
 K false w) (
 I23 (IntKind.wrap .i64 (n22 + 1)) w ∧ M24 (IntKind.wrap .i64 (n22 + 1)) w < M24 n22 v25)) w) w) w) w) (
 I23 (IntKind.wrap .i64 (n22 + 1)) w ∧ M24 (IntKind.wrap .i64 (n22 + 1)) w < M24 n22 v25))) w) w) w)) w) w) w.drew) (
 K true w)) w) v25)) w) v13)) w) w)) w)) w)) w) w)) w) w) w) : Call P 30 [p.v, t.v] [sB] K w :=
  call_of (H := ⟨[(4, [(5, .ki .i64)]), (9, [(6, .ki .i64)])], [], [(6, .take 0 (.take 1 (.take 2 (.take 3 (.take 4 (.take 5 (.take 6 (.take 7 (.take 8 (.take 9 (.take 10 (.take 11 (.take 12 (.take 13 (.take 14 (.take 15 .done)))))))))))))))), (11, .take 0 (.take 1 (.take 2 (.take 3 (.take 4 (.take 5 (.take 6 (.take 7 (.take 8 (.take 9 (.take 10 (.take 11 (.take 12 (.take 13 (.take 14 (.take 15 (.take 16 (.take 17 (.take 18 (.take 19 (.take 20 (.take 21 (.take 22 (.take 23 (.take 24 (.take 25 (.take 26 (.take 27 (.take 28 (.take 29 (.take 30 (.take 31 (.take 32 (.take 33 (.take 34 .done)))))))))))))))))))))))))))))))))))], []⟩) Tryz.func30 (by kernel_rfl) (by kernel_rfl) vc

theorem f49_of (p : Plat) (l : Sl) {K : Int → World → Prop} {w : World} (vc :
 New [.slice p.levels.a p.levels.n p.levels.c, .slice p.sleeps.a p.sleeps.n p.sleeps.c, .slice p.devices.a p.devices.n p.devices.c, .int .i64 p.idle, .int .i64 p.crit, .int .i64 p.switch, .int .i64 p.switchE, .int .i64 p.sems, .int .i64 p.horizon] 26 (fun a1 w =>
 ∃ (I4 : Int → Int → World → Prop) (M5 : Int → Int → World → Nat), I4 0 0 w ∧ ∀ (n2 : Int) (n3 : Int) (v6 : World), I4 n2 n3 v6 → ∀ _ : Nat → Value,
 (fun w : World =>
 If (decide (n3 < ((l.n : Nat) : Int))) (
 (fun w : World =>
 LdN shPlat.cs 0 a1 (fun s7 s8 s9 n10 n11 n12 n13 n14 n15 w =>
 ((0 : Int) ≤ n3 ∧ n3 < ((l.n : Nat) : Int)) ∧ WithAddr l.a fun a16 =>
 Ld (.ki .i64) ((a16.add (Int.toNat n3 * 4)).add 0) (fun n17 w =>
 ((0 : Int) ≤ n3 ∧ n3 < ((l.n : Nat) : Int)) ∧ WithAddr l.a fun a18 =>
 Ld (.ki .i64) ((a18.add (Int.toNat n3 * 4)).add 0) (fun n19 w =>
 Call P 82 [.agg #[.slice s7.a s7.n s7.c, .slice s8.a s8.n s8.c, .slice s9.a s9.n s9.c, .int .i64 n10, .int .i64 n11, .int .i64 n12, .int .i64 n13, .int .i64 n14, .int .i64 n15], .slice l.a l.n l.c, .int .i64 n17] [sI] (fun n20 w =>
 (w.cell? (((a18.add (Int.toNat n3 * 4)).add 0).add 0) = some (.int .i64 n19)) ∧ Call P 81 [.int .i64 n20, .int .i64 n19] [sI] (fun n21 w =>
 (w.cell? (((a16.add (Int.toNat n3 * 4)).add 0).add 0) = some (.int .i64 n17)) ∧ (w.cell? (a1.add 0) = some (.slice s7.a s7.n s7.c) ∧ w.cell? (a1.add 1) = some (.slice s8.a s8.n s8.c) ∧ w.cell? (a1.add 2) = some (.slice s9.a s9.n s9.c) ∧ w.cell? (a1.add 3) = some (.int .i64 n10) ∧ w.cell? (a1.add 4) = some (.int .i64 n11) ∧ w.cell? (a1.add 5) = some (.int .i64 n12) ∧ w.cell? (a1.add 6) = some (.int .i64 n13) ∧ w.cell? (a1.add 7) = some (.int .i64 n14) ∧ w.cell? (a1.add 8) = some (.int .i64 n15)) ∧ Call P 80 [.int .i64 n2, .int .i64 n21] [sI] (fun n22 w =>
 (w.cell? (((a18.add (Int.toNat n3 * 4)).add 0).add 0) = some (.int .i64 n19)) ∧ (w.cell? (((a16.add (Int.toNat n3 * 4)).add 0).add 0) = some (.int .i64 n17)) ∧ (w.cell? (a1.add 0) = some (.slice s7.a s7.n s7.c) ∧ w.cell? (a1.add 1) = some (.slice s8.a s8.n s8.c) ∧ w.cell? (a1.add 2) = some (.slice s9.a s9.n s9.c) ∧ w.cell? (a1.add 3) = some (.int .i64 n10) ∧ w.cell? (a1.add 4) = some (.int .i64 n11) ∧ w.cell? (a1.add 5) = some (.int .i64 n12) ∧ w.cell? (a1.add 6) = some (.int .i64 n13) ∧ w.cell? (a1.add 7) = some (.int .i64 n14) ∧ w.cell? (a1.add 8) = some (.int .i64 n15)) ∧ I4 n22 (IntKind.wrap .i64 (n3 + 1)) w ∧ M5 n22 (IntKind.wrap .i64 (n3 + 1)) w < M5 n2 n3 v6) w) w) w) w) w) w) w.drew) (
 K n2 w)) v6) w) : Call P 49 [p.v, .slice l.a l.n l.c] [sI] K w :=
  call_of (H := ⟨[(3, [(5, .ki .i64), (6, .ki .i64)])], [], [(5, .take 0 (.take 1 (.take 2 (.take 3 (.take 4 (.take 5 (.take 6 (.take 7 (.take 9 (.take 10 (.take 11 (.take 12 (.take 13 (.run 8 (.run 14 (.run 15 (.take 16 .done)))))))))))))))))], []⟩) Tryz.func49 (by kernel_rfl) (by kernel_rfl) vc

theorem f80_of (a : Int) (b : Int) {K : Int → World → Prop} {w : World} (vc :
 If (decide (a > b)) (
 K a w) (
 K b w)) : Call P 80 [.int .i64 a, .int .i64 b] [sI] K w :=
  call_of (H := ⟨[], [], [], []⟩) Tryz.func80 (by kernel_rfl) (by kernel_rfl) vc

theorem f31_of (p : Plat) (l : Sl) (level : Int) {K : Int → World → Prop} {w : World} (vc :
 New [.slice p.levels.a p.levels.n p.levels.c, .slice p.sleeps.a p.sleeps.n p.sleeps.c, .slice p.devices.a p.devices.n p.devices.c, .int .i64 p.idle, .int .i64 p.crit, .int .i64 p.switch, .int .i64 p.switchE, .int .i64 p.sems, .int .i64 p.horizon] 26 (fun a1 w =>
 LdN shPlat.cs 0 a1 (fun s2 s3 s4 n5 n6 n7 n8 n9 n10 w =>
 Call P 49 [.agg #[.slice s2.a s2.n s2.c, .slice s3.a s3.n s3.c, .slice s4.a s4.n s4.c, .int .i64 n5, .int .i64 n6, .int .i64 n7, .int .i64 n8, .int .i64 n9, .int .i64 n10], .slice l.a l.n l.c] [sI] (fun n11 w =>
 ∃ (I14 : Int → Int → World → Prop) (M15 : Int → Int → World → Nat), I14 n11 0 w ∧ ∀ (n12 : Int) (n13 : Int) (v16 : World), I14 n12 n13 v16 → ∀ _ : Nat → Value,
 (fun w : World =>
 If (decide (n13 < ((l.n : Nat) : Int))) (
 (fun w : World =>
 LdN shPlat.cs 0 a1 (fun s17 s18 s19 n20 n21 n22 n23 n24 n25 w =>
 ((0 : Int) ≤ n13 ∧ n13 < ((l.n : Nat) : Int)) ∧ WithAddr l.a fun a26 =>
 LdN shTask.cs 0 (a26.add (Int.toNat n13 * 4)) (fun n27 n28 s29 s30 w =>
 Call P 50 [.agg #[.slice s17.a s17.n s17.c, .slice s18.a s18.n s18.c, .slice s19.a s19.n s19.c, .int .i64 n20, .int .i64 n21, .int .i64 n22, .int .i64 n23, .int .i64 n24, .int .i64 n25], .agg #[.int .i64 n27, .int .i64 n28, .slice s29.a s29.n s29.c, .slice s30.a s30.n s30.c], .int .i64 level] [sI] (fun n31 w =>
 I14 (IntKind.wrap .i64 (n12 + n31)) (IntKind.wrap .i64 (n13 + 1)) w ∧ M15 (IntKind.wrap .i64 (n12 + n31)) (IntKind.wrap .i64 (n13 + 1)) w < M15 n12 n13 v16) w) w) w) w.drew) (
 K n12 w)) v16) w) w) w) : Call P 31 [p.v, .slice l.a l.n l.c, .int .i64 level] [sI] K w :=
  call_of (H := ⟨[(3, [(7, .ki .i64), (8, .ki .i64)])], [], [(5, .take 0 (.take 1 (.take 2 (.take 3 (.take 4 (.take 5 (.take 6 (.run 7 (.take 8 (.take 9 .done))))))))))], []⟩) Tryz.func31 (by kernel_rfl) (by kernel_rfl) vc

theorem f50_of (p : Plat) (t : Task) (level : Int) {K : Int → World → Prop} {w : World} (vc :
 New [.slice p.levels.a p.levels.n p.levels.c, .slice p.sleeps.a p.sleeps.n p.sleeps.c, .slice p.devices.a p.devices.n p.devices.c, .int .i64 p.idle, .int .i64 p.crit, .int .i64 p.switch, .int .i64 p.switchE, .int .i64 p.sems, .int .i64 p.horizon] 26 (fun a1 w =>
 New [.int .i64 t.period, .int .i64 t.cycles, .slice t.sec.a t.sec.n t.sec.c, .slice t.devs.a t.devs.n t.devs.c] 37 (fun a2 w =>
 If (decide (level < 0)) (
 Ld (.ki .i64) (a2.add 0) (fun n3 w =>
 Call P 81 [.int .i64 0, .int .i64 n3] [sI] (fun n4 w =>
 K n4 w) w) w) (
 Ld (.ks) (a1.add 0) (fun s5 w =>
 If (decide (level ≥ ((s5.n : Nat) : Int))) (
 Ld (.ki .i64) (a2.add 0) (fun n6 w =>
 Call P 81 [.int .i64 0, .int .i64 n6] [sI] (fun n7 w =>
 K n7 w) w) w) (
 (fun w : World =>
 Ld (.ki .i64) (a2.add 1) (fun n8 w =>
 Ld (.ks) (a1.add 0) (fun s9 w =>
 ((0 : Int) ≤ level ∧ level < ((s9.n : Nat) : Int)) ∧ WithAddr s9.a fun a10 =>
 Ld (.ki .i64) ((a10.add (Int.toNat level * 2)).add 0) (fun n11 w =>
 Ld (.ki .i64) (a1.add 5) (fun n12 w =>
 Ld (.ki .i64) (a2.add 0) (fun n13 w =>
 Call P 81 [.int .i64 (IntKind.wrap .i64 ((IntKind.wrap .i64 (n8 * n11)) + (IntKind.wrap .i64 (2 * n12)))), .int .i64 n13] [sI] (fun n14 w =>
 (w.cell? ((a1.add 5).add 0) = some (.int .i64 n12)) ∧ (w.cell? (((a10.add (Int.toNat level * 2)).add 0).add 0) = some (.int .i64 n11)) ∧ (w.cell? ((a1.add 0).add 0) = some (.slice s9.a s9.n s9.c)) ∧ (w.cell? ((a2.add 1).add 0) = some (.int .i64 n8)) ∧ K n14 w) w) w) w) w) w) w) w.drew)) w)) w) w) : Call P 50 [p.v, t.v, .int .i64 level] [sI] K w :=
  call_of (H := ⟨[], [], [(3, .take 0 (.take 1 (.take 2 (.take 3 (.take 4 (.take 5 (.take 6 (.take 7 (.take 8 (.take 9 (.take 10 (.take 11 (.take 12 (.take 13 (.take 14 (.run 15 (.take 16 .done)))))))))))))))))], []⟩) Tryz.func50 (by kernel_rfl) (by kernel_rfl) vc

theorem f81_of (c : Int) (t : Int) {K : Int → World → Prop} {w : World} (vc :
 If (decide (t < 1)) (
 K 1099511627776 w) (
 Call P 121 [.int .i64 c, .int .i64 0, .int .i64 536870912] [sI] (fun n1 w =>
 (t : Int) ≠ 0 ∧ If ((Int.tmod (IntKind.wrap .i64 (n1 * 4294967296)) t) != 0) (
 (t : Int) ≠ 0 ∧ K (IntKind.wrap .i64 ((IntKind.wrap .i64 (Int.tdiv (IntKind.wrap .i64 (n1 * 4294967296)) t)) + 1)) w) (
 (t : Int) ≠ 0 ∧ K (IntKind.wrap .i64 (Int.tdiv (IntKind.wrap .i64 (n1 * 4294967296)) t)) w)) w)) : Call P 81 [.int .i64 c, .int .i64 t] [sI] K w :=
  call_of (H := ⟨[], [], [], []⟩) Tryz.func81 (by kernel_rfl) (by kernel_rfl) vc

theorem f82_of (p : Plat) (l : Sl) (period : Int) {K : Int → World → Prop} {w : World} (vc :
 New [.slice p.levels.a p.levels.n p.levels.c, .slice p.sleeps.a p.sleeps.n p.sleeps.c, .slice p.devices.a p.devices.n p.devices.c, .int .i64 p.idle, .int .i64 p.crit, .int .i64 p.switch, .int .i64 p.switchE, .int .i64 p.sems, .int .i64 p.horizon] 26 (fun a1 w =>
 ∃ (I4 : Int → Int → World → Prop) (M5 : Int → Int → World → Nat), I4 0 0 w ∧ ∀ (n2 : Int) (n3 : Int) (v6 : World), I4 n2 n3 v6 → ∀ _ : Nat → Value,
 (fun w : World =>
 If (decide (n3 < ((l.n : Nat) : Int))) (
 ∃ (I9 : Int → Int → World → Prop) (M10 : Int → Int → World → Nat), I9 n2 0 w ∧ ∀ (n7 : Int) (n8 : Int) (v11 : World), I9 n7 n8 v11 → ∀ _ : Nat → Value,
 (fun w : World =>
 ((0 : Int) ≤ n3 ∧ n3 < ((l.n : Nat) : Int)) ∧ WithAddr l.a fun a12 =>
 Ld (.ks) ((a12.add (Int.toNat n3 * 4)).add 2) (fun s13 w =>
 If (decide (n8 < ((s13.n : Nat) : Int))) (
 ((0 : Int) ≤ n3 ∧ n3 < ((l.n : Nat) : Int)) ∧ WithAddr l.a fun a14 =>
 Ld (.ki .i64) ((a14.add (Int.toNat n3 * 4)).add 0) (fun n15 w =>
 If (decide (n15 > period)) (
 Call P 122 [.slice l.a l.n l.c, .int .i64 n8] [sI] (fun n16 w =>
 If (decide (n16 ≤ period)) (
 ((0 : Int) ≤ n3 ∧ n3 < ((l.n : Nat) : Int)) ∧ WithAddr l.a fun a17 =>
 Ld (.ks) ((a17.add (Int.toNat n3 * 4)).add 2) (fun s18 w =>
 ((0 : Int) ≤ n8 ∧ n8 < ((s18.n : Nat) : Int)) ∧ WithAddr s18.a fun a19 =>
 Ld (.ki .i64) (a19.add (Int.toNat n8 * 1)) (fun n20 w =>
 If (decide (n20 > n7)) (
 ((0 : Int) ≤ n3 ∧ n3 < ((l.n : Nat) : Int)) ∧ WithAddr l.a fun a21 =>
 Ld (.ks) ((a21.add (Int.toNat n3 * 4)).add 2) (fun s22 w =>
 ((0 : Int) ≤ n8 ∧ n8 < ((s22.n : Nat) : Int)) ∧ WithAddr s22.a fun a23 =>
 Ld (.ki .i64) (a23.add (Int.toNat n8 * 1)) (fun n24 w =>
 I9 n24 (IntKind.wrap .i64 (n8 + 1)) w ∧ M10 n24 (IntKind.wrap .i64 (n8 + 1)) w < M10 n7 n8 v11) w) w) (
 I9 n7 (IntKind.wrap .i64 (n8 + 1)) w ∧ M10 n7 (IntKind.wrap .i64 (n8 + 1)) w < M10 n7 n8 v11)) w) w) (
 I9 n7 (IntKind.wrap .i64 (n8 + 1)) w ∧ M10 n7 (IntKind.wrap .i64 (n8 + 1)) w < M10 n7 n8 v11)) w) (
 I9 n7 (IntKind.wrap .i64 (n8 + 1)) w ∧ M10 n7 (IntKind.wrap .i64 (n8 + 1)) w < M10 n7 n8 v11)) w) (
 I4 n7 (IntKind.wrap .i64 (n3 + 1)) w ∧ M5 n7 (IntKind.wrap .i64 (n3 + 1)) w < M5 n2 n3 v6)) w) v11) (
 Ld (.ks) (a1.add 0) (fun s25 w =>
 Ld (.ki .i64) (a1.add 4) (fun n26 w =>
 ((0 : Int) ≤ n26 ∧ n26 < ((s25.n : Nat) : Int)) ∧ WithAddr s25.a fun a27 =>
 Ld (.ki .i64) ((a27.add (Int.toNat n26 * 2)).add 0) (fun n28 w =>
 Ld (.ki .i64) (a1.add 5) (fun n29 w =>
 Call P 80 [.int .i64 n28, .int .i64 n29] [sI] (fun n30 w =>
 K (IntKind.wrap .i64 ((IntKind.wrap .i64 (n2 * n28)) + n30)) w) w) w) w) w) w)) v6) w) : Call P 82 [p.v, .slice l.a l.n l.c, .int .i64 period] [sI] K w :=
  call_of (H := ⟨[(3, [(7, .ki .i64), (8, .ki .i64)]), (6, [(7, .ki .i64), (9, .ki .i64)])], [], [], []⟩) Tryz.func82 (by kernel_rfl) (by kernel_rfl) vc

theorem f121_of (n : Int) (low : Int) (high : Int) {K : Int → World → Prop} {w : World} (vc :
 If (decide (n < low)) (
 K low w) (
 If (decide (n > high)) (
 K high w) (
 K n w))) : Call P 121 [.int .i64 n, .int .i64 low, .int .i64 high] [sI] K w :=
  call_of (H := ⟨[], [], [], []⟩) Tryz.func121 (by kernel_rfl) (by kernel_rfl) vc

end Go.Proofs.YtajilfnceoeaiaaGreat.V
/- The reference's functions of admission. -/
namespace Go.Proofs.YtajilfnceoeaiaaGreat.V
open Go Go.RowKit Enc
set_option maxRecDepth 100000
/-- dormouse/dormouseref09.Uses -/
theorem f158_of (t : Task) (s : Int) {K : Bool → World → Prop} {w : World} (vc :
 New [.int .i64 t.period, .int .i64 t.cycles, .slice t.sec.a t.sec.n t.sec.c, .slice t.devs.a t.devs.n t.devs.c] 37 (fun a1 w =>
 If (decide (s ≥ 0)) (
 Ld (.ks) (a1.add 2) (fun s2 w =>
 If (decide (s < ((s2.n : Nat) : Int))) (
 Ld (.ks) (a1.add 2) (fun s3 w =>
 ((0 : Int) ≤ s ∧ s < ((s3.n : Nat) : Int)) ∧ WithAddr s3.a fun a4 =>
 Ld (.ki .i64) (a4.add (Int.toNat s * 1)) (fun n5 w =>
 K (decide (n5 > 0)) w) w) w) (
 K false w)) w) (
 K false w)) w) : Call P 158 [t.v, .int .i64 s] [sB] K w :=
  call_of (H := ⟨[], [], [], []⟩) Tryz.func158 (by kernel_rfl) (by kernel_rfl) vc

theorem wz_in (x : Int) : -9223372036854775808 ≤ wz x ∧ wz x ≤ 9223372036854775807 := by
  simp only [IntKind.wrap, IntKind.signed, IntKind.bits]
  simp
  omega
theorem wz_wz (x : Int) : wz (wz x) = wz x := wz_id (wz_in x).1 (wz_in x).2
theorem clampZ_eq (n : Int) : clampZ n 0 536870912 = if n < 0 then 0 else if n > 536870912 then 536870912 else n := by
  unfold clampZ
  by_cases h : n < 0
  · rw [if_pos (show (0 : Int) > n from h), if_pos h, if_neg (by decide)]
  · rw [if_neg (show ¬ (0 : Int) > n from h), if_neg h]
theorem rclamp_spec (n : Int) (w : World) : Call P 121 [.int .i64 n, .int .i64 0, .int .i64 536870912] [sI] (fun r w' => Below w.heap.size w w' ∧ r = clampZ n 0 536870912) w :=
  f121_of _ _ _ (If_d (fun h => ⟨Below.refl _ _, by rw [clampZ_eq, if_pos h]⟩) fun h => If_d (fun h1 => ⟨Below.refl _ _, by rw [clampZ_eq, if_neg h, if_pos h1]⟩) fun h1 => ⟨Below.refl _ _, by rw [clampZ_eq, if_neg h, if_neg h1]⟩)
theorem rmax_spec (a b : Int) (w : World) : Call P 80 [.int .i64 a, .int .i64 b] [sI] (fun r w' => Below w.heap.size w w' ∧ r = if a > b then a else b) w :=
  f80_of _ _ (If_d (fun h => ⟨Below.refl _ _, (if_pos h).symm⟩) fun h => ⟨Below.refl _ _, (if_neg h).symm⟩)
theorem clampZ_in (c : Int) : 0 ≤ clampZ c 0 536870912 ∧ clampZ c 0 536870912 ≤ 536870912 := by
  rw [clampZ_eq]
  by_cases h : c < 0
  · rw [if_pos h]; omega
  · rw [if_neg h]
    by_cases h2 : c > 536870912
    · rw [if_pos h2]; omega
    · rw [if_neg h2]; omega
theorem rutil_spec (c t : Int) (w : World) : Call P 81 [.int .i64 c, .int .i64 t] [sI] (fun r w' => Below w.heap.size w w' ∧ r = utilZ c t) w := by
  refine f81_of _ _ (If_d (fun h => ⟨Below.refl _ _, by rw [utilZ, if_pos h]⟩) fun h => ?_)
  refine (rclamp_spec c _).imp1 ?_
  rintro r w1 ⟨b, rfl⟩
  obtain ⟨c0, c1⟩ := clampZ_in c
  have hp : (2 : Int) ^ 32 = 4294967296 := by decide
  have hX : IntKind.wrap .i64 (clampZ c 0 536870912 * 4294967296) = clampZ c 0 536870912 * 4294967296 := wz_id (by omega) (by omega)
  have h0 : 0 ≤ Int.tmod (IntKind.wrap .i64 (clampZ c 0 536870912 * 4294967296)) t := by
    rw [hX]
    exact Int.tmod_nonneg _ (by omega)
  have hu : utilZ c t = wz (wz (Int.tdiv (IntKind.wrap .i64 (clampZ c 0 536870912 * 4294967296)) t) + (if 1 < Int.tmod (IntKind.wrap .i64 (clampZ c 0 536870912 * 4294967296)) t then 1 else Int.tmod (IntKind.wrap .i64 (clampZ c 0 536870912 * 4294967296)) t)) := by
    rw [utilZ, if_neg h, hp]
  refine ⟨by omega, If_ne (fun e => ⟨by omega, b, ?_⟩) fun e => ⟨by omega, b, ?_⟩⟩
  · have e : ¬ Int.tmod (IntKind.wrap .i64 (clampZ c 0 536870912 * 4294967296)) t = 0 := e
    rw [hu]
    split
    · rfl
    · have : Int.tmod (IntKind.wrap .i64 (clampZ c 0 536870912 * 4294967296)) t = 1 := by omega
      rw [this]
  · have e : Int.tmod (IntKind.wrap .i64 (clampZ c 0 536870912 * 4294967296)) t = 0 := e
    rw [hu, e, if_neg (by decide), Int.add_zero]
    exact (wz_wz _).symm
theorem ruses_spec {o : Own} {w : World} (x : ATask) (s : Int) (h : TaskR o w x) : Call P 158 [x.t.v, .int .i64 s] [sB] (fun b w' => Below w.heap.size w w' ∧ b = usesZ x s) w := by
  refine f158_of _ _ (New_of fun b w1 c1 u1 => ?_)
  have hn := h.sec.n
  refine If_d (fun h0 => ?_) (fun h0 => ⟨u1, by simp [usesZ, h0]⟩)
  refine c1.ld (x := x.t.sec) rfl ?_
  rw [hn]
  refine If_d (fun h1 => ?_) (fun h1 => ⟨u1, by simp [usesZ, h1]⟩)
  refine c1.ld (x := x.t.sec) rfl ?_
  obtain ⟨k, rfl⟩ : ∃ k : Nat, s = k := ⟨s.toNat, by omega⟩
  have hk : k < x.sec.length := by omega
  refine (h.sec.below u1).int rfl (List.getElem?_eq_getElem hk) ⟨u1, ?_⟩
  simp [usesZ, h1, hk]
theorem rceil_spec {o : Own} {w : World} {c : Nat} (tasks : Sl) (l : List ATask) (s : Int) (h : TasksR o w c tasks l) : Call P 122 [.slice tasks.a tasks.n tasks.c, .int .i64 s] [sI] (fun r w' => Below w.heap.size w w' ∧ r = ceilZ l s) w := by
  have hn := h.rl.n
  rw [List.length_map] at hn
  have hmax := h.rl.max
  refine f122_of _ _ ⟨fun a i w' => ∃ k : Nat, i = k ∧ k ≤ l.length ∧ Below w.heap.size w w' ∧ a = ceilZ (l.take k) s, fun _ i _ => l.length - i.toNat, ⟨0, rfl, Nat.zero_le _, Below.refl _ _, rfl⟩, ?_⟩
  rintro a _ v ⟨k, rfl, hk, u, rfl⟩ _
  rw [hn]
  refine If_d (fun hlt => ?_) (fun hlt => ?_)
  · have hk' : k < l.length := by omega
    have hx : (l.map ATask.t)[k]? = some l[k].t := by simp [hk']
    have hs : ceilZ (l.take (k + 1)) s = if usesZ l[k] s then (if l[k].t.period < ceilZ (l.take k) s then l[k].t.period else ceilZ (l.take k) s) else ceilZ (l.take k) s := by
      rw [List.take_succ_eq_append_getElem hk', ceilZ, List.foldl_append]; rfl
    rw [← hn]
    refine (h.rl.below u).task rfl hx ?_
    refine (ruses_spec l[k] s ((h.each _ (List.getElem_mem hk')).below u)).imp1 ?_
    rintro r w2 ⟨u2, rfl⟩
    rw [wz1 hk' (hn ▸ hmax)]
    have hr := h.rl.below (u.on u2)
    refine If_b (fun hb => ?_) (fun hb => ?_)
    · refine hr.fld (f := 0) (e := .ki .i64) (y := l[k].t.period) rfl hx rfl rfl ?_
      refine If_d (fun hp => ?_) fun hp => ?_
      · refine hr.fld (f := 0) (e := .ki .i64) (y := l[k].t.period) rfl hx rfl rfl ?_
        exact ⟨⟨k + 1, rfl, by omega, u.on u2, by rw [hs, hb, if_pos rfl, if_pos hp]⟩, by simp; omega⟩
      · exact ⟨⟨k + 1, rfl, by omega, u.on u2, by rw [hs, hb, if_pos rfl, if_neg hp]⟩, by simp; omega⟩
    · exact ⟨⟨k + 1, rfl, by omega, u.on u2, by rw [hs, hb]; rfl⟩, by simp; omega⟩
  · have : k = l.length := by omega
    subst this
    exact ⟨u, by rw [List.take_length]⟩
theorem longOne_ge (l : List ATask) (period : Int) (x : ATask) (a : Int) (ha : 0 ≤ a) : ∀ k, 0 ≤ longOne l period x a k
  | 0 => ha
  | k + 1 => by
    have := longOne_ge l period x a ha k
    rw [longOne_succ]
    (repeat' split) <;> omega
theorem rblock_spec {o : Own} {w : World} {c : Nat} (m : Mach) (tasks : Sl) (l : List ATask) (period : Int) (hm : MachR o w m) (hc : CritOk m) (h : TasksR o w c tasks l) :
    Call P 82 [m.p.v, .slice tasks.a tasks.n tasks.c, .int .i64 period] [sI] (fun r w' => Below w.heap.size w w' ∧ r = blockZ m l period) w := by
  obtain ⟨h0, h1⟩ := hc
  obtain ⟨kc, hkc⟩ : ∃ k : Nat, m.p.crit = k := ⟨m.p.crit.toNat, by omega⟩
  have hkc' : kc < m.L.length := by omega
  have hsl : slowZ m = m.L[kc].p := by simp [slowZ, hkc, hkc']
  have hn := h.rl.n
  rw [List.length_map] at hn
  have hmax := h.rl.max
  refine f82_of _ _ _ (New_of fun b w1 c1 u1 => ?_)
  refine ⟨fun a i w' => ∃ k : Nat, i = k ∧ k ≤ l.length ∧ Below w1.heap.size w1 w' ∧ 0 ≤ a ∧ a = (l.take k).foldl (fun a x => longOne l period x a x.sec.length) 0, fun _ i _ => l.length - i.toNat, ⟨0, rfl, Nat.zero_le _, Below.refl _ _, Int.le_refl _, rfl⟩, ?_⟩
  rintro a _ v ⟨k, rfl, hk, u, ha0, hae⟩ _
  have c1 := c1.below u
  have u := u1.on u
  have hu1 := u1
  refine If_d (fun hlt => ?_) (fun hlt => ?_)
  · have hk' : k < l.length := by omega
    have hx : (l.map ATask.t)[k]? = some l[k].t := by simp [hk']
    have hT := h.each _ (List.getElem_mem hk')
    have hs := hT.sec.n
    have hsm := hT.sec.max
    rename_i uo _
    refine ⟨fun a' i w' => ∃ j : Nat, i = j ∧ j ≤ l[k].sec.length ∧ Below w1.heap.size w1 w' ∧ a' = longOne l period l[k] a j, fun _ i _ => l[k].sec.length - i.toNat, ⟨0, rfl, Nat.zero_le _, by assumption, rfl⟩, ?_⟩
    rintro a' _ v2 ⟨j, rfl, hj, u2, rfl⟩ _
    have hge := longOne_ge l period l[k] a ha0 j
    have u' := hu1.on u2
    have hr := h.rl.below u'
    refine hr.fld (f := 2) (e := .ks) (y := l[k].t.sec) rfl hx rfl rfl ?_
    refine If_d (fun hlt2 => ?_) (fun hlt2 => ?_)
    · have hj' : j < l[k].sec.length := by omega
      rw [wz1 (by omega) hsm]
      have hjs : l[k].sec.getD j 0 = l[k].sec[j] := by simp [hj']
      have huse : usesZ l[k] j = decide (l[k].sec[j] > 0) := by
        simp [usesZ, hj']
      refine hr.fld (f := 0) (e := .ki .i64) (y := l[k].t.period) rfl hx rfl rfl ?_
      refine If_d (fun hp => ?_) (fun hp => ?_)
      · have hcc := rceil_spec tasks l j (h.below u')
        refine hcc.imp1 ?_
        rintro r w4 ⟨u4, rfl⟩
        have u5 := u2.on u4
        have hr := h.rl.below (u'.on u4)
        have hT' := hT.below (u'.on u4)
        refine If_d (fun hle => ?_) (fun hle => ?_)
        · refine hr.fld (f := 2) (e := .ks) (y := l[k].t.sec) rfl hx rfl rfl ?_
          refine hT'.sec.int rfl (List.getElem?_eq_getElem hj') ?_
          refine If_d (fun hgt => ?_) (fun hgt => ?_)
          · have hgt' : l[k].sec[j] > longOne l period l[k] a j := hgt
            refine hr.fld (f := 2) (e := .ks) (y := l[k].t.sec) rfl hx rfl rfl ?_
            refine hT'.sec.int rfl (List.getElem?_eq_getElem hj') ?_
            refine ⟨⟨j + 1, rfl, hj', u5, ?_⟩, by simp; omega⟩
            rw [longOne_succ, if_pos (And.intro hp (And.intro (by rw [huse]; simp; omega) hle)), hjs, if_pos hgt]
          · refine ⟨⟨j + 1, rfl, hj', u5, ?_⟩, by simp; omega⟩
            rw [longOne_succ]
            split
            · rw [hjs, if_neg hgt]
            · rfl
        · refine ⟨⟨j + 1, rfl, hj', u5, ?_⟩, by simp; omega⟩
          rw [longOne_succ, if_neg (fun h => hle h.2.2)]
      · refine ⟨⟨j + 1, rfl, hj', u2, ?_⟩, by simp; omega⟩
        rw [longOne_succ, if_neg (fun h => hp h.1)]
    · have : j = l[k].sec.length := by omega
      subst this
      rw [wz1 (by omega) hmax]
      refine ⟨⟨k + 1, rfl, hk', u2, hge, ?_⟩, by simp; omega⟩
      rw [List.take_succ_eq_append_getElem hk', List.foldl_append, ← hae]
      rfl
  · have hke : k = l.length := by omega
    subst hke
    rw [List.take_length] at hae
    refine c1.ld (x := m.p.levels) rfl (c1.ld (x := m.p.crit) rfl ?_)
    refine (hm.L.below u).fld (f := 0) (e := .ki .i64) (y := m.L[kc].p) hkc (List.getElem?_eq_getElem hkc') rfl rfl ?_
    refine c1.ld (x := m.p.switch) rfl ?_
    have hcc := rmax_spec m.L[kc].p m.p.switch v
    refine hcc.imp1 ?_
    rintro r w3 ⟨u3, rfl⟩
    refine ⟨u.on u3, ?_⟩
    rw [blockZ, hsl, longZ, ← hae]
    have hmx : (if m.L[kc].p > m.p.switch then m.L[kc].p else m.p.switch) = if m.p.switch > m.L[kc].p then m.p.switch else m.L[kc].p := by
      by_cases h1 : m.L[kc].p > m.p.switch
      · rw [if_pos h1, if_neg (by omega)]
      · by_cases h2 : m.p.switch > m.L[kc].p
        · rw [if_neg h1, if_pos h2]
        · rw [if_neg h1, if_neg h2]; omega
    rw [hmx]
end Go.Proofs.YtajilfnceoeaiaaGreat.V
/- The reference's functions of admission: Part, Reserve, Load, Task, SameTask. -/
namespace Go.Proofs.YtajilfnceoeaiaaGreat.V
open Go Go.RowKit Enc
set_option maxRecDepth 100000
theorem Bx.geto {w : World} {b off f : Nat} {vs : List Value} {v : Value} (h : Bx w b off vs) (hv : vs[f]? = some v) : w.cell? ((⟨b, off, none⟩ : Addr).add f) = some v := by
  rw [Addr.add_mk]; exact h.cell f v hv
theorem Bx.geto0 {w : World} {b off f : Nat} {vs : List Value} {v : Value} (h : Bx w b off vs) (hv : vs[f]? = some v) : w.cell? (((⟨b, off, none⟩ : Addr).add f).add 0) = some v := by
  rw [Addr.add_mk, Addr.add_mk]; exact h.cell f v hv
theorem Bx.ldo {w : World} {b off f : Nat} {vs : List Value} {c : C1} {x : c.T} {K : c.T → World → Prop} (h : Bx w b off vs) (hv : vs[f]? = some (c.val x)) (k : K x w) : Ld c ((⟨b, off, none⟩ : Addr).add f) K w :=
  Ld_of (h.geto hv) k
theorem rpart_spec {o : Own} {w : World} (m : Mach) (x : ATask) (level : Int) (hm : MachR o w m) : Call P 50 [m.p.v, x.t.v, .int .i64 level] [sI] (fun r w' => Below w.heap.size w w' ∧ r = partZ m x level) w := by
  have hL := hm.L.n
  refine f50_of _ _ _ (New_of fun b w1 c1 u1 => New_of fun b2 w2 c2 u2 => ?_)
  have c1 := c1.below u2
  have u := u1.on u2
  refine If_d (fun h0 => ?_) fun h0 => ?_
  · refine c2.ld (x := x.t.period) rfl ?_
    have hc := rutil_spec 0 x.t.period w2
    refine hc.imp1 ?_
    rintro r w3 ⟨u3, rfl⟩
    refine ⟨u.on u3, ?_⟩
    rw [partZ, quantaZ, if_pos (.inl h0)]
  refine c1.ld (x := m.p.levels) rfl ?_
  rw [hL]
  refine If_d (fun h1 => ?_) fun h1 => ?_
  · refine c2.ld (x := x.t.period) rfl ?_
    have hc := rutil_spec 0 x.t.period w2
    refine hc.imp1 ?_
    rintro r w3 ⟨u3, rfl⟩
    refine ⟨u.on u3, ?_⟩
    rw [partZ, quantaZ, if_pos (.inr h1)]
  have c1 := c1.drew
  have c2 := c2.drew
  have u := u.drew
  refine c2.ld (x := x.t.cycles) rfl (c1.ld (x := m.p.levels) rfl ?_)
  obtain ⟨k, rfl⟩ : ∃ k : Nat, level = k := ⟨level.toNat, by omega⟩
  have hk : k < m.L.length := by omega
  obtain ⟨y, hy⟩ : ∃ y, m.L[k]? = some y := ⟨_, List.getElem?_eq_getElem hk⟩
  refine RL.at' (hm.L.below u) (k := k) (x := y) rfl hy fun bd fd had hbd => ?_
  have hadr : (⟨bd, fd, none⟩ : Addr).add (Int.toNat (k : Int) * 2) = ⟨bd, fd + k * 2, none⟩ := by rw [Addr.add_mk, Int.toNat_natCast]
  rw [hadr]
  have hbd : Bx w2.drew bd (fd + k * 2) (enc y) := hbd
  refine hbd.ldo (f := 0) (c := .ki .i64) (x := y.p) rfl ?_
  refine c1.ld (x := m.p.switch) rfl (c2.ld (x := x.t.period) rfl ?_)
  have hc := rutil_spec (wz (wz (x.t.cycles * y.p) + wz (2 * m.p.switch))) x.t.period w2.drew
  refine hc.imp1 ?_
  rintro r w3 ⟨u3, rfl⟩
  have c1 := c1.below u3
  have c2 := c2.below u3
  have hbd := hbd.below u3
  refine ⟨c1.get0 (f := 5) rfl, hbd.geto0 (f := 0) rfl, c1.get0 (f := 0) rfl, c2.get0 (f := 1) rfl, u.on u3, ?_⟩
  rw [partZ, quantaZ, if_neg (by omega), List.getD_eq_getElem?_getD, Int.toNat_natCast, hy]
  rfl
theorem rreserve_spec {o : Own} {w : World} {c : Nat} (m : Mach) (tasks : Sl) (l : List ATask) (hm : MachR o w m) (hc : CritOk m) (h : TasksR o w c tasks l) :
    Call P 49 [m.p.v, .slice tasks.a tasks.n tasks.c] [sI] (fun r w' => Below w.heap.size w w' ∧ r = reserveZ m l) w := by
  have hn := h.rl.n
  rw [List.length_map] at hn
  have hmax := h.rl.max
  refine f49_of _ _ (New_of fun b w1 c1 u1 => ?_)
  refine ⟨fun a i w' => ∃ k : Nat, i = k ∧ k ≤ l.length ∧ Below w1.heap.size w1 w' ∧ a = (l.take k).foldl (fun a x => if utilZ (blockZ m l x.t.period) x.t.period > a then utilZ (blockZ m l x.t.period) x.t.period else a) 0, fun _ i _ => l.length - i.toNat, ⟨0, rfl, Nat.zero_le _, Below.refl _ _, rfl⟩, ?_⟩
  rintro a _ v ⟨k, rfl, hk, u, hae⟩ _
  have c1 := c1.below u
  have uo := u
  have u := u1.on u
  refine If_d (fun hlt => ?_) (fun hlt => ?_)
  · have hk' : k < l.length := by omega
    obtain ⟨y, hy⟩ : ∃ y, l[k]? = some y := ⟨_, List.getElem?_eq_getElem hk'⟩
    have hyk : l[k] = y := by rw [List.getElem?_eq_getElem hk'] at hy; exact Option.some.inj hy
    have hx : (l.map ATask.t)[k]? = some y.t := by rw [List.getElem?_map, hy]; rfl
    have c1 := c1.drew
    have uo := uo.drew
    have u := u.drew
    refine c1.ldPlat (x := m.p) ?_
    refine RL.at' (h.rl.below u) (k := k) (x := y.t) rfl hx fun bd fd had hbd => ?_
    have hadr : (⟨bd, fd, none⟩ : Addr).add (Int.toNat (k : Int) * 4) = ⟨bd, fd + k * 4, none⟩ := by rw [Addr.add_mk, Int.toNat_natCast]
    rw [hadr]
    have hbd : Bx v.drew bd (fd + k * 4) y.t.l := hbd
    refine hbd.ldo (f := 0) (c := .ki .i64) (x := y.t.period) rfl ?_
    refine RL.at' (h.rl.below u) (k := k) (x := y.t) rfl hx fun bd2 fd2 had2 hbd2 => ?_
    have hadr2 : (⟨bd2, fd2, none⟩ : Addr).add (Int.toNat (k : Int) * 4) = ⟨bd2, fd2 + k * 4, none⟩ := by rw [Addr.add_mk, Int.toNat_natCast]
    rw [hadr2]
    have hbd2 : Bx v.drew bd2 (fd2 + k * 4) y.t.l := hbd2
    refine hbd2.ldo (f := 0) (c := .ki .i64) (x := y.t.period) rfl ?_
    have hcc := rblock_spec m tasks l y.t.period (hm.below u) hc (h.below u)
    refine hcc.imp1 ?_
    rintro r w3 ⟨u3, rfl⟩
    have c1 := c1.below u3
    have hbd := hbd.below u3
    have hbd2 := hbd2.below u3
    refine ⟨hbd2.geto0 (f := 0) rfl, ?_⟩
    have hcc := rutil_spec (blockZ m l y.t.period) y.t.period w3
    refine hcc.imp1 ?_
    rintro r w4 ⟨u4, rfl⟩
    have c1 := c1.below u4
    have hbd := hbd.below u4
    have hbd2 := hbd2.below u4
    refine ⟨hbd.geto0 (f := 0) rfl, ⟨c1.get rfl, c1.get rfl, c1.get rfl, c1.get rfl, c1.get rfl, c1.get rfl, c1.get rfl, c1.get rfl, c1.get rfl⟩, ?_⟩
    have hcc := rmax_spec a (utilZ (blockZ m l y.t.period) y.t.period) w4
    refine hcc.imp1 ?_
    rintro r w5 ⟨u5, rfl⟩
    have c1 := c1.below u5
    have hbd := hbd.below u5
    have hbd2 := hbd2.below u5
    refine ⟨hbd2.geto0 (f := 0) rfl, hbd.geto0 (f := 0) rfl, ⟨c1.get rfl, c1.get rfl, c1.get rfl, c1.get rfl, c1.get rfl, c1.get rfl, c1.get rfl, c1.get rfl, c1.get rfl⟩, ?_⟩
    rw [wz1 (by omega) hmax]
    refine ⟨⟨k + 1, rfl, hk', ((uo.on u3).on u4).on u5, ?_⟩, by simp; omega⟩
    rw [List.take_succ_eq_append_getElem hk', List.foldl_append, ← hae, hyk]
    show _ = if utilZ (blockZ m l y.t.period) y.t.period > a then utilZ (blockZ m l y.t.period) y.t.period else a
    generalize utilZ (blockZ m l y.t.period) y.t.period = z
    by_cases h1 : a > z
    · rw [if_pos h1, if_neg (by omega)]
    · by_cases h2 : z > a
      · rw [if_neg h1, if_pos h2]
      · rw [if_neg h1, if_neg h2]; omega
  · have : k = l.length := by omega
    subst this
    rw [List.take_length] at hae
    exact ⟨u, hae⟩
theorem rload_spec {o : Own} {w : World} {c : Nat} (m : Mach) (tasks : Sl) (l : List ATask) (level : Int) (hm : MachR o w m) (hc : CritOk m) (h : TasksR o w c tasks l) :
    Call P 31 [m.p.v, .slice tasks.a tasks.n tasks.c, .int .i64 level] [sI] (fun r w' => Below w.heap.size w w' ∧ r = loadZ m l level) w := by
  have hn := h.rl.n
  rw [List.length_map] at hn
  have hmax := h.rl.max
  refine f31_of _ _ _ (New_of fun b w1 c1 u1 => ?_)
  refine c1.ldPlat (x := m.p) ?_
  have hcc := rreserve_spec m tasks l (hm.below u1) hc (h.below u1)
  refine hcc.imp1 ?_
  rintro r w2 ⟨u2, rfl⟩
  have c1 := c1.below u2
  have u1 := u1.on u2
  refine ⟨fun a i w' => ∃ k : Nat, i = k ∧ k ≤ l.length ∧ Below w2.heap.size w2 w' ∧ a = (l.take k).foldl (fun a x => wz (a + partZ m x level)) (reserveZ m l), fun _ i _ => l.length - i.toNat, ⟨0, rfl, Nat.zero_le _, Below.refl _ _, rfl⟩, ?_⟩
  rintro a _ v ⟨k, rfl, hk, u, rfl⟩ _
  have c1 := c1.below u
  have uo := u
  have u := u1.on u
  refine If_d (fun hlt => ?_) (fun hlt => ?_)
  · have hk' : k < l.length := by omega
    have hx : (l.map ATask.t)[k]? = some l[k].t := by simp [hk']
    refine c1.drew.ldPlat (x := m.p) ?_
    refine (h.rl.below u.drew).task rfl hx ?_
    have hcc := rpart_spec m l[k] level (hm.below u.drew)
    refine hcc.imp1 ?_
    rintro r w3 ⟨u3, rfl⟩
    rw [wz1 (by omega) hmax]
    refine ⟨⟨k + 1, rfl, hk', uo.drew.on u3, ?_⟩, by simp; omega⟩
    rw [List.take_succ_eq_append_getElem hk', List.foldl_append]
    rfl
  · have : k = l.length := by omega
    subst this
    exact ⟨u, by rw [List.take_length]; rfl⟩
theorem rtask_spec {o : Own} {w : World} (m : Mach) (x : ATask) (hm : MachR o w m) (h : TaskR o w x) : Call P 30 [m.p.v, x.t.v] [sB] (fun r w' => Below w.heap.size w w' ∧ (r = true ↔ checkZ m x = 0)) w := by
  have hs := h.sec.n
  have hsm := h.sec.max
  have hdn := h.devs.n
  have hdm := h.devs.max
  have hD := hm.D.n
  have bad : ∀ w', Below w.heap.size w w' → (x.t.period < 1 ∨ x.t.period > m.p.horizon ∨ x.t.cycles < 1 ∨ x.t.cycles > 4096 ∨ (x.sec.length : Int) > m.p.sems ∨ (x.sec.any (fun n => decide (n < 0) || decide (n > x.t.cycles))) = true ∨ devsZ m x.devs = false) → Below w.heap.size w w' ∧ (false = true ↔ checkZ m x = 0) := fun w' u h =>
    ⟨u, fun h => (by cases h), fun h0 => (by rw [checkZ, if_pos h] at h0; exact absurd h0 (by decide))⟩
  refine f30_of _ _ (New_of fun b w1 c1 u1 => New_of fun b2 w2 c2 u2 => ?_)
  have c1 := c1.below u2
  have u := u1.on u2
  refine c2.ld (x := x.t.period) rfl (If_d (fun h0 => bad _ u (.inl h0)) fun h0 => ?_)
  refine c2.ld (x := x.t.period) rfl (c1.ld (x := m.p.horizon) rfl (If_d (fun h1 => bad _ u (.inr (.inl h1))) fun h1 => ?_))
  refine c2.ld (x := x.t.cycles) rfl (If_d (fun h2 => bad _ u (.inr (.inr (.inl h2)))) fun h2 => ?_)
  refine c2.ld (x := x.t.cycles) rfl (If_d (fun h3 => bad _ u (.inr (.inr (.inr (.inl h3))))) fun h3 => ?_)
  refine c2.ld (x := x.t.sec) rfl (c1.ld (x := m.p.sems) rfl ?_)
  refine If_d (fun h4 => bad _ u (.inr (.inr (.inr (.inr (.inl (by rw [hs] at h4; exact h4))))))) fun h4 => ?_
  refine ⟨fun i w' => ∃ k : Nat, i = k ∧ k ≤ x.sec.length ∧ Below w2.heap.size w2 w' ∧ ∀ j, j < k → 0 ≤ x.sec.getD j 0 ∧ x.sec.getD j 0 ≤ x.t.cycles, fun i _ => x.sec.length - i.toNat, ⟨0, rfl, Nat.zero_le _, Below.refl _ _, fun j hj => by omega⟩, ?_⟩
  rintro _ v ⟨k, rfl, hk, u3, hp⟩ _
  have c1 := c1.below u3
  have c2 := c2.below u3
  have uu := u.on u3
  refine c2.ld (f := 2) (c := .ks) (x := x.t.sec) rfl ?_
  refine If_d (fun hlt => ?_) (fun hlt => ?_)
  · have hk' : k < x.sec.length := by omega
    have hd : x.sec.getD k 0 = x.sec[k] := by simp [hk']
    have sbad : (x.sec[k] < 0 ∨ x.sec[k] > x.t.cycles) → (x.sec.any (fun n => decide (n < 0) || decide (n > x.t.cycles))) = true := fun h => by
      rw [List.any_eq_true]
      exact ⟨x.sec[k], List.getElem_mem hk', by simpa using h⟩
    have c1 := c1.drew
    have c2 := c2.drew
    have u3 := u3.drew
    have uu := uu.drew
    refine c2.ld (f := 2) (c := .ks) (x := x.t.sec) rfl ?_
    refine (h.sec.below uu).int rfl (List.getElem?_eq_getElem hk') ?_
    refine If_d (fun h5 => bad _ uu (.inr (.inr (.inr (.inr (.inr (.inl (sbad (.inl h5))))))))) fun h5 => ?_
    refine c2.ld (f := 2) (c := .ks) (x := x.t.sec) rfl ?_
    refine (h.sec.below uu).int rfl (List.getElem?_eq_getElem hk') ?_
    refine c2.ld (x := x.t.cycles) rfl ?_
    refine If_d (fun h6 => bad _ uu (.inr (.inr (.inr (.inr (.inr (.inl (sbad (.inr h6))))))))) fun h6 => ?_
    rw [wz1 (by omega) hsm]
    have h5 : ¬ x.sec[k] < 0 := h5
    have h6 : ¬ x.sec[k] > x.t.cycles := h6
    refine ⟨⟨k + 1, rfl, hk', u3, fun j hj => ?_⟩, by simp; omega⟩
    rcases Nat.lt_or_ge j k with hjk | hjk
    · exact hp j hjk
    · obtain rfl : j = k := by omega
      rw [hd]; omega
  · have hke : k = x.sec.length := by omega
    subst hke
    have hany : (x.sec.any (fun n => decide (n < 0) || decide (n > x.t.cycles))) = false := by
      rw [List.any_eq_false]
      intro y hy
      obtain ⟨j, hj⟩ := List.mem_iff_getElem?.1 hy
      have := hp j (lt_of_get hj)
      rw [List.getD_eq_getElem?_getD, hj] at this
      simp at this ⊢
      omega
    have fals : ∀ k, k < x.devs.length → (decide (0 ≤ x.devs.getD k 0) && decide (x.devs.getD k 0 < m.D.length) && (decide (k = 0) || decide (x.devs.getD (k - 1) 0 < x.devs.getD k 0))) = false → devsZ m x.devs = false := fun k hk hf => by
      unfold devsZ
      rw [List.all_eq_false]
      exact ⟨k, by simpa using hk, by simp only [hf]; simp⟩
    have dbad : ∀ w', Below w.heap.size w w' → devsZ m x.devs = false → Below w.heap.size w w' ∧ (false = true ↔ checkZ m x = 0) := fun w' u h => bad w' u (.inr (.inr (.inr (.inr (.inr (.inr h))))))
    generalize v = w3 at *
    refine ⟨fun i w' => ∃ k : Nat, i = k ∧ k ≤ x.devs.length ∧ Below w3.heap.size w3 w' ∧ ∀ j, j < k → (decide (0 ≤ x.devs.getD j 0) && decide (x.devs.getD j 0 < m.D.length) && (decide (j = 0) || decide (x.devs.getD (j - 1) 0 < x.devs.getD j 0))) = true, fun i _ => x.devs.length - i.toNat, ⟨0, rfl, Nat.zero_le _, Below.refl _ _, fun j hj => by omega⟩, ?_⟩
    rintro _ v ⟨k, rfl, hk, u4, hp⟩ _
    have c1 := c1.below u4
    have c2 := c2.below u4
    have uu := uu.on u4
    refine c2.ld (f := 3) (c := .ks) (x := x.t.devs) rfl ?_
    refine If_d (fun hlt => ?_) (fun hlt => ?_)
    · have hk' : k < x.devs.length := by omega
      have hd : x.devs.getD k 0 = x.devs[k] := by simp [hk']
      have c1 := c1.drew
      have c2 := c2.drew
      have u4 := u4.drew
      have uu := uu.drew
      refine c2.ld (f := 3) (c := .ks) (x := x.t.devs) rfl ?_
      refine (h.devs.below uu).int rfl (List.getElem?_eq_getElem hk') ?_
      refine If_d (fun h0 => dbad _ uu (fals k hk' (by rw [hd]; grind))) (fun h0 => ?_)
      refine c2.ld (f := 3) (c := .ks) (x := x.t.devs) rfl ?_
      refine (h.devs.below uu).int rfl (List.getElem?_eq_getElem hk') ?_
      refine c1.ld (x := m.p.devices) rfl ?_
      rw [hD]
      refine If_d (fun h1 => dbad _ uu (fals k hk' (by rw [hd]; grind))) (fun h1 => ?_)
      rw [wz1 (by omega) hdm]
      refine If_d (fun h2 => ?_) (fun h2 => ?_)
      · have hw : IntKind.wrap .i64 ((k : Int) - 1) = ((k - 1 : Nat) : Int) := by
          unfold maxLen at hdm
          rw [wz_id (by omega) (by omega)]; omega
        rw [hw]
        have hk2 : k - 1 < x.devs.length := by omega
        have hd2 : x.devs.getD (k - 1) 0 = x.devs[k - 1] := by simp [hk2]
        refine c2.ld (x := x.t.devs) rfl ?_
        refine (h.devs.below uu).int rfl (List.getElem?_eq_getElem hk2) ?_
        refine c2.ld (x := x.t.devs) rfl ?_
        refine (h.devs.below uu).int rfl (List.getElem?_eq_getElem hk') ?_
        refine If_d (fun h3 => dbad _ uu (fals k hk' (by rw [hd, hd2]; grind))) (fun h3 => ?_)
        refine ⟨⟨k + 1, rfl, hk', u4, fun j hj => ?_⟩, by simp; omega⟩
        rcases Nat.lt_or_ge j k with hjk | hjk
        · exact hp j hjk
        · obtain rfl : j = k := by omega
          rw [hd, hd2]; grind
      · refine ⟨⟨k + 1, rfl, hk', u4, fun j hj => ?_⟩, by simp; omega⟩
        rcases Nat.lt_or_ge j k with hjk | hjk
        · exact hp j hjk
        · obtain rfl : j = k := by omega
          rw [hd]; grind
    · have hke : k = x.devs.length := by omega
      subst hke
      have hdv : devsZ m x.devs = true := by
        unfold devsZ
        rw [List.all_eq_true]
        exact fun j hj => hp j (by simpa using hj)
      refine ⟨uu, fun _ => ?_, fun _ => rfl⟩
      rw [checkZ, if_neg]
      rw [hs] at h4
      rw [hany, hdv]
      have h0 : ¬ x.t.period < 1 := h0
      have h1 : ¬ x.t.period > m.p.horizon := h1
      have h2 : ¬ x.t.cycles < 1 := h2
      have h3 : ¬ x.t.cycles > 4096 := h3
      have h4 : ¬ (x.sec.length : Int) > m.p.sems := h4
      simp
      omega
theorem rsame_spec {o : Own} {w : World} (x y : ATask) (hx : TaskR o w x) (hy : TaskR o w y) (hs : SameA x y) : Call P 33 [x.t.v, y.t.v] [sB] (fun r w' => Below w.heap.size w w' ∧ r = true) w := by
  obtain ⟨e1, e2, e3, e4⟩ := hs
  have hsx := hx.sec.n
  have hsy := hy.sec.n
  have hdx := hx.devs.n
  have hdy := hy.devs.n
  have hsm := hx.sec.max
  have hdm := hx.devs.max
  refine f33_of _ _ (New_of fun b w1 c1 u1 => New_of fun b2 w2 c2 u2 => ?_)
  have c1 := c1.below u2
  have u := u1.on u2
  refine c1.ld (x := x.t.period) rfl (c2.ld (x := y.t.period) rfl (If_ne (fun h => absurd e1 h) fun _ => ?_))
  refine c1.ld (x := x.t.cycles) rfl (c2.ld (x := y.t.cycles) rfl (If_ne (fun h => absurd e2 h) fun _ => ?_))
  refine c1.ld (x := x.t.sec) rfl (c2.ld (x := y.t.sec) rfl (If_ne (fun h => absurd (by rw [hsx, hsy, e3]) h) fun _ => ?_))
  refine c1.ld (x := x.t.devs) rfl (c2.ld (x := y.t.devs) rfl (If_ne (fun h => absurd (by rw [hdx, hdy, e4]) h) fun _ => ?_))
  refine ⟨fun i w' => ∃ k : Nat, i = k ∧ k ≤ x.sec.length ∧ Below w2.heap.size w2 w', fun i _ => x.sec.length - i.toNat, ⟨0, rfl, Nat.zero_le _, Below.refl _ _⟩, ?_⟩
  rintro _ v ⟨k, rfl, hk, u3⟩ _
  have c1 := c1.below u3
  have c2 := c2.below u3
  have uu := u.on u3
  refine c1.ld (f := 2) (c := .ks) (x := x.t.sec) rfl ?_
  refine If_d (fun hlt => ?_) (fun hlt => ?_)
  · have hk' : k < x.sec.length := by omega
    have hy' : y.sec[k]? = some x.sec[k] := by rw [← e3]; exact List.getElem?_eq_getElem hk'
    refine c1.drew.ld (f := 2) (c := .ks) (x := x.t.sec) rfl ?_
    refine (hx.sec.below uu.drew).int rfl (List.getElem?_eq_getElem hk') ?_
    refine c2.drew.ld (f := 2) (c := .ks) (x := y.t.sec) rfl ?_
    refine (hy.sec.below uu.drew).int rfl hy' ?_
    refine If_ne (fun h => absurd rfl h) fun _ => ?_
    rw [wz1 (by omega) hsm]
    exact ⟨⟨k + 1, rfl, hk', u3.drew⟩, by simp; omega⟩
  generalize v = w3 at *
  refine ⟨fun i w' => ∃ k : Nat, i = k ∧ k ≤ x.devs.length ∧ Below w3.heap.size w3 w', fun i _ => x.devs.length - i.toNat, ⟨0, rfl, Nat.zero_le _, Below.refl _ _⟩, ?_⟩
  rintro _ v ⟨k, rfl, hk, u4⟩ _
  have c1 := c1.below u4
  have c2 := c2.below u4
  have uu := uu.on u4
  refine c1.ld (f := 3) (c := .ks) (x := x.t.devs) rfl ?_
  refine If_d (fun hlt => ?_) (fun hlt => ?_)
  · have hk' : k < x.devs.length := by omega
    have hy' : y.devs[k]? = some x.devs[k] := by rw [← e4]; exact List.getElem?_eq_getElem hk'
    refine c1.drew.ld (f := 3) (c := .ks) (x := x.t.devs) rfl ?_
    refine (hx.devs.below uu.drew).int rfl (List.getElem?_eq_getElem hk') ?_
    refine c2.drew.ld (f := 3) (c := .ks) (x := y.t.devs) rfl ?_
    refine (hy.devs.below uu.drew).int rfl hy' ?_
    refine If_ne (fun h => absurd rfl h) fun _ => ?_
    rw [wz1 (by omega) hdm]
    exact ⟨⟨k + 1, rfl, hk', u4.drew⟩, by simp; omega⟩
  · exact ⟨uu, rfl⟩
end Go.Proofs.YtajilfnceoeaiaaGreat.V
/- Switches: no more than jobs came and ended; each leads to another level; each cycle runs at the level that was chosen last. Plain. -/
namespace Go.Proofs.YtajilfnceoeaiaaGreat.V
open Go Go.RowKit Enc
set_option maxRecDepth 100000
/-- The level, how many switches, and whether all is right so far. -/
structure Sw where
  lv : Int
  n : Nat
  ok : Bool
def swOne (crit : Int) (x : Sw) (i : Interval) : Sw :=
  if i.kind = 1 then ⟨x.lv, x.n, x.ok && (i.arg == x.lv)⟩ else if i.kind = 3 then ⟨i.arg, x.n + 1, x.ok && (!(i.arg == x.lv) && (decide (0 ≤ i.arg) && decide (i.arg ≤ crit)))⟩ else x
def swAll (crit : Int) (L : List Interval) : Sw := L.foldl (swOne crit) ⟨0, 0, true⟩
theorem swAll_snoc (crit : Int) (L : List Interval) (i : Interval) : swAll crit (L ++ [i]) = swOne crit (swAll crit L) i := by
  unfold swAll
  rw [List.foldl_append]
  rfl
theorem swOne_same (crit : Int) (x : Sw) (i j : Interval) (hk : i.kind = j.kind) (ha : i.arg = j.arg) : swOne crit x i = swOne crit x j := by
  unfold swOne
  rw [hk, ha]
theorem swOne_twice (crit : Int) (x : Sw) (i : Interval) (hk : i.kind = 1 ∨ i.kind = 2 ∨ i.kind = 5) : swOne crit (swOne crit x i) i = swOne crit x i := by
  unfold swOne
  by_cases h : i.kind = 1
  · simp only [if_pos h]
    cases x.ok <;> simp
  · have h3 : i.kind ≠ 3 := by omega
    simp only [if_neg h, if_neg h3]
theorem swAll_addZ (crit : Int) (L : List Interval) (i : Interval) : swAll crit (addZ L i) = swOne crit (swAll crit L) i := by
  unfold addZ
  split
  · rename_i y hy
    split
    · rename_i hj
      obtain ⟨Z, rfl⟩ := List.getLast?_eq_some_iff.1 hy
      rw [List.dropLast_concat, swAll_snoc, swAll_snoc]
      have h1 : swOne crit (swAll crit Z) (joinZ y i) = swOne crit (swAll crit Z) y := by
        refine swOne_same crit _ _ _ ?_ ?_
        · unfold joinZ; rw [if_pos hj]
        · unfold joinZ; rw [if_pos hj]
      have h2 : swOne crit (swOne crit (swAll crit Z) y) i = swOne crit (swOne crit (swAll crit Z) y) y := swOne_same crit _ _ _ hj.2.1.symm hj.2.2.1.symm
      rw [h1, h2, swOne_twice crit _ y hj.1]
    · exact swAll_snoc crit L i
  · rename_i h
    have : L = [] := by
      cases L with
      | nil => rfl
      | cons a l => simp at h
    subst this
    exact swAll_snoc crit [] i
/-- Events that may bring a switch. -/
def nonExp (E : List Event) : Nat := (E.filter fun e => e.kind != 4).length
theorem nonExp_snoc (E : List Event) (e : Event) : nonExp (E ++ [e]) = nonExp E + (if e.kind = 4 then 0 else 1) := by
  unfold nonExp
  rw [List.filter_append, List.length_append]
  congr 1
  by_cases h : e.kind = 4 <;> simp [h]
/-- What holds of switches. -/
structure SwI (m : Mach) (s : KS) : Prop where
  lv : (swAll m.p.crit s.trace).lv = s.level
  ok : (swAll m.p.crit s.trace).ok = true
  n : (swAll m.p.crit s.trace).n + wsum unW s.jobs + (if s.ended then 1 else 0) ≤ nonExp s.events
section
variable {m : Mach} {A B : Nat} {s s' : KS}
theorem SwI.did (h : SwI m s) (kind len arg task cyc : Int) (hk : kind ≠ 3) (ha : kind = 1 → arg = s.level) : SwI m (didZ m s kind len arg task cyc) := by
  have e : swAll m.p.crit (didZ m s kind len arg task cyc).trace = swAll m.p.crit s.trace := by
    show swAll m.p.crit (addZ s.trace _) = _
    rw [swAll_addZ]
    unfold swOne
    dsimp only
    split
    · rename_i h1
      rw [ha h1, h.lv, beq_self_eq_true, Bool.and_true]
      rw [← h.lv]
    · rfl
  refine ⟨by rw [e]; exact h.lv, by rw [e]; exact h.ok, ?_⟩
  rw [e]
  exact h.n
theorem SwI.endZ (h : SwI m s) (kind : Int) (hk : kind ≠ 4) (j : Job) : SwI m (endZ s kind j) := by
  refine ⟨h.lv, h.ok, ?_⟩
  have h1 := wsum_upd_le unW s.jobs j.task none
  have e0 : ow unW (none : Option Job) = 0 := rfl
  have hn := h.n
  show (swAll m.p.crit s.trace).n + wsum unW (upd s.jobs j.task none) + (if true = true then 1 else 0) ≤ nonExp (s.events ++ [⟨kind, j.task, s.now, j.deadline⟩])
  rw [nonExp_snoc, if_pos rfl, if_neg hk]
  omega
theorem SwI.startZ (iv : KInv m A B s) (h : SwI m s) {j : Job} (hj : s.jobs j.task = some j) (hc : j.started = false ∨ s.ended = true) : SwI m (startZ s j) ∧ (swAll m.p.crit (startZ s j).trace).n + 1 + wsum unW (startZ s j).jobs + (if (startZ s j).ended then 1 else 0) ≤ nonExp (startZ s j).events := by
  obtain ⟨_, h0, h6⟩ := iv.jobs _ _ hj
  have hn := h.n
  have key : (swAll m.p.crit (V.startZ s j).trace).n + 1 + wsum unW (V.startZ s j).jobs + (if (V.startZ s j).ended then 1 else 0) ≤ nonExp (V.startZ s j).events := by
    unfold V.startZ
    by_cases hs : j.started = true
    · rw [if_pos hs]
      have he : s.ended = true := hc.resolve_left (by rw [hs]; decide)
      rw [he] at hn
      show (swAll m.p.crit s.trace).n + 1 + wsum unW s.jobs + (if false = true then 1 else 0) ≤ nonExp s.events
      rw [if_pos rfl] at hn
      rw [if_neg (by decide)]
      omega
    · rw [if_neg hs]
      have w2 := wsum_upd unW s.jobs h0 (by omega) (some { j with started := true })
      rw [hj] at w2
      have e3 : ow unW (some j) = 1 := by show unW j = 1; rw [unW, if_neg hs]
      have e6 : ow unW (some ({ j with started := true } : Job)) = 0 := rfl
      show (swAll m.p.crit s.trace).n + 1 + wsum unW (upd s.jobs j.task (some { j with started := true })) + (if false = true then 1 else 0) ≤ nonExp s.events
      rw [if_neg (by decide)]
      split at hn <;> omega
  refine ⟨⟨?_, ?_, by omega⟩, key⟩
  · unfold V.startZ; split <;> exact h.lv
  · unfold V.startZ; split <;> exact h.ok
theorem SwI.runsTail (h : SwI m s) (iv : KInv m A B s) (n : Int) {j : Job} (hj : s.jobs j.task = some j) : SwI m (runsTailZ m s n j) := by
  have hd := h.did 1 (lvlP m s.level) s.level n 1 (by decide) (fun _ => rfl)
  obtain ⟨_, h0, h6⟩ := iv.jobs _ _ hj
  unfold runsTailZ
  dsimp only
  split
  · have h2 : SwI m { didZ m s 1 (lvlP m s.level) s.level n 1 with held := (didZ m s 1 (lvlP m s.level) s.level n 1).held.map (spendZ n) } := ⟨hd.lv, hd.ok, hd.n⟩
    refine h2.endZ _ ?_ _
    unfold jobHow
    split
    · decide
    · split <;> decide
  · refine ⟨hd.lv, hd.ok, ?_⟩
    have w2 := wsum_upd unW s.jobs h0 (by omega) (some (jobStep j))
    rw [hj] at w2
    have e2 : ow unW (some (jobStep j)) = ow unW (some j) := rfl
    have hn := hd.n
    have hn : (swAll m.p.crit (didZ m s 1 (lvlP m s.level) s.level n 1).trace).n + wsum unW s.jobs + (if s.ended then 1 else 0) ≤ nonExp s.events := hn
    show (swAll m.p.crit (didZ m s 1 (lvlP m s.level) s.level n 1).trace).n + wsum unW (upd s.jobs j.task (some (jobStep j))) + (if s.ended then 1 else 0) ≤ nonExp s.events
    omega
theorem SwI.runs (h : SwI m s) (iv : KInv m A B s) (hn : s.now < 16384) (ha : s.asleep = false) {n : Int} {j : Job} (hj : s.jobs n = some j) (hr : RunsR m s n s') : SwI m s' := by
  have hjt := (iv.jobs n j hj).1
  subst hjt
  unfold RunsR at hr
  rw [hj] at hr
  simp only [Option.getD_some] at hr
  split at hr
  · rw [hr]; exact h.endZ 3 (by decide) _
  · split at hr
    · rename_i hc
      obtain ⟨b, s1, hch, hb⟩ := hr
      obtain ⟨lv, l0, l1, _, hz⟩ := chooseR_start hch
      obtain ⟨hs, hs2⟩ := h.startZ iv hj hc
      obtain ⟨iv1, _, _, _, hlev, _, hj1⟩ := startZ_inv iv hj ha hc
      rcases hz with ⟨_, rfl, rfl⟩ | ⟨hne, rfl, rfl⟩
      · rw [if_neg (by decide)] at hb
        rw [hj1] at hb
        simp only [Option.getD_some] at hb
        rw [hb]
        exact hs.runsTail iv1 j.task (j := { j with started := true }) hj1
      · rw [if_pos rfl] at hb
        rw [hb]
        have e : swAll m.p.crit (didZ m { V.startZ s j with level := lv } 3 m.p.switch lv 0 0).trace = ⟨lv, (swAll m.p.crit (V.startZ s j).trace).n + 1, true⟩ := by
          show swAll m.p.crit (addZ (V.startZ s j).trace _) = _
          rw [swAll_addZ]
          unfold swOne
          dsimp only
          rw [if_neg (by decide), if_pos rfl, hs.ok, hs.lv, hlev]
          have : (lv == s.level) = false := by simpa using hne
          rw [this]
          simp [l0, l1]
        refine ⟨?_, ?_, ?_⟩
        · rw [e]; rfl
        · rw [e]
        · rw [e]
          exact hs2
    · rw [hr]; exact h.runsTail iv j.task hj
theorem SwI.step (h : SwI m s) (iv : KInv m A B s) (hn : s.now < 16384) (hr : StepR m s s') : SwI m s' := by
  unfold StepR at hr
  by_cases ha : s.asleep = true
  · rw [if_pos ha] at hr
    rw [hr]
    unfold sleepingZ
    dsimp only
    split
    · have h2 : SwI m { s with asleep := false } := ⟨h.lv, h.ok, h.n⟩
      exact h2.did 6 _ _ _ _ (by decide) (fun h => absurd h (by decide))
    · exact h.did 5 _ _ _ _ (by decide) (fun h => absurd h (by decide))
  · rw [if_neg ha] at hr
    have ha' : s.asleep = false := by simpa using ha
    obtain ⟨n, ok, L, hL, _, hw, hr⟩ := hr
    cases ok with
    | true =>
      rw [if_pos rfl] at hr
      obtain ⟨_, x, hx⟩ := whoOf_job iv hL hw
      exact h.runs iv hn ha' hx hr
    | false =>
      rw [if_neg (by decide)] at hr
      have hnn := h.n
      have hle : (swAll m.p.crit s.trace).n + wsum unW s.jobs + (if false = true then 1 else 0) ≤ nonExp s.events := by
        rw [if_neg (by decide)]
        omega
      rcases hr with rfl | ⟨_, k, x, t, _, _, _, _, rfl⟩
      · have h2 : SwI m { s with ended := false } := ⟨h.lv, h.ok, hle⟩
        exact h2.did 2 _ _ _ _ (by decide) (fun h => absurd h (by decide))
      · have h2 : SwI m { s with ended := false, asleep := true, state := (k : Int), wake := wz (s.now + t) } := ⟨h.lv, h.ok, hle⟩
        exact h2.did 4 _ _ _ _ (by decide) (fun h => absurd h (by decide))
theorem SwI.rel (h : SwI m s) (hr : RelOne s s') : SwI m s' := by
  obtain ⟨n, at_, cyc, t, _, _, _, _, rfl⟩ := hr
  refine ⟨h.lv, h.ok, ?_⟩
  have h1 := wsum_upd_le unW s.jobs n (some (jobNew n t.t at_ cyc))
  have e0 : ow unW (some (jobNew n t.t at_ cyc)) = 1 := rfl
  have hn := h.n
  show (swAll m.p.crit s.trace).n + wsum unW (upd s.jobs n (some (jobNew n t.t at_ cyc))) + (if s.ended then 1 else 0) ≤ nonExp (s.events ++ [_])
  rw [nonExp_snoc, if_neg (show ¬ (1 : Int) = 4 by decide)]
  omega
theorem SwI.exp (h : SwI m s) (hr : ExpOne s s') : SwI m s' := by
  obtain ⟨n, at_, cyc, _, _, _, rfl⟩ := hr
  refine ⟨h.lv, h.ok, ?_⟩
  have hn := h.n
  show (swAll m.p.crit s.trace).n + wsum unW s.jobs + (if s.ended then 1 else 0) ≤ nonExp (s.events ++ [_])
  rw [nonExp_snoc]
  omega
theorem SwI.bound (h : SwI m s) (hr : BoundR m s s') : SwI m s' := by
  obtain ⟨s1, s2, h1, _, h2, _, D, X, rfl, _⟩ := hr
  have i1 := Star.keep (I := SwI m) (fun _ _ r i => i.rel r) h1 h
  have i2 := Star.keep (I := SwI m) (fun _ _ r i => i.exp r) h2 i1
  exact ⟨i2.lv, i2.ok, i2.n⟩
/-- What a step that is no tick leaves as it was. -/
structure Calm (s s' : KS) : Prop where
  now : s'.now = s.now
  level : s'.level = s.level
  jobs : s'.jobs = s.jobs
  stack : s'.stack = s.stack
  ended : s'.ended = s.ended
  spent : s'.spent = s.spent
  asleep : s'.asleep = s.asleep
  state : s'.state = s.state
  wake : s'.wake = s.wake
  trace : s'.trace = s.trace
  meter : s'.meter = s.meter
  events : s'.events = s.events
theorem Calm.refl : Calm s s := ⟨rfl, rfl, rfl, rfl, rfl, rfl, rfl, rfl, rfl, rfl, rfl, rfl⟩
theorem AdmitR.calm {x : ATask} {n e : Int} (hr : AdmitR m s x n e s') : Calm s s' := by
  rcases hr with ⟨_, _, _, rfl⟩ | ⟨_, ⟨_, _, _, rfl⟩ | ⟨_, ⟨_, _, _, rfl⟩ | ⟨_, ⟨_, _, _, rfl⟩ | ⟨_, _, i, y, z, r, s1, _, _, _, _, ⟨D, rfl, _⟩, _, _, _, _, rfl⟩⟩⟩⟩
  · exact .refl
  · exact .refl
  · exact .refl
  · exact .refl
  · exact ⟨rfl, rfl, rfl, rfl, rfl, rfl, rfl, rfl, rfl, rfl, rfl, rfl⟩
theorem OneR.calm {x : ASt} {n e : Int} (hr : OneR m s x n e s') : (x.kind = 4 ∧ TickR m s x.a e s') ∨ Calm s s' := by
  rcases hr with ⟨_, hr⟩ | ⟨_, _, hr⟩ | ⟨_, _, hr⟩ | ⟨hk, _, hr⟩ | ⟨_, _, hr⟩ | ⟨hk, _, hr⟩ | ⟨_, _, hr⟩ | ⟨_, _, _, rfl⟩
  · exact .inr hr.calm
  · rcases hr with ⟨rfl, _⟩ | ⟨_, _, _, _, _, rfl⟩
    · exact .inr .refl
    · exact .inr ⟨rfl, rfl, rfl, rfl, rfl, rfl, rfl, rfl, rfl, rfl, rfl, rfl⟩
  · rcases hr with ⟨_, rfl⟩ | ⟨_, _, _, _, _, _, _, _, rfl⟩
    · exact .inr .refl
    · exact .inr ⟨rfl, rfl, rfl, rfl, rfl, rfl, rfl, rfl, rfl, rfl, rfl, rfl⟩
  · exact .inl ⟨hk, hr⟩
  · rcases hr with ⟨rfl, _⟩ | ⟨_, n, L, _, _, _, _, t, _, _, _, hr⟩
    · exact .inr .refl
    · rcases hr with ⟨_, i, _, rfl⟩ | ⟨_, _, c, _, rfl⟩
      · exact .inr ⟨rfl, rfl, rfl, rfl, rfl, rfl, rfl, rfl, rfl, rfl, rfl, rfl⟩
      · exact .inr ⟨rfl, rfl, rfl, rfl, rfl, rfl, rfl, rfl, rfl, rfl, rfl, rfl⟩
  · rcases hr with ⟨_, _, rfl⟩ | ⟨_, _, _, h0, h1, rfl⟩
    · exact .inr .refl
    · exact .inr ⟨rfl, rfl, rfl, rfl, rfl, rfl, rfl, rfl, rfl, rfl, rfl, rfl⟩
  · unfold TimerR at hr
    split at hr
    · rcases hr with ⟨_, _, rfl⟩ | ⟨_, _, rfl⟩
      · exact .inr ⟨rfl, rfl, rfl, rfl, rfl, rfl, rfl, rfl, rfl, rfl, rfl, rfl⟩
      · exact .inr .refl
    · rcases hr with ⟨_, _, rfl⟩ | ⟨_, _, _, _, _, _, _, rfl⟩
      · exact .inr .refl
      · exact .inr ⟨rfl, rfl, rfl, rfl, rfl, rfl, rfl, rfl, rfl, rfl, rfl, rfl⟩
  · exact .inr .refl
theorem TickR.keep {I : KS → Prop} (hstep : ∀ s s', KInv m A B s → s.now < 16384 → StepR m s s' → I s → I s') (hbound : ∀ s s', KInv m A B s → BoundR m s s' → I s → I s') {n e : Int} (iv : KInv m A B s) (hr : TickR m s n e s') (h : I s) : I s' := by
  rcases hr with ⟨_, _, rfl⟩ | ⟨_, _, _, hs, _⟩
  · exact h
  · have hE := endT_le iv.mok s n
    refine (Star.keep (I := fun s => KInv m A B s ∧ I s) (fun s1 s2 r i => ?_) hs ⟨iv, h⟩).2
    obtain ⟨hlt, s3, h1, h2⟩ := r
    have j1 := stepR_inv i.1 (by omega) h1
    exact ⟨(h2.inv j1.1).1, hbound _ _ j1.1 h2 (hstep _ _ i.1 (by omega) h1 i.2)⟩
theorem DoR.keep {I : KS → Prop} (hcalm : ∀ s s', Calm s s' → I s → I s') (hstep : ∀ s s', KInv m (A + 1) (B + 70000) s → s.now < 16384 → StepR m s s' → I s → I s') (hbound : ∀ s s', KInv m (A + 1) (B + 70000) s → BoundR m s s' → I s → I s')
    {x : ASt} {n e : Int} (iv : KInv m A B s) (hA : A + 1 ≤ 800000000) (hB : B + 70000 ≤ bigN) (hr : DoR m s x n e s') (h : I s) : I s' := by
  rcases hr with ⟨_, _, _, rfl⟩ | ⟨_, ⟨_, _, rfl⟩ | ⟨_, s1, h1, h2⟩⟩
  · exact h
  · exact h
  · have iv1 := (h1.inv iv hA hB).1
    refine hbound _ _ iv1 h2 ?_
    rcases h1.calm with ⟨_, ht⟩ | hc
    · exact ht.keep hstep hbound (iv.mono (by omega) (by omega) hA hB) h
    · exact hcalm _ _ hc h
theorem SwI.calm (h : SwI m s) (c : Calm s s') : SwI m s' := ⟨by rw [c.trace, c.level]; exact h.lv, by rw [c.trace]; exact h.ok, by rw [c.trace, c.jobs, c.ended, c.events]; exact h.n⟩
theorem SwI.doR (h : SwI m s) {x : ASt} {n e : Int} (iv : KInv m A B s) (hA : A + 1 ≤ 800000000) (hB : B + 70000 ≤ bigN) (hr : DoR m s x n e s') : SwI m s' :=
  DoR.keep (fun _ _ c i => i.calm c) (fun _ _ iv hn r i => i.step iv hn r) (fun _ _ _ r i => i.bound r) iv hA hB hr h
theorem SwI.s0 (m : Mach) : SwI m (s0 m) := ⟨rfl, rfl, Nat.le_refl _⟩
end
end Go.Proofs.YtajilfnceoeaiaaGreat.V
/- Whenever a device is on, it has cost no more than if it had never been away. Plain. -/
namespace Go.Proofs.YtajilfnceoeaiaaGreat.V
open Go Go.RowKit Enc
set_option maxRecDepth 100000
/-- What a step of the machine leaves as it was; time goes by, but not for long. -/
structure StepF (s s' : KS) : Prop where
  devs : s'.devs = s.devs
  spent : s'.spent = s.spent
  T : s'.T = s.T
  N : s'.N = s.N
  lat : s'.lat = s.lat
  tim : s'.tim = s.tim
  places : s'.places = s.places
  policy : s'.policy = s.policy
  naps : s'.naps = s.naps
  le : s.now ≤ s'.now
  far : s'.now ≤ s.now + 256
section
variable {m : Mach} {A B : Nat} {s s' s'' : KS}
theorem StepF.did (hn : 0 ≤ s.now ∧ s.now ≤ 17000) (kind len arg task cyc : Int) (hl : 0 ≤ len ∧ len ≤ 256) : StepF s (didZ m s kind len arg task cyc) := by
  have hw : wz (s.now + len) = s.now + len := wz_id (by omega) (by omega)
  refine ⟨rfl, rfl, rfl, rfl, rfl, rfl, rfl, rfl, rfl, ?_, ?_⟩
  · show s.now ≤ wz (s.now + len)
    omega
  · show wz (s.now + len) ≤ s.now + 256
    omega
theorem StepF.same {s1 s2 : KS} (h : StepF s1 s2) (e1 : s1.devs = s.devs) (e2 : s1.spent = s.spent) (e3 : s1.T = s.T) (e4 : s1.N = s.N) (e5 : s1.lat = s.lat) (e6 : s1.tim = s.tim) (e7 : s1.places = s.places) (e8 : s1.policy = s.policy) (e9 : s1.naps = s.naps) (e10 : s1.now = s.now) : StepF s s2 :=
  ⟨h.devs.trans e1, h.spent.trans e2, h.T.trans e3, h.N.trans e4, h.lat.trans e5, h.tim.trans e6, h.places.trans e7, h.policy.trans e8, h.naps.trans e9, by rw [← e10]; exact h.le, by rw [← e10]; exact h.far⟩
theorem StepF.endZ (h : StepF s s') (kind : Int) (j : Job) : StepF s (endZ s' kind j) := ⟨h.devs, h.spent, h.T, h.N, h.lat, h.tim, h.places, h.policy, h.naps, h.le, h.far⟩
theorem lvlP_in (iv : KInv m A B s) : 1 ≤ lvlP m s.level ∧ lvlP m s.level ≤ 256 := by
  have hlev := iv.lev
  have hcr := iv.crit.hi
  obtain ⟨i, hi⟩ : ∃ i : Nat, s.level = i := ⟨s.level.toNat, by omega⟩
  obtain ⟨x, hx⟩ : ∃ x, m.L[i]? = some x := ⟨m.L[i]'(by omega), List.getElem?_eq_getElem (by omega)⟩
  have hp := iv.mok.lev i x hx
  have hlp : lvlP m s.level = x.p := by rw [lvlP, hi, Int.toNat_natCast, hx]; rfl
  rw [hlp]
  exact hp
theorem StepF.runsTail (iv : KInv m A B s) (n : Int) (j : Job) : StepF s (runsTailZ m s n j) := by
  have hd : StepF s (didZ m s 1 (lvlP m s.level) s.level n 1) := StepF.did iv.now 1 _ _ _ _ ⟨by have := (lvlP_in iv).1; omega, (lvlP_in iv).2⟩
  have h2 : StepF s { didZ m s 1 (lvlP m s.level) s.level n 1 with held := (didZ m s 1 (lvlP m s.level) s.level n 1).held.map (spendZ n) } := ⟨hd.devs, hd.spent, hd.T, hd.N, hd.lat, hd.tim, hd.places, hd.policy, hd.naps, hd.le, hd.far⟩
  unfold runsTailZ
  dsimp only
  split
  · exact h2.endZ _ _
  · exact ⟨hd.devs, hd.spent, hd.T, hd.N, hd.lat, hd.tim, hd.places, hd.policy, hd.naps, hd.le, hd.far⟩
theorem startZ_same (s : KS) (j : Job) : (startZ s j).devs = s.devs ∧ (startZ s j).spent = s.spent ∧ (startZ s j).T = s.T ∧ (startZ s j).N = s.N ∧ (startZ s j).lat = s.lat ∧ (startZ s j).tim = s.tim ∧ (startZ s j).places = s.places ∧ (startZ s j).policy = s.policy ∧ (startZ s j).naps = s.naps ∧ (startZ s j).now = s.now := by
  unfold startZ
  split <;> exact ⟨rfl, rfl, rfl, rfl, rfl, rfl, rfl, rfl, rfl, rfl⟩
theorem StepR.frame (iv : KInv m A B s) (hn : s.now < 16384) (hr : StepR m s s') : StepF s s' := by
  have hnow := iv.now
  have hsw := iv.mok.sw
  unfold StepR at hr
  by_cases ha : s.asleep = true
  · rw [if_pos ha] at hr
    rw [hr]
    obtain ⟨h0, h1⟩ := iv.slp ha
    obtain ⟨k, hk⟩ : ∃ k : Nat, s.state = k := ⟨s.state.toNat, by omega⟩
    obtain ⟨x, hx⟩ : ∃ x, m.S[k]? = some x := ⟨m.S[k]'(by omega), List.getElem?_eq_getElem (by omega)⟩
    obtain ⟨g1, g2, g3, g4, g5, g6⟩ := iv.mok.slp k x hx
    have hz : sleepingZ m s = if s.now ≥ wz (s.wake - x.exit) then didZ m { s with asleep := false } 6 x.exit s.state 0 0 else didZ m s 5 1 s.state 0 0 := by
      unfold sleepingZ
      rw [hk, Int.toNat_natCast, hx]
      rfl
    rw [hz]
    split
    · exact (StepF.did (s := { s with asleep := false }) (m := m) hnow 6 x.exit s.state 0 0 ⟨g3, g4⟩).same rfl rfl rfl rfl rfl rfl rfl rfl rfl rfl
    · exact StepF.did hnow 5 1 s.state 0 0 (by omega)
  · rw [if_neg ha] at hr
    have ha' : s.asleep = false := by simpa using ha
    obtain ⟨n, ok, L, hL, _, hw, hr⟩ := hr
    cases ok with
    | true =>
      rw [if_pos rfl] at hr
      obtain ⟨_, j, hj⟩ := whoOf_job iv hL hw
      have hjt := (iv.jobs n j hj).1
      subst hjt
      unfold RunsR at hr
      rw [hj] at hr
      simp only [Option.getD_some] at hr
      split at hr
      · rw [hr]
        exact StepF.endZ ⟨rfl, rfl, rfl, rfl, rfl, rfl, rfl, rfl, rfl, Int.le_refl _, by omega⟩ _ _
      · split at hr
        · rename_i hc
          obtain ⟨b, s1, hch, hb⟩ := hr
          obtain ⟨lv, l0, l1, _, hz⟩ := chooseR_start hch
          obtain ⟨iv1, _, _, _, hlev, _, hj1⟩ := startZ_inv iv hj ha' hc
          obtain ⟨e1, e2, e3, e4, e5, e6, e7, e8, e9, e10⟩ := startZ_same s j
          rcases hz with ⟨_, rfl, rfl⟩ | ⟨hne, rfl, rfl⟩
          · rw [if_neg (by decide)] at hb
            rw [hb]
            exact (StepF.runsTail iv1 _ _).same e1 e2 e3 e4 e5 e6 e7 e8 e9 e10
          · rw [if_pos rfl] at hb
            rw [hb]
            exact (StepF.did (s := { startZ s j with level := lv }) (m := m) (by show 0 ≤ (startZ s j).now ∧ (startZ s j).now ≤ 17000; rw [e10]; exact hnow) 3 m.p.switch lv 0 0 hsw).same e1 e2 e3 e4 e5 e6 e7 e8 e9 e10
        · rw [hr]; exact StepF.runsTail iv _ _
    | false =>
      rw [if_neg (by decide)] at hr
      rcases hr with rfl | ⟨_, k, x, t, hx, _, _, _, rfl⟩
      · exact (StepF.did (s := { s with ended := false }) (m := m) hnow 2 1 0 0 0 (by omega)).same rfl rfl rfl rfl rfl rfl rfl rfl rfl rfl
      · obtain ⟨g1, g2, _⟩ := iv.mok.slp k x hx
        exact (StepF.did (s := { s with ended := false, asleep := true, state := (k : Int), wake := wz (s.now + t) }) (m := m) hnow 4 x.enter k 0 0 ⟨g1, g2⟩).same rfl rfl rfl rfl rfl rfl rfl rfl rfl rfl
/-- A device's moments and its cost. -/
def DevOne (now : Int) (d : Device) (x : Away) (p : Int) : Prop :=
  (x = ⟨0, 0⟩ ∧ p = 0) ∨ (0 ≤ x.from_ ∧ x.from_ ≤ now ∧ x.from_ + d.even ≤ x.until_ ∧ x.until_ ≤ 1099511627776 ∧ 0 ≤ p ∧ p ≤ d.on * x.from_)
theorem DevOne.later {now now' : Int} {d : Device} {x : Away} {p : Int} (h : DevOne now d x p) (hl : now ≤ now') : DevOne now' d x p := by
  rcases h with h | ⟨h1, h2, h3⟩
  · exact .inl h
  · exact .inr ⟨h1, by omega, h3⟩
theorem DevOne.on_le {now : Int} {d : Device} {x : Away} {p : Int} (hd : AwayOk d.down d.up d.downE d.upE d.off d.on d.even) (h0 : 0 ≤ now) (h1 : now ≤ 17000) (h : DevOne now d x p) (hs : stateZ d x now = 1) : wz (p + energyZ d x now) = p + energyZ d x now ∧ 0 ≤ p + energyZ d x now ∧ p + energyZ d x now ≤ d.on * now := by
  obtain ⟨k1, k2, k3, k4, k5, k6, k7, k8, k9, k10⟩ := hd
  have hon := mul_in k5.1 k5.2 h0 h1
  rcases h with ⟨rfl, rfl⟩ | ⟨f0, f1, f2, f3, p0, p1⟩
  · have he : energyZ d ⟨0, 0⟩ now = d.on * now := by
      unfold energyZ
      rw [if_pos (show neverZ ⟨0, 0⟩ = true from rfl), if_neg (by omega)]
      exact wz_id (by omega) (by omega)
    rw [he]
    refine ⟨wz_id (by omega) (by omega), by omega, by omega⟩
  · have hnv : neverZ x = false := by
      unfold neverZ
      by_cases e : x.from_ = 0
      · have : x.until_ ≠ 0 := by omega
        simp [this]
      · simp [e]
    have hu : now ≥ x.until_ := by
      unfold stateZ at hs
      rw [hnv] at hs
      by_cases g : now ≥ x.until_
      · exact g
      · rw [if_neg (by simp; omega)] at hs
        split at hs
        · cases hs
        · split at hs <;> cases hs
    have w1 : wz (x.from_ + d.down) = x.from_ + d.down := wz_id (by omega) (by omega)
    have w2 : wz (x.until_ - d.up) = x.until_ - d.up := wz_id (by omega) (by omega)
    have w3 : wz (0 + d.downE) = d.downE := by rw [show 0 + d.downE = d.downE by omega]; exact wz_id (by omega) (by omega)
    have w4 : wz (d.downE + d.upE) = d.downE + d.upE := wz_id (by omega) (by omega)
    have w5 : wz (x.until_ - d.up - (x.from_ + d.down)) = x.until_ - d.up - (x.from_ + d.down) := wz_id (by omega) (by omega)
    have w6 : wz (now - x.until_) = now - x.until_ := wz_id (by omega) (by omega)
    have hspan : spanZ (x.from_ + d.down) (x.until_ - d.up) now = x.until_ - d.up - (x.from_ + d.down) := by
      unfold spanZ
      have hif : (if now < x.until_ - d.up then now else x.until_ - d.up) = x.until_ - d.up := if_neg (by omega)
      rw [hif, w5, if_neg (by omega)]
    have m1 := mul_in k6.1 (show d.off ≤ 65536 by omega) (show 0 ≤ x.until_ - d.up - (x.from_ + d.down) by omega) (show x.until_ - d.up - (x.from_ + d.down) ≤ 17000 by omega)
    have m2 := mul_in k5.1 k5.2 (show 0 ≤ now - x.until_ by omega) (show now - x.until_ ≤ 17000 by omega)
    have he : energyZ d x now = d.downE + d.upE + d.off * (x.until_ - d.up - (x.from_ + d.down)) + d.on * (now - x.until_) := by
      unfold energyZ
      rw [hnv, if_neg (by decide)]
      dsimp only
      rw [w1, w2, hspan, if_pos (by omega), if_pos (by omega), w3, w4, w6, if_neg (by omega), wzi (x := d.off * (x.until_ - d.up - (x.from_ + d.down))) (by omega) (by omega), wzi (x := d.on * (now - x.until_)) (by omega) (by omega), wzi (x := d.downE + d.upE + d.off * (x.until_ - d.up - (x.from_ + d.down))) (by omega) (by omega)]
      exact wz_id (by omega) (by omega)
    -- off for longer than the least is no dearer than on
    have m3 : d.off * (x.until_ - d.up - (x.from_ + d.down)) = d.off * (d.even - d.down - d.up) + d.off * (x.until_ - x.from_ - d.even) := by
      rw [← Int.mul_add]
      congr 1
      omega
    have m4 : d.off * (x.until_ - x.from_ - d.even) ≤ d.on * (x.until_ - x.from_ - d.even) := Int.mul_le_mul_of_nonneg_right k6.2 (by omega)
    have m5 : d.on * now = d.on * x.from_ + (d.on * d.even + d.on * (x.until_ - x.from_ - d.even) + d.on * (now - x.until_)) := by
      rw [← Int.mul_add, ← Int.mul_add, ← Int.mul_add]
      congr 1
      omega
    rw [he]
    have hp1 := mul_in k5.1 k5.2 f0 (show x.from_ ≤ 17000 by omega)
    refine ⟨wz_id (by omega) (by omega), by omega, by omega⟩
theorem DevOne.call {now : Int} {d : Device} {x : Away} {p : Int} (hd : AwayOk d.down d.up d.downE d.upE d.off d.on d.even) (h0 : 0 ≤ now) (h1 : now ≤ 17000) (h : DevOne now d x p) : DevOne now d (callZ d x now) p := by
  obtain ⟨k1, k2, k3, k4, k5, k6, k7, k8, k9, k10⟩ := hd
  unfold callZ
  split
  · rename_i hu
    rcases h with ⟨rfl, rfl⟩ | ⟨f0, f1, f2, f3, p0, p1⟩
    · cases hu
    · have w1 : wz (x.from_ + d.even) = x.from_ + d.even := wz_id (by omega) (by omega)
      have w2 : wz (now + d.up) = now + d.up := wz_id (by omega) (by omega)
      have w3 : wz (x.from_ + d.down) = x.from_ + d.down := wz_id (by omega) (by omega)
      have w4 : wz (x.from_ + d.down + d.up) = x.from_ + d.down + d.up := wz_id (by omega) (by omega)
      refine .inr ⟨f0, f1, ?_, ?_, p0, p1⟩
      · dsimp only
        rw [w1, w2, w3, w4]
        unfold mxZ
        split <;> split <;> omega
      · dsimp only
        rw [w1, w2, w3, w4]
        unfold mxZ
        split <;> split <;> omega
  · exact h
theorem DevOne.calls {now : Int} {d : Device} {x : Away} {p : Int} (hd : AwayOk d.down d.up d.downE d.upE d.off d.on d.even) (h0 : 0 ≤ now) (h1 : now ≤ 17000) (h : DevOne now d x p) (n : Nat) : DevOne now d (Nat.repeat (fun z => callZ d z now) n x) p := by
  induction n with
  | zero => exact h
  | succ n ih => exact DevOne.call hd h0 h1 ih
theorem DevOne.away {now : Int} {d : Device} {x x' : Away} {p p' : Int} (hd : AwayOk d.down d.up d.downE d.upE d.off d.on d.even) (h0 : 0 ≤ now) (h1 : now ≤ 17000) (h : DevOne now d x p) (ha : AwayOne d now x p x' p') : DevOne now d x' p' := by
  obtain ⟨u, u0, u1, ⟨_, rfl, rfl⟩ | ⟨hb, rfl, rfl⟩⟩ := ha
  · exact h
  · unfold awayB at hb
    simp only [Bool.and_eq_true, beq_iff_eq, Bool.not_eq_true', decide_eq_false_iff_not] at hb
    obtain ⟨hs, he⟩ := hb
    rw [wzi (x := u - now) (by omega) (by omega)] at he
    obtain ⟨e1, e2, e3⟩ := h.on_le hd h0 h1 hs
    rw [e1]
    exact .inr ⟨h0, Int.le_refl _, by dsimp only; omega, u1, e2, e3⟩
/-- What holds of all devices. -/
def DevI (m : Mach) (s : KS) : Prop := ∀ (i : Nat) (d : Device) (x : Away) (p : Int), m.D[i]? = some d → s.devs[i]? = some x → s.spent[i]? = some p → DevOne s.now d x p
theorem DevI.eq (h : DevI m s) (e1 : s'.devs = s.devs) (e2 : s'.spent = s.spent) (e3 : s.now ≤ s'.now) : DevI m s' := fun i d x p hd hx hp => (h i d x p hd (by rw [← e1]; exact hx) (by rw [← e2]; exact hp)).later e3
theorem rel_frame (hr : RelOne s s') : s'.devs = s.devs ∧ s'.spent = s.spent ∧ s'.now = s.now ∧ s'.T = s.T ∧ s'.tim = s.tim := by
  obtain ⟨n, at_, cyc, t, _, _, _, _, rfl⟩ := hr
  exact ⟨rfl, rfl, rfl, rfl, rfl⟩
theorem exp_frame (hr : ExpOne s s') : s'.devs = s.devs ∧ s'.spent = s.spent ∧ s'.now = s.now ∧ s'.T = s.T ∧ s'.lat = s.lat ∧ s'.N = s.N := by
  obtain ⟨n, at_, cyc, _, _, _, rfl⟩ := hr
  exact ⟨rfl, rfl, rfl, rfl, rfl, rfl⟩
theorem DevI.bound (t : Tab m) (iv : KInv m A B s) (h : DevI m s) (hr : BoundR m s s') : DevI m s' := by
  obtain ⟨s1, s2, h1, _, h2, _, D, X, rfl, hDl, hXl, ha⟩ := hr
  have i1 := Star.keep (I := DevI m) (fun _ _ r i => i.eq (rel_frame r).1 (rel_frame r).2.1 (Int.le_of_eq (rel_frame r).2.2.1.symm)) h1 h
  have i2 := Star.keep (I := DevI m) (fun _ _ r i => i.eq (exp_frame r).1 (exp_frame r).2.1 (Int.le_of_eq (exp_frame r).2.2.1.symm)) h2 i1
  obtain ⟨j1, _, n1⟩ := h1.relInv iv
  obtain ⟨j2, _, n2⟩ := h2.expInv j1
  have hnow := j2.now
  intro i d x' p' hd hx' hp'
  have hx' : D[i]? = some x' := hx'
  have hp' : X[i]? = some p' := hp'
  have hlx : i < s2.devs.length := by have := lt_of_get hx'; omega
  have hlp : i < s2.spent.length := by have := lt_of_get hp'; omega
  obtain ⟨x3, p3, e1, e2, e3⟩ := ha i d _ _ hd (List.getElem?_eq_getElem hlx) (List.getElem?_eq_getElem hlp)
  rw [hx'] at e1
  rw [hp'] at e2
  cases e1; cases e2
  exact (i2 i d _ _ hd (List.getElem?_eq_getElem hlx) (List.getElem?_eq_getElem hlp)).away (t.dev i d hd) hnow.1 hnow.2 e3
theorem DevI.calm (t : Tab m) (iv : KInv m A B s) (h : DevI m s) {x : ASt} {n e : Int} (hr : OneR m s x n e s') (hk : x.kind ≠ 4) : DevI m s' := by
  have hnow := iv.now
  rcases hr with ⟨_, hr⟩ | ⟨_, _, hr⟩ | ⟨_, _, hr⟩ | ⟨hk4, _, hr⟩ | ⟨_, _, hr⟩ | ⟨_, _, hr⟩ | ⟨_, _, hr⟩ | ⟨_, _, _, rfl⟩
  · rcases hr with ⟨_, _, _, rfl⟩ | ⟨_, ⟨_, _, _, rfl⟩ | ⟨_, ⟨_, _, _, rfl⟩ | ⟨_, ⟨_, _, _, rfl⟩ | ⟨_, _, i, y, z, r, s1, _, _, _, _, ⟨D, rfl, ⟨hDl, hD⟩, _⟩, _, _, _, _, rfl⟩⟩⟩⟩
    · exact h
    · exact h
    · exact h
    · exact h
    · intro i d x p hd hx hp
      have hx : D[i]? = some x := hx
      have hlx : i < s.devs.length := by have := lt_of_get hx; rw [hDl] at this; exact this
      obtain ⟨y, n, e1, e2⟩ := hD i _ d hd (List.getElem?_eq_getElem hlx)
      rw [hx] at e1; cases e1
      rw [e2]
      exact (h i d _ p hd (List.getElem?_eq_getElem hlx) hp).calls (t.dev i d hd) hnow.1 hnow.2 n
  · rcases hr with ⟨rfl, _⟩ | ⟨_, _, _, _, _, rfl⟩
    · exact h
    · exact h.eq rfl rfl (Int.le_refl _)
  · rcases hr with ⟨_, rfl⟩ | ⟨_, _, _, _, _, _, _, _, rfl⟩
    · exact h
    · exact h.eq rfl rfl (Int.le_refl _)
  · exact absurd hk4 hk
  · rcases hr with ⟨rfl, _⟩ | ⟨_, n, L, _, _, _, _, t, _, _, _, hr⟩
    · exact h
    · rcases hr with ⟨_, i, _, rfl⟩ | ⟨_, _, c, _, rfl⟩ <;> exact h.eq rfl rfl (Int.le_refl _)
  · rcases hr with ⟨_, _, rfl⟩ | ⟨_, _, _, h0, h1, rfl⟩
    · exact h
    · exact h.eq rfl rfl (Int.le_refl _)
  · unfold TimerR at hr
    split at hr
    · rcases hr with ⟨_, _, rfl⟩ | ⟨_, _, rfl⟩
      · exact h.eq rfl rfl (Int.le_refl _)
      · exact h
    · rcases hr with ⟨_, _, rfl⟩ | ⟨_, _, _, _, _, _, _, rfl⟩
      · exact h
      · exact h.eq rfl rfl (Int.le_refl _)
  · exact h
theorem DevI.doR (t : Tab m) (h : DevI m s) {x : ASt} {n e : Int} (iv : KInv m A B s) (hA : A + 1 ≤ 800000000) (hB : B + 70000 ≤ bigN) (hr : DoR m s x n e s') : DevI m s' := by
  rcases hr with ⟨_, _, _, rfl⟩ | ⟨_, ⟨_, _, rfl⟩ | ⟨_, s1, h1, h2⟩⟩
  · exact h
  · exact h
  · have iv1 := (h1.inv iv hA hB).1
    refine DevI.bound t iv1 ?_ h2
    by_cases hk : x.kind = 4
    · rcases h1.calm with ⟨_, ht⟩ | hc
      · exact ht.keep (fun _ _ iv hn r i => i.eq (StepR.frame iv hn r).devs (StepR.frame iv hn r).spent (StepR.frame iv hn r).le) (fun _ _ iv r i => i.bound t iv r) iv h
      · rcases h1 with ⟨hk', _⟩ | ⟨hk', _⟩ | ⟨hk', _⟩ | ⟨_, _, ht⟩ | ⟨hk', _⟩ | ⟨hk', _⟩ | ⟨hk', _⟩ | ⟨hk', _⟩
        · omega
        · omega
        · omega
        · exact ht.keep (fun _ _ iv hn r i => i.eq (StepR.frame iv hn r).devs (StepR.frame iv hn r).spent (StepR.frame iv hn r).le) (fun _ _ iv r i => i.bound t iv r) iv h
        all_goals omega
    · exact h.calm t iv h1 hk
theorem DevI.s0 (m : Mach) : DevI m (s0 m) := by
  intro i d x p hd hx hp
  have hx := List.mem_of_getElem? hx
  have hp := List.mem_of_getElem? hp
  exact .inl ⟨List.eq_of_mem_replicate hx, List.eq_of_mem_replicate hp⟩
end
end Go.Proofs.YtajilfnceoeaiaaGreat.V
