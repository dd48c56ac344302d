/- Parts of the proof: Propositions of function bodies (printed by gen.py). -/
import Derived.Test.YtajilfnceoeaiaaGreatZa2
set_option linter.unusedVariables false
set_option linter.unusedSimpArgs false
/- Propositions of function bodies (printed by gen.py). -/
namespace Go.Proofs.YtajilfnceoeaiaaGreat.V
open Go
set_option linter.unusedVariables false
set_option maxRecDepth 100000
theorem f12_of (p : Plat) {K : Bool → World → Prop} {w : World} (vc :
 New [.slice p.levels.a p.levels.n p.levels.c, .slice p.sleeps.a p.sleeps.n p.sleeps.c, .slice p.devices.a p.devices.n p.devices.c, .int .i64 p.idle, .int .i64 p.crit, .int .i64 p.switch, .int .i64 p.switchE, .int .i64 p.sems, .int .i64 p.horizon] 26 (fun a1 w =>
 Call P 15 [] [sB] (fun b2 w =>
 If b2 (
 LdN shPlat.cs 0 a1 (fun s3 s4 s5 n6 n7 n8 n9 n10 n11 w =>
 Call P 34 [.agg #[.slice s3.a s3.n s3.c, .slice s4.a s4.n s4.c, .slice s5.a s5.n s5.c, .int .i64 n6, .int .i64 n7, .int .i64 n8, .int .i64 n9, .int .i64 n10, .int .i64 n11]] [sB] (fun b12 w =>
 K (!b12) w) w) w) (
 K false w)) w) w) : Call P 12 [p.v] [sB] K w :=
  call_of (H := ⟨[], [], [], []⟩) Tryz.func12 (by kernel_rfl) (by kernel_rfl) vc

theorem f24_of (k : Option Addr) {K : Sl → World → Prop} {w : World} (vc :
 If (Option.isNone k) (
 K ⟨none, 0, 0⟩ w) (
 WithAddr k fun a1 =>
 Ld (.kp) (a1.add 28) (fun p2 w =>
 Call P 45 [.pointer p2] [sS] (fun s3 w =>
 K s3 w) w) w)) : Call P 24 [.pointer k] [sS] K w :=
  call_of (H := ⟨[], [], [], []⟩) Tryz.func24 (by kernel_rfl) (by kernel_rfl) vc

theorem f37_of (k : Option Addr) {K : World → Prop} {w : World} (vc :
 ∃ (I1 : World → Prop) (M2 : World → Nat), I1 w ∧ ∀  (v3 : World), I1 v3 → ∀ _ : Nat → Value,
 (fun w : World =>
 (fun w : World =>
 WithAddr k fun a4 =>
 Ld (.kp) (a4.add 21) (fun p5 w =>
 WithAddr k fun a6 =>
 Ld (.ki .i64) (a6.add 9) (fun n7 w =>
 Call P 68 [.pointer p5, .int .i64 n7] [sI, sI, sI, sB] (fun n8 n9 n10 b11 w =>
 If (!b11) (
 ∃ (I12 : World → Prop) (M13 : World → Nat), I12 w ∧ ∀  (v14 : World), I12 v14 → ∀ _ : Nat → Value,
 (fun w : World =>
 (fun w : World =>
 WithAddr k fun a15 =>
 Ld (.kp) (a15.add 22) (fun p16 w =>
 WithAddr k fun a17 =>
 Ld (.ki .i64) (a17.add 9) (fun n18 w =>
 Call P 72 [.pointer p16, .int .i64 n18] [sI, sI, sB] (fun n19 n20 b21 w =>
 If (!b21) (
 Call P 73 [.pointer k] [] (fun w =>
 K w) w) (
 WithAddr k fun a22 =>
 Ld (.ki .i64) (a22.add 9) (fun n23 w =>
 Call P 71 [.pointer k, .int .i64 4, .int .i64 n19, .int .i64 n23, .int .i64 n20] [] (fun w =>
 I12 w ∧ M13 w < M13 v14) w) w)) w) w) w) w.drew) v14) (
 WithAddr k fun a24 =>
 Ld (.ks) (a24.add 14) (fun s25 w =>
 ((0 : Int) ≤ n8 ∧ n8 < ((s25.n : Nat) : Int)) ∧ WithAddr s25.a fun a26 =>
 LdN shTask.cs 0 (a26.add (Int.toNat n8 * 4)) (fun n27 n28 s29 s30 w =>
 Call P 69 [.int .i64 n8, .agg #[.int .i64 n27, .int .i64 n28, .slice s29.a s29.n s29.c, .slice s30.a s30.n s30.c], .int .i64 n9, .int .i64 n10] [shJob] (fun n31 n32 n33 n34 n35 b36 w =>
 New [.int .i64 0, .int .i64 0, .int .i64 0, .int .i64 0, .int .i64 0, .bool false] 50 (fun a37 w =>
 StN [.int .i64 n31, .int .i64 n32, .int .i64 n33, .int .i64 n34, .int .i64 n35, .bool b36] 0 a37 (fun w =>
 (fun w : World =>
 WithAddr k fun a38 =>
 Ld (.kp) (a38.add 17) (fun p39 w =>
 LdN shJob.cs 0 a37 (fun n40 n41 n42 n43 n44 b45 w =>
 Call P 70 [.pointer p39, .agg #[.int .i64 n40, .int .i64 n41, .int .i64 n42, .int .i64 n43, .int .i64 n44, .bool b45]] [] (fun w =>
 (fun w : World =>
 WithAddr k fun a46 =>
 Ld (.ks) (a46.add 15) (fun s47 w =>
 WithAddr k fun a48 =>
 Ld (.ks) (a48.add 16) (fun s49 w =>
 Ld (.ki .i64) (a37.add 2) (fun n50 w =>
 Ld (.ki .i64) (a37.add 3) (fun n51 w =>
 ((0 : Int) ≤ n8 ∧ n8 < ((s47.n : Nat) : Int)) ∧ WithAddr s47.a fun a52 =>
 StN [.int .i64 n50] 0 (a52.add (Int.toNat n8 * 1)) (fun w =>
 (w.cell? ((a37.add 3).add 0) = some (.int .i64 n51)) ∧ ((0 : Int) ≤ n8 ∧ n8 < ((s49.n : Nat) : Int)) ∧ WithAddr s49.a fun a53 =>
 StN [.int .i64 n51] 0 (a53.add (Int.toNat n8 * 1)) (fun w =>
 Ld (.ki .i64) (a37.add 2) (fun n54 w =>
 Call P 71 [.pointer k, .int .i64 1, .int .i64 n8, .int .i64 n9, .int .i64 n54] [] (fun w =>
 I1 w ∧ M2 w < M2 v3) w) w) w) w) w) w) w) w) w.drew) w) w) w) w.drew) w) w) w) w) w)) w) w) w) w.drew) v3) : Call P 37 [.pointer k] [] K w :=
  call_of (H := ⟨[(0, []), (6, [])], [], [(0, .take 0 (.take 1 (.take 2 (.take 3 (.take 4 (.take 5 (.take 6 (.take 7 (.run 8 (.take 9 (.take 10 (.take 11 (.take 12 (.take 13 (.take 14 (.take 15 (.take 16 (.take 17 .done)))))))))))))))))), (6, .take 0 (.take 1 (.take 2 (.take 3 (.take 4 (.take 5 (.take 6 (.take 7 (.run 8 (.take 9 (.take 10 (.take 11 (.take 12 (.take 13 (.take 14 (.take 15 .done)))))))))))))))), (3, .take 0 (.take 1 (.take 2 (.take 3 (.take 4 (.run 5 .done)))))), (4, .take 0 (.take 1 (.take 2 (.take 3 (.take 4 (.take 5 (.take 6 (.take 7 (.take 8 (.take 9 (.take 10 (.take 11 (.take 12 (.take 13 (.take 14 (.run 15 (.take 16 (.run 17 .done))))))))))))))))))], []⟩) Tryz.func37 (by kernel_rfl) (by kernel_rfl) vc

theorem f43_of (k : Option Addr) (d : Int) {K : Int → Int → World → Prop} {w : World} (vc :
 New [.int .i64 0, .int .i64 0] 97 (fun a1 w =>
 If (Option.isNone k) (
 StN [.int .i64 0, .int .i64 0] 0 a1 (fun w =>
 LdN shItem.cs 0 a1 (fun n2 n3 w =>
 K n2 n3 w) w) w) (
 If (decide (d < 0)) (
 StN [.int .i64 0, .int .i64 0] 0 a1 (fun w =>
 LdN shItem.cs 0 a1 (fun n4 n5 w =>
 K n4 n5 w) w) w) (
 WithAddr k fun a6 =>
 Ld (.ks) (a6.add 23) (fun s7 w =>
 If (decide (d ≥ ((s7.n : Nat) : Int))) (
 StN [.int .i64 0, .int .i64 0] 0 a1 (fun w =>
 LdN shItem.cs 0 a1 (fun n8 n9 w =>
 K n8 n9 w) w) w) (
 WithAddr k fun a10 =>
 Ld (.ks) (a10.add 23) (fun s11 w =>
 ((0 : Int) ≤ d ∧ d < ((s11.n : Nat) : Int)) ∧ WithAddr s11.a fun a12 =>
 LdN shItem.cs 0 (a12.add (Int.toNat d * 2)) (fun n13 n14 w =>
 StN [.int .i64 n13, .int .i64 n14] 0 a1 (fun w =>
 LdN shItem.cs 0 a1 (fun n15 n16 w =>
 K n15 n16 w) w) w) w) w)) w))) w) : Call P 43 [.pointer k, .int .i64 d] [shAway] K w :=
  call_of (H := ⟨[], [], [], []⟩) Tryz.func43 (by kernel_rfl) (by kernel_rfl) vc

theorem f55_of (p : Plat) {K : Sl → Sl → Sl → Int → Int → Int → Int → Int → Int → World → Prop} {w : World} (vc :
 New [.slice p.levels.a p.levels.n p.levels.c, .slice p.sleeps.a p.sleeps.n p.sleeps.c, .slice p.devices.a p.devices.n p.devices.c, .int .i64 p.idle, .int .i64 p.crit, .int .i64 p.switch, .int .i64 p.switchE, .int .i64 p.sems, .int .i64 p.horizon] 26 (fun a1 w =>
 New [.slice none 0 0, .slice none 0 0, .slice none 0 0, .int .i64 0, .int .i64 0, .int .i64 0, .int .i64 0, .int .i64 0, .int .i64 0] 26 (fun a2 w =>
 (fun w : World =>
 Ld (.ks) (a1.add 0) (fun s3 w =>
 Ld (.ks) (a1.add 1) (fun s4 w =>
 Ld (.ks) (a1.add 2) (fun s5 w =>
 Call P 89 [.slice s3.a s3.n s3.c] [sS] (fun s6 w =>
 (w.cell? ((a1.add 2).add 0) = some (.slice s5.a s5.n s5.c)) ∧ (w.cell? ((a1.add 1).add 0) = some (.slice s4.a s4.n s4.c)) ∧ Call P 90 [.slice s4.a s4.n s4.c] [sS] (fun s7 w =>
 (w.cell? ((a1.add 2).add 0) = some (.slice s5.a s5.n s5.c)) ∧ (w.cell? ((a1.add 0).add 0) = some (.slice s3.a s3.n s3.c)) ∧ Call P 91 [.slice s5.a s5.n s5.c] [sS] (fun s8 w =>
 (w.cell? ((a1.add 1).add 0) = some (.slice s4.a s4.n s4.c)) ∧ (w.cell? ((a1.add 0).add 0) = some (.slice s3.a s3.n s3.c)) ∧ StN [.slice s6.a s6.n s6.c] 0 (a1.add 0) (fun w =>
 StN [.slice s7.a s7.n s7.c] 0 (a1.add 1) (fun w =>
 StN [.slice s8.a s8.n s8.c] 0 (a1.add 2) (fun w =>
 LdN shPlat.cs 0 a1 (fun s9 s10 s11 n12 n13 n14 n15 n16 n17 w =>
 StN [.slice s9.a s9.n s9.c, .slice s10.a s10.n s10.c, .slice s11.a s11.n s11.c, .int .i64 n12, .int .i64 n13, .int .i64 n14, .int .i64 n15, .int .i64 n16, .int .i64 n17] 0 a2 (fun w =>
 LdN shPlat.cs 0 a2 (fun s18 s19 s20 n21 n22 n23 n24 n25 n26 w =>
 K s18 s19 s20 n21 n22 n23 n24 n25 n26 w) w) w) w) w) w) w) w) w) w) w) w) w) w.drew) w) w) : Call P 55 [p.v] [shPlat] K w :=
  call_of (H := ⟨[], [], [(1, .take 0 (.take 1 (.take 3 (.take 4 (.take 6 (.take 7 (.run 2 (.take 9 (.run 5 (.run 8 (.run 10 (.take 11 (.run 12 (.take 13 (.run 14 .done)))))))))))))))], []⟩) Tryz.func55 (by kernel_rfl) (by kernel_rfl) vc

theorem f61_of (k : Option Addr) (t : Task) {K : Int → Int → World → Prop} {w : World} (vc :
 New [.int .i64 t.period, .int .i64 t.cycles, .slice t.sec.a t.sec.n t.sec.c, .slice t.devs.a t.devs.n t.devs.c] 37 (fun a1 w =>
 (fun w : World =>
 WithAddr k fun a2 =>
 LdN shPlat.cs 0 (a2.add 0) (fun s3 s4 s5 n6 n7 n8 n9 n10 n11 w =>
 LdN shTask.cs 0 a1 (fun n12 n13 s14 s15 w =>
 Call P 93 [.agg #[.slice s3.a s3.n s3.c, .slice s4.a s4.n s4.c, .slice s5.a s5.n s5.c, .int .i64 n6, .int .i64 n7, .int .i64 n8, .int .i64 n9, .int .i64 n10, .int .i64 n11], .agg #[.int .i64 n12, .int .i64 n13, .slice s14.a s14.n s14.c, .slice s15.a s15.n s15.c]] [sI] (fun n16 w =>
 If (n16 != 0) (
 K 0 n16 w) (
 WithAddr k fun a17 =>
 Ld (.kp) (a17.add 20) (fun p18 w =>
 Call P 48 [.pointer p18] [sS] (fun s19 w =>
 If (decide (((s19.n : Nat) : Int) > 0)) (
 K 0 8 w) (
 Call P 94 [.pointer k] [sB] (fun b20 w =>
 If (!b20) (
 K 0 4 w) (
 (fun w : World =>
 WithAddr k fun a21 =>
 LdN shPlat.cs 0 (a21.add 0) (fun s22 s23 s24 n25 n26 n27 n28 n29 n30 w =>
 LdN shTask.cs 0 a1 (fun n31 n32 s33 s34 w =>
 (
 Call P 96 [.pointer k] [sS] (fun s35 w =>
 (w.cell? (a1.add 0) = some (.int .i64 n31) ∧ w.cell? (a1.add 1) = some (.int .i64 n32) ∧ w.cell? (a1.add 2) = some (.slice s33.a s33.n s33.c) ∧ w.cell? (a1.add 3) = some (.slice s34.a s34.n s34.c)) ∧ (w.cell? ((a21.add 0).add 0) = some (.slice s22.a s22.n s22.c) ∧ w.cell? ((a21.add 0).add 1) = some (.slice s23.a s23.n s23.c) ∧ w.cell? ((a21.add 0).add 2) = some (.slice s24.a s24.n s24.c) ∧ w.cell? ((a21.add 0).add 3) = some (.int .i64 n25) ∧ w.cell? ((a21.add 0).add 4) = some (.int .i64 n26) ∧ w.cell? ((a21.add 0).add 5) = some (.int .i64 n27) ∧ w.cell? ((a21.add 0).add 6) = some (.int .i64 n28) ∧ w.cell? ((a21.add 0).add 7) = some (.int .i64 n29) ∧ w.cell? ((a21.add 0).add 8) = some (.int .i64 n30)) ∧ New [.int .i64 n31, .int .i64 n32, .slice s33.a s33.n s33.c, .slice s34.a s34.n s34.c] 37 (fun a36 w =>
 (w.cell? ((a21.add 0).add 0) = some (.slice s22.a s22.n s22.c) ∧ w.cell? ((a21.add 0).add 1) = some (.slice s23.a s23.n s23.c) ∧ w.cell? ((a21.add 0).add 2) = some (.slice s24.a s24.n s24.c) ∧ w.cell? ((a21.add 0).add 3) = some (.int .i64 n25) ∧ w.cell? ((a21.add 0).add 4) = some (.int .i64 n26) ∧ w.cell? ((a21.add 0).add 5) = some (.int .i64 n27) ∧ w.cell? ((a21.add 0).add 6) = some (.int .i64 n28) ∧ w.cell? ((a21.add 0).add 7) = some (.int .i64 n29) ∧ w.cell? ((a21.add 0).add 8) = some (.int .i64 n30)) ∧ Sm P (Builtin.append_ #[54, 54] 54 [.slice s35.a s35.n s35.c, .slice (some a36) 1 1].toArray) [sS] (fun s37 w =>
 (w.cell? (a1.add 0) = some (.int .i64 n31) ∧ w.cell? (a1.add 1) = some (.int .i64 n32) ∧ w.cell? (a1.add 2) = some (.slice s33.a s33.n s33.c) ∧ w.cell? (a1.add 3) = some (.slice s34.a s34.n s34.c)) ∧ (w.cell? ((a21.add 0).add 0) = some (.slice s22.a s22.n s22.c) ∧ w.cell? ((a21.add 0).add 1) = some (.slice s23.a s23.n s23.c) ∧ w.cell? ((a21.add 0).add 2) = some (.slice s24.a s24.n s24.c) ∧ w.cell? ((a21.add 0).add 3) = some (.int .i64 n25) ∧ w.cell? ((a21.add 0).add 4) = some (.int .i64 n26) ∧ w.cell? ((a21.add 0).add 5) = some (.int .i64 n27) ∧ w.cell? ((a21.add 0).add 6) = some (.int .i64 n28) ∧ w.cell? ((a21.add 0).add 7) = some (.int .i64 n29) ∧ w.cell? ((a21.add 0).add 8) = some (.int .i64 n30)) ∧ Call P 95 [.agg #[.slice s22.a s22.n s22.c, .slice s23.a s23.n s23.c, .slice s24.a s24.n s24.c, .int .i64 n25, .int .i64 n26, .int .i64 n27, .int .i64 n28, .int .i64 n29, .int .i64 n30], .slice s37.a s37.n s37.c] [sB] (fun b38 w =>
 (w.cell? (a1.add 0) = some (.int .i64 n31) ∧ w.cell? (a1.add 1) = some (.int .i64 n32) ∧ w.cell? (a1.add 2) = some (.slice s33.a s33.n s33.c) ∧ w.cell? (a1.add 3) = some (.slice s34.a s34.n s34.c)) ∧ If (!b38) (
 WithAddr k fun a39 =>
 Ld (.kc) (a39.add 13) (fun c40 w =>
 Rv c40 (fun v w =>
 K 0 5 w) w) w) (
 WithAddr k fun a41 =>
 Ld (.ks) (a41.add 14) (fun s42 w =>
 Call P 97 [.slice s42.a s42.n s42.c, .func (.func 98) #[] #[]] [sI] (fun n43 w =>
 LdN shTask.cs 0 a1 (fun n44 n45 s46 s47 w =>
 Call P 99 [.pointer k, .agg #[.int .i64 n44, .int .i64 n45, .slice s46.a s46.n s46.c, .slice s47.a s47.n s47.c]] [sI] (fun n48 w =>
 (fun w : World =>
 WithAddr k fun a49 =>
 Ld (.ks) (a49.add 14) (fun s50 w =>
 WithAddr k fun a51 =>
 Ld (.ks) (a51.add 15) (fun s52 w =>
 WithAddr k fun a53 =>
 Ld (.ks) (a53.add 16) (fun s54 w =>
 LdN shTask.cs 0 a1 (fun n55 n56 s57 s58 w =>
 Ld (.ki .i64) (a1.add 1) (fun n59 w =>
 Call P 41 [.agg #[.int .i64 n55, .int .i64 n56, .slice s57.a s57.n s57.c, .slice s58.a s58.n s58.c]] [shTask] (fun n60 n61 s62 s63 w =>
 (w.cell? ((a1.add 1).add 0) = some (.int .i64 n59)) ∧ (w.cell? ((a53.add 16).add 0) = some (.slice s54.a s54.n s54.c)) ∧ (w.cell? ((a51.add 15).add 0) = some (.slice s52.a s52.n s52.c)) ∧ (w.cell? ((a49.add 14).add 0) = some (.slice s50.a s50.n s50.c)) ∧ ((0 : Int) ≤ n43 ∧ n43 < ((s50.n : Nat) : Int)) ∧ WithAddr s50.a fun a64 =>
 StN [.int .i64 n60, .int .i64 n61, .slice s62.a s62.n s62.c, .slice s63.a s63.n s63.c] 0 (a64.add (Int.toNat n43 * 4)) (fun w =>
 (w.cell? ((a1.add 1).add 0) = some (.int .i64 n59)) ∧ ((0 : Int) ≤ n43 ∧ n43 < ((s52.n : Nat) : Int)) ∧ WithAddr s52.a fun a65 =>
 StN [.int .i64 n48] 0 (a65.add (Int.toNat n43 * 1)) (fun w =>
 (w.cell? ((a1.add 1).add 0) = some (.int .i64 n59)) ∧ ((0 : Int) ≤ n43 ∧ n43 < ((s54.n : Nat) : Int)) ∧ WithAddr s54.a fun a66 =>
 StN [.int .i64 n59] 0 (a66.add (Int.toNat n43 * 1)) (fun w =>
 K n43 0 w) w) w) w) w) w) w) w) w) w) w.drew) w) w) w) w)) w) w) w) w) ∧ (
 New [.int .i64 n31, .int .i64 n32, .slice s33.a s33.n s33.c, .slice s34.a s34.n s34.c] 37 (fun a67 w =>
 (w.cell? ((a21.add 0).add 0) = some (.slice s22.a s22.n s22.c) ∧ w.cell? ((a21.add 0).add 1) = some (.slice s23.a s23.n s23.c) ∧ w.cell? ((a21.add 0).add 2) = some (.slice s24.a s24.n s24.c) ∧ w.cell? ((a21.add 0).add 3) = some (.int .i64 n25) ∧ w.cell? ((a21.add 0).add 4) = some (.int .i64 n26) ∧ w.cell? ((a21.add 0).add 5) = some (.int .i64 n27) ∧ w.cell? ((a21.add 0).add 6) = some (.int .i64 n28) ∧ w.cell? ((a21.add 0).add 7) = some (.int .i64 n29) ∧ w.cell? ((a21.add 0).add 8) = some (.int .i64 n30)) ∧ Call P 96 [.pointer k] [sS] (fun s68 w =>
 (w.cell? (a1.add 0) = some (.int .i64 n31) ∧ w.cell? (a1.add 1) = some (.int .i64 n32) ∧ w.cell? (a1.add 2) = some (.slice s33.a s33.n s33.c) ∧ w.cell? (a1.add 3) = some (.slice s34.a s34.n s34.c)) ∧ (w.cell? ((a21.add 0).add 0) = some (.slice s22.a s22.n s22.c) ∧ w.cell? ((a21.add 0).add 1) = some (.slice s23.a s23.n s23.c) ∧ w.cell? ((a21.add 0).add 2) = some (.slice s24.a s24.n s24.c) ∧ w.cell? ((a21.add 0).add 3) = some (.int .i64 n25) ∧ w.cell? ((a21.add 0).add 4) = some (.int .i64 n26) ∧ w.cell? ((a21.add 0).add 5) = some (.int .i64 n27) ∧ w.cell? ((a21.add 0).add 6) = some (.int .i64 n28) ∧ w.cell? ((a21.add 0).add 7) = some (.int .i64 n29) ∧ w.cell? ((a21.add 0).add 8) = some (.int .i64 n30)) ∧ Sm P (Builtin.append_ #[54, 54] 54 [.slice s68.a s68.n s68.c, .slice (some a67) 1 1].toArray) [sS] (fun s69 w =>
 (w.cell? (a1.add 0) = some (.int .i64 n31) ∧ w.cell? (a1.add 1) = some (.int .i64 n32) ∧ w.cell? (a1.add 2) = some (.slice s33.a s33.n s33.c) ∧ w.cell? (a1.add 3) = some (.slice s34.a s34.n s34.c)) ∧ (w.cell? ((a21.add 0).add 0) = some (.slice s22.a s22.n s22.c) ∧ w.cell? ((a21.add 0).add 1) = some (.slice s23.a s23.n s23.c) ∧ w.cell? ((a21.add 0).add 2) = some (.slice s24.a s24.n s24.c) ∧ w.cell? ((a21.add 0).add 3) = some (.int .i64 n25) ∧ w.cell? ((a21.add 0).add 4) = some (.int .i64 n26) ∧ w.cell? ((a21.add 0).add 5) = some (.int .i64 n27) ∧ w.cell? ((a21.add 0).add 6) = some (.int .i64 n28) ∧ w.cell? ((a21.add 0).add 7) = some (.int .i64 n29) ∧ w.cell? ((a21.add 0).add 8) = some (.int .i64 n30)) ∧ Call P 95 [.agg #[.slice s22.a s22.n s22.c, .slice s23.a s23.n s23.c, .slice s24.a s24.n s24.c, .int .i64 n25, .int .i64 n26, .int .i64 n27, .int .i64 n28, .int .i64 n29, .int .i64 n30], .slice s69.a s69.n s69.c] [sB] (fun b70 w =>
 (w.cell? (a1.add 0) = some (.int .i64 n31) ∧ w.cell? (a1.add 1) = some (.int .i64 n32) ∧ w.cell? (a1.add 2) = some (.slice s33.a s33.n s33.c) ∧ w.cell? (a1.add 3) = some (.slice s34.a s34.n s34.c)) ∧ If (!b70) (
 WithAddr k fun a71 =>
 Ld (.kc) (a71.add 13) (fun c72 w =>
 Rv c72 (fun v w =>
 K 0 5 w) w) w) (
 WithAddr k fun a73 =>
 Ld (.ks) (a73.add 14) (fun s74 w =>
 Call P 97 [.slice s74.a s74.n s74.c, .func (.func 98) #[] #[]] [sI] (fun n75 w =>
 LdN shTask.cs 0 a1 (fun n76 n77 s78 s79 w =>
 Call P 99 [.pointer k, .agg #[.int .i64 n76, .int .i64 n77, .slice s78.a s78.n s78.c, .slice s79.a s79.n s79.c]] [sI] (fun n80 w =>
 (fun w : World =>
 WithAddr k fun a81 =>
 Ld (.ks) (a81.add 14) (fun s82 w =>
 WithAddr k fun a83 =>
 Ld (.ks) (a83.add 15) (fun s84 w =>
 WithAddr k fun a85 =>
 Ld (.ks) (a85.add 16) (fun s86 w =>
 LdN shTask.cs 0 a1 (fun n87 n88 s89 s90 w =>
 Ld (.ki .i64) (a1.add 1) (fun n91 w =>
 Call P 41 [.agg #[.int .i64 n87, .int .i64 n88, .slice s89.a s89.n s89.c, .slice s90.a s90.n s90.c]] [shTask] (fun n92 n93 s94 s95 w =>
 (w.cell? ((a1.add 1).add 0) = some (.int .i64 n91)) ∧ (w.cell? ((a85.add 16).add 0) = some (.slice s86.a s86.n s86.c)) ∧ (w.cell? ((a83.add 15).add 0) = some (.slice s84.a s84.n s84.c)) ∧ (w.cell? ((a81.add 14).add 0) = some (.slice s82.a s82.n s82.c)) ∧ ((0 : Int) ≤ n75 ∧ n75 < ((s82.n : Nat) : Int)) ∧ WithAddr s82.a fun a96 =>
 StN [.int .i64 n92, .int .i64 n93, .slice s94.a s94.n s94.c, .slice s95.a s95.n s95.c] 0 (a96.add (Int.toNat n75 * 4)) (fun w =>
 (w.cell? ((a1.add 1).add 0) = some (.int .i64 n91)) ∧ ((0 : Int) ≤ n75 ∧ n75 < ((s84.n : Nat) : Int)) ∧ WithAddr s84.a fun a97 =>
 StN [.int .i64 n80] 0 (a97.add (Int.toNat n75 * 1)) (fun w =>
 (w.cell? ((a1.add 1).add 0) = some (.int .i64 n91)) ∧ ((0 : Int) ≤ n75 ∧ n75 < ((s86.n : Nat) : Int)) ∧ WithAddr s86.a fun a98 =>
 StN [.int .i64 n91] 0 (a98.add (Int.toNat n75 * 1)) (fun w =>
 K n75 0 w) w) w) w) w) w) w) w) w) w) w.drew) w) w) w) w)) w) w) w) w)) w) w) w.drew)) w)) w) w)) w) w) w) w.drew) w) : Call P 61 [.pointer k, t.v] [sI, sI] K w :=
  call_of (H := ⟨[], [], [(1, .take 0 (.take 1 (.take 2 (.take 3 (.take 4 (.run 5 (.take 6 .done))))))), (8, .take 0 (.take 1 (.take 2 (.take 3 (.take 4 (.take 6 (.run2 5 (.run 7 (.run 8 (.run 9 (.take 10 .done)))) 7 (.run 5 (.run 8 (.run 9 (.take 10 .done))))))))))), (13, .take 0 (.take 1 (.take 2 (.take 3 (.take 4 (.take 5 (.take 6 (.take 7 (.take 8 (.take 9 (.take 10 (.take 11 (.take 12 (.take 13 (.take 14 (.take 15 (.take 17 (.take 18 (.take 19 (.run 16 (.take 20 (.run 21 (.take 22 (.run 23 (.take 24 (.run 25 .done))))))))))))))))))))))))))], []⟩) Tryz.func61 (by kernel_rfl) (by kernel_rfl) vc

theorem f67_of (k : Option Addr) (x : Step) {K : Int → World → Prop} {w : World} (vc :
 New [.int .i64 x.kind, .int .i64 x.a, .int .i64 x.b, .int .i64 x.c, .int .i64 x.period, .int .i64 x.cycles, .slice x.sec.a x.sec.n x.sec.c, .slice x.devs.a x.devs.n x.devs.c] 39 (fun a1 w =>
 (fun w : World =>
 Ld (.ki .i64) (a1.add 0) (fun n2 w =>
 If (n2 == 9) (
 WithAddr k fun a3 =>
 Ld (.kp) (a3.add 22) (fun p4 w =>
 Ld (.ki .i64) (a1.add 1) (fun n5 w =>
 Call P 109 [.pointer p4, .int .i64 n5] [sB] (fun b6 w =>
 (w.cell? ((a1.add 0).add 0) = some (.int .i64 n2)) ∧ If b6 (
 K 0 w) (
 Ld (.ki .i64) (a1.add 0) (fun n7 w =>
 If (n7 == 9) (
 K 6 w) (
 Ld (.ki .i64) (a1.add 1) (fun n8 w =>
 Call P 102 [.int .i64 n8, .int .i64 0, .int .i64 3] [sB] (fun b9 w =>
 If (!b9) (
 K 1 w) (
 Ld (.ki .i64) (a1.add 2) (fun n10 w =>
 Call P 102 [.int .i64 n10, .int .i64 0, .int .i64 16384] [sB] (fun b11 w =>
 If (!b11) (
 K 1 w) (
 Ld (.ki .i64) (a1.add 3) (fun n12 w =>
 Call P 102 [.int .i64 n12, .int .i64 0, .int .i64 16384] [sB] (fun b13 w =>
 If (!b13) (
 K 1 w) (
 (fun w : World =>
 WithAddr k fun a14 =>
 Ld (.kp) (a14.add 22) (fun p15 w =>
 Ld (.ki .i64) (a1.add 1) (fun n16 w =>
 WithAddr k fun a17 =>
 Ld (.ki .i64) (a17.add 9) (fun n18 w =>
 Ld (.ki .i64) (a1.add 2) (fun n19 w =>
 Ld (.ki .i64) (a1.add 3) (fun n20 w =>
 Call P 110 [.pointer p15, .int .i64 n16, .int .i64 (IntKind.wrap .i64 (n18 + n19)), .int .i64 n20] [] (fun w =>
 (w.cell? ((a1.add 2).add 0) = some (.int .i64 n19)) ∧ (w.cell? ((a17.add 9).add 0) = some (.int .i64 n18)) ∧ K 0 w) w) w) w) w) w) w) w.drew)) w) w)) w) w)) w) w)) w)) w) w) w) (
 Ld (.ki .i64) (a1.add 0) (fun n21 w =>
 If (n21 == 9) (
 K 6 w) (
 Ld (.ki .i64) (a1.add 1) (fun n22 w =>
 Call P 102 [.int .i64 n22, .int .i64 0, .int .i64 3] [sB] (fun b23 w =>
 If (!b23) (
 K 1 w) (
 Ld (.ki .i64) (a1.add 2) (fun n24 w =>
 Call P 102 [.int .i64 n24, .int .i64 0, .int .i64 16384] [sB] (fun b25 w =>
 If (!b25) (
 K 1 w) (
 Ld (.ki .i64) (a1.add 3) (fun n26 w =>
 Call P 102 [.int .i64 n26, .int .i64 0, .int .i64 16384] [sB] (fun b27 w =>
 If (!b27) (
 K 1 w) (
 (fun w : World =>
 WithAddr k fun a28 =>
 Ld (.kp) (a28.add 22) (fun p29 w =>
 Ld (.ki .i64) (a1.add 1) (fun n30 w =>
 WithAddr k fun a31 =>
 Ld (.ki .i64) (a31.add 9) (fun n32 w =>
 Ld (.ki .i64) (a1.add 2) (fun n33 w =>
 Ld (.ki .i64) (a1.add 3) (fun n34 w =>
 Call P 110 [.pointer p29, .int .i64 n30, .int .i64 (IntKind.wrap .i64 (n32 + n33)), .int .i64 n34] [] (fun w =>
 (w.cell? ((a1.add 2).add 0) = some (.int .i64 n33)) ∧ (w.cell? ((a31.add 9).add 0) = some (.int .i64 n32)) ∧ K 0 w) w) w) w) w) w) w) w.drew)) w) w)) w) w)) w) w)) w)) w) w.drew) w) : Call P 67 [.pointer k, x.v] [sI] K w :=
  call_of (H := ⟨[], [], [(1, .take 0 (.take 1 (.take 2 (.take 3 (.take 4 (.take 5 (.take 6 (.take 7 (.take 8 (.take 9 (.run 10 (.take 11 (.take 12 .done))))))))))))), (7, .take 0 (.take 1 (.take 2 (.take 3 (.take 4 (.take 5 (.take 6 (.take 7 (.take 8 (.take 9 (.take 10 (.take 11 (.take 12 (.take 13 (.take 14 (.run 15 .done))))))))))))))))], []⟩) Tryz.func67 (by kernel_rfl) (by kernel_rfl) vc

theorem f73_of (k : Option Addr) {K : World → Prop} {w : World} (vc :
 WithAddr k fun a1 =>
 Ld (.kp) (a1.add 17) (fun p2 w =>
 Call P 40 [.pointer p2] [sS] (fun s3 w =>
 WithAddr k fun a4 =>
 Ld (.ks) (a4.add 23) (fun s5 w =>
 ∃ (I7 : Int → World → Prop) (M8 : Int → World → Nat), I7 0 w ∧ ∀ (n6 : Int) (v9 : World), I7 n6 v9 → ∀ _ : Nat → Value,
 (fun w : World =>
 If (decide (n6 < ((s5.n : Nat) : Int))) (
 ((0 : Int) ≤ n6 ∧ n6 < ((s5.n : Nat) : Int)) ∧ WithAddr s5.a fun a10 =>
 LdN shItem.cs 0 (a10.add (Int.toNat n6 * 2)) (fun n11 n12 w =>
 New [.int .i64 0, .int .i64 0] 97 (fun a13 w =>
 StN [.int .i64 n11, .int .i64 n12] 0 a13 (fun w =>
 WithAddr k fun a14 =>
 Ld (.ks) ((a14.add 0).add 2) (fun s15 w =>
 ((0 : Int) ≤ n6 ∧ n6 < ((s15.n : Nat) : Int)) ∧ WithAddr s15.a fun a16 =>
 LdN shDevice.cs 0 (a16.add (Int.toNat n6 * 7)) (fun n17 n18 n19 n20 n21 n22 n23 w =>
 New [.int .i64 0, .int .i64 0, .int .i64 0, .int .i64 0, .int .i64 0, .int .i64 0, .int .i64 0] 58 (fun a24 w =>
 StN [.int .i64 n17, .int .i64 n18, .int .i64 n19, .int .i64 n20, .int .i64 n21, .int .i64 n22, .int .i64 n23] 0 a24 (fun w =>
 (fun w : World =>
 LdN shDevice.cs 0 a24 (fun n25 n26 n27 n28 n29 n30 n31 w =>
 LdN shItem.cs 0 a13 (fun n32 n33 w =>
 WithAddr k fun a34 =>
 Ld (.ki .i64) (a34.add 9) (fun n35 w =>
 WithAddr k fun a36 =>
 Ld (.ks) (a36.add 14) (fun s37 w =>
 WithAddr k fun a38 =>
 Ld (.ks) (a38.add 15) (fun s39 w =>
 WithAddr k fun a40 =>
 Ld (.ki .i64) (a40.add 9) (fun n41 w =>
 (
 Call P 116 [.slice s37.a s37.n s37.c, .slice s39.a s39.n s39.c, .slice s3.a s3.n s3.c, .int .i64 n6, .int .i64 n41] [sI] (fun n42 w =>
 (w.cell? ((a34.add 9).add 0) = some (.int .i64 n35)) ∧ (w.cell? (a13.add 0) = some (.int .i64 n32) ∧ w.cell? (a13.add 1) = some (.int .i64 n33)) ∧ (w.cell? (a24.add 0) = some (.int .i64 n25) ∧ w.cell? (a24.add 1) = some (.int .i64 n26) ∧ w.cell? (a24.add 2) = some (.int .i64 n27) ∧ w.cell? (a24.add 3) = some (.int .i64 n28) ∧ w.cell? (a24.add 4) = some (.int .i64 n29) ∧ w.cell? (a24.add 5) = some (.int .i64 n30) ∧ w.cell? (a24.add 6) = some (.int .i64 n31)) ∧ (
 Call P 115 [.agg #[.int .i64 n25, .int .i64 n26, .int .i64 n27, .int .i64 n28, .int .i64 n29, .int .i64 n30, .int .i64 n31], .agg #[.int .i64 n32, .int .i64 n33], .int .i64 n35, .int .i64 n42] [shAway, sB] (fun n43 n44 b45 w =>
 (w.cell? ((a40.add 9).add 0) = some (.int .i64 n41)) ∧ (w.cell? ((a38.add 15).add 0) = some (.slice s39.a s39.n s39.c)) ∧ (w.cell? ((a36.add 14).add 0) = some (.slice s37.a s37.n s37.c)) ∧ New [.int .i64 0, .int .i64 0] 97 (fun a46 w =>
 (w.cell? ((a40.add 9).add 0) = some (.int .i64 n41)) ∧ (w.cell? ((a38.add 15).add 0) = some (.slice s39.a s39.n s39.c)) ∧ (w.cell? ((a36.add 14).add 0) = some (.slice s37.a s37.n s37.c)) ∧ (w.cell? ((a34.add 9).add 0) = some (.int .i64 n35)) ∧ (w.cell? (a13.add 0) = some (.int .i64 n32) ∧ w.cell? (a13.add 1) = some (.int .i64 n33)) ∧ (w.cell? (a24.add 0) = some (.int .i64 n25) ∧ w.cell? (a24.add 1) = some (.int .i64 n26) ∧ w.cell? (a24.add 2) = some (.int .i64 n27) ∧ w.cell? (a24.add 3) = some (.int .i64 n28) ∧ w.cell? (a24.add 4) = some (.int .i64 n29) ∧ w.cell? (a24.add 5) = some (.int .i64 n30) ∧ w.cell? (a24.add 6) = some (.int .i64 n31)) ∧ StN [.int .i64 n43, .int .i64 n44] 0 a46 (fun w =>
 If (!b45) (
 I7 (IntKind.wrap .i64 (n6 + 1)) w ∧ M8 (IntKind.wrap .i64 (n6 + 1)) w < M8 n6 v9) (
 (fun w : World =>
 WithAddr k fun a47 =>
 Ld (.ks) (a47.add 24) (fun s48 w =>
 ((0 : Int) ≤ n6 ∧ n6 < ((s48.n : Nat) : Int)) ∧ WithAddr s48.a fun a49 =>
 Ld (.ki .i64) (a49.add (Int.toNat n6 * 1)) (fun n50 w =>
 LdN shDevice.cs 0 a24 (fun n51 n52 n53 n54 n55 n56 n57 w =>
 LdN shItem.cs 0 a13 (fun n58 n59 w =>
 WithAddr k fun a60 =>
 Ld (.ki .i64) (a60.add 9) (fun n61 w =>
 Call P 44 [.agg #[.int .i64 n51, .int .i64 n52, .int .i64 n53, .int .i64 n54, .int .i64 n55, .int .i64 n56, .int .i64 n57], .agg #[.int .i64 n58, .int .i64 n59], .int .i64 n61] [sI] (fun n62 w =>
 (w.cell? ((a49.add (Int.toNat n6 * 1)).add 0) = some (.int .i64 n50)) ∧ (w.cell? ((a47.add 24).add 0) = some (.slice s48.a s48.n s48.c)) ∧ ((0 : Int) ≤ n6 ∧ n6 < ((s48.n : Nat) : Int)) ∧ WithAddr s48.a fun a63 =>
 StN [.int .i64 (IntKind.wrap .i64 (n50 + n62))] 0 (a63.add (Int.toNat n6 * 1)) (fun w =>
 (fun w : World =>
 WithAddr k fun a64 =>
 Ld (.ks) (a64.add 23) (fun s65 w =>
 LdN shItem.cs 0 a46 (fun n66 n67 w =>
 ((0 : Int) ≤ n6 ∧ n6 < ((s65.n : Nat) : Int)) ∧ WithAddr s65.a fun a68 =>
 StN [.int .i64 n66, .int .i64 n67] 0 (a68.add (Int.toNat n6 * 2)) (fun w =>
 I7 (IntKind.wrap .i64 (n6 + 1)) w ∧ M8 (IntKind.wrap .i64 (n6 + 1)) w < M8 n6 v9) w) w) w) w.drew) w) w) w) w) w) w) w) w.drew)) w) w) w) ∧ (
 New [.int .i64 0, .int .i64 0] 97 (fun a69 w =>
 (w.cell? ((a40.add 9).add 0) = some (.int .i64 n41)) ∧ (w.cell? ((a38.add 15).add 0) = some (.slice s39.a s39.n s39.c)) ∧ (w.cell? ((a36.add 14).add 0) = some (.slice s37.a s37.n s37.c)) ∧ (w.cell? ((a34.add 9).add 0) = some (.int .i64 n35)) ∧ (w.cell? (a13.add 0) = some (.int .i64 n32) ∧ w.cell? (a13.add 1) = some (.int .i64 n33)) ∧ (w.cell? (a24.add 0) = some (.int .i64 n25) ∧ w.cell? (a24.add 1) = some (.int .i64 n26) ∧ w.cell? (a24.add 2) = some (.int .i64 n27) ∧ w.cell? (a24.add 3) = some (.int .i64 n28) ∧ w.cell? (a24.add 4) = some (.int .i64 n29) ∧ w.cell? (a24.add 5) = some (.int .i64 n30) ∧ w.cell? (a24.add 6) = some (.int .i64 n31)) ∧ Call P 115 [.agg #[.int .i64 n25, .int .i64 n26, .int .i64 n27, .int .i64 n28, .int .i64 n29, .int .i64 n30, .int .i64 n31], .agg #[.int .i64 n32, .int .i64 n33], .int .i64 n35, .int .i64 n42] [shAway, sB] (fun n70 n71 b72 w =>
 (w.cell? ((a40.add 9).add 0) = some (.int .i64 n41)) ∧ (w.cell? ((a38.add 15).add 0) = some (.slice s39.a s39.n s39.c)) ∧ (w.cell? ((a36.add 14).add 0) = some (.slice s37.a s37.n s37.c)) ∧ StN [.int .i64 n70, .int .i64 n71] 0 a69 (fun w =>
 If (!b72) (
 I7 (IntKind.wrap .i64 (n6 + 1)) w ∧ M8 (IntKind.wrap .i64 (n6 + 1)) w < M8 n6 v9) (
 (fun w : World =>
 WithAddr k fun a73 =>
 Ld (.ks) (a73.add 24) (fun s74 w =>
 ((0 : Int) ≤ n6 ∧ n6 < ((s74.n : Nat) : Int)) ∧ WithAddr s74.a fun a75 =>
 Ld (.ki .i64) (a75.add (Int.toNat n6 * 1)) (fun n76 w =>
 LdN shDevice.cs 0 a24 (fun n77 n78 n79 n80 n81 n82 n83 w =>
 LdN shItem.cs 0 a13 (fun n84 n85 w =>
 WithAddr k fun a86 =>
 Ld (.ki .i64) (a86.add 9) (fun n87 w =>
 Call P 44 [.agg #[.int .i64 n77, .int .i64 n78, .int .i64 n79, .int .i64 n80, .int .i64 n81, .int .i64 n82, .int .i64 n83], .agg #[.int .i64 n84, .int .i64 n85], .int .i64 n87] [sI] (fun n88 w =>
 (w.cell? ((a75.add (Int.toNat n6 * 1)).add 0) = some (.int .i64 n76)) ∧ (w.cell? ((a73.add 24).add 0) = some (.slice s74.a s74.n s74.c)) ∧ ((0 : Int) ≤ n6 ∧ n6 < ((s74.n : Nat) : Int)) ∧ WithAddr s74.a fun a89 =>
 StN [.int .i64 (IntKind.wrap .i64 (n76 + n88))] 0 (a89.add (Int.toNat n6 * 1)) (fun w =>
 (fun w : World =>
 WithAddr k fun a90 =>
 Ld (.ks) (a90.add 23) (fun s91 w =>
 LdN shItem.cs 0 a69 (fun n92 n93 w =>
 ((0 : Int) ≤ n6 ∧ n6 < ((s91.n : Nat) : Int)) ∧ WithAddr s91.a fun a94 =>
 StN [.int .i64 n92, .int .i64 n93] 0 (a94.add (Int.toNat n6 * 2)) (fun w =>
 I7 (IntKind.wrap .i64 (n6 + 1)) w ∧ M8 (IntKind.wrap .i64 (n6 + 1)) w < M8 n6 v9) w) w) w) w.drew) w) w) w) w) w) w) w) w.drew)) w) w) w)) w) ∧ (
 New [.int .i64 0, .int .i64 0] 97 (fun a95 w =>
 (w.cell? ((a40.add 9).add 0) = some (.int .i64 n41)) ∧ (w.cell? ((a38.add 15).add 0) = some (.slice s39.a s39.n s39.c)) ∧ (w.cell? ((a36.add 14).add 0) = some (.slice s37.a s37.n s37.c)) ∧ (w.cell? ((a34.add 9).add 0) = some (.int .i64 n35)) ∧ (w.cell? (a13.add 0) = some (.int .i64 n32) ∧ w.cell? (a13.add 1) = some (.int .i64 n33)) ∧ (w.cell? (a24.add 0) = some (.int .i64 n25) ∧ w.cell? (a24.add 1) = some (.int .i64 n26) ∧ w.cell? (a24.add 2) = some (.int .i64 n27) ∧ w.cell? (a24.add 3) = some (.int .i64 n28) ∧ w.cell? (a24.add 4) = some (.int .i64 n29) ∧ w.cell? (a24.add 5) = some (.int .i64 n30) ∧ w.cell? (a24.add 6) = some (.int .i64 n31)) ∧ Call P 116 [.slice s37.a s37.n s37.c, .slice s39.a s39.n s39.c, .slice s3.a s3.n s3.c, .int .i64 n6, .int .i64 n41] [sI] (fun n96 w =>
 (w.cell? ((a34.add 9).add 0) = some (.int .i64 n35)) ∧ (w.cell? (a13.add 0) = some (.int .i64 n32) ∧ w.cell? (a13.add 1) = some (.int .i64 n33)) ∧ (w.cell? (a24.add 0) = some (.int .i64 n25) ∧ w.cell? (a24.add 1) = some (.int .i64 n26) ∧ w.cell? (a24.add 2) = some (.int .i64 n27) ∧ w.cell? (a24.add 3) = some (.int .i64 n28) ∧ w.cell? (a24.add 4) = some (.int .i64 n29) ∧ w.cell? (a24.add 5) = some (.int .i64 n30) ∧ w.cell? (a24.add 6) = some (.int .i64 n31)) ∧ Call P 115 [.agg #[.int .i64 n25, .int .i64 n26, .int .i64 n27, .int .i64 n28, .int .i64 n29, .int .i64 n30, .int .i64 n31], .agg #[.int .i64 n32, .int .i64 n33], .int .i64 n35, .int .i64 n96] [shAway, sB] (fun n97 n98 b99 w =>
 (w.cell? ((a40.add 9).add 0) = some (.int .i64 n41)) ∧ (w.cell? ((a38.add 15).add 0) = some (.slice s39.a s39.n s39.c)) ∧ (w.cell? ((a36.add 14).add 0) = some (.slice s37.a s37.n s37.c)) ∧ StN [.int .i64 n97, .int .i64 n98] 0 a95 (fun w =>
 If (!b99) (
 I7 (IntKind.wrap .i64 (n6 + 1)) w ∧ M8 (IntKind.wrap .i64 (n6 + 1)) w < M8 n6 v9) (
 (fun w : World =>
 WithAddr k fun a100 =>
 Ld (.ks) (a100.add 24) (fun s101 w =>
 ((0 : Int) ≤ n6 ∧ n6 < ((s101.n : Nat) : Int)) ∧ WithAddr s101.a fun a102 =>
 Ld (.ki .i64) (a102.add (Int.toNat n6 * 1)) (fun n103 w =>
 LdN shDevice.cs 0 a24 (fun n104 n105 n106 n107 n108 n109 n110 w =>
 LdN shItem.cs 0 a13 (fun n111 n112 w =>
 WithAddr k fun a113 =>
 Ld (.ki .i64) (a113.add 9) (fun n114 w =>
 Call P 44 [.agg #[.int .i64 n104, .int .i64 n105, .int .i64 n106, .int .i64 n107, .int .i64 n108, .int .i64 n109, .int .i64 n110], .agg #[.int .i64 n111, .int .i64 n112], .int .i64 n114] [sI] (fun n115 w =>
 (w.cell? ((a102.add (Int.toNat n6 * 1)).add 0) = some (.int .i64 n103)) ∧ (w.cell? ((a100.add 24).add 0) = some (.slice s101.a s101.n s101.c)) ∧ ((0 : Int) ≤ n6 ∧ n6 < ((s101.n : Nat) : Int)) ∧ WithAddr s101.a fun a116 =>
 StN [.int .i64 (IntKind.wrap .i64 (n103 + n115))] 0 (a116.add (Int.toNat n6 * 1)) (fun w =>
 (fun w : World =>
 WithAddr k fun a117 =>
 Ld (.ks) (a117.add 23) (fun s118 w =>
 LdN shItem.cs 0 a95 (fun n119 n120 w =>
 ((0 : Int) ≤ n6 ∧ n6 < ((s118.n : Nat) : Int)) ∧ WithAddr s118.a fun a121 =>
 StN [.int .i64 n119, .int .i64 n120] 0 (a121.add (Int.toNat n6 * 2)) (fun w =>
 I7 (IntKind.wrap .i64 (n6 + 1)) w ∧ M8 (IntKind.wrap .i64 (n6 + 1)) w < M8 n6 v9) w) w) w) w.drew) w) w) w) w) w) w) w) w.drew)) w) w) w) w)) w) w) w) w) w) w) w.drew) w) w) w) w) w) w) w) (
 K w)) v9) w) w) w) : Call P 73 [.pointer k] [] K w :=
  call_of (H := ⟨[(2, [(18, .ki .i64)])], [], [(5, .take 0 (.take 1 (.take 2 (.take 3 (.take 4 (.take 5 (.take 6 (.take 7 (.take 8 (.take 9 (.take 10 (.take 11 (.take 12 (.take 13 (.take 14 (.take 15 (.take 16 (.take 17 (.take 18 (.take 19 (.run2 20 (.run2 21 (.take 22 (.take 23 (.take 24 (.run 25 (.run 26 (.take 27 .done)))))) 25 (.run 21 (.take 22 (.take 23 (.take 24 (.run 26 (.take 27 .done))))))) 25 (.run 20 (.run 21 (.take 22 (.take 23 (.take 24 (.run 26 (.take 27 .done)))))))))))))))))))))))))))), (7, .take 0 (.take 1 (.take 2 (.take 3 (.take 4 (.take 5 (.take 6 (.take 7 (.take 8 (.take 9 (.take 10 (.take 11 (.take 12 (.run 13 (.take 14 (.take 15 (.run 16 .done))))))))))))))))), (8, .take 0 (.take 1 (.take 2 (.take 3 (.take 4 (.take 5 (.take 6 (.run 7 .done))))))))], []⟩) Tryz.func73 (by kernel_rfl) (by kernel_rfl) vc

theorem f86_of (n : Int) {K : Bool → World → Prop} {w : World} (vc :
 Call P 87 [.int .i64 n, .int .i64 0, .int .i64 256] [sB] (fun b1 w =>
 K b1 w) w) : Call P 86 [.int .i64 n] [sB] K w :=
  call_of (H := ⟨[], [], [], []⟩) Tryz.func86 (by kernel_rfl) (by kernel_rfl) vc

theorem f92_of  {K : Option Addr → World → Prop} {w : World} (vc :
 Sm P (Instr.makeMap 146 none) [sM] (fun m1 w =>
 New [.slice none 0 0, .map m1] 174 (fun a2 w =>
 K (some a2) w) w) w) : Call P 92 [] [sP] K w :=
  call_of (H := ⟨[], [], [], []⟩) Tryz.func92 (by kernel_rfl) (by kernel_rfl) vc

theorem f99_of (k : Option Addr) (t : Task) {K : Int → World → Prop} {w : World} (vc :
 New [.int .i64 t.period, .int .i64 t.cycles, .slice t.sec.a t.sec.n t.sec.c, .slice t.devs.a t.devs.n t.devs.c] 37 (fun a1 w =>
 (fun w : World =>
 WithAddr k fun a2 =>
 Ld (.ki .i64) (a2.add 9) (fun n3 w =>
 WithAddr k fun a4 =>
 Ld (.kp) (a4.add 17) (fun p5 w =>
 Call P 130 [.pointer p5] [sI] (fun n6 w =>
 (w.cell? ((a2.add 9).add 0) = some (.int .i64 n3)) ∧ WithAddr k fun a7 =>
 Ld (.kb) (a7.add 25) (fun b8 w =>
 If b8 (
 WithAddr k fun a9 =>
 Ld (.ks) (a9.add 14) (fun s10 w =>
 ∃ (I13 : Int → Int → World → Prop) (M14 : Int → Int → World → Nat), I13 0 0 w ∧ ∀ (n11 : Int) (n12 : Int) (v15 : World), I13 n11 n12 v15 → ∀ _ : Nat → Value,
 (fun w : World =>
 If (decide (n12 < ((s10.n : Nat) : Int))) (
 ((0 : Int) ≤ n12 ∧ n12 < ((s10.n : Nat) : Int)) ∧ WithAddr s10.a fun a16 =>
 LdN shTask.cs 0 (a16.add (Int.toNat n12 * 4)) (fun n17 n18 s19 s20 w =>
 New [.int .i64 0, .int .i64 0, .slice none 0 0, .slice none 0 0] 37 (fun a21 w =>
 StN [.int .i64 n17, .int .i64 n18, .slice s19.a s19.n s19.c, .slice s20.a s20.n s20.c] 0 a21 (fun w =>
 Ld (.ki .i64) (a21.add 0) (fun n22 w =>
 I13 (if n22 > n11 then n22 else n11) (IntKind.wrap .i64 (n12 + 1)) w ∧ M14 (if n22 > n11 then n22 else n11) (IntKind.wrap .i64 (n12 + 1)) w < M14 n11 n12 v15) w) w) w) w) (
 WithAddr k fun a23 =>
 Ld (.ki .i64) (a23.add 27) (fun n24 w =>
 Ld (.ks) (a1.add 3) (fun s25 w =>
 ∃ (I28 : Int → Int → World → Prop) (M29 : Int → Int → World → Nat), I28 (if IntKind.wrap .i64 (n24 + n11) > (if n6 > n3 then n6 else n3) then IntKind.wrap .i64 (n24 + n11) else (if n6 > n3 then n6 else n3)) 0 w ∧ ∀ (n26 : Int) (n27 : Int) (v30 : World), I28 n26 n27 v30 → ∀ _ : Nat → Value,
 (fun w : World =>
 If (decide (n27 < ((s25.n : Nat) : Int))) (
 ((0 : Int) ≤ n27 ∧ n27 < ((s25.n : Nat) : Int)) ∧ WithAddr s25.a fun a31 =>
 Ld (.ki .i64) (a31.add (Int.toNat n27 * 1)) (fun n32 w =>
 (fun w : World =>
 WithAddr k fun a33 =>
 Ld (.ks) (a33.add 23) (fun s34 w =>
 WithAddr k fun a35 =>
 Ld (.ks) ((a35.add 0).add 2) (fun s36 w =>
 ((0 : Int) ≤ n32 ∧ n32 < ((s36.n : Nat) : Int)) ∧ WithAddr s36.a fun a37 =>
 LdN shDevice.cs 0 (a37.add (Int.toNat n32 * 7)) (fun n38 n39 n40 n41 n42 n43 n44 w =>
 WithAddr k fun a45 =>
 Ld (.ks) (a45.add 23) (fun s46 w =>
 ((0 : Int) ≤ n32 ∧ n32 < ((s46.n : Nat) : Int)) ∧ WithAddr s46.a fun a47 =>
 LdN shItem.cs 0 (a47.add (Int.toNat n32 * 2)) (fun n48 n49 w =>
 WithAddr k fun a50 =>
 Ld (.ki .i64) (a50.add 9) (fun n51 w =>
 Call P 131 [.agg #[.int .i64 n38, .int .i64 n39, .int .i64 n40, .int .i64 n41, .int .i64 n42, .int .i64 n43, .int .i64 n44], .agg #[.int .i64 n48, .int .i64 n49], .int .i64 n51] [shAway] (fun n52 n53 w =>
 (w.cell? ((a45.add 23).add 0) = some (.slice s46.a s46.n s46.c)) ∧ (w.cell? (((a35.add 0).add 2).add 0) = some (.slice s36.a s36.n s36.c)) ∧ (w.cell? ((a33.add 23).add 0) = some (.slice s34.a s34.n s34.c)) ∧ ((0 : Int) ≤ n32 ∧ n32 < ((s34.n : Nat) : Int)) ∧ WithAddr s34.a fun a54 =>
 StN [.int .i64 n52, .int .i64 n53] 0 (a54.add (Int.toNat n32 * 2)) (fun w =>
 (fun w : World =>
 WithAddr k fun a55 =>
 Ld (.ks) ((a55.add 0).add 2) (fun s56 w =>
 ((0 : Int) ≤ n32 ∧ n32 < ((s56.n : Nat) : Int)) ∧ WithAddr s56.a fun a57 =>
 LdN shDevice.cs 0 (a57.add (Int.toNat n32 * 7)) (fun n58 n59 n60 n61 n62 n63 n64 w =>
 WithAddr k fun a65 =>
 Ld (.ks) (a65.add 23) (fun s66 w =>
 ((0 : Int) ≤ n32 ∧ n32 < ((s66.n : Nat) : Int)) ∧ WithAddr s66.a fun a67 =>
 LdN shItem.cs 0 (a67.add (Int.toNat n32 * 2)) (fun n68 n69 w =>
 WithAddr k fun a70 =>
 Ld (.ki .i64) (a70.add 9) (fun n71 w =>
 Call P 132 [.agg #[.int .i64 n58, .int .i64 n59, .int .i64 n60, .int .i64 n61, .int .i64 n62, .int .i64 n63, .int .i64 n64], .agg #[.int .i64 n68, .int .i64 n69], .int .i64 n71] [sI] (fun n72 w =>
 (w.cell? ((a65.add 23).add 0) = some (.slice s66.a s66.n s66.c)) ∧ (w.cell? (((a55.add 0).add 2).add 0) = some (.slice s56.a s56.n s56.c)) ∧ If (n72 != 1) (
 WithAddr k fun a73 =>
 Ld (.ks) (a73.add 23) (fun s74 w =>
 ((0 : Int) ≤ n32 ∧ n32 < ((s74.n : Nat) : Int)) ∧ WithAddr s74.a fun a75 =>
 Ld (.ki .i64) ((a75.add (Int.toNat n32 * 2)).add 1) (fun n76 w =>
 I28 (if n76 > n26 then n76 else n26) (IntKind.wrap .i64 (n27 + 1)) w ∧ M29 (if n76 > n26 then n76 else n26) (IntKind.wrap .i64 (n27 + 1)) w < M29 n26 n27 v30) w) w) (
 I28 n26 (IntKind.wrap .i64 (n27 + 1)) w ∧ M29 n26 (IntKind.wrap .i64 (n27 + 1)) w < M29 n26 n27 v30)) w) w) w) w) w) w) w.drew) w) w) w) w) w) w) w) w) w.drew) w) (
 K n26 w)) v30) w) w)) v15) w) (
 Ld (.ks) (a1.add 3) (fun s77 w =>
 ∃ (I80 : Int → Int → World → Prop) (M81 : Int → Int → World → Nat), I80 (if n6 > n3 then n6 else n3) 0 w ∧ ∀ (n78 : Int) (n79 : Int) (v82 : World), I80 n78 n79 v82 → ∀ _ : Nat → Value,
 (fun w : World =>
 If (decide (n79 < ((s77.n : Nat) : Int))) (
 ((0 : Int) ≤ n79 ∧ n79 < ((s77.n : Nat) : Int)) ∧ WithAddr s77.a fun a83 =>
 Ld (.ki .i64) (a83.add (Int.toNat n79 * 1)) (fun n84 w =>
 (fun w : World =>
 WithAddr k fun a85 =>
 Ld (.ks) (a85.add 23) (fun s86 w =>
 WithAddr k fun a87 =>
 Ld (.ks) ((a87.add 0).add 2) (fun s88 w =>
 ((0 : Int) ≤ n84 ∧ n84 < ((s88.n : Nat) : Int)) ∧ WithAddr s88.a fun a89 =>
 LdN shDevice.cs 0 (a89.add (Int.toNat n84 * 7)) (fun n90 n91 n92 n93 n94 n95 n96 w =>
 WithAddr k fun a97 =>
 Ld (.ks) (a97.add 23) (fun s98 w =>
 ((0 : Int) ≤ n84 ∧ n84 < ((s98.n : Nat) : Int)) ∧ WithAddr s98.a fun a99 =>
 LdN shItem.cs 0 (a99.add (Int.toNat n84 * 2)) (fun n100 n101 w =>
 WithAddr k fun a102 =>
 Ld (.ki .i64) (a102.add 9) (fun n103 w =>
 Call P 131 [.agg #[.int .i64 n90, .int .i64 n91, .int .i64 n92, .int .i64 n93, .int .i64 n94, .int .i64 n95, .int .i64 n96], .agg #[.int .i64 n100, .int .i64 n101], .int .i64 n103] [shAway] (fun n104 n105 w =>
 (w.cell? ((a97.add 23).add 0) = some (.slice s98.a s98.n s98.c)) ∧ (w.cell? (((a87.add 0).add 2).add 0) = some (.slice s88.a s88.n s88.c)) ∧ (w.cell? ((a85.add 23).add 0) = some (.slice s86.a s86.n s86.c)) ∧ ((0 : Int) ≤ n84 ∧ n84 < ((s86.n : Nat) : Int)) ∧ WithAddr s86.a fun a106 =>
 StN [.int .i64 n104, .int .i64 n105] 0 (a106.add (Int.toNat n84 * 2)) (fun w =>
 (fun w : World =>
 WithAddr k fun a107 =>
 Ld (.ks) ((a107.add 0).add 2) (fun s108 w =>
 ((0 : Int) ≤ n84 ∧ n84 < ((s108.n : Nat) : Int)) ∧ WithAddr s108.a fun a109 =>
 LdN shDevice.cs 0 (a109.add (Int.toNat n84 * 7)) (fun n110 n111 n112 n113 n114 n115 n116 w =>
 WithAddr k fun a117 =>
 Ld (.ks) (a117.add 23) (fun s118 w =>
 ((0 : Int) ≤ n84 ∧ n84 < ((s118.n : Nat) : Int)) ∧ WithAddr s118.a fun a119 =>
 LdN shItem.cs 0 (a119.add (Int.toNat n84 * 2)) (fun n120 n121 w =>
 WithAddr k fun a122 =>
 Ld (.ki .i64) (a122.add 9) (fun n123 w =>
 Call P 132 [.agg #[.int .i64 n110, .int .i64 n111, .int .i64 n112, .int .i64 n113, .int .i64 n114, .int .i64 n115, .int .i64 n116], .agg #[.int .i64 n120, .int .i64 n121], .int .i64 n123] [sI] (fun n124 w =>
 (w.cell? ((a117.add 23).add 0) = some (.slice s118.a s118.n s118.c)) ∧ (w.cell? (((a107.add 0).add 2).add 0) = some (.slice s108.a s108.n s108.c)) ∧ If (n124 != 1) (
 WithAddr k fun a125 =>
 Ld (.ks) (a125.add 23) (fun s126 w =>
 ((0 : Int) ≤ n84 ∧ n84 < ((s126.n : Nat) : Int)) ∧ WithAddr s126.a fun a127 =>
 Ld (.ki .i64) ((a127.add (Int.toNat n84 * 2)).add 1) (fun n128 w =>
 I80 (if n128 > n78 then n128 else n78) (IntKind.wrap .i64 (n79 + 1)) w ∧ M81 (if n128 > n78 then n128 else n78) (IntKind.wrap .i64 (n79 + 1)) w < M81 n78 n79 v82) w) w) (
 I80 n78 (IntKind.wrap .i64 (n79 + 1)) w ∧ M81 n78 (IntKind.wrap .i64 (n79 + 1)) w < M81 n78 n79 v82)) w) w) w) w) w) w) w.drew) w) w) w) w) w) w) w) w) w.drew) w) (
 K n78 w)) v82) w)) w) w) w) w) w.drew) w) : Call P 99 [.pointer k, t.v] [sI] K w :=
  call_of (H := ⟨[(5, [(6, .ki .i64), (30, .ki .i64)]), (11, [(5, .ki .i64), (50, .ki .i64)])], [], [(1, .take 0 (.take 1 (.take 2 (.take 3 (.take 4 (.take 5 (.take 6 (.take 7 (.run 8 (.take 9 (.take 10 .done))))))))))), (13, .take 0 (.take 1 (.take 2 (.take 3 (.take 4 (.take 5 (.take 6 (.take 7 (.take 8 (.take 9 (.take 10 (.take 11 (.take 12 (.take 13 (.take 14 (.take 15 (.take 16 (.take 17 (.take 18 (.take 19 (.take 20 (.take 21 (.take 22 (.take 23 (.run 24 (.take 25 (.run 26 .done))))))))))))))))))))))))))), (14, .take 0 (.take 1 (.take 2 (.take 3 (.take 4 (.take 5 (.take 6 (.take 7 (.take 8 (.take 9 (.take 10 (.take 11 (.take 12 (.take 13 (.take 14 (.take 15 (.take 16 (.take 17 (.take 18 (.run 19 (.take 20 .done)))))))))))))))))))))], []⟩) Tryz.func99 (by kernel_rfl) (by kernel_rfl) vc

theorem f105_of (k : Option Addr) {K : Int → Bool → World → Prop} {w : World} (vc :
 (fun w : World =>
 WithAddr k fun a1 =>
 Ld (.ks) (a1.add 14) (fun s2 w =>
 WithAddr k fun a3 =>
 Ld (.kp) (a3.add 17) (fun p4 w =>
 WithAddr k fun a5 =>
 Ld (.ks) (a5.add 18) (fun s6 w =>
 WithAddr k fun a7 =>
 Ld (.kp) (a7.add 20) (fun p8 w =>
 WithAddr k fun a9 =>
 Ld (.ks) (a9.add 14) (fun s10 w =>
 Call P 40 [.pointer p4] [sS] (fun s11 w =>
 (w.cell? ((a9.add 14).add 0) = some (.slice s10.a s10.n s10.c)) ∧ (w.cell? ((a7.add 20).add 0) = some (.pointer p8)) ∧ (w.cell? ((a5.add 18).add 0) = some (.slice s6.a s6.n s6.c)) ∧ (w.cell? ((a1.add 14).add 0) = some (.slice s2.a s2.n s2.c)) ∧ Call P 138 [.pointer p8, .slice s10.a s10.n s10.c] [sI] (fun n12 w =>
 (w.cell? ((a5.add 18).add 0) = some (.slice s6.a s6.n s6.c)) ∧ (w.cell? ((a3.add 17).add 0) = some (.pointer p4)) ∧ (w.cell? ((a1.add 14).add 0) = some (.slice s2.a s2.n s2.c)) ∧ Call P 137 [.slice s2.a s2.n s2.c, .slice s11.a s11.n s11.c, .slice s6.a s6.n s6.c, .int .i64 n12] [sI, sB] (fun n13 b14 w =>
 (w.cell? ((a9.add 14).add 0) = some (.slice s10.a s10.n s10.c)) ∧ (w.cell? ((a7.add 20).add 0) = some (.pointer p8)) ∧ (w.cell? ((a3.add 17).add 0) = some (.pointer p4)) ∧ K n13 b14 w) w) w) w) w) w) w) w) w) w.drew) : Call P 105 [.pointer k] [sI, sB] K w :=
  call_of (H := ⟨[], [], [(1, .take 0 (.take 1 (.take 2 (.take 3 (.take 4 (.take 5 (.take 6 (.take 7 (.take 9 (.take 10 (.take 11 (.take 12 (.take 13 (.take 14 (.take 15 (.take 16 (.take 17 (.take 18 (.take 19 (.take 20 (.run 8 (.run 21 (.run 22 (.take 23 (.take 24 (.take 25 (.take 26 .done)))))))))))))))))))))))))))], []⟩) Tryz.func105 (by kernel_rfl) (by kernel_rfl) vc

theorem f111_of (h : Option Addr) {K : Int → Int → Bool → World → Prop} {w : World} (vc :
 Call P 143 [.pointer h] [sI] (fun n1 w =>
 If (n1 == 0) (
 K 0 0 false w) (
 (fun w : World =>
 WithAddr h fun a2 =>
 Ld (.ks) (a2.add 0) (fun s3 w =>
 ((0 : Int) ≤ 0 ∧ 0 < ((s3.n : Nat) : Int)) ∧ WithAddr s3.a fun a4 =>
 Ld (.ki .i64) ((a4.add (Int.toNat 0 * 2)).add 1) (fun n5 w =>
 WithAddr h fun a6 =>
 Ld (.ks) (a6.add 0) (fun s7 w =>
 ((0 : Int) ≤ 0 ∧ 0 < ((s7.n : Nat) : Int)) ∧ WithAddr s7.a fun a8 =>
 Ld (.ki .i64) ((a8.add (Int.toNat 0 * 2)).add 0) (fun n9 w =>
 K n5 n9 true w) w) w) w) w) w.drew)) w) : Call P 111 [.pointer h] [sI, sI, sB] K w :=
  call_of (H := ⟨[], [], [(3, .take 0 (.take 1 (.take 2 (.take 3 (.take 4 (.take 5 (.take 6 (.take 7 (.take 8 (.take 9 (.take 10 (.take 11 (.take 12 (.take 13 (.take 14 (.take 15 (.take 16 .done)))))))))))))))))], []⟩) Tryz.func111 (by kernel_rfl) (by kernel_rfl) vc

theorem f119_of (vals : Sl) {K : Int → World → Prop} {w : World} (vc :
 ∃ (I2 : Int → World → Prop) (M3 : Int → World → Nat), I2 0 w ∧ ∀ (n1 : Int) (v4 : World), I2 n1 v4 → ∀ _ : Nat → Value,
 (fun w : World =>
 If (decide (n1 < ((vals.n : Nat) : Int))) (
 ((0 : Int) ≤ n1 ∧ n1 < ((vals.n : Nat) : Int)) ∧ WithAddr vals.a fun a5 =>
 Ld (.ki .i64) (a5.add (Int.toNat n1 * 1)) (fun n6 w =>
 If (n6 != 0) (
 K n6 w) (
 I2 (IntKind.wrap .i64 (n1 + 1)) w ∧ M3 (IntKind.wrap .i64 (n1 + 1)) w < M3 n1 v4)) w) (
 K 0 w)) v4) : Call P 119 [.slice vals.a vals.n vals.c] [sI] K w :=
  call_of (H := ⟨[(3, [(8, .ki .i64)])], [], [], []⟩) Tryz.func119 (by kernel_rfl) (by kernel_rfl) vc

theorem f126_of (p : Plat) (tasks : Sl) (level : Int) {K : Int → World → Prop} {w : World} (vc :
 New [.slice p.levels.a p.levels.n p.levels.c, .slice p.sleeps.a p.sleeps.n p.sleeps.c, .slice p.devices.a p.devices.n p.devices.c, .int .i64 p.idle, .int .i64 p.crit, .int .i64 p.switch, .int .i64 p.switchE, .int .i64 p.sems, .int .i64 p.horizon] 26 (fun a1 w =>
 LdN shPlat.cs 0 a1 (fun s2 s3 s4 n5 n6 n7 n8 n9 n10 w =>
 Call P 160 [.agg #[.slice s2.a s2.n s2.c, .slice s3.a s3.n s3.c, .slice s4.a s4.n s4.c, .int .i64 n5, .int .i64 n6, .int .i64 n7, .int .i64 n8, .int .i64 n9, .int .i64 n10], .slice tasks.a tasks.n tasks.c] [sI] (fun n11 w =>
 ∃ (I14 : Int → Int → World → Prop) (M15 : Int → Int → World → Nat), I14 n11 0 w ∧ ∀ (n12 : Int) (n13 : Int) (v16 : World), I14 n12 n13 v16 → ∀ _ : Nat → Value,
 (fun w : World =>
 If (decide (n13 < ((tasks.n : Nat) : Int))) (
 ((0 : Int) ≤ n13 ∧ n13 < ((tasks.n : Nat) : Int)) ∧ WithAddr tasks.a fun a17 =>
 LdN shTask.cs 0 (a17.add (Int.toNat n13 * 4)) (fun n18 n19 s20 s21 w =>
 New [.int .i64 0, .int .i64 0, .slice none 0 0, .slice none 0 0] 37 (fun a22 w =>
 StN [.int .i64 n18, .int .i64 n19, .slice s20.a s20.n s20.c, .slice s21.a s21.n s21.c] 0 a22 (fun w =>
 LdN shPlat.cs 0 a1 (fun s23 s24 s25 n26 n27 n28 n29 n30 n31 w =>
 LdN shTask.cs 0 a22 (fun n32 n33 s34 s35 w =>
 Call P 161 [.agg #[.slice s23.a s23.n s23.c, .slice s24.a s24.n s24.c, .slice s25.a s25.n s25.c, .int .i64 n26, .int .i64 n27, .int .i64 n28, .int .i64 n29, .int .i64 n30, .int .i64 n31], .agg #[.int .i64 n32, .int .i64 n33, .slice s34.a s34.n s34.c, .slice s35.a s35.n s35.c], .int .i64 level] [sI] (fun n36 w =>
 I14 (IntKind.wrap .i64 (n12 + n36)) (IntKind.wrap .i64 (n13 + 1)) w ∧ M15 (IntKind.wrap .i64 (n12 + n36)) (IntKind.wrap .i64 (n13 + 1)) w < M15 n12 n13 v16) w) w) w) w) w) w) (
 K n12 w)) v16) w) w) w) : Call P 126 [p.v, .slice tasks.a tasks.n tasks.c, .int .i64 level] [sI] K w :=
  call_of (H := ⟨[(3, [(7, .ki .i64), (15, .ki .i64)])], [], [], []⟩) Tryz.func126 (by kernel_rfl) (by kernel_rfl) vc

theorem f133_of (h : Option Addr) (id : Int) {K : Int → Bool → World → Prop} {w : World} (vc :
 If (Option.isNone h) (
 K 0 false w) (
 WithAddr h fun a1 =>
 Ld (.km) (a1.add 1) (fun m2 w =>
 Sm P (Instr.lookup 146 (.map m2) (.int .i64 id) true) [sI, sB] (fun n3 b4 w =>
 If (!b4) (
 K 0 false w) (
 WithAddr h fun a5 =>
 Ld (.ks) (a5.add 0) (fun s6 w =>
 ((0 : Int) ≤ n3 ∧ n3 < ((s6.n : Nat) : Int)) ∧ WithAddr s6.a fun a7 =>
 Ld (.ki .i64) ((a7.add (Int.toNat n3 * 2)).add 0) (fun n8 w =>
 K n8 true w) w) w)) w) w)) : Call P 133 [.pointer h, .int .i64 id] [sI, sB] K w :=
  call_of (H := ⟨[], [], [], []⟩) Tryz.func133 (by kernel_rfl) (by kernel_rfl) vc

theorem f139_of (s : Sl) (i : Int) (j : Int) {K : Sl → World → Prop} {w : World} (vc :
 Sm P (Instr.sliceAt 71 (.slice s.a s.n s.c) (some (.int .i64 i)) (some (.int .i64 j)) (some (.int .i64 ((s.n : Nat) : Int)))) [sS] (fun s1 w =>
 If (i == j) (
 K s w) (
 (fun w : World =>
 (
 Sm P (Instr.sliceAt 71 (.slice s.a s.n s.c) none (some (.int .i64 i)) none) [sS] (fun s2 w =>
 Sm P (Instr.sliceAt 71 (.slice s.a s.n s.c) (some (.int .i64 j)) none none) [sS] (fun s3 w =>
 Sm P (Builtin.append_ #[71, 71] 71 [.slice s2.a s2.n s2.c, .slice s3.a s3.n s3.c].toArray) [sS] (fun s4 w =>
 Sm P (Instr.sliceAt 71 (.slice s4.a s4.n s4.c) (some (.int .i64 ((s4.n : Nat) : Int))) (some (.int .i64 ((s.n : Nat) : Int))) none) [sS] (fun s5 w =>
 Sm P (Builtin.clear_ #[71] 0 [.slice s5.a s5.n s5.c].toArray) [] (fun w =>
 K s4 w) w) w) w) w) w) ∧ (
 Sm P (Instr.sliceAt 71 (.slice s.a s.n s.c) (some (.int .i64 j)) none none) [sS] (fun s6 w =>
 Sm P (Instr.sliceAt 71 (.slice s.a s.n s.c) none (some (.int .i64 i)) none) [sS] (fun s7 w =>
 Sm P (Builtin.append_ #[71, 71] 71 [.slice s7.a s7.n s7.c, .slice s6.a s6.n s6.c].toArray) [sS] (fun s8 w =>
 Sm P (Instr.sliceAt 71 (.slice s8.a s8.n s8.c) (some (.int .i64 ((s8.n : Nat) : Int))) (some (.int .i64 ((s.n : Nat) : Int))) none) [sS] (fun s9 w =>
 Sm P (Builtin.clear_ #[71] 0 [.slice s9.a s9.n s9.c].toArray) [] (fun w =>
 K s8 w) w) w) w) w) w)) w.drew)) w) : Call P 139 [.slice s.a s.n s.c, .int .i64 i, .int .i64 j] [sS] K w :=
  call_of (H := ⟨[], [], [(5, .take 0 (.take 1 (.take 3 (.take 4 (.run2 2 (.run 5 (.run 6 (.take 7 .done))) 5 (.run 2 (.run 6 (.take 7 .done))))))))], []⟩) Tryz.func139 (by kernel_rfl) (by kernel_rfl) vc

theorem f146_of (t : Task) (d : Int) {K : Bool → World → Prop} {w : World} (vc :
 New [.int .i64 t.period, .int .i64 t.cycles, .slice t.sec.a t.sec.n t.sec.c, .slice t.devs.a t.devs.n t.devs.c] 37 (fun a1 w =>
 Ld (.ks) (a1.add 3) (fun s2 w =>
 Call P 175 [.slice s2.a s2.n s2.c, .int .i64 d] [sB] (fun b3 w =>
 K b3 w) w) w) w) : Call P 146 [t.v, .int .i64 d] [sB] K w :=
  call_of (H := ⟨[], [], [], []⟩) Tryz.func146 (by kernel_rfl) (by kernel_rfl) vc

theorem f164_of (k : Option Addr) (kind : Int) (j : Job) {K : World → Prop} {w : World} (vc :
 New [.int .i64 j.task, .int .i64 j.release, .int .i64 j.deadline, .int .i64 j.left, .int .i64 j.real, .bool j.started] 50 (fun a1 w =>
 (fun w : World =>
 WithAddr k fun a2 =>
 Ld (.kp) (a2.add 17) (fun p3 w =>
 Ld (.ki .i64) (a1.add 0) (fun n4 w =>
 Call P 187 [.pointer p3, .int .i64 n4] [sB] (fun b5 w =>
 WithAddr k fun a6 =>
 Ld (.ks) (a6.add 18) (fun s7 w =>
 Call P 188 [.slice s7.a s7.n s7.c, .func (.func 189) #[] #[.pointer (some a1)]] [sS] (fun s8 w =>
 WithAddr k fun a9 =>
 StN [.slice s8.a s8.n s8.c] 0 (a9.add 18) (fun w =>
 (fun w : World =>
 WithAddr k fun a10 =>
 Ld (.kp) (a10.add 20) (fun p11 w =>
 Ld (.ki .i64) (a1.add 0) (fun n12 w =>
 Call P 190 [.pointer p11, .int .i64 n12] [] (fun w =>
 (fun w : World =>
 WithAddr k fun a13 =>
 Ld (.ks) (a13.add 16) (fun s14 w =>
 Ld (.ki .i64) (a1.add 0) (fun n15 w =>
 WithAddr k fun a16 =>
 Ld (.ks) (a16.add 14) (fun s17 w =>
 Ld (.ki .i64) (a1.add 0) (fun n18 w =>
 ((0 : Int) ≤ n18 ∧ n18 < ((s17.n : Nat) : Int)) ∧ WithAddr s17.a fun a19 =>
 Ld (.ki .i64) ((a19.add (Int.toNat n18 * 4)).add 1) (fun n20 w =>
 Ld (.ki .i64) (a1.add 3) (fun n21 w =>
 ((0 : Int) ≤ n15 ∧ n15 < ((s14.n : Nat) : Int)) ∧ WithAddr s14.a fun a22 =>
 StN [.int .i64 (IntKind.wrap .i64 (n20 - n21))] 0 (a22.add (Int.toNat n15 * 1)) (fun w =>
 WithAddr k fun a23 =>
 StN [.bool true] 0 (a23.add 19) (fun w =>
 (fun w : World =>
 Ld (.ki .i64) (a1.add 0) (fun n24 w =>
 WithAddr k fun a25 =>
 Ld (.ki .i64) (a25.add 9) (fun n26 w =>
 Ld (.ki .i64) (a1.add 2) (fun n27 w =>
 Call P 71 [.pointer k, .int .i64 kind, .int .i64 n24, .int .i64 n26, .int .i64 n27] [] (fun w =>
 K w) w) w) w) w) w.drew) w) w) w) w) w) w) w) w) w.drew) w) w) w) w.drew) w) w) w) w) w) w) w.drew) w) : Call P 164 [.pointer k, .int .i64 kind, j.v] [] K w :=
  call_of (H := ⟨[], [], [(1, .take 0 (.take 1 (.take 2 (.take 3 (.take 4 (.take 5 (.run 6 .done))))))), (3, .take 0 (.take 1 (.take 2 (.take 3 (.take 4 (.take 5 (.run 6 .done))))))), (4, .take 0 (.take 1 (.take 2 (.take 3 (.take 4 (.take 5 (.take 6 (.take 7 (.take 8 (.take 9 (.take 10 (.take 11 (.take 12 (.take 13 (.take 14 (.take 15 (.take 16 (.take 17 (.take 18 (.run 19 .done)))))))))))))))))))), (6, .take 0 (.take 1 (.take 2 (.take 3 (.take 4 (.take 5 (.take 6 (.take 7 (.take 8 (.take 9 (.run 10 .done)))))))))))], []⟩) Tryz.func164 (by kernel_rfl) (by kernel_rfl) vc

theorem f170_of (tasks : Sl) (n : Int) {K : Int → World → Prop} {w : World} (vc :
 If (decide (n < 0)) (
 K 0 w) (
 If (decide (n ≥ ((tasks.n : Nat) : Int))) (
 K 0 w) (
 ((0 : Int) ≤ n ∧ n < ((tasks.n : Nat) : Int)) ∧ WithAddr tasks.a fun a1 =>
 Ld (.ki .i64) ((a1.add (Int.toNat n * 4)).add 0) (fun n2 w =>
 K n2 w) w))) : Call P 170 [.slice tasks.a tasks.n tasks.c, .int .i64 n] [sI] K w :=
  call_of (H := ⟨[], [], [], []⟩) Tryz.func170 (by kernel_rfl) (by kernel_rfl) vc

theorem f182_of (p : Plat) (tasks : Sl) (period : Int) {K : Int → World → Prop} {w : World} (vc :
 New [.slice p.levels.a p.levels.n p.levels.c, .slice p.sleeps.a p.sleeps.n p.sleeps.c, .slice p.devices.a p.devices.n p.devices.c, .int .i64 p.idle, .int .i64 p.crit, .int .i64 p.switch, .int .i64 p.switchE, .int .i64 p.sems, .int .i64 p.horizon] 26 (fun a1 w =>
 Ld (.ks) (a1.add 0) (fun s2 w =>
 Ld (.ki .i64) (a1.add 4) (fun n3 w =>
 ((0 : Int) ≤ n3 ∧ n3 < ((s2.n : Nat) : Int)) ∧ WithAddr s2.a fun a4 =>
 Ld (.ki .i64) ((a4.add (Int.toNat n3 * 2)).add 0) (fun n5 w =>
 (fun w : World =>
 LdN shPlat.cs 0 a1 (fun s6 s7 s8 n9 n10 n11 n12 n13 n14 w =>
 Ld (.ki .i64) (a1.add 5) (fun n15 w =>
 Call P 199 [.agg #[.slice s6.a s6.n s6.c, .slice s7.a s7.n s7.c, .slice s8.a s8.n s8.c, .int .i64 n9, .int .i64 n10, .int .i64 n11, .int .i64 n12, .int .i64 n13, .int .i64 n14], .slice tasks.a tasks.n tasks.c, .int .i64 period] [sI] (fun n16 w =>
 (w.cell? ((a1.add 5).add 0) = some (.int .i64 n15)) ∧ K (IntKind.wrap .i64 ((IntKind.wrap .i64 (n16 * n5)) + (if n15 > n5 then n15 else n5))) w) w) w) w) w.drew) w) w) w) w) : Call P 182 [p.v, .slice tasks.a tasks.n tasks.c, .int .i64 period] [sI] K w :=
  call_of (H := ⟨[], [], [(2, .take 0 (.take 1 (.take 2 (.take 4 (.take 6 (.take 7 (.take 8 (.take 9 (.run 3 (.take 5 (.take 10 (.take 11 .done))))))))))))], []⟩) Tryz.func182 (by kernel_rfl) (by kernel_rfl) vc

theorem f189_of (n : Int) (cap0 : Option Addr) {K : Bool → World → Prop} {w : World} (vc :
 WithAddr cap0 fun a1 =>
 Ld (.ki .i64) (a1.add 0) (fun n2 w =>
 K (n == n2) w) w) : Call P 189 [.int .i64 n, .pointer cap0] [sB] K w :=
  call_of (H := ⟨[], [], [], []⟩) Tryz.func189 (by kernel_rfl) (by kernel_rfl) vc

theorem f195_of (s : Sleep) (stay : Int) {K : Int → World → Prop} {w : World} (vc :
 New [.int .i64 s.power, .int .i64 s.enter, .int .i64 s.exit, .int .i64 s.enterE, .int .i64 s.exitE, .int .i64 s.even] 105 (fun a1 w =>
 Ld (.ki .i64) (a1.add 3) (fun n2 w =>
 Ld (.ki .i64) (a1.add 4) (fun n3 w =>
 Ld (.ki .i64) (a1.add 0) (fun n4 w =>
 Ld (.ki .i64) (a1.add 1) (fun n5 w =>
 Ld (.ki .i64) (a1.add 2) (fun n6 w =>
 K (IntKind.wrap .i64 ((IntKind.wrap .i64 (n2 + n3)) + (IntKind.wrap .i64 (n4 * (if 0 > IntKind.wrap .i64 ((IntKind.wrap .i64 (stay - n5)) - n6) then 0 else IntKind.wrap .i64 ((IntKind.wrap .i64 (stay - n5)) - n6)))))) w) w) w) w) w) w) w) : Call P 195 [s.v, .int .i64 stay] [sI] K w :=
  call_of (H := ⟨[], [], [], []⟩) Tryz.func195 (by kernel_rfl) (by kernel_rfl) vc

theorem f203_of (h : Held) (cap0 : Option Addr) {K : Bool → World → Prop} {w : World} (vc :
 New [.int .i64 h.task, .int .i64 h.sem, .int .i64 h.left] 76 (fun a1 w =>
 Ld (.ki .i64) (a1.add 0) (fun n2 w =>
 WithAddr cap0 fun a3 =>
 Ld (.ki .i64) a3 (fun n4 w =>
 K (n2 == n4) w) w) w) w) : Call P 203 [h.v, .pointer cap0] [sB] K w :=
  call_of (H := ⟨[], [], [], []⟩) Tryz.func203 (by kernel_rfl) (by kernel_rfl) vc

theorem f209_of (p : Plat) (n : Int) {K : Int → Int → World → Prop} {w : World} (vc :
 New [.slice p.levels.a p.levels.n p.levels.c, .slice p.sleeps.a p.sleeps.n p.sleeps.c, .slice p.devices.a p.devices.n p.devices.c, .int .i64 p.idle, .int .i64 p.crit, .int .i64 p.switch, .int .i64 p.switchE, .int .i64 p.sems, .int .i64 p.horizon] 26 (fun a1 w =>
 New [.int .i64 0, .int .i64 0] 93 (fun a2 w =>
 If (decide (n < 0)) (
 StN [.int .i64 0, .int .i64 0] 0 a2 (fun w =>
 LdN shItem.cs 0 a2 (fun n3 n4 w =>
 K n3 n4 w) w) w) (
 Ld (.ks) (a1.add 0) (fun s5 w =>
 If (decide (n ≥ ((s5.n : Nat) : Int))) (
 StN [.int .i64 0, .int .i64 0] 0 a2 (fun w =>
 LdN shItem.cs 0 a2 (fun n6 n7 w =>
 K n6 n7 w) w) w) (
 Ld (.ks) (a1.add 0) (fun s8 w =>
 ((0 : Int) ≤ n ∧ n < ((s8.n : Nat) : Int)) ∧ WithAddr s8.a fun a9 =>
 LdN shItem.cs 0 (a9.add (Int.toNat n * 2)) (fun n10 n11 w =>
 StN [.int .i64 n10, .int .i64 n11] 0 a2 (fun w =>
 LdN shItem.cs 0 a2 (fun n12 n13 w =>
 K n12 n13 w) w) w) w) w)) w)) w) w) : Call P 209 [p.v, .int .i64 n] [shAway] K w :=
  call_of (H := ⟨[], [], [], []⟩) Tryz.func209 (by kernel_rfl) (by kernel_rfl) vc

theorem f215_of (u : Int) (n : Int) {K : Int → World → Prop} {w : World} (vc :
 Call P 198 [.int .i64 u, .int .i64 0, .int .i64 17179869184] [sI] (fun n1 w =>
 Call P 198 [.int .i64 n, .int .i64 0, .int .i64 134217728] [sI] (fun n2 w =>
 K (IntKind.wrap .i64 (n1 * n2)) w) w) w) : Call P 215 [.int .i64 u, .int .i64 n] [sI] K w :=
  call_of (H := ⟨[], [], [], []⟩) Tryz.func215 (by kernel_rfl) (by kernel_rfl) vc

theorem f127_of (s : Sl) {K : Sl → World → Prop} {w : World} (vc :
 Call P 97 [.slice s.a s.n s.c, .func (.func 129) #[] #[]] [sI] (fun n1 w =>
 If (n1 == (-1)) (
 K s w) (
 ∃ (I4 : Int → Int → World → Prop) (M5 : Int → Int → World → Nat), I4 n1 (IntKind.wrap .i64 (n1 + 1)) w ∧ ∀ (n2 : Int) (n3 : Int) (v6 : World), I4 n2 n3 v6 → ∀ _ : Nat → Value,
 (fun w : World =>
 If (decide (n3 < ((s.n : Nat) : Int))) (
 ((0 : Int) ≤ n3 ∧ n3 < ((s.n : Nat) : Int)) ∧ WithAddr s.a fun a7 =>
 LdN shTask.cs 0 (a7.add (Int.toNat n3 * 4)) (fun n8 n9 s10 s11 w =>
 New [.int .i64 0, .int .i64 0, .slice none 0 0, .slice none 0 0] 37 (fun a12 w =>
 StN [.int .i64 n8, .int .i64 n9, .slice s10.a s10.n s10.c, .slice s11.a s11.n s11.c] 0 a12 (fun w =>
 LdN shTask.cs 0 a12 (fun n13 n14 s15 s16 w =>
 Call P 129 [.agg #[.int .i64 n13, .int .i64 n14, .slice s15.a s15.n s15.c, .slice s16.a s16.n s16.c]] [sB] (fun b17 w =>
 If (!b17) (
 LdN shTask.cs 0 a12 (fun n18 n19 s20 s21 w =>
 ((0 : Int) ≤ n2 ∧ n2 < ((s.n : Nat) : Int)) ∧ WithAddr s.a fun a22 =>
 StN [.int .i64 n18, .int .i64 n19, .slice s20.a s20.n s20.c, .slice s21.a s21.n s21.c] 0 (a22.add (Int.toNat n2 * 4)) (fun w =>
 I4 (IntKind.wrap .i64 (n2 + 1)) (IntKind.wrap .i64 (n3 + 1)) w ∧ M5 (IntKind.wrap .i64 (n2 + 1)) (IntKind.wrap .i64 (n3 + 1)) w < M5 n2 n3 v6) w) w) (
 I4 n2 (IntKind.wrap .i64 (n3 + 1)) w ∧ M5 n2 (IntKind.wrap .i64 (n3 + 1)) w < M5 n2 n3 v6)) w) w) w) w) w) (
 Sm P (Instr.sliceAt 54 (.slice s.a s.n s.c) (some (.int .i64 n2)) none none) [sS] (fun s23 w =>
 Sm P (Builtin.clear_ #[54] 0 [.slice s23.a s23.n s23.c].toArray) [] (fun w =>
 Sm P (Instr.sliceAt 54 (.slice s.a s.n s.c) none (some (.int .i64 n2)) none) [sS] (fun s24 w =>
 K s24 w) w) w) w)) v6)) w) : Call P 127 [.slice s.a s.n s.c, .func (.func 129) #[] #[]] [sS] K w :=
  call_of (H := ⟨[(5, [(5, .ki .i64), (6, .ki .i64)])], [], [], []⟩) Tryz.func127 (by kernel_rfl) (by kernel_rfl) vc

theorem f147_of (data : Sl) (a : Int) (b : Int) {K : World → Prop} {w : World} (vc :
 ∃ (I2 : Int → World → Prop) (M3 : Int → World → Nat), I2 (IntKind.wrap .i64 (a + 1)) w ∧ ∀ (n1 : Int) (v4 : World), I2 n1 v4 → ∀ _ : Nat → Value,
 (fun w : World =>
 If (decide (n1 < b)) (
 ∃ (I6 : Int → World → Prop) (M7 : Int → World → Nat), I6 n1 w ∧ ∀ (n5 : Int) (v8 : World), I6 n5 v8 → ∀ _ : Nat → Value,
 (fun w : World =>
 (fun w : World =>
 If (decide (n5 > a)) (
 ((0 : Int) ≤ n5 ∧ n5 < ((data.n : Nat) : Int)) ∧ WithAddr data.a fun a9 =>
 LdN shJob.cs 0 (a9.add (Int.toNat n5 * 6)) (fun n10 n11 n12 n13 n14 b15 w =>
 ((0 : Int) ≤ (IntKind.wrap .i64 (n5 - 1)) ∧ (IntKind.wrap .i64 (n5 - 1)) < ((data.n : Nat) : Int)) ∧ WithAddr data.a fun a16 =>
 LdN shJob.cs 0 (a16.add (Int.toNat (IntKind.wrap .i64 (n5 - 1)) * 6)) (fun n17 n18 n19 n20 n21 b22 w =>
 Call P 75 [.agg #[.int .i64 n10, .int .i64 n11, .int .i64 n12, .int .i64 n13, .int .i64 n14, .bool b15], .agg #[.int .i64 n17, .int .i64 n18, .int .i64 n19, .int .i64 n20, .int .i64 n21, .bool b22]] [sI] (fun n23 w =>
 If (decide (n23 < 0)) (
 (fun w : World =>
 ((0 : Int) ≤ (IntKind.wrap .i64 (n5 - 1)) ∧ (IntKind.wrap .i64 (n5 - 1)) < ((data.n : Nat) : Int)) ∧ WithAddr data.a fun a24 =>
 LdN shJob.cs 0 (a24.add (Int.toNat (IntKind.wrap .i64 (n5 - 1)) * 6)) (fun n25 n26 n27 n28 n29 b30 w =>
 ((0 : Int) ≤ n5 ∧ n5 < ((data.n : Nat) : Int)) ∧ WithAddr data.a fun a31 =>
 LdN shJob.cs 0 (a31.add (Int.toNat n5 * 6)) (fun n32 n33 n34 n35 n36 b37 w =>
 ((0 : Int) ≤ n5 ∧ n5 < ((data.n : Nat) : Int)) ∧ WithAddr data.a fun a38 =>
 StN [.int .i64 n25, .int .i64 n26, .int .i64 n27, .int .i64 n28, .int .i64 n29, .bool b30] 0 (a38.add (Int.toNat n5 * 6)) (fun w =>
 ((0 : Int) ≤ (IntKind.wrap .i64 (n5 - 1)) ∧ (IntKind.wrap .i64 (n5 - 1)) < ((data.n : Nat) : Int)) ∧ WithAddr data.a fun a39 =>
 StN [.int .i64 n32, .int .i64 n33, .int .i64 n34, .int .i64 n35, .int .i64 n36, .bool b37] 0 (a39.add (Int.toNat (IntKind.wrap .i64 (n5 - 1)) * 6)) (fun w =>
 I6 (IntKind.wrap .i64 (n5 - 1)) w ∧ M7 (IntKind.wrap .i64 (n5 - 1)) w < M7 n5 v8) w) w) w) w) w.drew) (
 I2 (IntKind.wrap .i64 (n1 + 1)) w ∧ M3 (IntKind.wrap .i64 (n1 + 1)) w < M3 n1 v4)) w) w) w) (
 I2 (IntKind.wrap .i64 (n1 + 1)) w ∧ M3 (IntKind.wrap .i64 (n1 + 1)) w < M3 n1 v4)) w.drew) v8) (
 K w)) v4) : Call P 147 [.slice data.a data.n data.c, .int .i64 a, .int .i64 b, .func (.func 75) #[] #[]] [] K w :=
  call_of (H := ⟨[(1, [(8, .ki .i64)]), (4, [(9, .ki .i64)])], [], [(4, .take 0 (.take 1 (.take 2 (.take 3 (.take 4 (.take 5 (.take 6 (.take 7 (.take 8 (.take 9 (.take 10 (.take 11 (.take 12 (.take 13 (.run 14 (.take 15 (.take 16 .done))))))))))))))))), (6, .take 0 (.take 1 (.take 2 (.take 3 (.take 4 (.take 5 (.take 6 (.take 7 (.take 8 (.take 9 (.take 10 (.take 11 (.take 12 (.take 13 (.take 14 (.run 15 (.take 16 (.run 17 .done))))))))))))))))))], []⟩) Tryz.func147 (by kernel_rfl) (by kernel_rfl) vc

theorem f188_of (s : Sl) (c : Option Addr) {K : Sl → World → Prop} {w : World} (vc :
 Call P 159 [.slice s.a s.n s.c, .func (.func 189) #[] #[.pointer c]] [sI] (fun n1 w =>
 If (n1 == (-1)) (
 K s w) (
 ∃ (I4 : Int → Int → World → Prop) (M5 : Int → Int → World → Nat), I4 n1 (IntKind.wrap .i64 (n1 + 1)) w ∧ ∀ (n2 : Int) (n3 : Int) (v6 : World), I4 n2 n3 v6 → ∀ _ : Nat → Value,
 (fun w : World =>
 If (decide (n3 < ((s.n : Nat) : Int))) (
 ((0 : Int) ≤ n3 ∧ n3 < ((s.n : Nat) : Int)) ∧ WithAddr s.a fun a7 =>
 Ld (.ki .i64) (a7.add (Int.toNat n3 * 1)) (fun n8 w =>
 Call P 189 [.int .i64 n8, .pointer c] [sB] (fun b9 w =>
 If (!b9) (
 ((0 : Int) ≤ n2 ∧ n2 < ((s.n : Nat) : Int)) ∧ WithAddr s.a fun a10 =>
 StN [.int .i64 n8] 0 (a10.add (Int.toNat n2 * 1)) (fun w =>
 I4 (IntKind.wrap .i64 (n2 + 1)) (IntKind.wrap .i64 (n3 + 1)) w ∧ M5 (IntKind.wrap .i64 (n2 + 1)) (IntKind.wrap .i64 (n3 + 1)) w < M5 n2 n3 v6) w) (
 I4 n2 (IntKind.wrap .i64 (n3 + 1)) w ∧ M5 n2 (IntKind.wrap .i64 (n3 + 1)) w < M5 n2 n3 v6)) w) w) (
 Sm P (Instr.sliceAt 35 (.slice s.a s.n s.c) (some (.int .i64 n2)) none none) [sS] (fun s11 w =>
 Sm P (Builtin.clear_ #[35] 0 [.slice s11.a s11.n s11.c].toArray) [] (fun w =>
 Sm P (Instr.sliceAt 35 (.slice s.a s.n s.c) none (some (.int .i64 n2)) none) [sS] (fun s12 w =>
 K s12 w) w) w) w)) v6)) w) : Call P 188 [.slice s.a s.n s.c, .func (.func 189) #[] #[.pointer c]] [sS] K w :=
  call_of (H := ⟨[(5, [(5, .ki .i64), (6, .ki .i64)])], [], [], []⟩) Tryz.func188 (by kernel_rfl) (by kernel_rfl) vc

end Go.Proofs.YtajilfnceoeaiaaGreat.V
