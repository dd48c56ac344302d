/- Parts of the proof: Propositions of function bodies (printed by gen.py), Propositions of function bodies (printed by gen.py). -/
import Derived.Test.YtajilfnceoeaiaaGreatZa1
set_option linter.unusedVariables false
set_option linter.unusedSimpArgs false
/- Propositions of function bodies (printed by gen.py). -/
namespace Go.Proofs.YtajilfnceoeaiaaGreat.V
open Go
set_option linter.unusedVariables false
set_option maxRecDepth 100000
theorem f16_of (k : Option Addr) {K : Sl → World → Prop} {w : World} (vc :
 If (Option.isNone k) (
 K ⟨none, 0, 0⟩ w) (
 WithAddr k fun a1 =>
 Ld (.ks) (a1.add 33) (fun s2 w =>
 Call P 39 [.slice s2.a s2.n s2.c] [sS] (fun s3 w =>
 Call P 38 [.slice s3.a s3.n s3.c] [sS] (fun s4 w =>
 K s4 w) w) w) w)) : Call P 16 [.pointer k] [sS] K w :=
  call_of (H := ⟨[], [], [], []⟩) Tryz.func16 (by kernel_rfl) (by kernel_rfl) vc

theorem f22_of (k : Option Addr) (d : Int) {K : Int → World → Prop} {w : World} (vc :
 If (Option.isNone k) (
 K 0 w) (
 If (decide (d < 0)) (
 K 0 w) (
 WithAddr k fun a1 =>
 Ld (.ks) (a1.add 23) (fun s2 w =>
 If (decide (d ≥ ((s2.n : Nat) : Int))) (
 K 0 w) (
 (fun w : World =>
 WithAddr k fun a3 =>
 Ld (.ks) (a3.add 24) (fun s4 w =>
 ((0 : Int) ≤ d ∧ d < ((s4.n : Nat) : Int)) ∧ WithAddr s4.a fun a5 =>
 Ld (.ki .i64) (a5.add (Int.toNat d * 1)) (fun n6 w =>
 WithAddr k fun a7 =>
 Ld (.ks) ((a7.add 0).add 2) (fun s8 w =>
 ((0 : Int) ≤ d ∧ d < ((s8.n : Nat) : Int)) ∧ WithAddr s8.a fun a9 =>
 LdN shDevice.cs 0 (a9.add (Int.toNat d * 7)) (fun n10 n11 n12 n13 n14 n15 n16 w =>
 WithAddr k fun a17 =>
 Ld (.ks) (a17.add 23) (fun s18 w =>
 ((0 : Int) ≤ d ∧ d < ((s18.n : Nat) : Int)) ∧ WithAddr s18.a fun a19 =>
 LdN shItem.cs 0 (a19.add (Int.toNat d * 2)) (fun n20 n21 w =>
 WithAddr k fun a22 =>
 Ld (.ki .i64) (a22.add 9) (fun n23 w =>
 Call P 44 [.agg #[.int .i64 n10, .int .i64 n11, .int .i64 n12, .int .i64 n13, .int .i64 n14, .int .i64 n15, .int .i64 n16], .agg #[.int .i64 n20, .int .i64 n21], .int .i64 n23] [sI] (fun n24 w =>
 (w.cell? ((a17.add 23).add 0) = some (.slice s18.a s18.n s18.c)) ∧ (w.cell? (((a7.add 0).add 2).add 0) = some (.slice s8.a s8.n s8.c)) ∧ (w.cell? ((a5.add (Int.toNat d * 1)).add 0) = some (.int .i64 n6)) ∧ (w.cell? ((a3.add 24).add 0) = some (.slice s4.a s4.n s4.c)) ∧ K (IntKind.wrap .i64 (n6 + n24)) w) w) w) w) w) w) w) w) w) w.drew)) w))) : Call P 22 [.pointer k, .int .i64 d] [sI] K w :=
  call_of (H := ⟨[], [], [(3, .take 0 (.take 1 (.take 2 (.take 3 (.take 4 (.take 5 (.take 6 (.take 7 (.take 8 (.take 9 (.take 10 (.take 11 (.take 12 (.take 13 (.take 14 (.take 15 (.take 16 (.take 17 (.take 18 (.take 19 (.take 20 (.take 21 (.take 22 (.take 23 (.take 24 (.take 25 (.run 26 (.take 27 (.take 28 .done)))))))))))))))))))))))))))))], []⟩) Tryz.func22 (by kernel_rfl) (by kernel_rfl) vc

theorem f34_of (p : Plat) {K : Bool → World → Prop} {w : World} (vc :
 New [.slice p.levels.a p.levels.n p.levels.c, .slice p.sleeps.a p.sleeps.n p.sleeps.c, .slice p.devices.a p.devices.n p.devices.c, .int .i64 p.idle, .int .i64 p.crit, .int .i64 p.switch, .int .i64 p.switchE, .int .i64 p.sems, .int .i64 p.horizon] 26 (fun a1 w =>
 Ld (.ks) (a1.add 0) (fun s2 w =>
 If (decide (((s2.n : Nat) : Int) < 1)) (
 K false w) (
 Ld (.ks) (a1.add 0) (fun s3 w =>
 If (decide (((s3.n : Nat) : Int) > 4)) (
 K false w) (
 Ld (.ki .i64) (a1.add 3) (fun n4 w =>
 If (decide (n4 < 0)) (
 K false w) (
 Ld (.ki .i64) (a1.add 3) (fun n5 w =>
 If (decide (n5 > 65536)) (
 K false w) (
 Ld (.ki .i64) (a1.add 4) (fun n6 w =>
 If (decide (n6 < 0)) (
 K false w) (
 Ld (.ki .i64) (a1.add 4) (fun n7 w =>
 Ld (.ks) (a1.add 0) (fun s8 w =>
 If (decide (n7 ≥ ((s8.n : Nat) : Int))) (
 K false w) (
 Ld (.ki .i64) (a1.add 5) (fun n9 w =>
 If (decide (n9 < 0)) (
 K false w) (
 Ld (.ki .i64) (a1.add 5) (fun n10 w =>
 If (decide (n10 > 256)) (
 K false w) (
 Ld (.ki .i64) (a1.add 6) (fun n11 w =>
 If (decide (n11 < 0)) (
 K false w) (
 Ld (.ki .i64) (a1.add 6) (fun n12 w =>
 If (decide (n12 > 65536)) (
 K false w) (
 Ld (.ks) (a1.add 1) (fun s13 w =>
 If (decide (((s13.n : Nat) : Int) > 3)) (
 K false w) (
 Ld (.ks) (a1.add 2) (fun s14 w =>
 If (decide (((s14.n : Nat) : Int) > 3)) (
 K false w) (
 Ld (.ki .i64) (a1.add 7) (fun n15 w =>
 If (decide (n15 < 0)) (
 K false w) (
 Ld (.ki .i64) (a1.add 7) (fun n16 w =>
 If (decide (n16 > 3)) (
 K false w) (
 Ld (.ki .i64) (a1.add 8) (fun n17 w =>
 If (decide (n17 < 1)) (
 K false w) (
 Ld (.ki .i64) (a1.add 8) (fun n18 w =>
 If (decide (n18 > 16384)) (
 K false w) (
 ∃ (I20 : Int → World → Prop) (M21 : Int → World → Nat), I20 0 w ∧ ∀ (n19 : Int) (v22 : World), I20 n19 v22 → ∀ _ : Nat → Value,
 (fun w : World =>
 Ld (.ks) (a1.add 0) (fun s23 w =>
 If (decide (n19 < ((s23.n : Nat) : Int))) (
 Ld (.ks) (a1.add 0) (fun s24 w =>
 ((0 : Int) ≤ n19 ∧ n19 < ((s24.n : Nat) : Int)) ∧ WithAddr s24.a fun a25 =>
 LdN shItem.cs 0 (a25.add (Int.toNat n19 * 2)) (fun n26 n27 w =>
 New [.int .i64 0, .int .i64 0] 93 (fun a28 w =>
 StN [.int .i64 n26, .int .i64 n27] 0 a28 (fun w =>
 (fun w : World =>
 Ld (.ki .i64) (a28.add 0) (fun n29 w =>
 If (decide (n29 < 1)) (
 K false w) (
 Ld (.ki .i64) (a28.add 0) (fun n30 w =>
 If (decide (n30 > 256)) (
 K false w) (
 Ld (.ki .i64) (a28.add 1) (fun n31 w =>
 If (decide (n31 < 0)) (
 K false w) (
 Ld (.ki .i64) (a28.add 1) (fun n32 w =>
 If (decide (n32 > 65536)) (
 K false w) (
 If (decide (n19 > 0)) (
 Ld (.ki .i64) (a28.add 0) (fun n33 w =>
 Ld (.ks) (a1.add 0) (fun s34 w =>
 ((0 : Int) ≤ (IntKind.wrap .i64 (n19 - 1)) ∧ (IntKind.wrap .i64 (n19 - 1)) < ((s34.n : Nat) : Int)) ∧ WithAddr s34.a fun a35 =>
 Ld (.ki .i64) ((a35.add (Int.toNat (IntKind.wrap .i64 (n19 - 1)) * 2)).add 0) (fun n36 w =>
 If (decide (n33 ≤ n36)) (
 K false w) (
 (fun w : World =>
 If (decide (n19 > 0)) (
 Ld (.ki .i64) (a1.add 4) (fun n37 w =>
 If (decide (n19 ≤ n37)) (
 Ld (.ki .i64) (a28.add 1) (fun n38 w =>
 Ld (.ki .i64) (a28.add 0) (fun n39 w =>
 Ld (.ki .i64) (a1.add 3) (fun n40 w =>
 Ld (.ks) (a1.add 0) (fun s41 w =>
 ((0 : Int) ≤ (IntKind.wrap .i64 (n19 - 1)) ∧ (IntKind.wrap .i64 (n19 - 1)) < ((s41.n : Nat) : Int)) ∧ WithAddr s41.a fun a42 =>
 Ld (.ki .i64) ((a42.add (Int.toNat (IntKind.wrap .i64 (n19 - 1)) * 2)).add 1) (fun n43 w =>
 Ld (.ks) (a1.add 0) (fun s44 w =>
 ((0 : Int) ≤ (IntKind.wrap .i64 (n19 - 1)) ∧ (IntKind.wrap .i64 (n19 - 1)) < ((s44.n : Nat) : Int)) ∧ WithAddr s44.a fun a45 =>
 Ld (.ki .i64) ((a45.add (Int.toNat (IntKind.wrap .i64 (n19 - 1)) * 2)).add 0) (fun n46 w =>
 Ld (.ki .i64) (a1.add 3) (fun n47 w =>
 If (decide ((IntKind.wrap .i64 (n38 - (IntKind.wrap .i64 (n39 * n40)))) > (IntKind.wrap .i64 (n43 - (IntKind.wrap .i64 (n46 * n47)))))) (
 K false w) (
 I20 (IntKind.wrap .i64 (n19 + 1)) w ∧ M21 (IntKind.wrap .i64 (n19 + 1)) w < M21 n19 v22)) w) w) w) w) w) w) w) w) (
 I20 (IntKind.wrap .i64 (n19 + 1)) w ∧ M21 (IntKind.wrap .i64 (n19 + 1)) w < M21 n19 v22)) w) (
 I20 (IntKind.wrap .i64 (n19 + 1)) w ∧ M21 (IntKind.wrap .i64 (n19 + 1)) w < M21 n19 v22)) w.drew)) w) w) w) (
 (fun w : World =>
 If (decide (n19 > 0)) (
 Ld (.ki .i64) (a1.add 4) (fun n48 w =>
 If (decide (n19 ≤ n48)) (
 Ld (.ki .i64) (a28.add 1) (fun n49 w =>
 Ld (.ki .i64) (a28.add 0) (fun n50 w =>
 Ld (.ki .i64) (a1.add 3) (fun n51 w =>
 Ld (.ks) (a1.add 0) (fun s52 w =>
 ((0 : Int) ≤ (IntKind.wrap .i64 (n19 - 1)) ∧ (IntKind.wrap .i64 (n19 - 1)) < ((s52.n : Nat) : Int)) ∧ WithAddr s52.a fun a53 =>
 Ld (.ki .i64) ((a53.add (Int.toNat (IntKind.wrap .i64 (n19 - 1)) * 2)).add 1) (fun n54 w =>
 Ld (.ks) (a1.add 0) (fun s55 w =>
 ((0 : Int) ≤ (IntKind.wrap .i64 (n19 - 1)) ∧ (IntKind.wrap .i64 (n19 - 1)) < ((s55.n : Nat) : Int)) ∧ WithAddr s55.a fun a56 =>
 Ld (.ki .i64) ((a56.add (Int.toNat (IntKind.wrap .i64 (n19 - 1)) * 2)).add 0) (fun n57 w =>
 Ld (.ki .i64) (a1.add 3) (fun n58 w =>
 If (decide ((IntKind.wrap .i64 (n49 - (IntKind.wrap .i64 (n50 * n51)))) > (IntKind.wrap .i64 (n54 - (IntKind.wrap .i64 (n57 * n58)))))) (
 K false w) (
 I20 (IntKind.wrap .i64 (n19 + 1)) w ∧ M21 (IntKind.wrap .i64 (n19 + 1)) w < M21 n19 v22)) w) w) w) w) w) w) w) w) (
 I20 (IntKind.wrap .i64 (n19 + 1)) w ∧ M21 (IntKind.wrap .i64 (n19 + 1)) w < M21 n19 v22)) w) (
 I20 (IntKind.wrap .i64 (n19 + 1)) w ∧ M21 (IntKind.wrap .i64 (n19 + 1)) w < M21 n19 v22)) w.drew))) w)) w)) w)) w) w.drew) w) w) w) w) (
 ∃ (I60 : Int → World → Prop) (M61 : Int → World → Nat), I60 0 w ∧ ∀ (n59 : Int) (v62 : World), I60 n59 v62 → ∀ _ : Nat → Value,
 (fun w : World =>
 Ld (.ks) (a1.add 1) (fun s63 w =>
 If (decide (n59 < ((s63.n : Nat) : Int))) (
 (fun w : World =>
 Ld (.ks) (a1.add 1) (fun s64 w =>
 ((0 : Int) ≤ n59 ∧ n59 < ((s64.n : Nat) : Int)) ∧ WithAddr s64.a fun a65 =>
 LdN shSleep.cs 0 (a65.add (Int.toNat n59 * 6)) (fun n66 n67 n68 n69 n70 n71 w =>
 Ld (.ki .i64) (a1.add 3) (fun n72 w =>
 Call P 52 [.agg #[.int .i64 n66, .int .i64 n67, .int .i64 n68, .int .i64 n69, .int .i64 n70, .int .i64 n71], .int .i64 n72] [sB] (fun b73 w =>
 (w.cell? ((a1.add 1).add 0) = some (.slice s64.a s64.n s64.c)) ∧ If (!b73) (
 K false w) (
 I60 (IntKind.wrap .i64 (n59 + 1)) w ∧ M61 (IntKind.wrap .i64 (n59 + 1)) w < M61 n59 v62)) w) w) w) w) w.drew) (
 ∃ (I75 : Int → World → Prop) (M76 : Int → World → Nat), I75 0 w ∧ ∀ (n74 : Int) (v77 : World), I75 n74 v77 → ∀ _ : Nat → Value,
 (fun w : World =>
 Ld (.ks) (a1.add 2) (fun s78 w =>
 If (decide (n74 < ((s78.n : Nat) : Int))) (
 Ld (.ks) (a1.add 2) (fun s79 w =>
 ((0 : Int) ≤ n74 ∧ n74 < ((s79.n : Nat) : Int)) ∧ WithAddr s79.a fun a80 =>
 LdN shDevice.cs 0 (a80.add (Int.toNat n74 * 7)) (fun n81 n82 n83 n84 n85 n86 n87 w =>
 Call P 53 [.agg #[.int .i64 n81, .int .i64 n82, .int .i64 n83, .int .i64 n84, .int .i64 n85, .int .i64 n86, .int .i64 n87]] [sB] (fun b88 w =>
 If (!b88) (
 K false w) (
 I75 (IntKind.wrap .i64 (n74 + 1)) w ∧ M76 (IntKind.wrap .i64 (n74 + 1)) w < M76 n74 v77)) w) w) w) (
 K true w)) w) v77)) w) v62)) w) v22)) w)) w)) w)) w)) w)) w)) w)) w)) w)) w)) w) w)) w)) w)) w)) w)) w) w) : Call P 34 [p.v] [sB] K w :=
  call_of (H := ⟨[(6, [(3, .ki .i64)]), (14, [(5, .ki .i64)]), (19, [(6, .ki .i64)])], [], [(9, .take 0 (.take 1 (.take 2 (.take 3 (.take 4 (.take 5 (.take 6 (.take 7 (.take 8 (.take 9 (.take 10 (.take 11 (.take 12 (.take 13 (.take 14 (.take 15 (.take 16 (.take 17 (.take 18 (.take 19 (.take 20 (.take 21 (.take 22 (.take 23 (.take 24 (.take 25 (.take 26 (.take 27 (.take 28 (.take 29 (.take 30 (.take 31 (.take 32 (.take 33 .done)))))))))))))))))))))))))))))))))), (11, .take 0 (.take 1 (.take 2 (.take 3 (.take 4 (.take 5 (.take 6 (.take 7 (.take 8 (.take 9 (.take 10 (.take 11 (.take 12 (.take 13 (.take 14 (.take 15 (.take 16 (.take 17 (.take 18 (.take 19 (.take 20 (.take 21 (.take 22 (.take 23 (.take 24 (.take 25 (.take 26 (.take 27 (.take 28 (.take 29 (.take 30 (.take 31 (.take 32 (.take 33 (.take 34 (.take 35 (.take 36 .done))))))))))))))))))))))))))))))))))))), (16, .take 0 (.take 1 (.take 2 (.take 3 (.take 4 (.take 5 (.take 6 (.run 7 (.take 8 .done)))))))))], []⟩) Tryz.func34 (by kernel_rfl) (by kernel_rfl) vc

theorem f41_of (t : Task) {K : Int → Int → Sl → Sl → World → Prop} {w : World} (vc :
 New [.int .i64 t.period, .int .i64 t.cycles, .slice t.sec.a t.sec.n t.sec.c, .slice t.devs.a t.devs.n t.devs.c] 37 (fun a1 w =>
 New [.int .i64 0, .int .i64 0, .slice none 0 0, .slice none 0 0] 37 (fun a2 w =>
 (fun w : World =>
 Ld (.ks) (a1.add 2) (fun s3 w =>
 Ld (.ks) (a1.add 3) (fun s4 w =>
 Call P 47 [.slice s3.a s3.n s3.c] [sS] (fun s5 w =>
 (w.cell? ((a1.add 3).add 0) = some (.slice s4.a s4.n s4.c)) ∧ Call P 46 [.slice s5.a s5.n s5.c] [sS] (fun s6 w =>
 (w.cell? ((a1.add 3).add 0) = some (.slice s4.a s4.n s4.c)) ∧ (w.cell? ((a1.add 2).add 0) = some (.slice s3.a s3.n s3.c)) ∧ Call P 47 [.slice s4.a s4.n s4.c] [sS] (fun s7 w =>
 (w.cell? ((a1.add 2).add 0) = some (.slice s3.a s3.n s3.c)) ∧ Call P 46 [.slice s7.a s7.n s7.c] [sS] (fun s8 w =>
 (w.cell? ((a1.add 3).add 0) = some (.slice s4.a s4.n s4.c)) ∧ (w.cell? ((a1.add 2).add 0) = some (.slice s3.a s3.n s3.c)) ∧ StN [.slice s6.a s6.n s6.c] 0 (a1.add 2) (fun w =>
 StN [.slice s8.a s8.n s8.c] 0 (a1.add 3) (fun w =>
 LdN shTask.cs 0 a1 (fun n9 n10 s11 s12 w =>
 StN [.int .i64 n9, .int .i64 n10, .slice s11.a s11.n s11.c, .slice s12.a s12.n s12.c] 0 a2 (fun w =>
 LdN shTask.cs 0 a2 (fun n13 n14 s15 s16 w =>
 K n13 n14 s15 s16 w) w) w) w) w) w) w) w) w) w) w) w) w.drew) w) w) : Call P 41 [t.v] [shTask] K w :=
  call_of (H := ⟨[], [], [(1, .take 0 (.take 1 (.take 4 (.take 5 (.run 2 (.run 3 (.take 8 (.run 6 (.run 7 (.run 9 (.take 10 (.run 11 .done))))))))))))], []⟩) Tryz.func41 (by kernel_rfl) (by kernel_rfl) vc

theorem f47_of (s : Sl) {K : Sl → World → Prop} {w : World} (vc :
 If (Option.isNone s.a) (
 K ⟨none, 0, 0⟩ w) (
 New [] 3 (fun a1 w =>
 Sm P (Builtin.append_ #[35, 35] 35 [.slice (some a1) 0 0, .slice s.a s.n s.c].toArray) [sS] (fun s2 w =>
 K s2 w) w) w)) : Call P 47 [.slice s.a s.n s.c] [sS] K w :=
  call_of (H := ⟨[], [], [], []⟩) Tryz.func47 (by kernel_rfl) (by kernel_rfl) vc

theorem f53_of (d : Device) {K : Bool → World → Prop} {w : World} (vc :
 New [.int .i64 d.on, .int .i64 d.off, .int .i64 d.down, .int .i64 d.up, .int .i64 d.downE, .int .i64 d.upE, .int .i64 d.even] 58 (fun a1 w =>
 Ld (.ki .i64) (a1.add 2) (fun n2 w =>
 Ld (.ki .i64) (a1.add 3) (fun n3 w =>
 Ld (.ki .i64) (a1.add 4) (fun n4 w =>
 Ld (.ki .i64) (a1.add 5) (fun n5 w =>
 Ld (.ki .i64) (a1.add 1) (fun n6 w =>
 Ld (.ki .i64) (a1.add 0) (fun n7 w =>
 Ld (.ki .i64) (a1.add 6) (fun n8 w =>
 Call P 83 [.int .i64 n2, .int .i64 n3, .int .i64 n4, .int .i64 n5, .int .i64 n6, .int .i64 n7, .int .i64 n8] [sB] (fun b9 w =>
 K b9 w) w) w) w) w) w) w) w) w) w) : Call P 53 [d.v] [sB] K w :=
  call_of (H := ⟨[], [], [], []⟩) Tryz.func53 (by kernel_rfl) (by kernel_rfl) vc

theorem f59_of  {K : Option Addr → World → Prop} {w : World} (vc :
 Call P 92 [] [sP] (fun p1 w =>
 Sm P (Instr.makeMap 146 none) [sM] (fun m2 w =>
 New [.pointer p1, .map m2] 150 (fun a3 w =>
 K (some a3) w) w) w) w) : Call P 59 [] [sP] K w :=
  call_of (H := ⟨[], [], [], []⟩) Tryz.func59 (by kernel_rfl) (by kernel_rfl) vc

theorem f65_of (k : Option Addr) (s : Int) (give : Bool) {K : Int → World → Prop} {w : World} (vc :
 WithAddr k fun a1 =>
 Ld (.kb) (a1.add 25) (fun b2 w =>
 If b2 (
 K 9 w) (
 Call P 105 [.pointer k] [sI, sB] (fun n3 b4 w =>
 WithAddr k fun a5 =>
 Ld (.kp) (a5.add 17) (fun p6 w =>
 Call P 100 [.pointer p6, .int .i64 n3] [shJob, sB] (fun n7 n8 n9 n10 n11 b12 b13 w =>
 New [.int .i64 0, .int .i64 0, .int .i64 0, .int .i64 0, .int .i64 0, .bool false] 50 (fun a14 w =>
 StN [.int .i64 n7, .int .i64 n8, .int .i64 n9, .int .i64 n10, .int .i64 n11, .bool b12] 0 a14 (fun w =>
 If (!b4) (
 K 9 w) (
 Ld (.kb) (a14.add 5) (fun b15 w =>
 If (!b15) (
 K 9 w) (
 WithAddr k fun a16 =>
 Ld (.ks) (a16.add 14) (fun s17 w =>
 ((0 : Int) ≤ n3 ∧ n3 < ((s17.n : Nat) : Int)) ∧ WithAddr s17.a fun a18 =>
 LdN shTask.cs 0 (a18.add (Int.toNat n3 * 4)) (fun n19 n20 s21 s22 w =>
 Call P 106 [.agg #[.int .i64 n19, .int .i64 n20, .slice s21.a s21.n s21.c, .slice s22.a s22.n s22.c], .int .i64 s] [sB] (fun b23 w =>
 If (!b23) (
 K 10 w) (
 If give (
 WithAddr k fun a24 =>
 Ld (.kp) (a24.add 20) (fun p25 w =>
 Call P 107 [.pointer p25, .int .i64 n3, .int .i64 s] [sI] (fun n26 w =>
 K n26 w) w) w) (
 (fun w : World =>
 WithAddr k fun a27 =>
 Ld (.kp) (a27.add 20) (fun p28 w =>
 WithAddr k fun a29 =>
 Ld (.ks) (a29.add 14) (fun s30 w =>
 ((0 : Int) ≤ n3 ∧ n3 < ((s30.n : Nat) : Int)) ∧ WithAddr s30.a fun a31 =>
 Ld (.ks) ((a31.add (Int.toNat n3 * 4)).add 2) (fun s32 w =>
 ((0 : Int) ≤ s ∧ s < ((s32.n : Nat) : Int)) ∧ WithAddr s32.a fun a33 =>
 Ld (.ki .i64) (a33.add (Int.toNat s * 1)) (fun n34 w =>
 Call P 108 [.pointer p28, .int .i64 n3, .int .i64 s, .int .i64 n34] [sI] (fun n35 w =>
 (w.cell? (((a31.add (Int.toNat n3 * 4)).add 2).add 0) = some (.slice s32.a s32.n s32.c)) ∧ (w.cell? ((a29.add 14).add 0) = some (.slice s30.a s30.n s30.c)) ∧ K n35 w) w) w) w) w) w) w.drew))) w) w) w)) w)) w) w) w) w) w)) w) : Call P 65 [.pointer k, .int .i64 s, .bool give] [sI] K w :=
  call_of (H := ⟨[], [], [(11, .take 0 (.take 1 (.take 2 (.take 3 (.take 4 (.take 5 (.take 6 (.take 7 (.take 8 (.take 9 (.take 10 (.take 11 (.take 12 (.take 13 (.take 14 (.take 15 (.take 16 (.run 17 (.take 18 .done)))))))))))))))))))], []⟩) Tryz.func65 (by kernel_rfl) (by kernel_rfl) vc

theorem f71_of (k : Option Addr) (kind : Int) (task : Int) (x3 : Int) (due : Int) {K : World → Prop} {w : World} (vc :
 WithAddr k fun a1 =>
 Ld (.ks) (a1.add 33) (fun s2 w =>
 New [.int .i64 kind, .int .i64 task, .int .i64 x3, .int .i64 due] 45 (fun a3 w =>
 Sm P (Builtin.append_ #[42, 42] 42 [.slice s2.a s2.n s2.c, .slice (some a3) 1 1].toArray) [sS] (fun s4 w =>
 WithAddr k fun a5 =>
 StN [.slice s4.a s4.n s4.c] 0 (a5.add 33) (fun w =>
 K w) w) w) w) w) : Call P 71 [.pointer k, .int .i64 kind, .int .i64 task, .int .i64 x3, .int .i64 due] [] K w :=
  call_of (H := ⟨[], [], [], []⟩) Tryz.func71 (by kernel_rfl) (by kernel_rfl) vc

theorem f78_of (s : Sl) {K : Sl → World → Prop} {w : World} (vc :
 Sm P (Instr.sliceAt 71 (.slice s.a s.n s.c) none (some (.int .i64 ((s.n : Nat) : Int))) (some (.int .i64 ((s.n : Nat) : Int)))) [sS] (fun s1 w =>
 K s1 w) w) : Call P 78 [.slice s.a s.n s.c] [sS] K w :=
  call_of (H := ⟨[], [], [], []⟩) Tryz.func78 (by kernel_rfl) (by kernel_rfl) vc

theorem f84_of (n : Int) {K : Bool → World → Prop} {w : World} (vc :
 Call P 87 [.int .i64 n, .int .i64 0, .int .i64 65536] [sB] (fun b1 w =>
 K b1 w) w) : Call P 84 [.int .i64 n] [sB] K w :=
  call_of (H := ⟨[], [], [], []⟩) Tryz.func84 (by kernel_rfl) (by kernel_rfl) vc

theorem f90_of (s : Sl) {K : Sl → World → Prop} {w : World} (vc :
 If (Option.isNone s.a) (
 K ⟨none, 0, 0⟩ w) (
 New [] 105 (fun a1 w =>
 Sm P (Builtin.append_ #[23, 23] 23 [.slice (some a1) 0 0, .slice s.a s.n s.c].toArray) [sS] (fun s2 w =>
 K s2 w) w) w)) : Call P 90 [.slice s.a s.n s.c] [sS] K w :=
  call_of (H := ⟨[], [], [], []⟩) Tryz.func90 (by kernel_rfl) (by kernel_rfl) vc

theorem f96_of (k : Option Addr) {K : Sl → World → Prop} {w : World} (vc :
 WithAddr k fun a1 =>
 Ld (.ks) (a1.add 14) (fun s2 w =>
 Call P 128 [.slice s2.a s2.n s2.c] [sS] (fun s3 w =>
 Call P 127 [.slice s3.a s3.n s3.c, .func (.func 129) #[] #[]] [sS] (fun s4 w =>
 K s4 w) w) w) w) : Call P 96 [.pointer k] [sS] K w :=
  call_of (H := ⟨[], [], [], []⟩) Tryz.func96 (by kernel_rfl) (by kernel_rfl) vc

theorem f103_of (l : Option Addr) (task : Int) (x2 : Int) (cycles : Int) {K : Bool → World → Prop} {w : World} (vc :
 If (Option.isNone l) (
 K false w) (
 Call P 101 [.pointer l, .int .i64 task] [sB] (fun b1 w =>
 If b1 (
 K false w) (
 WithAddr l fun a2 =>
 Ld (.kp) (a2.add 0) (fun p3 w =>
 Call P 113 [.pointer p3, .int .i64 task, .int .i64 x2] [] (fun w =>
 WithAddr l fun a4 =>
 Ld (.km) (a4.add 1) (fun m5 w =>
 SmU P (Instr.mapUpdate 146 (.map m5) (.int .i64 task) (.int .i64 cycles)) (fun w =>
 K true w) w) w) w) w)) w)) : Call P 103 [.pointer l, .int .i64 task, .int .i64 x2, .int .i64 cycles] [sB] K w :=
  call_of (H := ⟨[], [], [], []⟩) Tryz.func103 (by kernel_rfl) (by kernel_rfl) vc

theorem f109_of (t : Option Addr) (id : Int) {K : Bool → World → Prop} {w : World} (vc :
 If (Option.isNone t) (
 K false w) (
 WithAddr t fun a1 =>
 Ld (.km) (a1.add 1) (fun m2 w =>
 Sm P (Builtin.delete_ #[146, 3] 0 [.map m2, .int .i64 id].toArray) [] (fun w =>
 WithAddr t fun a3 =>
 Ld (.kp) (a3.add 0) (fun p4 w =>
 Call P 142 [.pointer p4, .int .i64 id] [sB] (fun b5 w =>
 K b5 w) w) w) w) w)) : Call P 109 [.pointer t, .int .i64 id] [sB] K w :=
  call_of (H := ⟨[], [], [], []⟩) Tryz.func109 (by kernel_rfl) (by kernel_rfl) vc

theorem f115_of (d : Device) (x : Away) (now : Int) (x3 : Int) {K : Int → Int → Bool → World → Prop} {w : World} (vc :
 New [.int .i64 d.on, .int .i64 d.off, .int .i64 d.down, .int .i64 d.up, .int .i64 d.downE, .int .i64 d.upE, .int .i64 d.even] 58 (fun a1 w =>
 New [.int .i64 x.from_, .int .i64 x.until_] 97 (fun a2 w =>
 New [.int .i64 0, .int .i64 0] 97 (fun a3 w =>
 LdN shDevice.cs 0 a1 (fun n4 n5 n6 n7 n8 n9 n10 w =>
 LdN shItem.cs 0 a2 (fun n11 n12 w =>
 Call P 132 [.agg #[.int .i64 n4, .int .i64 n5, .int .i64 n6, .int .i64 n7, .int .i64 n8, .int .i64 n9, .int .i64 n10], .agg #[.int .i64 n11, .int .i64 n12], .int .i64 now] [sI] (fun n13 w =>
 If (n13 != 1) (
 LdN shItem.cs 0 a2 (fun n14 n15 w =>
 StN [.int .i64 n14, .int .i64 n15] 0 a3 (fun w =>
 LdN shItem.cs 0 a3 (fun n16 n17 w =>
 K n16 n17 false w) w) w) w) (
 Ld (.ki .i64) (a1.add 6) (fun n18 w =>
 If (decide ((IntKind.wrap .i64 (x3 - now)) < n18)) (
 LdN shItem.cs 0 a2 (fun n19 n20 w =>
 StN [.int .i64 n19, .int .i64 n20] 0 a3 (fun w =>
 LdN shItem.cs 0 a3 (fun n21 n22 w =>
 K n21 n22 false w) w) w) w) (
 StN [.int .i64 now, .int .i64 x3] 0 a3 (fun w =>
 LdN shItem.cs 0 a3 (fun n23 n24 w =>
 K n23 n24 true w) w) w)) w)) w) w) w) w) w) w) : Call P 115 [d.v, x.v, .int .i64 now, .int .i64 x3] [shAway, sB] K w :=
  call_of (H := ⟨[], [], [], []⟩) Tryz.func115 (by kernel_rfl) (by kernel_rfl) vc

theorem f123_of (n : Int) (cap0 : Option Addr) {K : Bool → World → Prop} {w : World} (vc :
 If (decide (n < 0)) (
 K true w) (
 WithAddr cap0 fun a1 =>
 Ld (.ki .i64) (a1.add 1) (fun n2 w =>
 K (decide (n > n2)) w) w)) : Call P 123 [.int .i64 n, .pointer cap0] [sB] K w :=
  call_of (H := ⟨[], [], [], []⟩) Tryz.func123 (by kernel_rfl) (by kernel_rfl) vc

theorem f131_of (d : Device) (x : Away) (now : Int) {K : Int → Int → World → Prop} {w : World} (vc :
 New [.int .i64 d.on, .int .i64 d.off, .int .i64 d.down, .int .i64 d.up, .int .i64 d.downE, .int .i64 d.upE, .int .i64 d.even] 58 (fun a1 w =>
 New [.int .i64 x.from_, .int .i64 x.until_] 97 (fun a2 w =>
 New [.int .i64 0, .int .i64 0] 97 (fun a3 w =>
 Ld (.ki .i64) (a2.add 1) (fun n4 w =>
 If (n4 == 1099511627776) (
 Ld (.ki .i64) (a2.add 0) (fun n5 w =>
 Ld (.ki .i64) (a1.add 6) (fun n6 w =>
 Ld (.ki .i64) (a1.add 3) (fun n7 w =>
 Ld (.ki .i64) (a2.add 0) (fun n8 w =>
 Ld (.ki .i64) (a1.add 2) (fun n9 w =>
 Ld (.ki .i64) (a1.add 3) (fun n10 w =>
 StN [.int .i64 (if IntKind.wrap .i64 ((IntKind.wrap .i64 (n8 + n9)) + n10) > (if IntKind.wrap .i64 (now + n7) > IntKind.wrap .i64 (n5 + n6) then IntKind.wrap .i64 (now + n7) else IntKind.wrap .i64 (n5 + n6)) then IntKind.wrap .i64 ((IntKind.wrap .i64 (n8 + n9)) + n10) else (if IntKind.wrap .i64 (now + n7) > IntKind.wrap .i64 (n5 + n6) then IntKind.wrap .i64 (now + n7) else IntKind.wrap .i64 (n5 + n6)))] 0 (a2.add 1) (fun w =>
 LdN shItem.cs 0 a2 (fun n11 n12 w =>
 StN [.int .i64 n11, .int .i64 n12] 0 a3 (fun w =>
 LdN shItem.cs 0 a3 (fun n13 n14 w =>
 K n13 n14 w) w) w) w) w) w) w) w) w) w) w) (
 LdN shItem.cs 0 a2 (fun n15 n16 w =>
 StN [.int .i64 n15, .int .i64 n16] 0 a3 (fun w =>
 LdN shItem.cs 0 a3 (fun n17 n18 w =>
 K n17 n18 w) w) w) w)) w) w) w) w) : Call P 131 [d.v, x.v, .int .i64 now] [shAway] K w :=
  call_of (H := ⟨[], [], [], []⟩) Tryz.func131 (by kernel_rfl) (by kernel_rfl) vc

theorem f137_of (tasks : Sl) (list : Sl) (stack : Sl) (ceiling : Int) {K : Int → Bool → World → Prop} {w : World} (vc :
 If (((list.n : Nat) : Int) == 0) (
 K 0 false w) (
 ((0 : Int) ≤ 0 ∧ 0 < ((list.n : Nat) : Int)) ∧ WithAddr list.a fun a1 =>
 LdN shJob.cs 0 (a1.add (Int.toNat 0 * 6)) (fun n2 n3 n4 n5 n6 b7 w =>
 New [.int .i64 0, .int .i64 0, .int .i64 0, .int .i64 0, .int .i64 0, .bool false] 50 (fun a8 w =>
 StN [.int .i64 n2, .int .i64 n3, .int .i64 n4, .int .i64 n5, .int .i64 n6, .bool b7] 0 a8 (fun w =>
 Ld (.kb) (a8.add 5) (fun b9 w =>
 If b9 (
 Ld (.ki .i64) (a8.add 0) (fun n10 w =>
 K n10 true w) w) (
 Ld (.ki .i64) (a8.add 0) (fun n11 w =>
 Call P 170 [.slice tasks.a tasks.n tasks.c, .int .i64 n11] [sI] (fun n12 w =>
 If (decide (n12 < ceiling)) (
 Ld (.ki .i64) (a8.add 0) (fun n13 w =>
 K n13 true w) w) (
 If (((stack.n : Nat) : Int) == 0) (
 Ld (.ki .i64) (a8.add 0) (fun n14 w =>
 K n14 true w) w) (
 ((0 : Int) ≤ (IntKind.wrap .i64 (((stack.n : Nat) : Int) - 1)) ∧ (IntKind.wrap .i64 (((stack.n : Nat) : Int) - 1)) < ((stack.n : Nat) : Int)) ∧ WithAddr stack.a fun a15 =>
 Ld (.ki .i64) (a15.add (Int.toNat (IntKind.wrap .i64 (((stack.n : Nat) : Int) - 1)) * 1)) (fun n16 w =>
 K n16 true w) w))) w) w)) w) w) w) w)) : Call P 137 [.slice tasks.a tasks.n tasks.c, .slice list.a list.n list.c, .slice stack.a stack.n stack.c, .int .i64 ceiling] [sI, sB] K w :=
  call_of (H := ⟨[], [], [], []⟩) Tryz.func137 (by kernel_rfl) (by kernel_rfl) vc

theorem f144_of (h : Option Addr) (n : Int) {K : World → Prop} {w : World} (vc :
 ∃ (I2 : Int → World → Prop) (M3 : Int → World → Nat), I2 n w ∧ ∀ (n1 : Int) (v4 : World), I2 n1 v4 → ∀ _ : Nat → Value,
 (fun w : World =>
 (fun w : World =>
 If (decide (n1 > 0)) (
 WithAddr h fun a5 =>
 Ld (.ks) (a5.add 0) (fun s6 w =>
 ((0 : Int) ≤ n1 ∧ n1 < ((s6.n : Nat) : Int)) ∧ WithAddr s6.a fun a7 =>
 LdN shItem.cs 0 (a7.add (Int.toNat n1 * 2)) (fun n8 n9 w =>
 WithAddr h fun a10 =>
 Ld (.ks) (a10.add 0) (fun s11 w =>
 (2 : Int) ≠ 0 ∧ ((0 : Int) ≤ (IntKind.wrap .i64 (Int.tdiv (IntKind.wrap .i64 (n1 - 1)) 2)) ∧ (IntKind.wrap .i64 (Int.tdiv (IntKind.wrap .i64 (n1 - 1)) 2)) < ((s11.n : Nat) : Int)) ∧ WithAddr s11.a fun a12 =>
 LdN shItem.cs 0 (a12.add (Int.toNat (IntKind.wrap .i64 (Int.tdiv (IntKind.wrap .i64 (n1 - 1)) 2)) * 2)) (fun n13 n14 w =>
 Call P 174 [.agg #[.int .i64 n8, .int .i64 n9], .agg #[.int .i64 n13, .int .i64 n14]] [sB] (fun b15 w =>
 (w.cell? ((a10.add 0).add 0) = some (.slice s11.a s11.n s11.c)) ∧ (w.cell? ((a5.add 0).add 0) = some (.slice s6.a s6.n s6.c)) ∧ If b15 (
 (2 : Int) ≠ 0 ∧ Call P 173 [.pointer h, .int .i64 n1, .int .i64 (IntKind.wrap .i64 (Int.tdiv (IntKind.wrap .i64 (n1 - 1)) 2))] [] (fun w =>
 (2 : Int) ≠ 0 ∧ I2 (IntKind.wrap .i64 (Int.tdiv (IntKind.wrap .i64 (n1 - 1)) 2)) w ∧ M3 (IntKind.wrap .i64 (Int.tdiv (IntKind.wrap .i64 (n1 - 1)) 2)) w < M3 n1 v4) w) (
 K w)) w) w) w) w) w) (
 K w)) w.drew) v4) : Call P 144 [.pointer h, .int .i64 n] [] K w :=
  call_of (H := ⟨[(0, [(1, .ki .i64)])], [], [(0, .take 0 (.take 1 (.take 2 (.take 3 (.take 4 (.take 5 (.take 6 (.take 7 (.take 8 (.take 9 (.take 10 (.take 11 (.take 12 (.take 13 (.take 14 (.take 15 (.take 16 (.take 17 (.take 18 (.run 19 (.take 20 .done)))))))))))))))))))))], []⟩) Tryz.func144 (by kernel_rfl) (by kernel_rfl) vc

theorem f162_of (k : Option Addr) (kind : Int) (length : Int) (arg : Int) (task : Int) (cycles : Int) {K : World → Prop} {w : World} (vc :
 WithAddr k fun a1 =>
 Ld (.ki .i64) (a1.add 9) (fun n2 w =>
 New [.int .i64 0, .int .i64 0, .int .i64 0, .int .i64 0, .int .i64 0, .int .i64 0] 66 (fun a3 w =>
 StN [.int .i64 kind, .int .i64 n2, .int .i64 length, .int .i64 arg, .int .i64 task, .int .i64 cycles] 0 a3 (fun w =>
 (fun w : World =>
 WithAddr k fun a4 =>
 Ld (.kp) (a4.add 28) (fun p5 w =>
 LdN shSleep.cs 0 a3 (fun n6 n7 n8 n9 n10 n11 w =>
 Call P 184 [.pointer p5, .agg #[.int .i64 n6, .int .i64 n7, .int .i64 n8, .int .i64 n9, .int .i64 n10, .int .i64 n11]] [] (fun w =>
 (fun w : World =>
 WithAddr k fun a12 =>
 LdN shMeter.cs 0 (a12.add 29) (fun n13 n14 n15 n16 w =>
 WithAddr k fun a17 =>
 LdN shPlat.cs 0 (a17.add 0) (fun s18 s19 s20 n21 n22 n23 n24 n25 n26 w =>
 LdN shSleep.cs 0 a3 (fun n27 n28 n29 n30 n31 n32 w =>
 Call P 185 [.agg #[.int .i64 n13, .int .i64 n14, .int .i64 n15, .int .i64 n16], .agg #[.slice s18.a s18.n s18.c, .slice s19.a s19.n s19.c, .slice s20.a s20.n s20.c, .int .i64 n21, .int .i64 n22, .int .i64 n23, .int .i64 n24, .int .i64 n25, .int .i64 n26], .agg #[.int .i64 n27, .int .i64 n28, .int .i64 n29, .int .i64 n30, .int .i64 n31, .int .i64 n32]] [shEvent] (fun n33 n34 n35 n36 w =>
 WithAddr k fun a37 =>
 StN [.int .i64 n33, .int .i64 n34, .int .i64 n35, .int .i64 n36] 0 (a37.add 29) (fun w =>
 WithAddr k fun a38 =>
 Ld (.ki .i64) (a38.add 9) (fun n39 w =>
 WithAddr k fun a40 =>
 StN [.int .i64 (IntKind.wrap .i64 (n39 + length))] 0 (a40.add 9) (fun w =>
 K w) w) w) w) w) w) w) w) w.drew) w) w) w) w.drew) w) w) w) : Call P 162 [.pointer k, .int .i64 kind, .int .i64 length, .int .i64 arg, .int .i64 task, .int .i64 cycles] [] K w :=
  call_of (H := ⟨[], [], [(1, .take 0 (.take 1 (.take 2 (.take 3 (.take 4 (.run 5 .done)))))), (2, .take 0 (.take 1 (.take 2 (.take 3 (.take 4 (.take 5 (.take 6 (.take 7 (.take 8 (.take 9 (.run 10 (.take 11 (.take 12 (.run 13 .done))))))))))))))], []⟩) Tryz.func162 (by kernel_rfl) (by kernel_rfl) vc

theorem f168_of (p : Plat) (tasks : Sl) (next : Sl) (now : Int) {K : Int → World → Prop} {w : World} (vc :
 New [.slice p.levels.a p.levels.n p.levels.c, .slice p.sleeps.a p.sleeps.n p.sleeps.c, .slice p.devices.a p.devices.n p.devices.c, .int .i64 p.idle, .int .i64 p.crit, .int .i64 p.switch, .int .i64 p.switchE, .int .i64 p.sems, .int .i64 p.horizon] 26 (fun a1 w =>
 LdN shPlat.cs 0 a1 (fun s2 s3 s4 n5 n6 n7 n8 n9 n10 w =>
 Call P 191 [.agg #[.slice s2.a s2.n s2.c, .slice s3.a s3.n s3.c, .slice s4.a s4.n s4.c, .int .i64 n5, .int .i64 n6, .int .i64 n7, .int .i64 n8, .int .i64 n9, .int .i64 n10], .slice tasks.a tasks.n tasks.c, .slice next.a next.n next.c, .slice none 0 0, .slice none 0 0, .int .i64 now, .int .i64 now] [sI] (fun n11 w =>
 Call P 194 [.int .i64 n11] [sI] (fun n12 w =>
 K (IntKind.wrap .i64 (now + (if 1024 < (if 0 > n12 then 0 else n12) then 1024 else (if 0 > n12 then 0 else n12)))) w) w) w) w) w) : Call P 168 [p.v, .slice tasks.a tasks.n tasks.c, .slice next.a next.n next.c, .int .i64 now] [sI] K w :=
  call_of (H := ⟨[], [], [], []⟩) Tryz.func168 (by kernel_rfl) (by kernel_rfl) vc

theorem f175_of (s : Sl) (v : Int) {K : Bool → World → Prop} {w : World} (vc :
 Call P 196 [.slice s.a s.n s.c, .int .i64 v] [sI] (fun n1 w =>
 K (decide (n1 ≥ 0)) w) w) : Call P 175 [.slice s.a s.n s.c, .int .i64 v] [sB] K w :=
  call_of (H := ⟨[], [], [], []⟩) Tryz.func175 (by kernel_rfl) (by kernel_rfl) vc

theorem f186_of (h : Held) (cap0 : Option Addr) {K : Bool → World → Prop} {w : World} (vc :
 New [.int .i64 h.task, .int .i64 h.sem, .int .i64 h.left] 76 (fun a1 w =>
 Ld (.ki .i64) (a1.add 0) (fun n2 w =>
 WithAddr cap0 fun a3 =>
 Ld (.ki .i64) a3 (fun n4 w =>
 If (n2 == n4) (
 Ld (.ki .i64) (a1.add 2) (fun n5 w =>
 K (decide (n5 ≤ 0)) w) w) (
 K false w)) w) w) w) : Call P 186 [h.v, .pointer cap0] [sB] K w :=
  call_of (H := ⟨[], [], [], []⟩) Tryz.func186 (by kernel_rfl) (by kernel_rfl) vc

theorem f193_of (k : Option Addr) {K : Int → World → Prop} {w : World} (vc :
 WithAddr k fun a1 =>
 Ld (.ki .i64) (a1.add 11) (fun n2 w =>
 If (n2 != 3) (
 (fun w : World =>
 WithAddr k fun a3 =>
 LdN shPlat.cs 0 (a3.add 0) (fun s4 s5 s6 n7 n8 n9 n10 n11 n12 w =>
 Call P 96 [.pointer k] [sS] (fun s13 w =>
 (w.cell? ((a3.add 0).add 0) = some (.slice s4.a s4.n s4.c) ∧ w.cell? ((a3.add 0).add 1) = some (.slice s5.a s5.n s5.c) ∧ w.cell? ((a3.add 0).add 2) = some (.slice s6.a s6.n s6.c) ∧ w.cell? ((a3.add 0).add 3) = some (.int .i64 n7) ∧ w.cell? ((a3.add 0).add 4) = some (.int .i64 n8) ∧ w.cell? ((a3.add 0).add 5) = some (.int .i64 n9) ∧ w.cell? ((a3.add 0).add 6) = some (.int .i64 n10) ∧ w.cell? ((a3.add 0).add 7) = some (.int .i64 n11) ∧ w.cell? ((a3.add 0).add 8) = some (.int .i64 n12)) ∧ Call P 207 [.agg #[.slice s4.a s4.n s4.c, .slice s5.a s5.n s5.c, .slice s6.a s6.n s6.c, .int .i64 n7, .int .i64 n8, .int .i64 n9, .int .i64 n10, .int .i64 n11, .int .i64 n12], .slice s13.a s13.n s13.c] [sI] (fun n14 w =>
 K n14 w) w) w) w) w.drew) (
 WithAddr k fun a15 =>
 Ld (.ks) (a15.add 14) (fun s16 w =>
 ∃ (I19 : Sl → Int → World → Prop) (M20 : Sl → Int → World → Nat), I19 ⟨none, 0, 0⟩ 0 w ∧ ∀ (s17 : Sl) (n18 : Int) (v21 : World), I19 s17 n18 v21 → ∀ _ : Nat → Value,
 (fun w : World =>
 If (decide (n18 < ((s16.n : Nat) : Int))) (
 ((0 : Int) ≤ n18 ∧ n18 < ((s16.n : Nat) : Int)) ∧ WithAddr s16.a fun a22 =>
 LdN shTask.cs 0 (a22.add (Int.toNat n18 * 4)) (fun n23 n24 s25 s26 w =>
 New [.int .i64 0, .int .i64 0, .slice none 0 0, .slice none 0 0] 37 (fun a27 w =>
 StN [.int .i64 n23, .int .i64 n24, .slice s25.a s25.n s25.c, .slice s26.a s26.n s26.c] 0 a27 (fun w =>
 Ld (.ki .i64) (a27.add 0) (fun n28 w =>
 If (decide (n28 > 0)) (
 WithAddr k fun a29 =>
 Ld (.ks) (a29.add 16) (fun s30 w =>
 ((0 : Int) ≤ n18 ∧ n18 < ((s30.n : Nat) : Int)) ∧ WithAddr s30.a fun a31 =>
 Ld (.ki .i64) (a31.add (Int.toNat n18 * 1)) (fun n32 w =>
 New [.int .i64 n32] 3 (fun a33 w =>
 Sm P (Builtin.append_ #[35, 35] 35 [.slice s17.a s17.n s17.c, .slice (some a33) 1 1].toArray) [sS] (fun s34 w =>
 I19 s34 (IntKind.wrap .i64 (n18 + 1)) w ∧ M20 s34 (IntKind.wrap .i64 (n18 + 1)) w < M20 s17 n18 v21) w) w) w) w) (
 I19 s17 (IntKind.wrap .i64 (n18 + 1)) w ∧ M20 s17 (IntKind.wrap .i64 (n18 + 1)) w < M20 s17 n18 v21)) w) w) w) w) (
 (fun w : World =>
 WithAddr k fun a35 =>
 LdN shPlat.cs 0 (a35.add 0) (fun s36 s37 s38 n39 n40 n41 n42 n43 n44 w =>
 Call P 96 [.pointer k] [sS] (fun s45 w =>
 (w.cell? ((a35.add 0).add 0) = some (.slice s36.a s36.n s36.c) ∧ w.cell? ((a35.add 0).add 1) = some (.slice s37.a s37.n s37.c) ∧ w.cell? ((a35.add 0).add 2) = some (.slice s38.a s38.n s38.c) ∧ w.cell? ((a35.add 0).add 3) = some (.int .i64 n39) ∧ w.cell? ((a35.add 0).add 4) = some (.int .i64 n40) ∧ w.cell? ((a35.add 0).add 5) = some (.int .i64 n41) ∧ w.cell? ((a35.add 0).add 6) = some (.int .i64 n42) ∧ w.cell? ((a35.add 0).add 7) = some (.int .i64 n43) ∧ w.cell? ((a35.add 0).add 8) = some (.int .i64 n44)) ∧ Call P 208 [.agg #[.slice s36.a s36.n s36.c, .slice s37.a s37.n s37.c, .slice s38.a s38.n s38.c, .int .i64 n39, .int .i64 n40, .int .i64 n41, .int .i64 n42, .int .i64 n43, .int .i64 n44], .slice s45.a s45.n s45.c, .slice s17.a s17.n s17.c] [sI] (fun n46 w =>
 K n46 w) w) w) w) w.drew)) v21) w)) w) : Call P 193 [.pointer k] [sI] K w :=
  call_of (H := ⟨[(5, [(3, .ks), (23, .ki .i64)])], [], [(2, .take 0 (.take 1 (.take 2 (.take 3 (.take 4 (.run 5 (.run 6 (.take 7 .done)))))))), (10, .take 0 (.take 1 (.take 2 (.take 3 (.take 4 (.take 6 (.run 5 (.run 7 (.take 8 .done)))))))))], []⟩) Tryz.func193 (by kernel_rfl) (by kernel_rfl) vc

theorem f200_of (a : Interval) (b : Interval) {K : Int → Int → Int → Int → Int → Int → Bool → World → Prop} {w : World} (vc :
 New [.int .i64 a.kind, .int .i64 a.from_, .int .i64 a.len, .int .i64 a.arg, .int .i64 a.task, .int .i64 a.cycles] 66 (fun a1 w =>
 New [.int .i64 b.kind, .int .i64 b.from_, .int .i64 b.len, .int .i64 b.arg, .int .i64 b.task, .int .i64 b.cycles] 66 (fun a2 w =>
 New [.int .i64 0, .int .i64 0, .int .i64 0, .int .i64 0, .int .i64 0, .int .i64 0] 66 (fun a3 w =>
 Ld (.ki .i64) (a1.add 0) (fun n4 w =>
 If (n4 == 1) (
 Ld (.ki .i64) (a1.add 0) (fun n5 w =>
 Ld (.ki .i64) (a2.add 0) (fun n6 w =>
 If (n5 != n6) (
 StN [.int .i64 0, .int .i64 0, .int .i64 0, .int .i64 0, .int .i64 0, .int .i64 0] 0 a3 (fun w =>
 LdN shSleep.cs 0 a3 (fun n7 n8 n9 n10 n11 n12 w =>
 K n7 n8 n9 n10 n11 n12 false w) w) w) (
 Ld (.ki .i64) (a1.add 3) (fun n13 w =>
 Ld (.ki .i64) (a2.add 3) (fun n14 w =>
 If (n13 != n14) (
 StN [.int .i64 0, .int .i64 0, .int .i64 0, .int .i64 0, .int .i64 0, .int .i64 0] 0 a3 (fun w =>
 LdN shSleep.cs 0 a3 (fun n15 n16 n17 n18 n19 n20 w =>
 K n15 n16 n17 n18 n19 n20 false w) w) w) (
 Ld (.ki .i64) (a1.add 4) (fun n21 w =>
 Ld (.ki .i64) (a2.add 4) (fun n22 w =>
 If (n21 != n22) (
 StN [.int .i64 0, .int .i64 0, .int .i64 0, .int .i64 0, .int .i64 0, .int .i64 0] 0 a3 (fun w =>
 LdN shSleep.cs 0 a3 (fun n23 n24 n25 n26 n27 n28 w =>
 K n23 n24 n25 n26 n27 n28 false w) w) w) (
 Ld (.ki .i64) (a2.add 1) (fun n29 w =>
 Ld (.ki .i64) (a1.add 1) (fun n30 w =>
 Ld (.ki .i64) (a1.add 2) (fun n31 w =>
 If (n29 != (IntKind.wrap .i64 (n30 + n31))) (
 StN [.int .i64 0, .int .i64 0, .int .i64 0, .int .i64 0, .int .i64 0, .int .i64 0] 0 a3 (fun w =>
 LdN shSleep.cs 0 a3 (fun n32 n33 n34 n35 n36 n37 w =>
 K n32 n33 n34 n35 n36 n37 false w) w) w) (
 (fun w : World =>
 Ld (.ki .i64) (a1.add 2) (fun n38 w =>
 Ld (.ki .i64) (a2.add 2) (fun n39 w =>
 Ld (.ki .i64) (a1.add 5) (fun n40 w =>
 Ld (.ki .i64) (a2.add 5) (fun n41 w =>
 StN [.int .i64 (IntKind.wrap .i64 (n38 + n39))] 0 (a1.add 2) (fun w =>
 (w.cell? ((a2.add 5).add 0) = some (.int .i64 n41)) ∧ StN [.int .i64 (IntKind.wrap .i64 (n40 + n41))] 0 (a1.add 5) (fun w =>
 LdN shSleep.cs 0 a1 (fun n42 n43 n44 n45 n46 n47 w =>
 StN [.int .i64 n42, .int .i64 n43, .int .i64 n44, .int .i64 n45, .int .i64 n46, .int .i64 n47] 0 a3 (fun w =>
 LdN shSleep.cs 0 a3 (fun n48 n49 n50 n51 n52 n53 w =>
 K n48 n49 n50 n51 n52 n53 true w) w) w) w) w) w) w) w) w) w) w.drew)) w) w) w)) w) w)) w) w)) w) w) (
 Ld (.ki .i64) (a1.add 0) (fun n54 w =>
 If (n54 == 2) (
 Ld (.ki .i64) (a1.add 0) (fun n55 w =>
 Ld (.ki .i64) (a2.add 0) (fun n56 w =>
 If (n55 != n56) (
 StN [.int .i64 0, .int .i64 0, .int .i64 0, .int .i64 0, .int .i64 0, .int .i64 0] 0 a3 (fun w =>
 LdN shSleep.cs 0 a3 (fun n57 n58 n59 n60 n61 n62 w =>
 K n57 n58 n59 n60 n61 n62 false w) w) w) (
 Ld (.ki .i64) (a1.add 3) (fun n63 w =>
 Ld (.ki .i64) (a2.add 3) (fun n64 w =>
 If (n63 != n64) (
 StN [.int .i64 0, .int .i64 0, .int .i64 0, .int .i64 0, .int .i64 0, .int .i64 0] 0 a3 (fun w =>
 LdN shSleep.cs 0 a3 (fun n65 n66 n67 n68 n69 n70 w =>
 K n65 n66 n67 n68 n69 n70 false w) w) w) (
 Ld (.ki .i64) (a1.add 4) (fun n71 w =>
 Ld (.ki .i64) (a2.add 4) (fun n72 w =>
 If (n71 != n72) (
 StN [.int .i64 0, .int .i64 0, .int .i64 0, .int .i64 0, .int .i64 0, .int .i64 0] 0 a3 (fun w =>
 LdN shSleep.cs 0 a3 (fun n73 n74 n75 n76 n77 n78 w =>
 K n73 n74 n75 n76 n77 n78 false w) w) w) (
 Ld (.ki .i64) (a2.add 1) (fun n79 w =>
 Ld (.ki .i64) (a1.add 1) (fun n80 w =>
 Ld (.ki .i64) (a1.add 2) (fun n81 w =>
 If (n79 != (IntKind.wrap .i64 (n80 + n81))) (
 StN [.int .i64 0, .int .i64 0, .int .i64 0, .int .i64 0, .int .i64 0, .int .i64 0] 0 a3 (fun w =>
 LdN shSleep.cs 0 a3 (fun n82 n83 n84 n85 n86 n87 w =>
 K n82 n83 n84 n85 n86 n87 false w) w) w) (
 (fun w : World =>
 Ld (.ki .i64) (a1.add 2) (fun n88 w =>
 Ld (.ki .i64) (a2.add 2) (fun n89 w =>
 Ld (.ki .i64) (a1.add 5) (fun n90 w =>
 Ld (.ki .i64) (a2.add 5) (fun n91 w =>
 StN [.int .i64 (IntKind.wrap .i64 (n88 + n89))] 0 (a1.add 2) (fun w =>
 (w.cell? ((a2.add 5).add 0) = some (.int .i64 n91)) ∧ StN [.int .i64 (IntKind.wrap .i64 (n90 + n91))] 0 (a1.add 5) (fun w =>
 LdN shSleep.cs 0 a1 (fun n92 n93 n94 n95 n96 n97 w =>
 StN [.int .i64 n92, .int .i64 n93, .int .i64 n94, .int .i64 n95, .int .i64 n96, .int .i64 n97] 0 a3 (fun w =>
 LdN shSleep.cs 0 a3 (fun n98 n99 n100 n101 n102 n103 w =>
 K n98 n99 n100 n101 n102 n103 true w) w) w) w) w) w) w) w) w) w) w.drew)) w) w) w)) w) w)) w) w)) w) w) (
 Ld (.ki .i64) (a1.add 0) (fun n104 w =>
 If (!(n104 == 5)) (
 StN [.int .i64 0, .int .i64 0, .int .i64 0, .int .i64 0, .int .i64 0, .int .i64 0] 0 a3 (fun w =>
 LdN shSleep.cs 0 a3 (fun n105 n106 n107 n108 n109 n110 w =>
 K n105 n106 n107 n108 n109 n110 false w) w) w) (
 Ld (.ki .i64) (a1.add 0) (fun n111 w =>
 Ld (.ki .i64) (a2.add 0) (fun n112 w =>
 If (n111 != n112) (
 StN [.int .i64 0, .int .i64 0, .int .i64 0, .int .i64 0, .int .i64 0, .int .i64 0] 0 a3 (fun w =>
 LdN shSleep.cs 0 a3 (fun n113 n114 n115 n116 n117 n118 w =>
 K n113 n114 n115 n116 n117 n118 false w) w) w) (
 Ld (.ki .i64) (a1.add 3) (fun n119 w =>
 Ld (.ki .i64) (a2.add 3) (fun n120 w =>
 If (n119 != n120) (
 StN [.int .i64 0, .int .i64 0, .int .i64 0, .int .i64 0, .int .i64 0, .int .i64 0] 0 a3 (fun w =>
 LdN shSleep.cs 0 a3 (fun n121 n122 n123 n124 n125 n126 w =>
 K n121 n122 n123 n124 n125 n126 false w) w) w) (
 Ld (.ki .i64) (a1.add 4) (fun n127 w =>
 Ld (.ki .i64) (a2.add 4) (fun n128 w =>
 If (n127 != n128) (
 StN [.int .i64 0, .int .i64 0, .int .i64 0, .int .i64 0, .int .i64 0, .int .i64 0] 0 a3 (fun w =>
 LdN shSleep.cs 0 a3 (fun n129 n130 n131 n132 n133 n134 w =>
 K n129 n130 n131 n132 n133 n134 false w) w) w) (
 Ld (.ki .i64) (a2.add 1) (fun n135 w =>
 Ld (.ki .i64) (a1.add 1) (fun n136 w =>
 Ld (.ki .i64) (a1.add 2) (fun n137 w =>
 If (n135 != (IntKind.wrap .i64 (n136 + n137))) (
 StN [.int .i64 0, .int .i64 0, .int .i64 0, .int .i64 0, .int .i64 0, .int .i64 0] 0 a3 (fun w =>
 LdN shSleep.cs 0 a3 (fun n138 n139 n140 n141 n142 n143 w =>
 K n138 n139 n140 n141 n142 n143 false w) w) w) (
 (fun w : World =>
 Ld (.ki .i64) (a1.add 2) (fun n144 w =>
 Ld (.ki .i64) (a2.add 2) (fun n145 w =>
 Ld (.ki .i64) (a1.add 5) (fun n146 w =>
 Ld (.ki .i64) (a2.add 5) (fun n147 w =>
 StN [.int .i64 (IntKind.wrap .i64 (n144 + n145))] 0 (a1.add 2) (fun w =>
 (w.cell? ((a2.add 5).add 0) = some (.int .i64 n147)) ∧ StN [.int .i64 (IntKind.wrap .i64 (n146 + n147))] 0 (a1.add 5) (fun w =>
 LdN shSleep.cs 0 a1 (fun n148 n149 n150 n151 n152 n153 w =>
 StN [.int .i64 n148, .int .i64 n149, .int .i64 n150, .int .i64 n151, .int .i64 n152, .int .i64 n153] 0 a3 (fun w =>
 LdN shSleep.cs 0 a3 (fun n154 n155 n156 n157 n158 n159 w =>
 K n154 n155 n156 n157 n158 n159 true w) w) w) w) w) w) w) w) w) w) w.drew)) w) w) w)) w) w)) w) w)) w) w)) w)) w)) w) w) w) w) : Call P 200 [a.v, b.v] [shInterval, sB] K w :=
  call_of (H := ⟨[], [], [(4, .take 0 (.take 1 (.take 2 (.take 3 (.take 4 (.take 5 (.take 6 (.take 7 (.take 8 (.take 9 (.take 10 (.run 11 (.take 12 (.run 13 .done))))))))))))))], []⟩) Tryz.func200 (by kernel_rfl) (by kernel_rfl) vc

theorem f207_of (p : Plat) (tasks : Sl) {K : Int → World → Prop} {w : World} (vc :
 New [.slice p.levels.a p.levels.n p.levels.c, .slice p.sleeps.a p.sleeps.n p.sleeps.c, .slice p.devices.a p.devices.n p.devices.c, .int .i64 p.idle, .int .i64 p.crit, .int .i64 p.switch, .int .i64 p.switchE, .int .i64 p.sems, .int .i64 p.horizon] 26 (fun a1 w =>
 ∃ (I4 : Int → Int → World → Prop) (M5 : Int → Int → World → Nat), I4 0 1 w ∧ ∀ (n2 : Int) (n3 : Int) (v6 : World), I4 n2 n3 v6 → ∀ _ : Nat → Value,
 (fun w : World =>
 Ld (.ki .i64) (a1.add 4) (fun n7 w =>
 If (decide (n3 ≤ n7)) (
 LdN shPlat.cs 0 a1 (fun s8 s9 s10 n11 n12 n13 n14 n15 n16 w =>
 Call P 126 [.agg #[.slice s8.a s8.n s8.c, .slice s9.a s9.n s9.c, .slice s10.a s10.n s10.c, .int .i64 n11, .int .i64 n12, .int .i64 n13, .int .i64 n14, .int .i64 n15, .int .i64 n16], .slice tasks.a tasks.n tasks.c, .int .i64 n3] [sI] (fun n17 w =>
 If (decide (n17 ≤ 4294967296)) (
 I4 n3 (IntKind.wrap .i64 (n3 + 1)) w ∧ M5 n3 (IntKind.wrap .i64 (n3 + 1)) w < M5 n2 n3 v6) (
 I4 n2 (IntKind.wrap .i64 (n3 + 1)) w ∧ M5 n2 (IntKind.wrap .i64 (n3 + 1)) w < M5 n2 n3 v6)) w) w) (
 K n2 w)) w) v6) w) : Call P 207 [p.v, .slice tasks.a tasks.n tasks.c] [sI] K w :=
  call_of (H := ⟨[(3, [(5, .ki .i64), (6, .ki .i64)])], [], [], []⟩) Tryz.func207 (by kernel_rfl) (by kernel_rfl) vc

theorem f213_of (v : Option Addr) (x1 : Int) {K : Int → World → Prop} {w : World} (vc :
 WithAddr v fun a1 =>
 Ld (.ks) (a1.add 12) (fun s2 w =>
 ∃ (I5 : Int → Int → World → Prop) (M6 : Int → Int → World → Nat), I5 0 0 w ∧ ∀ (n3 : Int) (n4 : Int) (v7 : World), I5 n3 n4 v7 → ∀ _ : Nat → Value,
 (fun w : World =>
 If (decide (n4 < ((s2.n : Nat) : Int))) (
 ((0 : Int) ≤ n4 ∧ n4 < ((s2.n : Nat) : Int)) ∧ WithAddr s2.a fun a8 =>
 LdN shHeld.cs 0 (a8.add (Int.toNat n4 * 3)) (fun n9 n10 n11 w =>
 New [.int .i64 0, .int .i64 0, .int .i64 0] 76 (fun a12 w =>
 StN [.int .i64 n9, .int .i64 n10, .int .i64 n11] 0 a12 (fun w =>
 Ld (.ki .i64) (a12.add 0) (fun n13 w =>
 Call P 216 [.pointer v, .int .i64 n13] [sI, sB] (fun n14 b15 w =>
 If b15 (
 If (decide (n14 > x1)) (
 LdN shHeld.cs 0 a12 (fun n16 n17 n18 w =>
 Call P 217 [.pointer v, .agg #[.int .i64 n16, .int .i64 n17, .int .i64 n18], .int .i64 x1] [sI] (fun n19 w =>
 I5 (if n19 > n3 then n19 else n3) (IntKind.wrap .i64 (n4 + 1)) w ∧ M6 (if n19 > n3 then n19 else n3) (IntKind.wrap .i64 (n4 + 1)) w < M6 n3 n4 v7) w) w) (
 I5 n3 (IntKind.wrap .i64 (n4 + 1)) w ∧ M6 n3 (IntKind.wrap .i64 (n4 + 1)) w < M6 n3 n4 v7)) (
 I5 n3 (IntKind.wrap .i64 (n4 + 1)) w ∧ M6 n3 (IntKind.wrap .i64 (n4 + 1)) w < M6 n3 n4 v7)) w) w) w) w) w) (
 K n3 w)) v7) w) : Call P 213 [.pointer v, .int .i64 x1] [sI] K w :=
  call_of (H := ⟨[(3, [(5, .ki .i64), (15, .ki .i64)])], [], [], []⟩) Tryz.func213 (by kernel_rfl) (by kernel_rfl) vc

theorem f97a_of (s : Sl) {K : Int → World → Prop} {w : World} (vc :
 ∃ (I2 : Int → World → Prop) (M3 : Int → World → Nat), I2 0 w ∧ ∀ (n1 : Int) (v4 : World), I2 n1 v4 → ∀ _ : Nat → Value,
 (fun w : World =>
 If (decide (n1 < ((s.n : Nat) : Int))) (
 ((0 : Int) ≤ n1 ∧ n1 < ((s.n : Nat) : Int)) ∧ WithAddr s.a fun a5 =>
 LdN shTask.cs 0 (a5.add (Int.toNat n1 * 4)) (fun n6 n7 s8 s9 w =>
 Call P 98 [.agg #[.int .i64 n6, .int .i64 n7, .slice s8.a s8.n s8.c, .slice s9.a s9.n s9.c]] [sB] (fun b10 w =>
 If b10 (
 K n1 w) (
 I2 (IntKind.wrap .i64 (n1 + 1)) w ∧ M3 (IntKind.wrap .i64 (n1 + 1)) w < M3 n1 v4)) w) w) (
 K (-1) w)) v4) : Call P 97 [.slice s.a s.n s.c, .func (.func 98) #[] #[]] [sI] K w :=
  call_of (H := ⟨[(2, [(8, .ki .i64)])], [], [], []⟩) Tryz.func97 (by kernel_rfl) (by kernel_rfl) vc

theorem f74_of (x : Sl) {K : World → Prop} {w : World} (vc :
 Call P 118 [.int .u64 (IntKind.wrap .u64 ((x.n : Nat) : Int))] [sI] (fun n1 w =>
 Call P 117 [.slice x.a x.n x.c, .int .i64 0, .int .i64 ((x.n : Nat) : Int), .int .i64 n1, .func (.func 75) #[] #[]] [] (fun w =>
 K w) w) w) : Call P 74 [.slice x.a x.n x.c, .func (.func 75) #[] #[]] [] K w :=
  call_of (H := ⟨[], [], [], []⟩) Tryz.func74 (by kernel_rfl) (by kernel_rfl) vc

theorem f172o_of (s : Sl) (c : Option Addr) {K : Int → World → Prop} {w : World} (vc :
 ∃ (I2 : Int → World → Prop) (M3 : Int → World → Nat), I2 0 w ∧ ∀ (n1 : Int) (v4 : World), I2 n1 v4 → ∀ _ : Nat → Value,
 (fun w : World =>
 If (decide (n1 < ((s.n : Nat) : Int))) (
 ((0 : Int) ≤ n1 ∧ n1 < ((s.n : Nat) : Int)) ∧ WithAddr s.a fun a5 =>
 LdN shHeld.cs 0 (a5.add (Int.toNat n1 * 3)) (fun n6 n7 n8 w =>
 Call P 186 [.agg #[.int .i64 n6, .int .i64 n7, .int .i64 n8], .pointer c] [sB] (fun b9 w =>
 If b9 (
 K n1 w) (
 I2 (IntKind.wrap .i64 (n1 + 1)) w ∧ M3 (IntKind.wrap .i64 (n1 + 1)) w < M3 n1 v4)) w) w) (
 K (-1) w)) v4) : Call P 172 [.slice s.a s.n s.c, .func (.func 186) #[] #[.pointer c]] [sI] K w :=
  call_of (H := ⟨[(2, [(8, .ki .i64)])], [], [], []⟩) Tryz.func172 (by kernel_rfl) (by kernel_rfl) vc

end Go.Proofs.YtajilfnceoeaiaaGreat.V
/- Propositions of function bodies (printed by gen.py). -/
namespace Go.Proofs.YtajilfnceoeaiaaGreat.V
open Go
set_option linter.unusedVariables false
set_option maxRecDepth 100000
theorem f11_of (p : Plat) {K : Option Addr → World → Prop} {w : World} (vc :
 New [.slice p.levels.a p.levels.n p.levels.c, .slice p.sleeps.a p.sleeps.n p.sleeps.c, .slice p.devices.a p.devices.n p.devices.c, .int .i64 p.idle, .int .i64 p.crit, .int .i64 p.switch, .int .i64 p.switchE, .int .i64 p.sems, .int .i64 p.horizon] 26 (fun a1 w =>
 LdN shPlat.cs 0 a1 (fun s2 s3 s4 n5 n6 n7 n8 n9 n10 w =>
 Call P 34 [.agg #[.slice s2.a s2.n s2.c, .slice s3.a s3.n s3.c, .slice s4.a s4.n s4.c, .int .i64 n5, .int .i64 n6, .int .i64 n7, .int .i64 n8, .int .i64 n9, .int .i64 n10]] [sB] (fun b11 w =>
 If (!b11) (
 K none w) (
 LdN shPlat.cs 0 a1 (fun s12 s13 s14 n15 n16 n17 n18 n19 n20 w =>
 Call P 35 [.agg #[.slice s12.a s12.n s12.c, .slice s13.a s13.n s13.c, .slice s14.a s14.n s14.c, .int .i64 n15, .int .i64 n16, .int .i64 n17, .int .i64 n18, .int .i64 n19, .int .i64 n20]] [sP, sI] (fun p21 n22 w =>
 If (n22 != 0) (
 K none w) (
 K p21 w)) w) w)) w) w) w) : Call P 11 [p.v] [sP] K w :=
  call_of (H := ⟨[], [], [], []⟩) Tryz.func11 (by kernel_rfl) (by kernel_rfl) vc

theorem f17_of (k : Option Addr) {K : Sl → World → Prop} {w : World} (vc :
 If (Option.isNone k) (
 K ⟨none, 0, 0⟩ w) (
 WithAddr k fun a1 =>
 Ld (.kp) (a1.add 17) (fun p2 w =>
 Call P 40 [.pointer p2] [sS] (fun s3 w =>
 K s3 w) w) w)) : Call P 17 [.pointer k] [sS] K w :=
  call_of (H := ⟨[], [], [], []⟩) Tryz.func17 (by kernel_rfl) (by kernel_rfl) vc

theorem f23_of (k : Option Addr) {K : Bool → World → Prop} {w : World} (vc :
 If (!(Option.isNone k)) (
 WithAddr k fun a1 =>
 Ld (.kb) (a1.add 25) (fun b2 w =>
 K b2 w) w) (
 K false w)) : Call P 23 [.pointer k] [sB] K w :=
  call_of (H := ⟨[], [], [], []⟩) Tryz.func23 (by kernel_rfl) (by kernel_rfl) vc

theorem f29_of (k : Option Addr) {K : Int → World → Prop} {w : World} (vc :
 If (Option.isNone k) (
 K 0 w) (
 WithAddr k fun a1 =>
 Ld (.ki .i64) (a1.add 10) (fun n2 w =>
 K n2 w) w)) : Call P 29 [.pointer k] [sI] K w :=
  call_of (H := ⟨[], [], [], []⟩) Tryz.func29 (by kernel_rfl) (by kernel_rfl) vc

theorem f36_of (k : Option Addr) (x : Step) {K : Int → Int → World → Prop} {w : World} (vc :
 New [.int .i64 x.kind, .int .i64 x.a, .int .i64 x.b, .int .i64 x.c, .int .i64 x.period, .int .i64 x.cycles, .slice x.sec.a x.sec.n x.sec.c, .slice x.devs.a x.devs.n x.devs.c] 39 (fun a1 w =>
 Ld (.ki .i64) (a1.add 0) (fun n2 w =>
 If (n2 == 1) (
 LdN shTask.cs 0 (a1.add 4) (fun n3 n4 s5 s6 w =>
 Call P 61 [.pointer k, .agg #[.int .i64 n3, .int .i64 n4, .slice s5.a s5.n s5.c, .slice s6.a s6.n s6.c]] [sI, sI] (fun n7 n8 w =>
 K n7 n8 w) w) w) (
 If (n2 == 2) (
 Ld (.ki .i64) (a1.add 1) (fun n9 w =>
 Call P 62 [.pointer k, .int .i64 n9] [sI] (fun n10 w =>
 K 0 n10 w) w) w) (
 If (n2 == 3) (
 Ld (.ki .i64) (a1.add 1) (fun n11 w =>
 Ld (.ki .i64) (a1.add 2) (fun n12 w =>
 Ld (.ki .i64) (a1.add 3) (fun n13 w =>
 Call P 63 [.pointer k, .int .i64 n11, .int .i64 n12, .int .i64 n13] [sI] (fun n14 w =>
 K 0 n14 w) w) w) w) w) (
 If (n2 == 4) (
 Ld (.ki .i64) (a1.add 1) (fun n15 w =>
 Call P 64 [.pointer k, .int .i64 n15] [sI] (fun n16 w =>
 K 0 n16 w) w) w) (
 If (n2 == 5) (
 If (n2 == 5) (
 Ld (.ki .i64) (a1.add 1) (fun n17 w =>
 Ld (.ki .i64) (a1.add 0) (fun n18 w =>
 Call P 65 [.pointer k, .int .i64 n17, .bool (n18 == 6)] [sI] (fun n19 w =>
 K 0 n19 w) w) w) w) (
 If (n2 == 7) (
 Ld (.ki .i64) (a1.add 1) (fun n20 w =>
 Ld (.ki .i64) (a1.add 2) (fun n21 w =>
 Call P 66 [.pointer k, .int .i64 n20, .int .i64 n21] [sI] (fun n22 w =>
 K 0 n22 w) w) w) w) (
 If (n2 == 8) (
 If (n2 == 8) (
 LdN shStep.cs 0 a1 (fun n23 n24 n25 n26 n27 n28 s29 s30 w =>
 Call P 67 [.pointer k, .agg #[.int .i64 n23, .int .i64 n24, .int .i64 n25, .int .i64 n26, .int .i64 n27, .int .i64 n28, .slice s29.a s29.n s29.c, .slice s30.a s30.n s30.c]] [sI] (fun n31 w =>
 K 0 n31 w) w) w) (
 K 0 1 w)) (
 If (n2 == 9) (
 LdN shStep.cs 0 a1 (fun n32 n33 n34 n35 n36 n37 s38 s39 w =>
 Call P 67 [.pointer k, .agg #[.int .i64 n32, .int .i64 n33, .int .i64 n34, .int .i64 n35, .int .i64 n36, .int .i64 n37, .slice s38.a s38.n s38.c, .slice s39.a s39.n s39.c]] [sI] (fun n40 w =>
 K 0 n40 w) w) w) (
 K 0 1 w))))) (
 If (n2 == 6) (
 Ld (.ki .i64) (a1.add 1) (fun n41 w =>
 Ld (.ki .i64) (a1.add 0) (fun n42 w =>
 Call P 65 [.pointer k, .int .i64 n41, .bool (n42 == 6)] [sI] (fun n43 w =>
 K 0 n43 w) w) w) w) (
 If (n2 == 7) (
 Ld (.ki .i64) (a1.add 1) (fun n44 w =>
 Ld (.ki .i64) (a1.add 2) (fun n45 w =>
 Call P 66 [.pointer k, .int .i64 n44, .int .i64 n45] [sI] (fun n46 w =>
 K 0 n46 w) w) w) w) (
 If (n2 == 8) (
 If (n2 == 8) (
 LdN shStep.cs 0 a1 (fun n47 n48 n49 n50 n51 n52 s53 s54 w =>
 Call P 67 [.pointer k, .agg #[.int .i64 n47, .int .i64 n48, .int .i64 n49, .int .i64 n50, .int .i64 n51, .int .i64 n52, .slice s53.a s53.n s53.c, .slice s54.a s54.n s54.c]] [sI] (fun n55 w =>
 K 0 n55 w) w) w) (
 K 0 1 w)) (
 If (n2 == 9) (
 LdN shStep.cs 0 a1 (fun n56 n57 n58 n59 n60 n61 s62 s63 w =>
 Call P 67 [.pointer k, .agg #[.int .i64 n56, .int .i64 n57, .int .i64 n58, .int .i64 n59, .int .i64 n60, .int .i64 n61, .slice s62.a s62.n s62.c, .slice s63.a s63.n s63.c]] [sI] (fun n64 w =>
 K 0 n64 w) w) w) (
 K 0 1 w)))))))))) w) w) : Call P 36 [.pointer k, x.v] [sI, sI] K w :=
  call_of (H := ⟨[], [], [], []⟩) Tryz.func36 (by kernel_rfl) (by kernel_rfl) vc

theorem f42_of (s : Sl) {K : Sl → World → Prop} {w : World} (vc :
 Sm P (Instr.sliceAt 54 (.slice s.a s.n s.c) none (some (.int .i64 ((s.n : Nat) : Int))) (some (.int .i64 ((s.n : Nat) : Int)))) [sS] (fun s1 w =>
 K s1 w) w) : Call P 42 [.slice s.a s.n s.c] [sS] K w :=
  call_of (H := ⟨[], [], [], []⟩) Tryz.func42 (by kernel_rfl) (by kernel_rfl) vc

theorem f48_of (l : Option Addr) {K : Sl → World → Prop} {w : World} (vc :
 If (Option.isNone l) (
 K ⟨none, 0, 0⟩ w) (
 WithAddr l fun a1 =>
 Ld (.ks) (a1.add 0) (fun s2 w =>
 Call P 79 [.slice s2.a s2.n s2.c] [sS] (fun s3 w =>
 Call P 78 [.slice s3.a s3.n s3.c] [sS] (fun s4 w =>
 K s4 w) w) w) w)) : Call P 48 [.pointer l] [sS] K w :=
  call_of (H := ⟨[], [], [], []⟩) Tryz.func48 (by kernel_rfl) (by kernel_rfl) vc

theorem f54_of (p : Plat) {K : Int → World → Prop} {w : World} (vc :
 New [.slice p.levels.a p.levels.n p.levels.c, .slice p.sleeps.a p.sleeps.n p.sleeps.c, .slice p.devices.a p.devices.n p.devices.c, .int .i64 p.idle, .int .i64 p.crit, .int .i64 p.switch, .int .i64 p.switchE, .int .i64 p.sems, .int .i64 p.horizon] 26 (fun a1 w =>
 Ld (.ki .i64) (a1.add 3) (fun n2 w =>
 Call P 84 [.int .i64 n2] [sB] (fun b3 w =>
 If b3 (
 LdN shPlat.cs 0 a1 (fun s4 s5 s6 n7 n8 n9 n10 n11 n12 w =>
 Call P 85 [.agg #[.slice s4.a s4.n s4.c, .slice s5.a s5.n s5.c, .slice s6.a s6.n s6.c, .int .i64 n7, .int .i64 n8, .int .i64 n9, .int .i64 n10, .int .i64 n11, .int .i64 n12]] [sB] (fun b13 w =>
 If b13 (
 Ld (.ki .i64) (a1.add 5) (fun n14 w =>
 Call P 86 [.int .i64 n14] [sB] (fun b15 w =>
 If b15 (
 Ld (.ki .i64) (a1.add 6) (fun n16 w =>
 Call P 84 [.int .i64 n16] [sB] (fun b17 w =>
 If b17 (
 Ld (.ks) (a1.add 1) (fun s18 w =>
 If (decide (((s18.n : Nat) : Int) ≤ 3)) (
 Ld (.ks) (a1.add 2) (fun s19 w =>
 If (decide (((s19.n : Nat) : Int) ≤ 3)) (
 Ld (.ki .i64) (a1.add 7) (fun n20 w =>
 Call P 87 [.int .i64 n20, .int .i64 0, .int .i64 3] [sB] (fun b21 w =>
 If b21 (
 Ld (.ki .i64) (a1.add 8) (fun n22 w =>
 Call P 87 [.int .i64 n22, .int .i64 1, .int .i64 16384] [sB] (fun b23 w =>
 Ld (.ks) (a1.add 1) (fun s24 w =>
 ∃ (I27 : Bool → Int → World → Prop) (M28 : Bool → Int → World → Nat), I27 b23 0 w ∧ ∀ (b25 : Bool) (n26 : Int) (v29 : World), I27 b25 n26 v29 → ∀ _ : Nat → Value,
 (fun w : World =>
 If (decide (n26 < ((s24.n : Nat) : Int))) (
 ((0 : Int) ≤ n26 ∧ n26 < ((s24.n : Nat) : Int)) ∧ WithAddr s24.a fun a30 =>
 LdN shSleep.cs 0 (a30.add (Int.toNat n26 * 6)) (fun n31 n32 n33 n34 n35 n36 w =>
 New [.int .i64 0, .int .i64 0, .int .i64 0, .int .i64 0, .int .i64 0, .int .i64 0] 105 (fun a37 w =>
 StN [.int .i64 n31, .int .i64 n32, .int .i64 n33, .int .i64 n34, .int .i64 n35, .int .i64 n36] 0 a37 (fun w =>
 If b25 (
 Ld (.ki .i64) (a37.add 1) (fun n38 w =>
 Ld (.ki .i64) (a37.add 2) (fun n39 w =>
 Ld (.ki .i64) (a37.add 3) (fun n40 w =>
 Ld (.ki .i64) (a37.add 4) (fun n41 w =>
 Ld (.ki .i64) (a37.add 0) (fun n42 w =>
 Ld (.ki .i64) (a1.add 3) (fun n43 w =>
 Ld (.ki .i64) (a37.add 5) (fun n44 w =>
 Call P 88 [.int .i64 n38, .int .i64 n39, .int .i64 n40, .int .i64 n41, .int .i64 n42, .int .i64 n43, .int .i64 n44] [sB] (fun b45 w =>
 I27 b45 (IntKind.wrap .i64 (n26 + 1)) w ∧ M28 b45 (IntKind.wrap .i64 (n26 + 1)) w < M28 b25 n26 v29) w) w) w) w) w) w) w) w) (
 I27 false (IntKind.wrap .i64 (n26 + 1)) w ∧ M28 false (IntKind.wrap .i64 (n26 + 1)) w < M28 b25 n26 v29)) w) w) w) (
 Ld (.ks) (a1.add 2) (fun s46 w =>
 ∃ (I49 : Bool → Int → World → Prop) (M50 : Bool → Int → World → Nat), I49 b25 0 w ∧ ∀ (b47 : Bool) (n48 : Int) (v51 : World), I49 b47 n48 v51 → ∀ _ : Nat → Value,
 (fun w : World =>
 If (decide (n48 < ((s46.n : Nat) : Int))) (
 ((0 : Int) ≤ n48 ∧ n48 < ((s46.n : Nat) : Int)) ∧ WithAddr s46.a fun a52 =>
 LdN shDevice.cs 0 (a52.add (Int.toNat n48 * 7)) (fun n53 n54 n55 n56 n57 n58 n59 w =>
 New [.int .i64 0, .int .i64 0, .int .i64 0, .int .i64 0, .int .i64 0, .int .i64 0, .int .i64 0] 58 (fun a60 w =>
 StN [.int .i64 n53, .int .i64 n54, .int .i64 n55, .int .i64 n56, .int .i64 n57, .int .i64 n58, .int .i64 n59] 0 a60 (fun w =>
 If b47 (
 Ld (.ki .i64) (a60.add 2) (fun n61 w =>
 Ld (.ki .i64) (a60.add 3) (fun n62 w =>
 Ld (.ki .i64) (a60.add 4) (fun n63 w =>
 Ld (.ki .i64) (a60.add 5) (fun n64 w =>
 Ld (.ki .i64) (a60.add 1) (fun n65 w =>
 Ld (.ki .i64) (a60.add 0) (fun n66 w =>
 Ld (.ki .i64) (a60.add 6) (fun n67 w =>
 Call P 88 [.int .i64 n61, .int .i64 n62, .int .i64 n63, .int .i64 n64, .int .i64 n65, .int .i64 n66, .int .i64 n67] [sB] (fun b68 w =>
 I49 b68 (IntKind.wrap .i64 (n48 + 1)) w ∧ M50 b68 (IntKind.wrap .i64 (n48 + 1)) w < M50 b47 n48 v51) w) w) w) w) w) w) w) w) (
 I49 false (IntKind.wrap .i64 (n48 + 1)) w ∧ M50 false (IntKind.wrap .i64 (n48 + 1)) w < M50 b47 n48 v51)) w) w) w) (
 If (!b47) (
 K 2 w) (
 K 0 w))) v51) w)) v29) w) w) w) (
 Ld (.ks) (a1.add 1) (fun s69 w =>
 ∃ (I72 : Bool → Int → World → Prop) (M73 : Bool → Int → World → Nat), I72 false 0 w ∧ ∀ (b70 : Bool) (n71 : Int) (v74 : World), I72 b70 n71 v74 → ∀ _ : Nat → Value,
 (fun w : World =>
 If (decide (n71 < ((s69.n : Nat) : Int))) (
 ((0 : Int) ≤ n71 ∧ n71 < ((s69.n : Nat) : Int)) ∧ WithAddr s69.a fun a75 =>
 LdN shSleep.cs 0 (a75.add (Int.toNat n71 * 6)) (fun n76 n77 n78 n79 n80 n81 w =>
 New [.int .i64 0, .int .i64 0, .int .i64 0, .int .i64 0, .int .i64 0, .int .i64 0] 105 (fun a82 w =>
 StN [.int .i64 n76, .int .i64 n77, .int .i64 n78, .int .i64 n79, .int .i64 n80, .int .i64 n81] 0 a82 (fun w =>
 If b70 (
 Ld (.ki .i64) (a82.add 1) (fun n83 w =>
 Ld (.ki .i64) (a82.add 2) (fun n84 w =>
 Ld (.ki .i64) (a82.add 3) (fun n85 w =>
 Ld (.ki .i64) (a82.add 4) (fun n86 w =>
 Ld (.ki .i64) (a82.add 0) (fun n87 w =>
 Ld (.ki .i64) (a1.add 3) (fun n88 w =>
 Ld (.ki .i64) (a82.add 5) (fun n89 w =>
 Call P 88 [.int .i64 n83, .int .i64 n84, .int .i64 n85, .int .i64 n86, .int .i64 n87, .int .i64 n88, .int .i64 n89] [sB] (fun b90 w =>
 I72 b90 (IntKind.wrap .i64 (n71 + 1)) w ∧ M73 b90 (IntKind.wrap .i64 (n71 + 1)) w < M73 b70 n71 v74) w) w) w) w) w) w) w) w) (
 I72 false (IntKind.wrap .i64 (n71 + 1)) w ∧ M73 false (IntKind.wrap .i64 (n71 + 1)) w < M73 b70 n71 v74)) w) w) w) (
 Ld (.ks) (a1.add 2) (fun s91 w =>
 ∃ (I94 : Bool → Int → World → Prop) (M95 : Bool → Int → World → Nat), I94 b70 0 w ∧ ∀ (b92 : Bool) (n93 : Int) (v96 : World), I94 b92 n93 v96 → ∀ _ : Nat → Value,
 (fun w : World =>
 If (decide (n93 < ((s91.n : Nat) : Int))) (
 ((0 : Int) ≤ n93 ∧ n93 < ((s91.n : Nat) : Int)) ∧ WithAddr s91.a fun a97 =>
 LdN shDevice.cs 0 (a97.add (Int.toNat n93 * 7)) (fun n98 n99 n100 n101 n102 n103 n104 w =>
 New [.int .i64 0, .int .i64 0, .int .i64 0, .int .i64 0, .int .i64 0, .int .i64 0, .int .i64 0] 58 (fun a105 w =>
 StN [.int .i64 n98, .int .i64 n99, .int .i64 n100, .int .i64 n101, .int .i64 n102, .int .i64 n103, .int .i64 n104] 0 a105 (fun w =>
 If b92 (
 Ld (.ki .i64) (a105.add 2) (fun n106 w =>
 Ld (.ki .i64) (a105.add 3) (fun n107 w =>
 Ld (.ki .i64) (a105.add 4) (fun n108 w =>
 Ld (.ki .i64) (a105.add 5) (fun n109 w =>
 Ld (.ki .i64) (a105.add 1) (fun n110 w =>
 Ld (.ki .i64) (a105.add 0) (fun n111 w =>
 Ld (.ki .i64) (a105.add 6) (fun n112 w =>
 Call P 88 [.int .i64 n106, .int .i64 n107, .int .i64 n108, .int .i64 n109, .int .i64 n110, .int .i64 n111, .int .i64 n112] [sB] (fun b113 w =>
 I94 b113 (IntKind.wrap .i64 (n93 + 1)) w ∧ M95 b113 (IntKind.wrap .i64 (n93 + 1)) w < M95 b92 n93 v96) w) w) w) w) w) w) w) w) (
 I94 false (IntKind.wrap .i64 (n93 + 1)) w ∧ M95 false (IntKind.wrap .i64 (n93 + 1)) w < M95 b92 n93 v96)) w) w) w) (
 If (!b92) (
 K 2 w) (
 K 0 w))) v96) w)) v74) w)) w) w) (
 Ld (.ks) (a1.add 1) (fun s114 w =>
 ∃ (I117 : Bool → Int → World → Prop) (M118 : Bool → Int → World → Nat), I117 false 0 w ∧ ∀ (b115 : Bool) (n116 : Int) (v119 : World), I117 b115 n116 v119 → ∀ _ : Nat → Value,
 (fun w : World =>
 If (decide (n116 < ((s114.n : Nat) : Int))) (
 ((0 : Int) ≤ n116 ∧ n116 < ((s114.n : Nat) : Int)) ∧ WithAddr s114.a fun a120 =>
 LdN shSleep.cs 0 (a120.add (Int.toNat n116 * 6)) (fun n121 n122 n123 n124 n125 n126 w =>
 New [.int .i64 0, .int .i64 0, .int .i64 0, .int .i64 0, .int .i64 0, .int .i64 0] 105 (fun a127 w =>
 StN [.int .i64 n121, .int .i64 n122, .int .i64 n123, .int .i64 n124, .int .i64 n125, .int .i64 n126] 0 a127 (fun w =>
 If b115 (
 Ld (.ki .i64) (a127.add 1) (fun n128 w =>
 Ld (.ki .i64) (a127.add 2) (fun n129 w =>
 Ld (.ki .i64) (a127.add 3) (fun n130 w =>
 Ld (.ki .i64) (a127.add 4) (fun n131 w =>
 Ld (.ki .i64) (a127.add 0) (fun n132 w =>
 Ld (.ki .i64) (a1.add 3) (fun n133 w =>
 Ld (.ki .i64) (a127.add 5) (fun n134 w =>
 Call P 88 [.int .i64 n128, .int .i64 n129, .int .i64 n130, .int .i64 n131, .int .i64 n132, .int .i64 n133, .int .i64 n134] [sB] (fun b135 w =>
 I117 b135 (IntKind.wrap .i64 (n116 + 1)) w ∧ M118 b135 (IntKind.wrap .i64 (n116 + 1)) w < M118 b115 n116 v119) w) w) w) w) w) w) w) w) (
 I117 false (IntKind.wrap .i64 (n116 + 1)) w ∧ M118 false (IntKind.wrap .i64 (n116 + 1)) w < M118 b115 n116 v119)) w) w) w) (
 Ld (.ks) (a1.add 2) (fun s136 w =>
 ∃ (I139 : Bool → Int → World → Prop) (M140 : Bool → Int → World → Nat), I139 b115 0 w ∧ ∀ (b137 : Bool) (n138 : Int) (v141 : World), I139 b137 n138 v141 → ∀ _ : Nat → Value,
 (fun w : World =>
 If (decide (n138 < ((s136.n : Nat) : Int))) (
 ((0 : Int) ≤ n138 ∧ n138 < ((s136.n : Nat) : Int)) ∧ WithAddr s136.a fun a142 =>
 LdN shDevice.cs 0 (a142.add (Int.toNat n138 * 7)) (fun n143 n144 n145 n146 n147 n148 n149 w =>
 New [.int .i64 0, .int .i64 0, .int .i64 0, .int .i64 0, .int .i64 0, .int .i64 0, .int .i64 0] 58 (fun a150 w =>
 StN [.int .i64 n143, .int .i64 n144, .int .i64 n145, .int .i64 n146, .int .i64 n147, .int .i64 n148, .int .i64 n149] 0 a150 (fun w =>
 If b137 (
 Ld (.ki .i64) (a150.add 2) (fun n151 w =>
 Ld (.ki .i64) (a150.add 3) (fun n152 w =>
 Ld (.ki .i64) (a150.add 4) (fun n153 w =>
 Ld (.ki .i64) (a150.add 5) (fun n154 w =>
 Ld (.ki .i64) (a150.add 1) (fun n155 w =>
 Ld (.ki .i64) (a150.add 0) (fun n156 w =>
 Ld (.ki .i64) (a150.add 6) (fun n157 w =>
 Call P 88 [.int .i64 n151, .int .i64 n152, .int .i64 n153, .int .i64 n154, .int .i64 n155, .int .i64 n156, .int .i64 n157] [sB] (fun b158 w =>
 I139 b158 (IntKind.wrap .i64 (n138 + 1)) w ∧ M140 b158 (IntKind.wrap .i64 (n138 + 1)) w < M140 b137 n138 v141) w) w) w) w) w) w) w) w) (
 I139 false (IntKind.wrap .i64 (n138 + 1)) w ∧ M140 false (IntKind.wrap .i64 (n138 + 1)) w < M140 b137 n138 v141)) w) w) w) (
 If (!b137) (
 K 2 w) (
 K 0 w))) v141) w)) v119) w)) w) (
 Ld (.ks) (a1.add 1) (fun s159 w =>
 ∃ (I162 : Bool → Int → World → Prop) (M163 : Bool → Int → World → Nat), I162 false 0 w ∧ ∀ (b160 : Bool) (n161 : Int) (v164 : World), I162 b160 n161 v164 → ∀ _ : Nat → Value,
 (fun w : World =>
 If (decide (n161 < ((s159.n : Nat) : Int))) (
 ((0 : Int) ≤ n161 ∧ n161 < ((s159.n : Nat) : Int)) ∧ WithAddr s159.a fun a165 =>
 LdN shSleep.cs 0 (a165.add (Int.toNat n161 * 6)) (fun n166 n167 n168 n169 n170 n171 w =>
 New [.int .i64 0, .int .i64 0, .int .i64 0, .int .i64 0, .int .i64 0, .int .i64 0] 105 (fun a172 w =>
 StN [.int .i64 n166, .int .i64 n167, .int .i64 n168, .int .i64 n169, .int .i64 n170, .int .i64 n171] 0 a172 (fun w =>
 If b160 (
 Ld (.ki .i64) (a172.add 1) (fun n173 w =>
 Ld (.ki .i64) (a172.add 2) (fun n174 w =>
 Ld (.ki .i64) (a172.add 3) (fun n175 w =>
 Ld (.ki .i64) (a172.add 4) (fun n176 w =>
 Ld (.ki .i64) (a172.add 0) (fun n177 w =>
 Ld (.ki .i64) (a1.add 3) (fun n178 w =>
 Ld (.ki .i64) (a172.add 5) (fun n179 w =>
 Call P 88 [.int .i64 n173, .int .i64 n174, .int .i64 n175, .int .i64 n176, .int .i64 n177, .int .i64 n178, .int .i64 n179] [sB] (fun b180 w =>
 I162 b180 (IntKind.wrap .i64 (n161 + 1)) w ∧ M163 b180 (IntKind.wrap .i64 (n161 + 1)) w < M163 b160 n161 v164) w) w) w) w) w) w) w) w) (
 I162 false (IntKind.wrap .i64 (n161 + 1)) w ∧ M163 false (IntKind.wrap .i64 (n161 + 1)) w < M163 b160 n161 v164)) w) w) w) (
 Ld (.ks) (a1.add 2) (fun s181 w =>
 ∃ (I184 : Bool → Int → World → Prop) (M185 : Bool → Int → World → Nat), I184 b160 0 w ∧ ∀ (b182 : Bool) (n183 : Int) (v186 : World), I184 b182 n183 v186 → ∀ _ : Nat → Value,
 (fun w : World =>
 If (decide (n183 < ((s181.n : Nat) : Int))) (
 ((0 : Int) ≤ n183 ∧ n183 < ((s181.n : Nat) : Int)) ∧ WithAddr s181.a fun a187 =>
 LdN shDevice.cs 0 (a187.add (Int.toNat n183 * 7)) (fun n188 n189 n190 n191 n192 n193 n194 w =>
 New [.int .i64 0, .int .i64 0, .int .i64 0, .int .i64 0, .int .i64 0, .int .i64 0, .int .i64 0] 58 (fun a195 w =>
 StN [.int .i64 n188, .int .i64 n189, .int .i64 n190, .int .i64 n191, .int .i64 n192, .int .i64 n193, .int .i64 n194] 0 a195 (fun w =>
 If b182 (
 Ld (.ki .i64) (a195.add 2) (fun n196 w =>
 Ld (.ki .i64) (a195.add 3) (fun n197 w =>
 Ld (.ki .i64) (a195.add 4) (fun n198 w =>
 Ld (.ki .i64) (a195.add 5) (fun n199 w =>
 Ld (.ki .i64) (a195.add 1) (fun n200 w =>
 Ld (.ki .i64) (a195.add 0) (fun n201 w =>
 Ld (.ki .i64) (a195.add 6) (fun n202 w =>
 Call P 88 [.int .i64 n196, .int .i64 n197, .int .i64 n198, .int .i64 n199, .int .i64 n200, .int .i64 n201, .int .i64 n202] [sB] (fun b203 w =>
 I184 b203 (IntKind.wrap .i64 (n183 + 1)) w ∧ M185 b203 (IntKind.wrap .i64 (n183 + 1)) w < M185 b182 n183 v186) w) w) w) w) w) w) w) w) (
 I184 false (IntKind.wrap .i64 (n183 + 1)) w ∧ M185 false (IntKind.wrap .i64 (n183 + 1)) w < M185 b182 n183 v186)) w) w) w) (
 If (!b182) (
 K 2 w) (
 K 0 w))) v186) w)) v164) w)) w) (
 Ld (.ks) (a1.add 1) (fun s204 w =>
 ∃ (I207 : Bool → Int → World → Prop) (M208 : Bool → Int → World → Nat), I207 false 0 w ∧ ∀ (b205 : Bool) (n206 : Int) (v209 : World), I207 b205 n206 v209 → ∀ _ : Nat → Value,
 (fun w : World =>
 If (decide (n206 < ((s204.n : Nat) : Int))) (
 ((0 : Int) ≤ n206 ∧ n206 < ((s204.n : Nat) : Int)) ∧ WithAddr s204.a fun a210 =>
 LdN shSleep.cs 0 (a210.add (Int.toNat n206 * 6)) (fun n211 n212 n213 n214 n215 n216 w =>
 New [.int .i64 0, .int .i64 0, .int .i64 0, .int .i64 0, .int .i64 0, .int .i64 0] 105 (fun a217 w =>
 StN [.int .i64 n211, .int .i64 n212, .int .i64 n213, .int .i64 n214, .int .i64 n215, .int .i64 n216] 0 a217 (fun w =>
 If b205 (
 Ld (.ki .i64) (a217.add 1) (fun n218 w =>
 Ld (.ki .i64) (a217.add 2) (fun n219 w =>
 Ld (.ki .i64) (a217.add 3) (fun n220 w =>
 Ld (.ki .i64) (a217.add 4) (fun n221 w =>
 Ld (.ki .i64) (a217.add 0) (fun n222 w =>
 Ld (.ki .i64) (a1.add 3) (fun n223 w =>
 Ld (.ki .i64) (a217.add 5) (fun n224 w =>
 Call P 88 [.int .i64 n218, .int .i64 n219, .int .i64 n220, .int .i64 n221, .int .i64 n222, .int .i64 n223, .int .i64 n224] [sB] (fun b225 w =>
 I207 b225 (IntKind.wrap .i64 (n206 + 1)) w ∧ M208 b225 (IntKind.wrap .i64 (n206 + 1)) w < M208 b205 n206 v209) w) w) w) w) w) w) w) w) (
 I207 false (IntKind.wrap .i64 (n206 + 1)) w ∧ M208 false (IntKind.wrap .i64 (n206 + 1)) w < M208 b205 n206 v209)) w) w) w) (
 Ld (.ks) (a1.add 2) (fun s226 w =>
 ∃ (I229 : Bool → Int → World → Prop) (M230 : Bool → Int → World → Nat), I229 b205 0 w ∧ ∀ (b227 : Bool) (n228 : Int) (v231 : World), I229 b227 n228 v231 → ∀ _ : Nat → Value,
 (fun w : World =>
 If (decide (n228 < ((s226.n : Nat) : Int))) (
 ((0 : Int) ≤ n228 ∧ n228 < ((s226.n : Nat) : Int)) ∧ WithAddr s226.a fun a232 =>
 LdN shDevice.cs 0 (a232.add (Int.toNat n228 * 7)) (fun n233 n234 n235 n236 n237 n238 n239 w =>
 New [.int .i64 0, .int .i64 0, .int .i64 0, .int .i64 0, .int .i64 0, .int .i64 0, .int .i64 0] 58 (fun a240 w =>
 StN [.int .i64 n233, .int .i64 n234, .int .i64 n235, .int .i64 n236, .int .i64 n237, .int .i64 n238, .int .i64 n239] 0 a240 (fun w =>
 If b227 (
 Ld (.ki .i64) (a240.add 2) (fun n241 w =>
 Ld (.ki .i64) (a240.add 3) (fun n242 w =>
 Ld (.ki .i64) (a240.add 4) (fun n243 w =>
 Ld (.ki .i64) (a240.add 5) (fun n244 w =>
 Ld (.ki .i64) (a240.add 1) (fun n245 w =>
 Ld (.ki .i64) (a240.add 0) (fun n246 w =>
 Ld (.ki .i64) (a240.add 6) (fun n247 w =>
 Call P 88 [.int .i64 n241, .int .i64 n242, .int .i64 n243, .int .i64 n244, .int .i64 n245, .int .i64 n246, .int .i64 n247] [sB] (fun b248 w =>
 I229 b248 (IntKind.wrap .i64 (n228 + 1)) w ∧ M230 b248 (IntKind.wrap .i64 (n228 + 1)) w < M230 b227 n228 v231) w) w) w) w) w) w) w) w) (
 I229 false (IntKind.wrap .i64 (n228 + 1)) w ∧ M230 false (IntKind.wrap .i64 (n228 + 1)) w < M230 b227 n228 v231)) w) w) w) (
 If (!b227) (
 K 2 w) (
 K 0 w))) v231) w)) v209) w)) w) w) (
 Ld (.ks) (a1.add 1) (fun s249 w =>
 ∃ (I252 : Bool → Int → World → Prop) (M253 : Bool → Int → World → Nat), I252 false 0 w ∧ ∀ (b250 : Bool) (n251 : Int) (v254 : World), I252 b250 n251 v254 → ∀ _ : Nat → Value,
 (fun w : World =>
 If (decide (n251 < ((s249.n : Nat) : Int))) (
 ((0 : Int) ≤ n251 ∧ n251 < ((s249.n : Nat) : Int)) ∧ WithAddr s249.a fun a255 =>
 LdN shSleep.cs 0 (a255.add (Int.toNat n251 * 6)) (fun n256 n257 n258 n259 n260 n261 w =>
 New [.int .i64 0, .int .i64 0, .int .i64 0, .int .i64 0, .int .i64 0, .int .i64 0] 105 (fun a262 w =>
 StN [.int .i64 n256, .int .i64 n257, .int .i64 n258, .int .i64 n259, .int .i64 n260, .int .i64 n261] 0 a262 (fun w =>
 If b250 (
 Ld (.ki .i64) (a262.add 1) (fun n263 w =>
 Ld (.ki .i64) (a262.add 2) (fun n264 w =>
 Ld (.ki .i64) (a262.add 3) (fun n265 w =>
 Ld (.ki .i64) (a262.add 4) (fun n266 w =>
 Ld (.ki .i64) (a262.add 0) (fun n267 w =>
 Ld (.ki .i64) (a1.add 3) (fun n268 w =>
 Ld (.ki .i64) (a262.add 5) (fun n269 w =>
 Call P 88 [.int .i64 n263, .int .i64 n264, .int .i64 n265, .int .i64 n266, .int .i64 n267, .int .i64 n268, .int .i64 n269] [sB] (fun b270 w =>
 I252 b270 (IntKind.wrap .i64 (n251 + 1)) w ∧ M253 b270 (IntKind.wrap .i64 (n251 + 1)) w < M253 b250 n251 v254) w) w) w) w) w) w) w) w) (
 I252 false (IntKind.wrap .i64 (n251 + 1)) w ∧ M253 false (IntKind.wrap .i64 (n251 + 1)) w < M253 b250 n251 v254)) w) w) w) (
 Ld (.ks) (a1.add 2) (fun s271 w =>
 ∃ (I274 : Bool → Int → World → Prop) (M275 : Bool → Int → World → Nat), I274 b250 0 w ∧ ∀ (b272 : Bool) (n273 : Int) (v276 : World), I274 b272 n273 v276 → ∀ _ : Nat → Value,
 (fun w : World =>
 If (decide (n273 < ((s271.n : Nat) : Int))) (
 ((0 : Int) ≤ n273 ∧ n273 < ((s271.n : Nat) : Int)) ∧ WithAddr s271.a fun a277 =>
 LdN shDevice.cs 0 (a277.add (Int.toNat n273 * 7)) (fun n278 n279 n280 n281 n282 n283 n284 w =>
 New [.int .i64 0, .int .i64 0, .int .i64 0, .int .i64 0, .int .i64 0, .int .i64 0, .int .i64 0] 58 (fun a285 w =>
 StN [.int .i64 n278, .int .i64 n279, .int .i64 n280, .int .i64 n281, .int .i64 n282, .int .i64 n283, .int .i64 n284] 0 a285 (fun w =>
 If b272 (
 Ld (.ki .i64) (a285.add 2) (fun n286 w =>
 Ld (.ki .i64) (a285.add 3) (fun n287 w =>
 Ld (.ki .i64) (a285.add 4) (fun n288 w =>
 Ld (.ki .i64) (a285.add 5) (fun n289 w =>
 Ld (.ki .i64) (a285.add 1) (fun n290 w =>
 Ld (.ki .i64) (a285.add 0) (fun n291 w =>
 Ld (.ki .i64) (a285.add 6) (fun n292 w =>
 Call P 88 [.int .i64 n286, .int .i64 n287, .int .i64 n288, .int .i64 n289, .int .i64 n290, .int .i64 n291, .int .i64 n292] [sB] (fun b293 w =>
 I274 b293 (IntKind.wrap .i64 (n273 + 1)) w ∧ M275 b293 (IntKind.wrap .i64 (n273 + 1)) w < M275 b272 n273 v276) w) w) w) w) w) w) w) w) (
 I274 false (IntKind.wrap .i64 (n273 + 1)) w ∧ M275 false (IntKind.wrap .i64 (n273 + 1)) w < M275 b272 n273 v276)) w) w) w) (
 If (!b272) (
 K 2 w) (
 K 0 w))) v276) w)) v254) w)) w) w) (
 Ld (.ks) (a1.add 1) (fun s294 w =>
 ∃ (I297 : Bool → Int → World → Prop) (M298 : Bool → Int → World → Nat), I297 false 0 w ∧ ∀ (b295 : Bool) (n296 : Int) (v299 : World), I297 b295 n296 v299 → ∀ _ : Nat → Value,
 (fun w : World =>
 If (decide (n296 < ((s294.n : Nat) : Int))) (
 ((0 : Int) ≤ n296 ∧ n296 < ((s294.n : Nat) : Int)) ∧ WithAddr s294.a fun a300 =>
 LdN shSleep.cs 0 (a300.add (Int.toNat n296 * 6)) (fun n301 n302 n303 n304 n305 n306 w =>
 New [.int .i64 0, .int .i64 0, .int .i64 0, .int .i64 0, .int .i64 0, .int .i64 0] 105 (fun a307 w =>
 StN [.int .i64 n301, .int .i64 n302, .int .i64 n303, .int .i64 n304, .int .i64 n305, .int .i64 n306] 0 a307 (fun w =>
 If b295 (
 Ld (.ki .i64) (a307.add 1) (fun n308 w =>
 Ld (.ki .i64) (a307.add 2) (fun n309 w =>
 Ld (.ki .i64) (a307.add 3) (fun n310 w =>
 Ld (.ki .i64) (a307.add 4) (fun n311 w =>
 Ld (.ki .i64) (a307.add 0) (fun n312 w =>
 Ld (.ki .i64) (a1.add 3) (fun n313 w =>
 Ld (.ki .i64) (a307.add 5) (fun n314 w =>
 Call P 88 [.int .i64 n308, .int .i64 n309, .int .i64 n310, .int .i64 n311, .int .i64 n312, .int .i64 n313, .int .i64 n314] [sB] (fun b315 w =>
 I297 b315 (IntKind.wrap .i64 (n296 + 1)) w ∧ M298 b315 (IntKind.wrap .i64 (n296 + 1)) w < M298 b295 n296 v299) w) w) w) w) w) w) w) w) (
 I297 false (IntKind.wrap .i64 (n296 + 1)) w ∧ M298 false (IntKind.wrap .i64 (n296 + 1)) w < M298 b295 n296 v299)) w) w) w) (
 Ld (.ks) (a1.add 2) (fun s316 w =>
 ∃ (I319 : Bool → Int → World → Prop) (M320 : Bool → Int → World → Nat), I319 b295 0 w ∧ ∀ (b317 : Bool) (n318 : Int) (v321 : World), I319 b317 n318 v321 → ∀ _ : Nat → Value,
 (fun w : World =>
 If (decide (n318 < ((s316.n : Nat) : Int))) (
 ((0 : Int) ≤ n318 ∧ n318 < ((s316.n : Nat) : Int)) ∧ WithAddr s316.a fun a322 =>
 LdN shDevice.cs 0 (a322.add (Int.toNat n318 * 7)) (fun n323 n324 n325 n326 n327 n328 n329 w =>
 New [.int .i64 0, .int .i64 0, .int .i64 0, .int .i64 0, .int .i64 0, .int .i64 0, .int .i64 0] 58 (fun a330 w =>
 StN [.int .i64 n323, .int .i64 n324, .int .i64 n325, .int .i64 n326, .int .i64 n327, .int .i64 n328, .int .i64 n329] 0 a330 (fun w =>
 If b317 (
 Ld (.ki .i64) (a330.add 2) (fun n331 w =>
 Ld (.ki .i64) (a330.add 3) (fun n332 w =>
 Ld (.ki .i64) (a330.add 4) (fun n333 w =>
 Ld (.ki .i64) (a330.add 5) (fun n334 w =>
 Ld (.ki .i64) (a330.add 1) (fun n335 w =>
 Ld (.ki .i64) (a330.add 0) (fun n336 w =>
 Ld (.ki .i64) (a330.add 6) (fun n337 w =>
 Call P 88 [.int .i64 n331, .int .i64 n332, .int .i64 n333, .int .i64 n334, .int .i64 n335, .int .i64 n336, .int .i64 n337] [sB] (fun b338 w =>
 I319 b338 (IntKind.wrap .i64 (n318 + 1)) w ∧ M320 b338 (IntKind.wrap .i64 (n318 + 1)) w < M320 b317 n318 v321) w) w) w) w) w) w) w) w) (
 I319 false (IntKind.wrap .i64 (n318 + 1)) w ∧ M320 false (IntKind.wrap .i64 (n318 + 1)) w < M320 b317 n318 v321)) w) w) w) (
 If (!b317) (
 K 2 w) (
 K 0 w))) v321) w)) v299) w)) w) w) (
 Ld (.ks) (a1.add 1) (fun s339 w =>
 ∃ (I342 : Bool → Int → World → Prop) (M343 : Bool → Int → World → Nat), I342 false 0 w ∧ ∀ (b340 : Bool) (n341 : Int) (v344 : World), I342 b340 n341 v344 → ∀ _ : Nat → Value,
 (fun w : World =>
 If (decide (n341 < ((s339.n : Nat) : Int))) (
 ((0 : Int) ≤ n341 ∧ n341 < ((s339.n : Nat) : Int)) ∧ WithAddr s339.a fun a345 =>
 LdN shSleep.cs 0 (a345.add (Int.toNat n341 * 6)) (fun n346 n347 n348 n349 n350 n351 w =>
 New [.int .i64 0, .int .i64 0, .int .i64 0, .int .i64 0, .int .i64 0, .int .i64 0] 105 (fun a352 w =>
 StN [.int .i64 n346, .int .i64 n347, .int .i64 n348, .int .i64 n349, .int .i64 n350, .int .i64 n351] 0 a352 (fun w =>
 If b340 (
 Ld (.ki .i64) (a352.add 1) (fun n353 w =>
 Ld (.ki .i64) (a352.add 2) (fun n354 w =>
 Ld (.ki .i64) (a352.add 3) (fun n355 w =>
 Ld (.ki .i64) (a352.add 4) (fun n356 w =>
 Ld (.ki .i64) (a352.add 0) (fun n357 w =>
 Ld (.ki .i64) (a1.add 3) (fun n358 w =>
 Ld (.ki .i64) (a352.add 5) (fun n359 w =>
 Call P 88 [.int .i64 n353, .int .i64 n354, .int .i64 n355, .int .i64 n356, .int .i64 n357, .int .i64 n358, .int .i64 n359] [sB] (fun b360 w =>
 I342 b360 (IntKind.wrap .i64 (n341 + 1)) w ∧ M343 b360 (IntKind.wrap .i64 (n341 + 1)) w < M343 b340 n341 v344) w) w) w) w) w) w) w) w) (
 I342 false (IntKind.wrap .i64 (n341 + 1)) w ∧ M343 false (IntKind.wrap .i64 (n341 + 1)) w < M343 b340 n341 v344)) w) w) w) (
 Ld (.ks) (a1.add 2) (fun s361 w =>
 ∃ (I364 : Bool → Int → World → Prop) (M365 : Bool → Int → World → Nat), I364 b340 0 w ∧ ∀ (b362 : Bool) (n363 : Int) (v366 : World), I364 b362 n363 v366 → ∀ _ : Nat → Value,
 (fun w : World =>
 If (decide (n363 < ((s361.n : Nat) : Int))) (
 ((0 : Int) ≤ n363 ∧ n363 < ((s361.n : Nat) : Int)) ∧ WithAddr s361.a fun a367 =>
 LdN shDevice.cs 0 (a367.add (Int.toNat n363 * 7)) (fun n368 n369 n370 n371 n372 n373 n374 w =>
 New [.int .i64 0, .int .i64 0, .int .i64 0, .int .i64 0, .int .i64 0, .int .i64 0, .int .i64 0] 58 (fun a375 w =>
 StN [.int .i64 n368, .int .i64 n369, .int .i64 n370, .int .i64 n371, .int .i64 n372, .int .i64 n373, .int .i64 n374] 0 a375 (fun w =>
 If b362 (
 Ld (.ki .i64) (a375.add 2) (fun n376 w =>
 Ld (.ki .i64) (a375.add 3) (fun n377 w =>
 Ld (.ki .i64) (a375.add 4) (fun n378 w =>
 Ld (.ki .i64) (a375.add 5) (fun n379 w =>
 Ld (.ki .i64) (a375.add 1) (fun n380 w =>
 Ld (.ki .i64) (a375.add 0) (fun n381 w =>
 Ld (.ki .i64) (a375.add 6) (fun n382 w =>
 Call P 88 [.int .i64 n376, .int .i64 n377, .int .i64 n378, .int .i64 n379, .int .i64 n380, .int .i64 n381, .int .i64 n382] [sB] (fun b383 w =>
 I364 b383 (IntKind.wrap .i64 (n363 + 1)) w ∧ M365 b383 (IntKind.wrap .i64 (n363 + 1)) w < M365 b362 n363 v366) w) w) w) w) w) w) w) w) (
 I364 false (IntKind.wrap .i64 (n363 + 1)) w ∧ M365 false (IntKind.wrap .i64 (n363 + 1)) w < M365 b362 n363 v366)) w) w) w) (
 If (!b362) (
 K 2 w) (
 K 0 w))) v366) w)) v344) w)) w) w) w) : Call P 54 [p.v] [sI] K w :=
  call_of (H := ⟨[(5, [(3, .kb), (52, .ki .i64)]), (10, [(3, .kb), (78, .ki .i64)])], [], [], []⟩) Tryz.func54 (by kernel_rfl) (by kernel_rfl) vc

theorem f60_of  {K : Option Addr → World → Prop} {w : World} (vc :
 New [.slice none 0 0] 135 (fun a1 w =>
 K (some a1) w) w) : Call P 60 [] [sP] K w :=
  call_of (H := ⟨[], [], [], []⟩) Tryz.func60 (by kernel_rfl) (by kernel_rfl) vc

theorem f66_of (k : Option Addr) (policy : Int) (naps : Int) {K : Int → World → Prop} {w : World} (vc :
 Call P 102 [.int .i64 policy, .int .i64 0, .int .i64 3] [sB] (fun b1 w =>
 If (!b1) (
 K 1 w) (
 Call P 102 [.int .i64 naps, .int .i64 0, .int .i64 1] [sB] (fun b2 w =>
 If (!b2) (
 K 1 w) (
 WithAddr k fun a3 =>
 StN [.int .i64 policy] 0 (a3.add 11) (fun w =>
 WithAddr k fun a4 =>
 StN [.bool (naps == 1)] 0 (a4.add 12) (fun w =>
 K 0 w) w) w)) w)) w) : Call P 66 [.pointer k, .int .i64 policy, .int .i64 naps] [sI] K w :=
  call_of (H := ⟨[], [], [], []⟩) Tryz.func66 (by kernel_rfl) (by kernel_rfl) vc

theorem f72_of (t : Option Addr) (now : Int) {K : Int → Int → Bool → World → Prop} {w : World} (vc :
 If (Option.isNone t) (
 K 0 0 false w) (
 WithAddr t fun a1 =>
 Ld (.kp) (a1.add 0) (fun p2 w =>
 Call P 111 [.pointer p2] [sI, sI, sB] (fun n3 n4 b5 w =>
 If (!b5) (
 K 0 0 false w) (
 If (decide (n4 > now)) (
 K 0 0 false w) (
 WithAddr t fun a6 =>
 Ld (.km) (a6.add 1) (fun m7 w =>
 Sm P (Instr.lookup 146 (.map m7) (.int .i64 n3) false) [sI] (fun n8 w =>
 If (decide (n8 > 0)) (
 (fun w : World =>
 WithAddr t fun a9 =>
 Ld (.kp) (a9.add 0) (fun p10 w =>
 Call P 114 [.int .i64 n4, .int .i64 n8] [sI] (fun n11 w =>
 (w.cell? ((a9.add 0).add 0) = some (.pointer p10)) ∧ Call P 113 [.pointer p10, .int .i64 n3, .int .i64 n11] [] (fun w =>
 K n3 n4 true w) w) w) w) w.drew) (
 Call P 109 [.pointer t, .int .i64 n3] [sB] (fun b12 w =>
 K n3 n4 true w) w)) w) w))) w) w)) : Call P 72 [.pointer t, .int .i64 now] [sI, sI, sB] K w :=
  call_of (H := ⟨[], [], [(8, .take 0 (.take 1 (.take 2 (.take 3 (.take 4 (.take 5 (.take 6 (.run 7 (.run 8 .done)))))))))], []⟩) Tryz.func72 (by kernel_rfl) (by kernel_rfl) vc

theorem f79_of (s : Sl) {K : Sl → World → Prop} {w : World} (vc :
 If (Option.isNone s.a) (
 K ⟨none, 0, 0⟩ w) (
 New [] 76 (fun a1 w =>
 Sm P (Builtin.append_ #[71, 71] 71 [.slice (some a1) 0 0, .slice s.a s.n s.c].toArray) [sS] (fun s2 w =>
 K s2 w) w) w)) : Call P 79 [.slice s.a s.n s.c] [sS] K w :=
  call_of (H := ⟨[], [], [], []⟩) Tryz.func79 (by kernel_rfl) (by kernel_rfl) vc

theorem f85_of (p : Plat) {K : Bool → World → Prop} {w : World} (vc :
 New [.slice p.levels.a p.levels.n p.levels.c, .slice p.sleeps.a p.sleeps.n p.sleeps.c, .slice p.devices.a p.devices.n p.devices.c, .int .i64 p.idle, .int .i64 p.crit, .int .i64 p.switch, .int .i64 p.switchE, .int .i64 p.sems, .int .i64 p.horizon] 26 (fun a1 w =>
 Ld (.ks) (a1.add 0) (fun s2 w =>
 Call P 87 [.int .i64 ((s2.n : Nat) : Int), .int .i64 1, .int .i64 4] [sB] (fun b3 w =>
 If (!b3) (
 K false w) (
 Ld (.ki .i64) (a1.add 4) (fun n4 w =>
 Ld (.ks) (a1.add 0) (fun s5 w =>
 Call P 87 [.int .i64 n4, .int .i64 0, .int .i64 (IntKind.wrap .i64 (((s5.n : Nat) : Int) - 1))] [sB] (fun b6 w =>
 If (!b6) (
 K false w) (
 Ld (.ks) (a1.add 0) (fun s7 w =>
 ∃ (I9 : Int → World → Prop) (M10 : Int → World → Nat), I9 0 w ∧ ∀ (n8 : Int) (v11 : World), I9 n8 v11 → ∀ _ : Nat → Value,
 (fun w : World =>
 If (decide (n8 < ((s7.n : Nat) : Int))) (
 ((0 : Int) ≤ n8 ∧ n8 < ((s7.n : Nat) : Int)) ∧ WithAddr s7.a fun a12 =>
 LdN shItem.cs 0 (a12.add (Int.toNat n8 * 2)) (fun n13 n14 w =>
 New [.int .i64 0, .int .i64 0] 93 (fun a15 w =>
 StN [.int .i64 n13, .int .i64 n14] 0 a15 (fun w =>
 Ld (.ki .i64) (a15.add 0) (fun n16 w =>
 Call P 87 [.int .i64 n16, .int .i64 1, .int .i64 256] [sB] (fun b17 w =>
 If (!b17) (
 K false w) (
 Ld (.ki .i64) (a15.add 1) (fun n18 w =>
 Call P 84 [.int .i64 n18] [sB] (fun b19 w =>
 If (!b19) (
 K false w) (
 If (n8 == 0) (
 I9 (IntKind.wrap .i64 (n8 + 1)) w ∧ M10 (IntKind.wrap .i64 (n8 + 1)) w < M10 n8 v11) (
 Ld (.ks) (a1.add 0) (fun s20 w =>
 ((0 : Int) ≤ (IntKind.wrap .i64 (n8 - 1)) ∧ (IntKind.wrap .i64 (n8 - 1)) < ((s20.n : Nat) : Int)) ∧ WithAddr s20.a fun a21 =>
 LdN shItem.cs 0 (a21.add (Int.toNat (IntKind.wrap .i64 (n8 - 1)) * 2)) (fun n22 n23 w =>
 New [.int .i64 0, .int .i64 0] 93 (fun a24 w =>
 StN [.int .i64 n22, .int .i64 n23] 0 a24 (fun w =>
 Ld (.ki .i64) (a15.add 0) (fun n25 w =>
 Ld (.ki .i64) (a24.add 0) (fun n26 w =>
 If (decide (n25 ≤ n26)) (
 K false w) (
 Ld (.ki .i64) (a1.add 4) (fun n27 w =>
 If (decide (n8 ≤ n27)) (
 Ld (.ki .i64) (a15.add 1) (fun n28 w =>
 Ld (.ki .i64) (a15.add 0) (fun n29 w =>
 Ld (.ki .i64) (a1.add 3) (fun n30 w =>
 Ld (.ki .i64) (a24.add 1) (fun n31 w =>
 Ld (.ki .i64) (a24.add 0) (fun n32 w =>
 Ld (.ki .i64) (a1.add 3) (fun n33 w =>
 If (decide ((IntKind.wrap .i64 (n28 - (IntKind.wrap .i64 (n29 * n30)))) > (IntKind.wrap .i64 (n31 - (IntKind.wrap .i64 (n32 * n33)))))) (
 K false w) (
 I9 (IntKind.wrap .i64 (n8 + 1)) w ∧ M10 (IntKind.wrap .i64 (n8 + 1)) w < M10 n8 v11)) w) w) w) w) w) w) (
 I9 (IntKind.wrap .i64 (n8 + 1)) w ∧ M10 (IntKind.wrap .i64 (n8 + 1)) w < M10 n8 v11)) w)) w) w) w) w) w) w))) w) w)) w) w) w) w) w) (
 K true w)) v11) w)) w) w) w)) w) w) w) : Call P 85 [p.v] [sB] K w :=
  call_of (H := ⟨[(4, [(24, .ki .i64)])], [], [], []⟩) Tryz.func85 (by kernel_rfl) (by kernel_rfl) vc

theorem f91_of (s : Sl) {K : Sl → World → Prop} {w : World} (vc :
 If (Option.isNone s.a) (
 K ⟨none, 0, 0⟩ w) (
 New [] 58 (fun a1 w =>
 Sm P (Builtin.append_ #[24, 24] 24 [.slice (some a1) 0 0, .slice s.a s.n s.c].toArray) [sS] (fun s2 w =>
 K s2 w) w) w)) : Call P 91 [.slice s.a s.n s.c] [sS] K w :=
  call_of (H := ⟨[], [], [], []⟩) Tryz.func91 (by kernel_rfl) (by kernel_rfl) vc

theorem f98_of (x : Task) {K : Bool → World → Prop} {w : World} (vc :
 New [.int .i64 x.period, .int .i64 x.cycles, .slice x.sec.a x.sec.n x.sec.c, .slice x.devs.a x.devs.n x.devs.c] 37 (fun a1 w =>
 Ld (.ki .i64) (a1.add 0) (fun n2 w =>
 K (n2 == 0) w) w) w) : Call P 98 [x.v] [sB] K w :=
  call_of (H := ⟨[], [], [], []⟩) Tryz.func98 (by kernel_rfl) (by kernel_rfl) vc

theorem f104_of (k : Option Addr) {K : World → Prop} {w : World} (vc :
 WithAddr k fun a1 =>
 Ld (.kb) (a1.add 25) (fun b2 w =>
 If b2 (
 Call P 134 [.pointer k] [] (fun w =>
 K w) w) (
 Call P 105 [.pointer k] [sI, sB] (fun n3 b4 w =>
 If b4 (
 Call P 135 [.pointer k, .int .i64 n3] [] (fun w =>
 K w) w) (
 Call P 136 [.pointer k] [] (fun w =>
 K w) w)) w)) w) : Call P 104 [.pointer k] [] K w :=
  call_of (H := ⟨[], [], [], []⟩) Tryz.func104 (by kernel_rfl) (by kernel_rfl) vc

theorem f110_of (t : Option Addr) (id : Int) (x2 : Int) (every : Int) {K : World → Prop} {w : World} (vc :
 If (Option.isNone t) (
 K w) (
 WithAddr t fun a1 =>
 Ld (.kp) (a1.add 0) (fun p2 w =>
 Call P 113 [.pointer p2, .int .i64 id, .int .i64 (if 1099511627776 < x2 then 1099511627776 else x2)] [] (fun w =>
 WithAddr t fun a3 =>
 Ld (.km) (a3.add 1) (fun m4 w =>
 SmU P (Instr.mapUpdate 146 (.map m4) (.int .i64 id) (.int .i64 every)) (fun w =>
 K w) w) w) w) w)) : Call P 110 [.pointer t, .int .i64 id, .int .i64 x2, .int .i64 every] [] K w :=
  call_of (H := ⟨[], [], [], []⟩) Tryz.func110 (by kernel_rfl) (by kernel_rfl) vc

theorem f116_of (tasks : Sl) (next : Sl) (list : Sl) (d : Int) (now : Int) {K : Int → World → Prop} {w : World} (vc :
 ∃ (I3 : Int → Int → World → Prop) (M4 : Int → Int → World → Nat), I3 1099511627776 0 w ∧ ∀ (n1 : Int) (n2 : Int) (v5 : World), I3 n1 n2 v5 → ∀ _ : Nat → Value,
 (fun w : World =>
 If (decide (n2 < ((tasks.n : Nat) : Int))) (
 ((0 : Int) ≤ n2 ∧ n2 < ((tasks.n : Nat) : Int)) ∧ WithAddr tasks.a fun a6 =>
 LdN shTask.cs 0 (a6.add (Int.toNat n2 * 4)) (fun n7 n8 s9 s10 w =>
 New [.int .i64 0, .int .i64 0, .slice none 0 0, .slice none 0 0] 37 (fun a11 w =>
 StN [.int .i64 n7, .int .i64 n8, .slice s9.a s9.n s9.c, .slice s10.a s10.n s10.c] 0 a11 (fun w =>
 Ld (.ki .i64) (a11.add 0) (fun n12 w =>
 If (decide (n12 > 0)) (
 LdN shTask.cs 0 a11 (fun n13 n14 s15 s16 w =>
 Call P 146 [.agg #[.int .i64 n13, .int .i64 n14, .slice s15.a s15.n s15.c, .slice s16.a s16.n s16.c], .int .i64 d] [sB] (fun b17 w =>
 If b17 (
 ((0 : Int) ≤ n2 ∧ n2 < ((next.n : Nat) : Int)) ∧ WithAddr next.a fun a18 =>
 Ld (.ki .i64) (a18.add (Int.toNat n2 * 1)) (fun n19 w =>
 I3 (if (if n19 > now then n19 else now) < n1 then (if n19 > now then n19 else now) else n1) (IntKind.wrap .i64 (n2 + 1)) w ∧ M4 (if (if n19 > now then n19 else now) < n1 then (if n19 > now then n19 else now) else n1) (IntKind.wrap .i64 (n2 + 1)) w < M4 n1 n2 v5) w) (
 I3 n1 (IntKind.wrap .i64 (n2 + 1)) w ∧ M4 n1 (IntKind.wrap .i64 (n2 + 1)) w < M4 n1 n2 v5)) w) w) (
 I3 n1 (IntKind.wrap .i64 (n2 + 1)) w ∧ M4 n1 (IntKind.wrap .i64 (n2 + 1)) w < M4 n1 n2 v5)) w) w) w) w) (
 ∃ (I21 : Int → World → Prop) (M22 : Int → World → Nat), I21 0 w ∧ ∀ (n20 : Int) (v23 : World), I21 n20 v23 → ∀ _ : Nat → Value,
 (fun w : World =>
 If (decide (n20 < ((list.n : Nat) : Int))) (
 ((0 : Int) ≤ n20 ∧ n20 < ((list.n : Nat) : Int)) ∧ WithAddr list.a fun a24 =>
 LdN shJob.cs 0 (a24.add (Int.toNat n20 * 6)) (fun n25 n26 n27 n28 n29 b30 w =>
 New [.int .i64 0, .int .i64 0, .int .i64 0, .int .i64 0, .int .i64 0, .bool false] 50 (fun a31 w =>
 StN [.int .i64 n25, .int .i64 n26, .int .i64 n27, .int .i64 n28, .int .i64 n29, .bool b30] 0 a31 (fun w =>
 Ld (.ki .i64) (a31.add 0) (fun n32 w =>
 ((0 : Int) ≤ n32 ∧ n32 < ((tasks.n : Nat) : Int)) ∧ WithAddr tasks.a fun a33 =>
 LdN shTask.cs 0 (a33.add (Int.toNat n32 * 4)) (fun n34 n35 s36 s37 w =>
 Call P 146 [.agg #[.int .i64 n34, .int .i64 n35, .slice s36.a s36.n s36.c, .slice s37.a s37.n s37.c], .int .i64 d] [sB] (fun b38 w =>
 If b38 (
 K now w) (
 I21 (IntKind.wrap .i64 (n20 + 1)) w ∧ M22 (IntKind.wrap .i64 (n20 + 1)) w < M22 n20 v23)) w) w) w) w) w) w) (
 K n1 w)) v23)) v5) : Call P 116 [.slice tasks.a tasks.n tasks.c, .slice next.a next.n next.c, .slice list.a list.n list.c, .int .i64 d, .int .i64 now] [sI] K w :=
  call_of (H := ⟨[(3, [(11, .ki .i64), (18, .ki .i64)]), (9, [(42, .ki .i64)])], [], [], []⟩) Tryz.func116 (by kernel_rfl) (by kernel_rfl) vc

theorem f125_of (p : Plat) (list : Sl) {K : Bool → World → Prop} {w : World} (vc :
 New [.slice p.levels.a p.levels.n p.levels.c, .slice p.sleeps.a p.sleeps.n p.sleeps.c, .slice p.devices.a p.devices.n p.devices.c, .int .i64 p.idle, .int .i64 p.crit, .int .i64 p.switch, .int .i64 p.switchE, .int .i64 p.sems, .int .i64 p.horizon] 26 (fun a1 w =>
 ∃ (I3 : Int → World → Prop) (M4 : Int → World → Nat), I3 0 w ∧ ∀ (n2 : Int) (v5 : World), I3 n2 v5 → ∀ _ : Nat → Value,
 (fun w : World =>
 If (decide (n2 < ((list.n : Nat) : Int))) (
 ((0 : Int) ≤ n2 ∧ n2 < ((list.n : Nat) : Int)) ∧ WithAddr list.a fun a6 =>
 Ld (.ki .i64) (a6.add (Int.toNat n2 * 1)) (fun n7 w =>
 If (decide (n7 < 0)) (
 K false w) (
 Ld (.ks) (a1.add 2) (fun s8 w =>
 If (decide (n7 ≥ ((s8.n : Nat) : Int))) (
 K false w) (
 If (decide (n2 > 0)) (
 ((0 : Int) ≤ (IntKind.wrap .i64 (n2 - 1)) ∧ (IntKind.wrap .i64 (n2 - 1)) < ((list.n : Nat) : Int)) ∧ WithAddr list.a fun a9 =>
 Ld (.ki .i64) (a9.add (Int.toNat (IntKind.wrap .i64 (n2 - 1)) * 1)) (fun n10 w =>
 If (decide (n10 ≥ n7)) (
 K false w) (
 I3 (IntKind.wrap .i64 (n2 + 1)) w ∧ M4 (IntKind.wrap .i64 (n2 + 1)) w < M4 n2 v5)) w) (
 I3 (IntKind.wrap .i64 (n2 + 1)) w ∧ M4 (IntKind.wrap .i64 (n2 + 1)) w < M4 n2 v5))) w)) w) (
 K true w)) v5) w) : Call P 125 [p.v, .slice list.a list.n list.c] [sB] K w :=
  call_of (H := ⟨[(2, [(9, .ki .i64)])], [], [], []⟩) Tryz.func125 (by kernel_rfl) (by kernel_rfl) vc

theorem f132_of (d : Device) (x : Away) (now : Int) {K : Int → World → Prop} {w : World} (vc :
 New [.int .i64 d.on, .int .i64 d.off, .int .i64 d.down, .int .i64 d.up, .int .i64 d.downE, .int .i64 d.upE, .int .i64 d.even] 58 (fun a1 w =>
 New [.int .i64 x.from_, .int .i64 x.until_] 97 (fun a2 w =>
 LdN shItem.cs 0 a2 (fun n3 n4 w =>
 Call P 76 [.agg #[.int .i64 n3, .int .i64 n4]] [sB] (fun b5 w =>
 If b5 (
 K 1 w) (
 Ld (.ki .i64) (a2.add 0) (fun n6 w =>
 If (decide (now < n6)) (
 K 1 w) (
 Ld (.ki .i64) (a2.add 1) (fun n7 w =>
 If (decide (now ≥ n7)) (
 K 1 w) (
 Ld (.ki .i64) (a2.add 0) (fun n8 w =>
 Ld (.ki .i64) (a1.add 2) (fun n9 w =>
 If (decide (now < (IntKind.wrap .i64 (n8 + n9)))) (
 K 3 w) (
 Ld (.ki .i64) (a2.add 1) (fun n10 w =>
 Ld (.ki .i64) (a1.add 3) (fun n11 w =>
 If (decide (now < (IntKind.wrap .i64 (n10 - n11)))) (
 K 2 w) (
 K 4 w)) w) w)) w) w)) w)) w)) w) w) w) w) : Call P 132 [d.v, x.v, .int .i64 now] [sI] K w :=
  call_of (H := ⟨[], [], [], []⟩) Tryz.func132 (by kernel_rfl) (by kernel_rfl) vc

theorem f138_of (l : Option Addr) (tasks : Sl) {K : Int → World → Prop} {w : World} (vc :
 Call P 48 [.pointer l] [sS] (fun s1 w =>
 ∃ (I4 : Int → Int → World → Prop) (M5 : Int → Int → World → Nat), I4 1099511627776 0 w ∧ ∀ (n2 : Int) (n3 : Int) (v6 : World), I4 n2 n3 v6 → ∀ _ : Nat → Value,
 (fun w : World =>
 If (decide (n3 < ((s1.n : Nat) : Int))) (
 ((0 : Int) ≤ n3 ∧ n3 < ((s1.n : Nat) : Int)) ∧ WithAddr s1.a fun a7 =>
 LdN shHeld.cs 0 (a7.add (Int.toNat n3 * 3)) (fun n8 n9 n10 w =>
 New [.int .i64 0, .int .i64 0, .int .i64 0] 76 (fun a11 w =>
 StN [.int .i64 n8, .int .i64 n9, .int .i64 n10] 0 a11 (fun w =>
 Ld (.ki .i64) (a11.add 1) (fun n12 w =>
 Call P 171 [.slice tasks.a tasks.n tasks.c, .int .i64 n12] [sI] (fun n13 w =>
 I4 (if n13 < n2 then n13 else n2) (IntKind.wrap .i64 (n3 + 1)) w ∧ M5 (if n13 < n2 then n13 else n2) (IntKind.wrap .i64 (n3 + 1)) w < M5 n2 n3 v6) w) w) w) w) w) (
 K n2 w)) v6) w) : Call P 138 [.pointer l, .slice tasks.a tasks.n tasks.c] [sI] K w :=
  call_of (H := ⟨[(3, [(5, .ki .i64), (11, .ki .i64)])], [], [], []⟩) Tryz.func138 (by kernel_rfl) (by kernel_rfl) vc

theorem f145_of (h : Option Addr) (n : Int) {K : World → Prop} {w : World} (vc :
 ∃ (I2 : Int → World → Prop) (M3 : Int → World → Nat), I2 n w ∧ ∀ (n1 : Int) (v4 : World), I2 n1 v4 → ∀ _ : Nat → Value,
 (fun w : World =>
 New [.int .i64 (IntKind.wrap .i64 ((IntKind.wrap .i64 (2 * n1)) + 1)), .int .i64 (IntKind.wrap .i64 ((IntKind.wrap .i64 (2 * n1)) + 2))] 3 (fun a5 w =>
 ∃ (I8 : Int → Int → World → Prop) (M9 : Int → Int → World → Nat), I8 n1 0 w ∧ ∀ (n6 : Int) (n7 : Int) (v10 : World), I8 n6 n7 v10 → ∀ _ : Nat → Value,
 (fun w : World =>
 If (decide (n7 < ((2 : Nat) : Int))) (
 ((0 : Int) ≤ n7 ∧ n7 < ((2 : Nat) : Int)) ∧ Ld (.ki .i64) (a5.add (Int.toNat n7 * 1)) (fun n11 w =>
 (fun w : World =>
 WithAddr h fun a12 =>
 Ld (.ks) (a12.add 0) (fun s13 w =>
 If (decide (n11 < ((s13.n : Nat) : Int))) (
 WithAddr h fun a14 =>
 Ld (.ks) (a14.add 0) (fun s15 w =>
 ((0 : Int) ≤ n11 ∧ n11 < ((s15.n : Nat) : Int)) ∧ WithAddr s15.a fun a16 =>
 LdN shItem.cs 0 (a16.add (Int.toNat n11 * 2)) (fun n17 n18 w =>
 WithAddr h fun a19 =>
 Ld (.ks) (a19.add 0) (fun s20 w =>
 ((0 : Int) ≤ n6 ∧ n6 < ((s20.n : Nat) : Int)) ∧ WithAddr s20.a fun a21 =>
 LdN shItem.cs 0 (a21.add (Int.toNat n6 * 2)) (fun n22 n23 w =>
 Call P 174 [.agg #[.int .i64 n17, .int .i64 n18], .agg #[.int .i64 n22, .int .i64 n23]] [sB] (fun b24 w =>
 (w.cell? ((a19.add 0).add 0) = some (.slice s20.a s20.n s20.c)) ∧ (w.cell? ((a14.add 0).add 0) = some (.slice s15.a s15.n s15.c)) ∧ (w.cell? ((a12.add 0).add 0) = some (.slice s13.a s13.n s13.c)) ∧ If b24 (
 I8 n11 (IntKind.wrap .i64 (n7 + 1)) w ∧ M9 n11 (IntKind.wrap .i64 (n7 + 1)) w < M9 n6 n7 v10) (
 I8 n6 (IntKind.wrap .i64 (n7 + 1)) w ∧ M9 n6 (IntKind.wrap .i64 (n7 + 1)) w < M9 n6 n7 v10)) w) w) w) w) w) (
 I8 n6 (IntKind.wrap .i64 (n7 + 1)) w ∧ M9 n6 (IntKind.wrap .i64 (n7 + 1)) w < M9 n6 n7 v10)) w) w.drew) w) (
 If (n6 == n1) (
 K w) (
 Call P 173 [.pointer h, .int .i64 n1, .int .i64 n6] [] (fun w =>
 I2 n6 w ∧ M3 n6 w < M3 n1 v4) w))) v10) w) v4) : Call P 145 [.pointer h, .int .i64 n] [] K w :=
  call_of (H := ⟨[(0, [(1, .ki .i64)]), (2, [(4, .ki .i64), (16, .ki .i64)])], [], [(4, .take 0 (.take 1 (.take 2 (.take 3 (.take 4 (.take 5 (.take 6 (.take 7 (.take 8 (.take 9 (.take 10 (.take 11 (.take 12 (.take 13 (.take 14 (.take 15 (.take 16 (.take 17 (.take 18 (.take 19 (.take 20 (.take 21 (.run 22 (.take 23 .done))))))))))))))))))))))))], []⟩) Tryz.func145 (by kernel_rfl) (by kernel_rfl) vc

theorem f163_of (l : Option Addr) (task : Int) {K : Bool → World → Prop} {w : World} (vc :
 New [.int .i64 task] 3 (fun a1 w =>
 If (!(Option.isNone l)) (
 WithAddr l fun a2 =>
 Ld (.ks) (a2.add 0) (fun s3 w =>
 Call P 140 [.slice s3.a s3.n s3.c, .func (.func 186) #[] #[.pointer (some a1)]] [sB] (fun b4 w =>
 K b4 w) w) w) (
 K false w)) w) : Call P 163 [.pointer l, .int .i64 task] [sB] K w :=
  call_of (H := ⟨[], [], [], []⟩) Tryz.func163 (by kernel_rfl) (by kernel_rfl) vc

theorem f169_of (p : Plat) (stay : Int) {K : Int → Bool → World → Prop} {w : World} (vc :
 New [.slice p.levels.a p.levels.n p.levels.c, .slice p.sleeps.a p.sleeps.n p.sleeps.c, .slice p.devices.a p.devices.n p.devices.c, .int .i64 p.idle, .int .i64 p.crit, .int .i64 p.switch, .int .i64 p.switchE, .int .i64 p.sems, .int .i64 p.horizon] 26 (fun a1 w =>
 Ld (.ks) (a1.add 1) (fun s2 w =>
 ∃ (I6 : Int → Bool → Int → World → Prop) (M7 : Int → Bool → Int → World → Nat), I6 0 false 0 w ∧ ∀ (n3 : Int) (b4 : Bool) (n5 : Int) (v8 : World), I6 n3 b4 n5 v8 → ∀ _ : Nat → Value,
 (fun w : World =>
 If (decide (n5 < ((s2.n : Nat) : Int))) (
 ((0 : Int) ≤ n5 ∧ n5 < ((s2.n : Nat) : Int)) ∧ WithAddr s2.a fun a9 =>
 LdN shSleep.cs 0 (a9.add (Int.toNat n5 * 6)) (fun n10 n11 n12 n13 n14 n15 w =>
 New [.int .i64 0, .int .i64 0, .int .i64 0, .int .i64 0, .int .i64 0, .int .i64 0] 105 (fun a16 w =>
 StN [.int .i64 n10, .int .i64 n11, .int .i64 n12, .int .i64 n13, .int .i64 n14, .int .i64 n15] 0 a16 (fun w =>
 (fun w : World =>
 Ld (.ki .i64) (a16.add 5) (fun n17 w =>
 If (decide (n17 ≤ stay)) (
 If (!b4) (
 I6 n5 true (IntKind.wrap .i64 (n5 + 1)) w ∧ M7 n5 true (IntKind.wrap .i64 (n5 + 1)) w < M7 n3 b4 n5 v8) (
 LdN shSleep.cs 0 a16 (fun n18 n19 n20 n21 n22 n23 w =>
 Ld (.ks) (a1.add 1) (fun s24 w =>
 ((0 : Int) ≤ n3 ∧ n3 < ((s24.n : Nat) : Int)) ∧ WithAddr s24.a fun a25 =>
 LdN shSleep.cs 0 (a25.add (Int.toNat n3 * 6)) (fun n26 n27 n28 n29 n30 n31 w =>
 Call P 195 [.agg #[.int .i64 n18, .int .i64 n19, .int .i64 n20, .int .i64 n21, .int .i64 n22, .int .i64 n23], .int .i64 stay] [sI] (fun n32 w =>
 (w.cell? ((a25.add (Int.toNat n3 * 6)).add 0) = some (.int .i64 n26) ∧ w.cell? ((a25.add (Int.toNat n3 * 6)).add 1) = some (.int .i64 n27) ∧ w.cell? ((a25.add (Int.toNat n3 * 6)).add 2) = some (.int .i64 n28) ∧ w.cell? ((a25.add (Int.toNat n3 * 6)).add 3) = some (.int .i64 n29) ∧ w.cell? ((a25.add (Int.toNat n3 * 6)).add 4) = some (.int .i64 n30) ∧ w.cell? ((a25.add (Int.toNat n3 * 6)).add 5) = some (.int .i64 n31)) ∧ (w.cell? ((a1.add 1).add 0) = some (.slice s24.a s24.n s24.c)) ∧ (w.cell? ((a16.add 5).add 0) = some (.int .i64 n17)) ∧ Call P 195 [.agg #[.int .i64 n26, .int .i64 n27, .int .i64 n28, .int .i64 n29, .int .i64 n30, .int .i64 n31], .int .i64 stay] [sI] (fun n33 w =>
 (w.cell? ((a1.add 1).add 0) = some (.slice s24.a s24.n s24.c)) ∧ (w.cell? (a16.add 0) = some (.int .i64 n18) ∧ w.cell? (a16.add 1) = some (.int .i64 n19) ∧ w.cell? (a16.add 2) = some (.int .i64 n20) ∧ w.cell? (a16.add 3) = some (.int .i64 n21) ∧ w.cell? (a16.add 4) = some (.int .i64 n22) ∧ w.cell? (a16.add 5) = some (.int .i64 n23)) ∧ (w.cell? ((a16.add 5).add 0) = some (.int .i64 n17)) ∧ If (decide (n32 < n33)) (
 I6 n5 true (IntKind.wrap .i64 (n5 + 1)) w ∧ M7 n5 true (IntKind.wrap .i64 (n5 + 1)) w < M7 n3 b4 n5 v8) (
 I6 n3 b4 (IntKind.wrap .i64 (n5 + 1)) w ∧ M7 n3 b4 (IntKind.wrap .i64 (n5 + 1)) w < M7 n3 b4 n5 v8)) w) w) w) w) w)) (
 I6 n3 b4 (IntKind.wrap .i64 (n5 + 1)) w ∧ M7 n3 b4 (IntKind.wrap .i64 (n5 + 1)) w < M7 n3 b4 n5 v8)) w) w.drew) w) w) w) (
 K n3 b4 w)) v8) w) w) : Call P 169 [p.v, .int .i64 stay] [sI, sB] K w :=
  call_of (H := ⟨[(3, [(6, .ki .i64), (7, .kb), (13, .ki .i64)])], [], [(5, .take 0 (.take 1 (.take 2 (.take 3 (.take 4 (.take 5 (.take 6 (.take 7 (.take 8 (.take 9 (.take 11 (.take 12 (.take 13 (.take 14 (.take 15 (.take 16 (.run 10 (.run 17 (.take 18 (.take 19 (.take 20 .done)))))))))))))))))))))], []⟩) Tryz.func169 (by kernel_rfl) (by kernel_rfl) vc

theorem f181_of (c : Int) (t : Int) {K : Int → World → Prop} {w : World} (vc :
 If (decide (t < 1)) (
 K 1099511627776 w) (
 Call P 198 [.int .i64 c, .int .i64 0, .int .i64 536870912] [sI] (fun n1 w =>
 (fun w : World =>
 (t : Int) ≠ 0 ∧ (t : Int) ≠ 0 ∧ K (IntKind.wrap .i64 ((IntKind.wrap .i64 (Int.tdiv (IntKind.wrap .i64 (n1 * 2 ^ 32)) t)) + (if 1 < Int.tmod (IntKind.wrap .i64 (n1 * 2 ^ 32)) t then 1 else Int.tmod (IntKind.wrap .i64 (n1 * 2 ^ 32)) t))) w) w.drew) w)) : Call P 181 [.int .i64 c, .int .i64 t] [sI] K w :=
  call_of (H := ⟨[], [], [(4, .take 0 (.take 1 (.take 2 (.take 3 (.take 4 (.take 5 (.take 6 (.take 7 (.take 8 .done)))))))))], []⟩) Tryz.func181 (by kernel_rfl) (by kernel_rfl) vc

theorem f187_of (s : Option Addr) (task : Int) {K : Bool → World → Prop} {w : World} (vc :
 If (Option.isNone s) (
 K false w) (
 WithAddr s fun a1 =>
 Ld (.km) (a1.add 1) (fun m2 w =>
 Sm P (Builtin.delete_ #[128, 3] 0 [.map m2, .int .i64 task].toArray) [] (fun w =>
 WithAddr s fun a3 =>
 Ld (.kp) (a3.add 0) (fun p4 w =>
 Call P 142 [.pointer p4, .int .i64 task] [sB] (fun b5 w =>
 K b5 w) w) w) w) w)) : Call P 187 [.pointer s, .int .i64 task] [sB] K w :=
  call_of (H := ⟨[], [], [], []⟩) Tryz.func187 (by kernel_rfl) (by kernel_rfl) vc

theorem f194_of (x : Int) {K : Int → World → Prop} {w : World} (vc :
 K (Int.fdiv x (2 ^ 32)) w) : Call P 194 [.int .i64 x] [sI] K w :=
  call_of (H := ⟨[], [], [], []⟩) Tryz.func194 (by kernel_rfl) (by kernel_rfl) vc

theorem f201_of (p : Plat) (i : Interval) {K : Int → World → Prop} {w : World} (vc :
 New [.slice p.levels.a p.levels.n p.levels.c, .slice p.sleeps.a p.sleeps.n p.sleeps.c, .slice p.devices.a p.devices.n p.devices.c, .int .i64 p.idle, .int .i64 p.crit, .int .i64 p.switch, .int .i64 p.switchE, .int .i64 p.sems, .int .i64 p.horizon] 26 (fun a1 w =>
 New [.int .i64 i.kind, .int .i64 i.from_, .int .i64 i.len, .int .i64 i.arg, .int .i64 i.task, .int .i64 i.cycles] 66 (fun a2 w =>
 Ld (.ki .i64) (a2.add 0) (fun n3 w =>
 If (n3 == 1) (
 (fun w : World =>
 Ld (.ki .i64) (a2.add 5) (fun n4 w =>
 LdN shPlat.cs 0 a1 (fun s5 s6 s7 n8 n9 n10 n11 n12 n13 w =>
 Ld (.ki .i64) (a2.add 3) (fun n14 w =>
 Call P 209 [.agg #[.slice s5.a s5.n s5.c, .slice s6.a s6.n s6.c, .slice s7.a s7.n s7.c, .int .i64 n8, .int .i64 n9, .int .i64 n10, .int .i64 n11, .int .i64 n12, .int .i64 n13], .int .i64 n14] [shAway] (fun n15 n16 w =>
 (w.cell? ((a2.add 5).add 0) = some (.int .i64 n4)) ∧ K (IntKind.wrap .i64 (n4 * n16)) w) w) w) w) w) w.drew) (
 If (n3 == 2) (
 Ld (.ki .i64) (a2.add 2) (fun n17 w =>
 Ld (.ki .i64) (a1.add 3) (fun n18 w =>
 K (IntKind.wrap .i64 (n17 * n18)) w) w) w) (
 If (n3 == 3) (
 Ld (.ki .i64) (a1.add 6) (fun n19 w =>
 K n19 w) w) (
 If (n3 == 4) (
 LdN shPlat.cs 0 a1 (fun s20 s21 s22 n23 n24 n25 n26 n27 n28 w =>
 Ld (.ki .i64) (a2.add 3) (fun n29 w =>
 Call P 210 [.agg #[.slice s20.a s20.n s20.c, .slice s21.a s21.n s21.c, .slice s22.a s22.n s22.c, .int .i64 n23, .int .i64 n24, .int .i64 n25, .int .i64 n26, .int .i64 n27, .int .i64 n28], .int .i64 n29] [shInterval] (fun n30 n31 n32 n33 n34 n35 w =>
 K n33 w) w) w) w) (
 If (n3 == 5) (
 (fun w : World =>
 Ld (.ki .i64) (a2.add 2) (fun n36 w =>
 LdN shPlat.cs 0 a1 (fun s37 s38 s39 n40 n41 n42 n43 n44 n45 w =>
 Ld (.ki .i64) (a2.add 3) (fun n46 w =>
 Call P 210 [.agg #[.slice s37.a s37.n s37.c, .slice s38.a s38.n s38.c, .slice s39.a s39.n s39.c, .int .i64 n40, .int .i64 n41, .int .i64 n42, .int .i64 n43, .int .i64 n44, .int .i64 n45], .int .i64 n46] [shInterval] (fun n47 n48 n49 n50 n51 n52 w =>
 (w.cell? ((a2.add 2).add 0) = some (.int .i64 n36)) ∧ K (IntKind.wrap .i64 (n36 * n47)) w) w) w) w) w) w.drew) (
 If (n3 == 6) (
 LdN shPlat.cs 0 a1 (fun s53 s54 s55 n56 n57 n58 n59 n60 n61 w =>
 Ld (.ki .i64) (a2.add 3) (fun n62 w =>
 Call P 210 [.agg #[.slice s53.a s53.n s53.c, .slice s54.a s54.n s54.c, .slice s55.a s55.n s55.c, .int .i64 n56, .int .i64 n57, .int .i64 n58, .int .i64 n59, .int .i64 n60, .int .i64 n61], .int .i64 n62] [shInterval] (fun n63 n64 n65 n66 n67 n68 w =>
 K n67 w) w) w) w) (
 K 0 w))))))) w) w) w) : Call P 201 [p.v, i.v] [sI] K w :=
  call_of (H := ⟨[], [], [(3, .take 0 (.take 1 (.take 2 (.take 3 (.take 4 (.run 5 (.take 6 (.take 7 (.take 8 .done))))))))), (11, .take 0 (.take 1 (.take 2 (.take 3 (.take 4 (.run 5 (.take 6 (.take 7 (.take 8 .done)))))))))], []⟩) Tryz.func201 (by kernel_rfl) (by kernel_rfl) vc

theorem f208_of (p : Plat) (tasks : Sl) (used : Sl) {K : Int → World → Prop} {w : World} (vc :
 New [.slice p.levels.a p.levels.n p.levels.c, .slice p.sleeps.a p.sleeps.n p.sleeps.c, .slice p.devices.a p.devices.n p.devices.c, .int .i64 p.idle, .int .i64 p.crit, .int .i64 p.switch, .int .i64 p.switchE, .int .i64 p.sems, .int .i64 p.horizon] 26 (fun a1 w =>
 ∃ (I4 : Int → Int → World → Prop) (M5 : Int → Int → World → Nat), I4 0 1 w ∧ ∀ (n2 : Int) (n3 : Int) (v6 : World), I4 n2 n3 v6 → ∀ _ : Nat → Value,
 (fun w : World =>
 Ld (.ki .i64) (a1.add 4) (fun n7 w =>
 If (decide (n3 ≤ n7)) (
 LdN shPlat.cs 0 a1 (fun s8 s9 s10 n11 n12 n13 n14 n15 n16 w =>
 Call P 160 [.agg #[.slice s8.a s8.n s8.c, .slice s9.a s9.n s9.c, .slice s10.a s10.n s10.c, .int .i64 n11, .int .i64 n12, .int .i64 n13, .int .i64 n14, .int .i64 n15, .int .i64 n16], .slice tasks.a tasks.n tasks.c] [sI] (fun n17 w =>
 ∃ (I20 : Int → Int → World → Prop) (M21 : Int → Int → World → Nat), I20 n17 0 w ∧ ∀ (n18 : Int) (n19 : Int) (v22 : World), I20 n18 n19 v22 → ∀ _ : Nat → Value,
 (fun w : World =>
 If (decide (n19 < ((tasks.n : Nat) : Int))) (
 ((0 : Int) ≤ n19 ∧ n19 < ((tasks.n : Nat) : Int)) ∧ WithAddr tasks.a fun a23 =>
 LdN shTask.cs 0 (a23.add (Int.toNat n19 * 4)) (fun n24 n25 s26 s27 w =>
 New [.int .i64 0, .int .i64 0, .slice none 0 0, .slice none 0 0] 37 (fun a28 w =>
 StN [.int .i64 n24, .int .i64 n25, .slice s26.a s26.n s26.c, .slice s27.a s27.n s27.c] 0 a28 (fun w =>
 (fun w : World =>
 ((0 : Int) ≤ n19 ∧ n19 < ((used.n : Nat) : Int)) ∧ WithAddr used.a fun a29 =>
 Ld (.ki .i64) (a29.add (Int.toNat n19 * 1)) (fun n30 w =>
 Ld (.ks) (a1.add 0) (fun s31 w =>
 ((0 : Int) ≤ n3 ∧ n3 < ((s31.n : Nat) : Int)) ∧ WithAddr s31.a fun a32 =>
 Ld (.ki .i64) ((a32.add (Int.toNat n3 * 2)).add 0) (fun n33 w =>
 Ld (.ki .i64) (a1.add 5) (fun n34 w =>
 Ld (.ki .i64) (a28.add 0) (fun n35 w =>
 Call P 181 [.int .i64 (IntKind.wrap .i64 ((IntKind.wrap .i64 (n30 * n33)) + (IntKind.wrap .i64 (2 * n34)))), .int .i64 n35] [sI] (fun n36 w =>
 (w.cell? ((a1.add 5).add 0) = some (.int .i64 n34)) ∧ (w.cell? (((a32.add (Int.toNat n3 * 2)).add 0).add 0) = some (.int .i64 n33)) ∧ (w.cell? ((a1.add 0).add 0) = some (.slice s31.a s31.n s31.c)) ∧ (w.cell? ((a29.add (Int.toNat n19 * 1)).add 0) = some (.int .i64 n30)) ∧ I20 (IntKind.wrap .i64 (n18 + n36)) (IntKind.wrap .i64 (n19 + 1)) w ∧ M21 (IntKind.wrap .i64 (n18 + n36)) (IntKind.wrap .i64 (n19 + 1)) w < M21 n18 n19 v22) w) w) w) w) w) w) w.drew) w) w) w) (
 If (decide (n18 ≤ 4294967296)) (
 I4 n3 (IntKind.wrap .i64 (n3 + 1)) w ∧ M5 n3 (IntKind.wrap .i64 (n3 + 1)) w < M5 n2 n3 v6) (
 I4 n2 (IntKind.wrap .i64 (n3 + 1)) w ∧ M5 n2 (IntKind.wrap .i64 (n3 + 1)) w < M5 n2 n3 v6))) v22) w) w) (
 K n2 w)) w) v6) w) : Call P 208 [p.v, .slice tasks.a tasks.n tasks.c, .slice used.a used.n used.c] [sI] K w :=
  call_of (H := ⟨[(3, [(7, .ki .i64), (8, .ki .i64)]), (7, [(9, .ki .i64), (23, .ki .i64)])], [], [(9, .take 0 (.take 1 (.take 2 (.take 3 (.take 4 (.take 5 (.take 6 (.take 7 (.take 8 (.take 9 (.take 10 (.take 11 (.take 12 (.take 13 (.take 14 (.take 15 (.take 16 (.take 17 (.run 18 (.take 19 (.take 20 .done)))))))))))))))))))))], []⟩) Tryz.func208 (by kernel_rfl) (by kernel_rfl) vc

theorem f214_of (p : Plat) (j : Job) {K : Int → World → Prop} {w : World} (vc :
 New [.slice p.levels.a p.levels.n p.levels.c, .slice p.sleeps.a p.sleeps.n p.sleeps.c, .slice p.devices.a p.devices.n p.devices.c, .int .i64 p.idle, .int .i64 p.crit, .int .i64 p.switch, .int .i64 p.switchE, .int .i64 p.sems, .int .i64 p.horizon] 26 (fun a1 w =>
 New [.int .i64 j.task, .int .i64 j.release, .int .i64 j.deadline, .int .i64 j.left, .int .i64 j.real, .bool j.started] 50 (fun a2 w =>
 (fun w : World =>
 Ld (.ki .i64) (a2.add 3) (fun n3 w =>
 Ld (.ks) (a1.add 0) (fun s4 w =>
 ((0 : Int) ≤ 0 ∧ 0 < ((s4.n : Nat) : Int)) ∧ WithAddr s4.a fun a5 =>
 Ld (.ki .i64) ((a5.add (Int.toNat 0 * 2)).add 0) (fun n6 w =>
 Ld (.ki .i64) (a1.add 5) (fun n7 w =>
 Ld (.kb) (a2.add 5) (fun b8 w =>
 If (!b8) (
 Ld (.ki .i64) (a1.add 5) (fun n9 w =>
 K (IntKind.wrap .i64 ((IntKind.wrap .i64 ((IntKind.wrap .i64 ((if 0 > n3 then 0 else n3) * n6)) + n7)) + n9)) w) w) (
 K (IntKind.wrap .i64 ((IntKind.wrap .i64 ((if 0 > n3 then 0 else n3) * n6)) + n7)) w)) w) w) w) w) w) w.drew) w) w) : Call P 214 [p.v, j.v] [sI] K w :=
  call_of (H := ⟨[], [], [(1, .take 0 (.take 1 (.take 2 (.take 3 (.take 4 (.take 5 (.take 6 (.take 7 (.take 8 (.take 9 (.take 10 (.take 11 (.take 12 .done)))))))))))))], []⟩) Tryz.func214 (by kernel_rfl) (by kernel_rfl) vc

theorem f97t_of (s : Sl) {K : Int → World → Prop} {w : World} (vc :
 ∃ (I2 : Int → World → Prop) (M3 : Int → World → Nat), I2 0 w ∧ ∀ (n1 : Int) (v4 : World), I2 n1 v4 → ∀ _ : Nat → Value,
 (fun w : World =>
 If (decide (n1 < ((s.n : Nat) : Int))) (
 ((0 : Int) ≤ n1 ∧ n1 < ((s.n : Nat) : Int)) ∧ WithAddr s.a fun a5 =>
 LdN shTask.cs 0 (a5.add (Int.toNat n1 * 4)) (fun n6 n7 s8 s9 w =>
 Call P 129 [.agg #[.int .i64 n6, .int .i64 n7, .slice s8.a s8.n s8.c, .slice s9.a s9.n s9.c]] [sB] (fun b10 w =>
 If b10 (
 K n1 w) (
 I2 (IntKind.wrap .i64 (n1 + 1)) w ∧ M3 (IntKind.wrap .i64 (n1 + 1)) w < M3 n1 v4)) w) w) (
 K (-1) w)) v4) : Call P 97 [.slice s.a s.n s.c, .func (.func 129) #[] #[]] [sI] K w :=
  call_of (H := ⟨[(2, [(8, .ki .i64)])], [], [], []⟩) Tryz.func97 (by kernel_rfl) (by kernel_rfl) vc

theorem f117_of (data : Sl) (a : Int) (b : Int) (limit : Int) {K : World → Prop} {w : World} (vc :
 ∃ (I6 : Int → Int → Int → Bool → Bool → World → Prop) (M7 : Int → Int → Int → Bool → Bool → World → Nat), I6 a b limit true true w ∧ ∀ (n1 : Int) (n2 : Int) (n3 : Int) (b4 : Bool) (b5 : Bool) (v8 : World), I6 n1 n2 n3 b4 b5 v8 → ∀ _ : Nat → Value,
 (fun w : World =>
 If (decide ((IntKind.wrap .i64 (n2 - n1)) ≤ 12)) (
 Call P 147 [.slice data.a data.n data.c, .int .i64 n1, .int .i64 n2, .func (.func 75) #[] #[]] [] (fun w =>
 K w) w) (
 False)) v8) : Call P 117 [.slice data.a data.n data.c, .int .i64 a, .int .i64 b, .int .i64 limit, .func (.func 75) #[] #[]] [] K w :=
  call_of (H := ⟨[(2, [(1, .ki .i64), (2, .ki .i64), (3, .ki .i64), (10, .kb), (11, .kb)])], [], [], [5]⟩) Tryz.func117 (by kernel_rfl) (by kernel_rfl) vc

theorem f172f_of (s : Sl) (c : Option Addr) {K : Int → World → Prop} {w : World} (vc :
 ∃ (I2 : Int → World → Prop) (M3 : Int → World → Nat), I2 0 w ∧ ∀ (n1 : Int) (v4 : World), I2 n1 v4 → ∀ _ : Nat → Value,
 (fun w : World =>
 If (decide (n1 < ((s.n : Nat) : Int))) (
 ((0 : Int) ≤ n1 ∧ n1 < ((s.n : Nat) : Int)) ∧ WithAddr s.a fun a5 =>
 LdN shHeld.cs 0 (a5.add (Int.toNat n1 * 3)) (fun n6 n7 n8 w =>
 Call P 203 [.agg #[.int .i64 n6, .int .i64 n7, .int .i64 n8], .pointer c] [sB] (fun b9 w =>
 If b9 (
 K n1 w) (
 I2 (IntKind.wrap .i64 (n1 + 1)) w ∧ M3 (IntKind.wrap .i64 (n1 + 1)) w < M3 n1 v4)) w) w) (
 K (-1) w)) v4) : Call P 172 [.slice s.a s.n s.c, .func (.func 203) #[] #[.pointer c]] [sI] K w :=
  call_of (H := ⟨[(2, [(8, .ki .i64)])], [], [], []⟩) Tryz.func172 (by kernel_rfl) (by kernel_rfl) vc

end Go.Proofs.YtajilfnceoeaiaaGreat.V
