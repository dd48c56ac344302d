/- Parts of the proof: Propositions of function bodies (printed by gen.py), Propositions of function bodies (printed by gen.py), What the quiet functions answer: fix, task, admit. -/
import Derived.Test.YtajilfnceoeaiaaGreatZa3
set_option linter.unusedVariables false
set_option linter.unusedSimpArgs false
/- Propositions of function bodies (printed by gen.py). -/
namespace Go.Proofs.YtajilfnceoeaiaaGreat.V
open Go
set_option linter.unusedVariables false
set_option maxRecDepth 100000
theorem f13_of (k : Option Addr) (x : Step) {K : Int → Int → World → Prop} {w : World} (vc :
 New [.int .i64 x.kind, .int .i64 x.a, .int .i64 x.b, .int .i64 x.c, .int .i64 x.period, .int .i64 x.cycles, .slice x.sec.a x.sec.n x.sec.c, .slice x.devs.a x.devs.n x.devs.c] 39 (fun a1 w =>
 If (Option.isNone k) (
 K 0 1 w) (
 (fun w : World =>
 WithAddr k fun a2 =>
 Ld (.ki .i64) (a2.add 9) (fun n3 w =>
 WithAddr k fun a4 =>
 Ld (.ki .i64) ((a4.add 0).add 8) (fun n5 w =>
 If (decide (n3 ≥ n5)) (
 K 0 11 w) (
 LdN shStep.cs 0 a1 (fun n6 n7 n8 n9 n10 n11 s12 s13 w =>
 Call P 36 [.pointer k, .agg #[.int .i64 n6, .int .i64 n7, .int .i64 n8, .int .i64 n9, .int .i64 n10, .int .i64 n11, .slice s12.a s12.n s12.c, .slice s13.a s13.n s13.c]] [sI, sI] (fun n14 n15 w =>
 If (n15 == 0) (
 Call P 37 [.pointer k] [] (fun w =>
 K n14 n15 w) w) (
 K n14 n15 w)) w) w)) w) w) w.drew)) w) : Call P 13 [.pointer k, x.v] [sI, sI] K w :=
  call_of (H := ⟨[], [], [(3, .take 0 (.take 1 (.take 2 (.take 3 (.take 4 (.take 5 (.take 6 (.take 7 (.take 8 (.take 9 (.take 10 .done)))))))))))], []⟩) Tryz.func13 (by kernel_rfl) (by kernel_rfl) vc

theorem f19_of (k : Option Addr) {K : Sl → World → Prop} {w : World} (vc :
 If (Option.isNone k) (
 K ⟨none, 0, 0⟩ w) (
 WithAddr k fun a1 =>
 Ld (.ks) (a1.add 14) (fun s2 w =>
 ∃ (I5 : Sl → Int → World → Prop) (M6 : Sl → Int → World → Nat), I5 ⟨none, 0, 0⟩ 0 w ∧ ∀ (s3 : Sl) (n4 : Int) (v7 : World), I5 s3 n4 v7 → ∀ _ : Nat → Value,
 (fun w : World =>
 If (decide (n4 < ((s2.n : Nat) : Int))) (
 ((0 : Int) ≤ n4 ∧ n4 < ((s2.n : Nat) : Int)) ∧ WithAddr s2.a fun a8 =>
 LdN shTask.cs 0 (a8.add (Int.toNat n4 * 4)) (fun n9 n10 s11 s12 w =>
 New [.int .i64 0, .int .i64 0, .slice none 0 0, .slice none 0 0] 37 (fun a13 w =>
 StN [.int .i64 n9, .int .i64 n10, .slice s11.a s11.n s11.c, .slice s12.a s12.n s12.c] 0 a13 (fun w =>
 LdN shTask.cs 0 a13 (fun n14 n15 s16 s17 w =>
 Call P 41 [.agg #[.int .i64 n14, .int .i64 n15, .slice s16.a s16.n s16.c, .slice s17.a s17.n s17.c]] [shTask] (fun n18 n19 s20 s21 w =>
 New [.int .i64 n18, .int .i64 n19, .slice s20.a s20.n s20.c, .slice s21.a s21.n s21.c] 37 (fun a22 w =>
 Sm P (Builtin.append_ #[54, 54] 54 [.slice s3.a s3.n s3.c, .slice (some a22) 1 1].toArray) [sS] (fun s23 w =>
 I5 s23 (IntKind.wrap .i64 (n4 + 1)) w ∧ M6 s23 (IntKind.wrap .i64 (n4 + 1)) w < M6 s3 n4 v7) w) w) w) w) w) w) w) (
 Call P 42 [.slice s3.a s3.n s3.c] [sS] (fun s24 w =>
 K s24 w) w)) v7) w)) : Call P 19 [.pointer k] [sS] K w :=
  call_of (H := ⟨[(5, [(3, .ks), (13, .ki .i64)])], [], [], []⟩) Tryz.func19 (by kernel_rfl) (by kernel_rfl) vc

theorem f25_of (k : Option Addr) {K : Int → Int → Int → Int → World → Prop} {w : World} (vc :
 New [.int .i64 0, .int .i64 0, .int .i64 0, .int .i64 0] 68 (fun a1 w =>
 If (Option.isNone k) (
 StN [.int .i64 0, .int .i64 0, .int .i64 0, .int .i64 0] 0 a1 (fun w =>
 LdN shMeter.cs 0 a1 (fun n2 n3 n4 n5 w =>
 K n2 n3 n4 n5 w) w) w) (
 WithAddr k fun a6 =>
 LdN shMeter.cs 0 (a6.add 29) (fun n7 n8 n9 n10 w =>
 StN [.int .i64 n7, .int .i64 n8, .int .i64 n9, .int .i64 n10] 0 a1 (fun w =>
 LdN shMeter.cs 0 a1 (fun n11 n12 n13 n14 w =>
 K n11 n12 n13 n14 w) w) w) w)) w) : Call P 25 [.pointer k] [shEvent] K w :=
  call_of (H := ⟨[], [], [], []⟩) Tryz.func25 (by kernel_rfl) (by kernel_rfl) vc

theorem f38_of (s : Sl) {K : Sl → World → Prop} {w : World} (vc :
 Sm P (Instr.sliceAt 42 (.slice s.a s.n s.c) none (some (.int .i64 ((s.n : Nat) : Int))) (some (.int .i64 ((s.n : Nat) : Int)))) [sS] (fun s1 w =>
 K s1 w) w) : Call P 38 [.slice s.a s.n s.c] [sS] K w :=
  call_of (H := ⟨[], [], [], []⟩) Tryz.func38 (by kernel_rfl) (by kernel_rfl) vc

theorem f44_of (d : Device) (x : Away) (now : Int) {K : Int → World → Prop} {w : World} (vc :
 New [.int .i64 d.on, .int .i64 d.off, .int .i64 d.down, .int .i64 d.up, .int .i64 d.downE, .int .i64 d.upE, .int .i64 d.even] 58 (fun a1 w =>
 New [.int .i64 x.from_, .int .i64 x.until_] 97 (fun a2 w =>
 LdN shItem.cs 0 a2 (fun n3 n4 w =>
 Call P 76 [.agg #[.int .i64 n3, .int .i64 n4]] [sB] (fun b5 w =>
 If b5 (
 Ld (.ki .i64) (a1.add 0) (fun n6 w =>
 K (IntKind.wrap .i64 (n6 * (if 0 > now then 0 else now))) w) w) (
 Ld (.ki .i64) (a2.add 0) (fun n7 w =>
 If (decide (now ≥ n7)) (
 Ld (.ki .i64) (a1.add 4) (fun n8 w =>
 Ld (.ki .i64) (a2.add 1) (fun n9 w =>
 Ld (.ki .i64) (a1.add 3) (fun n10 w =>
 If (decide (now ≥ (IntKind.wrap .i64 (n9 - n10)))) (
 Ld (.ki .i64) (a1.add 5) (fun n11 w =>
 (fun w : World =>
 Ld (.ki .i64) (a1.add 1) (fun n12 w =>
 Ld (.ki .i64) (a2.add 0) (fun n13 w =>
 Ld (.ki .i64) (a1.add 2) (fun n14 w =>
 Ld (.ki .i64) (a2.add 1) (fun n15 w =>
 Ld (.ki .i64) (a1.add 3) (fun n16 w =>
 Ld (.ki .i64) (a1.add 0) (fun n17 w =>
 Ld (.ki .i64) (a2.add 1) (fun n18 w =>
 Call P 77 [.int .i64 (IntKind.wrap .i64 (n13 + n14)), .int .i64 (IntKind.wrap .i64 (n15 - n16)), .int .i64 now] [sI] (fun n19 w =>
 (w.cell? ((a2.add 1).add 0) = some (.int .i64 n18)) ∧ (w.cell? ((a1.add 0).add 0) = some (.int .i64 n17)) ∧ (w.cell? ((a1.add 3).add 0) = some (.int .i64 n16)) ∧ (w.cell? ((a2.add 1).add 0) = some (.int .i64 n15)) ∧ (w.cell? ((a1.add 2).add 0) = some (.int .i64 n14)) ∧ (w.cell? ((a2.add 0).add 0) = some (.int .i64 n13)) ∧ (w.cell? ((a1.add 1).add 0) = some (.int .i64 n12)) ∧ K (IntKind.wrap .i64 ((IntKind.wrap .i64 ((IntKind.wrap .i64 ((IntKind.wrap .i64 (0 + n8)) + n11)) + (IntKind.wrap .i64 (n12 * n19)))) + (IntKind.wrap .i64 (n17 * (if 0 > IntKind.wrap .i64 (now - n18) then 0 else IntKind.wrap .i64 (now - n18)))))) w) w) w) w) w) w) w) w) w) w.drew) w) (
 (fun w : World =>
 Ld (.ki .i64) (a1.add 1) (fun n20 w =>
 Ld (.ki .i64) (a2.add 0) (fun n21 w =>
 Ld (.ki .i64) (a1.add 2) (fun n22 w =>
 Ld (.ki .i64) (a2.add 1) (fun n23 w =>
 Ld (.ki .i64) (a1.add 3) (fun n24 w =>
 Ld (.ki .i64) (a1.add 0) (fun n25 w =>
 Ld (.ki .i64) (a2.add 1) (fun n26 w =>
 Call P 77 [.int .i64 (IntKind.wrap .i64 (n21 + n22)), .int .i64 (IntKind.wrap .i64 (n23 - n24)), .int .i64 now] [sI] (fun n27 w =>
 (w.cell? ((a2.add 1).add 0) = some (.int .i64 n26)) ∧ (w.cell? ((a1.add 0).add 0) = some (.int .i64 n25)) ∧ (w.cell? ((a1.add 3).add 0) = some (.int .i64 n24)) ∧ (w.cell? ((a2.add 1).add 0) = some (.int .i64 n23)) ∧ (w.cell? ((a1.add 2).add 0) = some (.int .i64 n22)) ∧ (w.cell? ((a2.add 0).add 0) = some (.int .i64 n21)) ∧ (w.cell? ((a1.add 1).add 0) = some (.int .i64 n20)) ∧ K (IntKind.wrap .i64 ((IntKind.wrap .i64 ((IntKind.wrap .i64 (0 + n8)) + (IntKind.wrap .i64 (n20 * n27)))) + (IntKind.wrap .i64 (n25 * (if 0 > IntKind.wrap .i64 (now - n26) then 0 else IntKind.wrap .i64 (now - n26)))))) w) w) w) w) w) w) w) w) w) w.drew)) w) w) w) (
 Ld (.ki .i64) (a2.add 1) (fun n28 w =>
 Ld (.ki .i64) (a1.add 3) (fun n29 w =>
 If (decide (now ≥ (IntKind.wrap .i64 (n28 - n29)))) (
 Ld (.ki .i64) (a1.add 5) (fun n30 w =>
 (fun w : World =>
 Ld (.ki .i64) (a1.add 1) (fun n31 w =>
 Ld (.ki .i64) (a2.add 0) (fun n32 w =>
 Ld (.ki .i64) (a1.add 2) (fun n33 w =>
 Ld (.ki .i64) (a2.add 1) (fun n34 w =>
 Ld (.ki .i64) (a1.add 3) (fun n35 w =>
 Ld (.ki .i64) (a1.add 0) (fun n36 w =>
 Ld (.ki .i64) (a2.add 1) (fun n37 w =>
 Call P 77 [.int .i64 (IntKind.wrap .i64 (n32 + n33)), .int .i64 (IntKind.wrap .i64 (n34 - n35)), .int .i64 now] [sI] (fun n38 w =>
 (w.cell? ((a2.add 1).add 0) = some (.int .i64 n37)) ∧ (w.cell? ((a1.add 0).add 0) = some (.int .i64 n36)) ∧ (w.cell? ((a1.add 3).add 0) = some (.int .i64 n35)) ∧ (w.cell? ((a2.add 1).add 0) = some (.int .i64 n34)) ∧ (w.cell? ((a1.add 2).add 0) = some (.int .i64 n33)) ∧ (w.cell? ((a2.add 0).add 0) = some (.int .i64 n32)) ∧ (w.cell? ((a1.add 1).add 0) = some (.int .i64 n31)) ∧ K (IntKind.wrap .i64 ((IntKind.wrap .i64 ((IntKind.wrap .i64 (0 + n30)) + (IntKind.wrap .i64 (n31 * n38)))) + (IntKind.wrap .i64 (n36 * (if 0 > IntKind.wrap .i64 (now - n37) then 0 else IntKind.wrap .i64 (now - n37)))))) w) w) w) w) w) w) w) w) w) w.drew) w) (
 (fun w : World =>
 Ld (.ki .i64) (a1.add 1) (fun n39 w =>
 Ld (.ki .i64) (a2.add 0) (fun n40 w =>
 Ld (.ki .i64) (a1.add 2) (fun n41 w =>
 Ld (.ki .i64) (a2.add 1) (fun n42 w =>
 Ld (.ki .i64) (a1.add 3) (fun n43 w =>
 Ld (.ki .i64) (a1.add 0) (fun n44 w =>
 Ld (.ki .i64) (a2.add 1) (fun n45 w =>
 Call P 77 [.int .i64 (IntKind.wrap .i64 (n40 + n41)), .int .i64 (IntKind.wrap .i64 (n42 - n43)), .int .i64 now] [sI] (fun n46 w =>
 (w.cell? ((a2.add 1).add 0) = some (.int .i64 n45)) ∧ (w.cell? ((a1.add 0).add 0) = some (.int .i64 n44)) ∧ (w.cell? ((a1.add 3).add 0) = some (.int .i64 n43)) ∧ (w.cell? ((a2.add 1).add 0) = some (.int .i64 n42)) ∧ (w.cell? ((a1.add 2).add 0) = some (.int .i64 n41)) ∧ (w.cell? ((a2.add 0).add 0) = some (.int .i64 n40)) ∧ (w.cell? ((a1.add 1).add 0) = some (.int .i64 n39)) ∧ K (IntKind.wrap .i64 ((IntKind.wrap .i64 (0 + (IntKind.wrap .i64 (n39 * n46)))) + (IntKind.wrap .i64 (n44 * (if 0 > IntKind.wrap .i64 (now - n45) then 0 else IntKind.wrap .i64 (now - n45)))))) w) w) w) w) w) w) w) w) w) w.drew)) w) w)) w)) w) w) w) w) : Call P 44 [d.v, x.v, .int .i64 now] [sI] K w :=
  call_of (H := ⟨[], [], [(8, .take 0 (.take 1 (.take 2 (.take 3 (.take 4 (.take 5 (.take 6 (.take 7 (.take 8 (.take 9 (.take 10 (.take 11 (.take 12 (.take 13 (.take 17 (.take 18 (.take 19 (.take 20 (.take 21 (.take 22 (.take 23 (.take 24 (.run 14 (.take 15 (.take 16 (.take 25 (.take 26 .done)))))))))))))))))))))))))))], []⟩) Tryz.func44 (by kernel_rfl) (by kernel_rfl) vc

theorem f56_of  {K : Option Addr → World → Prop} {w : World} (vc :
 Call P 92 [] [sP] (fun p1 w =>
 Sm P (Instr.makeMap 128 none) [sM] (fun m2 w =>
 New [.pointer p1, .map m2] 130 (fun a3 w =>
 K (some a3) w) w) w) w) : Call P 56 [] [sP] K w :=
  call_of (H := ⟨[], [], [], []⟩) Tryz.func56 (by kernel_rfl) (by kernel_rfl) vc

theorem f62_of (k : Option Addr) (n : Int) {K : Int → World → Prop} {w : World} (vc :
 Call P 51 [.pointer k, .int .i64 n] [sB] (fun b1 w =>
 If (!b1) (
 K 6 w) (
 WithAddr k fun a2 =>
 Ld (.kp) (a2.add 17) (fun p3 w =>
 Call P 100 [.pointer p3, .int .i64 n] [shJob, sB] (fun n4 n5 n6 n7 n8 b9 b10 w =>
 New [.int .i64 0, .int .i64 0, .int .i64 0, .int .i64 0, .int .i64 0, .bool false] 50 (fun a11 w =>
 StN [.int .i64 n4, .int .i64 n5, .int .i64 n6, .int .i64 n7, .int .i64 n8, .bool b9] 0 a11 (fun w =>
 If b10 (
 K 8 w) (
 WithAddr k fun a12 =>
 Ld (.kp) (a12.add 21) (fun p13 w =>
 Call P 101 [.pointer p13, .int .i64 n] [sB] (fun b14 w =>
 If b14 (
 K 8 w) (
 WithAddr k fun a15 =>
 Ld (.kp) (a15.add 20) (fun p16 w =>
 Call P 48 [.pointer p16] [sS] (fun s17 w =>
 If (decide (((s17.n : Nat) : Int) > 0)) (
 K 8 w) (
 (fun w : World =>
 WithAddr k fun a18 =>
 Ld (.ks) (a18.add 14) (fun s19 w =>
 WithAddr k fun a20 =>
 Ld (.ks) (a20.add 15) (fun s21 w =>
 WithAddr k fun a22 =>
 Ld (.ks) (a22.add 16) (fun s23 w =>
 ((0 : Int) ≤ n ∧ n < ((s19.n : Nat) : Int)) ∧ WithAddr s19.a fun a24 =>
 StN [.int .i64 0, .int .i64 0, .slice none 0 0, .slice none 0 0] 0 (a24.add (Int.toNat n * 4)) (fun w =>
 ((0 : Int) ≤ n ∧ n < ((s21.n : Nat) : Int)) ∧ WithAddr s21.a fun a25 =>
 StN [.int .i64 0] 0 (a25.add (Int.toNat n * 1)) (fun w =>
 ((0 : Int) ≤ n ∧ n < ((s23.n : Nat) : Int)) ∧ WithAddr s23.a fun a26 =>
 StN [.int .i64 0] 0 (a26.add (Int.toNat n * 1)) (fun w =>
 WithAddr k fun a27 =>
 Ld (.kc) (a27.add 13) (fun c28 w =>
 Rv c28 (fun v w =>
 K 0 w) w) w) w) w) w) w) w) w) w.drew)) w) w)) w) w)) w) w) w) w)) w) : Call P 62 [.pointer k, .int .i64 n] [sI] K w :=
  call_of (H := ⟨[], [], [(6, .take 0 (.take 1 (.take 2 (.take 3 (.take 4 (.take 5 (.take 6 (.take 7 (.take 8 (.take 9 (.take 10 (.take 11 (.take 12 (.take 13 (.take 14 (.take 15 (.take 16 (.run 17 (.take 18 (.run 19 (.take 20 (.run 21 .done))))))))))))))))))))))], []⟩) Tryz.func62 (by kernel_rfl) (by kernel_rfl) vc

theorem f68_of (l : Option Addr) (now : Int) {K : Int → Int → Int → Bool → World → Prop} {w : World} (vc :
 If (Option.isNone l) (
 K 0 0 0 false w) (
 WithAddr l fun a1 =>
 Ld (.kp) (a1.add 0) (fun p2 w =>
 Call P 111 [.pointer p2] [sI, sI, sB] (fun n3 n4 b5 w =>
 If (!b5) (
 K 0 0 0 false w) (
 If (decide (n4 > now)) (
 K 0 0 0 false w) (
 WithAddr l fun a6 =>
 Ld (.kp) (a6.add 0) (fun p7 w =>
 Call P 112 [.pointer p7] [sI, sI, sB] (fun n8 n9 b10 w =>
 WithAddr l fun a11 =>
 Ld (.km) (a11.add 1) (fun m12 w =>
 Sm P (Instr.lookup 146 (.map m12) (.int .i64 n3) false) [sI] (fun n13 w =>
 WithAddr l fun a14 =>
 Ld (.km) (a14.add 1) (fun m15 w =>
 Sm P (Builtin.delete_ #[146, 3] 0 [.map m15, .int .i64 n3].toArray) [] (fun w =>
 K n3 n4 n13 true w) w) w) w) w) w) w))) w) w)) : Call P 68 [.pointer l, .int .i64 now] [sI, sI, sI, sB] K w :=
  call_of (H := ⟨[], [], [], []⟩) Tryz.func68 (by kernel_rfl) (by kernel_rfl) vc

theorem f75_of (a : Job) (b : Job) {K : Int → World → Prop} {w : World} (vc :
 New [.int .i64 a.task, .int .i64 a.release, .int .i64 a.deadline, .int .i64 a.left, .int .i64 a.real, .bool a.started] 50 (fun a1 w =>
 New [.int .i64 b.task, .int .i64 b.release, .int .i64 b.deadline, .int .i64 b.left, .int .i64 b.real, .bool b.started] 50 (fun a2 w =>
 (fun w : World =>
 Ld (.ki .i64) (a1.add 2) (fun n3 w =>
 Ld (.ki .i64) (a2.add 2) (fun n4 w =>
 Ld (.ki .i64) (a1.add 0) (fun n5 w =>
 Ld (.ki .i64) (a2.add 0) (fun n6 w =>
 Call P 120 [.int .i64 n3, .int .i64 n4] [sI] (fun n7 w =>
 (w.cell? ((a2.add 0).add 0) = some (.int .i64 n6)) ∧ (w.cell? ((a1.add 0).add 0) = some (.int .i64 n5)) ∧ Call P 120 [.int .i64 n5, .int .i64 n6] [sI] (fun n8 w =>
 (w.cell? ((a2.add 2).add 0) = some (.int .i64 n4)) ∧ (w.cell? ((a1.add 2).add 0) = some (.int .i64 n3)) ∧ New [.int .i64 n7, .int .i64 n8] 3 (fun a9 w =>
 (w.cell? ((a2.add 0).add 0) = some (.int .i64 n6)) ∧ (w.cell? ((a1.add 0).add 0) = some (.int .i64 n5)) ∧ (w.cell? ((a2.add 2).add 0) = some (.int .i64 n4)) ∧ (w.cell? ((a1.add 2).add 0) = some (.int .i64 n3)) ∧ Call P 119 [.slice (some a9) 2 2] [sI] (fun n10 w =>
 (w.cell? ((a2.add 0).add 0) = some (.int .i64 n6)) ∧ (w.cell? ((a1.add 0).add 0) = some (.int .i64 n5)) ∧ (w.cell? ((a2.add 2).add 0) = some (.int .i64 n4)) ∧ (w.cell? ((a1.add 2).add 0) = some (.int .i64 n3)) ∧ K n10 w) w) w) w) w) w) w) w) w) w.drew) w) w) : Call P 75 [a.v, b.v] [sI] K w :=
  call_of (H := ⟨[], [], [(1, .take 0 (.take 1 (.take 2 (.take 3 (.take 5 (.take 6 (.take 7 (.take 8 (.run 4 (.run 9 (.run 10 (.run 11 (.take 12 .done)))))))))))))], []⟩) Tryz.func75 (by kernel_rfl) (by kernel_rfl) vc

theorem f87_of (n : Int) (low : Int) (high : Int) {K : Bool → World → Prop} {w : World} (vc :
 If (decide (n ≥ low)) (
 K (decide (n ≤ high)) w) (
 K false w)) : Call P 87 [.int .i64 n, .int .i64 low, .int .i64 high] [sB] K w :=
  call_of (H := ⟨[], [], [], []⟩) Tryz.func87 (by kernel_rfl) (by kernel_rfl) vc

theorem f93_of (p : Plat) (t : Task) {K : Int → World → Prop} {w : World} (vc :
 New [.slice p.levels.a p.levels.n p.levels.c, .slice p.sleeps.a p.sleeps.n p.sleeps.c, .slice p.devices.a p.devices.n p.devices.c, .int .i64 p.idle, .int .i64 p.crit, .int .i64 p.switch, .int .i64 p.switchE, .int .i64 p.sems, .int .i64 p.horizon] 26 (fun a1 w =>
 New [.int .i64 t.period, .int .i64 t.cycles, .slice t.sec.a t.sec.n t.sec.c, .slice t.devs.a t.devs.n t.devs.c] 37 (fun a2 w =>
 Ld (.ki .i64) (a2.add 0) (fun n3 w =>
 If (decide (n3 < 1)) (
 K 3 w) (
 Ld (.ki .i64) (a2.add 0) (fun n4 w =>
 Ld (.ki .i64) (a1.add 8) (fun n5 w =>
 If (decide (n4 > n5)) (
 K 3 w) (
 Ld (.ki .i64) (a2.add 1) (fun n6 w =>
 If (decide (n6 < 1)) (
 K 3 w) (
 Ld (.ki .i64) (a2.add 1) (fun n7 w =>
 If (decide (n7 > 4096)) (
 K 3 w) (
 Ld (.ks) (a2.add 2) (fun s8 w =>
 Ld (.ki .i64) (a1.add 7) (fun n9 w =>
 If (decide (((s8.n : Nat) : Int) > n9)) (
 K 3 w) (
 Ld (.ks) (a2.add 2) (fun s10 w =>
 Call P 124 [.slice s10.a s10.n s10.c, .func (.func 123) #[] #[.pointer (some a2)]] [sB] (fun b11 w =>
 If b11 (
 K 3 w) (
 LdN shPlat.cs 0 a1 (fun s12 s13 s14 n15 n16 n17 n18 n19 n20 w =>
 Ld (.ks) (a2.add 3) (fun s21 w =>
 Call P 125 [.agg #[.slice s12.a s12.n s12.c, .slice s13.a s13.n s13.c, .slice s14.a s14.n s14.c, .int .i64 n15, .int .i64 n16, .int .i64 n17, .int .i64 n18, .int .i64 n19, .int .i64 n20], .slice s21.a s21.n s21.c] [sB] (fun b22 w =>
 If (!b22) (
 K 3 w) (
 K 0 w)) w) w) w)) w) w)) w) w)) w)) w)) w) w)) w) w) w) : Call P 93 [p.v, t.v] [sI] K w :=
  call_of (H := ⟨[], [], [], []⟩) Tryz.func93 (by kernel_rfl) (by kernel_rfl) vc

theorem f100_of (s : Option Addr) (task : Int) {K : Int → Int → Int → Int → Int → Bool → Bool → World → Prop} {w : World} (vc :
 New [.int .i64 0, .int .i64 0, .int .i64 0, .int .i64 0, .int .i64 0, .bool false] 50 (fun a1 w =>
 If (Option.isNone s) (
 StN [.int .i64 0, .int .i64 0, .int .i64 0, .int .i64 0, .int .i64 0, .bool false] 0 a1 (fun w =>
 LdN shJob.cs 0 a1 (fun n2 n3 n4 n5 n6 b7 w =>
 K n2 n3 n4 n5 n6 b7 false w) w) w) (
 WithAddr s fun a8 =>
 Ld (.km) (a8.add 1) (fun m9 w =>
 Sm P (Instr.lookup 128 (.map m9) (.int .i64 task) true) [shJob, sB] (fun n10 n11 n12 n13 n14 b15 b16 w =>
 New [.int .i64 0, .int .i64 0, .int .i64 0, .int .i64 0, .int .i64 0, .bool false] 50 (fun a17 w =>
 StN [.int .i64 n10, .int .i64 n11, .int .i64 n12, .int .i64 n13, .int .i64 n14, .bool b15] 0 a17 (fun w =>
 LdN shJob.cs 0 a17 (fun n18 n19 n20 n21 n22 b23 w =>
 StN [.int .i64 n18, .int .i64 n19, .int .i64 n20, .int .i64 n21, .int .i64 n22, .bool b23] 0 a1 (fun w =>
 LdN shJob.cs 0 a1 (fun n24 n25 n26 n27 n28 b29 w =>
 K n24 n25 n26 n27 n28 b29 b16 w) w) w) w) w) w) w) w)) w) : Call P 100 [.pointer s, .int .i64 task] [shJob, sB] K w :=
  call_of (H := ⟨[], [], [], []⟩) Tryz.func100 (by kernel_rfl) (by kernel_rfl) vc

theorem f106_of (t : Task) (s : Int) {K : Bool → World → Prop} {w : World} (vc :
 New [.int .i64 t.period, .int .i64 t.cycles, .slice t.sec.a t.sec.n t.sec.c, .slice t.devs.a t.devs.n t.devs.c] 37 (fun a1 w =>
 If (decide (s ≥ 0)) (
 Ld (.ks) (a1.add 2) (fun s2 w =>
 If (decide (s < ((s2.n : Nat) : Int))) (
 Ld (.ks) (a1.add 2) (fun s3 w =>
 ((0 : Int) ≤ s ∧ s < ((s3.n : Nat) : Int)) ∧ WithAddr s3.a fun a4 =>
 Ld (.ki .i64) (a4.add (Int.toNat s * 1)) (fun n5 w =>
 K (decide (n5 > 0)) w) w) w) (
 K false w)) w) (
 K false w)) w) : Call P 106 [t.v, .int .i64 s] [sB] K w :=
  call_of (H := ⟨[], [], [], []⟩) Tryz.func106 (by kernel_rfl) (by kernel_rfl) vc

theorem f112_of (h : Option Addr) {K : Int → Int → Bool → World → Prop} {w : World} (vc :
 Call P 111 [.pointer h] [sI, sI, sB] (fun n1 n2 b3 w =>
 If b3 (
 Call P 142 [.pointer h, .int .i64 n1] [sB] (fun b4 w =>
 K n1 n2 b3 w) w) (
 K n1 n2 b3 w)) w) : Call P 112 [.pointer h] [sI, sI, sB] K w :=
  call_of (H := ⟨[], [], [], []⟩) Tryz.func112 (by kernel_rfl) (by kernel_rfl) vc

theorem f120_of (x : Int) (y : Int) {K : Int → World → Prop} {w : World} (vc :
 Call P 157 [.int .i64 x] [sB] (fun b1 w =>
 Call P 157 [.int .i64 y] [sB] (fun b2 w =>
 If b1 (
 If b2 (
 K 0 w) (
 K (-1) w)) (
 If b2 (
 K 1 w) (
 If (decide (x < y)) (
 K (-1) w) (
 If (decide (x > y)) (
 K 1 w) (
 K 0 w))))) w) w) : Call P 120 [.int .i64 x, .int .i64 y] [sI] K w :=
  call_of (H := ⟨[], [], [], []⟩) Tryz.func120 (by kernel_rfl) (by kernel_rfl) vc

theorem f128_of (s : Sl) {K : Sl → World → Prop} {w : World} (vc :
 If (Option.isNone s.a) (
 K ⟨none, 0, 0⟩ w) (
 New [] 37 (fun a1 w =>
 Sm P (Builtin.append_ #[54, 54] 54 [.slice (some a1) 0 0, .slice s.a s.n s.c].toArray) [sS] (fun s2 w =>
 K s2 w) w) w)) : Call P 128 [.slice s.a s.n s.c] [sS] K w :=
  call_of (H := ⟨[], [], [], []⟩) Tryz.func128 (by kernel_rfl) (by kernel_rfl) vc

theorem f134_of (k : Option Addr) {K : World → Prop} {w : World} (vc :
 (fun w : World =>
 WithAddr k fun a1 =>
 Ld (.ks) ((a1.add 0).add 1) (fun s2 w =>
 WithAddr k fun a3 =>
 Ld (.ki .i64) (a3.add 26) (fun n4 w =>
 ((0 : Int) ≤ n4 ∧ n4 < ((s2.n : Nat) : Int)) ∧ WithAddr s2.a fun a5 =>
 LdN shSleep.cs 0 (a5.add (Int.toNat n4 * 6)) (fun n6 n7 n8 n9 n10 n11 w =>
 New [.int .i64 0, .int .i64 0, .int .i64 0, .int .i64 0, .int .i64 0, .int .i64 0] 105 (fun a12 w =>
 (w.cell? ((a5.add (Int.toNat n4 * 6)).add 0) = some (.int .i64 n6) ∧ w.cell? ((a5.add (Int.toNat n4 * 6)).add 1) = some (.int .i64 n7) ∧ w.cell? ((a5.add (Int.toNat n4 * 6)).add 2) = some (.int .i64 n8) ∧ w.cell? ((a5.add (Int.toNat n4 * 6)).add 3) = some (.int .i64 n9) ∧ w.cell? ((a5.add (Int.toNat n4 * 6)).add 4) = some (.int .i64 n10) ∧ w.cell? ((a5.add (Int.toNat n4 * 6)).add 5) = some (.int .i64 n11)) ∧ (w.cell? ((a3.add 26).add 0) = some (.int .i64 n4)) ∧ (w.cell? (((a1.add 0).add 1).add 0) = some (.slice s2.a s2.n s2.c)) ∧ StN [.int .i64 n6, .int .i64 n7, .int .i64 n8, .int .i64 n9, .int .i64 n10, .int .i64 n11] 0 a12 (fun w =>
 (fun w : World =>
 WithAddr k fun a13 =>
 Ld (.ki .i64) (a13.add 9) (fun n14 w =>
 WithAddr k fun a15 =>
 Ld (.ki .i64) (a15.add 27) (fun n16 w =>
 Ld (.ki .i64) (a12.add 2) (fun n17 w =>
 If (decide (n14 ≥ (IntKind.wrap .i64 (n16 - n17)))) (
 WithAddr k fun a18 =>
 StN [.bool false] 0 (a18.add 25) (fun w =>
 (fun w : World =>
 Ld (.ki .i64) (a12.add 2) (fun n19 w =>
 WithAddr k fun a20 =>
 Ld (.ki .i64) (a20.add 26) (fun n21 w =>
 Call P 162 [.pointer k, .int .i64 6, .int .i64 n19, .int .i64 n21, .int .i64 0, .int .i64 0] [] (fun w =>
 K w) w) w) w) w.drew) w) (
 WithAddr k fun a22 =>
 Ld (.ki .i64) (a22.add 26) (fun n23 w =>
 Call P 162 [.pointer k, .int .i64 5, .int .i64 1, .int .i64 n23, .int .i64 0, .int .i64 0] [] (fun w =>
 K w) w) w)) w) w) w) w.drew) w) w) w) w) w) w.drew) : Call P 134 [.pointer k] [] K w :=
  call_of (H := ⟨[], [], [(0, .take 0 (.take 1 (.take 2 (.take 3 (.take 4 (.take 5 (.take 6 (.take 7 (.take 8 (.take 9 (.take 10 (.run 11 (.run 12 .done))))))))))))), (1, .take 0 (.take 1 (.take 2 (.take 3 (.take 4 (.take 5 (.take 6 (.take 7 (.take 8 (.take 9 (.take 10 (.take 11 .done)))))))))))), (3, .take 0 (.take 1 (.take 2 (.take 3 (.take 4 (.take 5 (.take 6 (.run 7 .done))))))))], []⟩) Tryz.func134 (by kernel_rfl) (by kernel_rfl) vc

theorem f141_of (h : Held) (cap0 : Option Addr) {K : Bool → World → Prop} {w : World} (vc :
 New [.int .i64 h.task, .int .i64 h.sem, .int .i64 h.left] 76 (fun a1 w =>
 Ld (.ki .i64) (a1.add 1) (fun n2 w =>
 WithAddr cap0 fun a3 =>
 Ld (.ki .i64) a3 (fun n4 w =>
 K (n2 == n4) w) w) w) w) : Call P 141 [h.v, .pointer cap0] [sB] K w :=
  call_of (H := ⟨[], [], [], []⟩) Tryz.func141 (by kernel_rfl) (by kernel_rfl) vc

theorem f157_of (x : Int) {K : Bool → World → Prop} {w : World} (vc :
 K (x != x) w) : Call P 157 [.int .i64 x] [sB] K w :=
  call_of (H := ⟨[], [], [], []⟩) Tryz.func157 (by kernel_rfl) (by kernel_rfl) vc

theorem f165_of (k : Option Addr) (j : Job) {K : Bool → World → Prop} {w : World} (vc :
 New [.int .i64 j.task, .int .i64 j.release, .int .i64 j.deadline, .int .i64 j.left, .int .i64 j.real, .bool j.started] 50 (fun a1 w =>
 Ld (.kb) (a1.add 5) (fun b2 w =>
 If (!b2) (
 StN [.bool true] 0 (a1.add 5) (fun w =>
 (fun w : World =>
 WithAddr k fun a3 =>
 Ld (.kp) (a3.add 17) (fun p4 w =>
 LdN shJob.cs 0 a1 (fun n5 n6 n7 n8 n9 b10 w =>
 Call P 70 [.pointer p4, .agg #[.int .i64 n5, .int .i64 n6, .int .i64 n7, .int .i64 n8, .int .i64 n9, .bool b10]] [] (fun w =>
 (fun w : World =>
 WithAddr k fun a11 =>
 Ld (.ks) (a11.add 18) (fun s12 w =>
 Ld (.ki .i64) (a1.add 0) (fun n13 w =>
 New [.int .i64 n13] 3 (fun a14 w =>
 (w.cell? ((a11.add 18).add 0) = some (.slice s12.a s12.n s12.c)) ∧ Sm P (Builtin.append_ #[35, 35] 35 [.slice s12.a s12.n s12.c, .slice (some a14) 1 1].toArray) [sS] (fun s15 w =>
 (w.cell? ((a1.add 0).add 0) = some (.int .i64 n13)) ∧ WithAddr k fun a16 =>
 StN [.slice s15.a s15.n s15.c] 0 (a16.add 18) (fun w =>
 WithAddr k fun a17 =>
 StN [.bool false] 0 (a17.add 19) (fun w =>
 (fun w : World =>
 WithAddr k fun a18 =>
 LdN shPlat.cs 0 (a18.add 0) (fun s19 s20 s21 n22 n23 n24 n25 n26 n27 w =>
 WithAddr k fun a28 =>
 Ld (.ks) (a28.add 14) (fun s29 w =>
 WithAddr k fun a30 =>
 Ld (.ks) (a30.add 15) (fun s31 w =>
 WithAddr k fun a32 =>
 Ld (.kp) (a32.add 17) (fun p33 w =>
 WithAddr k fun a34 =>
 Ld (.kp) (a34.add 20) (fun p35 w =>
 WithAddr k fun a36 =>
 Ld (.ki .i64) (a36.add 9) (fun n37 w =>
 Ld (.ki .i64) (a1.add 2) (fun n38 w =>
 Call P 40 [.pointer p33] [sS] (fun s39 w =>
 (w.cell? ((a1.add 2).add 0) = some (.int .i64 n38)) ∧ (w.cell? ((a36.add 9).add 0) = some (.int .i64 n37)) ∧ (w.cell? ((a34.add 20).add 0) = some (.pointer p35)) ∧ (w.cell? ((a30.add 15).add 0) = some (.slice s31.a s31.n s31.c)) ∧ (w.cell? ((a28.add 14).add 0) = some (.slice s29.a s29.n s29.c)) ∧ (w.cell? ((a18.add 0).add 0) = some (.slice s19.a s19.n s19.c) ∧ w.cell? ((a18.add 0).add 1) = some (.slice s20.a s20.n s20.c) ∧ w.cell? ((a18.add 0).add 2) = some (.slice s21.a s21.n s21.c) ∧ w.cell? ((a18.add 0).add 3) = some (.int .i64 n22) ∧ w.cell? ((a18.add 0).add 4) = some (.int .i64 n23) ∧ w.cell? ((a18.add 0).add 5) = some (.int .i64 n24) ∧ w.cell? ((a18.add 0).add 6) = some (.int .i64 n25) ∧ w.cell? ((a18.add 0).add 7) = some (.int .i64 n26) ∧ w.cell? ((a18.add 0).add 8) = some (.int .i64 n27)) ∧ Call P 48 [.pointer p35] [sS] (fun s40 w =>
 (w.cell? ((a1.add 2).add 0) = some (.int .i64 n38)) ∧ (w.cell? ((a36.add 9).add 0) = some (.int .i64 n37)) ∧ (w.cell? ((a32.add 17).add 0) = some (.pointer p33)) ∧ (w.cell? ((a30.add 15).add 0) = some (.slice s31.a s31.n s31.c)) ∧ (w.cell? ((a28.add 14).add 0) = some (.slice s29.a s29.n s29.c)) ∧ (w.cell? ((a18.add 0).add 0) = some (.slice s19.a s19.n s19.c) ∧ w.cell? ((a18.add 0).add 1) = some (.slice s20.a s20.n s20.c) ∧ w.cell? ((a18.add 0).add 2) = some (.slice s21.a s21.n s21.c) ∧ w.cell? ((a18.add 0).add 3) = some (.int .i64 n22) ∧ w.cell? ((a18.add 0).add 4) = some (.int .i64 n23) ∧ w.cell? ((a18.add 0).add 5) = some (.int .i64 n24) ∧ w.cell? ((a18.add 0).add 6) = some (.int .i64 n25) ∧ w.cell? ((a18.add 0).add 7) = some (.int .i64 n26) ∧ w.cell? ((a18.add 0).add 8) = some (.int .i64 n27)) ∧ Call P 191 [.agg #[.slice s19.a s19.n s19.c, .slice s20.a s20.n s20.c, .slice s21.a s21.n s21.c, .int .i64 n22, .int .i64 n23, .int .i64 n24, .int .i64 n25, .int .i64 n26, .int .i64 n27], .slice s29.a s29.n s29.c, .slice s31.a s31.n s31.c, .slice s39.a s39.n s39.c, .slice s40.a s40.n s40.c, .int .i64 n37, .int .i64 n38] [sI] (fun n41 w =>
 (w.cell? ((a34.add 20).add 0) = some (.pointer p35)) ∧ (w.cell? ((a32.add 17).add 0) = some (.pointer p33)) ∧ (fun w : World =>
 WithAddr k fun a42 =>
 LdN shPlat.cs 0 (a42.add 0) (fun s43 s44 s45 n46 n47 n48 n49 n50 n51 w =>
 WithAddr k fun a52 =>
 Ld (.ki .i64) (a52.add 11) (fun n53 w =>
 Ld (.ki .i64) (a1.add 3) (fun n54 w =>
 WithAddr k fun a55 =>
 Ld (.ki .i64) (a55.add 10) (fun n56 w =>
 Call P 193 [.pointer k] [sI] (fun n57 w =>
 (w.cell? ((a55.add 10).add 0) = some (.int .i64 n56)) ∧ (w.cell? ((a1.add 3).add 0) = some (.int .i64 n54)) ∧ (w.cell? ((a52.add 11).add 0) = some (.int .i64 n53)) ∧ (w.cell? ((a42.add 0).add 0) = some (.slice s43.a s43.n s43.c) ∧ w.cell? ((a42.add 0).add 1) = some (.slice s44.a s44.n s44.c) ∧ w.cell? ((a42.add 0).add 2) = some (.slice s45.a s45.n s45.c) ∧ w.cell? ((a42.add 0).add 3) = some (.int .i64 n46) ∧ w.cell? ((a42.add 0).add 4) = some (.int .i64 n47) ∧ w.cell? ((a42.add 0).add 5) = some (.int .i64 n48) ∧ w.cell? ((a42.add 0).add 6) = some (.int .i64 n49) ∧ w.cell? ((a42.add 0).add 7) = some (.int .i64 n50) ∧ w.cell? ((a42.add 0).add 8) = some (.int .i64 n51)) ∧ Call P 192 [.agg #[.slice s43.a s43.n s43.c, .slice s44.a s44.n s44.c, .slice s45.a s45.n s45.c, .int .i64 n46, .int .i64 n47, .int .i64 n48, .int .i64 n49, .int .i64 n50, .int .i64 n51], .int .i64 n53, .int .i64 n57, .int .i64 n54, .int .i64 n41, .int .i64 n56] [sI] (fun n58 w =>
 WithAddr k fun a59 =>
 Ld (.ki .i64) (a59.add 10) (fun n60 w =>
 If (n58 == n60) (
 K false w) (
 WithAddr k fun a61 =>
 StN [.int .i64 n58] 0 (a61.add 10) (fun w =>
 WithAddr k fun a62 =>
 Ld (.ki .i64) ((a62.add 0).add 5) (fun n63 w =>
 Call P 162 [.pointer k, .int .i64 3, .int .i64 n63, .int .i64 n58, .int .i64 0, .int .i64 0] [] (fun w =>
 K true w) w) w) w)) w) w) w) w) w) w) w) w.drew) w) w) w) w) w) w) w) w) w) w) w.drew) w) w) w) w) w) w) w.drew) w) w) w) w.drew) w) (
 WithAddr k fun a64 =>
 StN [.bool false] 0 (a64.add 19) (fun w =>
 (fun w : World =>
 WithAddr k fun a65 =>
 LdN shPlat.cs 0 (a65.add 0) (fun s66 s67 s68 n69 n70 n71 n72 n73 n74 w =>
 WithAddr k fun a75 =>
 Ld (.ks) (a75.add 14) (fun s76 w =>
 WithAddr k fun a77 =>
 Ld (.ks) (a77.add 15) (fun s78 w =>
 WithAddr k fun a79 =>
 Ld (.kp) (a79.add 17) (fun p80 w =>
 WithAddr k fun a81 =>
 Ld (.kp) (a81.add 20) (fun p82 w =>
 WithAddr k fun a83 =>
 Ld (.ki .i64) (a83.add 9) (fun n84 w =>
 Ld (.ki .i64) (a1.add 2) (fun n85 w =>
 Call P 40 [.pointer p80] [sS] (fun s86 w =>
 (w.cell? ((a1.add 2).add 0) = some (.int .i64 n85)) ∧ (w.cell? ((a83.add 9).add 0) = some (.int .i64 n84)) ∧ (w.cell? ((a81.add 20).add 0) = some (.pointer p82)) ∧ (w.cell? ((a77.add 15).add 0) = some (.slice s78.a s78.n s78.c)) ∧ (w.cell? ((a75.add 14).add 0) = some (.slice s76.a s76.n s76.c)) ∧ (w.cell? ((a65.add 0).add 0) = some (.slice s66.a s66.n s66.c) ∧ w.cell? ((a65.add 0).add 1) = some (.slice s67.a s67.n s67.c) ∧ w.cell? ((a65.add 0).add 2) = some (.slice s68.a s68.n s68.c) ∧ w.cell? ((a65.add 0).add 3) = some (.int .i64 n69) ∧ w.cell? ((a65.add 0).add 4) = some (.int .i64 n70) ∧ w.cell? ((a65.add 0).add 5) = some (.int .i64 n71) ∧ w.cell? ((a65.add 0).add 6) = some (.int .i64 n72) ∧ w.cell? ((a65.add 0).add 7) = some (.int .i64 n73) ∧ w.cell? ((a65.add 0).add 8) = some (.int .i64 n74)) ∧ Call P 48 [.pointer p82] [sS] (fun s87 w =>
 (w.cell? ((a1.add 2).add 0) = some (.int .i64 n85)) ∧ (w.cell? ((a83.add 9).add 0) = some (.int .i64 n84)) ∧ (w.cell? ((a79.add 17).add 0) = some (.pointer p80)) ∧ (w.cell? ((a77.add 15).add 0) = some (.slice s78.a s78.n s78.c)) ∧ (w.cell? ((a75.add 14).add 0) = some (.slice s76.a s76.n s76.c)) ∧ (w.cell? ((a65.add 0).add 0) = some (.slice s66.a s66.n s66.c) ∧ w.cell? ((a65.add 0).add 1) = some (.slice s67.a s67.n s67.c) ∧ w.cell? ((a65.add 0).add 2) = some (.slice s68.a s68.n s68.c) ∧ w.cell? ((a65.add 0).add 3) = some (.int .i64 n69) ∧ w.cell? ((a65.add 0).add 4) = some (.int .i64 n70) ∧ w.cell? ((a65.add 0).add 5) = some (.int .i64 n71) ∧ w.cell? ((a65.add 0).add 6) = some (.int .i64 n72) ∧ w.cell? ((a65.add 0).add 7) = some (.int .i64 n73) ∧ w.cell? ((a65.add 0).add 8) = some (.int .i64 n74)) ∧ Call P 191 [.agg #[.slice s66.a s66.n s66.c, .slice s67.a s67.n s67.c, .slice s68.a s68.n s68.c, .int .i64 n69, .int .i64 n70, .int .i64 n71, .int .i64 n72, .int .i64 n73, .int .i64 n74], .slice s76.a s76.n s76.c, .slice s78.a s78.n s78.c, .slice s86.a s86.n s86.c, .slice s87.a s87.n s87.c, .int .i64 n84, .int .i64 n85] [sI] (fun n88 w =>
 (w.cell? ((a81.add 20).add 0) = some (.pointer p82)) ∧ (w.cell? ((a79.add 17).add 0) = some (.pointer p80)) ∧ (fun w : World =>
 WithAddr k fun a89 =>
 LdN shPlat.cs 0 (a89.add 0) (fun s90 s91 s92 n93 n94 n95 n96 n97 n98 w =>
 WithAddr k fun a99 =>
 Ld (.ki .i64) (a99.add 11) (fun n100 w =>
 Ld (.ki .i64) (a1.add 3) (fun n101 w =>
 WithAddr k fun a102 =>
 Ld (.ki .i64) (a102.add 10) (fun n103 w =>
 Call P 193 [.pointer k] [sI] (fun n104 w =>
 (w.cell? ((a102.add 10).add 0) = some (.int .i64 n103)) ∧ (w.cell? ((a1.add 3).add 0) = some (.int .i64 n101)) ∧ (w.cell? ((a99.add 11).add 0) = some (.int .i64 n100)) ∧ (w.cell? ((a89.add 0).add 0) = some (.slice s90.a s90.n s90.c) ∧ w.cell? ((a89.add 0).add 1) = some (.slice s91.a s91.n s91.c) ∧ w.cell? ((a89.add 0).add 2) = some (.slice s92.a s92.n s92.c) ∧ w.cell? ((a89.add 0).add 3) = some (.int .i64 n93) ∧ w.cell? ((a89.add 0).add 4) = some (.int .i64 n94) ∧ w.cell? ((a89.add 0).add 5) = some (.int .i64 n95) ∧ w.cell? ((a89.add 0).add 6) = some (.int .i64 n96) ∧ w.cell? ((a89.add 0).add 7) = some (.int .i64 n97) ∧ w.cell? ((a89.add 0).add 8) = some (.int .i64 n98)) ∧ Call P 192 [.agg #[.slice s90.a s90.n s90.c, .slice s91.a s91.n s91.c, .slice s92.a s92.n s92.c, .int .i64 n93, .int .i64 n94, .int .i64 n95, .int .i64 n96, .int .i64 n97, .int .i64 n98], .int .i64 n100, .int .i64 n104, .int .i64 n101, .int .i64 n88, .int .i64 n103] [sI] (fun n105 w =>
 WithAddr k fun a106 =>
 Ld (.ki .i64) (a106.add 10) (fun n107 w =>
 If (n105 == n107) (
 K false w) (
 WithAddr k fun a108 =>
 StN [.int .i64 n105] 0 (a108.add 10) (fun w =>
 WithAddr k fun a109 =>
 Ld (.ki .i64) ((a109.add 0).add 5) (fun n110 w =>
 Call P 162 [.pointer k, .int .i64 3, .int .i64 n110, .int .i64 n105, .int .i64 0, .int .i64 0] [] (fun w =>
 K true w) w) w) w)) w) w) w) w) w) w) w) w.drew) w) w) w) w) w) w) w) w) w) w) w.drew) w)) w) w) : Call P 165 [.pointer k, j.v] [sB] K w :=
  call_of (H := ⟨[], [], [(3, .take 0 (.take 1 (.take 2 (.take 3 (.take 4 (.run 5 .done)))))), (4, .take 0 (.take 1 (.take 2 (.take 3 (.take 4 (.take 5 (.take 6 (.run 7 (.run 8 (.take 9 (.take 10 (.run 11 .done)))))))))))), (6, .take 0 (.take 1 (.take 2 (.take 3 (.take 4 (.take 5 (.take 6 (.take 7 (.take 8 (.take 9 (.take 10 (.take 11 (.take 12 (.take 13 (.take 14 (.take 15 (.take 17 (.take 18 (.take 19 (.take 20 (.take 22 (.take 23 (.take 24 (.take 25 (.take 26 (.take 27 (.run 16 (.run 21 (.run 28 (.take 29 .done)))))))))))))))))))))))))))))), (7, .take 0 (.take 1 (.take 2 (.take 3 (.take 4 (.take 5 (.take 6 (.take 7 (.take 8 (.take 10 (.take 11 (.take 12 (.take 13 (.take 14 (.take 15 (.take 16 (.run 9 (.run 17 (.take 18 .done)))))))))))))))))))], []⟩) Tryz.func165 (by kernel_rfl) (by kernel_rfl) vc

theorem f171_of (tasks : Sl) (s : Int) {K : Int → World → Prop} {w : World} (vc :
 ∃ (I3 : Int → Int → World → Prop) (M4 : Int → Int → World → Nat), I3 1099511627776 0 w ∧ ∀ (n1 : Int) (n2 : Int) (v5 : World), I3 n1 n2 v5 → ∀ _ : Nat → Value,
 (fun w : World =>
 If (decide (n2 < ((tasks.n : Nat) : Int))) (
 ((0 : Int) ≤ n2 ∧ n2 < ((tasks.n : Nat) : Int)) ∧ WithAddr tasks.a fun a6 =>
 LdN shTask.cs 0 (a6.add (Int.toNat n2 * 4)) (fun n7 n8 s9 s10 w =>
 New [.int .i64 0, .int .i64 0, .slice none 0 0, .slice none 0 0] 37 (fun a11 w =>
 StN [.int .i64 n7, .int .i64 n8, .slice s9.a s9.n s9.c, .slice s10.a s10.n s10.c] 0 a11 (fun w =>
 LdN shTask.cs 0 a11 (fun n12 n13 s14 s15 w =>
 Call P 106 [.agg #[.int .i64 n12, .int .i64 n13, .slice s14.a s14.n s14.c, .slice s15.a s15.n s15.c], .int .i64 s] [sB] (fun b16 w =>
 If b16 (
 Ld (.ki .i64) (a11.add 0) (fun n17 w =>
 I3 (if n17 < n1 then n17 else n1) (IntKind.wrap .i64 (n2 + 1)) w ∧ M4 (if n17 < n1 then n17 else n1) (IntKind.wrap .i64 (n2 + 1)) w < M4 n1 n2 v5) w) (
 I3 n1 (IntKind.wrap .i64 (n2 + 1)) w ∧ M4 n1 (IntKind.wrap .i64 (n2 + 1)) w < M4 n1 n2 v5)) w) w) w) w) w) (
 K n1 w)) v5) : Call P 171 [.slice tasks.a tasks.n tasks.c, .int .i64 s] [sI] K w :=
  call_of (H := ⟨[(3, [(5, .ki .i64), (10, .ki .i64)])], [], [], []⟩) Tryz.func171 (by kernel_rfl) (by kernel_rfl) vc

theorem f183_of (p : Plat) (t : Task) (level : Int) {K : Int → World → Prop} {w : World} (vc :
 New [.slice p.levels.a p.levels.n p.levels.c, .slice p.sleeps.a p.sleeps.n p.sleeps.c, .slice p.devices.a p.devices.n p.devices.c, .int .i64 p.idle, .int .i64 p.crit, .int .i64 p.switch, .int .i64 p.switchE, .int .i64 p.sems, .int .i64 p.horizon] 26 (fun a1 w =>
 New [.int .i64 t.period, .int .i64 t.cycles, .slice t.sec.a t.sec.n t.sec.c, .slice t.devs.a t.devs.n t.devs.c] 37 (fun a2 w =>
 If (decide (level < 0)) (
 K 0 w) (
 Ld (.ks) (a1.add 0) (fun s3 w =>
 If (decide (level ≥ ((s3.n : Nat) : Int))) (
 K 0 w) (
 (fun w : World =>
 Ld (.ki .i64) (a2.add 1) (fun n4 w =>
 Ld (.ks) (a1.add 0) (fun s5 w =>
 ((0 : Int) ≤ level ∧ level < ((s5.n : Nat) : Int)) ∧ WithAddr s5.a fun a6 =>
 Ld (.ki .i64) ((a6.add (Int.toNat level * 2)).add 0) (fun n7 w =>
 Ld (.ki .i64) (a1.add 5) (fun n8 w =>
 K (IntKind.wrap .i64 ((IntKind.wrap .i64 (n4 * n7)) + (IntKind.wrap .i64 (2 * n8)))) w) w) w) w) w) w.drew)) w)) w) w) : Call P 183 [p.v, t.v, .int .i64 level] [sI] K w :=
  call_of (H := ⟨[], [], [(3, .take 0 (.take 1 (.take 2 (.take 3 (.take 4 (.take 5 (.take 6 (.take 7 (.take 8 (.take 9 (.take 10 (.take 11 (.take 12 (.take 13 .done))))))))))))))], []⟩) Tryz.func183 (by kernel_rfl) (by kernel_rfl) vc

theorem f190_of (l : Option Addr) (task : Int) {K : World → Prop} {w : World} (vc :
 New [.int .i64 task] 3 (fun a1 w =>
 If (!(Option.isNone l)) (
 WithAddr l fun a2 =>
 Ld (.ks) (a2.add 0) (fun s3 w =>
 Call P 202 [.slice s3.a s3.n s3.c, .func (.func 203) #[] #[.pointer (some a1)]] [sS] (fun s4 w =>
 WithAddr l fun a5 =>
 StN [.slice s4.a s4.n s4.c] 0 (a5.add 0) (fun w =>
 K w) w) w) w) (
 K w)) w) : Call P 190 [.pointer l, .int .i64 task] [] K w :=
  call_of (H := ⟨[], [], [], []⟩) Tryz.func190 (by kernel_rfl) (by kernel_rfl) vc

theorem f196_of (s : Sl) (v : Int) {K : Int → World → Prop} {w : World} (vc :
 ∃ (I2 : Int → World → Prop) (M3 : Int → World → Nat), I2 0 w ∧ ∀ (n1 : Int) (v4 : World), I2 n1 v4 → ∀ _ : Nat → Value,
 (fun w : World =>
 If (decide (n1 < ((s.n : Nat) : Int))) (
 ((0 : Int) ≤ n1 ∧ n1 < ((s.n : Nat) : Int)) ∧ WithAddr s.a fun a5 =>
 Ld (.ki .i64) (a5.add (Int.toNat n1 * 1)) (fun n6 w =>
 If (v == n6) (
 K n1 w) (
 I2 (IntKind.wrap .i64 (n1 + 1)) w ∧ M3 (IntKind.wrap .i64 (n1 + 1)) w < M3 n1 v4)) w) (
 K (-1) w)) v4) : Call P 196 [.slice s.a s.n s.c, .int .i64 v] [sI] K w :=
  call_of (H := ⟨[(2, [(8, .ki .i64)])], [], [], []⟩) Tryz.func196 (by kernel_rfl) (by kernel_rfl) vc

theorem f204_of (v : Option Addr) (x1 : Int) {K : Int → World → Prop} {w : World} (vc :
 WithAddr v fun a1 =>
 Ld (.ks) (a1.add 11) (fun s2 w =>
 ∃ (I5 : Sl → Int → World → Prop) (M6 : Sl → Int → World → Nat), I5 ⟨none, 0, 0⟩ 0 w ∧ ∀ (s3 : Sl) (n4 : Int) (v7 : World), I5 s3 n4 v7 → ∀ _ : Nat → Value,
 (fun w : World =>
 If (decide (n4 < ((s2.n : Nat) : Int))) (
 ((0 : Int) ≤ n4 ∧ n4 < ((s2.n : Nat) : Int)) ∧ WithAddr s2.a fun a8 =>
 LdN shJob.cs 0 (a8.add (Int.toNat n4 * 6)) (fun n9 n10 n11 n12 n13 b14 w =>
 New [.int .i64 0, .int .i64 0, .int .i64 0, .int .i64 0, .int .i64 0, .bool false] 50 (fun a15 w =>
 StN [.int .i64 n9, .int .i64 n10, .int .i64 n11, .int .i64 n12, .int .i64 n13, .bool b14] 0 a15 (fun w =>
 Ld (.ki .i64) (a15.add 2) (fun n16 w =>
 New [.int .i64 n16] 3 (fun a17 w =>
 Sm P (Builtin.append_ #[35, 35] 35 [.slice s3.a s3.n s3.c, .slice (some a17) 1 1].toArray) [sS] (fun s18 w =>
 I5 s18 (IntKind.wrap .i64 (n4 + 1)) w ∧ M6 s18 (IntKind.wrap .i64 (n4 + 1)) w < M6 s3 n4 v7) w) w) w) w) w) w) (
 WithAddr v fun a19 =>
 Ld (.ks) (a19.add 9) (fun s20 w =>
 ∃ (I23 : Sl → Int → World → Prop) (M24 : Sl → Int → World → Nat), I23 s3 0 w ∧ ∀ (s21 : Sl) (n22 : Int) (v25 : World), I23 s21 n22 v25 → ∀ _ : Nat → Value,
 (fun w : World =>
 If (decide (n22 < ((s20.n : Nat) : Int))) (
 ((0 : Int) ≤ n22 ∧ n22 < ((s20.n : Nat) : Int)) ∧ WithAddr s20.a fun a26 =>
 LdN shTask.cs 0 (a26.add (Int.toNat n22 * 4)) (fun n27 n28 s29 s30 w =>
 New [.int .i64 0, .int .i64 0, .slice none 0 0, .slice none 0 0] 37 (fun a31 w =>
 StN [.int .i64 n27, .int .i64 n28, .slice s29.a s29.n s29.c, .slice s30.a s30.n s30.c] 0 a31 (fun w =>
 Ld (.ki .i64) (a31.add 0) (fun n32 w =>
 If (decide (n32 > 0)) (
 (fun w : World =>
 Ld (.ki .i64) (a31.add 0) (fun n33 w =>
 Call P 211 [.pointer v, .int .i64 n22] [sI] (fun n34 w =>
 (w.cell? ((a31.add 0).add 0) = some (.int .i64 n33)) ∧ New [.int .i64 (IntKind.wrap .i64 (n34 + n33))] 3 (fun a35 w =>
 (w.cell? ((a31.add 0).add 0) = some (.int .i64 n33)) ∧ Sm P (Builtin.append_ #[35, 35] 35 [.slice s21.a s21.n s21.c, .slice (some a35) 1 1].toArray) [sS] (fun s36 w =>
 (w.cell? ((a31.add 0).add 0) = some (.int .i64 n33)) ∧ I23 s36 (IntKind.wrap .i64 (n22 + 1)) w ∧ M24 s36 (IntKind.wrap .i64 (n22 + 1)) w < M24 s21 n22 v25) w) w) w) w) w.drew) (
 I23 s21 (IntKind.wrap .i64 (n22 + 1)) w ∧ M24 s21 (IntKind.wrap .i64 (n22 + 1)) w < M24 s21 n22 v25)) w) w) w) w) (
 Call P 206 [.int .i64 1073741824] [sI] (fun n37 w =>
 ∃ (I40 : Int → Int → World → Prop) (M41 : Int → Int → World → Nat), I40 n37 0 w ∧ ∀ (n38 : Int) (n39 : Int) (v42 : World), I40 n38 n39 v42 → ∀ _ : Nat → Value,
 (fun w : World =>
 If (decide (n39 < ((s21.n : Nat) : Int))) (
 ((0 : Int) ≤ n39 ∧ n39 < ((s21.n : Nat) : Int)) ∧ WithAddr s21.a fun a43 =>
 Ld (.ki .i64) (a43.add (Int.toNat n39 * 1)) (fun n44 w =>
 If (decide (n44 ≥ x1)) (
 Call P 212 [.pointer v, .int .i64 n44] [sI] (fun n45 w =>
 I40 (if n45 < n38 then n45 else n38) (IntKind.wrap .i64 (n39 + 1)) w ∧ M41 (if n45 < n38 then n45 else n38) (IntKind.wrap .i64 (n39 + 1)) w < M41 n38 n39 v42) w) (
 I40 n38 (IntKind.wrap .i64 (n39 + 1)) w ∧ M41 n38 (IntKind.wrap .i64 (n39 + 1)) w < M41 n38 n39 v42)) w) (
 K n38 w)) v42) w)) v25) w)) v7) w) : Call P 204 [.pointer v, .int .i64 x1] [sI] K w :=
  call_of (H := ⟨[(3, [(5, .ks), (18, .ki .i64)]), (8, [(5, .ks), (33, .ki .i64)]), (15, [(10, .ki .i64), (54, .ki .i64)])], [], [(11, .take 0 (.take 1 (.take 2 (.take 4 (.take 5 (.run 3 (.take 6 (.run 7 (.run 8 (.take 9 .done))))))))))], []⟩) Tryz.func204 (by kernel_rfl) (by kernel_rfl) vc

theorem f210_of (p : Plat) (n : Int) {K : Int → Int → Int → Int → Int → Int → World → Prop} {w : World} (vc :
 New [.slice p.levels.a p.levels.n p.levels.c, .slice p.sleeps.a p.sleeps.n p.sleeps.c, .slice p.devices.a p.devices.n p.devices.c, .int .i64 p.idle, .int .i64 p.crit, .int .i64 p.switch, .int .i64 p.switchE, .int .i64 p.sems, .int .i64 p.horizon] 26 (fun a1 w =>
 New [.int .i64 0, .int .i64 0, .int .i64 0, .int .i64 0, .int .i64 0, .int .i64 0] 105 (fun a2 w =>
 If (decide (n < 0)) (
 StN [.int .i64 0, .int .i64 0, .int .i64 0, .int .i64 0, .int .i64 0, .int .i64 0] 0 a2 (fun w =>
 LdN shSleep.cs 0 a2 (fun n3 n4 n5 n6 n7 n8 w =>
 K n3 n4 n5 n6 n7 n8 w) w) w) (
 Ld (.ks) (a1.add 1) (fun s9 w =>
 If (decide (n ≥ ((s9.n : Nat) : Int))) (
 StN [.int .i64 0, .int .i64 0, .int .i64 0, .int .i64 0, .int .i64 0, .int .i64 0] 0 a2 (fun w =>
 LdN shSleep.cs 0 a2 (fun n10 n11 n12 n13 n14 n15 w =>
 K n10 n11 n12 n13 n14 n15 w) w) w) (
 Ld (.ks) (a1.add 1) (fun s16 w =>
 ((0 : Int) ≤ n ∧ n < ((s16.n : Nat) : Int)) ∧ WithAddr s16.a fun a17 =>
 LdN shSleep.cs 0 (a17.add (Int.toNat n * 6)) (fun n18 n19 n20 n21 n22 n23 w =>
 StN [.int .i64 n18, .int .i64 n19, .int .i64 n20, .int .i64 n21, .int .i64 n22, .int .i64 n23] 0 a2 (fun w =>
 LdN shSleep.cs 0 a2 (fun n24 n25 n26 n27 n28 n29 w =>
 K n24 n25 n26 n27 n28 n29 w) w) w) w) w)) w)) w) w) : Call P 210 [p.v, .int .i64 n] [shInterval] K w :=
  call_of (H := ⟨[], [], [], []⟩) Tryz.func210 (by kernel_rfl) (by kernel_rfl) vc

theorem f216_of (v : Option Addr) (n : Int) {K : Int → Bool → World → Prop} {w : World} (vc :
 WithAddr v fun a1 =>
 Ld (.ks) (a1.add 11) (fun s2 w =>
 ∃ (I4 : Int → World → Prop) (M5 : Int → World → Nat), I4 0 w ∧ ∀ (n3 : Int) (v6 : World), I4 n3 v6 → ∀ _ : Nat → Value,
 (fun w : World =>
 If (decide (n3 < ((s2.n : Nat) : Int))) (
 ((0 : Int) ≤ n3 ∧ n3 < ((s2.n : Nat) : Int)) ∧ WithAddr s2.a fun a7 =>
 LdN shJob.cs 0 (a7.add (Int.toNat n3 * 6)) (fun n8 n9 n10 n11 n12 b13 w =>
 New [.int .i64 0, .int .i64 0, .int .i64 0, .int .i64 0, .int .i64 0, .bool false] 50 (fun a14 w =>
 StN [.int .i64 n8, .int .i64 n9, .int .i64 n10, .int .i64 n11, .int .i64 n12, .bool b13] 0 a14 (fun w =>
 Ld (.ki .i64) (a14.add 0) (fun n15 w =>
 If (n15 == n) (
 Ld (.ki .i64) (a14.add 2) (fun n16 w =>
 K n16 true w) w) (
 I4 (IntKind.wrap .i64 (n3 + 1)) w ∧ M5 (IntKind.wrap .i64 (n3 + 1)) w < M5 n3 v6)) w) w) w) w) (
 K 0 false w)) v6) w) : Call P 216 [.pointer v, .int .i64 n] [sI, sB] K w :=
  call_of (H := ⟨[(2, [(13, .ki .i64)])], [], [], []⟩) Tryz.func216 (by kernel_rfl) (by kernel_rfl) vc

theorem f124_of (s : Sl) (c : Option Addr) {K : Bool → World → Prop} {w : World} (vc :
 Call P 159 [.slice s.a s.n s.c, .func (.func 123) #[] #[.pointer c]] [sI] (fun n1 w =>
 K (decide (n1 ≥ 0)) w) w) : Call P 124 [.slice s.a s.n s.c, .func (.func 123) #[] #[.pointer c]] [sB] K w :=
  call_of (H := ⟨[], [], [], []⟩) Tryz.func124 (by kernel_rfl) (by kernel_rfl) vc

theorem f140t_of (s : Sl) (c : Option Addr) {K : Bool → World → Prop} {w : World} (vc :
 Call P 172 [.slice s.a s.n s.c, .func (.func 141) #[] #[.pointer c]] [sI] (fun n1 w =>
 K (decide (n1 ≥ 0)) w) w) : Call P 140 [.slice s.a s.n s.c, .func (.func 141) #[] #[.pointer c]] [sB] K w :=
  call_of (H := ⟨[], [], [], []⟩) Tryz.func140 (by kernel_rfl) (by kernel_rfl) vc

theorem f202_of (s : Sl) (c : Option Addr) {K : Sl → World → Prop} {w : World} (vc :
 Call P 172 [.slice s.a s.n s.c, .func (.func 203) #[] #[.pointer c]] [sI] (fun n1 w =>
 If (n1 == (-1)) (
 K s w) (
 ∃ (I4 : Int → Int → World → Prop) (M5 : Int → Int → World → Nat), I4 n1 (IntKind.wrap .i64 (n1 + 1)) w ∧ ∀ (n2 : Int) (n3 : Int) (v6 : World), I4 n2 n3 v6 → ∀ _ : Nat → Value,
 (fun w : World =>
 If (decide (n3 < ((s.n : Nat) : Int))) (
 ((0 : Int) ≤ n3 ∧ n3 < ((s.n : Nat) : Int)) ∧ WithAddr s.a fun a7 =>
 LdN shHeld.cs 0 (a7.add (Int.toNat n3 * 3)) (fun n8 n9 n10 w =>
 New [.int .i64 0, .int .i64 0, .int .i64 0] 76 (fun a11 w =>
 StN [.int .i64 n8, .int .i64 n9, .int .i64 n10] 0 a11 (fun w =>
 LdN shHeld.cs 0 a11 (fun n12 n13 n14 w =>
 Call P 203 [.agg #[.int .i64 n12, .int .i64 n13, .int .i64 n14], .pointer c] [sB] (fun b15 w =>
 If (!b15) (
 LdN shHeld.cs 0 a11 (fun n16 n17 n18 w =>
 ((0 : Int) ≤ n2 ∧ n2 < ((s.n : Nat) : Int)) ∧ WithAddr s.a fun a19 =>
 StN [.int .i64 n16, .int .i64 n17, .int .i64 n18] 0 (a19.add (Int.toNat n2 * 3)) (fun w =>
 I4 (IntKind.wrap .i64 (n2 + 1)) (IntKind.wrap .i64 (n3 + 1)) w ∧ M5 (IntKind.wrap .i64 (n2 + 1)) (IntKind.wrap .i64 (n3 + 1)) w < M5 n2 n3 v6) w) w) (
 I4 n2 (IntKind.wrap .i64 (n3 + 1)) w ∧ M5 n2 (IntKind.wrap .i64 (n3 + 1)) w < M5 n2 n3 v6)) w) w) w) w) w) (
 Sm P (Instr.sliceAt 71 (.slice s.a s.n s.c) (some (.int .i64 n2)) none none) [sS] (fun s20 w =>
 Sm P (Builtin.clear_ #[71] 0 [.slice s20.a s20.n s20.c].toArray) [] (fun w =>
 Sm P (Instr.sliceAt 71 (.slice s.a s.n s.c) none (some (.int .i64 n2)) none) [sS] (fun s21 w =>
 K s21 w) w) w) w)) v6)) w) : Call P 202 [.slice s.a s.n s.c, .func (.func 203) #[] #[.pointer c]] [sS] K w :=
  call_of (H := ⟨[(5, [(5, .ki .i64), (6, .ki .i64)])], [], [], []⟩) Tryz.func202 (by kernel_rfl) (by kernel_rfl) vc

end Go.Proofs.YtajilfnceoeaiaaGreat.V
/- Propositions of function bodies (printed by gen.py). -/
namespace Go.Proofs.YtajilfnceoeaiaaGreat.V
open Go
set_option linter.unusedVariables false
set_option maxRecDepth 100000
theorem f14_of (k : Option Addr) {K : Int → World → Prop} {w : World} (vc :
 If (Option.isNone k) (
 K 0 w) (
 WithAddr k fun a1 =>
 Ld (.ki .i64) (a1.add 9) (fun n2 w =>
 K n2 w) w)) : Call P 14 [.pointer k] [sI] K w :=
  call_of (H := ⟨[], [], [], []⟩) Tryz.func14 (by kernel_rfl) (by kernel_rfl) vc

theorem f26_of (k : Option Addr) {K : Sl → World → Prop} {w : World} (vc :
 If (Option.isNone k) (
 K ⟨none, 0, 0⟩ w) (
 WithAddr k fun a1 =>
 Ld (.ks) (a1.add 18) (fun s2 w =>
 Call P 47 [.slice s2.a s2.n s2.c] [sS] (fun s3 w =>
 Call P 46 [.slice s3.a s3.n s3.c] [sS] (fun s4 w =>
 K s4 w) w) w) w)) : Call P 26 [.pointer k] [sS] K w :=
  call_of (H := ⟨[], [], [], []⟩) Tryz.func26 (by kernel_rfl) (by kernel_rfl) vc

theorem f32_of (k : Option Addr) (n : Int) {K : Int → World → Prop} {w : World} (vc :
 If (Option.isNone k) (
 K 0 w) (
 Call P 51 [.pointer k, .int .i64 n] [sB] (fun b1 w =>
 If (!b1) (
 K 0 w) (
 WithAddr k fun a2 =>
 Ld (.ks) (a2.add 15) (fun s3 w =>
 ((0 : Int) ≤ n ∧ n < ((s3.n : Nat) : Int)) ∧ WithAddr s3.a fun a4 =>
 Ld (.ki .i64) (a4.add (Int.toNat n * 1)) (fun n5 w =>
 K n5 w) w) w)) w)) : Call P 32 [.pointer k, .int .i64 n] [sI] K w :=
  call_of (H := ⟨[], [], [], []⟩) Tryz.func32 (by kernel_rfl) (by kernel_rfl) vc

theorem f39_of (s : Sl) {K : Sl → World → Prop} {w : World} (vc :
 If (Option.isNone s.a) (
 K ⟨none, 0, 0⟩ w) (
 New [] 45 (fun a1 w =>
 Sm P (Builtin.append_ #[42, 42] 42 [.slice (some a1) 0 0, .slice s.a s.n s.c].toArray) [sS] (fun s2 w =>
 K s2 w) w) w)) : Call P 39 [.slice s.a s.n s.c] [sS] K w :=
  call_of (H := ⟨[], [], [], []⟩) Tryz.func39 (by kernel_rfl) (by kernel_rfl) vc

theorem f45_of (t : Option Addr) {K : Sl → World → Prop} {w : World} (vc :
 If (Option.isNone t) (
 K ⟨none, 0, 0⟩ w) (
 WithAddr t fun a1 =>
 Ld (.ks) (a1.add 0) (fun s2 w =>
 Sm P (Instr.makeSlice 63 (.int .i64 ((s2.n : Nat) : Int)) (.int .i64 ((s2.n : Nat) : Int))) [sS] (fun s3 w =>
 WithAddr t fun a4 =>
 Ld (.ks) (a4.add 0) (fun s5 w =>
 Sm P (Builtin.copy_ #[63, 63] 3 [.slice s3.a s3.n s3.c, .slice s5.a s5.n s5.c].toArray) [sI] (fun n6 w =>
 K s3 w) w) w) w) w)) : Call P 45 [.pointer t] [sS] K w :=
  call_of (H := ⟨[], [], [], []⟩) Tryz.func45 (by kernel_rfl) (by kernel_rfl) vc

theorem f51_of (k : Option Addr) (n : Int) {K : Bool → World → Prop} {w : World} (vc :
 If (decide (n ≥ 0)) (
 WithAddr k fun a1 =>
 Ld (.ks) (a1.add 14) (fun s2 w =>
 If (decide (n < ((s2.n : Nat) : Int))) (
 WithAddr k fun a3 =>
 Ld (.ks) (a3.add 14) (fun s4 w =>
 ((0 : Int) ≤ n ∧ n < ((s4.n : Nat) : Int)) ∧ WithAddr s4.a fun a5 =>
 Ld (.ki .i64) ((a5.add (Int.toNat n * 4)).add 0) (fun n6 w =>
 K (decide (n6 > 0)) w) w) w) (
 K false w)) w) (
 K false w)) : Call P 51 [.pointer k, .int .i64 n] [sB] K w :=
  call_of (H := ⟨[], [], [], []⟩) Tryz.func51 (by kernel_rfl) (by kernel_rfl) vc

theorem f57_of  {K : Option Addr → World → Prop} {w : World} (vc :
 New [.slice none 0 0] 138 (fun a1 w =>
 K (some a1) w) w) : Call P 57 [] [sP] K w :=
  call_of (H := ⟨[], [], [], []⟩) Tryz.func57 (by kernel_rfl) (by kernel_rfl) vc

theorem f63_of (k : Option Addr) (n : Int) (after : Int) (cycles : Int) {K : Int → World → Prop} {w : World} (vc :
 Call P 51 [.pointer k, .int .i64 n] [sB] (fun b1 w =>
 If (!b1) (
 K 6 w) (
 Call P 102 [.int .i64 after, .int .i64 0, .int .i64 16384] [sB] (fun b2 w =>
 If (!b2) (
 K 1 w) (
 Call P 102 [.int .i64 cycles, .int .i64 1, .int .i64 16384] [sB] (fun b3 w =>
 If (!b3) (
 K 1 w) (
 WithAddr k fun a4 =>
 Ld (.kp) (a4.add 21) (fun p5 w =>
 Call P 101 [.pointer p5, .int .i64 n] [sB] (fun b6 w =>
 If b6 (
 K 8 w) (
 (fun w : World =>
 WithAddr k fun a7 =>
 Ld (.ki .i64) (a7.add 9) (fun n8 w =>
 WithAddr k fun a9 =>
 Ld (.ks) (a9.add 15) (fun s10 w =>
 ((0 : Int) ≤ n ∧ n < ((s10.n : Nat) : Int)) ∧ WithAddr s10.a fun a11 =>
 Ld (.ki .i64) (a11.add (Int.toNat n * 1)) (fun n12 w =>
 If (decide ((IntKind.wrap .i64 (n8 + after)) < n12)) (
 K 7 w) (
 (fun w : World =>
 WithAddr k fun a13 =>
 Ld (.kp) (a13.add 21) (fun p14 w =>
 WithAddr k fun a15 =>
 Ld (.ki .i64) (a15.add 9) (fun n16 w =>
 Call P 103 [.pointer p14, .int .i64 n, .int .i64 (IntKind.wrap .i64 (n16 + after)), .int .i64 cycles] [sB] (fun b17 w =>
 (w.cell? ((a15.add 9).add 0) = some (.int .i64 n16)) ∧ (fun w : World =>
 WithAddr k fun a18 =>
 Ld (.ks) (a18.add 15) (fun s19 w =>
 WithAddr k fun a20 =>
 Ld (.ki .i64) (a20.add 9) (fun n21 w =>
 ((0 : Int) ≤ n ∧ n < ((s19.n : Nat) : Int)) ∧ WithAddr s19.a fun a22 =>
 StN [.int .i64 (IntKind.wrap .i64 (n21 + after))] 0 (a22.add (Int.toNat n * 1)) (fun w =>
 K 0 w) w) w) w) w.drew) w) w) w) w.drew)) w) w) w) w.drew)) w) w)) w)) w)) w) : Call P 63 [.pointer k, .int .i64 n, .int .i64 after, .int .i64 cycles] [sI] K w :=
  call_of (H := ⟨[], [], [(7, .take 0 (.take 1 (.take 2 (.take 3 (.take 4 (.take 5 (.take 6 (.take 7 (.take 8 (.take 9 (.take 10 (.take 11 (.take 12 (.take 13 (.take 14 .done))))))))))))))), (9, .take 0 (.take 1 (.take 2 (.take 3 (.take 4 (.take 5 (.take 6 (.take 7 (.take 8 (.take 9 (.take 10 (.take 11 (.run 12 .done))))))))))))), (10, .take 0 (.take 1 (.take 2 (.take 3 (.take 4 (.take 5 (.take 6 (.take 7 (.take 8 (.take 9 (.take 10 (.take 11 (.run 12 .done)))))))))))))], []⟩) Tryz.func63 (by kernel_rfl) (by kernel_rfl) vc

theorem f69_of (task : Int) (t : Task) (release : Int) (cycles : Int) {K : Int → Int → Int → Int → Int → Bool → World → Prop} {w : World} (vc :
 New [.int .i64 t.period, .int .i64 t.cycles, .slice t.sec.a t.sec.n t.sec.c, .slice t.devs.a t.devs.n t.devs.c] 37 (fun a1 w =>
 New [.int .i64 0, .int .i64 0, .int .i64 0, .int .i64 0, .int .i64 0, .bool false] 50 (fun a2 w =>
 Ld (.ki .i64) (a1.add 0) (fun n3 w =>
 Ld (.ki .i64) (a1.add 1) (fun n4 w =>
 StN [.int .i64 task, .int .i64 release, .int .i64 (IntKind.wrap .i64 (release + n3)), .int .i64 n4, .int .i64 cycles, .bool false] 0 a2 (fun w =>
 LdN shJob.cs 0 a2 (fun n5 n6 n7 n8 n9 b10 w =>
 K n5 n6 n7 n8 n9 b10 w) w) w) w) w) w) w) : Call P 69 [.int .i64 task, t.v, .int .i64 release, .int .i64 cycles] [shJob] K w :=
  call_of (H := ⟨[], [], [], []⟩) Tryz.func69 (by kernel_rfl) (by kernel_rfl) vc

theorem f76_of (x : Away) {K : Bool → World → Prop} {w : World} (vc :
 New [.int .i64 x.from_, .int .i64 x.until_] 97 (fun a1 w =>
 LdN shItem.cs 0 a1 (fun n2 n3 w =>
 Sm P ((do eqGuard .eql 97 (.tmp 3) (.tmp 4) (.agg #[.int .i64 n2, .int .i64 n3]) (.agg #[.int .i64 0, .int .i64 0]); binOp .eql 97 (.agg #[.int .i64 n2, .int .i64 n3]) (.agg #[.int .i64 0, .int .i64 0]) : Sem Value)) [sB] (fun b4 w =>
 K b4 w) w) w) w) : Call P 76 [x.v] [sB] K w :=
  call_of (H := ⟨[], [], [], []⟩) Tryz.func76 (by kernel_rfl) (by kernel_rfl) vc

theorem f88_of (down : Int) (up : Int) (downE : Int) (upE : Int) (off : Int) (on : Int) (even : Int) {K : Bool → World → Prop} {w : World} (vc :
 Call P 86 [.int .i64 down] [sB] (fun b1 w =>
 If (!b1) (
 K false w) (
 Call P 86 [.int .i64 up] [sB] (fun b2 w =>
 If (!b2) (
 K false w) (
 Call P 84 [.int .i64 downE] [sB] (fun b3 w =>
 If (!b3) (
 K false w) (
 Call P 84 [.int .i64 upE] [sB] (fun b4 w =>
 If (!b4) (
 K false w) (
 Call P 84 [.int .i64 on] [sB] (fun b5 w =>
 If (!b5) (
 K false w) (
 Call P 87 [.int .i64 off, .int .i64 0, .int .i64 on] [sB] (fun b6 w =>
 If (!b6) (
 K false w) (
 Call P 87 [.int .i64 even, .int .i64 (if 1 > IntKind.wrap .i64 (down + up) then 1 else IntKind.wrap .i64 (down + up)), .int .i64 16384] [sB] (fun b7 w =>
 If b7 (
 K (decide ((IntKind.wrap .i64 ((IntKind.wrap .i64 (downE + upE)) + (IntKind.wrap .i64 (off * (IntKind.wrap .i64 ((IntKind.wrap .i64 (even - down)) - up)))))) ≤ (IntKind.wrap .i64 (on * even)))) w) (
 K false w)) w)) w)) w)) w)) w)) w)) w) : Call P 88 [.int .i64 down, .int .i64 up, .int .i64 downE, .int .i64 upE, .int .i64 off, .int .i64 on, .int .i64 even] [sB] K w :=
  call_of (H := ⟨[], [], [], []⟩) Tryz.func88 (by kernel_rfl) (by kernel_rfl) vc

theorem f94_of (k : Option Addr) {K : Bool → World → Prop} {w : World} (vc :
 WithAddr k fun a1 =>
 Ld (.kc) (a1.add 13) (fun c2 w =>
 Sel c2 (.agg #[]) (fun w =>
 If ((0 : Int) == 0) (
 K true w) (
 K false w)) (fun w =>
 If (((-1) : Int) == 0) (
 K true w) (
 K false w)) w) w) : Call P 94 [.pointer k] [sB] K w :=
  call_of (H := ⟨[], [], [], []⟩) Tryz.func94 (by kernel_rfl) (by kernel_rfl) vc

theorem f101_of (l : Option Addr) (task : Int) {K : Bool → World → Prop} {w : World} (vc :
 If (Option.isNone l) (
 K false w) (
 WithAddr l fun a1 =>
 Ld (.kp) (a1.add 0) (fun p2 w =>
 Call P 133 [.pointer p2, .int .i64 task] [sI, sB] (fun n3 b4 w =>
 K b4 w) w) w)) : Call P 101 [.pointer l, .int .i64 task] [sB] K w :=
  call_of (H := ⟨[], [], [], []⟩) Tryz.func101 (by kernel_rfl) (by kernel_rfl) vc

theorem f107_of (l : Option Addr) (task : Int) (sem : Int) {K : Int → World → Prop} {w : World} (vc :
 If (Option.isNone l) (
 K 1 w) (
 WithAddr l fun a1 =>
 Ld (.ks) (a1.add 0) (fun s2 w =>
 ∃ (I4 : Int → World → Prop) (M5 : Int → World → Nat), I4 (IntKind.wrap .i64 (((s2.n : Nat) : Int) - 1)) w ∧ ∀ (n3 : Int) (v6 : World), I4 n3 v6 → ∀ _ : Nat → Value,
 (fun w : World =>
 If (decide (n3 ≥ 0)) (
 WithAddr l fun a7 =>
 Ld (.ks) (a7.add 0) (fun s8 w =>
 ((0 : Int) ≤ n3 ∧ n3 < ((s8.n : Nat) : Int)) ∧ WithAddr s8.a fun a9 =>
 LdN shHeld.cs 0 (a9.add (Int.toNat n3 * 3)) (fun n10 n11 n12 w =>
 New [.int .i64 0, .int .i64 0, .int .i64 0] 76 (fun a13 w =>
 StN [.int .i64 n10, .int .i64 n11, .int .i64 n12] 0 a13 (fun w =>
 Ld (.ki .i64) (a13.add 0) (fun n14 w =>
 If (n14 == task) (
 Ld (.ki .i64) (a13.add 1) (fun n15 w =>
 If (n15 != sem) (
 K 10 w) (
 WithAddr l fun a16 =>
 Ld (.ks) (a16.add 0) (fun s17 w =>
 Call P 139 [.slice s17.a s17.n s17.c, .int .i64 n3, .int .i64 (IntKind.wrap .i64 (n3 + 1))] [sS] (fun s18 w =>
 WithAddr l fun a19 =>
 StN [.slice s18.a s18.n s18.c] 0 (a19.add 0) (fun w =>
 K 0 w) w) w) w)) w) (
 I4 (IntKind.wrap .i64 (n3 - 1)) w ∧ M5 (IntKind.wrap .i64 (n3 - 1)) w < M5 n3 v6)) w) w) w) w) w) (
 K 10 w)) v6) w)) : Call P 107 [.pointer l, .int .i64 task, .int .i64 sem] [sI] K w :=
  call_of (H := ⟨[(4, [(7, .ki .i64)])], [], [], []⟩) Tryz.func107 (by kernel_rfl) (by kernel_rfl) vc

theorem f113_of (h : Option Addr) (id : Int) (key : Int) {K : World → Prop} {w : World} (vc :
 If (Option.isNone h) (
 K w) (
 WithAddr h fun a1 =>
 Ld (.km) (a1.add 1) (fun m2 w =>
 Sm P (Instr.lookup 146 (.map m2) (.int .i64 id) true) [sI, sB] (fun n3 b4 w =>
 If (!b4) (
 WithAddr h fun a5 =>
 Ld (.ks) (a5.add 0) (fun s6 w =>
 WithAddr h fun a7 =>
 Ld (.ks) (a7.add 0) (fun s8 w =>
 New [.int .i64 0, .int .i64 0] 187 (fun a9 w =>
 Sm P (Builtin.append_ #[172, 172] 172 [.slice s8.a s8.n s8.c, .slice (some a9) 1 1].toArray) [sS] (fun s10 w =>
 WithAddr h fun a11 =>
 StN [.slice s10.a s10.n s10.c] 0 (a11.add 0) (fun w =>
 (fun w : World =>
 WithAddr h fun a12 =>
 Ld (.ks) (a12.add 0) (fun s13 w =>
 WithAddr h fun a14 =>
 Ld (.km) (a14.add 1) (fun m15 w =>
 ((0 : Int) ≤ ((s6.n : Nat) : Int) ∧ ((s6.n : Nat) : Int) < ((s13.n : Nat) : Int)) ∧ WithAddr s13.a fun a16 =>
 StN [.int .i64 key, .int .i64 id] 0 (a16.add (Int.toNat ((s6.n : Nat) : Int) * 2)) (fun w =>
 Sm P (Instr.mapEntry 146 (.map m15) (.int .i64 id)) [sI, sI] (fun n17 n18 w =>
 SmU P (Instr.entryStore 146 (.map m15) (.int .i64 n18) (.int .i64 ((s6.n : Nat) : Int))) (fun w =>
 Call P 144 [.pointer h, .int .i64 ((s6.n : Nat) : Int)] [] (fun w =>
 WithAddr h fun a19 =>
 Ld (.km) (a19.add 1) (fun m20 w =>
 Sm P (Instr.lookup 146 (.map m20) (.int .i64 id) false) [sI] (fun n21 w =>
 Call P 145 [.pointer h, .int .i64 n21] [] (fun w =>
 K w) w) w) w) w) w) w) w) w) w) w.drew) w) w) w) w) w) (
 (fun w : World =>
 WithAddr h fun a22 =>
 Ld (.ks) (a22.add 0) (fun s23 w =>
 WithAddr h fun a24 =>
 Ld (.km) (a24.add 1) (fun m25 w =>
 ((0 : Int) ≤ n3 ∧ n3 < ((s23.n : Nat) : Int)) ∧ WithAddr s23.a fun a26 =>
 StN [.int .i64 key, .int .i64 id] 0 (a26.add (Int.toNat n3 * 2)) (fun w =>
 Sm P (Instr.mapEntry 146 (.map m25) (.int .i64 id)) [sI, sI] (fun n27 n28 w =>
 SmU P (Instr.entryStore 146 (.map m25) (.int .i64 n28) (.int .i64 n3)) (fun w =>
 Call P 144 [.pointer h, .int .i64 n3] [] (fun w =>
 WithAddr h fun a29 =>
 Ld (.km) (a29.add 1) (fun m30 w =>
 Sm P (Instr.lookup 146 (.map m30) (.int .i64 id) false) [sI] (fun n31 w =>
 Call P 145 [.pointer h, .int .i64 n31] [] (fun w =>
 K w) w) w) w) w) w) w) w) w) w) w.drew)) w) w)) : Call P 113 [.pointer h, .int .i64 id, .int .i64 key] [] K w :=
  call_of (H := ⟨[], [], [(5, .take 0 (.take 1 (.take 2 (.take 3 (.take 4 (.take 5 (.take 6 (.take 7 (.take 8 (.take 9 (.take 10 (.take 11 (.take 12 (.take 13 (.take 14 (.run 15 (.run 16 (.take 17 (.run 18 .done)))))))))))))))))))], []⟩) Tryz.func113 (by kernel_rfl) (by kernel_rfl) vc

theorem f129_of (t : Task) {K : Bool → World → Prop} {w : World} (vc :
 New [.int .i64 t.period, .int .i64 t.cycles, .slice t.sec.a t.sec.n t.sec.c, .slice t.devs.a t.devs.n t.devs.c] 37 (fun a1 w =>
 Ld (.ki .i64) (a1.add 0) (fun n2 w =>
 K (n2 == 0) w) w) w) : Call P 129 [t.v] [sB] K w :=
  call_of (H := ⟨[], [], [], []⟩) Tryz.func129 (by kernel_rfl) (by kernel_rfl) vc

theorem f135_of (k : Option Addr) (n : Int) {K : World → Prop} {w : World} (vc :
 WithAddr k fun a1 =>
 Ld (.kp) (a1.add 17) (fun p2 w =>
 Call P 100 [.pointer p2, .int .i64 n] [shJob, sB] (fun n3 n4 n5 n6 n7 b8 b9 w =>
 New [.int .i64 0, .int .i64 0, .int .i64 0, .int .i64 0, .int .i64 0, .bool false] 50 (fun a10 w =>
 StN [.int .i64 n3, .int .i64 n4, .int .i64 n5, .int .i64 n6, .int .i64 n7, .bool b8] 0 a10 (fun w =>
 WithAddr k fun a11 =>
 Ld (.kp) (a11.add 20) (fun p12 w =>
 Call P 163 [.pointer p12, .int .i64 n] [sB] (fun b13 w =>
 If b13 (
 LdN shJob.cs 0 a10 (fun n14 n15 n16 n17 n18 b19 w =>
 Call P 164 [.pointer k, .int .i64 3, .agg #[.int .i64 n14, .int .i64 n15, .int .i64 n16, .int .i64 n17, .int .i64 n18, .bool b19]] [] (fun w =>
 K w) w) w) (
 Ld (.kb) (a10.add 5) (fun b20 w =>
 If (!b20) (
 LdN shJob.cs 0 a10 (fun n21 n22 n23 n24 n25 b26 w =>
 Call P 165 [.pointer k, .agg #[.int .i64 n21, .int .i64 n22, .int .i64 n23, .int .i64 n24, .int .i64 n25, .bool b26]] [sB] (fun b27 w =>
 If b27 (
 K w) (
 WithAddr k fun a28 =>
 Ld (.kp) (a28.add 17) (fun p29 w =>
 Call P 100 [.pointer p29, .int .i64 n] [shJob, sB] (fun n30 n31 n32 n33 n34 b35 b36 w =>
 StN [.int .i64 n30, .int .i64 n31, .int .i64 n32, .int .i64 n33, .int .i64 n34, .bool b35] 0 a10 (fun w =>
 (fun w : World =>
 WithAddr k fun a37 =>
 Ld (.ks) ((a37.add 0).add 0) (fun s38 w =>
 WithAddr k fun a39 =>
 Ld (.ki .i64) (a39.add 10) (fun n40 w =>
 ((0 : Int) ≤ n40 ∧ n40 < ((s38.n : Nat) : Int)) ∧ WithAddr s38.a fun a41 =>
 Ld (.ki .i64) ((a41.add (Int.toNat n40 * 2)).add 0) (fun n42 w =>
 WithAddr k fun a43 =>
 Ld (.ki .i64) (a43.add 10) (fun n44 w =>
 Call P 162 [.pointer k, .int .i64 1, .int .i64 n42, .int .i64 n44, .int .i64 n, .int .i64 1] [] (fun w =>
 (w.cell? ((a39.add 10).add 0) = some (.int .i64 n40)) ∧ (w.cell? (((a37.add 0).add 0).add 0) = some (.slice s38.a s38.n s38.c)) ∧ WithAddr k fun a45 =>
 Ld (.kp) (a45.add 20) (fun p46 w =>
 Call P 166 [.pointer p46, .int .i64 n] [] (fun w =>
 LdN shJob.cs 0 a10 (fun n47 n48 n49 n50 n51 b52 w =>
 Call P 167 [.agg #[.int .i64 n47, .int .i64 n48, .int .i64 n49, .int .i64 n50, .int .i64 n51, .bool b52]] [shJob, sI] (fun n53 n54 n55 n56 n57 b58 n59 w =>
 StN [.int .i64 n53, .int .i64 n54, .int .i64 n55, .int .i64 n56, .int .i64 n57, .bool b58] 0 a10 (fun w =>
 If (n59 != 0) (
 LdN shJob.cs 0 a10 (fun n60 n61 n62 n63 n64 b65 w =>
 Call P 164 [.pointer k, .int .i64 n59, .agg #[.int .i64 n60, .int .i64 n61, .int .i64 n62, .int .i64 n63, .int .i64 n64, .bool b65]] [] (fun w =>
 K w) w) w) (
 (fun w : World =>
 WithAddr k fun a66 =>
 Ld (.kp) (a66.add 17) (fun p67 w =>
 LdN shJob.cs 0 a10 (fun n68 n69 n70 n71 n72 b73 w =>
 Call P 70 [.pointer p67, .agg #[.int .i64 n68, .int .i64 n69, .int .i64 n70, .int .i64 n71, .int .i64 n72, .bool b73]] [] (fun w =>
 K w) w) w) w) w.drew)) w) w) w) w) w) w) w) w) w) w) w.drew) w) w) w)) w) w) (
 WithAddr k fun a74 =>
 Ld (.kb) (a74.add 19) (fun b75 w =>
 If b75 (
 LdN shJob.cs 0 a10 (fun n76 n77 n78 n79 n80 b81 w =>
 Call P 165 [.pointer k, .agg #[.int .i64 n76, .int .i64 n77, .int .i64 n78, .int .i64 n79, .int .i64 n80, .bool b81]] [sB] (fun b82 w =>
 If b82 (
 K w) (
 WithAddr k fun a83 =>
 Ld (.kp) (a83.add 17) (fun p84 w =>
 Call P 100 [.pointer p84, .int .i64 n] [shJob, sB] (fun n85 n86 n87 n88 n89 b90 b91 w =>
 StN [.int .i64 n85, .int .i64 n86, .int .i64 n87, .int .i64 n88, .int .i64 n89, .bool b90] 0 a10 (fun w =>
 (fun w : World =>
 WithAddr k fun a92 =>
 Ld (.ks) ((a92.add 0).add 0) (fun s93 w =>
 WithAddr k fun a94 =>
 Ld (.ki .i64) (a94.add 10) (fun n95 w =>
 ((0 : Int) ≤ n95 ∧ n95 < ((s93.n : Nat) : Int)) ∧ WithAddr s93.a fun a96 =>
 Ld (.ki .i64) ((a96.add (Int.toNat n95 * 2)).add 0) (fun n97 w =>
 WithAddr k fun a98 =>
 Ld (.ki .i64) (a98.add 10) (fun n99 w =>
 Call P 162 [.pointer k, .int .i64 1, .int .i64 n97, .int .i64 n99, .int .i64 n, .int .i64 1] [] (fun w =>
 (w.cell? ((a94.add 10).add 0) = some (.int .i64 n95)) ∧ (w.cell? (((a92.add 0).add 0).add 0) = some (.slice s93.a s93.n s93.c)) ∧ WithAddr k fun a100 =>
 Ld (.kp) (a100.add 20) (fun p101 w =>
 Call P 166 [.pointer p101, .int .i64 n] [] (fun w =>
 LdN shJob.cs 0 a10 (fun n102 n103 n104 n105 n106 b107 w =>
 Call P 167 [.agg #[.int .i64 n102, .int .i64 n103, .int .i64 n104, .int .i64 n105, .int .i64 n106, .bool b107]] [shJob, sI] (fun n108 n109 n110 n111 n112 b113 n114 w =>
 StN [.int .i64 n108, .int .i64 n109, .int .i64 n110, .int .i64 n111, .int .i64 n112, .bool b113] 0 a10 (fun w =>
 If (n114 != 0) (
 LdN shJob.cs 0 a10 (fun n115 n116 n117 n118 n119 b120 w =>
 Call P 164 [.pointer k, .int .i64 n114, .agg #[.int .i64 n115, .int .i64 n116, .int .i64 n117, .int .i64 n118, .int .i64 n119, .bool b120]] [] (fun w =>
 K w) w) w) (
 (fun w : World =>
 WithAddr k fun a121 =>
 Ld (.kp) (a121.add 17) (fun p122 w =>
 LdN shJob.cs 0 a10 (fun n123 n124 n125 n126 n127 b128 w =>
 Call P 70 [.pointer p122, .agg #[.int .i64 n123, .int .i64 n124, .int .i64 n125, .int .i64 n126, .int .i64 n127, .bool b128]] [] (fun w =>
 K w) w) w) w) w.drew)) w) w) w) w) w) w) w) w) w) w) w.drew) w) w) w)) w) w) (
 (fun w : World =>
 WithAddr k fun a129 =>
 Ld (.ks) ((a129.add 0).add 0) (fun s130 w =>
 WithAddr k fun a131 =>
 Ld (.ki .i64) (a131.add 10) (fun n132 w =>
 ((0 : Int) ≤ n132 ∧ n132 < ((s130.n : Nat) : Int)) ∧ WithAddr s130.a fun a133 =>
 Ld (.ki .i64) ((a133.add (Int.toNat n132 * 2)).add 0) (fun n134 w =>
 WithAddr k fun a135 =>
 Ld (.ki .i64) (a135.add 10) (fun n136 w =>
 Call P 162 [.pointer k, .int .i64 1, .int .i64 n134, .int .i64 n136, .int .i64 n, .int .i64 1] [] (fun w =>
 (w.cell? ((a131.add 10).add 0) = some (.int .i64 n132)) ∧ (w.cell? (((a129.add 0).add 0).add 0) = some (.slice s130.a s130.n s130.c)) ∧ WithAddr k fun a137 =>
 Ld (.kp) (a137.add 20) (fun p138 w =>
 Call P 166 [.pointer p138, .int .i64 n] [] (fun w =>
 LdN shJob.cs 0 a10 (fun n139 n140 n141 n142 n143 b144 w =>
 Call P 167 [.agg #[.int .i64 n139, .int .i64 n140, .int .i64 n141, .int .i64 n142, .int .i64 n143, .bool b144]] [shJob, sI] (fun n145 n146 n147 n148 n149 b150 n151 w =>
 StN [.int .i64 n145, .int .i64 n146, .int .i64 n147, .int .i64 n148, .int .i64 n149, .bool b150] 0 a10 (fun w =>
 If (n151 != 0) (
 LdN shJob.cs 0 a10 (fun n152 n153 n154 n155 n156 b157 w =>
 Call P 164 [.pointer k, .int .i64 n151, .agg #[.int .i64 n152, .int .i64 n153, .int .i64 n154, .int .i64 n155, .int .i64 n156, .bool b157]] [] (fun w =>
 K w) w) w) (
 (fun w : World =>
 WithAddr k fun a158 =>
 Ld (.kp) (a158.add 17) (fun p159 w =>
 LdN shJob.cs 0 a10 (fun n160 n161 n162 n163 n164 b165 w =>
 Call P 70 [.pointer p159, .agg #[.int .i64 n160, .int .i64 n161, .int .i64 n162, .int .i64 n163, .int .i64 n164, .bool b165]] [] (fun w =>
 K w) w) w) w) w.drew)) w) w) w) w) w) w) w) w) w) w) w.drew)) w)) w)) w) w) w) w) w) w) : Call P 135 [.pointer k, .int .i64 n] [] K w :=
  call_of (H := ⟨[], [], [(6, .take 0 (.take 1 (.take 2 (.take 3 (.take 4 (.take 5 (.take 6 (.take 7 (.take 8 (.take 9 (.take 10 (.take 11 (.take 12 (.take 13 (.take 14 (.take 15 (.take 16 (.take 17 (.run 18 .done))))))))))))))))))), (11, .take 0 (.take 1 (.take 2 (.take 3 (.take 4 (.run 5 .done))))))], []⟩) Tryz.func135 (by kernel_rfl) (by kernel_rfl) vc

theorem f142_of (h : Option Addr) (id : Int) {K : Bool → World → Prop} {w : World} (vc :
 If (Option.isNone h) (
 K false w) (
 WithAddr h fun a1 =>
 Ld (.km) (a1.add 1) (fun m2 w =>
 Sm P (Instr.lookup 146 (.map m2) (.int .i64 id) true) [sI, sB] (fun n3 b4 w =>
 If (!b4) (
 K false w) (
 WithAddr h fun a5 =>
 Ld (.ks) (a5.add 0) (fun s6 w =>
 Call P 173 [.pointer h, .int .i64 n3, .int .i64 (IntKind.wrap .i64 (((s6.n : Nat) : Int) - 1))] [] (fun w =>
 WithAddr h fun a7 =>
 Ld (.ks) (a7.add 0) (fun s8 w =>
 Sm P (Instr.sliceAt 172 (.slice s8.a s8.n s8.c) none (some (.int .i64 (IntKind.wrap .i64 (((s6.n : Nat) : Int) - 1)))) none) [sS] (fun s9 w =>
 WithAddr h fun a10 =>
 StN [.slice s9.a s9.n s9.c] 0 (a10.add 0) (fun w =>
 WithAddr h fun a11 =>
 Ld (.km) (a11.add 1) (fun m12 w =>
 Sm P (Builtin.delete_ #[146, 3] 0 [.map m12, .int .i64 id].toArray) [] (fun w =>
 If (decide (n3 < (IntKind.wrap .i64 (((s6.n : Nat) : Int) - 1)))) (
 WithAddr h fun a13 =>
 Ld (.ks) (a13.add 0) (fun s14 w =>
 ((0 : Int) ≤ n3 ∧ n3 < ((s14.n : Nat) : Int)) ∧ WithAddr s14.a fun a15 =>
 Ld (.ki .i64) ((a15.add (Int.toNat n3 * 2)).add 1) (fun n16 w =>
 Call P 144 [.pointer h, .int .i64 n3] [] (fun w =>
 WithAddr h fun a17 =>
 Ld (.km) (a17.add 1) (fun m18 w =>
 Sm P (Instr.lookup 146 (.map m18) (.int .i64 n16) false) [sI] (fun n19 w =>
 Call P 145 [.pointer h, .int .i64 n19] [] (fun w =>
 K true w) w) w) w) w) w) w) (
 K true w)) w) w) w) w) w) w) w)) w) w)) : Call P 142 [.pointer h, .int .i64 id] [sB] K w :=
  call_of (H := ⟨[], [], [], []⟩) Tryz.func142 (by kernel_rfl) (by kernel_rfl) vc

theorem f160_of (p : Plat) (tasks : Sl) {K : Int → World → Prop} {w : World} (vc :
 New [.slice p.levels.a p.levels.n p.levels.c, .slice p.sleeps.a p.sleeps.n p.sleeps.c, .slice p.devices.a p.devices.n p.devices.c, .int .i64 p.idle, .int .i64 p.crit, .int .i64 p.switch, .int .i64 p.switchE, .int .i64 p.sems, .int .i64 p.horizon] 26 (fun a1 w =>
 ∃ (I4 : Int → Int → World → Prop) (M5 : Int → Int → World → Nat), I4 0 0 w ∧ ∀ (n2 : Int) (n3 : Int) (v6 : World), I4 n2 n3 v6 → ∀ _ : Nat → Value,
 (fun w : World =>
 If (decide (n3 < ((tasks.n : Nat) : Int))) (
 ((0 : Int) ≤ n3 ∧ n3 < ((tasks.n : Nat) : Int)) ∧ WithAddr tasks.a fun a7 =>
 LdN shTask.cs 0 (a7.add (Int.toNat n3 * 4)) (fun n8 n9 s10 s11 w =>
 New [.int .i64 0, .int .i64 0, .slice none 0 0, .slice none 0 0] 37 (fun a12 w =>
 StN [.int .i64 n8, .int .i64 n9, .slice s10.a s10.n s10.c, .slice s11.a s11.n s11.c] 0 a12 (fun w =>
 (fun w : World =>
 LdN shPlat.cs 0 a1 (fun s13 s14 s15 n16 n17 n18 n19 n20 n21 w =>
 Ld (.ki .i64) (a12.add 0) (fun n22 w =>
 Ld (.ki .i64) (a12.add 0) (fun n23 w =>
 Call P 182 [.agg #[.slice s13.a s13.n s13.c, .slice s14.a s14.n s14.c, .slice s15.a s15.n s15.c, .int .i64 n16, .int .i64 n17, .int .i64 n18, .int .i64 n19, .int .i64 n20, .int .i64 n21], .slice tasks.a tasks.n tasks.c, .int .i64 n22] [sI] (fun n24 w =>
 (w.cell? ((a12.add 0).add 0) = some (.int .i64 n23)) ∧ Call P 181 [.int .i64 n24, .int .i64 n23] [sI] (fun n25 w =>
 (w.cell? ((a12.add 0).add 0) = some (.int .i64 n22)) ∧ (w.cell? (a1.add 0) = some (.slice s13.a s13.n s13.c) ∧ w.cell? (a1.add 1) = some (.slice s14.a s14.n s14.c) ∧ w.cell? (a1.add 2) = some (.slice s15.a s15.n s15.c) ∧ w.cell? (a1.add 3) = some (.int .i64 n16) ∧ w.cell? (a1.add 4) = some (.int .i64 n17) ∧ w.cell? (a1.add 5) = some (.int .i64 n18) ∧ w.cell? (a1.add 6) = some (.int .i64 n19) ∧ w.cell? (a1.add 7) = some (.int .i64 n20) ∧ w.cell? (a1.add 8) = some (.int .i64 n21)) ∧ I4 (if n25 > n2 then n25 else n2) (IntKind.wrap .i64 (n3 + 1)) w ∧ M5 (if n25 > n2 then n25 else n2) (IntKind.wrap .i64 (n3 + 1)) w < M5 n2 n3 v6) w) w) w) w) w) w.drew) w) w) w) (
 K n2 w)) v6) w) : Call P 160 [p.v, .slice tasks.a tasks.n tasks.c] [sI] K w :=
  call_of (H := ⟨[(3, [(5, .ki .i64), (10, .ki .i64)])], [], [(5, .take 0 (.take 1 (.take 2 (.take 3 (.take 4 (.take 6 (.take 7 (.run 5 (.run 8 (.take 9 (.take 10 .done)))))))))))], []⟩) Tryz.func160 (by kernel_rfl) (by kernel_rfl) vc

theorem f166_of (l : Option Addr) (task : Int) {K : World → Prop} {w : World} (vc :
 If (Option.isNone l) (
 K w) (
 WithAddr l fun a1 =>
 Ld (.ks) (a1.add 0) (fun s2 w =>
 ∃ (I4 : Int → World → Prop) (M5 : Int → World → Nat), I4 0 w ∧ ∀ (n3 : Int) (v6 : World), I4 n3 v6 → ∀ _ : Nat → Value,
 (fun w : World =>
 If (decide (n3 < ((s2.n : Nat) : Int))) (
 WithAddr l fun a7 =>
 Ld (.ks) (a7.add 0) (fun s8 w =>
 ((0 : Int) ≤ n3 ∧ n3 < ((s8.n : Nat) : Int)) ∧ WithAddr s8.a fun a9 =>
 Ld (.ki .i64) ((a9.add (Int.toNat n3 * 3)).add 0) (fun n10 w =>
 If (n10 == task) (
 WithAddr l fun a11 =>
 Ld (.ks) (a11.add 0) (fun s12 w =>
 ((0 : Int) ≤ n3 ∧ n3 < ((s12.n : Nat) : Int)) ∧ WithAddr s12.a fun a13 =>
 Ld (.ki .i64) ((a13.add (Int.toNat n3 * 3)).add 2) (fun n14 w =>
 ((0 : Int) ≤ n3 ∧ n3 < ((s12.n : Nat) : Int)) ∧ WithAddr s12.a fun a15 =>
 StN [.int .i64 (IntKind.wrap .i64 (n14 - 1))] 0 ((a15.add (Int.toNat n3 * 3)).add 2) (fun w =>
 I4 (IntKind.wrap .i64 (n3 + 1)) w ∧ M5 (IntKind.wrap .i64 (n3 + 1)) w < M5 n3 v6) w) w) w) (
 I4 (IntKind.wrap .i64 (n3 + 1)) w ∧ M5 (IntKind.wrap .i64 (n3 + 1)) w < M5 n3 v6)) w) w) (
 K w)) v6) w)) : Call P 166 [.pointer l, .int .i64 task] [] K w :=
  call_of (H := ⟨[(2, [(12, .ki .i64)])], [], [], []⟩) Tryz.func166 (by kernel_rfl) (by kernel_rfl) vc

theorem f173_of (h : Option Addr) (a : Int) (b : Int) {K : World → Prop} {w : World} (vc :
 (fun w : World =>
 WithAddr h fun a1 =>
 Ld (.ks) (a1.add 0) (fun s2 w =>
 WithAddr h fun a3 =>
 Ld (.ks) (a3.add 0) (fun s4 w =>
 WithAddr h fun a5 =>
 Ld (.ks) (a5.add 0) (fun s6 w =>
 ((0 : Int) ≤ b ∧ b < ((s6.n : Nat) : Int)) ∧ WithAddr s6.a fun a7 =>
 LdN shItem.cs 0 (a7.add (Int.toNat b * 2)) (fun n8 n9 w =>
 WithAddr h fun a10 =>
 Ld (.ks) (a10.add 0) (fun s11 w =>
 ((0 : Int) ≤ a ∧ a < ((s11.n : Nat) : Int)) ∧ WithAddr s11.a fun a12 =>
 LdN shItem.cs 0 (a12.add (Int.toNat a * 2)) (fun n13 n14 w =>
 ((0 : Int) ≤ a ∧ a < ((s2.n : Nat) : Int)) ∧ WithAddr s2.a fun a15 =>
 StN [.int .i64 n8, .int .i64 n9] 0 (a15.add (Int.toNat a * 2)) (fun w =>
 ((0 : Int) ≤ b ∧ b < ((s4.n : Nat) : Int)) ∧ WithAddr s4.a fun a16 =>
 StN [.int .i64 n13, .int .i64 n14] 0 (a16.add (Int.toNat b * 2)) (fun w =>
 (fun w : World =>
 WithAddr h fun a17 =>
 Ld (.km) (a17.add 1) (fun m18 w =>
 WithAddr h fun a19 =>
 Ld (.ks) (a19.add 0) (fun s20 w =>
 ((0 : Int) ≤ a ∧ a < ((s20.n : Nat) : Int)) ∧ WithAddr s20.a fun a21 =>
 Ld (.ki .i64) ((a21.add (Int.toNat a * 2)).add 1) (fun n22 w =>
 WithAddr h fun a23 =>
 Ld (.km) (a23.add 1) (fun m24 w =>
 WithAddr h fun a25 =>
 Ld (.ks) (a25.add 0) (fun s26 w =>
 ((0 : Int) ≤ b ∧ b < ((s26.n : Nat) : Int)) ∧ WithAddr s26.a fun a27 =>
 Ld (.ki .i64) ((a27.add (Int.toNat b * 2)).add 1) (fun n28 w =>
 Sm P (Instr.mapEntry 146 (.map m18) (.int .i64 n22)) [sI, sI] (fun n29 n30 w =>
 (w.cell? ((a19.add 0).add 0) = some (.slice s20.a s20.n s20.c)) ∧ SmU P (Instr.entryStore 146 (.map m18) (.int .i64 n30) (.int .i64 a)) (fun w =>
 Sm P (Instr.mapEntry 146 (.map m24) (.int .i64 n28)) [sI, sI] (fun n31 n32 w =>
 SmU P (Instr.entryStore 146 (.map m24) (.int .i64 n32) (.int .i64 b)) (fun w =>
 K w) w) w) w) w) w) w) w) w) w) w) w.drew) w) w) w) w) w) w) w) w) w.drew) : Call P 173 [.pointer h, .int .i64 a, .int .i64 b] [] K w :=
  call_of (H := ⟨[], [], [(0, .take 0 (.take 1 (.take 2 (.take 3 (.take 4 (.take 5 (.take 6 (.take 7 (.take 8 (.take 9 (.take 10 (.take 11 (.take 12 (.take 13 (.take 14 (.take 15 (.take 16 (.take 17 (.take 18 (.take 19 (.take 20 (.take 21 (.take 22 (.take 23 (.take 24 (.run 25 (.take 26 (.run 27 .done)))))))))))))))))))))))))))), (1, .take 0 (.take 1 (.take 2 (.take 3 (.take 4 (.take 5 (.take 6 (.take 7 (.take 8 (.take 9 (.take 10 (.take 11 (.take 12 (.take 13 (.take 14 (.take 15 (.take 16 (.take 17 (.take 18 (.take 19 (.take 20 (.take 21 (.take 22 (.take 23 (.take 24 (.take 25 (.run 26 (.take 27 (.run 28 (.run 29 (.take 30 (.run 31 .done))))))))))))))))))))))))))))))))], []⟩) Tryz.func173 (by kernel_rfl) (by kernel_rfl) vc

theorem f184_of (t : Option Addr) (i : Interval) {K : World → Prop} {w : World} (vc :
 New [.int .i64 i.kind, .int .i64 i.from_, .int .i64 i.len, .int .i64 i.arg, .int .i64 i.task, .int .i64 i.cycles] 66 (fun a1 w =>
 If (Option.isNone t) (
 K w) (
 WithAddr t fun a2 =>
 Ld (.ks) (a2.add 0) (fun s3 w =>
 If (decide ((IntKind.wrap .i64 (((s3.n : Nat) : Int) - 1)) ≥ 0)) (
 (fun w : World =>
 WithAddr t fun a4 =>
 Ld (.ks) (a4.add 0) (fun s5 w =>
 ((0 : Int) ≤ (IntKind.wrap .i64 (((s3.n : Nat) : Int) - 1)) ∧ (IntKind.wrap .i64 (((s3.n : Nat) : Int) - 1)) < ((s5.n : Nat) : Int)) ∧ WithAddr s5.a fun a6 =>
 LdN shSleep.cs 0 (a6.add (Int.toNat (IntKind.wrap .i64 (((s3.n : Nat) : Int) - 1)) * 6)) (fun n7 n8 n9 n10 n11 n12 w =>
 LdN shSleep.cs 0 a1 (fun n13 n14 n15 n16 n17 n18 w =>
 (
 Call P 200 [.agg #[.int .i64 n7, .int .i64 n8, .int .i64 n9, .int .i64 n10, .int .i64 n11, .int .i64 n12], .agg #[.int .i64 n13, .int .i64 n14, .int .i64 n15, .int .i64 n16, .int .i64 n17, .int .i64 n18]] [shInterval, sB] (fun n19 n20 n21 n22 n23 n24 b25 w =>
 (w.cell? ((a4.add 0).add 0) = some (.slice s5.a s5.n s5.c)) ∧ New [.int .i64 0, .int .i64 0, .int .i64 0, .int .i64 0, .int .i64 0, .int .i64 0] 66 (fun a26 w =>
 (w.cell? (a1.add 0) = some (.int .i64 n13) ∧ w.cell? (a1.add 1) = some (.int .i64 n14) ∧ w.cell? (a1.add 2) = some (.int .i64 n15) ∧ w.cell? (a1.add 3) = some (.int .i64 n16) ∧ w.cell? (a1.add 4) = some (.int .i64 n17) ∧ w.cell? (a1.add 5) = some (.int .i64 n18)) ∧ (w.cell? ((a6.add (Int.toNat (IntKind.wrap .i64 (((s3.n : Nat) : Int) - 1)) * 6)).add 0) = some (.int .i64 n7) ∧ w.cell? ((a6.add (Int.toNat (IntKind.wrap .i64 (((s3.n : Nat) : Int) - 1)) * 6)).add 1) = some (.int .i64 n8) ∧ w.cell? ((a6.add (Int.toNat (IntKind.wrap .i64 (((s3.n : Nat) : Int) - 1)) * 6)).add 2) = some (.int .i64 n9) ∧ w.cell? ((a6.add (Int.toNat (IntKind.wrap .i64 (((s3.n : Nat) : Int) - 1)) * 6)).add 3) = some (.int .i64 n10) ∧ w.cell? ((a6.add (Int.toNat (IntKind.wrap .i64 (((s3.n : Nat) : Int) - 1)) * 6)).add 4) = some (.int .i64 n11) ∧ w.cell? ((a6.add (Int.toNat (IntKind.wrap .i64 (((s3.n : Nat) : Int) - 1)) * 6)).add 5) = some (.int .i64 n12)) ∧ (w.cell? ((a4.add 0).add 0) = some (.slice s5.a s5.n s5.c)) ∧ StN [.int .i64 n19, .int .i64 n20, .int .i64 n21, .int .i64 n22, .int .i64 n23, .int .i64 n24] 0 a26 (fun w =>
 If b25 (
 (fun w : World =>
 WithAddr t fun a27 =>
 Ld (.ks) (a27.add 0) (fun s28 w =>
 LdN shSleep.cs 0 a26 (fun n29 n30 n31 n32 n33 n34 w =>
 ((0 : Int) ≤ (IntKind.wrap .i64 (((s3.n : Nat) : Int) - 1)) ∧ (IntKind.wrap .i64 (((s3.n : Nat) : Int) - 1)) < ((s28.n : Nat) : Int)) ∧ WithAddr s28.a fun a35 =>
 StN [.int .i64 n29, .int .i64 n30, .int .i64 n31, .int .i64 n32, .int .i64 n33, .int .i64 n34] 0 (a35.add (Int.toNat (IntKind.wrap .i64 (((s3.n : Nat) : Int) - 1)) * 6)) (fun w =>
 K w) w) w) w) w.drew) (
 (fun w : World =>
 WithAddr t fun a36 =>
 Ld (.ks) (a36.add 0) (fun s37 w =>
 LdN shSleep.cs 0 a1 (fun n38 n39 n40 n41 n42 n43 w =>
 New [.int .i64 n38, .int .i64 n39, .int .i64 n40, .int .i64 n41, .int .i64 n42, .int .i64 n43] 66 (fun a44 w =>
 (w.cell? ((a36.add 0).add 0) = some (.slice s37.a s37.n s37.c)) ∧ Sm P (Builtin.append_ #[63, 63] 63 [.slice s37.a s37.n s37.c, .slice (some a44) 1 1].toArray) [sS] (fun s45 w =>
 (w.cell? (a1.add 0) = some (.int .i64 n38) ∧ w.cell? (a1.add 1) = some (.int .i64 n39) ∧ w.cell? (a1.add 2) = some (.int .i64 n40) ∧ w.cell? (a1.add 3) = some (.int .i64 n41) ∧ w.cell? (a1.add 4) = some (.int .i64 n42) ∧ w.cell? (a1.add 5) = some (.int .i64 n43)) ∧ WithAddr t fun a46 =>
 StN [.slice s45.a s45.n s45.c] 0 (a46.add 0) (fun w =>
 K w) w) w) w) w) w) w.drew)) w) w) w) ∧ (
 New [.int .i64 0, .int .i64 0, .int .i64 0, .int .i64 0, .int .i64 0, .int .i64 0] 66 (fun a47 w =>
 (w.cell? (a1.add 0) = some (.int .i64 n13) ∧ w.cell? (a1.add 1) = some (.int .i64 n14) ∧ w.cell? (a1.add 2) = some (.int .i64 n15) ∧ w.cell? (a1.add 3) = some (.int .i64 n16) ∧ w.cell? (a1.add 4) = some (.int .i64 n17) ∧ w.cell? (a1.add 5) = some (.int .i64 n18)) ∧ (w.cell? ((a6.add (Int.toNat (IntKind.wrap .i64 (((s3.n : Nat) : Int) - 1)) * 6)).add 0) = some (.int .i64 n7) ∧ w.cell? ((a6.add (Int.toNat (IntKind.wrap .i64 (((s3.n : Nat) : Int) - 1)) * 6)).add 1) = some (.int .i64 n8) ∧ w.cell? ((a6.add (Int.toNat (IntKind.wrap .i64 (((s3.n : Nat) : Int) - 1)) * 6)).add 2) = some (.int .i64 n9) ∧ w.cell? ((a6.add (Int.toNat (IntKind.wrap .i64 (((s3.n : Nat) : Int) - 1)) * 6)).add 3) = some (.int .i64 n10) ∧ w.cell? ((a6.add (Int.toNat (IntKind.wrap .i64 (((s3.n : Nat) : Int) - 1)) * 6)).add 4) = some (.int .i64 n11) ∧ w.cell? ((a6.add (Int.toNat (IntKind.wrap .i64 (((s3.n : Nat) : Int) - 1)) * 6)).add 5) = some (.int .i64 n12)) ∧ (w.cell? ((a4.add 0).add 0) = some (.slice s5.a s5.n s5.c)) ∧ Call P 200 [.agg #[.int .i64 n7, .int .i64 n8, .int .i64 n9, .int .i64 n10, .int .i64 n11, .int .i64 n12], .agg #[.int .i64 n13, .int .i64 n14, .int .i64 n15, .int .i64 n16, .int .i64 n17, .int .i64 n18]] [shInterval, sB] (fun n48 n49 n50 n51 n52 n53 b54 w =>
 (w.cell? ((a4.add 0).add 0) = some (.slice s5.a s5.n s5.c)) ∧ StN [.int .i64 n48, .int .i64 n49, .int .i64 n50, .int .i64 n51, .int .i64 n52, .int .i64 n53] 0 a47 (fun w =>
 If b54 (
 (fun w : World =>
 WithAddr t fun a55 =>
 Ld (.ks) (a55.add 0) (fun s56 w =>
 LdN shSleep.cs 0 a47 (fun n57 n58 n59 n60 n61 n62 w =>
 ((0 : Int) ≤ (IntKind.wrap .i64 (((s3.n : Nat) : Int) - 1)) ∧ (IntKind.wrap .i64 (((s3.n : Nat) : Int) - 1)) < ((s56.n : Nat) : Int)) ∧ WithAddr s56.a fun a63 =>
 StN [.int .i64 n57, .int .i64 n58, .int .i64 n59, .int .i64 n60, .int .i64 n61, .int .i64 n62] 0 (a63.add (Int.toNat (IntKind.wrap .i64 (((s3.n : Nat) : Int) - 1)) * 6)) (fun w =>
 K w) w) w) w) w.drew) (
 (fun w : World =>
 WithAddr t fun a64 =>
 Ld (.ks) (a64.add 0) (fun s65 w =>
 LdN shSleep.cs 0 a1 (fun n66 n67 n68 n69 n70 n71 w =>
 New [.int .i64 n66, .int .i64 n67, .int .i64 n68, .int .i64 n69, .int .i64 n70, .int .i64 n71] 66 (fun a72 w =>
 (w.cell? ((a64.add 0).add 0) = some (.slice s65.a s65.n s65.c)) ∧ Sm P (Builtin.append_ #[63, 63] 63 [.slice s65.a s65.n s65.c, .slice (some a72) 1 1].toArray) [sS] (fun s73 w =>
 (w.cell? (a1.add 0) = some (.int .i64 n66) ∧ w.cell? (a1.add 1) = some (.int .i64 n67) ∧ w.cell? (a1.add 2) = some (.int .i64 n68) ∧ w.cell? (a1.add 3) = some (.int .i64 n69) ∧ w.cell? (a1.add 4) = some (.int .i64 n70) ∧ w.cell? (a1.add 5) = some (.int .i64 n71)) ∧ WithAddr t fun a74 =>
 StN [.slice s73.a s73.n s73.c] 0 (a74.add 0) (fun w =>
 K w) w) w) w) w) w) w.drew)) w) w) w)) w) w) w) w.drew) (
 (fun w : World =>
 WithAddr t fun a75 =>
 Ld (.ks) (a75.add 0) (fun s76 w =>
 LdN shSleep.cs 0 a1 (fun n77 n78 n79 n80 n81 n82 w =>
 New [.int .i64 n77, .int .i64 n78, .int .i64 n79, .int .i64 n80, .int .i64 n81, .int .i64 n82] 66 (fun a83 w =>
 (w.cell? ((a75.add 0).add 0) = some (.slice s76.a s76.n s76.c)) ∧ Sm P (Builtin.append_ #[63, 63] 63 [.slice s76.a s76.n s76.c, .slice (some a83) 1 1].toArray) [sS] (fun s84 w =>
 (w.cell? (a1.add 0) = some (.int .i64 n77) ∧ w.cell? (a1.add 1) = some (.int .i64 n78) ∧ w.cell? (a1.add 2) = some (.int .i64 n79) ∧ w.cell? (a1.add 3) = some (.int .i64 n80) ∧ w.cell? (a1.add 4) = some (.int .i64 n81) ∧ w.cell? (a1.add 5) = some (.int .i64 n82)) ∧ WithAddr t fun a85 =>
 StN [.slice s84.a s84.n s84.c] 0 (a85.add 0) (fun w =>
 K w) w) w) w) w) w) w.drew)) w)) w) : Call P 184 [.pointer t, i.v] [] K w :=
  call_of (H := ⟨[], [], [(4, .take 0 (.take 1 (.take 2 (.take 3 (.take 4 (.take 5 (.take 6 (.take 7 (.run2 8 (.take 9 (.take 10 (.take 11 (.run 12 (.run 13 (.take 14 .done)))))) 12 (.run 8 (.take 9 (.take 10 (.take 11 (.run 13 (.take 14 .done))))))))))))))), (6, .take 0 (.take 1 (.take 2 (.take 3 (.take 4 (.take 5 (.take 6 (.run 7 .done)))))))), (7, .take 0 (.take 1 (.take 2 (.take 3 (.take 4 (.take 5 (.run 6 (.run 7 (.take 8 (.take 9 (.run 10 .done)))))))))))], []⟩) Tryz.func184 (by kernel_rfl) (by kernel_rfl) vc

theorem f191_of (p : Plat) (tasks : Sl) (next : Sl) (list : Sl) (held : Sl) (now : Int) (x6 : Int) {K : Int → World → Prop} {w : World} (vc :
 New [.slice p.levels.a p.levels.n p.levels.c, .slice p.sleeps.a p.sleeps.n p.sleeps.c, .slice p.devices.a p.devices.n p.devices.c, .int .i64 p.idle, .int .i64 p.crit, .int .i64 p.switch, .int .i64 p.switchE, .int .i64 p.sems, .int .i64 p.horizon] 26 (fun a1 w =>
 LdN shPlat.cs 0 a1 (fun s2 s3 s4 n5 n6 n7 n8 n9 n10 w =>
 New [.slice s2.a s2.n s2.c, .slice s3.a s3.n s3.c, .slice s4.a s4.n s4.c, .int .i64 n5, .int .i64 n6, .int .i64 n7, .int .i64 n8, .int .i64 n9, .int .i64 n10, .slice tasks.a tasks.n tasks.c, .slice next.a next.n next.c, .slice list.a list.n list.c, .slice held.a held.n held.c, .int .i64 now] 232 (fun a11 w =>
 Call P 204 [.pointer (some a11), .int .i64 x6] [sI] (fun n12 w =>
 K n12 w) w) w) w) w) : Call P 191 [p.v, .slice tasks.a tasks.n tasks.c, .slice next.a next.n next.c, .slice list.a list.n list.c, .slice held.a held.n held.c, .int .i64 now, .int .i64 x6] [sI] K w :=
  call_of (H := ⟨[], [], [], []⟩) Tryz.func191 (by kernel_rfl) (by kernel_rfl) vc

theorem f198_of (n : Int) (low : Int) (high : Int) {K : Int → World → Prop} {w : World} (vc :
 K (if high < (if low > n then low else n) then high else (if low > n then low else n)) w) : Call P 198 [.int .i64 n, .int .i64 low, .int .i64 high] [sI] K w :=
  call_of (H := ⟨[], [], [], []⟩) Tryz.func198 (by kernel_rfl) (by kernel_rfl) vc

theorem f205_of (p : Plat) (policy : Int) (static : Int) {K : Int → World → Prop} {w : World} (vc :
 New [.slice p.levels.a p.levels.n p.levels.c, .slice p.sleeps.a p.sleeps.n p.sleeps.c, .slice p.devices.a p.devices.n p.devices.c, .int .i64 p.idle, .int .i64 p.crit, .int .i64 p.switch, .int .i64 p.switchE, .int .i64 p.sems, .int .i64 p.horizon] 26 (fun a1 w =>
 If (policy == 1) (
 If (policy == 1) (
 Ld (.ki .i64) (a1.add 4) (fun n2 w =>
 K (if n2 < (if 0 > static then 0 else static) then n2 else (if 0 > static then 0 else static)) w) w) (
 If (policy == 2) (
 Ld (.ki .i64) (a1.add 4) (fun n3 w =>
 K n3 w) w) (
 K 0 w))) (
 If (policy == 3) (
 Ld (.ki .i64) (a1.add 4) (fun n4 w =>
 K (if n4 < (if 0 > static then 0 else static) then n4 else (if 0 > static then 0 else static)) w) w) (
 If (policy == 2) (
 Ld (.ki .i64) (a1.add 4) (fun n5 w =>
 K n5 w) w) (
 K 0 w)))) w) : Call P 205 [p.v, .int .i64 policy, .int .i64 static] [sI] K w :=
  call_of (H := ⟨[], [], [], []⟩) Tryz.func205 (by kernel_rfl) (by kernel_rfl) vc

theorem f211_of (v : Option Addr) (n : Int) {K : Int → World → Prop} {w : World} (vc :
 (fun w : World =>
 WithAddr v fun a1 =>
 Ld (.ki .i64) (a1.add 13) (fun n2 w =>
 WithAddr v fun a3 =>
 Ld (.ks) (a3.add 10) (fun s4 w =>
 ((0 : Int) ≤ n ∧ n < ((s4.n : Nat) : Int)) ∧ WithAddr s4.a fun a5 =>
 Ld (.ki .i64) (a5.add (Int.toNat n * 1)) (fun n6 w =>
 K (if n6 > n2 then n6 else n2) w) w) w) w) w.drew) : Call P 211 [.pointer v, .int .i64 n] [sI] K w :=
  call_of (H := ⟨[], [], [(1, .take 0 (.take 1 (.take 2 (.take 3 (.take 4 (.take 5 (.take 6 (.take 7 (.take 8 (.take 9 (.take 10 (.take 11 (.take 12 .done)))))))))))))], []⟩) Tryz.func211 (by kernel_rfl) (by kernel_rfl) vc

theorem f217_of (v : Option Addr) (h : Held) (x2 : Int) {K : Int → World → Prop} {w : World} (vc :
 New [.int .i64 h.task, .int .i64 h.sem, .int .i64 h.left] 76 (fun a1 w =>
 (fun w : World =>
 WithAddr v fun a2 =>
 Ld (.ks) (a2.add 9) (fun s3 w =>
 Ld (.ki .i64) (a1.add 0) (fun n4 w =>
 ((0 : Int) ≤ n4 ∧ n4 < ((s3.n : Nat) : Int)) ∧ WithAddr s3.a fun a5 =>
 Ld (.ki .i64) ((a5.add (Int.toNat n4 * 4)).add 0) (fun n6 w =>
 WithAddr v fun a7 =>
 Ld (.ks) (a7.add 9) (fun s8 w =>
 Ld (.ki .i64) (a1.add 1) (fun n9 w =>
 Call P 171 [.slice s8.a s8.n s8.c, .int .i64 n9] [sI] (fun n10 w =>
 (w.cell? (((a5.add (Int.toNat n4 * 4)).add 0).add 0) = some (.int .i64 n6)) ∧ (w.cell? ((a1.add 0).add 0) = some (.int .i64 n4)) ∧ (w.cell? ((a2.add 9).add 0) = some (.slice s3.a s3.n s3.c)) ∧ WithAddr v fun a11 =>
 Ld (.ks) (a11.add 9) (fun s12 w =>
 ∃ (I14 : Int → World → Prop) (M15 : Int → World → Nat), I14 0 w ∧ ∀ (n13 : Int) (v16 : World), I14 n13 v16 → ∀ _ : Nat → Value,
 (fun w : World =>
 If (decide (n13 < ((s12.n : Nat) : Int))) (
 ((0 : Int) ≤ n13 ∧ n13 < ((s12.n : Nat) : Int)) ∧ WithAddr s12.a fun a17 =>
 LdN shTask.cs 0 (a17.add (Int.toNat n13 * 4)) (fun n18 n19 s20 s21 w =>
 New [.int .i64 0, .int .i64 0, .slice none 0 0, .slice none 0 0] 37 (fun a22 w =>
 StN [.int .i64 n18, .int .i64 n19, .slice s20.a s20.n s20.c, .slice s21.a s21.n s21.c] 0 a22 (fun w =>
 Ld (.ki .i64) (a22.add 0) (fun n23 w =>
 If (decide (n23 > 0)) (
 Ld (.ki .i64) (a22.add 0) (fun n24 w =>
 If (decide (n24 < n6)) (
 Ld (.ki .i64) (a22.add 0) (fun n25 w =>
 If (decide (n25 ≥ n10)) (
 Call P 218 [.pointer v, .int .i64 n13, .int .i64 x2] [sB] (fun b26 w =>
 If b26 (
 (fun w : World =>
 Ld (.ki .i64) (a1.add 2) (fun n27 w =>
 WithAddr v fun a28 =>
 Ld (.ks) ((a28.add 0).add 0) (fun s29 w =>
 WithAddr v fun a30 =>
 Ld (.ki .i64) ((a30.add 0).add 4) (fun n31 w =>
 ((0 : Int) ≤ n31 ∧ n31 < ((s29.n : Nat) : Int)) ∧ WithAddr s29.a fun a32 =>
 Ld (.ki .i64) ((a32.add (Int.toNat n31 * 2)).add 0) (fun n33 w =>
 K (IntKind.wrap .i64 ((if 0 > n27 then 0 else n27) * n33)) w) w) w) w) w) w.drew) (
 I14 (IntKind.wrap .i64 (n13 + 1)) w ∧ M15 (IntKind.wrap .i64 (n13 + 1)) w < M15 n13 v16)) w) (
 I14 (IntKind.wrap .i64 (n13 + 1)) w ∧ M15 (IntKind.wrap .i64 (n13 + 1)) w < M15 n13 v16)) w) (
 I14 (IntKind.wrap .i64 (n13 + 1)) w ∧ M15 (IntKind.wrap .i64 (n13 + 1)) w < M15 n13 v16)) w) (
 I14 (IntKind.wrap .i64 (n13 + 1)) w ∧ M15 (IntKind.wrap .i64 (n13 + 1)) w < M15 n13 v16)) w) w) w) w) (
 K 0 w)) v16) w) w) w) w) w) w) w) w.drew) w) : Call P 217 [.pointer v, h.v, .int .i64 x2] [sI] K w :=
  call_of (H := ⟨[(3, [(32, .ki .i64)])], [], [(1, .take 0 (.take 1 (.take 2 (.take 3 (.take 4 (.take 5 (.take 6 (.take 7 (.take 8 (.take 9 (.take 10 (.take 11 (.take 12 (.take 13 (.take 14 (.run 15 (.take 16 (.take 17 .done)))))))))))))))))), (6, .take 0 (.take 1 (.take 2 (.take 3 (.take 4 (.take 5 (.take 6 (.take 7 (.take 8 (.take 9 (.take 10 (.take 11 (.take 12 (.take 13 (.take 14 (.take 15 (.take 16 (.take 17 .done))))))))))))))))))], []⟩) Tryz.func217 (by kernel_rfl) (by kernel_rfl) vc

theorem f159o_of (s : Sl) (c : Option Addr) {K : Int → World → Prop} {w : World} (vc :
 ∃ (I2 : Int → World → Prop) (M3 : Int → World → Nat), I2 0 w ∧ ∀ (n1 : Int) (v4 : World), I2 n1 v4 → ∀ _ : Nat → Value,
 (fun w : World =>
 If (decide (n1 < ((s.n : Nat) : Int))) (
 ((0 : Int) ≤ n1 ∧ n1 < ((s.n : Nat) : Int)) ∧ WithAddr s.a fun a5 =>
 Ld (.ki .i64) (a5.add (Int.toNat n1 * 1)) (fun n6 w =>
 Call P 123 [.int .i64 n6, .pointer c] [sB] (fun b7 w =>
 If b7 (
 K n1 w) (
 I2 (IntKind.wrap .i64 (n1 + 1)) w ∧ M3 (IntKind.wrap .i64 (n1 + 1)) w < M3 n1 v4)) w) w) (
 K (-1) w)) v4) : Call P 159 [.slice s.a s.n s.c, .func (.func 123) #[] #[.pointer c]] [sI] K w :=
  call_of (H := ⟨[(2, [(8, .ki .i64)])], [], [], []⟩) Tryz.func159 (by kernel_rfl) (by kernel_rfl) vc

theorem f140o_of (s : Sl) (c : Option Addr) {K : Bool → World → Prop} {w : World} (vc :
 Call P 172 [.slice s.a s.n s.c, .func (.func 186) #[] #[.pointer c]] [sI] (fun n1 w =>
 K (decide (n1 ≥ 0)) w) w) : Call P 140 [.slice s.a s.n s.c, .func (.func 186) #[] #[.pointer c]] [sB] K w :=
  call_of (H := ⟨[], [], [], []⟩) Tryz.func140 (by kernel_rfl) (by kernel_rfl) vc

end Go.Proofs.YtajilfnceoeaiaaGreat.V
/- What the quiet functions answer: fix, task, admit. -/
namespace Go.Proofs.YtajilfnceoeaiaaGreat.V
open Go Go.RowKit
set_option maxRecDepth 100000
abbrev wz (x : Int) : Int := IntKind.wrap .i64 x
theorem wz_id {x : Int} (h : -9223372036854775808 ≤ x) (k : x ≤ 9223372036854775807) : IntKind.wrap .i64 x = x := by
  simp only [IntKind.wrap, IntKind.bits, IntKind.signed]
  first | omega | (simp; omega) | skip
theorem wz1 {k n : Nat} (h : k < n) (hn : n ≤ maxLen) : IntKind.wrap .i64 ((k : Int) + 1) = ((k + 1 : Nat) : Int) := by
  unfold maxLen at hn
  rw [wz_id (by omega) (by omega)]; rfl
/-- A machine, and what stands in its slices. -/
structure Mach where
  p : Plat
  L : List Level
  S : List Sleep
  D : List Device
structure MachR (o : Own) (w : World) (m : Mach) : Prop where
  L : RL o w 0 m.p.levels m.L
  S : RL o w 0 m.p.sleeps m.S
  D : RL o w 0 m.p.devices m.D
structure ATask where
  t : Task
  sec : List Int
  devs : List Int
structure TaskR (o : Own) (w : World) (x : ATask) : Prop where
  sec : RL o w 0 x.t.sec x.sec
  devs : RL o w 0 x.t.devs x.devs
structure TasksR (o : Own) (w : World) (c : Nat) (s : Sl) (l : List ATask) : Prop where
  rl : RL o w c s (l.map ATask.t)
  each : ∀ x ∈ l, TaskR o w x
section
variable {o o' : Own} {w w' : World} {C : Nat → Bool}
theorem MachR.up {m : Mach} (h : MachR o w m) (u : Up C o w o' w') (hC : C 0 = false) : MachR o' w' m := ⟨h.L.up u hC, h.S.up u hC, h.D.up u hC⟩
theorem TaskR.up {x : ATask} (h : TaskR o w x) (u : Up C o w o' w') (hC : C 0 = false) : TaskR o' w' x := ⟨h.sec.up u hC, h.devs.up u hC⟩
theorem TasksR.up {c : Nat} {s : Sl} {l : List ATask} (h : TasksR o w c s l) (u : Up C o w o' w') (hC : C 0 = false) (hc : C c = false) : TasksR o' w' c s l := ⟨h.rl.up u hc, fun x hx => (h.each x hx).up u hC⟩
theorem MachR.below {m : Mach} (h : MachR o w m) (u : Below w.heap.size w w') : MachR o w' m := h.up (Up.of_below (C := no) u) rfl
theorem TaskR.below {x : ATask} (h : TaskR o w x) (u : Below w.heap.size w w') : TaskR o w' x := h.up (Up.of_below (C := no) u) rfl
theorem TasksR.below {c : Nat} {s : Sl} {l : List ATask} (h : TasksR o w c s l) (u : Below w.heap.size w w') : TasksR o w' c s l := h.up (Up.of_below (C := no) u) rfl rfl
theorem _root_.Go.RowKit.Below.on {a b c : World} (h : Below a.heap.size a b) (k : Below b.heap.size b c) : Below a.heap.size a c := h.trans (k.mono h.size)
end
/-! ### fix -/
def clampZ (n low high : Int) : Int := if high < (if low > n then low else n) then high else (if low > n then low else n)
theorem clamp_spec (n low high : Int) (w : World) : Call P 198 [.int .i64 n, .int .i64 low, .int .i64 high] [sI] (fun r w' => Below w.heap.size w w' ∧ r = clampZ n low high) w :=
  f198_of _ _ _ ⟨Below.refl _ _, rfl⟩
def utilZ (c t : Int) : Int :=
  if t < 1 then 1099511627776 else
    wz (wz (Int.tdiv (wz (clampZ c 0 536870912 * 2 ^ 32)) t) + (if 1 < Int.tmod (wz (clampZ c 0 536870912 * 2 ^ 32)) t then 1 else Int.tmod (wz (clampZ c 0 536870912 * 2 ^ 32)) t))
theorem util_spec (c t : Int) (w : World) : Call P 181 [.int .i64 c, .int .i64 t] [sI] (fun r w' => Below w.heap.size w w' ∧ r = utilZ c t) w := by
  refine f181_of _ _ (If_d (fun h => ⟨Below.refl _ _, by rw [utilZ, if_pos h]⟩) fun h => ?_)
  refine (clamp_spec _ _ _ _).imp1 ?_
  rintro r w1 ⟨b, rfl⟩
  exact ⟨by omega, by omega, b.drew, by rw [utilZ, if_neg h]⟩
theorem times_spec (u n : Int) (w : World) : Call P 215 [.int .i64 u, .int .i64 n] [sI] (fun r w' => Below w.heap.size w w' ∧ r = wz (clampZ u 0 17179869184 * clampZ n 0 134217728)) w := by
  refine f215_of _ _ ((clamp_spec _ _ _ _).imp1 ?_)
  rintro r w1 ⟨b, rfl⟩
  refine (clamp_spec _ _ _ _).imp1 ?_
  rintro r w2 ⟨b2, rfl⟩
  exact ⟨b.on b2, rfl⟩
def wholeZ (n : Int) : Int := wz (clampZ n (-1073741824) 1073741824 * 2 ^ 32)
theorem whole_spec (n : Int) (w : World) : Call P 206 [.int .i64 n] [sI] (fun r w' => Below w.heap.size w w' ∧ r = wholeZ n) w := by
  refine f206_of _ ((clamp_spec _ _ _ _).imp1 ?_)
  rintro r w1 ⟨b, rfl⟩
  exact ⟨b, rfl⟩
theorem floor_spec (x : Int) (w : World) : Call P 194 [.int .i64 x] [sI] (fun r w' => Below w.heap.size w w' ∧ r = Int.fdiv x (2 ^ 32)) w := f194_of _ ⟨Below.refl _ _, rfl⟩
/-! ### task -/
def usesZ (x : ATask) (s : Int) : Bool := decide (s ≥ 0) && decide (s < x.sec.length) && decide (x.sec.getD s.toNat 0 > 0)
theorem uses_spec {o : Own} {w : World} (x : ATask) (s : Int) (h : TaskR o w x) : Call P 106 [x.t.v, .int .i64 s] [sB] (fun b w' => Below w.heap.size w w' ∧ b = usesZ x s) w := by
  refine f106_of _ _ (New_of fun b w1 c1 u1 => ?_)
  have hn := h.sec.n
  refine If_d (fun h0 => ?_) (fun h0 => ⟨u1, by simp [usesZ, h0]⟩)
  refine c1.ld (x := x.t.sec) rfl ?_
  rw [hn]
  refine If_d (fun h1 => ?_) (fun h1 => ⟨u1, by simp [usesZ, h1]⟩)
  refine c1.ld (x := x.t.sec) rfl ?_
  obtain ⟨k, rfl⟩ : ∃ k : Nat, s = k := ⟨s.toNat, by omega⟩
  have hk : k < x.sec.length := by omega
  refine (h.sec.below u1).int rfl (List.getElem?_eq_getElem hk) ⟨u1, ?_⟩
  simp [usesZ, h1, hk]
def ceilZ (l : List ATask) (s : Int) : Int := l.foldl (fun a x => if usesZ x s then (if x.t.period < a then x.t.period else a) else a) 1099511627776
theorem ceil_spec {o : Own} {w : World} {c : Nat} (tasks : Sl) (l : List ATask) (s : Int) (h : TasksR o w c tasks l) : Call P 171 [.slice tasks.a tasks.n tasks.c, .int .i64 s] [sI] (fun r w' => Below w.heap.size w w' ∧ r = ceilZ l s) w := by
  have hn := h.rl.n
  rw [List.length_map] at hn
  have hmax := h.rl.max
  refine f171_of _ _ ⟨fun a i w' => ∃ k : Nat, i = k ∧ k ≤ l.length ∧ Below w.heap.size w w' ∧ a = ceilZ (l.take k) s, fun _ i _ => l.length - i.toNat, ⟨0, rfl, Nat.zero_le _, Below.refl _ _, rfl⟩, ?_⟩
  rintro a _ v ⟨k, rfl, hk, u, rfl⟩ _
  rw [hn]
  refine If_d (fun hlt => ?_) (fun hlt => ?_)
  · have hk' : k < l.length := by omega
    have hx : (l.map ATask.t)[k]? = some l[k].t := by simp [hk']
    have hs : ceilZ (l.take (k + 1)) s = if usesZ l[k] s then (if l[k].t.period < ceilZ (l.take k) s then l[k].t.period else ceilZ (l.take k) s) else ceilZ (l.take k) s := by
      rw [List.take_succ_eq_append_getElem hk', ceilZ, List.foldl_append]; rfl
    rw [← hn]
    refine (h.rl.below u).task rfl hx ?_
    refine NewSt_of rfl fun b w1 c1 u1 => ?_
    refine c1.ldTask (x := l[k].t) ?_
    refine (uses_spec l[k] s ((h.each _ (List.getElem_mem hk')).below (u.on u1))).imp1 ?_
    rintro r w2 ⟨u2, rfl⟩
    rw [wz1 hk' (hn ▸ hmax)]
    refine If_b (fun hb => ?_) (fun hb => ?_)
    · refine (c1.below u2).ld (x := l[k].t.period) rfl ⟨⟨k + 1, rfl, by omega, (u.on u1).on u2, by rw [hs, hb]; rfl⟩, by simp; omega⟩
    · exact ⟨⟨k + 1, rfl, by omega, (u.on u1).on u2, by rw [hs, hb]; rfl⟩, by simp; omega⟩
  · have : k = l.length := by omega
    subst this
    exact ⟨u, by rw [List.take_length]⟩
/-! ### task.Check -/
theorem odd_spec {w : World} (n : Int) {b : Nat} {vs : List Value} {cyc : Int} (h : Bx w b 0 vs) (hv : vs[1]? = some (.int .i64 cyc)) :
    Call P 123 [.int .i64 n, .pointer (some ⟨b, 0, none⟩)] [sB] (fun r w' => Below w.heap.size w w' ∧ r = (decide (n < 0) || decide (n > cyc))) w := by
  refine f123_of _ _ (If_d (fun h0 => ⟨Below.refl _ _, by simp [h0]⟩) fun h0 => ?_)
  refine WA (h.ld (c := .ki .i64) (x := cyc) hv ?_)
  exact ⟨Below.refl _ _, by simp [h0]⟩
def indexZ (p : Int → Bool) (l : List Int) : Int := match l.findIdx? p with
  | some k => k
  | none => -1
theorem findIdx_take {α : Type} {p : α → Bool} {l : List α} (h : ∀ x ∈ l, p x = false) : l.findIdx? p = none := by
  simpa using h
theorem findIdx_at {α : Type} {p : α → Bool} {l : List α} {k : Nat} {x : α} (hx : l[k]? = some x) (hp : p x = true) (h : ∀ y ∈ l.take k, p y = false) : l.findIdx? p = some k := by
  obtain ⟨hk, rfl⟩ := List.getElem?_eq_some_iff.1 hx
  rw [List.findIdx?_eq_some_iff_getElem]
  refine ⟨hk, hp, fun j hj => ?_⟩
  have := h l[j] (List.mem_take_iff_getElem.2 ⟨j, by omega, rfl⟩)
  simp [this]
theorem indexOdd_spec {o : Own} {w : World} {c : Nat} (s : Sl) (l : List Int) (h : RL o w c s l) {b : Nat} {vs : List Value} {cyc : Int} (hb : Bx w b 0 vs) (hv : vs[1]? = some (.int .i64 cyc)) :
    Call P 159 [.slice s.a s.n s.c, .func (.func 123) #[] #[.pointer (some ⟨b, 0, none⟩)]] [sI] (fun r w' => Below w.heap.size w w' ∧ r = indexZ (fun n => decide (n < 0) || decide (n > cyc)) l) w := by
  have hn := h.n
  have hmax := h.max
  refine f159o_of _ _ ⟨fun i w' => ∃ k : Nat, i = k ∧ k ≤ l.length ∧ Below w.heap.size w w' ∧ ∀ y ∈ l.take k, (decide (y < 0) || decide (y > cyc)) = false, fun i _ => l.length - i.toNat, ⟨0, rfl, Nat.zero_le _, Below.refl _ _, by simp⟩, ?_⟩
  rintro _ v ⟨k, rfl, hk, u, hp⟩ _
  refine If_d (fun hlt => ?_) (fun hlt => ?_)
  · have hk' : k < l.length := by omega
    refine (h.below u).int rfl (List.getElem?_eq_getElem hk') ?_
    refine (odd_spec _ (hb.below u) hv).imp1 ?_
    rintro r w2 ⟨u2, rfl⟩
    rw [wz1 (by omega) hmax]
    refine If_b (fun hb => ?_) (fun hb => ?_)
    · exact ⟨u.on u2, by rw [indexZ, findIdx_at (List.getElem?_eq_getElem hk') hb hp]⟩
    · refine ⟨⟨k + 1, rfl, hk', u.on u2, fun y hy => ?_⟩, by simp; omega⟩
      rw [List.take_succ_eq_append_getElem hk', List.mem_append, List.mem_singleton] at hy
      rcases hy with hy | rfl
      · exact hp y hy
      · exact hb
  · have : k = l.length := by omega
    subst this
    rw [List.take_length] at hp
    exact ⟨u, by rw [indexZ, findIdx_take hp]⟩
theorem index_ge {p : Int → Bool} {l : List Int} : decide (indexZ p l ≥ 0) = l.any p := by
  unfold indexZ
  cases h : l.findIdx? p with
  | none =>
    have : l.any p = false := by simpa using h
    rw [this]; rfl
  | some k =>
    have h0 : l.findIdx? p ≠ none := by rw [h]; simp
    have : l.any p = true := by
      cases ha : l.any p with
      | true => rfl
      | false => exact absurd (by simpa using ha) h0
    rw [this]; simp
theorem containsOdd_spec {o : Own} {w : World} {c : Nat} (s : Sl) (l : List Int) (h : RL o w c s l) {b : Nat} {vs : List Value} {cyc : Int} (hb : Bx w b 0 vs) (hv : vs[1]? = some (.int .i64 cyc)) :
    Call P 124 [.slice s.a s.n s.c, .func (.func 123) #[] #[.pointer (some ⟨b, 0, none⟩)]] [sB] (fun r w' => Below w.heap.size w w' ∧ r = l.any (fun n => decide (n < 0) || decide (n > cyc))) w := by
  refine f124_of _ _ ((indexOdd_spec s l h hb hv).imp1 ?_)
  rintro r w2 ⟨u2, rfl⟩
  exact ⟨u2, index_ge⟩
/-- The devices that a task names: in range, rising. -/
def devsZ (m : Mach) (l : List Int) : Bool := (List.range l.length).all fun k => decide (0 ≤ l.getD k 0) && decide (l.getD k 0 < m.D.length) && (decide (k = 0) || decide (l.getD (k - 1) 0 < l.getD k 0))
theorem devices_spec {o : Own} {w : World} {c : Nat} (m : Mach) (s : Sl) (l : List Int) (hm : MachR o w m) (h : RL o w c s l) :
    Call P 125 [m.p.v, .slice s.a s.n s.c] [sB] (fun r w' => Below w.heap.size w w' ∧ r = devsZ m l) w := by
  have hn := h.n
  have hmax := h.max
  have hD := hm.D.n
  refine f125_of _ _ (New_of fun b w1 c1 u1 => ?_)
  refine ⟨fun i w' => ∃ k : Nat, i = k ∧ k ≤ l.length ∧ Below w1.heap.size w1 w' ∧ ∀ j, j < k → (decide (0 ≤ l.getD j 0) && decide (l.getD j 0 < m.D.length) && (decide (j = 0) || decide (l.getD (j - 1) 0 < l.getD j 0))) = true, fun i _ => l.length - i.toNat, ⟨0, rfl, Nat.zero_le _, Below.refl _ _, by simp⟩, ?_⟩
  rintro _ v ⟨k, rfl, hk, u, hp⟩ _
  have fals : ∀ k, k < l.length → (decide (0 ≤ l.getD k 0) && decide (l.getD k 0 < m.D.length) && (decide (k = 0) || decide (l.getD (k - 1) 0 < l.getD k 0))) = false → devsZ m l = false := fun k hk hf => by
    unfold devsZ
    rw [List.all_eq_false]
    exact ⟨k, by simpa using hk, by simp only [hf]; simp⟩
  refine If_d (fun hlt => ?_) (fun hlt => ?_)
  · have hk' : k < l.length := by omega
    have hd : l.getD k 0 = l[k] := by simp [hk']
    refine (h.below (u1.on u)).int rfl (List.getElem?_eq_getElem hk') ?_
    refine If_d (fun h0 => ⟨u1.on u, (fals k hk' (by rw [hd]; grind)).symm⟩) (fun h0 => ?_)
    refine (c1.below u).ld (x := m.p.devices) rfl ?_
    rw [hD]
    refine If_d (fun h1 => ⟨u1.on u, (fals k hk' (by rw [hd]; grind)).symm⟩) (fun h1 => ?_)
    rw [wz1 (by omega) hmax]
    refine If_d (fun h2 => ?_) (fun h2 => ?_)
    · have hw : IntKind.wrap .i64 ((k : Int) - 1) = ((k - 1 : Nat) : Int) := by
        unfold maxLen at hmax
        rw [wz_id (by omega) (by omega)]; omega
      rw [hw]
      have hk2 : k - 1 < l.length := by omega
      have hd2 : l.getD (k - 1) 0 = l[k - 1] := by simp [hk2]
      refine (h.below (u1.on u)).int rfl (List.getElem?_eq_getElem hk2) ?_
      refine If_d (fun h3 => ⟨u1.on u, (fals k hk' (by rw [hd, hd2]; grind)).symm⟩) (fun h3 => ?_)
      refine ⟨⟨k + 1, rfl, hk', u, fun j hj => ?_⟩, by simp; omega⟩
      rcases Nat.lt_or_ge j k with hjk | hjk
      · exact hp j hjk
      · obtain rfl : j = k := by omega
        rw [hd, hd2]; grind
    · refine ⟨⟨k + 1, rfl, hk', u, fun j hj => ?_⟩, by simp; omega⟩
      rcases Nat.lt_or_ge j k with hjk | hjk
      · exact hp j hjk
      · obtain rfl : j = k := by omega
        rw [hd]; grind
  · have : k = l.length := by omega
    subst this
    exact ⟨u1.on u, by
      unfold devsZ
      rw [eq_comm, List.all_eq_true]
      exact fun j hj => hp j (by simpa using hj)⟩
def checkZ (m : Mach) (x : ATask) : Int :=
  if x.t.period < 1 ∨ x.t.period > m.p.horizon ∨ x.t.cycles < 1 ∨ x.t.cycles > 4096 ∨ (x.sec.length : Int) > m.p.sems ∨ (x.sec.any (fun n => decide (n < 0) || decide (n > x.t.cycles))) = true ∨ devsZ m x.devs = false then 3 else 0
theorem check_spec {o : Own} {w : World} (m : Mach) (x : ATask) (hm : MachR o w m) (h : TaskR o w x) : Call P 93 [m.p.v, x.t.v] [sI] (fun r w' => Below w.heap.size w w' ∧ r = checkZ m x) w := by
  refine f93_of _ _ (New_of fun b w1 c1 u1 => New_of fun b2 w2 c2 u2 => ?_)
  have c1 := c1.below u2
  have u := u1.on u2
  refine c2.ld (x := x.t.period) rfl (If_d (fun h0 => ⟨u, (if_pos (by grind)).symm⟩) fun h0 => ?_)
  refine c2.ld (x := x.t.period) rfl (c1.ld (x := m.p.horizon) rfl (If_d (fun h1 => ⟨u, (if_pos (by grind)).symm⟩) fun h1 => ?_))
  refine c2.ld (x := x.t.cycles) rfl (If_d (fun h2 => ⟨u, (if_pos (by grind)).symm⟩) fun h2 => ?_)
  refine c2.ld (x := x.t.cycles) rfl ?_
  refine If_d (fun h3 => ?_) fun h3 => ?_
  · exact ⟨u, by rw [checkZ, if_pos]; grind⟩
  refine c2.ld (x := x.t.sec) rfl (c1.ld (x := m.p.sems) rfl ?_)
  have hs := h.sec.n
  rw [hs]
  refine If_d (fun h4 => ⟨u, (if_pos (by grind)).symm⟩) fun h4 => ?_
  refine c2.ld (x := x.t.sec) rfl ?_
  have hc := containsOdd_spec x.t.sec x.sec (h.sec.below u) c2 (cyc := x.t.cycles) rfl
  refine hc.imp1 ?_
  rintro r w3 ⟨u3, rfl⟩
  refine If_b (fun h5 => ⟨u.on u3, (if_pos (by grind)).symm⟩) fun h5 => ?_
  refine (c1.below u3).ldPlat (x := m.p) ((c2.below u3).ld (x := x.t.devs) rfl ?_)
  refine (devices_spec m x.t.devs x.devs (hm.below (u.on u3)) (h.devs.below (u.on u3))).imp1 ?_
  rintro r w4 ⟨u4, rfl⟩
  refine If_not (If_b (fun h6 => ⟨(u.on u3).on u4, ?_⟩) fun h6 => ⟨(u.on u3).on u4, (if_pos (by grind)).symm⟩)
  rw [checkZ, if_neg]
  grind
end Go.Proofs.YtajilfnceoeaiaaGreat.V
