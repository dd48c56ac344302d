/- The law StatsParts, its walk: where Table and near answer, it answers true. Region 1's rows (every order of four literals and four appends) are from the kit's print.py, turned; the rest by hand. -/
import Derived.Test.YtfimgecceneagaaPAllf11
import Derived.Test.YtfimgecceneagaaPAllf20
import Derived.Test.YtfimgecceneagaaPAllf21
import Derived.Test.YtfimgecceneagaaStPts
import Derived.Test.YtfimgecceneagaaCFour
namespace Go.Proofs.Ytfimgecceneagaa.PAll
open Go.RowKit Go.Proofs.YtfimgecceneagaaW.PrintWords Go.Proofs.YtfimgecceneagaaW.PrintLast Go.Proofs.Ytfimgecceneagaa.Arr Go.Proofs.Ytfimgecceneagaa.Wp
set_option linter.unusedVariables false
set_option linter.unusedSimpArgs false
attribute [local go_sem high] eqA49
def stp.T1 : Bool × List (List Nat × List Nat) := (true, [([], []), ([], []), ([0, 1], [0, 1]), ([], []), ([3], [3]), ([2, 4, 2], [2, 4]), ([], []), ([], []), ([6, 7, 5], [6, 7]), ([], []), ([9], [9]), ([8, 10, 8], [8, 10]), ([5, 11, 0, 1, 2, 3, 4, 5], [5]), ([11, 12, 0, 1, 2, 3, 4, 5, 6, 7, 8, 9, 10, 11, 12], [11])])
def stp.B1 : List Nat := [0, 0, 3, 0, 8, 31, 0, 0, 255, 0, 512, 2047, 4095, 8191]
theorem stp.tab1 : rtab .any (opsOf Try.f10 1) = stp.T1 := by kernel_rfl
theorem stp.bits1 : waitsOk stp.T1.2 stp.B1 = true := by kernel_rfl
def stp.T4 : Bool × List (List Nat × List Nat) := (true, [([], []), ([], []), ([], []), ([0, 1, 2], [0, 1, 2]), ([], []), ([], []), ([], []), ([4, 5, 6, 3], [4, 5, 6]), ([], []), ([], []), ([8, 3, 7, 0, 1, 2, 3, 8, 9], [3, 8]), ([9, 7, 10, 0, 1, 2, 3, 4, 5, 6, 7, 8, 9, 10], [7, 9])])
def stp.B4 : List Nat := [0, 0, 0, 7, 0, 0, 0, 127, 0, 0, 1023, 2047]
theorem stp.tab4 : rtab .any (opsOf Try.f10 4) = stp.T4 := by kernel_rfl
theorem stp.bits4 : waitsOk stp.T4.2 stp.B4 = true := by kernel_rfl
def stp.T8 : Bool × List (List Nat × List Nat) := (true, [([], []), ([], []), ([1], [1]), ([0, 2], [0, 2]), ([3], [3]), ([4], [4]), ([4], [4]), ([6, 4], [4, 6]), ([5, 7, 4], [4, 5, 7]), ([4, 8], [4, 8]), ([9, 4], [9]), ([10], [10]), ([11, 10], [10, 11]), ([12, 10], [10, 12]), ([10], [10]), ([14, 10], [10, 14]), ([15, 10], [10, 15]), ([13, 16, 10], [10, 13, 16]), ([10, 17], [10, 17])])
def stp.B8 : List Nat := [0, 0, 2, 7, 15, 31, 31, 95, 255, 511, 1023, 2047, 4095, 8191, 2047, 18431, 51199, 131071, 262143]
theorem stp.tab8 : rtab .any (opsOf Try.f10 8) = stp.T8 := by kernel_rfl
theorem stp.bits8 : waitsOk stp.T8.2 stp.B8 = true := by kernel_rfl
theorem zA10 {α : Type _} (l : List α) (i : Nat) (a : α) : l.toArray.setIfInBounds i a = (l.set i a).toArray := List.setIfInBounds_toArray l i a
theorem zB10 {α : Type _} (x : α) (xs : List α) (a : α) : (x :: xs).set 0 a = a :: xs := rfl
theorem zC10 {α : Type _} (x : α) (xs : List α) (n : Nat) (a : α) : (x :: xs).set (n + 1) a = x :: xs.set n a := rfl
abbrev q10_0 : Array Bool := #[true, true, true, true, true, true, true, true, true, true, true, false, false, false]
abbrev q10_1 : Array Bool := #[true, true, true, true, true, true, true, true, true, true, false, false, false, false]
abbrev q10_2 : Array Bool := #[true, true, true, true, true, true, true, true, false, true, true, false, false, false]
abbrev q10_3 : Array Bool := #[true, true, true, true, true, true, true, true, false, true, false, false, false, false]
abbrev q10_4 : Array Bool := #[true, true, true, true, true, true, false, true, false, true, true, false, false, false]
abbrev q10_5 : Array Bool := #[true, true, true, true, true, false, true, true, false, true, true, false, false, false]
abbrev q10_6 : Array Bool := #[true, true, true, true, true, true, false, true, false, true, false, false, false, false]
abbrev q10_7 : Array Bool := #[true, true, true, true, true, false, true, true, false, true, false, false, false, false]
abbrev q10_8 : Array Bool := #[true, true, true, true, true, false, false, true, false, true, true, false, false, false]
abbrev q10_9 : Array Bool := #[true, true, true, true, false, false, true, true, false, true, true, false, false, false]
abbrev q10_10 : Array Bool := #[true, true, false, true, true, false, true, true, false, true, true, false, false, false]
abbrev q10_11 : Array Bool := #[true, true, true, true, true, false, false, true, false, true, false, false, false, false]
abbrev q10_12 : Array Bool := #[true, true, true, true, false, false, true, true, false, true, false, false, false, false]
abbrev q10_13 : Array Bool := #[true, true, true, true, false, false, false, true, false, true, true, false, false, false]
abbrev q10_14 : Array Bool := #[true, true, false, true, true, false, true, true, false, true, false, false, false, false]
abbrev q10_15 : Array Bool := #[true, true, false, true, true, false, false, true, false, true, true, false, false, false]
abbrev q10_16 : Array Bool := #[true, true, false, true, false, false, true, true, false, true, true, false, false, false]
abbrev q10_17 : Array Bool := #[false, true, false, true, true, false, true, true, false, true, true, false, false, false]
abbrev q10_18 : Array Bool := #[true, true, true, true, false, false, false, true, false, true, false, false, false, false]
abbrev q10_19 : Array Bool := #[true, true, false, true, true, false, false, true, false, true, false, false, false, false]
abbrev q10_20 : Array Bool := #[true, true, false, true, false, false, true, true, false, true, false, false, false, false]
abbrev q10_21 : Array Bool := #[true, true, false, true, false, false, false, true, false, true, true, false, false, false]
abbrev q10_22 : Array Bool := #[false, true, false, true, true, false, true, true, false, true, false, false, false, false]
abbrev q10_23 : Array Bool := #[false, true, false, true, true, false, false, true, false, true, true, false, false, false]
abbrev q10_24 : Array Bool := #[false, true, false, true, false, false, true, true, false, true, true, false, false, false]
abbrev q10_25 : Array Bool := #[true, true, false, true, false, false, false, true, false, true, false, false, false, false]
abbrev q10_26 : Array Bool := #[false, true, false, true, true, false, false, true, false, true, false, false, false, false]
abbrev q10_27 : Array Bool := #[false, true, false, true, false, false, true, true, false, true, false, false, false, false]
abbrev q10_28 : Array Bool := #[false, true, false, true, false, false, false, true, false, true, true, false, false, false]
abbrev q10_29 : Array Bool := #[true, true, true, true, true, true, true, true, true, true, false, false]
abbrev q10_30 : Array Bool := #[true, true, true, true, true, true, true, true, true, false, false, false]
abbrev q10_31 : Array Bool := #[true, true, true, true, true, true, true, true, false, true, false, false]
abbrev q10_32 : Array Bool := #[true, true, true, true, true, true, true, false, true, true, false, false]
abbrev q10_33 : Array Bool := #[true, true, true, true, true, true, true, true, false, false, false, false]
abbrev q10_34 : Array Bool := #[true, true, true, true, true, true, true, false, true, false, false, false]
abbrev q10_35 : Array Bool := #[true, true, true, true, true, true, true, false, false, true, false, false]
abbrev q10_36 : Array Bool := #[true, true, true, false, true, true, true, false, true, true, false, false]
abbrev q10_37 : Array Bool := #[true, true, true, true, true, true, true, false, false, false, false, false]
abbrev q10_38 : Array Bool := #[true, true, true, false, true, true, true, false, true, false, false, false]
abbrev q10_39 : Array Bool := #[true, true, true, false, true, true, true, false, false, true, false, false]
abbrev q10_40 : Array Bool := #[false, false, false, false, false, false, false, false, false, false, false, false, false, false, false, false, false, false, false]
abbrev q10_41 : Array Bool := #[true, false, false, false, false, false, false, false, false, false, false, false, false, false, false, false, false, false, false]
abbrev q10_42 : Array Bool := #[true, true, false, false, false, false, false, false, false, false, false, false, false, false, false, false, false, false, false]
abbrev q10_43 : Array Bool := #[true, true, true, false, false, false, false, false, false, false, false, false, false, false, false, false, false, false, false]
abbrev q10_44 : Array Bool := #[true, true, true, true, false, false, false, false, false, false, false, false, false, false, false, false, false, false, false]
abbrev q10_45 : Array Bool := #[true, true, true, true, true, false, false, false, false, false, false, false, false, false, false, false, false, false, false]
abbrev q10_46 : Array Bool := #[true, true, true, true, true, true, false, false, false, false, false, false, false, false, false, false, false, false, false]
abbrev q10_47 : Array Bool := #[true, true, true, true, true, true, true, false, false, false, false, false, false, false, false, false, false, false, false]
abbrev q10_48 : Array Bool := #[true, true, true, true, true, true, true, true, false, false, false, false, false, false, false, false, false, false, false]
abbrev q10_49 : Array Bool := #[true, true, true, true, true, true, true, true, true, false, false, false, false, false, false, false, false, false, false]
abbrev q10_50 : Array Bool := #[true, true, true, true, true, true, true, true, true, true, false, false, false, false, false, false, false, false, false]
abbrev q10_51 : Array Bool := #[true, true, true, true, true, true, true, true, true, true, true, false, false, false, false, false, false, false, false]
abbrev q10_52 : Array Bool := #[true, true, true, true, true, true, true, true, true, true, true, true, false, false, false, false, false, false, false]
abbrev q10_53 : Array Bool := #[true, true, true, true, true, true, true, true, true, true, true, true, true, false, false, false, false, false, false]
abbrev q10_54 : Array Bool := #[true, true, true, true, true, true, true, true, true, true, true, true, true, true, false, false, false, false, false]
abbrev q10_55 : Array Bool := #[true, true, true, true, true, true, true, true, true, true, true, true, true, true, true, false, false, false, false]
abbrev q10_56 : Array Bool := #[true, true, true, true, true, true, true, true, true, true, true, true, true, true, true, true, false, false, false]
abbrev q10_57 : Array Bool := #[true, true, true, true, true, true, true, true, true, true, true, true, true, true, true, true, true, false, false]
abbrev q10_58 : Array Bool := #[true, true, true, true, true, true, true, true, true, true, true, true, true, true, true, true, true, true, false]
abbrev q10_59 : Array Bool := #[true, true, true, true, true, true, true, true, true, true, true, true, true, true, true, true, true, true, true]
theorem info28 : (Try.prog.info? 28).map (fun i => (i.zero, i.size, i.bytes)) = some (some (.agg #[(.int .i64 0), (.int .i64 0), (.int .i64 0), (.int .i64 0), (.int .i64 0), (.int .i64 0)]), 6, 48) := by kernel_rfl
theorem info63 : (Try.prog.info? 63).map (fun i => (i.zero, i.size, i.bytes)) = some (some (.agg #[(.int .i64 0), (.int .i64 0), (.int .i64 0), (.int .i64 0)]), 4, 32) := by kernel_rfl
theorem run_st36 {oi : Oper} {a : Act} {w : World} {x y : Operand} (ho : oi.op = .store 50 x y) (b : Nat) (cells : Array Value) (hx : a.eval x = .pointer (some ⟨b, 0, none⟩)) (hy : a.eval y = .agg cells)
    (ht : w.there b 0 cells.size) (hi : (Try.prog.info? 50).map (·.size) = some cells.size) (h1 : cells.all (·.oneCell') = true) : (execOp a.eval oi).run Try.prog w = .ok .skip (w.setCells b 0 cells.toList) := by
  unfold execOp
  simp only [ho, hx, hy, Instr.storeAt, Instr.sureAddr, Sem.run_bind, Sem.run_pure, Result.andThen_ok, run_storeVar_mid w b 0 50 cells ht hi h1]
def dormouselaw26_StatsParts.f (k : Nat) (l0_0 : List (S66)) (l0_1 : List (S69)) (l0_2 : List (S72)) (a0_3 : Int) (a0_4 : Int) (a0_5 : Int) (a0_6 : Int) (a0_7 : Int) (a0_8 : Int) (l1 : List (S28)) (l2 : List (S63)) (a3_0 : Int) (a3_1 : Int) (a3_2 : Int) (a3_3 : Int) (a4_0 : Int) (a4_1 : Int) (a4_2 : Int) (a4_3 : Int) (a4_4 : Int) (a4_5 : Int) : Option (Bool) := if l1.length + 1 < 2932031007402 then (if l2.length + 1 < 4398046511104 then (dormouseref01_Table.f k l0_0 l0_1 l0_2 a0_3 a0_4 a0_5 a0_6 a0_7 a0_8).bind fun t => (dormouselaw26_near.f k (l1 ++ [(⟨a4_0, a4_1, a4_2, a4_3, a4_4, a4_5⟩ : S28)]) (l2 ++ [(⟨a3_0, a3_1, a3_2, a3_3⟩ : S63)])).bind fun b => if b = true then (if l1.length + 1 ≤ 4096 then (if l2.length + 1 ≤ 4096 then some true else none) else none) else some true else none) else none
set_option maxHeartbeats 40000000 in
set_option maxRecDepth 100000 in
theorem dormouselaw26_StatsParts.calls (k : Nat) (A0_0 : Option Addr) (c0_0 : Nat) (l0_0 : List (S66)) (A0_1 : Option Addr) (c0_1 : Nat) (l0_1 : List (S69)) (A0_2 : Option Addr) (c0_2 : Nat) (l0_2 : List (S72)) (a0_3 : Int) (a0_4 : Int) (a0_5 : Int) (a0_6 : Int) (a0_7 : Int) (a0_8 : Int) (A1 : Option Addr) (c1 : Nat) (l1 : List (S28)) (A2 : Option Addr) (c2 : Nat) (l2 : List (S63)) (a3_0 : Int) (a3_1 : Int) (a3_2 : Int) (a3_3 : Int) (a4_0 : Int) (a4_1 : Int) (a4_2 : Int) (a4_3 : Int) (a4_4 : Int) (a4_5 : Int) (w : World) (hr0_0 : Kd.C k66 w A0_0 l0_0.length l0_0) (hc0_0 : l0_0.length ≤ c0_0) (hr0_1 : Kd.C k69 w A0_1 l0_1.length l0_1) (hc0_1 : l0_1.length ≤ c0_1) (hr0_2 : Kd.C k72 w A0_2 l0_2.length l0_2) (hc0_2 : l0_2.length ≤ c0_2) (hr1 : Kd.C k28 w A1 l1.length l1) (hc1 : l1.length ≤ c1) (hr2 : Kd.C k63 w A2 l2.length l2) (hc2 : l2.length ≤ c2) (h : dormouselaw26_StatsParts.f k l0_0 l0_1 l0_2 a0_3 a0_4 a0_5 a0_6 a0_7 a0_8 l1 l2 a3_0 a3_1 a3_2 a3_3 a4_0 a4_1 a4_2 a4_3 a4_4 a4_5 = some true) :
    Calls Try.prog 10 #[.agg #[.slice A0_0 l0_0.length c0_0, .slice A0_1 l0_1.length c0_1, .slice A0_2 l0_2.length c0_2, .int .i64 a0_3, .int .i64 a0_4, .int .i64 a0_5, .int .i64 a0_6, .int .i64 a0_7, .int .i64 a0_8], .slice A1 l1.length c1, .slice A2 l2.length c2, .agg #[.int .i64 a3_0, .int .i64 a3_1, .int .i64 a3_2, .int .i64 a3_3], .agg #[.int .i64 a4_0, .int .i64 a4_1, .int .i64 a4_2, .int .i64 a4_3, .int .i64 a4_4, .int .i64 a4_5]] w fun e w' => e = .returned (.bool true) ∧ Below w.heap.size w w' := by
  have hu26 := Try.underlying26
  have hu28 := Try.underlying28
  have hu63 := Try.underlying63
  have hu50 := Try.underlying50
  have hu49 := Try.underlying49
  have HR0_0 := Aside0.mk hr0_0
  have HC0_0 := Aside0.mk hc0_0
  have HR0_1 := Aside0.mk hr0_1
  have HC0_1 := Aside0.mk hc0_1
  have HR0_2 := Aside0.mk hr0_2
  have HC0_2 := Aside0.mk hc0_2
  have HR1 := Aside0.mk hr1
  have HC1 := Aside0.mk hc1
  have HR2 := Aside0.mk hr2
  have HC2 := Aside0.mk hc2
  clear hr0_0 hc0_0 hr0_1 hc0_1 hr0_2 hc0_2 hr1 hc1 hr2 hc2
  have HB := Aside0.mk (Below.refl w.heap.size w)
  unfold dormouselaw26_StatsParts.f at h
  by_cases ga : l1.length + 1 < 2932031007402
  case neg => rw [if_neg ga] at h; cases h
  rw [if_pos ga] at h
  by_cases gb : l2.length + 1 < 4398046511104
  case neg => rw [if_neg gb] at h; cases h
  rw [if_pos gb] at h
  obtain ⟨t, AT0, h⟩ := Option.bind_eq_some_iff.mp h
  obtain ⟨b, AN0, h⟩ := Option.bind_eq_some_iff.mp h
  have AT := Aside0.mk AT0
  have hx := Aside0.mk h
  clear h AT0
  obtain ⟨y210, Ny210⟩ : ∃ y : List S28, Aside0 (y = ([] : List S28)) := ⟨_, ⟨rfl⟩⟩
  obtain ⟨y213, Ny213⟩ : ∃ y : List S28, Aside0 (y = y210 ++ l1) := ⟨_, ⟨rfl⟩⟩
  obtain ⟨y216, Ny216⟩ : ∃ y : List S28, Aside0 (y = ([(⟨a4_0, a4_1, a4_2, a4_3, a4_4, a4_5⟩ : S28)] : List S28)) := ⟨_, ⟨rfl⟩⟩
  obtain ⟨y219, Ny219⟩ : ∃ y : List S28, Aside0 (y = y213 ++ y216) := ⟨_, ⟨rfl⟩⟩
  obtain ⟨y222, Ny222⟩ : ∃ y : List S63, Aside0 (y = ([] : List S63)) := ⟨_, ⟨rfl⟩⟩
  obtain ⟨y225, Ny225⟩ : ∃ y : List S63, Aside0 (y = y222 ++ l2) := ⟨_, ⟨rfl⟩⟩
  obtain ⟨y228, Ny228⟩ : ∃ y : List S63, Aside0 (y = ([(⟨a3_0, a3_1, a3_2, a3_3⟩ : S63)] : List S63)) := ⟨_, ⟨rfl⟩⟩
  obtain ⟨y231, Ny231⟩ : ∃ y : List S63, Aside0 (y = y225 ++ y228) := ⟨_, ⟨rfl⟩⟩
  have Ya : Aside0 (y219 = l1 ++ [(⟨a4_0, a4_1, a4_2, a4_3, a4_4, a4_5⟩ : S28)]) := ⟨by rw [Ny219.out, Ny213.out, Ny216.out, Ny210.out, List.nil_append]⟩
  have Yb : Aside0 (y231 = l2 ++ [(⟨a3_0, a3_1, a3_2, a3_3⟩ : S63)]) := ⟨by rw [Ny231.out, Ny225.out, Ny228.out, Ny222.out, List.nil_append]⟩
  have LMc6 : Aside0 (y210.length + l1.length < 2932031007402) := ⟨by rw [Ny210.out, List.length_nil]; omega⟩
  have LMc7 : Aside0 (y213.length + y216.length < 2932031007402) := ⟨by rw [Ny213.out, Ny216.out, Ny210.out, List.nil_append]; exact ga⟩
  have LMc8 : Aside0 (y222.length + l2.length < 4398046511104) := ⟨by rw [Ny222.out, List.length_nil]; omega⟩
  have LMc9 : Aside0 (y225.length + y228.length < 4398046511104) := ⟨by rw [Ny225.out, Ny228.out, Ny222.out, List.nil_append]; exact gb⟩
  have AN : Aside0 (dormouselaw26_near.f k y219 y231 = some b) := ⟨by rw [Ya.out, Yb.out]; exact AN0⟩
  have La : Aside0 (y219.length = l1.length + 1) := ⟨by rw [Ya.out, List.length_append]; rfl⟩
  have Lb : Aside0 (y231.length = l2.length + 1) := ⟨by rw [Yb.out, List.length_append]; rfl⟩
  clear AN0 ga gb
  go_enter Try.func10, Try.ntmps10
  try go_wp2_with (first | ((with_reducible refine gate_dst (N := 5) rfl ?_); refine box_event ?hg (N := 5) ?hd (cs := #[.slice A0_0 l0_0.length c0_0, .slice A0_1 l0_1.length c0_1, .slice A0_2 l0_2.length c0_2, .int .i64 a0_3, .int .i64 a0_4, .int .i64 a0_5, .int .i64 a0_6, .int .i64 a0_7, .int .i64 a0_8]) (t := 26) ?hr ?_; (case hd => rfl); (case hg => rfl); (case hr => first | (go_simp; done) | (go_simp; rfl)); intro gp hg w11 hbox hb; have n0_ := Aside0.mk (below_step HB.out hb); have n1_ := Aside0.mk (hbox); have n2_ := Aside0.mk ((by rw [hg]; exact (below_size HB.out) : w.heap.size ≤ gp)); have n3_ := Aside0.mk ((by rw [hg]; exact (below_size HB.out) : w.heap.size ≤ gp)); clear HB; have HB := n0_; have BKp := n1_; have GW207 := n2_; have GE207 := n3_; clear n0_ n1_ n2_ n3_; clear hb hbox hg) | ((with_reducible refine gate_dst (N := 8) rfl ?_); refine box_event ?hg (N := 8) ?hd (cs := #[.int .i64 a3_0, .int .i64 a3_1, .int .i64 a3_2, .int .i64 a3_3]) (t := 63) ?hr ?_; (case hd => rfl); (case hg => rfl); (case hr => first | (go_simp; done) | (go_simp; rfl)); intro gx hg w12 hbox hb; have n0_ := Aside0.mk (blk_below (g := gp) (o := .cells #[.slice A0_0 l0_0.length c0_0, .slice A0_1 l0_1.length c0_1, .slice A0_2 l0_2.length c0_2, .int .i64 a0_3, .int .i64 a0_4, .int .i64 a0_5, .int .i64 a0_6, .int .i64 a0_7, .int .i64 a0_8] 26 (0, 0)) BKp.out hb); have n1_ := Aside0.mk (below_step HB.out hb); have n2_ := Aside0.mk (hbox); have n3_ := Aside0.mk ((by rw [hg]; exact (below_size HB.out) : w.heap.size ≤ gx)); have n4_ := Aside0.mk ((by rw [hg]; exact (below_size HB.out) : w.heap.size ≤ gx)); have n5_ := Aside0.mk ((by rw [hg]; exact Nat.ne_of_lt (blk_lt (g := gp) (o := .cells #[.slice A0_0 l0_0.length c0_0, .slice A0_1 l0_1.length c0_1, .slice A0_2 l0_2.length c0_2, .int .i64 a0_3, .int .i64 a0_4, .int .i64 a0_5, .int .i64 a0_6, .int .i64 a0_7, .int .i64 a0_8] 26 (0, 0)) BKp.out) : gp ≠ gx)); have n6_ := Aside0.mk ((by rw [hg]; exact Nat.ne_of_gt (blk_lt (g := gp) (o := .cells #[.slice A0_0 l0_0.length c0_0, .slice A0_1 l0_1.length c0_1, .slice A0_2 l0_2.length c0_2, .int .i64 a0_3, .int .i64 a0_4, .int .i64 a0_5, .int .i64 a0_6, .int .i64 a0_7, .int .i64 a0_8] 26 (0, 0)) BKp.out) : gx ≠ gp)); clear BKp; clear HB; have BKp := n0_; have HB := n1_; have BKx := n2_; have GW208 := n3_; have GE208 := n4_; have NB207_208 := n5_; have NB208_207 := n6_; clear n0_ n1_ n2_ n3_ n4_ n5_ n6_; clear hb hbox hg) | ((with_reducible refine gate_dst (N := 9) rfl ?_); refine box_event ?hg (N := 9) ?hd (cs := #[.int .i64 a4_0, .int .i64 a4_1, .int .i64 a4_2, .int .i64 a4_3, .int .i64 a4_4, .int .i64 a4_5]) (t := 28) ?hr ?_; (case hd => rfl); (case hg => rfl); (case hr => first | (go_simp; done) | (go_simp; rfl)); intro gi hg w13 hbox hb; have n0_ := Aside0.mk (blk_below (g := gp) (o := .cells #[.slice A0_0 l0_0.length c0_0, .slice A0_1 l0_1.length c0_1, .slice A0_2 l0_2.length c0_2, .int .i64 a0_3, .int .i64 a0_4, .int .i64 a0_5, .int .i64 a0_6, .int .i64 a0_7, .int .i64 a0_8] 26 (0, 0)) BKp.out hb); have n1_ := Aside0.mk (blk_below (g := gx) (o := .cells #[.int .i64 a3_0, .int .i64 a3_1, .int .i64 a3_2, .int .i64 a3_3] 63 (0, 0)) BKx.out hb); have n2_ := Aside0.mk (below_step HB.out hb); have n3_ := Aside0.mk (hbox); have n4_ := Aside0.mk ((by rw [hg]; exact (below_size HB.out) : w.heap.size ≤ gi)); have n5_ := Aside0.mk ((by rw [hg]; exact (below_size HB.out) : w.heap.size ≤ gi)); have n6_ := Aside0.mk ((by rw [hg]; exact Nat.ne_of_lt (blk_lt (g := gp) (o := .cells #[.slice A0_0 l0_0.length c0_0, .slice A0_1 l0_1.length c0_1, .slice A0_2 l0_2.length c0_2, .int .i64 a0_3, .int .i64 a0_4, .int .i64 a0_5, .int .i64 a0_6, .int .i64 a0_7, .int .i64 a0_8] 26 (0, 0)) BKp.out) : gp ≠ gi)); have n7_ := Aside0.mk ((by rw [hg]; exact Nat.ne_of_gt (blk_lt (g := gp) (o := .cells #[.slice A0_0 l0_0.length c0_0, .slice A0_1 l0_1.length c0_1, .slice A0_2 l0_2.length c0_2, .int .i64 a0_3, .int .i64 a0_4, .int .i64 a0_5, .int .i64 a0_6, .int .i64 a0_7, .int .i64 a0_8] 26 (0, 0)) BKp.out) : gi ≠ gp)); have n8_ := Aside0.mk ((by rw [hg]; exact Nat.ne_of_lt (blk_lt (g := gx) (o := .cells #[.int .i64 a3_0, .int .i64 a3_1, .int .i64 a3_2, .int .i64 a3_3] 63 (0, 0)) BKx.out) : gx ≠ gi)); have n9_ := Aside0.mk ((by rw [hg]; exact Nat.ne_of_gt (blk_lt (g := gx) (o := .cells #[.int .i64 a3_0, .int .i64 a3_1, .int .i64 a3_2, .int .i64 a3_3] 63 (0, 0)) BKx.out) : gi ≠ gx)); clear BKp; clear BKx; clear HB; have BKp := n0_; have BKx := n1_; have HB := n2_; have BKi := n3_; have GW209 := n4_; have GE209 := n5_; have NB207_209 := n6_; have NB209_207 := n7_; have NB208_209 := n8_; have NB209_208 := n9_; clear n0_ n1_ n2_ n3_ n4_ n5_ n6_ n7_ n8_ n9_; clear hb hbox hg))
  have n0_ := Aside0.mk (blk_drew BKp.out)
  have n1_ := Aside0.mk (blk_drew BKx.out)
  have n2_ := Aside0.mk (blk_drew BKi.out)
  have n3_ := Aside0.mk (below_drew1 HB.out)
  clear BKp BKx BKi HB
  have BKp := n0_; have BKx := n1_; have BKi := n2_; have HB := n3_
  clear n0_ n1_ n2_ n3_
  obtain ⟨cs7, hcs7⟩ : ∃ cs : Array Value, Aside0 (cs = #[.slice A0_0 l0_0.length c0_0, .slice A0_1 l0_1.length c0_1, .slice A0_2 l0_2.length c0_2, .int .i64 a0_3, .int .i64 a0_4, .int .i64 a0_5, .int .i64 a0_6, .int .i64 a0_7, .int .i64 a0_8]) := ⟨_, ⟨rfl⟩⟩
  obtain ⟨cs8, hcs8⟩ : ∃ cs : Array Value, Aside0 (cs = #[.int .i64 a3_0, .int .i64 a3_1, .int .i64 a3_2, .int .i64 a3_3]) := ⟨_, ⟨rfl⟩⟩
  obtain ⟨cs9, hcs9⟩ : ∃ cs : Array Value, Aside0 (cs = #[.int .i64 a4_0, .int .i64 a4_1, .int .i64 a4_2, .int .i64 a4_3, .int .i64 a4_4, .int .i64 a4_5]) := ⟨_, ⟨rfl⟩⟩
  obtain ⟨S0, hS0, hS1⟩ : ∃ S0 : World → Prop, (∀ w', w'.heap[gx]? = some (.cells cs8 63 (0, 0)) → w'.heap[gi]? = some (.cells cs9 28 (0, 0)) → S0 w') ∧ (∀ w', S0 w' → (w'.cell? ⟨gi, 0, none⟩ = some (.int .i64 a4_0) ∧ w'.cell? ⟨gi, 1, none⟩ = some (.int .i64 a4_1) ∧ w'.cell? ⟨gi, 2, none⟩ = some (.int .i64 a4_2) ∧ w'.cell? ⟨gi, 3, none⟩ = some (.int .i64 a4_3) ∧ w'.cell? ⟨gi, 4, none⟩ = some (.int .i64 a4_4) ∧ w'.cell? ⟨gi, 5, none⟩ = some (.int .i64 a4_5) ∧ w'.cell? ⟨gx, 0, none⟩ = some (.int .i64 a3_0) ∧ w'.cell? ⟨gx, 1, none⟩ = some (.int .i64 a3_1) ∧ w'.cell? ⟨gx, 2, none⟩ = some (.int .i64 a3_2) ∧ w'.cell? ⟨gx, 3, none⟩ = some (.int .i64 a3_3))) := by
    refine ⟨fun w' => w'.heap[gx]? = some (.cells cs8 63 (0, 0)) ∧ w'.heap[gi]? = some (.cells cs9 28 (0, 0)), fun _ h1 h2 => ⟨h1, h2⟩, ?_⟩
    rintro w' ⟨h1, h2⟩
    rw [hcs8.out] at h1
    rw [hcs9.out] at h2
    exact ⟨(blk_cell h2 0).trans rfl, (blk_cell h2 1).trans rfl, (blk_cell h2 2).trans rfl, (blk_cell h2 3).trans rfl, (blk_cell h2 4).trans rfl, (blk_cell h2 5).trans rfl, (blk_cell h1 0).trans rfl, (blk_cell h1 1).trans rfl, (blk_cell h1 2).trans rfl, (blk_cell h1 3).trans rfl⟩
  have n0_ : Aside0 (w13.drew.heap[gp]? = some (.cells cs7 26 (0, 0))) := ⟨by rw [hcs7.out]; exact BKp.out⟩
  have n1_ : Aside0 (w13.drew.heap[gx]? = some (.cells cs8 63 (0, 0))) := ⟨by rw [hcs8.out]; exact BKx.out⟩
  have n2_ : Aside0 (w13.drew.heap[gi]? = some (.cells cs9 28 (0, 0))) := ⟨by rw [hcs9.out]; exact BKi.out⟩
  clear BKp BKx BKi
  have BKp := n0_; have BKx := n1_; have BKi := n2_; clear n0_ n1_ n2_
  refine start_ (n := 14) (S := S0) (ds := []) #[false, false, false, false, false, false, false, false, false, false, false, false, false, false] (by kernel_rfl) rfl rfl (hS0 _ BKx.out BKi.out) (fun hHeld => ?_); refine with_tabW stp.tab1 stp.bits1 (fun HT_ HW_ => ?_)
  generalize w13.drew = w14 at BKp BKx BKi HB hHeld ⊢
  refine pure_ (i := 1) (N := some 17) (v := ?_) (a' := ?_) #[false, true, false, false, false, false, false, false, false, false, false, false, false, false] rfl rfl (any_of HT_.out (by kernel_rfl)) (fun _ _ _ h => h) (Or.inl ⟨by rfl, ?_⟩) ?_ ?_; rotate_left; (· (intro w'; go_simp; with_reducible rfl))
  rotate_left
  · simp only [Act.put, zA10, zB10, zC10, i64_w, i32_w]; rfl
  refine pure_ (i := 7) (N := some 23) (v := ?_) (a' := ?_) #[false, true, false, false, false, false, false, true, false, false, false, false, false, false] rfl rfl (any_of HT_.out (by kernel_rfl)) (fun _ _ _ h => h) (Or.inl ⟨by rfl, ?_⟩) ?_ ?_; rotate_left; (· (intro w'; go_simp; with_reducible rfl))
  rotate_left
  · simp only [Act.put, zA10, zB10, zC10, i64_w, i32_w]; rfl
  refine take_ (i := 3) (N := some 19) (v := ?_) (a' := ?_) #[false, true, false, true, false, false, false, true, false, false, false, false, false, false] rfl rfl (take_ofW HT_.out HW_.out (by kernel_rfl)) (fun _ _ _ h => h) (Or.inl ⟨by rfl, ?_⟩) hHeld ?_ ?_; rotate_left; (· (intro w' hS'; obtain ⟨s0, s1, s2, s3, s4, s5, s6, s7, s8, s9⟩ := hS1 w' hS'; go_simp; with_reducible rfl))
  rotate_left
  · simp only [Act.put, zA10, zB10, zC10, i64_w, i32_w]; rfl
  refine take_ (i := 9) (N := some 25) (v := ?_) (a' := ?_) #[false, true, false, true, false, false, false, true, false, true, false, false, false, false] rfl rfl (take_ofW HT_.out HW_.out (by kernel_rfl)) (fun _ _ _ h => h) (Or.inl ⟨by rfl, ?_⟩) hHeld ?_ ?_; rotate_left; (· (intro w' hS'; obtain ⟨s0, s1, s2, s3, s4, s5, s6, s7, s8, s9⟩ := hS1 w' hS'; go_simp; with_reducible rfl))
  rotate_left
  · simp only [Act.put, zA10, zB10, zC10, i64_w, i32_w]; rfl
  refine join_ (σ := Value × Value × Value × Value × Value × Value × Value) 3 q10_0 (fun s_ => [(16, s_.1), (18, s_.2.1), (20, s_.2.2.1), (21, s_.2.2.2.1), (22, s_.2.2.2.2.1), (24, s_.2.2.2.2.2.1), (26, s_.2.2.2.2.2.2)]) (fun s_ w' => S0 w' ∧ (Kd.R k28 28 w' w.heap.size (fun k_ => some k_ ≠ (s_.2.2.2.1 : Value).ownBlock ∧ k_ ≠ gi) s_.2.2.1 y216) ∧ (Kd.R k28 28 w' w.heap.size (fun k_ => some k_ ≠ (s_.2.2.1 : Value).ownBlock ∧ k_ ≠ gi) s_.2.2.2.1 y219) ∧ (Kd.R k63 63 w' w.heap.size (fun k_ => some k_ ≠ (s_.2.2.2.2.2.2 : Value).ownBlock ∧ k_ ≠ gx) s_.2.2.2.2.2.1 y225) ∧ (Kd.R k63 63 w' w.heap.size (fun k_ => some k_ ≠ (s_.2.2.2.2.2.1 : Value).ownBlock ∧ k_ ≠ gx) s_.2.2.2.2.2.2 y228) ∧ (w'.heap[gp]? = some (.cells cs7 26 (0, 0))) ∧ (w'.heap[gx]? = some (.cells cs8 63 (0, 0))) ∧ (w'.heap[gi]? = some (.cells cs9 28 (0, 0))) ∧ (Below w.heap.size w w')) ?_ ?_; rotate_left
  · intro hJ0_2_4_5_6_8_10
    refine join_ (σ := Value × Value × Value × Value × Value × Value) 4 q10_1 (fun s_ => [(16, s_.1), (18, s_.2.1), (20, s_.2.2.1), (21, s_.2.2.2.1), (22, s_.2.2.2.2.1), (24, s_.2.2.2.2.2)]) (fun s_ w' => S0 w' ∧ (Kd.R k28 28 w' w.heap.size (fun k_ => some k_ ≠ (s_.2.2.2.1 : Value).ownBlock ∧ k_ ≠ gi) s_.2.2.1 y216) ∧ (Kd.R k28 28 w' w.heap.size (fun k_ => some k_ ≠ (s_.2.2.1 : Value).ownBlock ∧ k_ ≠ gi) s_.2.2.2.1 y219) ∧ (Kd.R k63 63 w' w.heap.size (fun k_ => k_ ≠ gx) s_.2.2.2.2.2 y225) ∧ (w'.heap[gp]? = some (.cells cs7 26 (0, 0))) ∧ (w'.heap[gx]? = some (.cells cs8 63 (0, 0))) ∧ (w'.heap[gi]? = some (.cells cs9 28 (0, 0))) ∧ (Below w.heap.size w w')) ?_ ?_
    · skip
      rintro ⟨v211, v214, v217, v220, v223, v226⟩ w25 ⟨hS_, h0_, h1_, h2_, h3_, h4_, h5_, h6_⟩
      have n0_ : Aside0 (Kd.R k28 28 w25 w.heap.size (fun k_ => some k_ ≠ (v220 : Value).ownBlock ∧ k_ ≠ gi) v217 y216) := ⟨h0_⟩
      have n1_ : Aside0 (Kd.R k28 28 w25 w.heap.size (fun k_ => some k_ ≠ (v217 : Value).ownBlock ∧ k_ ≠ gi) v220 y219) := ⟨h1_⟩
      have n2_ : Aside0 (Kd.R k63 63 w25 w.heap.size (fun k_ => k_ ≠ gx) v226 y225) := ⟨h2_⟩
      have n3_ : Aside0 (w25.heap[gp]? = some (.cells cs7 26 (0, 0))) := ⟨h3_⟩
      have n4_ : Aside0 (w25.heap[gx]? = some (.cells cs8 63 (0, 0))) := ⟨h4_⟩
      have n5_ : Aside0 (w25.heap[gi]? = some (.cells cs9 28 (0, 0))) := ⟨h5_⟩
      have n6_ : Aside0 (Below w.heap.size w w25) := ⟨h6_⟩
      clear BKp BKx BKi HB h0_ h1_ h2_ h3_ h4_ h5_ h6_
      have HO218 := n0_; have HO221 := n1_; have HO227 := n2_; have BKp := n3_; have BKx := n4_; have BKi := n5_; have HB := n6_
      clear n0_ n1_ n2_ n3_ n4_ n5_ n6_
      have hHeld : S0 w25 := hS_
      refine norm_ (a' := ?_) ?_ ?_; rotate_left; (· (simp only [putAll, Act.put, zA10, zB10, zC10]; rfl))
      refine one_ (i := 10) (N := some 26) q10_0 rfl rfl (one_of HT_.out (by kernel_rfl)) (by decide) (fun K hK => ?_)
      refine Kd.R_lit_step k63 _ 63 ?hg (N := 26) ?hd (xs := ([(⟨a3_0, a3_1, a3_2, a3_3⟩ : S63)] : List (S63))) (inner := [.int .i64 a3_0, .int .i64 a3_1, .int .i64 a3_2, .int .i64 a3_3]) (ok := fun _ => True) (okp := fun _ => True) ?hr ?hp (fun _ hk => hk) trivial (Below.refl _ _) (Nat.le_refl _) (by simp) ?_; (case hd => rfl); (case hg => rfl); (case hr => first | (go_simp; done) | (go_simp; rfl)); (case hp => exact (Reps.c4 (show Kd.M k63 _ _ _ (⟨a3_0, a3_1, a3_2, a3_3⟩ : S63) [.int .i64 a3_0, .int .i64 a3_1, .int .i64 a3_2, .int .i64 a3_3] from (k63_mkM _ _ _ (⟨a3_0, a3_1, a3_2, a3_3⟩ : S63) )) (Reps.none _ _)))
      intro v229 w26 ho27 hb hg_ hnew_
      clear hg_ hnew_
      (first | rw [← Ny228.out] at ho27 | (simp only [Int.reduceToNat] at ho27; rw [← Ny228.out] at ho27))
      have n0_ := Aside0.mk (Kd.R_below HO218.out hb)
      have n1_ := Aside0.mk (Kd.R_below HO221.out hb)
      have n2_ := Aside0.mk (Kd.R_elder' HO227.out (Kd.R_base ho27) hb)
      have n3_ := Aside0.mk (Kd.R_lower (Kd.R_newB (Kd.R_new' ho27 (Kd.R_lt HO227.out)) BKx.out) (below_size HB.out))
      have n4_ := Aside0.mk (blk_below BKp.out hb)
      have n5_ := Aside0.mk (blk_below BKx.out hb)
      have n6_ := Aside0.mk (blk_below BKi.out hb)
      have n7_ := Aside0.mk (below_step HB.out hb)
      clear HO218 HO221 HO227 BKp BKx BKi HB
      have HO218 := n0_; have HO221 := n1_; have HO227 := n2_; have HO230 := n3_; have BKp := n4_; have BKx := n5_; have BKi := n6_; have HB := n7_
      clear n0_ n1_ n2_ n3_ n4_ n5_ n6_ n7_ hb ho27
      refine hK.out _ _ (hS0 _ BKx.out BKi.out) (fun hHeld => ?_)
      clear hK K
      refine norm_ (a' := ?_) ?_ ?_; rotate_left; (· (show Act.put _ (some 26) _ = _; simp only [Act.put, zA10, zB10, zC10, i64_w, i32_w]; rfl))
      exact norm_ (by simp only [putAll, Act.put, zA10, zB10, zC10] <;> rfl) (hJ0_2_4_5_6_8_10 (v211, v214, v217, v220, v223, v226, v229) _ ⟨hHeld, HO218.out, HO221.out, (Kd.R_mono HO227.out (fun _ hk => ⟨hk.2, hk.1⟩)), (Kd.R_mono HO230.out (fun _ hk => ⟨hk.1.2, hk.2⟩)), BKp.out, BKx.out, BKi.out, HB.out⟩)
    intro hJ0_2_4_5_6_8
    refine join_ (σ := Value × Value × Value × Value × Value × Value) 4 q10_2 (fun s_ => [(16, s_.1), (18, s_.2.1), (20, s_.2.2.1), (21, s_.2.2.2.1), (22, s_.2.2.2.2.1), (26, s_.2.2.2.2.2)]) (fun s_ w' => S0 w' ∧ (Kd.R k28 28 w' w.heap.size (fun k_ => some k_ ≠ (s_.2.2.2.1 : Value).ownBlock ∧ k_ ≠ gi) s_.2.2.1 y216) ∧ (Kd.R k28 28 w' w.heap.size (fun k_ => some k_ ≠ (s_.2.2.1 : Value).ownBlock ∧ k_ ≠ gi) s_.2.2.2.1 y219) ∧ (Kd.R k63 63 w' w.heap.size (fun k_ => some k_ ≠ (s_.2.2.2.2.2 : Value).ownBlock ∧ k_ ≠ gx) s_.2.2.2.2.1 y222) ∧ (Kd.R k63 63 w' w.heap.size (fun k_ => some k_ ≠ (s_.2.2.2.2.1 : Value).ownBlock ∧ k_ ≠ gx) s_.2.2.2.2.2 y228) ∧ (w'.heap[gp]? = some (.cells cs7 26 (0, 0))) ∧ (w'.heap[gx]? = some (.cells cs8 63 (0, 0))) ∧ (w'.heap[gi]? = some (.cells cs9 28 (0, 0))) ∧ (Below w.heap.size w w')) ?_ ?_
    · skip
      rintro ⟨v211, v214, v217, v220, v223, v229⟩ w26 ⟨hS_, h0_, h1_, h2_, h3_, h4_, h5_, h6_, h7_⟩
      have n0_ : Aside0 (Kd.R k28 28 w26 w.heap.size (fun k_ => some k_ ≠ (v220 : Value).ownBlock ∧ k_ ≠ gi) v217 y216) := ⟨h0_⟩
      have n1_ : Aside0 (Kd.R k28 28 w26 w.heap.size (fun k_ => some k_ ≠ (v217 : Value).ownBlock ∧ k_ ≠ gi) v220 y219) := ⟨h1_⟩
      have n2_ : Aside0 (Kd.R k63 63 w26 w.heap.size (fun k_ => some k_ ≠ (v229 : Value).ownBlock ∧ k_ ≠ gx) v223 y222) := ⟨h2_⟩
      have n3_ : Aside0 (Kd.R k63 63 w26 w.heap.size (fun k_ => some k_ ≠ (v223 : Value).ownBlock ∧ k_ ≠ gx) v229 y228) := ⟨h3_⟩
      have n4_ : Aside0 (w26.heap[gp]? = some (.cells cs7 26 (0, 0))) := ⟨h4_⟩
      have n5_ : Aside0 (w26.heap[gx]? = some (.cells cs8 63 (0, 0))) := ⟨h5_⟩
      have n6_ : Aside0 (w26.heap[gi]? = some (.cells cs9 28 (0, 0))) := ⟨h6_⟩
      have n7_ : Aside0 (Below w.heap.size w w26) := ⟨h7_⟩
      clear BKp BKx BKi HB h0_ h1_ h2_ h3_ h4_ h5_ h6_ h7_
      have HO218 := n0_; have HO221 := n1_; have HO224 := n2_; have HO230 := n3_; have BKp := n4_; have BKx := n5_; have BKi := n6_; have HB := n7_
      clear n0_ n1_ n2_ n3_ n4_ n5_ n6_ n7_
      have hHeld : S0 w26 := hS_
      refine norm_ (a' := ?_) ?_ ?_; rotate_left; (· (simp only [putAll, Act.put, zA10, zB10, zC10]; rfl))
      refine one_ (i := 8) (N := some 24) q10_0 rfl rfl (one_of HT_.out (by kernel_rfl)) (by decide) (fun K hK => ?_)
      refine Kd.R_append_rows_step k63 (w0 := w) w.heap.size (by rfl) (.tmp 22) (.tmp 23) 46 63 (.agg #[(.int .i64 0), (.int .i64 0), (.int .i64 0), (.int .i64 0)]) 32 rfl Try.underlying46 info63 rfl (by decide) (by omega) v223 y222 l2 _ _ _ (fun k_ => some k_ ≠ (v229 : Value).ownBlock ∧ k_ ≠ gx) (fun _ => False) rfl rfl ?aO ?aR (fun _ _ h => h) (fun _ h => h.elim) ?aF ?aB ?aS ?aL ?_
      (case aR => repeat (first | exact (Kd.C_below HR2.out HB.out) | (with_reducible refine Kd.C_alloc ?_ _) | (with_reducible refine Kd.C_drewN ?_ _) | (with_reducible refine Kd.C_drew ?_)))
      (case aB => exact HB.out)
      (case aF => exact (fun k_ hk => ⟨Kd.fresh' (Kd.R_lt HO230.out) k_ hk, Kd.freshB BKx.out k_ hk⟩))
      (case aO => exact HO224.out)
      (case aS => exact (below_size HB.out))
      (case aL => have := LMc8.out; omega)
      intro v226 w27 ho hb hg hat
      rw [← Ny225.out] at ho
      have n0_ := Aside0.mk (blk_grown BKp.out hg (Kd.R_ne HO224.out BKp.out (by decide)))
      have n1_ := Aside0.mk (blk_grown BKx.out hg (Kd.R_away HO224.out (fun _ hk => hk.2)))
      have n2_ := Aside0.mk (blk_grown BKi.out hg (Kd.R_ne HO224.out BKi.out (by decide)))
      have n3_ := Aside0.mk (Kd.R_over' HO218.out (Kd.R_typed HO224.out) (by decide) hg)
      have n4_ := Aside0.mk (Kd.R_over' HO221.out (Kd.R_typed HO224.out) (by decide) hg)
      have n5_ := Aside0.mk (Kd.R_after (ok := (fun k_ => k_ ≠ gx)) (Kd.R_mono HO230.out (fun _ hk => ⟨hk.2, hk.1⟩)) hg hat)
      have n6_ := Aside0.mk (hb)
      have n7_ := Aside0.mk (ho)
      clear BKp BKx BKi HO218 HO221 HO230 HB HO224
      have BKp := n0_; have BKx := n1_; have BKi := n2_; have HO218 := n3_; have HO221 := n4_; have HO230 := n5_; have HB := n6_; have HO227 := n7_
      clear n0_ n1_ n2_ n3_ n4_ n5_ n6_ n7_ ho hb hg hat
      refine hK.out _ _ (hS0 _ BKx.out BKi.out) (fun hHeld => ?_)
      clear hK K
      refine norm_ (a' := ?_) ?_ ?_; rotate_left; (· (show Act.put _ (some 24) _ = _; simp only [Act.put, zA10, zB10, zC10, i64_w, i32_w]; rfl))
      exact norm_ (by simp only [putAll, Act.put, zA10, zB10, zC10] <;> rfl) (hJ0_2_4_5_6_8_10 (v211, v214, v217, v220, v223, v226, v229) _ ⟨hHeld, HO218.out, HO221.out, HO227.out, (Kd.R_mono HO230.out (fun _ hk => ⟨hk.2, hk.1⟩)), BKp.out, BKx.out, BKi.out, HB.out⟩)
    intro hJ0_2_4_5_6_10
    refine join_ (σ := Value × Value × Value × Value × Value) 5 q10_3 (fun s_ => [(16, s_.1), (18, s_.2.1), (20, s_.2.2.1), (21, s_.2.2.2.1), (22, s_.2.2.2.2)]) (fun s_ w' => S0 w' ∧ (Kd.R k28 28 w' w.heap.size (fun k_ => some k_ ≠ (s_.2.2.2.1 : Value).ownBlock ∧ k_ ≠ gi) s_.2.2.1 y216) ∧ (Kd.R k28 28 w' w.heap.size (fun k_ => some k_ ≠ (s_.2.2.1 : Value).ownBlock ∧ k_ ≠ gi) s_.2.2.2.1 y219) ∧ (Kd.R k63 63 w' w.heap.size (fun k_ => k_ ≠ gx) s_.2.2.2.2 y222) ∧ (w'.heap[gp]? = some (.cells cs7 26 (0, 0))) ∧ (w'.heap[gx]? = some (.cells cs8 63 (0, 0))) ∧ (w'.heap[gi]? = some (.cells cs9 28 (0, 0))) ∧ (Below w.heap.size w w')) ?_ ?_
    · skip
      rintro ⟨v211, v214, v217, v220, v223⟩ w24 ⟨hS_, h0_, h1_, h2_, h3_, h4_, h5_, h6_⟩
      have n0_ : Aside0 (Kd.R k28 28 w24 w.heap.size (fun k_ => some k_ ≠ (v220 : Value).ownBlock ∧ k_ ≠ gi) v217 y216) := ⟨h0_⟩
      have n1_ : Aside0 (Kd.R k28 28 w24 w.heap.size (fun k_ => some k_ ≠ (v217 : Value).ownBlock ∧ k_ ≠ gi) v220 y219) := ⟨h1_⟩
      have n2_ : Aside0 (Kd.R k63 63 w24 w.heap.size (fun k_ => k_ ≠ gx) v223 y222) := ⟨h2_⟩
      have n3_ : Aside0 (w24.heap[gp]? = some (.cells cs7 26 (0, 0))) := ⟨h3_⟩
      have n4_ : Aside0 (w24.heap[gx]? = some (.cells cs8 63 (0, 0))) := ⟨h4_⟩
      have n5_ : Aside0 (w24.heap[gi]? = some (.cells cs9 28 (0, 0))) := ⟨h5_⟩
      have n6_ : Aside0 (Below w.heap.size w w24) := ⟨h6_⟩
      clear BKp BKx BKi HB h0_ h1_ h2_ h3_ h4_ h5_ h6_
      have HO218 := n0_; have HO221 := n1_; have HO224 := n2_; have BKp := n3_; have BKx := n4_; have BKi := n5_; have HB := n6_
      clear n0_ n1_ n2_ n3_ n4_ n5_ n6_
      have hHeld : S0 w24 := hS_
      refine norm_ (a' := ?_) ?_ ?_; rotate_left; (· (simp only [putAll, Act.put, zA10, zB10, zC10]; rfl))
      refine two_ (i := 8) (j := 10) (Ni := some 24) (Nj := some 26) q10_1 q10_2 rfl rfl rfl rfl (two_of HT_.out (by kernel_rfl)) (by decide) (by decide) (fun K hK => ?_) (fun K hK => ?_)
      · skip
        refine Kd.R_append_rows_step k63 (w0 := w) w.heap.size (by rfl) (.tmp 22) (.tmp 23) 46 63 (.agg #[(.int .i64 0), (.int .i64 0), (.int .i64 0), (.int .i64 0)]) 32 rfl Try.underlying46 info63 rfl (by decide) (by omega) v223 y222 l2 _ _ _ (fun k_ => k_ ≠ gx) (fun _ => False) rfl rfl ?aO ?aR (fun _ _ h => h) (fun _ h => h.elim) ?aF ?aB ?aS ?aL ?_
        (case aR => repeat (first | exact (Kd.C_below HR2.out HB.out) | (with_reducible refine Kd.C_alloc ?_ _) | (with_reducible refine Kd.C_drewN ?_ _) | (with_reducible refine Kd.C_drew ?_)))
        (case aB => exact HB.out)
        (case aF => exact (fun k_ hk => Kd.freshB BKx.out k_ hk))
        (case aO => exact HO224.out)
        (case aS => exact (below_size HB.out))
        (case aL => have := LMc8.out; omega)
        intro v226 w25 ho hb hg hat
        rw [← Ny225.out] at ho
        have n0_ := Aside0.mk (blk_grown BKp.out hg (Kd.R_ne HO224.out BKp.out (by decide)))
        have n1_ := Aside0.mk (blk_grown BKx.out hg (Kd.R_away HO224.out (fun _ hk => hk)))
        have n2_ := Aside0.mk (blk_grown BKi.out hg (Kd.R_ne HO224.out BKi.out (by decide)))
        have n3_ := Aside0.mk (Kd.R_over' HO218.out (Kd.R_typed HO224.out) (by decide) hg)
        have n4_ := Aside0.mk (Kd.R_over' HO221.out (Kd.R_typed HO224.out) (by decide) hg)
        have n5_ := Aside0.mk (hb)
        have n6_ := Aside0.mk (ho)
        clear BKp BKx BKi HO218 HO221 HB HO224
        have BKp := n0_; have BKx := n1_; have BKi := n2_; have HO218 := n3_; have HO221 := n4_; have HB := n5_; have HO227 := n6_
        clear n0_ n1_ n2_ n3_ n4_ n5_ n6_ ho hb hg hat
        refine hK.out _ _ (hS0 _ BKx.out BKi.out) (fun hHeld => ?_)
        clear hK K
        refine norm_ (a' := ?_) ?_ ?_; rotate_left; (· (show Act.put _ (some 24) _ = _; simp only [Act.put, zA10, zB10, zC10, i64_w, i32_w]; rfl))
        exact norm_ (by simp only [putAll, Act.put, zA10, zB10, zC10] <;> rfl) (hJ0_2_4_5_6_8 (v211, v214, v217, v220, v223, v226) _ ⟨hHeld, HO218.out, HO221.out, HO227.out, BKp.out, BKx.out, BKi.out, HB.out⟩)
      · skip
        refine Kd.R_lit_step k63 _ 63 ?hg (N := 26) ?hd (xs := ([(⟨a3_0, a3_1, a3_2, a3_3⟩ : S63)] : List (S63))) (inner := [.int .i64 a3_0, .int .i64 a3_1, .int .i64 a3_2, .int .i64 a3_3]) (ok := fun _ => True) (okp := fun _ => True) ?hr ?hp (fun _ hk => hk) trivial (Below.refl _ _) (Nat.le_refl _) (by simp) ?_; (case hd => rfl); (case hg => rfl); (case hr => first | (go_simp; done) | (go_simp; rfl)); (case hp => exact (Reps.c4 (show Kd.M k63 _ _ _ (⟨a3_0, a3_1, a3_2, a3_3⟩ : S63) [.int .i64 a3_0, .int .i64 a3_1, .int .i64 a3_2, .int .i64 a3_3] from (k63_mkM _ _ _ (⟨a3_0, a3_1, a3_2, a3_3⟩ : S63) )) (Reps.none _ _)))
        intro v229 w25 ho26 hb hg_ hnew_
        clear hg_ hnew_
        (first | rw [← Ny228.out] at ho26 | (simp only [Int.reduceToNat] at ho26; rw [← Ny228.out] at ho26))
        have n0_ := Aside0.mk (Kd.R_below HO218.out hb)
        have n1_ := Aside0.mk (Kd.R_below HO221.out hb)
        have n2_ := Aside0.mk (Kd.R_elder' HO224.out (Kd.R_base ho26) hb)
        have n3_ := Aside0.mk (Kd.R_lower (Kd.R_newB (Kd.R_new' ho26 (Kd.R_lt HO224.out)) BKx.out) (below_size HB.out))
        have n4_ := Aside0.mk (blk_below BKp.out hb)
        have n5_ := Aside0.mk (blk_below BKx.out hb)
        have n6_ := Aside0.mk (blk_below BKi.out hb)
        have n7_ := Aside0.mk (below_step HB.out hb)
        clear HO218 HO221 HO224 BKp BKx BKi HB
        have HO218 := n0_; have HO221 := n1_; have HO224 := n2_; have HO230 := n3_; have BKp := n4_; have BKx := n5_; have BKi := n6_; have HB := n7_
        clear n0_ n1_ n2_ n3_ n4_ n5_ n6_ n7_ hb ho26
        refine hK.out _ _ (hS0 _ BKx.out BKi.out) (fun hHeld => ?_)
        clear hK K
        refine norm_ (a' := ?_) ?_ ?_; rotate_left; (· (show Act.put _ (some 26) _ = _; simp only [Act.put, zA10, zB10, zC10, i64_w, i32_w]; rfl))
        exact norm_ (by simp only [putAll, Act.put, zA10, zB10, zC10] <;> rfl) (hJ0_2_4_5_6_10 (v211, v214, v217, v220, v223, v229) _ ⟨hHeld, HO218.out, HO221.out, (Kd.R_mono HO224.out (fun _ hk => ⟨hk.2, hk.1⟩)), (Kd.R_mono HO230.out (fun _ hk => ⟨hk.1.2, hk.2⟩)), BKp.out, BKx.out, BKi.out, HB.out⟩)
    intro hJ0_2_4_5_6
    refine join_ (σ := Value × Value × Value × Value × Value) 5 q10_4 (fun s_ => [(16, s_.1), (18, s_.2.1), (20, s_.2.2.1), (21, s_.2.2.2.1), (26, s_.2.2.2.2)]) (fun s_ w' => S0 w' ∧ (Kd.R k28 28 w' w.heap.size (fun k_ => some k_ ≠ (s_.2.2.2.1 : Value).ownBlock ∧ k_ ≠ gi) s_.2.2.1 y216) ∧ (Kd.R k28 28 w' w.heap.size (fun k_ => some k_ ≠ (s_.2.2.1 : Value).ownBlock ∧ k_ ≠ gi) s_.2.2.2.1 y219) ∧ (Kd.R k63 63 w' w.heap.size (fun k_ => k_ ≠ gx) s_.2.2.2.2 y228) ∧ (w'.heap[gp]? = some (.cells cs7 26 (0, 0))) ∧ (w'.heap[gx]? = some (.cells cs8 63 (0, 0))) ∧ (w'.heap[gi]? = some (.cells cs9 28 (0, 0))) ∧ (Below w.heap.size w w')) ?_ ?_
    · skip
      rintro ⟨v211, v214, v217, v220, v229⟩ w24 ⟨hS_, h0_, h1_, h2_, h3_, h4_, h5_, h6_⟩
      have n0_ : Aside0 (Kd.R k28 28 w24 w.heap.size (fun k_ => some k_ ≠ (v220 : Value).ownBlock ∧ k_ ≠ gi) v217 y216) := ⟨h0_⟩
      have n1_ : Aside0 (Kd.R k28 28 w24 w.heap.size (fun k_ => some k_ ≠ (v217 : Value).ownBlock ∧ k_ ≠ gi) v220 y219) := ⟨h1_⟩
      have n2_ : Aside0 (Kd.R k63 63 w24 w.heap.size (fun k_ => k_ ≠ gx) v229 y228) := ⟨h2_⟩
      have n3_ : Aside0 (w24.heap[gp]? = some (.cells cs7 26 (0, 0))) := ⟨h3_⟩
      have n4_ : Aside0 (w24.heap[gx]? = some (.cells cs8 63 (0, 0))) := ⟨h4_⟩
      have n5_ : Aside0 (w24.heap[gi]? = some (.cells cs9 28 (0, 0))) := ⟨h5_⟩
      have n6_ : Aside0 (Below w.heap.size w w24) := ⟨h6_⟩
      clear BKp BKx BKi HB h0_ h1_ h2_ h3_ h4_ h5_ h6_
      have HO218 := n0_; have HO221 := n1_; have HO230 := n2_; have BKp := n3_; have BKx := n4_; have BKi := n5_; have HB := n6_
      clear n0_ n1_ n2_ n3_ n4_ n5_ n6_
      have hHeld : S0 w24 := hS_
      refine norm_ (a' := ?_) ?_ ?_; rotate_left; (· (simp only [putAll, Act.put, zA10, zB10, zC10]; rfl))
      refine one_ (i := 6) (N := some 22) q10_2 rfl rfl (one_of HT_.out (by kernel_rfl)) (by decide) (fun K hK => ?_)
      refine Kd.R_lit_step k63 _ 63 ?hg (N := 22) ?hd (xs := ([] : List (S63))) (inner := []) (ok := fun _ => True) (okp := fun _ => True) ?hr ?hp (fun _ hk => hk) trivial (Below.refl _ _) (Nat.le_refl _) (by simp) ?_; (case hd => rfl); (case hg => rfl); (case hr => first | (go_simp; done) | (go_simp; rfl)); (case hp => exact (Reps.none _ _))
      intro v223 w25 ho26 hb hg_ hnew_
      clear hg_ hnew_
      (first | rw [← Ny222.out] at ho26 | (simp only [Int.reduceToNat] at ho26; rw [← Ny222.out] at ho26))
      have n0_ := Aside0.mk (Kd.R_below HO218.out hb)
      have n1_ := Aside0.mk (Kd.R_below HO221.out hb)
      have n2_ := Aside0.mk (Kd.R_elder' HO230.out (Kd.R_base ho26) hb)
      have n3_ := Aside0.mk (Kd.R_lower (Kd.R_newB (Kd.R_new' ho26 (Kd.R_lt HO230.out)) BKx.out) (below_size HB.out))
      have n4_ := Aside0.mk (blk_below BKp.out hb)
      have n5_ := Aside0.mk (blk_below BKx.out hb)
      have n6_ := Aside0.mk (blk_below BKi.out hb)
      have n7_ := Aside0.mk (below_step HB.out hb)
      clear HO218 HO221 HO230 BKp BKx BKi HB
      have HO218 := n0_; have HO221 := n1_; have HO230 := n2_; have HO224 := n3_; have BKp := n4_; have BKx := n5_; have BKi := n6_; have HB := n7_
      clear n0_ n1_ n2_ n3_ n4_ n5_ n6_ n7_ hb ho26
      refine hK.out _ _ (hS0 _ BKx.out BKi.out) (fun hHeld => ?_)
      clear hK K
      refine norm_ (a' := ?_) ?_ ?_; rotate_left; (· (show Act.put _ (some 22) _ = _; simp only [Act.put, zA10, zB10, zC10, i64_w, i32_w]; rfl))
      exact norm_ (by simp only [putAll, Act.put, zA10, zB10, zC10] <;> rfl) (hJ0_2_4_5_6_10 (v211, v214, v217, v220, v223, v229) _ ⟨hHeld, HO218.out, HO221.out, (Kd.R_mono HO224.out (fun _ hk => ⟨hk.1.2, hk.2⟩)), (Kd.R_mono HO230.out (fun _ hk => ⟨hk.2, hk.1⟩)), BKp.out, BKx.out, BKi.out, HB.out⟩)
    intro hJ0_2_4_5_10
    refine join_ (σ := Value × Value × Value × Value × Value) 5 q10_5 (fun s_ => [(16, s_.1), (18, s_.2.1), (20, s_.2.2.1), (22, s_.2.2.2.1), (26, s_.2.2.2.2)]) (fun s_ w' => S0 w' ∧ (Kd.R k28 28 w' w.heap.size (fun k_ => some k_ ≠ (s_.2.2.1 : Value).ownBlock ∧ k_ ≠ gi) s_.2.1 y213) ∧ (Kd.R k28 28 w' w.heap.size (fun k_ => some k_ ≠ (s_.2.1 : Value).ownBlock ∧ k_ ≠ gi) s_.2.2.1 y216) ∧ (Kd.R k63 63 w' w.heap.size (fun k_ => some k_ ≠ (s_.2.2.2.2 : Value).ownBlock ∧ k_ ≠ gx) s_.2.2.2.1 y222) ∧ (Kd.R k63 63 w' w.heap.size (fun k_ => some k_ ≠ (s_.2.2.2.1 : Value).ownBlock ∧ k_ ≠ gx) s_.2.2.2.2 y228) ∧ (w'.heap[gp]? = some (.cells cs7 26 (0, 0))) ∧ (w'.heap[gx]? = some (.cells cs8 63 (0, 0))) ∧ (w'.heap[gi]? = some (.cells cs9 28 (0, 0))) ∧ (Below w.heap.size w w')) ?_ ?_
    · skip
      rintro ⟨v211, v214, v217, v223, v229⟩ w24 ⟨hS_, h0_, h1_, h2_, h3_, h4_, h5_, h6_, h7_⟩
      have n0_ : Aside0 (Kd.R k28 28 w24 w.heap.size (fun k_ => some k_ ≠ (v217 : Value).ownBlock ∧ k_ ≠ gi) v214 y213) := ⟨h0_⟩
      have n1_ : Aside0 (Kd.R k28 28 w24 w.heap.size (fun k_ => some k_ ≠ (v214 : Value).ownBlock ∧ k_ ≠ gi) v217 y216) := ⟨h1_⟩
      have n2_ : Aside0 (Kd.R k63 63 w24 w.heap.size (fun k_ => some k_ ≠ (v229 : Value).ownBlock ∧ k_ ≠ gx) v223 y222) := ⟨h2_⟩
      have n3_ : Aside0 (Kd.R k63 63 w24 w.heap.size (fun k_ => some k_ ≠ (v223 : Value).ownBlock ∧ k_ ≠ gx) v229 y228) := ⟨h3_⟩
      have n4_ : Aside0 (w24.heap[gp]? = some (.cells cs7 26 (0, 0))) := ⟨h4_⟩
      have n5_ : Aside0 (w24.heap[gx]? = some (.cells cs8 63 (0, 0))) := ⟨h5_⟩
      have n6_ : Aside0 (w24.heap[gi]? = some (.cells cs9 28 (0, 0))) := ⟨h6_⟩
      have n7_ : Aside0 (Below w.heap.size w w24) := ⟨h7_⟩
      clear BKp BKx BKi HB h0_ h1_ h2_ h3_ h4_ h5_ h6_ h7_
      have HO215 := n0_; have HO218 := n1_; have HO224 := n2_; have HO230 := n3_; have BKp := n4_; have BKx := n5_; have BKi := n6_; have HB := n7_
      clear n0_ n1_ n2_ n3_ n4_ n5_ n6_ n7_
      have hHeld : S0 w24 := hS_
      obtain ⟨Ao26, co26, eo26⟩ := Kd.R_slice HO218.out
      (first | subst eo26 | (injection eo26 with f1_ f2_ f3_; have f4_ := f1_.symm; have f5_ := f3_.symm; clear f1_ f2_ f3_; subst f4_; subst f5_))
      refine norm_ (a' := ?_) ?_ ?_; rotate_left; (· (simp only [putAll, Act.put, zA10, zB10, zC10]; rfl))
      refine one_ (i := 5) (N := some 21) q10_2 rfl rfl (one_of HT_.out (by kernel_rfl)) (by decide) (fun K hK => ?_)
      refine Kd.R_append_rows_step k28 (w0 := w) w.heap.size (by rfl) (.tmp 18) (.tmp 20) 34 28 (.agg #[(.int .i64 0), (.int .i64 0), (.int .i64 0), (.int .i64 0), (.int .i64 0), (.int .i64 0)]) 48 rfl Try.underlying34 info28 rfl (by decide) (by omega) v214 y213 y216 _ _ _ (fun k_ => some k_ ≠ (.slice Ao26 y216.length co26 : Value).ownBlock ∧ k_ ≠ gi) (fun _ => False) rfl rfl ?aO ?aR (fun _ _ h => h) (fun _ h => h.elim) ?aF ?aB ?aS ?aL ?_
      (case aR => repeat (first | exact (Kd.R_reads' HO218.out).2.2 | (with_reducible refine Kd.C_alloc ?_ _) | (with_reducible refine Kd.C_drewN ?_ _) | (with_reducible refine Kd.C_drew ?_)))
      (case aB => exact HB.out)
      (case aF => exact (fun k_ hk => ⟨Kd.fresh' (Kd.R_lt HO218.out) k_ hk, Kd.freshB BKi.out k_ hk⟩))
      (case aO => exact HO215.out)
      (case aS => exact (below_size HB.out))
      (case aL => have := LMc7.out; omega)
      intro v220 w25 ho hb hg hat
      rw [← Ny219.out] at ho
      have n0_ := Aside0.mk (blk_grown BKp.out hg (Kd.R_ne HO215.out BKp.out (by decide)))
      have n1_ := Aside0.mk (blk_grown BKx.out hg (Kd.R_ne HO215.out BKx.out (by decide)))
      have n2_ := Aside0.mk (blk_grown BKi.out hg (Kd.R_away HO215.out (fun _ hk => hk.2)))
      have n3_ := Aside0.mk (Kd.R_after (ok := (fun k_ => k_ ≠ gi)) (Kd.R_mono HO218.out (fun _ hk => ⟨hk.2, hk.1⟩)) hg hat)
      have n4_ := Aside0.mk (Kd.R_over' HO224.out (Kd.R_typed HO215.out) (by decide) hg)
      have n5_ := Aside0.mk (Kd.R_over' HO230.out (Kd.R_typed HO215.out) (by decide) hg)
      have n6_ := Aside0.mk (hb)
      have n7_ := Aside0.mk (ho)
      clear BKp BKx BKi HO218 HO224 HO230 HB HO215
      have BKp := n0_; have BKx := n1_; have BKi := n2_; have HO218 := n3_; have HO224 := n4_; have HO230 := n5_; have HB := n6_; have HO221 := n7_
      clear n0_ n1_ n2_ n3_ n4_ n5_ n6_ n7_ ho hb hg hat
      refine hK.out _ _ (hS0 _ BKx.out BKi.out) (fun hHeld => ?_)
      clear hK K
      refine norm_ (a' := ?_) ?_ ?_; rotate_left; (· (show Act.put _ (some 21) _ = _; simp only [Act.put, zA10, zB10, zC10, i64_w, i32_w]; rfl))
      exact norm_ (by simp only [putAll, Act.put, zA10, zB10, zC10] <;> rfl) (hJ0_2_4_5_6_10 (v211, v214, .slice Ao26 y216.length co26, v220, v223, v229) _ ⟨hHeld, (Kd.R_mono HO218.out (fun _ hk => ⟨hk.2, hk.1⟩)), HO221.out, HO224.out, HO230.out, BKp.out, BKx.out, BKi.out, HB.out⟩)
    intro hJ0_2_4_6_10
    refine join_ (σ := Value × Value × Value × Value) 6 q10_6 (fun s_ => [(16, s_.1), (18, s_.2.1), (20, s_.2.2.1), (21, s_.2.2.2)]) (fun s_ w' => S0 w' ∧ (Kd.R k28 28 w' w.heap.size (fun k_ => some k_ ≠ (s_.2.2.2 : Value).ownBlock ∧ k_ ≠ gi) s_.2.2.1 y216) ∧ (Kd.R k28 28 w' w.heap.size (fun k_ => some k_ ≠ (s_.2.2.1 : Value).ownBlock ∧ k_ ≠ gi) s_.2.2.2 y219) ∧ (w'.heap[gp]? = some (.cells cs7 26 (0, 0))) ∧ (w'.heap[gx]? = some (.cells cs8 63 (0, 0))) ∧ (w'.heap[gi]? = some (.cells cs9 28 (0, 0))) ∧ (Below w.heap.size w w')) ?_ ?_
    · skip
      rintro ⟨v211, v214, v217, v220⟩ w22 ⟨hS_, h0_, h1_, h2_, h3_, h4_, h5_⟩
      have n0_ : Aside0 (Kd.R k28 28 w22 w.heap.size (fun k_ => some k_ ≠ (v220 : Value).ownBlock ∧ k_ ≠ gi) v217 y216) := ⟨h0_⟩
      have n1_ : Aside0 (Kd.R k28 28 w22 w.heap.size (fun k_ => some k_ ≠ (v217 : Value).ownBlock ∧ k_ ≠ gi) v220 y219) := ⟨h1_⟩
      have n2_ : Aside0 (w22.heap[gp]? = some (.cells cs7 26 (0, 0))) := ⟨h2_⟩
      have n3_ : Aside0 (w22.heap[gx]? = some (.cells cs8 63 (0, 0))) := ⟨h3_⟩
      have n4_ : Aside0 (w22.heap[gi]? = some (.cells cs9 28 (0, 0))) := ⟨h4_⟩
      have n5_ : Aside0 (Below w.heap.size w w22) := ⟨h5_⟩
      clear BKp BKx BKi HB h0_ h1_ h2_ h3_ h4_ h5_
      have HO218 := n0_; have HO221 := n1_; have BKp := n2_; have BKx := n3_; have BKi := n4_; have HB := n5_
      clear n0_ n1_ n2_ n3_ n4_ n5_
      have hHeld : S0 w22 := hS_
      refine norm_ (a' := ?_) ?_ ?_; rotate_left; (· (simp only [putAll, Act.put, zA10, zB10, zC10]; rfl))
      refine two_ (i := 6) (j := 10) (Ni := some 22) (Nj := some 26) q10_3 q10_4 rfl rfl rfl rfl (two_of HT_.out (by kernel_rfl)) (by decide) (by decide) (fun K hK => ?_) (fun K hK => ?_)
      · skip
        refine Kd.R_lit_step k63 _ 63 ?hg (N := 22) ?hd (xs := ([] : List (S63))) (inner := []) (ok := fun _ => True) (okp := fun _ => True) ?hr ?hp (fun _ hk => hk) trivial (Below.refl _ _) (Nat.le_refl _) (by simp) ?_; (case hd => rfl); (case hg => rfl); (case hr => first | (go_simp; done) | (go_simp; rfl)); (case hp => exact (Reps.none _ _))
        intro v223 w23 ho24 hb hg_ hnew_
        clear hg_ hnew_
        (first | rw [← Ny222.out] at ho24 | (simp only [Int.reduceToNat] at ho24; rw [← Ny222.out] at ho24))
        have n0_ := Aside0.mk (Kd.R_below HO218.out hb)
        have n1_ := Aside0.mk (Kd.R_below HO221.out hb)
        have n2_ := Aside0.mk (Kd.R_lower (Kd.R_newB ho24 BKx.out) (below_size HB.out))
        have n3_ := Aside0.mk (blk_below BKp.out hb)
        have n4_ := Aside0.mk (blk_below BKx.out hb)
        have n5_ := Aside0.mk (blk_below BKi.out hb)
        have n6_ := Aside0.mk (below_step HB.out hb)
        clear HO218 HO221 BKp BKx BKi HB
        have HO218 := n0_; have HO221 := n1_; have HO224 := n2_; have BKp := n3_; have BKx := n4_; have BKi := n5_; have HB := n6_
        clear n0_ n1_ n2_ n3_ n4_ n5_ n6_ hb ho24
        refine hK.out _ _ (hS0 _ BKx.out BKi.out) (fun hHeld => ?_)
        clear hK K
        refine norm_ (a' := ?_) ?_ ?_; rotate_left; (· (show Act.put _ (some 22) _ = _; simp only [Act.put, zA10, zB10, zC10, i64_w, i32_w]; rfl))
        exact norm_ (by simp only [putAll, Act.put, zA10, zB10, zC10] <;> rfl) (hJ0_2_4_5_6 (v211, v214, v217, v220, v223) _ ⟨hHeld, HO218.out, HO221.out, (Kd.R_mono HO224.out (fun _ hk => hk.2)), BKp.out, BKx.out, BKi.out, HB.out⟩)
      · skip
        refine Kd.R_lit_step k63 _ 63 ?hg (N := 26) ?hd (xs := ([(⟨a3_0, a3_1, a3_2, a3_3⟩ : S63)] : List (S63))) (inner := [.int .i64 a3_0, .int .i64 a3_1, .int .i64 a3_2, .int .i64 a3_3]) (ok := fun _ => True) (okp := fun _ => True) ?hr ?hp (fun _ hk => hk) trivial (Below.refl _ _) (Nat.le_refl _) (by simp) ?_; (case hd => rfl); (case hg => rfl); (case hr => first | (go_simp; done) | (go_simp; rfl)); (case hp => exact (Reps.c4 (show Kd.M k63 _ _ _ (⟨a3_0, a3_1, a3_2, a3_3⟩ : S63) [.int .i64 a3_0, .int .i64 a3_1, .int .i64 a3_2, .int .i64 a3_3] from (k63_mkM _ _ _ (⟨a3_0, a3_1, a3_2, a3_3⟩ : S63) )) (Reps.none _ _)))
        intro v229 w23 ho24 hb hg_ hnew_
        clear hg_ hnew_
        (first | rw [← Ny228.out] at ho24 | (simp only [Int.reduceToNat] at ho24; rw [← Ny228.out] at ho24))
        have n0_ := Aside0.mk (Kd.R_below HO218.out hb)
        have n1_ := Aside0.mk (Kd.R_below HO221.out hb)
        have n2_ := Aside0.mk (Kd.R_lower (Kd.R_newB ho24 BKx.out) (below_size HB.out))
        have n3_ := Aside0.mk (blk_below BKp.out hb)
        have n4_ := Aside0.mk (blk_below BKx.out hb)
        have n5_ := Aside0.mk (blk_below BKi.out hb)
        have n6_ := Aside0.mk (below_step HB.out hb)
        clear HO218 HO221 BKp BKx BKi HB
        have HO218 := n0_; have HO221 := n1_; have HO230 := n2_; have BKp := n3_; have BKx := n4_; have BKi := n5_; have HB := n6_
        clear n0_ n1_ n2_ n3_ n4_ n5_ n6_ hb ho24
        refine hK.out _ _ (hS0 _ BKx.out BKi.out) (fun hHeld => ?_)
        clear hK K
        refine norm_ (a' := ?_) ?_ ?_; rotate_left; (· (show Act.put _ (some 26) _ = _; simp only [Act.put, zA10, zB10, zC10, i64_w, i32_w]; rfl))
        exact norm_ (by simp only [putAll, Act.put, zA10, zB10, zC10] <;> rfl) (hJ0_2_4_5_10 (v211, v214, v217, v220, v229) _ ⟨hHeld, HO218.out, HO221.out, (Kd.R_mono HO230.out (fun _ hk => hk.2)), BKp.out, BKx.out, BKi.out, HB.out⟩)
    intro hJ0_2_4_5
    refine join_ (σ := Value × Value × Value × Value) 6 q10_7 (fun s_ => [(16, s_.1), (18, s_.2.1), (20, s_.2.2.1), (22, s_.2.2.2)]) (fun s_ w' => S0 w' ∧ (Kd.R k28 28 w' w.heap.size (fun k_ => some k_ ≠ (s_.2.2.1 : Value).ownBlock ∧ k_ ≠ gi) s_.2.1 y213) ∧ (Kd.R k28 28 w' w.heap.size (fun k_ => some k_ ≠ (s_.2.1 : Value).ownBlock ∧ k_ ≠ gi) s_.2.2.1 y216) ∧ (Kd.R k63 63 w' w.heap.size (fun k_ => k_ ≠ gx) s_.2.2.2 y222) ∧ (w'.heap[gp]? = some (.cells cs7 26 (0, 0))) ∧ (w'.heap[gx]? = some (.cells cs8 63 (0, 0))) ∧ (w'.heap[gi]? = some (.cells cs9 28 (0, 0))) ∧ (Below w.heap.size w w')) ?_ ?_
    · skip
      rintro ⟨v211, v214, v217, v223⟩ w22 ⟨hS_, h0_, h1_, h2_, h3_, h4_, h5_, h6_⟩
      have n0_ : Aside0 (Kd.R k28 28 w22 w.heap.size (fun k_ => some k_ ≠ (v217 : Value).ownBlock ∧ k_ ≠ gi) v214 y213) := ⟨h0_⟩
      have n1_ : Aside0 (Kd.R k28 28 w22 w.heap.size (fun k_ => some k_ ≠ (v214 : Value).ownBlock ∧ k_ ≠ gi) v217 y216) := ⟨h1_⟩
      have n2_ : Aside0 (Kd.R k63 63 w22 w.heap.size (fun k_ => k_ ≠ gx) v223 y222) := ⟨h2_⟩
      have n3_ : Aside0 (w22.heap[gp]? = some (.cells cs7 26 (0, 0))) := ⟨h3_⟩
      have n4_ : Aside0 (w22.heap[gx]? = some (.cells cs8 63 (0, 0))) := ⟨h4_⟩
      have n5_ : Aside0 (w22.heap[gi]? = some (.cells cs9 28 (0, 0))) := ⟨h5_⟩
      have n6_ : Aside0 (Below w.heap.size w w22) := ⟨h6_⟩
      clear BKp BKx BKi HB h0_ h1_ h2_ h3_ h4_ h5_ h6_
      have HO215 := n0_; have HO218 := n1_; have HO224 := n2_; have BKp := n3_; have BKx := n4_; have BKi := n5_; have HB := n6_
      clear n0_ n1_ n2_ n3_ n4_ n5_ n6_
      have hHeld : S0 w22 := hS_
      obtain ⟨Ao24, co24, eo24⟩ := Kd.R_slice HO218.out
      (first | subst eo24 | (injection eo24 with f1_ f2_ f3_; have f4_ := f1_.symm; have f5_ := f3_.symm; clear f1_ f2_ f3_; subst f4_; subst f5_))
      refine norm_ (a' := ?_) ?_ ?_; rotate_left; (· (simp only [putAll, Act.put, zA10, zB10, zC10]; rfl))
      refine two_ (i := 5) (j := 10) (Ni := some 21) (Nj := some 26) q10_3 q10_5 rfl rfl rfl rfl (two_of HT_.out (by kernel_rfl)) (by decide) (by decide) (fun K hK => ?_) (fun K hK => ?_)
      · skip
        refine Kd.R_append_rows_step k28 (w0 := w) w.heap.size (by rfl) (.tmp 18) (.tmp 20) 34 28 (.agg #[(.int .i64 0), (.int .i64 0), (.int .i64 0), (.int .i64 0), (.int .i64 0), (.int .i64 0)]) 48 rfl Try.underlying34 info28 rfl (by decide) (by omega) v214 y213 y216 _ _ _ (fun k_ => some k_ ≠ (.slice Ao24 y216.length co24 : Value).ownBlock ∧ k_ ≠ gi) (fun _ => False) rfl rfl ?aO ?aR (fun _ _ h => h) (fun _ h => h.elim) ?aF ?aB ?aS ?aL ?_
        (case aR => repeat (first | exact (Kd.R_reads' HO218.out).2.2 | (with_reducible refine Kd.C_alloc ?_ _) | (with_reducible refine Kd.C_drewN ?_ _) | (with_reducible refine Kd.C_drew ?_)))
        (case aB => exact HB.out)
        (case aF => exact (fun k_ hk => ⟨Kd.fresh' (Kd.R_lt HO218.out) k_ hk, Kd.freshB BKi.out k_ hk⟩))
        (case aO => exact HO215.out)
        (case aS => exact (below_size HB.out))
        (case aL => have := LMc7.out; omega)
        intro v220 w23 ho hb hg hat
        rw [← Ny219.out] at ho
        have n0_ := Aside0.mk (blk_grown BKp.out hg (Kd.R_ne HO215.out BKp.out (by decide)))
        have n1_ := Aside0.mk (blk_grown BKx.out hg (Kd.R_ne HO215.out BKx.out (by decide)))
        have n2_ := Aside0.mk (blk_grown BKi.out hg (Kd.R_away HO215.out (fun _ hk => hk.2)))
        have n3_ := Aside0.mk (Kd.R_after (ok := (fun k_ => k_ ≠ gi)) (Kd.R_mono HO218.out (fun _ hk => ⟨hk.2, hk.1⟩)) hg hat)
        have n4_ := Aside0.mk (Kd.R_over' HO224.out (Kd.R_typed HO215.out) (by decide) hg)
        have n5_ := Aside0.mk (hb)
        have n6_ := Aside0.mk (ho)
        clear BKp BKx BKi HO218 HO224 HB HO215
        have BKp := n0_; have BKx := n1_; have BKi := n2_; have HO218 := n3_; have HO224 := n4_; have HB := n5_; have HO221 := n6_
        clear n0_ n1_ n2_ n3_ n4_ n5_ n6_ ho hb hg hat
        refine hK.out _ _ (hS0 _ BKx.out BKi.out) (fun hHeld => ?_)
        clear hK K
        refine norm_ (a' := ?_) ?_ ?_; rotate_left; (· (show Act.put _ (some 21) _ = _; simp only [Act.put, zA10, zB10, zC10, i64_w, i32_w]; rfl))
        exact norm_ (by simp only [putAll, Act.put, zA10, zB10, zC10] <;> rfl) (hJ0_2_4_5_6 (v211, v214, .slice Ao24 y216.length co24, v220, v223) _ ⟨hHeld, (Kd.R_mono HO218.out (fun _ hk => ⟨hk.2, hk.1⟩)), HO221.out, HO224.out, BKp.out, BKx.out, BKi.out, HB.out⟩)
      · skip
        refine Kd.R_lit_step k63 _ 63 ?hg (N := 26) ?hd (xs := ([(⟨a3_0, a3_1, a3_2, a3_3⟩ : S63)] : List (S63))) (inner := [.int .i64 a3_0, .int .i64 a3_1, .int .i64 a3_2, .int .i64 a3_3]) (ok := fun _ => True) (okp := fun _ => True) ?hr ?hp (fun _ hk => hk) trivial (Below.refl _ _) (Nat.le_refl _) (by simp) ?_; (case hd => rfl); (case hg => rfl); (case hr => first | (go_simp; done) | (go_simp; rfl)); (case hp => exact (Reps.c4 (show Kd.M k63 _ _ _ (⟨a3_0, a3_1, a3_2, a3_3⟩ : S63) [.int .i64 a3_0, .int .i64 a3_1, .int .i64 a3_2, .int .i64 a3_3] from (k63_mkM _ _ _ (⟨a3_0, a3_1, a3_2, a3_3⟩ : S63) )) (Reps.none _ _)))
        intro v229 w23 ho24 hb hg_ hnew_
        clear hg_ hnew_
        (first | rw [← Ny228.out] at ho24 | (simp only [Int.reduceToNat] at ho24; rw [← Ny228.out] at ho24))
        have n0_ := Aside0.mk (Kd.R_below HO215.out hb)
        have n1_ := Aside0.mk (Kd.R_below HO218.out hb)
        have n2_ := Aside0.mk (Kd.R_elder' HO224.out (Kd.R_base ho24) hb)
        have n3_ := Aside0.mk (Kd.R_lower (Kd.R_newB (Kd.R_new' ho24 (Kd.R_lt HO224.out)) BKx.out) (below_size HB.out))
        have n4_ := Aside0.mk (blk_below BKp.out hb)
        have n5_ := Aside0.mk (blk_below BKx.out hb)
        have n6_ := Aside0.mk (blk_below BKi.out hb)
        have n7_ := Aside0.mk (below_step HB.out hb)
        clear HO215 HO218 HO224 BKp BKx BKi HB
        have HO215 := n0_; have HO218 := n1_; have HO224 := n2_; have HO230 := n3_; have BKp := n4_; have BKx := n5_; have BKi := n6_; have HB := n7_
        clear n0_ n1_ n2_ n3_ n4_ n5_ n6_ n7_ hb ho24
        refine hK.out _ _ (hS0 _ BKx.out BKi.out) (fun hHeld => ?_)
        clear hK K
        refine norm_ (a' := ?_) ?_ ?_; rotate_left; (· (show Act.put _ (some 26) _ = _; simp only [Act.put, zA10, zB10, zC10, i64_w, i32_w]; rfl))
        exact norm_ (by simp only [putAll, Act.put, zA10, zB10, zC10] <;> rfl) (hJ0_2_4_6_10 (v211, v214, .slice Ao24 y216.length co24, v223, v229) _ ⟨hHeld, HO215.out, HO218.out, (Kd.R_mono HO224.out (fun _ hk => ⟨hk.2, hk.1⟩)), (Kd.R_mono HO230.out (fun _ hk => ⟨hk.1.2, hk.2⟩)), BKp.out, BKx.out, BKi.out, HB.out⟩)
    intro hJ0_2_4_6
    refine join_ (σ := Value × Value × Value × Value) 6 q10_8 (fun s_ => [(16, s_.1), (18, s_.2.1), (20, s_.2.2.1), (26, s_.2.2.2)]) (fun s_ w' => S0 w' ∧ (Kd.R k28 28 w' w.heap.size (fun k_ => some k_ ≠ (s_.2.2.1 : Value).ownBlock ∧ k_ ≠ gi) s_.2.1 y213) ∧ (Kd.R k28 28 w' w.heap.size (fun k_ => some k_ ≠ (s_.2.1 : Value).ownBlock ∧ k_ ≠ gi) s_.2.2.1 y216) ∧ (Kd.R k63 63 w' w.heap.size (fun k_ => k_ ≠ gx) s_.2.2.2 y228) ∧ (w'.heap[gp]? = some (.cells cs7 26 (0, 0))) ∧ (w'.heap[gx]? = some (.cells cs8 63 (0, 0))) ∧ (w'.heap[gi]? = some (.cells cs9 28 (0, 0))) ∧ (Below w.heap.size w w')) ?_ ?_
    · skip
      rintro ⟨v211, v214, v217, v229⟩ w22 ⟨hS_, h0_, h1_, h2_, h3_, h4_, h5_, h6_⟩
      have n0_ : Aside0 (Kd.R k28 28 w22 w.heap.size (fun k_ => some k_ ≠ (v217 : Value).ownBlock ∧ k_ ≠ gi) v214 y213) := ⟨h0_⟩
      have n1_ : Aside0 (Kd.R k28 28 w22 w.heap.size (fun k_ => some k_ ≠ (v214 : Value).ownBlock ∧ k_ ≠ gi) v217 y216) := ⟨h1_⟩
      have n2_ : Aside0 (Kd.R k63 63 w22 w.heap.size (fun k_ => k_ ≠ gx) v229 y228) := ⟨h2_⟩
      have n3_ : Aside0 (w22.heap[gp]? = some (.cells cs7 26 (0, 0))) := ⟨h3_⟩
      have n4_ : Aside0 (w22.heap[gx]? = some (.cells cs8 63 (0, 0))) := ⟨h4_⟩
      have n5_ : Aside0 (w22.heap[gi]? = some (.cells cs9 28 (0, 0))) := ⟨h5_⟩
      have n6_ : Aside0 (Below w.heap.size w w22) := ⟨h6_⟩
      clear BKp BKx BKi HB h0_ h1_ h2_ h3_ h4_ h5_ h6_
      have HO215 := n0_; have HO218 := n1_; have HO230 := n2_; have BKp := n3_; have BKx := n4_; have BKi := n5_; have HB := n6_
      clear n0_ n1_ n2_ n3_ n4_ n5_ n6_
      have hHeld : S0 w22 := hS_
      obtain ⟨Ao24, co24, eo24⟩ := Kd.R_slice HO218.out
      (first | subst eo24 | (injection eo24 with f1_ f2_ f3_; have f4_ := f1_.symm; have f5_ := f3_.symm; clear f1_ f2_ f3_; subst f4_; subst f5_))
      refine norm_ (a' := ?_) ?_ ?_; rotate_left; (· (simp only [putAll, Act.put, zA10, zB10, zC10]; rfl))
      refine two_ (i := 5) (j := 6) (Ni := some 21) (Nj := some 22) q10_4 q10_5 rfl rfl rfl rfl (two_of HT_.out (by kernel_rfl)) (by decide) (by decide) (fun K hK => ?_) (fun K hK => ?_)
      · skip
        refine Kd.R_append_rows_step k28 (w0 := w) w.heap.size (by rfl) (.tmp 18) (.tmp 20) 34 28 (.agg #[(.int .i64 0), (.int .i64 0), (.int .i64 0), (.int .i64 0), (.int .i64 0), (.int .i64 0)]) 48 rfl Try.underlying34 info28 rfl (by decide) (by omega) v214 y213 y216 _ _ _ (fun k_ => some k_ ≠ (.slice Ao24 y216.length co24 : Value).ownBlock ∧ k_ ≠ gi) (fun _ => False) rfl rfl ?aO ?aR (fun _ _ h => h) (fun _ h => h.elim) ?aF ?aB ?aS ?aL ?_
        (case aR => repeat (first | exact (Kd.R_reads' HO218.out).2.2 | (with_reducible refine Kd.C_alloc ?_ _) | (with_reducible refine Kd.C_drewN ?_ _) | (with_reducible refine Kd.C_drew ?_)))
        (case aB => exact HB.out)
        (case aF => exact (fun k_ hk => ⟨Kd.fresh' (Kd.R_lt HO218.out) k_ hk, Kd.freshB BKi.out k_ hk⟩))
        (case aO => exact HO215.out)
        (case aS => exact (below_size HB.out))
        (case aL => have := LMc7.out; omega)
        intro v220 w23 ho hb hg hat
        rw [← Ny219.out] at ho
        have n0_ := Aside0.mk (blk_grown BKp.out hg (Kd.R_ne HO215.out BKp.out (by decide)))
        have n1_ := Aside0.mk (blk_grown BKx.out hg (Kd.R_ne HO215.out BKx.out (by decide)))
        have n2_ := Aside0.mk (blk_grown BKi.out hg (Kd.R_away HO215.out (fun _ hk => hk.2)))
        have n3_ := Aside0.mk (Kd.R_after (ok := (fun k_ => k_ ≠ gi)) (Kd.R_mono HO218.out (fun _ hk => ⟨hk.2, hk.1⟩)) hg hat)
        have n4_ := Aside0.mk (Kd.R_over' HO230.out (Kd.R_typed HO215.out) (by decide) hg)
        have n5_ := Aside0.mk (hb)
        have n6_ := Aside0.mk (ho)
        clear BKp BKx BKi HO218 HO230 HB HO215
        have BKp := n0_; have BKx := n1_; have BKi := n2_; have HO218 := n3_; have HO230 := n4_; have HB := n5_; have HO221 := n6_
        clear n0_ n1_ n2_ n3_ n4_ n5_ n6_ ho hb hg hat
        refine hK.out _ _ (hS0 _ BKx.out BKi.out) (fun hHeld => ?_)
        clear hK K
        refine norm_ (a' := ?_) ?_ ?_; rotate_left; (· (show Act.put _ (some 21) _ = _; simp only [Act.put, zA10, zB10, zC10, i64_w, i32_w]; rfl))
        exact norm_ (by simp only [putAll, Act.put, zA10, zB10, zC10] <;> rfl) (hJ0_2_4_5_10 (v211, v214, .slice Ao24 y216.length co24, v220, v229) _ ⟨hHeld, (Kd.R_mono HO218.out (fun _ hk => ⟨hk.2, hk.1⟩)), HO221.out, HO230.out, BKp.out, BKx.out, BKi.out, HB.out⟩)
      · skip
        refine Kd.R_lit_step k63 _ 63 ?hg (N := 22) ?hd (xs := ([] : List (S63))) (inner := []) (ok := fun _ => True) (okp := fun _ => True) ?hr ?hp (fun _ hk => hk) trivial (Below.refl _ _) (Nat.le_refl _) (by simp) ?_; (case hd => rfl); (case hg => rfl); (case hr => first | (go_simp; done) | (go_simp; rfl)); (case hp => exact (Reps.none _ _))
        intro v223 w23 ho24 hb hg_ hnew_
        clear hg_ hnew_
        (first | rw [← Ny222.out] at ho24 | (simp only [Int.reduceToNat] at ho24; rw [← Ny222.out] at ho24))
        have n0_ := Aside0.mk (Kd.R_below HO215.out hb)
        have n1_ := Aside0.mk (Kd.R_below HO218.out hb)
        have n2_ := Aside0.mk (Kd.R_elder' HO230.out (Kd.R_base ho24) hb)
        have n3_ := Aside0.mk (Kd.R_lower (Kd.R_newB (Kd.R_new' ho24 (Kd.R_lt HO230.out)) BKx.out) (below_size HB.out))
        have n4_ := Aside0.mk (blk_below BKp.out hb)
        have n5_ := Aside0.mk (blk_below BKx.out hb)
        have n6_ := Aside0.mk (blk_below BKi.out hb)
        have n7_ := Aside0.mk (below_step HB.out hb)
        clear HO215 HO218 HO230 BKp BKx BKi HB
        have HO215 := n0_; have HO218 := n1_; have HO230 := n2_; have HO224 := n3_; have BKp := n4_; have BKx := n5_; have BKi := n6_; have HB := n7_
        clear n0_ n1_ n2_ n3_ n4_ n5_ n6_ n7_ hb ho24
        refine hK.out _ _ (hS0 _ BKx.out BKi.out) (fun hHeld => ?_)
        clear hK K
        refine norm_ (a' := ?_) ?_ ?_; rotate_left; (· (show Act.put _ (some 22) _ = _; simp only [Act.put, zA10, zB10, zC10, i64_w, i32_w]; rfl))
        exact norm_ (by simp only [putAll, Act.put, zA10, zB10, zC10] <;> rfl) (hJ0_2_4_6_10 (v211, v214, .slice Ao24 y216.length co24, v223, v229) _ ⟨hHeld, HO215.out, HO218.out, (Kd.R_mono HO224.out (fun _ hk => ⟨hk.1.2, hk.2⟩)), (Kd.R_mono HO230.out (fun _ hk => ⟨hk.2, hk.1⟩)), BKp.out, BKx.out, BKi.out, HB.out⟩)
    intro hJ0_2_4_10
    refine join_ (σ := Value × Value × Value × Value) 6 q10_9 (fun s_ => [(16, s_.1), (18, s_.2.1), (22, s_.2.2.1), (26, s_.2.2.2)]) (fun s_ w' => S0 w' ∧ (Kd.R k28 28 w' w.heap.size (fun k_ => k_ ≠ gi) s_.2.1 y213) ∧ (Kd.R k63 63 w' w.heap.size (fun k_ => some k_ ≠ (s_.2.2.2 : Value).ownBlock ∧ k_ ≠ gx) s_.2.2.1 y222) ∧ (Kd.R k63 63 w' w.heap.size (fun k_ => some k_ ≠ (s_.2.2.1 : Value).ownBlock ∧ k_ ≠ gx) s_.2.2.2 y228) ∧ (w'.heap[gp]? = some (.cells cs7 26 (0, 0))) ∧ (w'.heap[gx]? = some (.cells cs8 63 (0, 0))) ∧ (w'.heap[gi]? = some (.cells cs9 28 (0, 0))) ∧ (Below w.heap.size w w')) ?_ ?_
    · skip
      rintro ⟨v211, v214, v223, v229⟩ w22 ⟨hS_, h0_, h1_, h2_, h3_, h4_, h5_, h6_⟩
      have n0_ : Aside0 (Kd.R k28 28 w22 w.heap.size (fun k_ => k_ ≠ gi) v214 y213) := ⟨h0_⟩
      have n1_ : Aside0 (Kd.R k63 63 w22 w.heap.size (fun k_ => some k_ ≠ (v229 : Value).ownBlock ∧ k_ ≠ gx) v223 y222) := ⟨h1_⟩
      have n2_ : Aside0 (Kd.R k63 63 w22 w.heap.size (fun k_ => some k_ ≠ (v223 : Value).ownBlock ∧ k_ ≠ gx) v229 y228) := ⟨h2_⟩
      have n3_ : Aside0 (w22.heap[gp]? = some (.cells cs7 26 (0, 0))) := ⟨h3_⟩
      have n4_ : Aside0 (w22.heap[gx]? = some (.cells cs8 63 (0, 0))) := ⟨h4_⟩
      have n5_ : Aside0 (w22.heap[gi]? = some (.cells cs9 28 (0, 0))) := ⟨h5_⟩
      have n6_ : Aside0 (Below w.heap.size w w22) := ⟨h6_⟩
      clear BKp BKx BKi HB h0_ h1_ h2_ h3_ h4_ h5_ h6_
      have HO215 := n0_; have HO224 := n1_; have HO230 := n2_; have BKp := n3_; have BKx := n4_; have BKi := n5_; have HB := n6_
      clear n0_ n1_ n2_ n3_ n4_ n5_ n6_
      have hHeld : S0 w22 := hS_
      refine norm_ (a' := ?_) ?_ ?_; rotate_left; (· (simp only [putAll, Act.put, zA10, zB10, zC10]; rfl))
      refine one_ (i := 4) (N := some 20) q10_5 rfl rfl (one_of HT_.out (by kernel_rfl)) (by decide) (fun K hK => ?_)
      refine Kd.R_lit_step k28 _ 28 ?hg (N := 20) ?hd (xs := ([(⟨a4_0, a4_1, a4_2, a4_3, a4_4, a4_5⟩ : S28)] : List (S28))) (inner := [.int .i64 a4_0, .int .i64 a4_1, .int .i64 a4_2, .int .i64 a4_3, .int .i64 a4_4, .int .i64 a4_5]) (ok := fun _ => True) (okp := fun _ => True) ?hr ?hp (fun _ hk => hk) trivial (Below.refl _ _) (Nat.le_refl _) (by simp) ?_; (case hd => rfl); (case hg => rfl); (case hr => first | (go_simp; done) | (go_simp; rfl)); (case hp => exact (Reps.c6 (show Kd.M k28 _ _ _ (⟨a4_0, a4_1, a4_2, a4_3, a4_4, a4_5⟩ : S28) [.int .i64 a4_0, .int .i64 a4_1, .int .i64 a4_2, .int .i64 a4_3, .int .i64 a4_4, .int .i64 a4_5] from (k28_mkM _ _ _ (⟨a4_0, a4_1, a4_2, a4_3, a4_4, a4_5⟩ : S28) )) (Reps.none _ _)))
      intro v217 w23 ho24 hb hg_ hnew_
      clear hg_ hnew_
      (first | rw [← Ny216.out] at ho24 | (simp only [Int.reduceToNat] at ho24; rw [← Ny216.out] at ho24))
      have n0_ := Aside0.mk (Kd.R_elder' HO215.out (Kd.R_base ho24) hb)
      have n1_ := Aside0.mk (Kd.R_below HO224.out hb)
      have n2_ := Aside0.mk (Kd.R_below HO230.out hb)
      have n3_ := Aside0.mk (Kd.R_lower (Kd.R_newB (Kd.R_new' ho24 (Kd.R_lt HO215.out)) BKi.out) (below_size HB.out))
      have n4_ := Aside0.mk (blk_below BKp.out hb)
      have n5_ := Aside0.mk (blk_below BKx.out hb)
      have n6_ := Aside0.mk (blk_below BKi.out hb)
      have n7_ := Aside0.mk (below_step HB.out hb)
      clear HO215 HO224 HO230 BKp BKx BKi HB
      have HO215 := n0_; have HO224 := n1_; have HO230 := n2_; have HO218 := n3_; have BKp := n4_; have BKx := n5_; have BKi := n6_; have HB := n7_
      clear n0_ n1_ n2_ n3_ n4_ n5_ n6_ n7_ hb ho24
      refine hK.out _ _ (hS0 _ BKx.out BKi.out) (fun hHeld => ?_)
      clear hK K
      refine norm_ (a' := ?_) ?_ ?_; rotate_left; (· (show Act.put _ (some 20) _ = _; simp only [Act.put, zA10, zB10, zC10, i64_w, i32_w]; rfl))
      exact norm_ (by simp only [putAll, Act.put, zA10, zB10, zC10] <;> rfl) (hJ0_2_4_6_10 (v211, v214, v217, v223, v229) _ ⟨hHeld, (Kd.R_mono HO215.out (fun _ hk => ⟨hk.2, hk.1⟩)), (Kd.R_mono HO218.out (fun _ hk => ⟨hk.1.2, hk.2⟩)), HO224.out, HO230.out, BKp.out, BKx.out, BKi.out, HB.out⟩)
    intro hJ0_2_6_10
    refine join_ (σ := Value × Value × Value × Value) 6 q10_10 (fun s_ => [(16, s_.1), (20, s_.2.1), (22, s_.2.2.1), (26, s_.2.2.2)]) (fun s_ w' => S0 w' ∧ (Kd.R k28 28 w' w.heap.size (fun k_ => some k_ ≠ (s_.2.1 : Value).ownBlock ∧ k_ ≠ gi) s_.1 y210) ∧ (Kd.R k28 28 w' w.heap.size (fun k_ => some k_ ≠ (s_.1 : Value).ownBlock ∧ k_ ≠ gi) s_.2.1 y216) ∧ (Kd.R k63 63 w' w.heap.size (fun k_ => some k_ ≠ (s_.2.2.2 : Value).ownBlock ∧ k_ ≠ gx) s_.2.2.1 y222) ∧ (Kd.R k63 63 w' w.heap.size (fun k_ => some k_ ≠ (s_.2.2.1 : Value).ownBlock ∧ k_ ≠ gx) s_.2.2.2 y228) ∧ (w'.heap[gp]? = some (.cells cs7 26 (0, 0))) ∧ (w'.heap[gx]? = some (.cells cs8 63 (0, 0))) ∧ (w'.heap[gi]? = some (.cells cs9 28 (0, 0))) ∧ (Below w.heap.size w w')) ?_ ?_
    · skip
      rintro ⟨v211, v217, v223, v229⟩ w23 ⟨hS_, h0_, h1_, h2_, h3_, h4_, h5_, h6_, h7_⟩
      have n0_ : Aside0 (Kd.R k28 28 w23 w.heap.size (fun k_ => some k_ ≠ (v217 : Value).ownBlock ∧ k_ ≠ gi) v211 y210) := ⟨h0_⟩
      have n1_ : Aside0 (Kd.R k28 28 w23 w.heap.size (fun k_ => some k_ ≠ (v211 : Value).ownBlock ∧ k_ ≠ gi) v217 y216) := ⟨h1_⟩
      have n2_ : Aside0 (Kd.R k63 63 w23 w.heap.size (fun k_ => some k_ ≠ (v229 : Value).ownBlock ∧ k_ ≠ gx) v223 y222) := ⟨h2_⟩
      have n3_ : Aside0 (Kd.R k63 63 w23 w.heap.size (fun k_ => some k_ ≠ (v223 : Value).ownBlock ∧ k_ ≠ gx) v229 y228) := ⟨h3_⟩
      have n4_ : Aside0 (w23.heap[gp]? = some (.cells cs7 26 (0, 0))) := ⟨h4_⟩
      have n5_ : Aside0 (w23.heap[gx]? = some (.cells cs8 63 (0, 0))) := ⟨h5_⟩
      have n6_ : Aside0 (w23.heap[gi]? = some (.cells cs9 28 (0, 0))) := ⟨h6_⟩
      have n7_ : Aside0 (Below w.heap.size w w23) := ⟨h7_⟩
      clear BKp BKx BKi HB h0_ h1_ h2_ h3_ h4_ h5_ h6_ h7_
      have HO212 := n0_; have HO218 := n1_; have HO224 := n2_; have HO230 := n3_; have BKp := n4_; have BKx := n5_; have BKi := n6_; have HB := n7_
      clear n0_ n1_ n2_ n3_ n4_ n5_ n6_ n7_
      have hHeld : S0 w23 := hS_
      refine norm_ (a' := ?_) ?_ ?_; rotate_left; (· (simp only [putAll, Act.put, zA10, zB10, zC10]; rfl))
      refine one_ (i := 2) (N := some 18) q10_5 rfl rfl (one_of HT_.out (by kernel_rfl)) (by decide) (fun K hK => ?_)
      refine Kd.R_append_rows_step k28 (w0 := w) w.heap.size (by rfl) (.tmp 16) (.tmp 17) 34 28 (.agg #[(.int .i64 0), (.int .i64 0), (.int .i64 0), (.int .i64 0), (.int .i64 0), (.int .i64 0)]) 48 rfl Try.underlying34 info28 rfl (by decide) (by omega) v211 y210 l1 _ _ _ (fun k_ => some k_ ≠ (v217 : Value).ownBlock ∧ k_ ≠ gi) (fun _ => False) rfl rfl ?aO ?aR (fun _ _ h => h) (fun _ h => h.elim) ?aF ?aB ?aS ?aL ?_
      (case aR => repeat (first | exact (Kd.C_below HR1.out HB.out) | (with_reducible refine Kd.C_alloc ?_ _) | (with_reducible refine Kd.C_drewN ?_ _) | (with_reducible refine Kd.C_drew ?_)))
      (case aB => exact HB.out)
      (case aF => exact (fun k_ hk => ⟨Kd.fresh' (Kd.R_lt HO218.out) k_ hk, Kd.freshB BKi.out k_ hk⟩))
      (case aO => exact HO212.out)
      (case aS => exact (below_size HB.out))
      (case aL => have := LMc6.out; omega)
      intro v214 w24 ho hb hg hat
      rw [← Ny213.out] at ho
      have n0_ := Aside0.mk (blk_grown BKp.out hg (Kd.R_ne HO212.out BKp.out (by decide)))
      have n1_ := Aside0.mk (blk_grown BKx.out hg (Kd.R_ne HO212.out BKx.out (by decide)))
      have n2_ := Aside0.mk (blk_grown BKi.out hg (Kd.R_away HO212.out (fun _ hk => hk.2)))
      have n3_ := Aside0.mk (Kd.R_after (ok := (fun k_ => k_ ≠ gi)) (Kd.R_mono HO218.out (fun _ hk => ⟨hk.2, hk.1⟩)) hg hat)
      have n4_ := Aside0.mk (Kd.R_over' HO224.out (Kd.R_typed HO212.out) (by decide) hg)
      have n5_ := Aside0.mk (Kd.R_over' HO230.out (Kd.R_typed HO212.out) (by decide) hg)
      have n6_ := Aside0.mk (hb)
      have n7_ := Aside0.mk (ho)
      clear BKp BKx BKi HO218 HO224 HO230 HB HO212
      have BKp := n0_; have BKx := n1_; have BKi := n2_; have HO218 := n3_; have HO224 := n4_; have HO230 := n5_; have HB := n6_; have HO215 := n7_
      clear n0_ n1_ n2_ n3_ n4_ n5_ n6_ n7_ ho hb hg hat
      refine hK.out _ _ (hS0 _ BKx.out BKi.out) (fun hHeld => ?_)
      clear hK K
      refine norm_ (a' := ?_) ?_ ?_; rotate_left; (· (show Act.put _ (some 18) _ = _; simp only [Act.put, zA10, zB10, zC10, i64_w, i32_w]; rfl))
      exact norm_ (by simp only [putAll, Act.put, zA10, zB10, zC10] <;> rfl) (hJ0_2_4_6_10 (v211, v214, v217, v223, v229) _ ⟨hHeld, HO215.out, (Kd.R_mono HO218.out (fun _ hk => ⟨hk.2, hk.1⟩)), HO224.out, HO230.out, BKp.out, BKx.out, BKi.out, HB.out⟩)
    intro hJ0_4_6_10
    refine join_ (σ := Value × Value × Value) 7 q10_11 (fun s_ => [(16, s_.1), (18, s_.2.1), (20, s_.2.2)]) (fun s_ w' => S0 w' ∧ (Kd.R k28 28 w' w.heap.size (fun k_ => some k_ ≠ (s_.2.2 : Value).ownBlock ∧ k_ ≠ gi) s_.2.1 y213) ∧ (Kd.R k28 28 w' w.heap.size (fun k_ => some k_ ≠ (s_.2.1 : Value).ownBlock ∧ k_ ≠ gi) s_.2.2 y216) ∧ (w'.heap[gp]? = some (.cells cs7 26 (0, 0))) ∧ (w'.heap[gx]? = some (.cells cs8 63 (0, 0))) ∧ (w'.heap[gi]? = some (.cells cs9 28 (0, 0))) ∧ (Below w.heap.size w w')) ?_ ?_
    · skip
      rintro ⟨v211, v214, v217⟩ w20 ⟨hS_, h0_, h1_, h2_, h3_, h4_, h5_⟩
      have n0_ : Aside0 (Kd.R k28 28 w20 w.heap.size (fun k_ => some k_ ≠ (v217 : Value).ownBlock ∧ k_ ≠ gi) v214 y213) := ⟨h0_⟩
      have n1_ : Aside0 (Kd.R k28 28 w20 w.heap.size (fun k_ => some k_ ≠ (v214 : Value).ownBlock ∧ k_ ≠ gi) v217 y216) := ⟨h1_⟩
      have n2_ : Aside0 (w20.heap[gp]? = some (.cells cs7 26 (0, 0))) := ⟨h2_⟩
      have n3_ : Aside0 (w20.heap[gx]? = some (.cells cs8 63 (0, 0))) := ⟨h3_⟩
      have n4_ : Aside0 (w20.heap[gi]? = some (.cells cs9 28 (0, 0))) := ⟨h4_⟩
      have n5_ : Aside0 (Below w.heap.size w w20) := ⟨h5_⟩
      clear BKp BKx BKi HB h0_ h1_ h2_ h3_ h4_ h5_
      have HO215 := n0_; have HO218 := n1_; have BKp := n2_; have BKx := n3_; have BKi := n4_; have HB := n5_
      clear n0_ n1_ n2_ n3_ n4_ n5_
      have hHeld : S0 w20 := hS_
      obtain ⟨Ao22, co22, eo22⟩ := Kd.R_slice HO218.out
      (first | subst eo22 | (injection eo22 with f1_ f2_ f3_; have f4_ := f1_.symm; have f5_ := f3_.symm; clear f1_ f2_ f3_; subst f4_; subst f5_))
      refine norm_ (a' := ?_) ?_ ?_; rotate_left; (· (simp only [putAll, Act.put, zA10, zB10, zC10]; rfl))
      refine three_ (i := 5) (j := 6) (k := 10) (Ni := some 21) (Nj := some 22) (Nk := some 26) q10_6 q10_7 q10_8 rfl rfl rfl rfl rfl rfl (three_of HT_.out (by kernel_rfl)) (by decide) (by decide) (by decide) (fun K hK => ?_) (fun K hK => ?_) (fun K hK => ?_)
      · skip
        refine Kd.R_append_rows_step k28 (w0 := w) w.heap.size (by rfl) (.tmp 18) (.tmp 20) 34 28 (.agg #[(.int .i64 0), (.int .i64 0), (.int .i64 0), (.int .i64 0), (.int .i64 0), (.int .i64 0)]) 48 rfl Try.underlying34 info28 rfl (by decide) (by omega) v214 y213 y216 _ _ _ (fun k_ => some k_ ≠ (.slice Ao22 y216.length co22 : Value).ownBlock ∧ k_ ≠ gi) (fun _ => False) rfl rfl ?aO ?aR (fun _ _ h => h) (fun _ h => h.elim) ?aF ?aB ?aS ?aL ?_
        (case aR => repeat (first | exact (Kd.R_reads' HO218.out).2.2 | (with_reducible refine Kd.C_alloc ?_ _) | (with_reducible refine Kd.C_drewN ?_ _) | (with_reducible refine Kd.C_drew ?_)))
        (case aB => exact HB.out)
        (case aF => exact (fun k_ hk => ⟨Kd.fresh' (Kd.R_lt HO218.out) k_ hk, Kd.freshB BKi.out k_ hk⟩))
        (case aO => exact HO215.out)
        (case aS => exact (below_size HB.out))
        (case aL => have := LMc7.out; omega)
        intro v220 w21 ho hb hg hat
        rw [← Ny219.out] at ho
        have n0_ := Aside0.mk (blk_grown BKp.out hg (Kd.R_ne HO215.out BKp.out (by decide)))
        have n1_ := Aside0.mk (blk_grown BKx.out hg (Kd.R_ne HO215.out BKx.out (by decide)))
        have n2_ := Aside0.mk (blk_grown BKi.out hg (Kd.R_away HO215.out (fun _ hk => hk.2)))
        have n3_ := Aside0.mk (Kd.R_after (ok := (fun k_ => k_ ≠ gi)) (Kd.R_mono HO218.out (fun _ hk => ⟨hk.2, hk.1⟩)) hg hat)
        have n4_ := Aside0.mk (hb)
        have n5_ := Aside0.mk (ho)
        clear BKp BKx BKi HO218 HB HO215
        have BKp := n0_; have BKx := n1_; have BKi := n2_; have HO218 := n3_; have HB := n4_; have HO221 := n5_
        clear n0_ n1_ n2_ n3_ n4_ n5_ ho hb hg hat
        refine hK.out _ _ (hS0 _ BKx.out BKi.out) (fun hHeld => ?_)
        clear hK K
        refine norm_ (a' := ?_) ?_ ?_; rotate_left; (· (show Act.put _ (some 21) _ = _; simp only [Act.put, zA10, zB10, zC10, i64_w, i32_w]; rfl))
        exact norm_ (by simp only [putAll, Act.put, zA10, zB10, zC10] <;> rfl) (hJ0_2_4_5 (v211, v214, .slice Ao22 y216.length co22, v220) _ ⟨hHeld, (Kd.R_mono HO218.out (fun _ hk => ⟨hk.2, hk.1⟩)), HO221.out, BKp.out, BKx.out, BKi.out, HB.out⟩)
      · skip
        refine Kd.R_lit_step k63 _ 63 ?hg (N := 22) ?hd (xs := ([] : List (S63))) (inner := []) (ok := fun _ => True) (okp := fun _ => True) ?hr ?hp (fun _ hk => hk) trivial (Below.refl _ _) (Nat.le_refl _) (by simp) ?_; (case hd => rfl); (case hg => rfl); (case hr => first | (go_simp; done) | (go_simp; rfl)); (case hp => exact (Reps.none _ _))
        intro v223 w21 ho22 hb hg_ hnew_
        clear hg_ hnew_
        (first | rw [← Ny222.out] at ho22 | (simp only [Int.reduceToNat] at ho22; rw [← Ny222.out] at ho22))
        have n0_ := Aside0.mk (Kd.R_below HO215.out hb)
        have n1_ := Aside0.mk (Kd.R_below HO218.out hb)
        have n2_ := Aside0.mk (Kd.R_lower (Kd.R_newB ho22 BKx.out) (below_size HB.out))
        have n3_ := Aside0.mk (blk_below BKp.out hb)
        have n4_ := Aside0.mk (blk_below BKx.out hb)
        have n5_ := Aside0.mk (blk_below BKi.out hb)
        have n6_ := Aside0.mk (below_step HB.out hb)
        clear HO215 HO218 BKp BKx BKi HB
        have HO215 := n0_; have HO218 := n1_; have HO224 := n2_; have BKp := n3_; have BKx := n4_; have BKi := n5_; have HB := n6_
        clear n0_ n1_ n2_ n3_ n4_ n5_ n6_ hb ho22
        refine hK.out _ _ (hS0 _ BKx.out BKi.out) (fun hHeld => ?_)
        clear hK K
        refine norm_ (a' := ?_) ?_ ?_; rotate_left; (· (show Act.put _ (some 22) _ = _; simp only [Act.put, zA10, zB10, zC10, i64_w, i32_w]; rfl))
        exact norm_ (by simp only [putAll, Act.put, zA10, zB10, zC10] <;> rfl) (hJ0_2_4_6 (v211, v214, .slice Ao22 y216.length co22, v223) _ ⟨hHeld, HO215.out, HO218.out, (Kd.R_mono HO224.out (fun _ hk => hk.2)), BKp.out, BKx.out, BKi.out, HB.out⟩)
      · skip
        refine Kd.R_lit_step k63 _ 63 ?hg (N := 26) ?hd (xs := ([(⟨a3_0, a3_1, a3_2, a3_3⟩ : S63)] : List (S63))) (inner := [.int .i64 a3_0, .int .i64 a3_1, .int .i64 a3_2, .int .i64 a3_3]) (ok := fun _ => True) (okp := fun _ => True) ?hr ?hp (fun _ hk => hk) trivial (Below.refl _ _) (Nat.le_refl _) (by simp) ?_; (case hd => rfl); (case hg => rfl); (case hr => first | (go_simp; done) | (go_simp; rfl)); (case hp => exact (Reps.c4 (show Kd.M k63 _ _ _ (⟨a3_0, a3_1, a3_2, a3_3⟩ : S63) [.int .i64 a3_0, .int .i64 a3_1, .int .i64 a3_2, .int .i64 a3_3] from (k63_mkM _ _ _ (⟨a3_0, a3_1, a3_2, a3_3⟩ : S63) )) (Reps.none _ _)))
        intro v229 w21 ho22 hb hg_ hnew_
        clear hg_ hnew_
        (first | rw [← Ny228.out] at ho22 | (simp only [Int.reduceToNat] at ho22; rw [← Ny228.out] at ho22))
        have n0_ := Aside0.mk (Kd.R_below HO215.out hb)
        have n1_ := Aside0.mk (Kd.R_below HO218.out hb)
        have n2_ := Aside0.mk (Kd.R_lower (Kd.R_newB ho22 BKx.out) (below_size HB.out))
        have n3_ := Aside0.mk (blk_below BKp.out hb)
        have n4_ := Aside0.mk (blk_below BKx.out hb)
        have n5_ := Aside0.mk (blk_below BKi.out hb)
        have n6_ := Aside0.mk (below_step HB.out hb)
        clear HO215 HO218 BKp BKx BKi HB
        have HO215 := n0_; have HO218 := n1_; have HO230 := n2_; have BKp := n3_; have BKx := n4_; have BKi := n5_; have HB := n6_
        clear n0_ n1_ n2_ n3_ n4_ n5_ n6_ hb ho22
        refine hK.out _ _ (hS0 _ BKx.out BKi.out) (fun hHeld => ?_)
        clear hK K
        refine norm_ (a' := ?_) ?_ ?_; rotate_left; (· (show Act.put _ (some 26) _ = _; simp only [Act.put, zA10, zB10, zC10, i64_w, i32_w]; rfl))
        exact norm_ (by simp only [putAll, Act.put, zA10, zB10, zC10] <;> rfl) (hJ0_2_4_10 (v211, v214, .slice Ao22 y216.length co22, v229) _ ⟨hHeld, HO215.out, HO218.out, (Kd.R_mono HO230.out (fun _ hk => hk.2)), BKp.out, BKx.out, BKi.out, HB.out⟩)
    intro hJ0_2_4
    refine join_ (σ := Value × Value × Value) 7 q10_12 (fun s_ => [(16, s_.1), (18, s_.2.1), (22, s_.2.2)]) (fun s_ w' => S0 w' ∧ (Kd.R k28 28 w' w.heap.size (fun k_ => k_ ≠ gi) s_.2.1 y213) ∧ (Kd.R k63 63 w' w.heap.size (fun k_ => k_ ≠ gx) s_.2.2 y222) ∧ (w'.heap[gp]? = some (.cells cs7 26 (0, 0))) ∧ (w'.heap[gx]? = some (.cells cs8 63 (0, 0))) ∧ (w'.heap[gi]? = some (.cells cs9 28 (0, 0))) ∧ (Below w.heap.size w w')) ?_ ?_
    · skip
      rintro ⟨v211, v214, v223⟩ w20 ⟨hS_, h0_, h1_, h2_, h3_, h4_, h5_⟩
      have n0_ : Aside0 (Kd.R k28 28 w20 w.heap.size (fun k_ => k_ ≠ gi) v214 y213) := ⟨h0_⟩
      have n1_ : Aside0 (Kd.R k63 63 w20 w.heap.size (fun k_ => k_ ≠ gx) v223 y222) := ⟨h1_⟩
      have n2_ : Aside0 (w20.heap[gp]? = some (.cells cs7 26 (0, 0))) := ⟨h2_⟩
      have n3_ : Aside0 (w20.heap[gx]? = some (.cells cs8 63 (0, 0))) := ⟨h3_⟩
      have n4_ : Aside0 (w20.heap[gi]? = some (.cells cs9 28 (0, 0))) := ⟨h4_⟩
      have n5_ : Aside0 (Below w.heap.size w w20) := ⟨h5_⟩
      clear BKp BKx BKi HB h0_ h1_ h2_ h3_ h4_ h5_
      have HO215 := n0_; have HO224 := n1_; have BKp := n2_; have BKx := n3_; have BKi := n4_; have HB := n5_
      clear n0_ n1_ n2_ n3_ n4_ n5_
      have hHeld : S0 w20 := hS_
      refine norm_ (a' := ?_) ?_ ?_; rotate_left; (· (simp only [putAll, Act.put, zA10, zB10, zC10]; rfl))
      refine two_ (i := 4) (j := 10) (Ni := some 20) (Nj := some 26) q10_7 q10_9 rfl rfl rfl rfl (two_of HT_.out (by kernel_rfl)) (by decide) (by decide) (fun K hK => ?_) (fun K hK => ?_)
      · skip
        refine Kd.R_lit_step k28 _ 28 ?hg (N := 20) ?hd (xs := ([(⟨a4_0, a4_1, a4_2, a4_3, a4_4, a4_5⟩ : S28)] : List (S28))) (inner := [.int .i64 a4_0, .int .i64 a4_1, .int .i64 a4_2, .int .i64 a4_3, .int .i64 a4_4, .int .i64 a4_5]) (ok := fun _ => True) (okp := fun _ => True) ?hr ?hp (fun _ hk => hk) trivial (Below.refl _ _) (Nat.le_refl _) (by simp) ?_; (case hd => rfl); (case hg => rfl); (case hr => first | (go_simp; done) | (go_simp; rfl)); (case hp => exact (Reps.c6 (show Kd.M k28 _ _ _ (⟨a4_0, a4_1, a4_2, a4_3, a4_4, a4_5⟩ : S28) [.int .i64 a4_0, .int .i64 a4_1, .int .i64 a4_2, .int .i64 a4_3, .int .i64 a4_4, .int .i64 a4_5] from (k28_mkM _ _ _ (⟨a4_0, a4_1, a4_2, a4_3, a4_4, a4_5⟩ : S28) )) (Reps.none _ _)))
        intro v217 w21 ho22 hb hg_ hnew_
        clear hg_ hnew_
        (first | rw [← Ny216.out] at ho22 | (simp only [Int.reduceToNat] at ho22; rw [← Ny216.out] at ho22))
        have n0_ := Aside0.mk (Kd.R_elder' HO215.out (Kd.R_base ho22) hb)
        have n1_ := Aside0.mk (Kd.R_below HO224.out hb)
        have n2_ := Aside0.mk (Kd.R_lower (Kd.R_newB (Kd.R_new' ho22 (Kd.R_lt HO215.out)) BKi.out) (below_size HB.out))
        have n3_ := Aside0.mk (blk_below BKp.out hb)
        have n4_ := Aside0.mk (blk_below BKx.out hb)
        have n5_ := Aside0.mk (blk_below BKi.out hb)
        have n6_ := Aside0.mk (below_step HB.out hb)
        clear HO215 HO224 BKp BKx BKi HB
        have HO215 := n0_; have HO224 := n1_; have HO218 := n2_; have BKp := n3_; have BKx := n4_; have BKi := n5_; have HB := n6_
        clear n0_ n1_ n2_ n3_ n4_ n5_ n6_ hb ho22
        refine hK.out _ _ (hS0 _ BKx.out BKi.out) (fun hHeld => ?_)
        clear hK K
        refine norm_ (a' := ?_) ?_ ?_; rotate_left; (· (show Act.put _ (some 20) _ = _; simp only [Act.put, zA10, zB10, zC10, i64_w, i32_w]; rfl))
        exact norm_ (by simp only [putAll, Act.put, zA10, zB10, zC10] <;> rfl) (hJ0_2_4_6 (v211, v214, v217, v223) _ ⟨hHeld, (Kd.R_mono HO215.out (fun _ hk => ⟨hk.2, hk.1⟩)), (Kd.R_mono HO218.out (fun _ hk => ⟨hk.1.2, hk.2⟩)), HO224.out, BKp.out, BKx.out, BKi.out, HB.out⟩)
      · skip
        refine Kd.R_lit_step k63 _ 63 ?hg (N := 26) ?hd (xs := ([(⟨a3_0, a3_1, a3_2, a3_3⟩ : S63)] : List (S63))) (inner := [.int .i64 a3_0, .int .i64 a3_1, .int .i64 a3_2, .int .i64 a3_3]) (ok := fun _ => True) (okp := fun _ => True) ?hr ?hp (fun _ hk => hk) trivial (Below.refl _ _) (Nat.le_refl _) (by simp) ?_; (case hd => rfl); (case hg => rfl); (case hr => first | (go_simp; done) | (go_simp; rfl)); (case hp => exact (Reps.c4 (show Kd.M k63 _ _ _ (⟨a3_0, a3_1, a3_2, a3_3⟩ : S63) [.int .i64 a3_0, .int .i64 a3_1, .int .i64 a3_2, .int .i64 a3_3] from (k63_mkM _ _ _ (⟨a3_0, a3_1, a3_2, a3_3⟩ : S63) )) (Reps.none _ _)))
        intro v229 w21 ho22 hb hg_ hnew_
        clear hg_ hnew_
        (first | rw [← Ny228.out] at ho22 | (simp only [Int.reduceToNat] at ho22; rw [← Ny228.out] at ho22))
        have n0_ := Aside0.mk (Kd.R_below HO215.out hb)
        have n1_ := Aside0.mk (Kd.R_elder' HO224.out (Kd.R_base ho22) hb)
        have n2_ := Aside0.mk (Kd.R_lower (Kd.R_newB (Kd.R_new' ho22 (Kd.R_lt HO224.out)) BKx.out) (below_size HB.out))
        have n3_ := Aside0.mk (blk_below BKp.out hb)
        have n4_ := Aside0.mk (blk_below BKx.out hb)
        have n5_ := Aside0.mk (blk_below BKi.out hb)
        have n6_ := Aside0.mk (below_step HB.out hb)
        clear HO215 HO224 BKp BKx BKi HB
        have HO215 := n0_; have HO224 := n1_; have HO230 := n2_; have BKp := n3_; have BKx := n4_; have BKi := n5_; have HB := n6_
        clear n0_ n1_ n2_ n3_ n4_ n5_ n6_ hb ho22
        refine hK.out _ _ (hS0 _ BKx.out BKi.out) (fun hHeld => ?_)
        clear hK K
        refine norm_ (a' := ?_) ?_ ?_; rotate_left; (· (show Act.put _ (some 26) _ = _; simp only [Act.put, zA10, zB10, zC10, i64_w, i32_w]; rfl))
        exact norm_ (by simp only [putAll, Act.put, zA10, zB10, zC10] <;> rfl) (hJ0_2_6_10 (v211, v214, v223, v229) _ ⟨hHeld, HO215.out, (Kd.R_mono HO224.out (fun _ hk => ⟨hk.2, hk.1⟩)), (Kd.R_mono HO230.out (fun _ hk => ⟨hk.1.2, hk.2⟩)), BKp.out, BKx.out, BKi.out, HB.out⟩)
    intro hJ0_2_6
    refine join_ (σ := Value × Value × Value) 7 q10_13 (fun s_ => [(16, s_.1), (18, s_.2.1), (26, s_.2.2)]) (fun s_ w' => S0 w' ∧ (Kd.R k28 28 w' w.heap.size (fun k_ => k_ ≠ gi) s_.2.1 y213) ∧ (Kd.R k63 63 w' w.heap.size (fun k_ => k_ ≠ gx) s_.2.2 y228) ∧ (w'.heap[gp]? = some (.cells cs7 26 (0, 0))) ∧ (w'.heap[gx]? = some (.cells cs8 63 (0, 0))) ∧ (w'.heap[gi]? = some (.cells cs9 28 (0, 0))) ∧ (Below w.heap.size w w')) ?_ ?_
    · skip
      rintro ⟨v211, v214, v229⟩ w20 ⟨hS_, h0_, h1_, h2_, h3_, h4_, h5_⟩
      have n0_ : Aside0 (Kd.R k28 28 w20 w.heap.size (fun k_ => k_ ≠ gi) v214 y213) := ⟨h0_⟩
      have n1_ : Aside0 (Kd.R k63 63 w20 w.heap.size (fun k_ => k_ ≠ gx) v229 y228) := ⟨h1_⟩
      have n2_ : Aside0 (w20.heap[gp]? = some (.cells cs7 26 (0, 0))) := ⟨h2_⟩
      have n3_ : Aside0 (w20.heap[gx]? = some (.cells cs8 63 (0, 0))) := ⟨h3_⟩
      have n4_ : Aside0 (w20.heap[gi]? = some (.cells cs9 28 (0, 0))) := ⟨h4_⟩
      have n5_ : Aside0 (Below w.heap.size w w20) := ⟨h5_⟩
      clear BKp BKx BKi HB h0_ h1_ h2_ h3_ h4_ h5_
      have HO215 := n0_; have HO230 := n1_; have BKp := n2_; have BKx := n3_; have BKi := n4_; have HB := n5_
      clear n0_ n1_ n2_ n3_ n4_ n5_
      have hHeld : S0 w20 := hS_
      refine norm_ (a' := ?_) ?_ ?_; rotate_left; (· (simp only [putAll, Act.put, zA10, zB10, zC10]; rfl))
      refine two_ (i := 4) (j := 6) (Ni := some 20) (Nj := some 22) q10_8 q10_9 rfl rfl rfl rfl (two_of HT_.out (by kernel_rfl)) (by decide) (by decide) (fun K hK => ?_) (fun K hK => ?_)
      · skip
        refine Kd.R_lit_step k28 _ 28 ?hg (N := 20) ?hd (xs := ([(⟨a4_0, a4_1, a4_2, a4_3, a4_4, a4_5⟩ : S28)] : List (S28))) (inner := [.int .i64 a4_0, .int .i64 a4_1, .int .i64 a4_2, .int .i64 a4_3, .int .i64 a4_4, .int .i64 a4_5]) (ok := fun _ => True) (okp := fun _ => True) ?hr ?hp (fun _ hk => hk) trivial (Below.refl _ _) (Nat.le_refl _) (by simp) ?_; (case hd => rfl); (case hg => rfl); (case hr => first | (go_simp; done) | (go_simp; rfl)); (case hp => exact (Reps.c6 (show Kd.M k28 _ _ _ (⟨a4_0, a4_1, a4_2, a4_3, a4_4, a4_5⟩ : S28) [.int .i64 a4_0, .int .i64 a4_1, .int .i64 a4_2, .int .i64 a4_3, .int .i64 a4_4, .int .i64 a4_5] from (k28_mkM _ _ _ (⟨a4_0, a4_1, a4_2, a4_3, a4_4, a4_5⟩ : S28) )) (Reps.none _ _)))
        intro v217 w21 ho22 hb hg_ hnew_
        clear hg_ hnew_
        (first | rw [← Ny216.out] at ho22 | (simp only [Int.reduceToNat] at ho22; rw [← Ny216.out] at ho22))
        have n0_ := Aside0.mk (Kd.R_elder' HO215.out (Kd.R_base ho22) hb)
        have n1_ := Aside0.mk (Kd.R_below HO230.out hb)
        have n2_ := Aside0.mk (Kd.R_lower (Kd.R_newB (Kd.R_new' ho22 (Kd.R_lt HO215.out)) BKi.out) (below_size HB.out))
        have n3_ := Aside0.mk (blk_below BKp.out hb)
        have n4_ := Aside0.mk (blk_below BKx.out hb)
        have n5_ := Aside0.mk (blk_below BKi.out hb)
        have n6_ := Aside0.mk (below_step HB.out hb)
        clear HO215 HO230 BKp BKx BKi HB
        have HO215 := n0_; have HO230 := n1_; have HO218 := n2_; have BKp := n3_; have BKx := n4_; have BKi := n5_; have HB := n6_
        clear n0_ n1_ n2_ n3_ n4_ n5_ n6_ hb ho22
        refine hK.out _ _ (hS0 _ BKx.out BKi.out) (fun hHeld => ?_)
        clear hK K
        refine norm_ (a' := ?_) ?_ ?_; rotate_left; (· (show Act.put _ (some 20) _ = _; simp only [Act.put, zA10, zB10, zC10, i64_w, i32_w]; rfl))
        exact norm_ (by simp only [putAll, Act.put, zA10, zB10, zC10] <;> rfl) (hJ0_2_4_10 (v211, v214, v217, v229) _ ⟨hHeld, (Kd.R_mono HO215.out (fun _ hk => ⟨hk.2, hk.1⟩)), (Kd.R_mono HO218.out (fun _ hk => ⟨hk.1.2, hk.2⟩)), HO230.out, BKp.out, BKx.out, BKi.out, HB.out⟩)
      · skip
        refine Kd.R_lit_step k63 _ 63 ?hg (N := 22) ?hd (xs := ([] : List (S63))) (inner := []) (ok := fun _ => True) (okp := fun _ => True) ?hr ?hp (fun _ hk => hk) trivial (Below.refl _ _) (Nat.le_refl _) (by simp) ?_; (case hd => rfl); (case hg => rfl); (case hr => first | (go_simp; done) | (go_simp; rfl)); (case hp => exact (Reps.none _ _))
        intro v223 w21 ho22 hb hg_ hnew_
        clear hg_ hnew_
        (first | rw [← Ny222.out] at ho22 | (simp only [Int.reduceToNat] at ho22; rw [← Ny222.out] at ho22))
        have n0_ := Aside0.mk (Kd.R_below HO215.out hb)
        have n1_ := Aside0.mk (Kd.R_elder' HO230.out (Kd.R_base ho22) hb)
        have n2_ := Aside0.mk (Kd.R_lower (Kd.R_newB (Kd.R_new' ho22 (Kd.R_lt HO230.out)) BKx.out) (below_size HB.out))
        have n3_ := Aside0.mk (blk_below BKp.out hb)
        have n4_ := Aside0.mk (blk_below BKx.out hb)
        have n5_ := Aside0.mk (blk_below BKi.out hb)
        have n6_ := Aside0.mk (below_step HB.out hb)
        clear HO215 HO230 BKp BKx BKi HB
        have HO215 := n0_; have HO230 := n1_; have HO224 := n2_; have BKp := n3_; have BKx := n4_; have BKi := n5_; have HB := n6_
        clear n0_ n1_ n2_ n3_ n4_ n5_ n6_ hb ho22
        refine hK.out _ _ (hS0 _ BKx.out BKi.out) (fun hHeld => ?_)
        clear hK K
        refine norm_ (a' := ?_) ?_ ?_; rotate_left; (· (show Act.put _ (some 22) _ = _; simp only [Act.put, zA10, zB10, zC10, i64_w, i32_w]; rfl))
        exact norm_ (by simp only [putAll, Act.put, zA10, zB10, zC10] <;> rfl) (hJ0_2_6_10 (v211, v214, v223, v229) _ ⟨hHeld, HO215.out, (Kd.R_mono HO224.out (fun _ hk => ⟨hk.1.2, hk.2⟩)), (Kd.R_mono HO230.out (fun _ hk => ⟨hk.2, hk.1⟩)), BKp.out, BKx.out, BKi.out, HB.out⟩)
    intro hJ0_2_10
    refine join_ (σ := Value × Value × Value) 7 q10_14 (fun s_ => [(16, s_.1), (20, s_.2.1), (22, s_.2.2)]) (fun s_ w' => S0 w' ∧ (Kd.R k28 28 w' w.heap.size (fun k_ => some k_ ≠ (s_.2.1 : Value).ownBlock ∧ k_ ≠ gi) s_.1 y210) ∧ (Kd.R k28 28 w' w.heap.size (fun k_ => some k_ ≠ (s_.1 : Value).ownBlock ∧ k_ ≠ gi) s_.2.1 y216) ∧ (Kd.R k63 63 w' w.heap.size (fun k_ => k_ ≠ gx) s_.2.2 y222) ∧ (w'.heap[gp]? = some (.cells cs7 26 (0, 0))) ∧ (w'.heap[gx]? = some (.cells cs8 63 (0, 0))) ∧ (w'.heap[gi]? = some (.cells cs9 28 (0, 0))) ∧ (Below w.heap.size w w')) ?_ ?_
    · skip
      rintro ⟨v211, v217, v223⟩ w21 ⟨hS_, h0_, h1_, h2_, h3_, h4_, h5_, h6_⟩
      have n0_ : Aside0 (Kd.R k28 28 w21 w.heap.size (fun k_ => some k_ ≠ (v217 : Value).ownBlock ∧ k_ ≠ gi) v211 y210) := ⟨h0_⟩
      have n1_ : Aside0 (Kd.R k28 28 w21 w.heap.size (fun k_ => some k_ ≠ (v211 : Value).ownBlock ∧ k_ ≠ gi) v217 y216) := ⟨h1_⟩
      have n2_ : Aside0 (Kd.R k63 63 w21 w.heap.size (fun k_ => k_ ≠ gx) v223 y222) := ⟨h2_⟩
      have n3_ : Aside0 (w21.heap[gp]? = some (.cells cs7 26 (0, 0))) := ⟨h3_⟩
      have n4_ : Aside0 (w21.heap[gx]? = some (.cells cs8 63 (0, 0))) := ⟨h4_⟩
      have n5_ : Aside0 (w21.heap[gi]? = some (.cells cs9 28 (0, 0))) := ⟨h5_⟩
      have n6_ : Aside0 (Below w.heap.size w w21) := ⟨h6_⟩
      clear BKp BKx BKi HB h0_ h1_ h2_ h3_ h4_ h5_ h6_
      have HO212 := n0_; have HO218 := n1_; have HO224 := n2_; have BKp := n3_; have BKx := n4_; have BKi := n5_; have HB := n6_
      clear n0_ n1_ n2_ n3_ n4_ n5_ n6_
      have hHeld : S0 w21 := hS_
      refine norm_ (a' := ?_) ?_ ?_; rotate_left; (· (simp only [putAll, Act.put, zA10, zB10, zC10]; rfl))
      refine two_ (i := 2) (j := 10) (Ni := some 18) (Nj := some 26) q10_7 q10_10 rfl rfl rfl rfl (two_of HT_.out (by kernel_rfl)) (by decide) (by decide) (fun K hK => ?_) (fun K hK => ?_)
      · skip
        refine Kd.R_append_rows_step k28 (w0 := w) w.heap.size (by rfl) (.tmp 16) (.tmp 17) 34 28 (.agg #[(.int .i64 0), (.int .i64 0), (.int .i64 0), (.int .i64 0), (.int .i64 0), (.int .i64 0)]) 48 rfl Try.underlying34 info28 rfl (by decide) (by omega) v211 y210 l1 _ _ _ (fun k_ => some k_ ≠ (v217 : Value).ownBlock ∧ k_ ≠ gi) (fun _ => False) rfl rfl ?aO ?aR (fun _ _ h => h) (fun _ h => h.elim) ?aF ?aB ?aS ?aL ?_
        (case aR => repeat (first | exact (Kd.C_below HR1.out HB.out) | (with_reducible refine Kd.C_alloc ?_ _) | (with_reducible refine Kd.C_drewN ?_ _) | (with_reducible refine Kd.C_drew ?_)))
        (case aB => exact HB.out)
        (case aF => exact (fun k_ hk => ⟨Kd.fresh' (Kd.R_lt HO218.out) k_ hk, Kd.freshB BKi.out k_ hk⟩))
        (case aO => exact HO212.out)
        (case aS => exact (below_size HB.out))
        (case aL => have := LMc6.out; omega)
        intro v214 w22 ho hb hg hat
        rw [← Ny213.out] at ho
        have n0_ := Aside0.mk (blk_grown BKp.out hg (Kd.R_ne HO212.out BKp.out (by decide)))
        have n1_ := Aside0.mk (blk_grown BKx.out hg (Kd.R_ne HO212.out BKx.out (by decide)))
        have n2_ := Aside0.mk (blk_grown BKi.out hg (Kd.R_away HO212.out (fun _ hk => hk.2)))
        have n3_ := Aside0.mk (Kd.R_after (ok := (fun k_ => k_ ≠ gi)) (Kd.R_mono HO218.out (fun _ hk => ⟨hk.2, hk.1⟩)) hg hat)
        have n4_ := Aside0.mk (Kd.R_over' HO224.out (Kd.R_typed HO212.out) (by decide) hg)
        have n5_ := Aside0.mk (hb)
        have n6_ := Aside0.mk (ho)
        clear BKp BKx BKi HO218 HO224 HB HO212
        have BKp := n0_; have BKx := n1_; have BKi := n2_; have HO218 := n3_; have HO224 := n4_; have HB := n5_; have HO215 := n6_
        clear n0_ n1_ n2_ n3_ n4_ n5_ n6_ ho hb hg hat
        refine hK.out _ _ (hS0 _ BKx.out BKi.out) (fun hHeld => ?_)
        clear hK K
        refine norm_ (a' := ?_) ?_ ?_; rotate_left; (· (show Act.put _ (some 18) _ = _; simp only [Act.put, zA10, zB10, zC10, i64_w, i32_w]; rfl))
        exact norm_ (by simp only [putAll, Act.put, zA10, zB10, zC10] <;> rfl) (hJ0_2_4_6 (v211, v214, v217, v223) _ ⟨hHeld, HO215.out, (Kd.R_mono HO218.out (fun _ hk => ⟨hk.2, hk.1⟩)), HO224.out, BKp.out, BKx.out, BKi.out, HB.out⟩)
      · skip
        refine Kd.R_lit_step k63 _ 63 ?hg (N := 26) ?hd (xs := ([(⟨a3_0, a3_1, a3_2, a3_3⟩ : S63)] : List (S63))) (inner := [.int .i64 a3_0, .int .i64 a3_1, .int .i64 a3_2, .int .i64 a3_3]) (ok := fun _ => True) (okp := fun _ => True) ?hr ?hp (fun _ hk => hk) trivial (Below.refl _ _) (Nat.le_refl _) (by simp) ?_; (case hd => rfl); (case hg => rfl); (case hr => first | (go_simp; done) | (go_simp; rfl)); (case hp => exact (Reps.c4 (show Kd.M k63 _ _ _ (⟨a3_0, a3_1, a3_2, a3_3⟩ : S63) [.int .i64 a3_0, .int .i64 a3_1, .int .i64 a3_2, .int .i64 a3_3] from (k63_mkM _ _ _ (⟨a3_0, a3_1, a3_2, a3_3⟩ : S63) )) (Reps.none _ _)))
        intro v229 w22 ho23 hb hg_ hnew_
        clear hg_ hnew_
        (first | rw [← Ny228.out] at ho23 | (simp only [Int.reduceToNat] at ho23; rw [← Ny228.out] at ho23))
        have n0_ := Aside0.mk (Kd.R_below HO212.out hb)
        have n1_ := Aside0.mk (Kd.R_below HO218.out hb)
        have n2_ := Aside0.mk (Kd.R_elder' HO224.out (Kd.R_base ho23) hb)
        have n3_ := Aside0.mk (Kd.R_lower (Kd.R_newB (Kd.R_new' ho23 (Kd.R_lt HO224.out)) BKx.out) (below_size HB.out))
        have n4_ := Aside0.mk (blk_below BKp.out hb)
        have n5_ := Aside0.mk (blk_below BKx.out hb)
        have n6_ := Aside0.mk (blk_below BKi.out hb)
        have n7_ := Aside0.mk (below_step HB.out hb)
        clear HO212 HO218 HO224 BKp BKx BKi HB
        have HO212 := n0_; have HO218 := n1_; have HO224 := n2_; have HO230 := n3_; have BKp := n4_; have BKx := n5_; have BKi := n6_; have HB := n7_
        clear n0_ n1_ n2_ n3_ n4_ n5_ n6_ n7_ hb ho23
        refine hK.out _ _ (hS0 _ BKx.out BKi.out) (fun hHeld => ?_)
        clear hK K
        refine norm_ (a' := ?_) ?_ ?_; rotate_left; (· (show Act.put _ (some 26) _ = _; simp only [Act.put, zA10, zB10, zC10, i64_w, i32_w]; rfl))
        exact norm_ (by simp only [putAll, Act.put, zA10, zB10, zC10] <;> rfl) (hJ0_4_6_10 (v211, v217, v223, v229) _ ⟨hHeld, HO212.out, HO218.out, (Kd.R_mono HO224.out (fun _ hk => ⟨hk.2, hk.1⟩)), (Kd.R_mono HO230.out (fun _ hk => ⟨hk.1.2, hk.2⟩)), BKp.out, BKx.out, BKi.out, HB.out⟩)
    intro hJ0_4_6
    refine join_ (σ := Value × Value × Value) 7 q10_15 (fun s_ => [(16, s_.1), (20, s_.2.1), (26, s_.2.2)]) (fun s_ w' => S0 w' ∧ (Kd.R k28 28 w' w.heap.size (fun k_ => some k_ ≠ (s_.2.1 : Value).ownBlock ∧ k_ ≠ gi) s_.1 y210) ∧ (Kd.R k28 28 w' w.heap.size (fun k_ => some k_ ≠ (s_.1 : Value).ownBlock ∧ k_ ≠ gi) s_.2.1 y216) ∧ (Kd.R k63 63 w' w.heap.size (fun k_ => k_ ≠ gx) s_.2.2 y228) ∧ (w'.heap[gp]? = some (.cells cs7 26 (0, 0))) ∧ (w'.heap[gx]? = some (.cells cs8 63 (0, 0))) ∧ (w'.heap[gi]? = some (.cells cs9 28 (0, 0))) ∧ (Below w.heap.size w w')) ?_ ?_
    · skip
      rintro ⟨v211, v217, v229⟩ w21 ⟨hS_, h0_, h1_, h2_, h3_, h4_, h5_, h6_⟩
      have n0_ : Aside0 (Kd.R k28 28 w21 w.heap.size (fun k_ => some k_ ≠ (v217 : Value).ownBlock ∧ k_ ≠ gi) v211 y210) := ⟨h0_⟩
      have n1_ : Aside0 (Kd.R k28 28 w21 w.heap.size (fun k_ => some k_ ≠ (v211 : Value).ownBlock ∧ k_ ≠ gi) v217 y216) := ⟨h1_⟩
      have n2_ : Aside0 (Kd.R k63 63 w21 w.heap.size (fun k_ => k_ ≠ gx) v229 y228) := ⟨h2_⟩
      have n3_ : Aside0 (w21.heap[gp]? = some (.cells cs7 26 (0, 0))) := ⟨h3_⟩
      have n4_ : Aside0 (w21.heap[gx]? = some (.cells cs8 63 (0, 0))) := ⟨h4_⟩
      have n5_ : Aside0 (w21.heap[gi]? = some (.cells cs9 28 (0, 0))) := ⟨h5_⟩
      have n6_ : Aside0 (Below w.heap.size w w21) := ⟨h6_⟩
      clear BKp BKx BKi HB h0_ h1_ h2_ h3_ h4_ h5_ h6_
      have HO212 := n0_; have HO218 := n1_; have HO230 := n2_; have BKp := n3_; have BKx := n4_; have BKi := n5_; have HB := n6_
      clear n0_ n1_ n2_ n3_ n4_ n5_ n6_
      have hHeld : S0 w21 := hS_
      refine norm_ (a' := ?_) ?_ ?_; rotate_left; (· (simp only [putAll, Act.put, zA10, zB10, zC10]; rfl))
      refine two_ (i := 2) (j := 6) (Ni := some 18) (Nj := some 22) q10_8 q10_10 rfl rfl rfl rfl (two_of HT_.out (by kernel_rfl)) (by decide) (by decide) (fun K hK => ?_) (fun K hK => ?_)
      · skip
        refine Kd.R_append_rows_step k28 (w0 := w) w.heap.size (by rfl) (.tmp 16) (.tmp 17) 34 28 (.agg #[(.int .i64 0), (.int .i64 0), (.int .i64 0), (.int .i64 0), (.int .i64 0), (.int .i64 0)]) 48 rfl Try.underlying34 info28 rfl (by decide) (by omega) v211 y210 l1 _ _ _ (fun k_ => some k_ ≠ (v217 : Value).ownBlock ∧ k_ ≠ gi) (fun _ => False) rfl rfl ?aO ?aR (fun _ _ h => h) (fun _ h => h.elim) ?aF ?aB ?aS ?aL ?_
        (case aR => repeat (first | exact (Kd.C_below HR1.out HB.out) | (with_reducible refine Kd.C_alloc ?_ _) | (with_reducible refine Kd.C_drewN ?_ _) | (with_reducible refine Kd.C_drew ?_)))
        (case aB => exact HB.out)
        (case aF => exact (fun k_ hk => ⟨Kd.fresh' (Kd.R_lt HO218.out) k_ hk, Kd.freshB BKi.out k_ hk⟩))
        (case aO => exact HO212.out)
        (case aS => exact (below_size HB.out))
        (case aL => have := LMc6.out; omega)
        intro v214 w22 ho hb hg hat
        rw [← Ny213.out] at ho
        have n0_ := Aside0.mk (blk_grown BKp.out hg (Kd.R_ne HO212.out BKp.out (by decide)))
        have n1_ := Aside0.mk (blk_grown BKx.out hg (Kd.R_ne HO212.out BKx.out (by decide)))
        have n2_ := Aside0.mk (blk_grown BKi.out hg (Kd.R_away HO212.out (fun _ hk => hk.2)))
        have n3_ := Aside0.mk (Kd.R_after (ok := (fun k_ => k_ ≠ gi)) (Kd.R_mono HO218.out (fun _ hk => ⟨hk.2, hk.1⟩)) hg hat)
        have n4_ := Aside0.mk (Kd.R_over' HO230.out (Kd.R_typed HO212.out) (by decide) hg)
        have n5_ := Aside0.mk (hb)
        have n6_ := Aside0.mk (ho)
        clear BKp BKx BKi HO218 HO230 HB HO212
        have BKp := n0_; have BKx := n1_; have BKi := n2_; have HO218 := n3_; have HO230 := n4_; have HB := n5_; have HO215 := n6_
        clear n0_ n1_ n2_ n3_ n4_ n5_ n6_ ho hb hg hat
        refine hK.out _ _ (hS0 _ BKx.out BKi.out) (fun hHeld => ?_)
        clear hK K
        refine norm_ (a' := ?_) ?_ ?_; rotate_left; (· (show Act.put _ (some 18) _ = _; simp only [Act.put, zA10, zB10, zC10, i64_w, i32_w]; rfl))
        exact norm_ (by simp only [putAll, Act.put, zA10, zB10, zC10] <;> rfl) (hJ0_2_4_10 (v211, v214, v217, v229) _ ⟨hHeld, HO215.out, (Kd.R_mono HO218.out (fun _ hk => ⟨hk.2, hk.1⟩)), HO230.out, BKp.out, BKx.out, BKi.out, HB.out⟩)
      · skip
        refine Kd.R_lit_step k63 _ 63 ?hg (N := 22) ?hd (xs := ([] : List (S63))) (inner := []) (ok := fun _ => True) (okp := fun _ => True) ?hr ?hp (fun _ hk => hk) trivial (Below.refl _ _) (Nat.le_refl _) (by simp) ?_; (case hd => rfl); (case hg => rfl); (case hr => first | (go_simp; done) | (go_simp; rfl)); (case hp => exact (Reps.none _ _))
        intro v223 w22 ho23 hb hg_ hnew_
        clear hg_ hnew_
        (first | rw [← Ny222.out] at ho23 | (simp only [Int.reduceToNat] at ho23; rw [← Ny222.out] at ho23))
        have n0_ := Aside0.mk (Kd.R_below HO212.out hb)
        have n1_ := Aside0.mk (Kd.R_below HO218.out hb)
        have n2_ := Aside0.mk (Kd.R_elder' HO230.out (Kd.R_base ho23) hb)
        have n3_ := Aside0.mk (Kd.R_lower (Kd.R_newB (Kd.R_new' ho23 (Kd.R_lt HO230.out)) BKx.out) (below_size HB.out))
        have n4_ := Aside0.mk (blk_below BKp.out hb)
        have n5_ := Aside0.mk (blk_below BKx.out hb)
        have n6_ := Aside0.mk (blk_below BKi.out hb)
        have n7_ := Aside0.mk (below_step HB.out hb)
        clear HO212 HO218 HO230 BKp BKx BKi HB
        have HO212 := n0_; have HO218 := n1_; have HO230 := n2_; have HO224 := n3_; have BKp := n4_; have BKx := n5_; have BKi := n6_; have HB := n7_
        clear n0_ n1_ n2_ n3_ n4_ n5_ n6_ n7_ hb ho23
        refine hK.out _ _ (hS0 _ BKx.out BKi.out) (fun hHeld => ?_)
        clear hK K
        refine norm_ (a' := ?_) ?_ ?_; rotate_left; (· (show Act.put _ (some 22) _ = _; simp only [Act.put, zA10, zB10, zC10, i64_w, i32_w]; rfl))
        exact norm_ (by simp only [putAll, Act.put, zA10, zB10, zC10] <;> rfl) (hJ0_4_6_10 (v211, v217, v223, v229) _ ⟨hHeld, HO212.out, HO218.out, (Kd.R_mono HO224.out (fun _ hk => ⟨hk.1.2, hk.2⟩)), (Kd.R_mono HO230.out (fun _ hk => ⟨hk.2, hk.1⟩)), BKp.out, BKx.out, BKi.out, HB.out⟩)
    intro hJ0_4_10
    refine join_ (σ := Value × Value × Value) 7 q10_16 (fun s_ => [(16, s_.1), (22, s_.2.1), (26, s_.2.2)]) (fun s_ w' => S0 w' ∧ (Kd.R k28 28 w' w.heap.size (fun k_ => k_ ≠ gi) s_.1 y210) ∧ (Kd.R k63 63 w' w.heap.size (fun k_ => some k_ ≠ (s_.2.2 : Value).ownBlock ∧ k_ ≠ gx) s_.2.1 y222) ∧ (Kd.R k63 63 w' w.heap.size (fun k_ => some k_ ≠ (s_.2.1 : Value).ownBlock ∧ k_ ≠ gx) s_.2.2 y228) ∧ (w'.heap[gp]? = some (.cells cs7 26 (0, 0))) ∧ (w'.heap[gx]? = some (.cells cs8 63 (0, 0))) ∧ (w'.heap[gi]? = some (.cells cs9 28 (0, 0))) ∧ (Below w.heap.size w w')) ?_ ?_
    · skip
      rintro ⟨v211, v223, v229⟩ w21 ⟨hS_, h0_, h1_, h2_, h3_, h4_, h5_, h6_⟩
      have n0_ : Aside0 (Kd.R k28 28 w21 w.heap.size (fun k_ => k_ ≠ gi) v211 y210) := ⟨h0_⟩
      have n1_ : Aside0 (Kd.R k63 63 w21 w.heap.size (fun k_ => some k_ ≠ (v229 : Value).ownBlock ∧ k_ ≠ gx) v223 y222) := ⟨h1_⟩
      have n2_ : Aside0 (Kd.R k63 63 w21 w.heap.size (fun k_ => some k_ ≠ (v223 : Value).ownBlock ∧ k_ ≠ gx) v229 y228) := ⟨h2_⟩
      have n3_ : Aside0 (w21.heap[gp]? = some (.cells cs7 26 (0, 0))) := ⟨h3_⟩
      have n4_ : Aside0 (w21.heap[gx]? = some (.cells cs8 63 (0, 0))) := ⟨h4_⟩
      have n5_ : Aside0 (w21.heap[gi]? = some (.cells cs9 28 (0, 0))) := ⟨h5_⟩
      have n6_ : Aside0 (Below w.heap.size w w21) := ⟨h6_⟩
      clear BKp BKx BKi HB h0_ h1_ h2_ h3_ h4_ h5_ h6_
      have HO212 := n0_; have HO224 := n1_; have HO230 := n2_; have BKp := n3_; have BKx := n4_; have BKi := n5_; have HB := n6_
      clear n0_ n1_ n2_ n3_ n4_ n5_ n6_
      have hHeld : S0 w21 := hS_
      refine norm_ (a' := ?_) ?_ ?_; rotate_left; (· (simp only [putAll, Act.put, zA10, zB10, zC10]; rfl))
      refine two_ (i := 2) (j := 4) (Ni := some 18) (Nj := some 20) q10_9 q10_10 rfl rfl rfl rfl (two_of HT_.out (by kernel_rfl)) (by decide) (by decide) (fun K hK => ?_) (fun K hK => ?_)
      · skip
        refine Kd.R_append_rows_step k28 (w0 := w) w.heap.size (by rfl) (.tmp 16) (.tmp 17) 34 28 (.agg #[(.int .i64 0), (.int .i64 0), (.int .i64 0), (.int .i64 0), (.int .i64 0), (.int .i64 0)]) 48 rfl Try.underlying34 info28 rfl (by decide) (by omega) v211 y210 l1 _ _ _ (fun k_ => k_ ≠ gi) (fun _ => False) rfl rfl ?aO ?aR (fun _ _ h => h) (fun _ h => h.elim) ?aF ?aB ?aS ?aL ?_
        (case aR => repeat (first | exact (Kd.C_below HR1.out HB.out) | (with_reducible refine Kd.C_alloc ?_ _) | (with_reducible refine Kd.C_drewN ?_ _) | (with_reducible refine Kd.C_drew ?_)))
        (case aB => exact HB.out)
        (case aF => exact (fun k_ hk => Kd.freshB BKi.out k_ hk))
        (case aO => exact HO212.out)
        (case aS => exact (below_size HB.out))
        (case aL => have := LMc6.out; omega)
        intro v214 w22 ho hb hg hat
        rw [← Ny213.out] at ho
        have n0_ := Aside0.mk (blk_grown BKp.out hg (Kd.R_ne HO212.out BKp.out (by decide)))
        have n1_ := Aside0.mk (blk_grown BKx.out hg (Kd.R_ne HO212.out BKx.out (by decide)))
        have n2_ := Aside0.mk (blk_grown BKi.out hg (Kd.R_away HO212.out (fun _ hk => hk)))
        have n3_ := Aside0.mk (Kd.R_over' HO224.out (Kd.R_typed HO212.out) (by decide) hg)
        have n4_ := Aside0.mk (Kd.R_over' HO230.out (Kd.R_typed HO212.out) (by decide) hg)
        have n5_ := Aside0.mk (hb)
        have n6_ := Aside0.mk (ho)
        clear BKp BKx BKi HO224 HO230 HB HO212
        have BKp := n0_; have BKx := n1_; have BKi := n2_; have HO224 := n3_; have HO230 := n4_; have HB := n5_; have HO215 := n6_
        clear n0_ n1_ n2_ n3_ n4_ n5_ n6_ ho hb hg hat
        refine hK.out _ _ (hS0 _ BKx.out BKi.out) (fun hHeld => ?_)
        clear hK K
        refine norm_ (a' := ?_) ?_ ?_; rotate_left; (· (show Act.put _ (some 18) _ = _; simp only [Act.put, zA10, zB10, zC10, i64_w, i32_w]; rfl))
        exact norm_ (by simp only [putAll, Act.put, zA10, zB10, zC10] <;> rfl) (hJ0_2_6_10 (v211, v214, v223, v229) _ ⟨hHeld, HO215.out, HO224.out, HO230.out, BKp.out, BKx.out, BKi.out, HB.out⟩)
      · skip
        refine Kd.R_lit_step k28 _ 28 ?hg (N := 20) ?hd (xs := ([(⟨a4_0, a4_1, a4_2, a4_3, a4_4, a4_5⟩ : S28)] : List (S28))) (inner := [.int .i64 a4_0, .int .i64 a4_1, .int .i64 a4_2, .int .i64 a4_3, .int .i64 a4_4, .int .i64 a4_5]) (ok := fun _ => True) (okp := fun _ => True) ?hr ?hp (fun _ hk => hk) trivial (Below.refl _ _) (Nat.le_refl _) (by simp) ?_; (case hd => rfl); (case hg => rfl); (case hr => first | (go_simp; done) | (go_simp; rfl)); (case hp => exact (Reps.c6 (show Kd.M k28 _ _ _ (⟨a4_0, a4_1, a4_2, a4_3, a4_4, a4_5⟩ : S28) [.int .i64 a4_0, .int .i64 a4_1, .int .i64 a4_2, .int .i64 a4_3, .int .i64 a4_4, .int .i64 a4_5] from (k28_mkM _ _ _ (⟨a4_0, a4_1, a4_2, a4_3, a4_4, a4_5⟩ : S28) )) (Reps.none _ _)))
        intro v217 w22 ho23 hb hg_ hnew_
        clear hg_ hnew_
        (first | rw [← Ny216.out] at ho23 | (simp only [Int.reduceToNat] at ho23; rw [← Ny216.out] at ho23))
        have n0_ := Aside0.mk (Kd.R_elder' HO212.out (Kd.R_base ho23) hb)
        have n1_ := Aside0.mk (Kd.R_below HO224.out hb)
        have n2_ := Aside0.mk (Kd.R_below HO230.out hb)
        have n3_ := Aside0.mk (Kd.R_lower (Kd.R_newB (Kd.R_new' ho23 (Kd.R_lt HO212.out)) BKi.out) (below_size HB.out))
        have n4_ := Aside0.mk (blk_below BKp.out hb)
        have n5_ := Aside0.mk (blk_below BKx.out hb)
        have n6_ := Aside0.mk (blk_below BKi.out hb)
        have n7_ := Aside0.mk (below_step HB.out hb)
        clear HO212 HO224 HO230 BKp BKx BKi HB
        have HO212 := n0_; have HO224 := n1_; have HO230 := n2_; have HO218 := n3_; have BKp := n4_; have BKx := n5_; have BKi := n6_; have HB := n7_
        clear n0_ n1_ n2_ n3_ n4_ n5_ n6_ n7_ hb ho23
        refine hK.out _ _ (hS0 _ BKx.out BKi.out) (fun hHeld => ?_)
        clear hK K
        refine norm_ (a' := ?_) ?_ ?_; rotate_left; (· (show Act.put _ (some 20) _ = _; simp only [Act.put, zA10, zB10, zC10, i64_w, i32_w]; rfl))
        exact norm_ (by simp only [putAll, Act.put, zA10, zB10, zC10] <;> rfl) (hJ0_4_6_10 (v211, v217, v223, v229) _ ⟨hHeld, (Kd.R_mono HO212.out (fun _ hk => ⟨hk.2, hk.1⟩)), (Kd.R_mono HO218.out (fun _ hk => ⟨hk.1.2, hk.2⟩)), HO224.out, HO230.out, BKp.out, BKx.out, BKi.out, HB.out⟩)
    intro hJ0_6_10
    refine join_ (σ := Value × Value × Value) 7 q10_17 (fun s_ => [(20, s_.1), (22, s_.2.1), (26, s_.2.2)]) (fun s_ w' => S0 w' ∧ (Kd.R k28 28 w' w.heap.size (fun k_ => k_ ≠ gi) s_.1 y216) ∧ (Kd.R k63 63 w' w.heap.size (fun k_ => some k_ ≠ (s_.2.2 : Value).ownBlock ∧ k_ ≠ gx) s_.2.1 y222) ∧ (Kd.R k63 63 w' w.heap.size (fun k_ => some k_ ≠ (s_.2.1 : Value).ownBlock ∧ k_ ≠ gx) s_.2.2 y228) ∧ (w'.heap[gp]? = some (.cells cs7 26 (0, 0))) ∧ (w'.heap[gx]? = some (.cells cs8 63 (0, 0))) ∧ (w'.heap[gi]? = some (.cells cs9 28 (0, 0))) ∧ (Below w.heap.size w w')) ?_ ?_
    · skip
      rintro ⟨v217, v223, v229⟩ w21 ⟨hS_, h0_, h1_, h2_, h3_, h4_, h5_, h6_⟩
      have n0_ : Aside0 (Kd.R k28 28 w21 w.heap.size (fun k_ => k_ ≠ gi) v217 y216) := ⟨h0_⟩
      have n1_ : Aside0 (Kd.R k63 63 w21 w.heap.size (fun k_ => some k_ ≠ (v229 : Value).ownBlock ∧ k_ ≠ gx) v223 y222) := ⟨h1_⟩
      have n2_ : Aside0 (Kd.R k63 63 w21 w.heap.size (fun k_ => some k_ ≠ (v223 : Value).ownBlock ∧ k_ ≠ gx) v229 y228) := ⟨h2_⟩
      have n3_ : Aside0 (w21.heap[gp]? = some (.cells cs7 26 (0, 0))) := ⟨h3_⟩
      have n4_ : Aside0 (w21.heap[gx]? = some (.cells cs8 63 (0, 0))) := ⟨h4_⟩
      have n5_ : Aside0 (w21.heap[gi]? = some (.cells cs9 28 (0, 0))) := ⟨h5_⟩
      have n6_ : Aside0 (Below w.heap.size w w21) := ⟨h6_⟩
      clear BKp BKx BKi HB h0_ h1_ h2_ h3_ h4_ h5_ h6_
      have HO218 := n0_; have HO224 := n1_; have HO230 := n2_; have BKp := n3_; have BKx := n4_; have BKi := n5_; have HB := n6_
      clear n0_ n1_ n2_ n3_ n4_ n5_ n6_
      have hHeld : S0 w21 := hS_
      refine norm_ (a' := ?_) ?_ ?_; rotate_left; (· (simp only [putAll, Act.put, zA10, zB10, zC10]; rfl))
      refine one_ (i := 0) (N := some 16) q10_10 rfl rfl (one_of HT_.out (by kernel_rfl)) (by decide) (fun K hK => ?_)
      refine Kd.R_lit_step k28 _ 28 ?hg (N := 16) ?hd (xs := ([] : List (S28))) (inner := []) (ok := fun _ => True) (okp := fun _ => True) ?hr ?hp (fun _ hk => hk) trivial (Below.refl _ _) (Nat.le_refl _) (by simp) ?_; (case hd => rfl); (case hg => rfl); (case hr => first | (go_simp; done) | (go_simp; rfl)); (case hp => exact (Reps.none _ _))
      intro v211 w22 ho23 hb hg_ hnew_
      clear hg_ hnew_
      (first | rw [← Ny210.out] at ho23 | (simp only [Int.reduceToNat] at ho23; rw [← Ny210.out] at ho23))
      have n0_ := Aside0.mk (Kd.R_elder' HO218.out (Kd.R_base ho23) hb)
      have n1_ := Aside0.mk (Kd.R_below HO224.out hb)
      have n2_ := Aside0.mk (Kd.R_below HO230.out hb)
      have n3_ := Aside0.mk (Kd.R_lower (Kd.R_newB (Kd.R_new' ho23 (Kd.R_lt HO218.out)) BKi.out) (below_size HB.out))
      have n4_ := Aside0.mk (blk_below BKp.out hb)
      have n5_ := Aside0.mk (blk_below BKx.out hb)
      have n6_ := Aside0.mk (blk_below BKi.out hb)
      have n7_ := Aside0.mk (below_step HB.out hb)
      clear HO218 HO224 HO230 BKp BKx BKi HB
      have HO218 := n0_; have HO224 := n1_; have HO230 := n2_; have HO212 := n3_; have BKp := n4_; have BKx := n5_; have BKi := n6_; have HB := n7_
      clear n0_ n1_ n2_ n3_ n4_ n5_ n6_ n7_ hb ho23
      refine hK.out _ _ (hS0 _ BKx.out BKi.out) (fun hHeld => ?_)
      clear hK K
      refine norm_ (a' := ?_) ?_ ?_; rotate_left; (· (show Act.put _ (some 16) _ = _; simp only [Act.put, zA10, zB10, zC10, i64_w, i32_w]; rfl))
      exact norm_ (by simp only [putAll, Act.put, zA10, zB10, zC10] <;> rfl) (hJ0_4_6_10 (v211, v217, v223, v229) _ ⟨hHeld, (Kd.R_mono HO212.out (fun _ hk => ⟨hk.1.2, hk.2⟩)), (Kd.R_mono HO218.out (fun _ hk => ⟨hk.2, hk.1⟩)), HO224.out, HO230.out, BKp.out, BKx.out, BKi.out, HB.out⟩)
    intro hJ4_6_10
    refine join_ (σ := Value × Value) 8 q10_18 (fun s_ => [(16, s_.1), (18, s_.2)]) (fun s_ w' => S0 w' ∧ (Kd.R k28 28 w' w.heap.size (fun k_ => k_ ≠ gi) s_.2 y213) ∧ (w'.heap[gp]? = some (.cells cs7 26 (0, 0))) ∧ (w'.heap[gx]? = some (.cells cs8 63 (0, 0))) ∧ (w'.heap[gi]? = some (.cells cs9 28 (0, 0))) ∧ (Below w.heap.size w w')) ?_ ?_
    · skip
      rintro ⟨v211, v214⟩ w18 ⟨hS_, h0_, h1_, h2_, h3_, h4_⟩
      have n0_ : Aside0 (Kd.R k28 28 w18 w.heap.size (fun k_ => k_ ≠ gi) v214 y213) := ⟨h0_⟩
      have n1_ : Aside0 (w18.heap[gp]? = some (.cells cs7 26 (0, 0))) := ⟨h1_⟩
      have n2_ : Aside0 (w18.heap[gx]? = some (.cells cs8 63 (0, 0))) := ⟨h2_⟩
      have n3_ : Aside0 (w18.heap[gi]? = some (.cells cs9 28 (0, 0))) := ⟨h3_⟩
      have n4_ : Aside0 (Below w.heap.size w w18) := ⟨h4_⟩
      clear BKp BKx BKi HB h0_ h1_ h2_ h3_ h4_
      have HO215 := n0_; have BKp := n1_; have BKx := n2_; have BKi := n3_; have HB := n4_
      clear n0_ n1_ n2_ n3_ n4_
      have hHeld : S0 w18 := hS_
      refine norm_ (a' := ?_) ?_ ?_; rotate_left; (· (simp only [putAll, Act.put, zA10, zB10, zC10]; rfl))
      refine three_ (i := 4) (j := 6) (k := 10) (Ni := some 20) (Nj := some 22) (Nk := some 26) q10_11 q10_12 q10_13 rfl rfl rfl rfl rfl rfl (three_of HT_.out (by kernel_rfl)) (by decide) (by decide) (by decide) (fun K hK => ?_) (fun K hK => ?_) (fun K hK => ?_)
      · skip
        refine Kd.R_lit_step k28 _ 28 ?hg (N := 20) ?hd (xs := ([(⟨a4_0, a4_1, a4_2, a4_3, a4_4, a4_5⟩ : S28)] : List (S28))) (inner := [.int .i64 a4_0, .int .i64 a4_1, .int .i64 a4_2, .int .i64 a4_3, .int .i64 a4_4, .int .i64 a4_5]) (ok := fun _ => True) (okp := fun _ => True) ?hr ?hp (fun _ hk => hk) trivial (Below.refl _ _) (Nat.le_refl _) (by simp) ?_; (case hd => rfl); (case hg => rfl); (case hr => first | (go_simp; done) | (go_simp; rfl)); (case hp => exact (Reps.c6 (show Kd.M k28 _ _ _ (⟨a4_0, a4_1, a4_2, a4_3, a4_4, a4_5⟩ : S28) [.int .i64 a4_0, .int .i64 a4_1, .int .i64 a4_2, .int .i64 a4_3, .int .i64 a4_4, .int .i64 a4_5] from (k28_mkM _ _ _ (⟨a4_0, a4_1, a4_2, a4_3, a4_4, a4_5⟩ : S28) )) (Reps.none _ _)))
        intro v217 w19 ho20 hb hg_ hnew_
        clear hg_ hnew_
        (first | rw [← Ny216.out] at ho20 | (simp only [Int.reduceToNat] at ho20; rw [← Ny216.out] at ho20))
        have n0_ := Aside0.mk (Kd.R_elder' HO215.out (Kd.R_base ho20) hb)
        have n1_ := Aside0.mk (Kd.R_lower (Kd.R_newB (Kd.R_new' ho20 (Kd.R_lt HO215.out)) BKi.out) (below_size HB.out))
        have n2_ := Aside0.mk (blk_below BKp.out hb)
        have n3_ := Aside0.mk (blk_below BKx.out hb)
        have n4_ := Aside0.mk (blk_below BKi.out hb)
        have n5_ := Aside0.mk (below_step HB.out hb)
        clear HO215 BKp BKx BKi HB
        have HO215 := n0_; have HO218 := n1_; have BKp := n2_; have BKx := n3_; have BKi := n4_; have HB := n5_
        clear n0_ n1_ n2_ n3_ n4_ n5_ hb ho20
        refine hK.out _ _ (hS0 _ BKx.out BKi.out) (fun hHeld => ?_)
        clear hK K
        refine norm_ (a' := ?_) ?_ ?_; rotate_left; (· (show Act.put _ (some 20) _ = _; simp only [Act.put, zA10, zB10, zC10, i64_w, i32_w]; rfl))
        exact norm_ (by simp only [putAll, Act.put, zA10, zB10, zC10] <;> rfl) (hJ0_2_4 (v211, v214, v217) _ ⟨hHeld, (Kd.R_mono HO215.out (fun _ hk => ⟨hk.2, hk.1⟩)), (Kd.R_mono HO218.out (fun _ hk => ⟨hk.1.2, hk.2⟩)), BKp.out, BKx.out, BKi.out, HB.out⟩)
      · skip
        refine Kd.R_lit_step k63 _ 63 ?hg (N := 22) ?hd (xs := ([] : List (S63))) (inner := []) (ok := fun _ => True) (okp := fun _ => True) ?hr ?hp (fun _ hk => hk) trivial (Below.refl _ _) (Nat.le_refl _) (by simp) ?_; (case hd => rfl); (case hg => rfl); (case hr => first | (go_simp; done) | (go_simp; rfl)); (case hp => exact (Reps.none _ _))
        intro v223 w19 ho20 hb hg_ hnew_
        clear hg_ hnew_
        (first | rw [← Ny222.out] at ho20 | (simp only [Int.reduceToNat] at ho20; rw [← Ny222.out] at ho20))
        have n0_ := Aside0.mk (Kd.R_below HO215.out hb)
        have n1_ := Aside0.mk (Kd.R_lower (Kd.R_newB ho20 BKx.out) (below_size HB.out))
        have n2_ := Aside0.mk (blk_below BKp.out hb)
        have n3_ := Aside0.mk (blk_below BKx.out hb)
        have n4_ := Aside0.mk (blk_below BKi.out hb)
        have n5_ := Aside0.mk (below_step HB.out hb)
        clear HO215 BKp BKx BKi HB
        have HO215 := n0_; have HO224 := n1_; have BKp := n2_; have BKx := n3_; have BKi := n4_; have HB := n5_
        clear n0_ n1_ n2_ n3_ n4_ n5_ hb ho20
        refine hK.out _ _ (hS0 _ BKx.out BKi.out) (fun hHeld => ?_)
        clear hK K
        refine norm_ (a' := ?_) ?_ ?_; rotate_left; (· (show Act.put _ (some 22) _ = _; simp only [Act.put, zA10, zB10, zC10, i64_w, i32_w]; rfl))
        exact norm_ (by simp only [putAll, Act.put, zA10, zB10, zC10] <;> rfl) (hJ0_2_6 (v211, v214, v223) _ ⟨hHeld, HO215.out, (Kd.R_mono HO224.out (fun _ hk => hk.2)), BKp.out, BKx.out, BKi.out, HB.out⟩)
      · skip
        refine Kd.R_lit_step k63 _ 63 ?hg (N := 26) ?hd (xs := ([(⟨a3_0, a3_1, a3_2, a3_3⟩ : S63)] : List (S63))) (inner := [.int .i64 a3_0, .int .i64 a3_1, .int .i64 a3_2, .int .i64 a3_3]) (ok := fun _ => True) (okp := fun _ => True) ?hr ?hp (fun _ hk => hk) trivial (Below.refl _ _) (Nat.le_refl _) (by simp) ?_; (case hd => rfl); (case hg => rfl); (case hr => first | (go_simp; done) | (go_simp; rfl)); (case hp => exact (Reps.c4 (show Kd.M k63 _ _ _ (⟨a3_0, a3_1, a3_2, a3_3⟩ : S63) [.int .i64 a3_0, .int .i64 a3_1, .int .i64 a3_2, .int .i64 a3_3] from (k63_mkM _ _ _ (⟨a3_0, a3_1, a3_2, a3_3⟩ : S63) )) (Reps.none _ _)))
        intro v229 w19 ho20 hb hg_ hnew_
        clear hg_ hnew_
        (first | rw [← Ny228.out] at ho20 | (simp only [Int.reduceToNat] at ho20; rw [← Ny228.out] at ho20))
        have n0_ := Aside0.mk (Kd.R_below HO215.out hb)
        have n1_ := Aside0.mk (Kd.R_lower (Kd.R_newB ho20 BKx.out) (below_size HB.out))
        have n2_ := Aside0.mk (blk_below BKp.out hb)
        have n3_ := Aside0.mk (blk_below BKx.out hb)
        have n4_ := Aside0.mk (blk_below BKi.out hb)
        have n5_ := Aside0.mk (below_step HB.out hb)
        clear HO215 BKp BKx BKi HB
        have HO215 := n0_; have HO230 := n1_; have BKp := n2_; have BKx := n3_; have BKi := n4_; have HB := n5_
        clear n0_ n1_ n2_ n3_ n4_ n5_ hb ho20
        refine hK.out _ _ (hS0 _ BKx.out BKi.out) (fun hHeld => ?_)
        clear hK K
        refine norm_ (a' := ?_) ?_ ?_; rotate_left; (· (show Act.put _ (some 26) _ = _; simp only [Act.put, zA10, zB10, zC10, i64_w, i32_w]; rfl))
        exact norm_ (by simp only [putAll, Act.put, zA10, zB10, zC10] <;> rfl) (hJ0_2_10 (v211, v214, v229) _ ⟨hHeld, HO215.out, (Kd.R_mono HO230.out (fun _ hk => hk.2)), BKp.out, BKx.out, BKi.out, HB.out⟩)
    intro hJ0_2
    refine join_ (σ := Value × Value) 8 q10_19 (fun s_ => [(16, s_.1), (20, s_.2)]) (fun s_ w' => S0 w' ∧ (Kd.R k28 28 w' w.heap.size (fun k_ => some k_ ≠ (s_.2 : Value).ownBlock ∧ k_ ≠ gi) s_.1 y210) ∧ (Kd.R k28 28 w' w.heap.size (fun k_ => some k_ ≠ (s_.1 : Value).ownBlock ∧ k_ ≠ gi) s_.2 y216) ∧ (w'.heap[gp]? = some (.cells cs7 26 (0, 0))) ∧ (w'.heap[gx]? = some (.cells cs8 63 (0, 0))) ∧ (w'.heap[gi]? = some (.cells cs9 28 (0, 0))) ∧ (Below w.heap.size w w')) ?_ ?_
    · skip
      rintro ⟨v211, v217⟩ w19 ⟨hS_, h0_, h1_, h2_, h3_, h4_, h5_⟩
      have n0_ : Aside0 (Kd.R k28 28 w19 w.heap.size (fun k_ => some k_ ≠ (v217 : Value).ownBlock ∧ k_ ≠ gi) v211 y210) := ⟨h0_⟩
      have n1_ : Aside0 (Kd.R k28 28 w19 w.heap.size (fun k_ => some k_ ≠ (v211 : Value).ownBlock ∧ k_ ≠ gi) v217 y216) := ⟨h1_⟩
      have n2_ : Aside0 (w19.heap[gp]? = some (.cells cs7 26 (0, 0))) := ⟨h2_⟩
      have n3_ : Aside0 (w19.heap[gx]? = some (.cells cs8 63 (0, 0))) := ⟨h3_⟩
      have n4_ : Aside0 (w19.heap[gi]? = some (.cells cs9 28 (0, 0))) := ⟨h4_⟩
      have n5_ : Aside0 (Below w.heap.size w w19) := ⟨h5_⟩
      clear BKp BKx BKi HB h0_ h1_ h2_ h3_ h4_ h5_
      have HO212 := n0_; have HO218 := n1_; have BKp := n2_; have BKx := n3_; have BKi := n4_; have HB := n5_
      clear n0_ n1_ n2_ n3_ n4_ n5_
      have hHeld : S0 w19 := hS_
      refine norm_ (a' := ?_) ?_ ?_; rotate_left; (· (simp only [putAll, Act.put, zA10, zB10, zC10]; rfl))
      refine three_ (i := 2) (j := 6) (k := 10) (Ni := some 18) (Nj := some 22) (Nk := some 26) q10_11 q10_14 q10_15 rfl rfl rfl rfl rfl rfl (three_of HT_.out (by kernel_rfl)) (by decide) (by decide) (by decide) (fun K hK => ?_) (fun K hK => ?_) (fun K hK => ?_)
      · skip
        refine Kd.R_append_rows_step k28 (w0 := w) w.heap.size (by rfl) (.tmp 16) (.tmp 17) 34 28 (.agg #[(.int .i64 0), (.int .i64 0), (.int .i64 0), (.int .i64 0), (.int .i64 0), (.int .i64 0)]) 48 rfl Try.underlying34 info28 rfl (by decide) (by omega) v211 y210 l1 _ _ _ (fun k_ => some k_ ≠ (v217 : Value).ownBlock ∧ k_ ≠ gi) (fun _ => False) rfl rfl ?aO ?aR (fun _ _ h => h) (fun _ h => h.elim) ?aF ?aB ?aS ?aL ?_
        (case aR => repeat (first | exact (Kd.C_below HR1.out HB.out) | (with_reducible refine Kd.C_alloc ?_ _) | (with_reducible refine Kd.C_drewN ?_ _) | (with_reducible refine Kd.C_drew ?_)))
        (case aB => exact HB.out)
        (case aF => exact (fun k_ hk => ⟨Kd.fresh' (Kd.R_lt HO218.out) k_ hk, Kd.freshB BKi.out k_ hk⟩))
        (case aO => exact HO212.out)
        (case aS => exact (below_size HB.out))
        (case aL => have := LMc6.out; omega)
        intro v214 w20 ho hb hg hat
        rw [← Ny213.out] at ho
        have n0_ := Aside0.mk (blk_grown BKp.out hg (Kd.R_ne HO212.out BKp.out (by decide)))
        have n1_ := Aside0.mk (blk_grown BKx.out hg (Kd.R_ne HO212.out BKx.out (by decide)))
        have n2_ := Aside0.mk (blk_grown BKi.out hg (Kd.R_away HO212.out (fun _ hk => hk.2)))
        have n3_ := Aside0.mk (Kd.R_after (ok := (fun k_ => k_ ≠ gi)) (Kd.R_mono HO218.out (fun _ hk => ⟨hk.2, hk.1⟩)) hg hat)
        have n4_ := Aside0.mk (hb)
        have n5_ := Aside0.mk (ho)
        clear BKp BKx BKi HO218 HB HO212
        have BKp := n0_; have BKx := n1_; have BKi := n2_; have HO218 := n3_; have HB := n4_; have HO215 := n5_
        clear n0_ n1_ n2_ n3_ n4_ n5_ ho hb hg hat
        refine hK.out _ _ (hS0 _ BKx.out BKi.out) (fun hHeld => ?_)
        clear hK K
        refine norm_ (a' := ?_) ?_ ?_; rotate_left; (· (show Act.put _ (some 18) _ = _; simp only [Act.put, zA10, zB10, zC10, i64_w, i32_w]; rfl))
        exact norm_ (by simp only [putAll, Act.put, zA10, zB10, zC10] <;> rfl) (hJ0_2_4 (v211, v214, v217) _ ⟨hHeld, HO215.out, (Kd.R_mono HO218.out (fun _ hk => ⟨hk.2, hk.1⟩)), BKp.out, BKx.out, BKi.out, HB.out⟩)
      · skip
        refine Kd.R_lit_step k63 _ 63 ?hg (N := 22) ?hd (xs := ([] : List (S63))) (inner := []) (ok := fun _ => True) (okp := fun _ => True) ?hr ?hp (fun _ hk => hk) trivial (Below.refl _ _) (Nat.le_refl _) (by simp) ?_; (case hd => rfl); (case hg => rfl); (case hr => first | (go_simp; done) | (go_simp; rfl)); (case hp => exact (Reps.none _ _))
        intro v223 w20 ho21 hb hg_ hnew_
        clear hg_ hnew_
        (first | rw [← Ny222.out] at ho21 | (simp only [Int.reduceToNat] at ho21; rw [← Ny222.out] at ho21))
        have n0_ := Aside0.mk (Kd.R_below HO212.out hb)
        have n1_ := Aside0.mk (Kd.R_below HO218.out hb)
        have n2_ := Aside0.mk (Kd.R_lower (Kd.R_newB ho21 BKx.out) (below_size HB.out))
        have n3_ := Aside0.mk (blk_below BKp.out hb)
        have n4_ := Aside0.mk (blk_below BKx.out hb)
        have n5_ := Aside0.mk (blk_below BKi.out hb)
        have n6_ := Aside0.mk (below_step HB.out hb)
        clear HO212 HO218 BKp BKx BKi HB
        have HO212 := n0_; have HO218 := n1_; have HO224 := n2_; have BKp := n3_; have BKx := n4_; have BKi := n5_; have HB := n6_
        clear n0_ n1_ n2_ n3_ n4_ n5_ n6_ hb ho21
        refine hK.out _ _ (hS0 _ BKx.out BKi.out) (fun hHeld => ?_)
        clear hK K
        refine norm_ (a' := ?_) ?_ ?_; rotate_left; (· (show Act.put _ (some 22) _ = _; simp only [Act.put, zA10, zB10, zC10, i64_w, i32_w]; rfl))
        exact norm_ (by simp only [putAll, Act.put, zA10, zB10, zC10] <;> rfl) (hJ0_4_6 (v211, v217, v223) _ ⟨hHeld, HO212.out, HO218.out, (Kd.R_mono HO224.out (fun _ hk => hk.2)), BKp.out, BKx.out, BKi.out, HB.out⟩)
      · skip
        refine Kd.R_lit_step k63 _ 63 ?hg (N := 26) ?hd (xs := ([(⟨a3_0, a3_1, a3_2, a3_3⟩ : S63)] : List (S63))) (inner := [.int .i64 a3_0, .int .i64 a3_1, .int .i64 a3_2, .int .i64 a3_3]) (ok := fun _ => True) (okp := fun _ => True) ?hr ?hp (fun _ hk => hk) trivial (Below.refl _ _) (Nat.le_refl _) (by simp) ?_; (case hd => rfl); (case hg => rfl); (case hr => first | (go_simp; done) | (go_simp; rfl)); (case hp => exact (Reps.c4 (show Kd.M k63 _ _ _ (⟨a3_0, a3_1, a3_2, a3_3⟩ : S63) [.int .i64 a3_0, .int .i64 a3_1, .int .i64 a3_2, .int .i64 a3_3] from (k63_mkM _ _ _ (⟨a3_0, a3_1, a3_2, a3_3⟩ : S63) )) (Reps.none _ _)))
        intro v229 w20 ho21 hb hg_ hnew_
        clear hg_ hnew_
        (first | rw [← Ny228.out] at ho21 | (simp only [Int.reduceToNat] at ho21; rw [← Ny228.out] at ho21))
        have n0_ := Aside0.mk (Kd.R_below HO212.out hb)
        have n1_ := Aside0.mk (Kd.R_below HO218.out hb)
        have n2_ := Aside0.mk (Kd.R_lower (Kd.R_newB ho21 BKx.out) (below_size HB.out))
        have n3_ := Aside0.mk (blk_below BKp.out hb)
        have n4_ := Aside0.mk (blk_below BKx.out hb)
        have n5_ := Aside0.mk (blk_below BKi.out hb)
        have n6_ := Aside0.mk (below_step HB.out hb)
        clear HO212 HO218 BKp BKx BKi HB
        have HO212 := n0_; have HO218 := n1_; have HO230 := n2_; have BKp := n3_; have BKx := n4_; have BKi := n5_; have HB := n6_
        clear n0_ n1_ n2_ n3_ n4_ n5_ n6_ hb ho21
        refine hK.out _ _ (hS0 _ BKx.out BKi.out) (fun hHeld => ?_)
        clear hK K
        refine norm_ (a' := ?_) ?_ ?_; rotate_left; (· (show Act.put _ (some 26) _ = _; simp only [Act.put, zA10, zB10, zC10, i64_w, i32_w]; rfl))
        exact norm_ (by simp only [putAll, Act.put, zA10, zB10, zC10] <;> rfl) (hJ0_4_10 (v211, v217, v229) _ ⟨hHeld, HO212.out, HO218.out, (Kd.R_mono HO230.out (fun _ hk => hk.2)), BKp.out, BKx.out, BKi.out, HB.out⟩)
    intro hJ0_4
    refine join_ (σ := Value × Value) 8 q10_20 (fun s_ => [(16, s_.1), (22, s_.2)]) (fun s_ w' => S0 w' ∧ (Kd.R k28 28 w' w.heap.size (fun k_ => k_ ≠ gi) s_.1 y210) ∧ (Kd.R k63 63 w' w.heap.size (fun k_ => k_ ≠ gx) s_.2 y222) ∧ (w'.heap[gp]? = some (.cells cs7 26 (0, 0))) ∧ (w'.heap[gx]? = some (.cells cs8 63 (0, 0))) ∧ (w'.heap[gi]? = some (.cells cs9 28 (0, 0))) ∧ (Below w.heap.size w w')) ?_ ?_
    · skip
      rintro ⟨v211, v223⟩ w19 ⟨hS_, h0_, h1_, h2_, h3_, h4_, h5_⟩
      have n0_ : Aside0 (Kd.R k28 28 w19 w.heap.size (fun k_ => k_ ≠ gi) v211 y210) := ⟨h0_⟩
      have n1_ : Aside0 (Kd.R k63 63 w19 w.heap.size (fun k_ => k_ ≠ gx) v223 y222) := ⟨h1_⟩
      have n2_ : Aside0 (w19.heap[gp]? = some (.cells cs7 26 (0, 0))) := ⟨h2_⟩
      have n3_ : Aside0 (w19.heap[gx]? = some (.cells cs8 63 (0, 0))) := ⟨h3_⟩
      have n4_ : Aside0 (w19.heap[gi]? = some (.cells cs9 28 (0, 0))) := ⟨h4_⟩
      have n5_ : Aside0 (Below w.heap.size w w19) := ⟨h5_⟩
      clear BKp BKx BKi HB h0_ h1_ h2_ h3_ h4_ h5_
      have HO212 := n0_; have HO224 := n1_; have BKp := n2_; have BKx := n3_; have BKi := n4_; have HB := n5_
      clear n0_ n1_ n2_ n3_ n4_ n5_
      have hHeld : S0 w19 := hS_
      refine norm_ (a' := ?_) ?_ ?_; rotate_left; (· (simp only [putAll, Act.put, zA10, zB10, zC10]; rfl))
      refine three_ (i := 2) (j := 4) (k := 10) (Ni := some 18) (Nj := some 20) (Nk := some 26) q10_12 q10_14 q10_16 rfl rfl rfl rfl rfl rfl (three_of HT_.out (by kernel_rfl)) (by decide) (by decide) (by decide) (fun K hK => ?_) (fun K hK => ?_) (fun K hK => ?_)
      · skip
        refine Kd.R_append_rows_step k28 (w0 := w) w.heap.size (by rfl) (.tmp 16) (.tmp 17) 34 28 (.agg #[(.int .i64 0), (.int .i64 0), (.int .i64 0), (.int .i64 0), (.int .i64 0), (.int .i64 0)]) 48 rfl Try.underlying34 info28 rfl (by decide) (by omega) v211 y210 l1 _ _ _ (fun k_ => k_ ≠ gi) (fun _ => False) rfl rfl ?aO ?aR (fun _ _ h => h) (fun _ h => h.elim) ?aF ?aB ?aS ?aL ?_
        (case aR => repeat (first | exact (Kd.C_below HR1.out HB.out) | (with_reducible refine Kd.C_alloc ?_ _) | (with_reducible refine Kd.C_drewN ?_ _) | (with_reducible refine Kd.C_drew ?_)))
        (case aB => exact HB.out)
        (case aF => exact (fun k_ hk => Kd.freshB BKi.out k_ hk))
        (case aO => exact HO212.out)
        (case aS => exact (below_size HB.out))
        (case aL => have := LMc6.out; omega)
        intro v214 w20 ho hb hg hat
        rw [← Ny213.out] at ho
        have n0_ := Aside0.mk (blk_grown BKp.out hg (Kd.R_ne HO212.out BKp.out (by decide)))
        have n1_ := Aside0.mk (blk_grown BKx.out hg (Kd.R_ne HO212.out BKx.out (by decide)))
        have n2_ := Aside0.mk (blk_grown BKi.out hg (Kd.R_away HO212.out (fun _ hk => hk)))
        have n3_ := Aside0.mk (Kd.R_over' HO224.out (Kd.R_typed HO212.out) (by decide) hg)
        have n4_ := Aside0.mk (hb)
        have n5_ := Aside0.mk (ho)
        clear BKp BKx BKi HO224 HB HO212
        have BKp := n0_; have BKx := n1_; have BKi := n2_; have HO224 := n3_; have HB := n4_; have HO215 := n5_
        clear n0_ n1_ n2_ n3_ n4_ n5_ ho hb hg hat
        refine hK.out _ _ (hS0 _ BKx.out BKi.out) (fun hHeld => ?_)
        clear hK K
        refine norm_ (a' := ?_) ?_ ?_; rotate_left; (· (show Act.put _ (some 18) _ = _; simp only [Act.put, zA10, zB10, zC10, i64_w, i32_w]; rfl))
        exact norm_ (by simp only [putAll, Act.put, zA10, zB10, zC10] <;> rfl) (hJ0_2_6 (v211, v214, v223) _ ⟨hHeld, HO215.out, HO224.out, BKp.out, BKx.out, BKi.out, HB.out⟩)
      · skip
        refine Kd.R_lit_step k28 _ 28 ?hg (N := 20) ?hd (xs := ([(⟨a4_0, a4_1, a4_2, a4_3, a4_4, a4_5⟩ : S28)] : List (S28))) (inner := [.int .i64 a4_0, .int .i64 a4_1, .int .i64 a4_2, .int .i64 a4_3, .int .i64 a4_4, .int .i64 a4_5]) (ok := fun _ => True) (okp := fun _ => True) ?hr ?hp (fun _ hk => hk) trivial (Below.refl _ _) (Nat.le_refl _) (by simp) ?_; (case hd => rfl); (case hg => rfl); (case hr => first | (go_simp; done) | (go_simp; rfl)); (case hp => exact (Reps.c6 (show Kd.M k28 _ _ _ (⟨a4_0, a4_1, a4_2, a4_3, a4_4, a4_5⟩ : S28) [.int .i64 a4_0, .int .i64 a4_1, .int .i64 a4_2, .int .i64 a4_3, .int .i64 a4_4, .int .i64 a4_5] from (k28_mkM _ _ _ (⟨a4_0, a4_1, a4_2, a4_3, a4_4, a4_5⟩ : S28) )) (Reps.none _ _)))
        intro v217 w20 ho21 hb hg_ hnew_
        clear hg_ hnew_
        (first | rw [← Ny216.out] at ho21 | (simp only [Int.reduceToNat] at ho21; rw [← Ny216.out] at ho21))
        have n0_ := Aside0.mk (Kd.R_elder' HO212.out (Kd.R_base ho21) hb)
        have n1_ := Aside0.mk (Kd.R_below HO224.out hb)
        have n2_ := Aside0.mk (Kd.R_lower (Kd.R_newB (Kd.R_new' ho21 (Kd.R_lt HO212.out)) BKi.out) (below_size HB.out))
        have n3_ := Aside0.mk (blk_below BKp.out hb)
        have n4_ := Aside0.mk (blk_below BKx.out hb)
        have n5_ := Aside0.mk (blk_below BKi.out hb)
        have n6_ := Aside0.mk (below_step HB.out hb)
        clear HO212 HO224 BKp BKx BKi HB
        have HO212 := n0_; have HO224 := n1_; have HO218 := n2_; have BKp := n3_; have BKx := n4_; have BKi := n5_; have HB := n6_
        clear n0_ n1_ n2_ n3_ n4_ n5_ n6_ hb ho21
        refine hK.out _ _ (hS0 _ BKx.out BKi.out) (fun hHeld => ?_)
        clear hK K
        refine norm_ (a' := ?_) ?_ ?_; rotate_left; (· (show Act.put _ (some 20) _ = _; simp only [Act.put, zA10, zB10, zC10, i64_w, i32_w]; rfl))
        exact norm_ (by simp only [putAll, Act.put, zA10, zB10, zC10] <;> rfl) (hJ0_4_6 (v211, v217, v223) _ ⟨hHeld, (Kd.R_mono HO212.out (fun _ hk => ⟨hk.2, hk.1⟩)), (Kd.R_mono HO218.out (fun _ hk => ⟨hk.1.2, hk.2⟩)), HO224.out, BKp.out, BKx.out, BKi.out, HB.out⟩)
      · skip
        refine Kd.R_lit_step k63 _ 63 ?hg (N := 26) ?hd (xs := ([(⟨a3_0, a3_1, a3_2, a3_3⟩ : S63)] : List (S63))) (inner := [.int .i64 a3_0, .int .i64 a3_1, .int .i64 a3_2, .int .i64 a3_3]) (ok := fun _ => True) (okp := fun _ => True) ?hr ?hp (fun _ hk => hk) trivial (Below.refl _ _) (Nat.le_refl _) (by simp) ?_; (case hd => rfl); (case hg => rfl); (case hr => first | (go_simp; done) | (go_simp; rfl)); (case hp => exact (Reps.c4 (show Kd.M k63 _ _ _ (⟨a3_0, a3_1, a3_2, a3_3⟩ : S63) [.int .i64 a3_0, .int .i64 a3_1, .int .i64 a3_2, .int .i64 a3_3] from (k63_mkM _ _ _ (⟨a3_0, a3_1, a3_2, a3_3⟩ : S63) )) (Reps.none _ _)))
        intro v229 w20 ho21 hb hg_ hnew_
        clear hg_ hnew_
        (first | rw [← Ny228.out] at ho21 | (simp only [Int.reduceToNat] at ho21; rw [← Ny228.out] at ho21))
        have n0_ := Aside0.mk (Kd.R_below HO212.out hb)
        have n1_ := Aside0.mk (Kd.R_elder' HO224.out (Kd.R_base ho21) hb)
        have n2_ := Aside0.mk (Kd.R_lower (Kd.R_newB (Kd.R_new' ho21 (Kd.R_lt HO224.out)) BKx.out) (below_size HB.out))
        have n3_ := Aside0.mk (blk_below BKp.out hb)
        have n4_ := Aside0.mk (blk_below BKx.out hb)
        have n5_ := Aside0.mk (blk_below BKi.out hb)
        have n6_ := Aside0.mk (below_step HB.out hb)
        clear HO212 HO224 BKp BKx BKi HB
        have HO212 := n0_; have HO224 := n1_; have HO230 := n2_; have BKp := n3_; have BKx := n4_; have BKi := n5_; have HB := n6_
        clear n0_ n1_ n2_ n3_ n4_ n5_ n6_ hb ho21
        refine hK.out _ _ (hS0 _ BKx.out BKi.out) (fun hHeld => ?_)
        clear hK K
        refine norm_ (a' := ?_) ?_ ?_; rotate_left; (· (show Act.put _ (some 26) _ = _; simp only [Act.put, zA10, zB10, zC10, i64_w, i32_w]; rfl))
        exact norm_ (by simp only [putAll, Act.put, zA10, zB10, zC10] <;> rfl) (hJ0_6_10 (v211, v223, v229) _ ⟨hHeld, HO212.out, (Kd.R_mono HO224.out (fun _ hk => ⟨hk.2, hk.1⟩)), (Kd.R_mono HO230.out (fun _ hk => ⟨hk.1.2, hk.2⟩)), BKp.out, BKx.out, BKi.out, HB.out⟩)
    intro hJ0_6
    refine join_ (σ := Value × Value) 8 q10_21 (fun s_ => [(16, s_.1), (26, s_.2)]) (fun s_ w' => S0 w' ∧ (Kd.R k28 28 w' w.heap.size (fun k_ => k_ ≠ gi) s_.1 y210) ∧ (Kd.R k63 63 w' w.heap.size (fun k_ => k_ ≠ gx) s_.2 y228) ∧ (w'.heap[gp]? = some (.cells cs7 26 (0, 0))) ∧ (w'.heap[gx]? = some (.cells cs8 63 (0, 0))) ∧ (w'.heap[gi]? = some (.cells cs9 28 (0, 0))) ∧ (Below w.heap.size w w')) ?_ ?_
    · skip
      rintro ⟨v211, v229⟩ w19 ⟨hS_, h0_, h1_, h2_, h3_, h4_, h5_⟩
      have n0_ : Aside0 (Kd.R k28 28 w19 w.heap.size (fun k_ => k_ ≠ gi) v211 y210) := ⟨h0_⟩
      have n1_ : Aside0 (Kd.R k63 63 w19 w.heap.size (fun k_ => k_ ≠ gx) v229 y228) := ⟨h1_⟩
      have n2_ : Aside0 (w19.heap[gp]? = some (.cells cs7 26 (0, 0))) := ⟨h2_⟩
      have n3_ : Aside0 (w19.heap[gx]? = some (.cells cs8 63 (0, 0))) := ⟨h3_⟩
      have n4_ : Aside0 (w19.heap[gi]? = some (.cells cs9 28 (0, 0))) := ⟨h4_⟩
      have n5_ : Aside0 (Below w.heap.size w w19) := ⟨h5_⟩
      clear BKp BKx BKi HB h0_ h1_ h2_ h3_ h4_ h5_
      have HO212 := n0_; have HO230 := n1_; have BKp := n2_; have BKx := n3_; have BKi := n4_; have HB := n5_
      clear n0_ n1_ n2_ n3_ n4_ n5_
      have hHeld : S0 w19 := hS_
      refine norm_ (a' := ?_) ?_ ?_; rotate_left; (· (simp only [putAll, Act.put, zA10, zB10, zC10]; rfl))
      refine three_ (i := 2) (j := 4) (k := 6) (Ni := some 18) (Nj := some 20) (Nk := some 22) q10_13 q10_15 q10_16 rfl rfl rfl rfl rfl rfl (three_of HT_.out (by kernel_rfl)) (by decide) (by decide) (by decide) (fun K hK => ?_) (fun K hK => ?_) (fun K hK => ?_)
      · skip
        refine Kd.R_append_rows_step k28 (w0 := w) w.heap.size (by rfl) (.tmp 16) (.tmp 17) 34 28 (.agg #[(.int .i64 0), (.int .i64 0), (.int .i64 0), (.int .i64 0), (.int .i64 0), (.int .i64 0)]) 48 rfl Try.underlying34 info28 rfl (by decide) (by omega) v211 y210 l1 _ _ _ (fun k_ => k_ ≠ gi) (fun _ => False) rfl rfl ?aO ?aR (fun _ _ h => h) (fun _ h => h.elim) ?aF ?aB ?aS ?aL ?_
        (case aR => repeat (first | exact (Kd.C_below HR1.out HB.out) | (with_reducible refine Kd.C_alloc ?_ _) | (with_reducible refine Kd.C_drewN ?_ _) | (with_reducible refine Kd.C_drew ?_)))
        (case aB => exact HB.out)
        (case aF => exact (fun k_ hk => Kd.freshB BKi.out k_ hk))
        (case aO => exact HO212.out)
        (case aS => exact (below_size HB.out))
        (case aL => have := LMc6.out; omega)
        intro v214 w20 ho hb hg hat
        rw [← Ny213.out] at ho
        have n0_ := Aside0.mk (blk_grown BKp.out hg (Kd.R_ne HO212.out BKp.out (by decide)))
        have n1_ := Aside0.mk (blk_grown BKx.out hg (Kd.R_ne HO212.out BKx.out (by decide)))
        have n2_ := Aside0.mk (blk_grown BKi.out hg (Kd.R_away HO212.out (fun _ hk => hk)))
        have n3_ := Aside0.mk (Kd.R_over' HO230.out (Kd.R_typed HO212.out) (by decide) hg)
        have n4_ := Aside0.mk (hb)
        have n5_ := Aside0.mk (ho)
        clear BKp BKx BKi HO230 HB HO212
        have BKp := n0_; have BKx := n1_; have BKi := n2_; have HO230 := n3_; have HB := n4_; have HO215 := n5_
        clear n0_ n1_ n2_ n3_ n4_ n5_ ho hb hg hat
        refine hK.out _ _ (hS0 _ BKx.out BKi.out) (fun hHeld => ?_)
        clear hK K
        refine norm_ (a' := ?_) ?_ ?_; rotate_left; (· (show Act.put _ (some 18) _ = _; simp only [Act.put, zA10, zB10, zC10, i64_w, i32_w]; rfl))
        exact norm_ (by simp only [putAll, Act.put, zA10, zB10, zC10] <;> rfl) (hJ0_2_10 (v211, v214, v229) _ ⟨hHeld, HO215.out, HO230.out, BKp.out, BKx.out, BKi.out, HB.out⟩)
      · skip
        refine Kd.R_lit_step k28 _ 28 ?hg (N := 20) ?hd (xs := ([(⟨a4_0, a4_1, a4_2, a4_3, a4_4, a4_5⟩ : S28)] : List (S28))) (inner := [.int .i64 a4_0, .int .i64 a4_1, .int .i64 a4_2, .int .i64 a4_3, .int .i64 a4_4, .int .i64 a4_5]) (ok := fun _ => True) (okp := fun _ => True) ?hr ?hp (fun _ hk => hk) trivial (Below.refl _ _) (Nat.le_refl _) (by simp) ?_; (case hd => rfl); (case hg => rfl); (case hr => first | (go_simp; done) | (go_simp; rfl)); (case hp => exact (Reps.c6 (show Kd.M k28 _ _ _ (⟨a4_0, a4_1, a4_2, a4_3, a4_4, a4_5⟩ : S28) [.int .i64 a4_0, .int .i64 a4_1, .int .i64 a4_2, .int .i64 a4_3, .int .i64 a4_4, .int .i64 a4_5] from (k28_mkM _ _ _ (⟨a4_0, a4_1, a4_2, a4_3, a4_4, a4_5⟩ : S28) )) (Reps.none _ _)))
        intro v217 w20 ho21 hb hg_ hnew_
        clear hg_ hnew_
        (first | rw [← Ny216.out] at ho21 | (simp only [Int.reduceToNat] at ho21; rw [← Ny216.out] at ho21))
        have n0_ := Aside0.mk (Kd.R_elder' HO212.out (Kd.R_base ho21) hb)
        have n1_ := Aside0.mk (Kd.R_below HO230.out hb)
        have n2_ := Aside0.mk (Kd.R_lower (Kd.R_newB (Kd.R_new' ho21 (Kd.R_lt HO212.out)) BKi.out) (below_size HB.out))
        have n3_ := Aside0.mk (blk_below BKp.out hb)
        have n4_ := Aside0.mk (blk_below BKx.out hb)
        have n5_ := Aside0.mk (blk_below BKi.out hb)
        have n6_ := Aside0.mk (below_step HB.out hb)
        clear HO212 HO230 BKp BKx BKi HB
        have HO212 := n0_; have HO230 := n1_; have HO218 := n2_; have BKp := n3_; have BKx := n4_; have BKi := n5_; have HB := n6_
        clear n0_ n1_ n2_ n3_ n4_ n5_ n6_ hb ho21
        refine hK.out _ _ (hS0 _ BKx.out BKi.out) (fun hHeld => ?_)
        clear hK K
        refine norm_ (a' := ?_) ?_ ?_; rotate_left; (· (show Act.put _ (some 20) _ = _; simp only [Act.put, zA10, zB10, zC10, i64_w, i32_w]; rfl))
        exact norm_ (by simp only [putAll, Act.put, zA10, zB10, zC10] <;> rfl) (hJ0_4_10 (v211, v217, v229) _ ⟨hHeld, (Kd.R_mono HO212.out (fun _ hk => ⟨hk.2, hk.1⟩)), (Kd.R_mono HO218.out (fun _ hk => ⟨hk.1.2, hk.2⟩)), HO230.out, BKp.out, BKx.out, BKi.out, HB.out⟩)
      · skip
        refine Kd.R_lit_step k63 _ 63 ?hg (N := 22) ?hd (xs := ([] : List (S63))) (inner := []) (ok := fun _ => True) (okp := fun _ => True) ?hr ?hp (fun _ hk => hk) trivial (Below.refl _ _) (Nat.le_refl _) (by simp) ?_; (case hd => rfl); (case hg => rfl); (case hr => first | (go_simp; done) | (go_simp; rfl)); (case hp => exact (Reps.none _ _))
        intro v223 w20 ho21 hb hg_ hnew_
        clear hg_ hnew_
        (first | rw [← Ny222.out] at ho21 | (simp only [Int.reduceToNat] at ho21; rw [← Ny222.out] at ho21))
        have n0_ := Aside0.mk (Kd.R_below HO212.out hb)
        have n1_ := Aside0.mk (Kd.R_elder' HO230.out (Kd.R_base ho21) hb)
        have n2_ := Aside0.mk (Kd.R_lower (Kd.R_newB (Kd.R_new' ho21 (Kd.R_lt HO230.out)) BKx.out) (below_size HB.out))
        have n3_ := Aside0.mk (blk_below BKp.out hb)
        have n4_ := Aside0.mk (blk_below BKx.out hb)
        have n5_ := Aside0.mk (blk_below BKi.out hb)
        have n6_ := Aside0.mk (below_step HB.out hb)
        clear HO212 HO230 BKp BKx BKi HB
        have HO212 := n0_; have HO230 := n1_; have HO224 := n2_; have BKp := n3_; have BKx := n4_; have BKi := n5_; have HB := n6_
        clear n0_ n1_ n2_ n3_ n4_ n5_ n6_ hb ho21
        refine hK.out _ _ (hS0 _ BKx.out BKi.out) (fun hHeld => ?_)
        clear hK K
        refine norm_ (a' := ?_) ?_ ?_; rotate_left; (· (show Act.put _ (some 22) _ = _; simp only [Act.put, zA10, zB10, zC10, i64_w, i32_w]; rfl))
        exact norm_ (by simp only [putAll, Act.put, zA10, zB10, zC10] <;> rfl) (hJ0_6_10 (v211, v223, v229) _ ⟨hHeld, HO212.out, (Kd.R_mono HO224.out (fun _ hk => ⟨hk.1.2, hk.2⟩)), (Kd.R_mono HO230.out (fun _ hk => ⟨hk.2, hk.1⟩)), BKp.out, BKx.out, BKi.out, HB.out⟩)
    intro hJ0_10
    refine join_ (σ := Value × Value) 8 q10_22 (fun s_ => [(20, s_.1), (22, s_.2)]) (fun s_ w' => S0 w' ∧ (Kd.R k28 28 w' w.heap.size (fun k_ => k_ ≠ gi) s_.1 y216) ∧ (Kd.R k63 63 w' w.heap.size (fun k_ => k_ ≠ gx) s_.2 y222) ∧ (w'.heap[gp]? = some (.cells cs7 26 (0, 0))) ∧ (w'.heap[gx]? = some (.cells cs8 63 (0, 0))) ∧ (w'.heap[gi]? = some (.cells cs9 28 (0, 0))) ∧ (Below w.heap.size w w')) ?_ ?_
    · skip
      rintro ⟨v217, v223⟩ w19 ⟨hS_, h0_, h1_, h2_, h3_, h4_, h5_⟩
      have n0_ : Aside0 (Kd.R k28 28 w19 w.heap.size (fun k_ => k_ ≠ gi) v217 y216) := ⟨h0_⟩
      have n1_ : Aside0 (Kd.R k63 63 w19 w.heap.size (fun k_ => k_ ≠ gx) v223 y222) := ⟨h1_⟩
      have n2_ : Aside0 (w19.heap[gp]? = some (.cells cs7 26 (0, 0))) := ⟨h2_⟩
      have n3_ : Aside0 (w19.heap[gx]? = some (.cells cs8 63 (0, 0))) := ⟨h3_⟩
      have n4_ : Aside0 (w19.heap[gi]? = some (.cells cs9 28 (0, 0))) := ⟨h4_⟩
      have n5_ : Aside0 (Below w.heap.size w w19) := ⟨h5_⟩
      clear BKp BKx BKi HB h0_ h1_ h2_ h3_ h4_ h5_
      have HO218 := n0_; have HO224 := n1_; have BKp := n2_; have BKx := n3_; have BKi := n4_; have HB := n5_
      clear n0_ n1_ n2_ n3_ n4_ n5_
      have hHeld : S0 w19 := hS_
      refine norm_ (a' := ?_) ?_ ?_; rotate_left; (· (simp only [putAll, Act.put, zA10, zB10, zC10]; rfl))
      refine two_ (i := 0) (j := 10) (Ni := some 16) (Nj := some 26) q10_14 q10_17 rfl rfl rfl rfl (two_of HT_.out (by kernel_rfl)) (by decide) (by decide) (fun K hK => ?_) (fun K hK => ?_)
      · skip
        refine Kd.R_lit_step k28 _ 28 ?hg (N := 16) ?hd (xs := ([] : List (S28))) (inner := []) (ok := fun _ => True) (okp := fun _ => True) ?hr ?hp (fun _ hk => hk) trivial (Below.refl _ _) (Nat.le_refl _) (by simp) ?_; (case hd => rfl); (case hg => rfl); (case hr => first | (go_simp; done) | (go_simp; rfl)); (case hp => exact (Reps.none _ _))
        intro v211 w20 ho21 hb hg_ hnew_
        clear hg_ hnew_
        (first | rw [← Ny210.out] at ho21 | (simp only [Int.reduceToNat] at ho21; rw [← Ny210.out] at ho21))
        have n0_ := Aside0.mk (Kd.R_elder' HO218.out (Kd.R_base ho21) hb)
        have n1_ := Aside0.mk (Kd.R_below HO224.out hb)
        have n2_ := Aside0.mk (Kd.R_lower (Kd.R_newB (Kd.R_new' ho21 (Kd.R_lt HO218.out)) BKi.out) (below_size HB.out))
        have n3_ := Aside0.mk (blk_below BKp.out hb)
        have n4_ := Aside0.mk (blk_below BKx.out hb)
        have n5_ := Aside0.mk (blk_below BKi.out hb)
        have n6_ := Aside0.mk (below_step HB.out hb)
        clear HO218 HO224 BKp BKx BKi HB
        have HO218 := n0_; have HO224 := n1_; have HO212 := n2_; have BKp := n3_; have BKx := n4_; have BKi := n5_; have HB := n6_
        clear n0_ n1_ n2_ n3_ n4_ n5_ n6_ hb ho21
        refine hK.out _ _ (hS0 _ BKx.out BKi.out) (fun hHeld => ?_)
        clear hK K
        refine norm_ (a' := ?_) ?_ ?_; rotate_left; (· (show Act.put _ (some 16) _ = _; simp only [Act.put, zA10, zB10, zC10, i64_w, i32_w]; rfl))
        exact norm_ (by simp only [putAll, Act.put, zA10, zB10, zC10] <;> rfl) (hJ0_4_6 (v211, v217, v223) _ ⟨hHeld, (Kd.R_mono HO212.out (fun _ hk => ⟨hk.1.2, hk.2⟩)), (Kd.R_mono HO218.out (fun _ hk => ⟨hk.2, hk.1⟩)), HO224.out, BKp.out, BKx.out, BKi.out, HB.out⟩)
      · skip
        refine Kd.R_lit_step k63 _ 63 ?hg (N := 26) ?hd (xs := ([(⟨a3_0, a3_1, a3_2, a3_3⟩ : S63)] : List (S63))) (inner := [.int .i64 a3_0, .int .i64 a3_1, .int .i64 a3_2, .int .i64 a3_3]) (ok := fun _ => True) (okp := fun _ => True) ?hr ?hp (fun _ hk => hk) trivial (Below.refl _ _) (Nat.le_refl _) (by simp) ?_; (case hd => rfl); (case hg => rfl); (case hr => first | (go_simp; done) | (go_simp; rfl)); (case hp => exact (Reps.c4 (show Kd.M k63 _ _ _ (⟨a3_0, a3_1, a3_2, a3_3⟩ : S63) [.int .i64 a3_0, .int .i64 a3_1, .int .i64 a3_2, .int .i64 a3_3] from (k63_mkM _ _ _ (⟨a3_0, a3_1, a3_2, a3_3⟩ : S63) )) (Reps.none _ _)))
        intro v229 w20 ho21 hb hg_ hnew_
        clear hg_ hnew_
        (first | rw [← Ny228.out] at ho21 | (simp only [Int.reduceToNat] at ho21; rw [← Ny228.out] at ho21))
        have n0_ := Aside0.mk (Kd.R_below HO218.out hb)
        have n1_ := Aside0.mk (Kd.R_elder' HO224.out (Kd.R_base ho21) hb)
        have n2_ := Aside0.mk (Kd.R_lower (Kd.R_newB (Kd.R_new' ho21 (Kd.R_lt HO224.out)) BKx.out) (below_size HB.out))
        have n3_ := Aside0.mk (blk_below BKp.out hb)
        have n4_ := Aside0.mk (blk_below BKx.out hb)
        have n5_ := Aside0.mk (blk_below BKi.out hb)
        have n6_ := Aside0.mk (below_step HB.out hb)
        clear HO218 HO224 BKp BKx BKi HB
        have HO218 := n0_; have HO224 := n1_; have HO230 := n2_; have BKp := n3_; have BKx := n4_; have BKi := n5_; have HB := n6_
        clear n0_ n1_ n2_ n3_ n4_ n5_ n6_ hb ho21
        refine hK.out _ _ (hS0 _ BKx.out BKi.out) (fun hHeld => ?_)
        clear hK K
        refine norm_ (a' := ?_) ?_ ?_; rotate_left; (· (show Act.put _ (some 26) _ = _; simp only [Act.put, zA10, zB10, zC10, i64_w, i32_w]; rfl))
        exact norm_ (by simp only [putAll, Act.put, zA10, zB10, zC10] <;> rfl) (hJ4_6_10 (v217, v223, v229) _ ⟨hHeld, HO218.out, (Kd.R_mono HO224.out (fun _ hk => ⟨hk.2, hk.1⟩)), (Kd.R_mono HO230.out (fun _ hk => ⟨hk.1.2, hk.2⟩)), BKp.out, BKx.out, BKi.out, HB.out⟩)
    intro hJ4_6
    refine join_ (σ := Value × Value) 8 q10_23 (fun s_ => [(20, s_.1), (26, s_.2)]) (fun s_ w' => S0 w' ∧ (Kd.R k28 28 w' w.heap.size (fun k_ => k_ ≠ gi) s_.1 y216) ∧ (Kd.R k63 63 w' w.heap.size (fun k_ => k_ ≠ gx) s_.2 y228) ∧ (w'.heap[gp]? = some (.cells cs7 26 (0, 0))) ∧ (w'.heap[gx]? = some (.cells cs8 63 (0, 0))) ∧ (w'.heap[gi]? = some (.cells cs9 28 (0, 0))) ∧ (Below w.heap.size w w')) ?_ ?_
    · skip
      rintro ⟨v217, v229⟩ w19 ⟨hS_, h0_, h1_, h2_, h3_, h4_, h5_⟩
      have n0_ : Aside0 (Kd.R k28 28 w19 w.heap.size (fun k_ => k_ ≠ gi) v217 y216) := ⟨h0_⟩
      have n1_ : Aside0 (Kd.R k63 63 w19 w.heap.size (fun k_ => k_ ≠ gx) v229 y228) := ⟨h1_⟩
      have n2_ : Aside0 (w19.heap[gp]? = some (.cells cs7 26 (0, 0))) := ⟨h2_⟩
      have n3_ : Aside0 (w19.heap[gx]? = some (.cells cs8 63 (0, 0))) := ⟨h3_⟩
      have n4_ : Aside0 (w19.heap[gi]? = some (.cells cs9 28 (0, 0))) := ⟨h4_⟩
      have n5_ : Aside0 (Below w.heap.size w w19) := ⟨h5_⟩
      clear BKp BKx BKi HB h0_ h1_ h2_ h3_ h4_ h5_
      have HO218 := n0_; have HO230 := n1_; have BKp := n2_; have BKx := n3_; have BKi := n4_; have HB := n5_
      clear n0_ n1_ n2_ n3_ n4_ n5_
      have hHeld : S0 w19 := hS_
      refine norm_ (a' := ?_) ?_ ?_; rotate_left; (· (simp only [putAll, Act.put, zA10, zB10, zC10]; rfl))
      refine two_ (i := 0) (j := 6) (Ni := some 16) (Nj := some 22) q10_15 q10_17 rfl rfl rfl rfl (two_of HT_.out (by kernel_rfl)) (by decide) (by decide) (fun K hK => ?_) (fun K hK => ?_)
      · skip
        refine Kd.R_lit_step k28 _ 28 ?hg (N := 16) ?hd (xs := ([] : List (S28))) (inner := []) (ok := fun _ => True) (okp := fun _ => True) ?hr ?hp (fun _ hk => hk) trivial (Below.refl _ _) (Nat.le_refl _) (by simp) ?_; (case hd => rfl); (case hg => rfl); (case hr => first | (go_simp; done) | (go_simp; rfl)); (case hp => exact (Reps.none _ _))
        intro v211 w20 ho21 hb hg_ hnew_
        clear hg_ hnew_
        (first | rw [← Ny210.out] at ho21 | (simp only [Int.reduceToNat] at ho21; rw [← Ny210.out] at ho21))
        have n0_ := Aside0.mk (Kd.R_elder' HO218.out (Kd.R_base ho21) hb)
        have n1_ := Aside0.mk (Kd.R_below HO230.out hb)
        have n2_ := Aside0.mk (Kd.R_lower (Kd.R_newB (Kd.R_new' ho21 (Kd.R_lt HO218.out)) BKi.out) (below_size HB.out))
        have n3_ := Aside0.mk (blk_below BKp.out hb)
        have n4_ := Aside0.mk (blk_below BKx.out hb)
        have n5_ := Aside0.mk (blk_below BKi.out hb)
        have n6_ := Aside0.mk (below_step HB.out hb)
        clear HO218 HO230 BKp BKx BKi HB
        have HO218 := n0_; have HO230 := n1_; have HO212 := n2_; have BKp := n3_; have BKx := n4_; have BKi := n5_; have HB := n6_
        clear n0_ n1_ n2_ n3_ n4_ n5_ n6_ hb ho21
        refine hK.out _ _ (hS0 _ BKx.out BKi.out) (fun hHeld => ?_)
        clear hK K
        refine norm_ (a' := ?_) ?_ ?_; rotate_left; (· (show Act.put _ (some 16) _ = _; simp only [Act.put, zA10, zB10, zC10, i64_w, i32_w]; rfl))
        exact norm_ (by simp only [putAll, Act.put, zA10, zB10, zC10] <;> rfl) (hJ0_4_10 (v211, v217, v229) _ ⟨hHeld, (Kd.R_mono HO212.out (fun _ hk => ⟨hk.1.2, hk.2⟩)), (Kd.R_mono HO218.out (fun _ hk => ⟨hk.2, hk.1⟩)), HO230.out, BKp.out, BKx.out, BKi.out, HB.out⟩)
      · skip
        refine Kd.R_lit_step k63 _ 63 ?hg (N := 22) ?hd (xs := ([] : List (S63))) (inner := []) (ok := fun _ => True) (okp := fun _ => True) ?hr ?hp (fun _ hk => hk) trivial (Below.refl _ _) (Nat.le_refl _) (by simp) ?_; (case hd => rfl); (case hg => rfl); (case hr => first | (go_simp; done) | (go_simp; rfl)); (case hp => exact (Reps.none _ _))
        intro v223 w20 ho21 hb hg_ hnew_
        clear hg_ hnew_
        (first | rw [← Ny222.out] at ho21 | (simp only [Int.reduceToNat] at ho21; rw [← Ny222.out] at ho21))
        have n0_ := Aside0.mk (Kd.R_below HO218.out hb)
        have n1_ := Aside0.mk (Kd.R_elder' HO230.out (Kd.R_base ho21) hb)
        have n2_ := Aside0.mk (Kd.R_lower (Kd.R_newB (Kd.R_new' ho21 (Kd.R_lt HO230.out)) BKx.out) (below_size HB.out))
        have n3_ := Aside0.mk (blk_below BKp.out hb)
        have n4_ := Aside0.mk (blk_below BKx.out hb)
        have n5_ := Aside0.mk (blk_below BKi.out hb)
        have n6_ := Aside0.mk (below_step HB.out hb)
        clear HO218 HO230 BKp BKx BKi HB
        have HO218 := n0_; have HO230 := n1_; have HO224 := n2_; have BKp := n3_; have BKx := n4_; have BKi := n5_; have HB := n6_
        clear n0_ n1_ n2_ n3_ n4_ n5_ n6_ hb ho21
        refine hK.out _ _ (hS0 _ BKx.out BKi.out) (fun hHeld => ?_)
        clear hK K
        refine norm_ (a' := ?_) ?_ ?_; rotate_left; (· (show Act.put _ (some 22) _ = _; simp only [Act.put, zA10, zB10, zC10, i64_w, i32_w]; rfl))
        exact norm_ (by simp only [putAll, Act.put, zA10, zB10, zC10] <;> rfl) (hJ4_6_10 (v217, v223, v229) _ ⟨hHeld, HO218.out, (Kd.R_mono HO224.out (fun _ hk => ⟨hk.1.2, hk.2⟩)), (Kd.R_mono HO230.out (fun _ hk => ⟨hk.2, hk.1⟩)), BKp.out, BKx.out, BKi.out, HB.out⟩)
    intro hJ4_10
    refine join_ (σ := Value × Value) 8 q10_24 (fun s_ => [(22, s_.1), (26, s_.2)]) (fun s_ w' => S0 w' ∧ (Kd.R k63 63 w' w.heap.size (fun k_ => some k_ ≠ (s_.2 : Value).ownBlock ∧ k_ ≠ gx) s_.1 y222) ∧ (Kd.R k63 63 w' w.heap.size (fun k_ => some k_ ≠ (s_.1 : Value).ownBlock ∧ k_ ≠ gx) s_.2 y228) ∧ (w'.heap[gp]? = some (.cells cs7 26 (0, 0))) ∧ (w'.heap[gx]? = some (.cells cs8 63 (0, 0))) ∧ (w'.heap[gi]? = some (.cells cs9 28 (0, 0))) ∧ (Below w.heap.size w w')) ?_ ?_
    · skip
      rintro ⟨v223, v229⟩ w19 ⟨hS_, h0_, h1_, h2_, h3_, h4_, h5_⟩
      have n0_ : Aside0 (Kd.R k63 63 w19 w.heap.size (fun k_ => some k_ ≠ (v229 : Value).ownBlock ∧ k_ ≠ gx) v223 y222) := ⟨h0_⟩
      have n1_ : Aside0 (Kd.R k63 63 w19 w.heap.size (fun k_ => some k_ ≠ (v223 : Value).ownBlock ∧ k_ ≠ gx) v229 y228) := ⟨h1_⟩
      have n2_ : Aside0 (w19.heap[gp]? = some (.cells cs7 26 (0, 0))) := ⟨h2_⟩
      have n3_ : Aside0 (w19.heap[gx]? = some (.cells cs8 63 (0, 0))) := ⟨h3_⟩
      have n4_ : Aside0 (w19.heap[gi]? = some (.cells cs9 28 (0, 0))) := ⟨h4_⟩
      have n5_ : Aside0 (Below w.heap.size w w19) := ⟨h5_⟩
      clear BKp BKx BKi HB h0_ h1_ h2_ h3_ h4_ h5_
      have HO224 := n0_; have HO230 := n1_; have BKp := n2_; have BKx := n3_; have BKi := n4_; have HB := n5_
      clear n0_ n1_ n2_ n3_ n4_ n5_
      have hHeld : S0 w19 := hS_
      refine norm_ (a' := ?_) ?_ ?_; rotate_left; (· (simp only [putAll, Act.put, zA10, zB10, zC10]; rfl))
      refine two_ (i := 0) (j := 4) (Ni := some 16) (Nj := some 20) q10_16 q10_17 rfl rfl rfl rfl (two_of HT_.out (by kernel_rfl)) (by decide) (by decide) (fun K hK => ?_) (fun K hK => ?_)
      · skip
        refine Kd.R_lit_step k28 _ 28 ?hg (N := 16) ?hd (xs := ([] : List (S28))) (inner := []) (ok := fun _ => True) (okp := fun _ => True) ?hr ?hp (fun _ hk => hk) trivial (Below.refl _ _) (Nat.le_refl _) (by simp) ?_; (case hd => rfl); (case hg => rfl); (case hr => first | (go_simp; done) | (go_simp; rfl)); (case hp => exact (Reps.none _ _))
        intro v211 w20 ho21 hb hg_ hnew_
        clear hg_ hnew_
        (first | rw [← Ny210.out] at ho21 | (simp only [Int.reduceToNat] at ho21; rw [← Ny210.out] at ho21))
        have n0_ := Aside0.mk (Kd.R_below HO224.out hb)
        have n1_ := Aside0.mk (Kd.R_below HO230.out hb)
        have n2_ := Aside0.mk (Kd.R_lower (Kd.R_newB ho21 BKi.out) (below_size HB.out))
        have n3_ := Aside0.mk (blk_below BKp.out hb)
        have n4_ := Aside0.mk (blk_below BKx.out hb)
        have n5_ := Aside0.mk (blk_below BKi.out hb)
        have n6_ := Aside0.mk (below_step HB.out hb)
        clear HO224 HO230 BKp BKx BKi HB
        have HO224 := n0_; have HO230 := n1_; have HO212 := n2_; have BKp := n3_; have BKx := n4_; have BKi := n5_; have HB := n6_
        clear n0_ n1_ n2_ n3_ n4_ n5_ n6_ hb ho21
        refine hK.out _ _ (hS0 _ BKx.out BKi.out) (fun hHeld => ?_)
        clear hK K
        refine norm_ (a' := ?_) ?_ ?_; rotate_left; (· (show Act.put _ (some 16) _ = _; simp only [Act.put, zA10, zB10, zC10, i64_w, i32_w]; rfl))
        exact norm_ (by simp only [putAll, Act.put, zA10, zB10, zC10] <;> rfl) (hJ0_6_10 (v211, v223, v229) _ ⟨hHeld, (Kd.R_mono HO212.out (fun _ hk => hk.2)), HO224.out, HO230.out, BKp.out, BKx.out, BKi.out, HB.out⟩)
      · skip
        refine Kd.R_lit_step k28 _ 28 ?hg (N := 20) ?hd (xs := ([(⟨a4_0, a4_1, a4_2, a4_3, a4_4, a4_5⟩ : S28)] : List (S28))) (inner := [.int .i64 a4_0, .int .i64 a4_1, .int .i64 a4_2, .int .i64 a4_3, .int .i64 a4_4, .int .i64 a4_5]) (ok := fun _ => True) (okp := fun _ => True) ?hr ?hp (fun _ hk => hk) trivial (Below.refl _ _) (Nat.le_refl _) (by simp) ?_; (case hd => rfl); (case hg => rfl); (case hr => first | (go_simp; done) | (go_simp; rfl)); (case hp => exact (Reps.c6 (show Kd.M k28 _ _ _ (⟨a4_0, a4_1, a4_2, a4_3, a4_4, a4_5⟩ : S28) [.int .i64 a4_0, .int .i64 a4_1, .int .i64 a4_2, .int .i64 a4_3, .int .i64 a4_4, .int .i64 a4_5] from (k28_mkM _ _ _ (⟨a4_0, a4_1, a4_2, a4_3, a4_4, a4_5⟩ : S28) )) (Reps.none _ _)))
        intro v217 w20 ho21 hb hg_ hnew_
        clear hg_ hnew_
        (first | rw [← Ny216.out] at ho21 | (simp only [Int.reduceToNat] at ho21; rw [← Ny216.out] at ho21))
        have n0_ := Aside0.mk (Kd.R_below HO224.out hb)
        have n1_ := Aside0.mk (Kd.R_below HO230.out hb)
        have n2_ := Aside0.mk (Kd.R_lower (Kd.R_newB ho21 BKi.out) (below_size HB.out))
        have n3_ := Aside0.mk (blk_below BKp.out hb)
        have n4_ := Aside0.mk (blk_below BKx.out hb)
        have n5_ := Aside0.mk (blk_below BKi.out hb)
        have n6_ := Aside0.mk (below_step HB.out hb)
        clear HO224 HO230 BKp BKx BKi HB
        have HO224 := n0_; have HO230 := n1_; have HO218 := n2_; have BKp := n3_; have BKx := n4_; have BKi := n5_; have HB := n6_
        clear n0_ n1_ n2_ n3_ n4_ n5_ n6_ hb ho21
        refine hK.out _ _ (hS0 _ BKx.out BKi.out) (fun hHeld => ?_)
        clear hK K
        refine norm_ (a' := ?_) ?_ ?_; rotate_left; (· (show Act.put _ (some 20) _ = _; simp only [Act.put, zA10, zB10, zC10, i64_w, i32_w]; rfl))
        exact norm_ (by simp only [putAll, Act.put, zA10, zB10, zC10] <;> rfl) (hJ4_6_10 (v217, v223, v229) _ ⟨hHeld, (Kd.R_mono HO218.out (fun _ hk => hk.2)), HO224.out, HO230.out, BKp.out, BKx.out, BKi.out, HB.out⟩)
    intro hJ6_10
    refine join_ (σ := Value) 9 q10_25 (fun s_ => [(16, s_)]) (fun s_ w' => S0 w' ∧ (Kd.R k28 28 w' w.heap.size (fun k_ => k_ ≠ gi) s_ y210) ∧ (w'.heap[gp]? = some (.cells cs7 26 (0, 0))) ∧ (w'.heap[gx]? = some (.cells cs8 63 (0, 0))) ∧ (w'.heap[gi]? = some (.cells cs9 28 (0, 0))) ∧ (Below w.heap.size w w')) ?_ ?_
    · skip
      rintro v211 w17 ⟨hS_, h0_, h1_, h2_, h3_, h4_⟩
      have n0_ : Aside0 (Kd.R k28 28 w17 w.heap.size (fun k_ => k_ ≠ gi) v211 y210) := ⟨h0_⟩
      have n1_ : Aside0 (w17.heap[gp]? = some (.cells cs7 26 (0, 0))) := ⟨h1_⟩
      have n2_ : Aside0 (w17.heap[gx]? = some (.cells cs8 63 (0, 0))) := ⟨h2_⟩
      have n3_ : Aside0 (w17.heap[gi]? = some (.cells cs9 28 (0, 0))) := ⟨h3_⟩
      have n4_ : Aside0 (Below w.heap.size w w17) := ⟨h4_⟩
      clear BKp BKx BKi HB h0_ h1_ h2_ h3_ h4_
      have HO212 := n0_; have BKp := n1_; have BKx := n2_; have BKi := n3_; have HB := n4_
      clear n0_ n1_ n2_ n3_ n4_
      have hHeld : S0 w17 := hS_
      refine norm_ (a' := ?_) ?_ ?_; rotate_left; (· (simp only [putAll, Act.put, zA10, zB10, zC10]; rfl))
      refine four_ (i := 2) (j := 4) (k := 6) (m := 10) (Ni := some 18) (Nj := some 20) (Nk := some 22) (Nm := some 26) q10_18 q10_19 q10_20 q10_21 rfl rfl rfl rfl rfl rfl rfl rfl (four_of HT_.out (by kernel_rfl)) (by decide) (by decide) (by decide) (by decide) (fun K hK => ?_) (fun K hK => ?_) (fun K hK => ?_) (fun K hK => ?_)
      · skip
        refine Kd.R_append_rows_step k28 (w0 := w) w.heap.size (by rfl) (.tmp 16) (.tmp 17) 34 28 (.agg #[(.int .i64 0), (.int .i64 0), (.int .i64 0), (.int .i64 0), (.int .i64 0), (.int .i64 0)]) 48 rfl Try.underlying34 info28 rfl (by decide) (by omega) v211 y210 l1 _ _ _ (fun k_ => k_ ≠ gi) (fun _ => False) rfl rfl ?aO ?aR (fun _ _ h => h) (fun _ h => h.elim) ?aF ?aB ?aS ?aL ?_
        (case aR => repeat (first | exact (Kd.C_below HR1.out HB.out) | (with_reducible refine Kd.C_alloc ?_ _) | (with_reducible refine Kd.C_drewN ?_ _) | (with_reducible refine Kd.C_drew ?_)))
        (case aB => exact HB.out)
        (case aF => exact (fun k_ hk => Kd.freshB BKi.out k_ hk))
        (case aO => exact HO212.out)
        (case aS => exact (below_size HB.out))
        (case aL => have := LMc6.out; omega)
        intro v214 w18 ho hb hg hat
        rw [← Ny213.out] at ho
        have n0_ := Aside0.mk (blk_grown BKp.out hg (Kd.R_ne HO212.out BKp.out (by decide)))
        have n1_ := Aside0.mk (blk_grown BKx.out hg (Kd.R_ne HO212.out BKx.out (by decide)))
        have n2_ := Aside0.mk (blk_grown BKi.out hg (Kd.R_away HO212.out (fun _ hk => hk)))
        have n3_ := Aside0.mk (hb)
        have n4_ := Aside0.mk (ho)
        clear BKp BKx BKi HB HO212
        have BKp := n0_; have BKx := n1_; have BKi := n2_; have HB := n3_; have HO215 := n4_
        clear n0_ n1_ n2_ n3_ n4_ ho hb hg hat
        refine hK.out _ _ (hS0 _ BKx.out BKi.out) (fun hHeld => ?_)
        clear hK K
        refine norm_ (a' := ?_) ?_ ?_; rotate_left; (· (show Act.put _ (some 18) _ = _; simp only [Act.put, zA10, zB10, zC10, i64_w, i32_w]; rfl))
        exact norm_ (by simp only [putAll, Act.put, zA10, zB10, zC10] <;> rfl) (hJ0_2 (v211, v214) _ ⟨hHeld, HO215.out, BKp.out, BKx.out, BKi.out, HB.out⟩)
      · skip
        refine Kd.R_lit_step k28 _ 28 ?hg (N := 20) ?hd (xs := ([(⟨a4_0, a4_1, a4_2, a4_3, a4_4, a4_5⟩ : S28)] : List (S28))) (inner := [.int .i64 a4_0, .int .i64 a4_1, .int .i64 a4_2, .int .i64 a4_3, .int .i64 a4_4, .int .i64 a4_5]) (ok := fun _ => True) (okp := fun _ => True) ?hr ?hp (fun _ hk => hk) trivial (Below.refl _ _) (Nat.le_refl _) (by simp) ?_; (case hd => rfl); (case hg => rfl); (case hr => first | (go_simp; done) | (go_simp; rfl)); (case hp => exact (Reps.c6 (show Kd.M k28 _ _ _ (⟨a4_0, a4_1, a4_2, a4_3, a4_4, a4_5⟩ : S28) [.int .i64 a4_0, .int .i64 a4_1, .int .i64 a4_2, .int .i64 a4_3, .int .i64 a4_4, .int .i64 a4_5] from (k28_mkM _ _ _ (⟨a4_0, a4_1, a4_2, a4_3, a4_4, a4_5⟩ : S28) )) (Reps.none _ _)))
        intro v217 w18 ho19 hb hg_ hnew_
        clear hg_ hnew_
        (first | rw [← Ny216.out] at ho19 | (simp only [Int.reduceToNat] at ho19; rw [← Ny216.out] at ho19))
        have n0_ := Aside0.mk (Kd.R_elder' HO212.out (Kd.R_base ho19) hb)
        have n1_ := Aside0.mk (Kd.R_lower (Kd.R_newB (Kd.R_new' ho19 (Kd.R_lt HO212.out)) BKi.out) (below_size HB.out))
        have n2_ := Aside0.mk (blk_below BKp.out hb)
        have n3_ := Aside0.mk (blk_below BKx.out hb)
        have n4_ := Aside0.mk (blk_below BKi.out hb)
        have n5_ := Aside0.mk (below_step HB.out hb)
        clear HO212 BKp BKx BKi HB
        have HO212 := n0_; have HO218 := n1_; have BKp := n2_; have BKx := n3_; have BKi := n4_; have HB := n5_
        clear n0_ n1_ n2_ n3_ n4_ n5_ hb ho19
        refine hK.out _ _ (hS0 _ BKx.out BKi.out) (fun hHeld => ?_)
        clear hK K
        refine norm_ (a' := ?_) ?_ ?_; rotate_left; (· (show Act.put _ (some 20) _ = _; simp only [Act.put, zA10, zB10, zC10, i64_w, i32_w]; rfl))
        exact norm_ (by simp only [putAll, Act.put, zA10, zB10, zC10] <;> rfl) (hJ0_4 (v211, v217) _ ⟨hHeld, (Kd.R_mono HO212.out (fun _ hk => ⟨hk.2, hk.1⟩)), (Kd.R_mono HO218.out (fun _ hk => ⟨hk.1.2, hk.2⟩)), BKp.out, BKx.out, BKi.out, HB.out⟩)
      · skip
        refine Kd.R_lit_step k63 _ 63 ?hg (N := 22) ?hd (xs := ([] : List (S63))) (inner := []) (ok := fun _ => True) (okp := fun _ => True) ?hr ?hp (fun _ hk => hk) trivial (Below.refl _ _) (Nat.le_refl _) (by simp) ?_; (case hd => rfl); (case hg => rfl); (case hr => first | (go_simp; done) | (go_simp; rfl)); (case hp => exact (Reps.none _ _))
        intro v223 w18 ho19 hb hg_ hnew_
        clear hg_ hnew_
        (first | rw [← Ny222.out] at ho19 | (simp only [Int.reduceToNat] at ho19; rw [← Ny222.out] at ho19))
        have n0_ := Aside0.mk (Kd.R_below HO212.out hb)
        have n1_ := Aside0.mk (Kd.R_lower (Kd.R_newB ho19 BKx.out) (below_size HB.out))
        have n2_ := Aside0.mk (blk_below BKp.out hb)
        have n3_ := Aside0.mk (blk_below BKx.out hb)
        have n4_ := Aside0.mk (blk_below BKi.out hb)
        have n5_ := Aside0.mk (below_step HB.out hb)
        clear HO212 BKp BKx BKi HB
        have HO212 := n0_; have HO224 := n1_; have BKp := n2_; have BKx := n3_; have BKi := n4_; have HB := n5_
        clear n0_ n1_ n2_ n3_ n4_ n5_ hb ho19
        refine hK.out _ _ (hS0 _ BKx.out BKi.out) (fun hHeld => ?_)
        clear hK K
        refine norm_ (a' := ?_) ?_ ?_; rotate_left; (· (show Act.put _ (some 22) _ = _; simp only [Act.put, zA10, zB10, zC10, i64_w, i32_w]; rfl))
        exact norm_ (by simp only [putAll, Act.put, zA10, zB10, zC10] <;> rfl) (hJ0_6 (v211, v223) _ ⟨hHeld, HO212.out, (Kd.R_mono HO224.out (fun _ hk => hk.2)), BKp.out, BKx.out, BKi.out, HB.out⟩)
      · skip
        refine Kd.R_lit_step k63 _ 63 ?hg (N := 26) ?hd (xs := ([(⟨a3_0, a3_1, a3_2, a3_3⟩ : S63)] : List (S63))) (inner := [.int .i64 a3_0, .int .i64 a3_1, .int .i64 a3_2, .int .i64 a3_3]) (ok := fun _ => True) (okp := fun _ => True) ?hr ?hp (fun _ hk => hk) trivial (Below.refl _ _) (Nat.le_refl _) (by simp) ?_; (case hd => rfl); (case hg => rfl); (case hr => first | (go_simp; done) | (go_simp; rfl)); (case hp => exact (Reps.c4 (show Kd.M k63 _ _ _ (⟨a3_0, a3_1, a3_2, a3_3⟩ : S63) [.int .i64 a3_0, .int .i64 a3_1, .int .i64 a3_2, .int .i64 a3_3] from (k63_mkM _ _ _ (⟨a3_0, a3_1, a3_2, a3_3⟩ : S63) )) (Reps.none _ _)))
        intro v229 w18 ho19 hb hg_ hnew_
        clear hg_ hnew_
        (first | rw [← Ny228.out] at ho19 | (simp only [Int.reduceToNat] at ho19; rw [← Ny228.out] at ho19))
        have n0_ := Aside0.mk (Kd.R_below HO212.out hb)
        have n1_ := Aside0.mk (Kd.R_lower (Kd.R_newB ho19 BKx.out) (below_size HB.out))
        have n2_ := Aside0.mk (blk_below BKp.out hb)
        have n3_ := Aside0.mk (blk_below BKx.out hb)
        have n4_ := Aside0.mk (blk_below BKi.out hb)
        have n5_ := Aside0.mk (below_step HB.out hb)
        clear HO212 BKp BKx BKi HB
        have HO212 := n0_; have HO230 := n1_; have BKp := n2_; have BKx := n3_; have BKi := n4_; have HB := n5_
        clear n0_ n1_ n2_ n3_ n4_ n5_ hb ho19
        refine hK.out _ _ (hS0 _ BKx.out BKi.out) (fun hHeld => ?_)
        clear hK K
        refine norm_ (a' := ?_) ?_ ?_; rotate_left; (· (show Act.put _ (some 26) _ = _; simp only [Act.put, zA10, zB10, zC10, i64_w, i32_w]; rfl))
        exact norm_ (by simp only [putAll, Act.put, zA10, zB10, zC10] <;> rfl) (hJ0_10 (v211, v229) _ ⟨hHeld, HO212.out, (Kd.R_mono HO230.out (fun _ hk => hk.2)), BKp.out, BKx.out, BKi.out, HB.out⟩)
    intro hJ0
    refine join_ (σ := Value) 9 q10_26 (fun s_ => [(20, s_)]) (fun s_ w' => S0 w' ∧ (Kd.R k28 28 w' w.heap.size (fun k_ => k_ ≠ gi) s_ y216) ∧ (w'.heap[gp]? = some (.cells cs7 26 (0, 0))) ∧ (w'.heap[gx]? = some (.cells cs8 63 (0, 0))) ∧ (w'.heap[gi]? = some (.cells cs9 28 (0, 0))) ∧ (Below w.heap.size w w')) ?_ ?_
    · skip
      rintro v217 w17 ⟨hS_, h0_, h1_, h2_, h3_, h4_⟩
      have n0_ : Aside0 (Kd.R k28 28 w17 w.heap.size (fun k_ => k_ ≠ gi) v217 y216) := ⟨h0_⟩
      have n1_ : Aside0 (w17.heap[gp]? = some (.cells cs7 26 (0, 0))) := ⟨h1_⟩
      have n2_ : Aside0 (w17.heap[gx]? = some (.cells cs8 63 (0, 0))) := ⟨h2_⟩
      have n3_ : Aside0 (w17.heap[gi]? = some (.cells cs9 28 (0, 0))) := ⟨h3_⟩
      have n4_ : Aside0 (Below w.heap.size w w17) := ⟨h4_⟩
      clear BKp BKx BKi HB h0_ h1_ h2_ h3_ h4_
      have HO218 := n0_; have BKp := n1_; have BKx := n2_; have BKi := n3_; have HB := n4_
      clear n0_ n1_ n2_ n3_ n4_
      have hHeld : S0 w17 := hS_
      refine norm_ (a' := ?_) ?_ ?_; rotate_left; (· (simp only [putAll, Act.put, zA10, zB10, zC10]; rfl))
      refine three_ (i := 0) (j := 6) (k := 10) (Ni := some 16) (Nj := some 22) (Nk := some 26) q10_19 q10_22 q10_23 rfl rfl rfl rfl rfl rfl (three_of HT_.out (by kernel_rfl)) (by decide) (by decide) (by decide) (fun K hK => ?_) (fun K hK => ?_) (fun K hK => ?_)
      · skip
        refine Kd.R_lit_step k28 _ 28 ?hg (N := 16) ?hd (xs := ([] : List (S28))) (inner := []) (ok := fun _ => True) (okp := fun _ => True) ?hr ?hp (fun _ hk => hk) trivial (Below.refl _ _) (Nat.le_refl _) (by simp) ?_; (case hd => rfl); (case hg => rfl); (case hr => first | (go_simp; done) | (go_simp; rfl)); (case hp => exact (Reps.none _ _))
        intro v211 w18 ho19 hb hg_ hnew_
        clear hg_ hnew_
        (first | rw [← Ny210.out] at ho19 | (simp only [Int.reduceToNat] at ho19; rw [← Ny210.out] at ho19))
        have n0_ := Aside0.mk (Kd.R_elder' HO218.out (Kd.R_base ho19) hb)
        have n1_ := Aside0.mk (Kd.R_lower (Kd.R_newB (Kd.R_new' ho19 (Kd.R_lt HO218.out)) BKi.out) (below_size HB.out))
        have n2_ := Aside0.mk (blk_below BKp.out hb)
        have n3_ := Aside0.mk (blk_below BKx.out hb)
        have n4_ := Aside0.mk (blk_below BKi.out hb)
        have n5_ := Aside0.mk (below_step HB.out hb)
        clear HO218 BKp BKx BKi HB
        have HO218 := n0_; have HO212 := n1_; have BKp := n2_; have BKx := n3_; have BKi := n4_; have HB := n5_
        clear n0_ n1_ n2_ n3_ n4_ n5_ hb ho19
        refine hK.out _ _ (hS0 _ BKx.out BKi.out) (fun hHeld => ?_)
        clear hK K
        refine norm_ (a' := ?_) ?_ ?_; rotate_left; (· (show Act.put _ (some 16) _ = _; simp only [Act.put, zA10, zB10, zC10, i64_w, i32_w]; rfl))
        exact norm_ (by simp only [putAll, Act.put, zA10, zB10, zC10] <;> rfl) (hJ0_4 (v211, v217) _ ⟨hHeld, (Kd.R_mono HO212.out (fun _ hk => ⟨hk.1.2, hk.2⟩)), (Kd.R_mono HO218.out (fun _ hk => ⟨hk.2, hk.1⟩)), BKp.out, BKx.out, BKi.out, HB.out⟩)
      · skip
        refine Kd.R_lit_step k63 _ 63 ?hg (N := 22) ?hd (xs := ([] : List (S63))) (inner := []) (ok := fun _ => True) (okp := fun _ => True) ?hr ?hp (fun _ hk => hk) trivial (Below.refl _ _) (Nat.le_refl _) (by simp) ?_; (case hd => rfl); (case hg => rfl); (case hr => first | (go_simp; done) | (go_simp; rfl)); (case hp => exact (Reps.none _ _))
        intro v223 w18 ho19 hb hg_ hnew_
        clear hg_ hnew_
        (first | rw [← Ny222.out] at ho19 | (simp only [Int.reduceToNat] at ho19; rw [← Ny222.out] at ho19))
        have n0_ := Aside0.mk (Kd.R_below HO218.out hb)
        have n1_ := Aside0.mk (Kd.R_lower (Kd.R_newB ho19 BKx.out) (below_size HB.out))
        have n2_ := Aside0.mk (blk_below BKp.out hb)
        have n3_ := Aside0.mk (blk_below BKx.out hb)
        have n4_ := Aside0.mk (blk_below BKi.out hb)
        have n5_ := Aside0.mk (below_step HB.out hb)
        clear HO218 BKp BKx BKi HB
        have HO218 := n0_; have HO224 := n1_; have BKp := n2_; have BKx := n3_; have BKi := n4_; have HB := n5_
        clear n0_ n1_ n2_ n3_ n4_ n5_ hb ho19
        refine hK.out _ _ (hS0 _ BKx.out BKi.out) (fun hHeld => ?_)
        clear hK K
        refine norm_ (a' := ?_) ?_ ?_; rotate_left; (· (show Act.put _ (some 22) _ = _; simp only [Act.put, zA10, zB10, zC10, i64_w, i32_w]; rfl))
        exact norm_ (by simp only [putAll, Act.put, zA10, zB10, zC10] <;> rfl) (hJ4_6 (v217, v223) _ ⟨hHeld, HO218.out, (Kd.R_mono HO224.out (fun _ hk => hk.2)), BKp.out, BKx.out, BKi.out, HB.out⟩)
      · skip
        refine Kd.R_lit_step k63 _ 63 ?hg (N := 26) ?hd (xs := ([(⟨a3_0, a3_1, a3_2, a3_3⟩ : S63)] : List (S63))) (inner := [.int .i64 a3_0, .int .i64 a3_1, .int .i64 a3_2, .int .i64 a3_3]) (ok := fun _ => True) (okp := fun _ => True) ?hr ?hp (fun _ hk => hk) trivial (Below.refl _ _) (Nat.le_refl _) (by simp) ?_; (case hd => rfl); (case hg => rfl); (case hr => first | (go_simp; done) | (go_simp; rfl)); (case hp => exact (Reps.c4 (show Kd.M k63 _ _ _ (⟨a3_0, a3_1, a3_2, a3_3⟩ : S63) [.int .i64 a3_0, .int .i64 a3_1, .int .i64 a3_2, .int .i64 a3_3] from (k63_mkM _ _ _ (⟨a3_0, a3_1, a3_2, a3_3⟩ : S63) )) (Reps.none _ _)))
        intro v229 w18 ho19 hb hg_ hnew_
        clear hg_ hnew_
        (first | rw [← Ny228.out] at ho19 | (simp only [Int.reduceToNat] at ho19; rw [← Ny228.out] at ho19))
        have n0_ := Aside0.mk (Kd.R_below HO218.out hb)
        have n1_ := Aside0.mk (Kd.R_lower (Kd.R_newB ho19 BKx.out) (below_size HB.out))
        have n2_ := Aside0.mk (blk_below BKp.out hb)
        have n3_ := Aside0.mk (blk_below BKx.out hb)
        have n4_ := Aside0.mk (blk_below BKi.out hb)
        have n5_ := Aside0.mk (below_step HB.out hb)
        clear HO218 BKp BKx BKi HB
        have HO218 := n0_; have HO230 := n1_; have BKp := n2_; have BKx := n3_; have BKi := n4_; have HB := n5_
        clear n0_ n1_ n2_ n3_ n4_ n5_ hb ho19
        refine hK.out _ _ (hS0 _ BKx.out BKi.out) (fun hHeld => ?_)
        clear hK K
        refine norm_ (a' := ?_) ?_ ?_; rotate_left; (· (show Act.put _ (some 26) _ = _; simp only [Act.put, zA10, zB10, zC10, i64_w, i32_w]; rfl))
        exact norm_ (by simp only [putAll, Act.put, zA10, zB10, zC10] <;> rfl) (hJ4_10 (v217, v229) _ ⟨hHeld, HO218.out, (Kd.R_mono HO230.out (fun _ hk => hk.2)), BKp.out, BKx.out, BKi.out, HB.out⟩)
    intro hJ4
    refine join_ (σ := Value) 9 q10_27 (fun s_ => [(22, s_)]) (fun s_ w' => S0 w' ∧ (Kd.R k63 63 w' w.heap.size (fun k_ => k_ ≠ gx) s_ y222) ∧ (w'.heap[gp]? = some (.cells cs7 26 (0, 0))) ∧ (w'.heap[gx]? = some (.cells cs8 63 (0, 0))) ∧ (w'.heap[gi]? = some (.cells cs9 28 (0, 0))) ∧ (Below w.heap.size w w')) ?_ ?_
    · skip
      rintro v223 w17 ⟨hS_, h0_, h1_, h2_, h3_, h4_⟩
      have n0_ : Aside0 (Kd.R k63 63 w17 w.heap.size (fun k_ => k_ ≠ gx) v223 y222) := ⟨h0_⟩
      have n1_ : Aside0 (w17.heap[gp]? = some (.cells cs7 26 (0, 0))) := ⟨h1_⟩
      have n2_ : Aside0 (w17.heap[gx]? = some (.cells cs8 63 (0, 0))) := ⟨h2_⟩
      have n3_ : Aside0 (w17.heap[gi]? = some (.cells cs9 28 (0, 0))) := ⟨h3_⟩
      have n4_ : Aside0 (Below w.heap.size w w17) := ⟨h4_⟩
      clear BKp BKx BKi HB h0_ h1_ h2_ h3_ h4_
      have HO224 := n0_; have BKp := n1_; have BKx := n2_; have BKi := n3_; have HB := n4_
      clear n0_ n1_ n2_ n3_ n4_
      have hHeld : S0 w17 := hS_
      refine norm_ (a' := ?_) ?_ ?_; rotate_left; (· (simp only [putAll, Act.put, zA10, zB10, zC10]; rfl))
      refine three_ (i := 0) (j := 4) (k := 10) (Ni := some 16) (Nj := some 20) (Nk := some 26) q10_20 q10_22 q10_24 rfl rfl rfl rfl rfl rfl (three_of HT_.out (by kernel_rfl)) (by decide) (by decide) (by decide) (fun K hK => ?_) (fun K hK => ?_) (fun K hK => ?_)
      · skip
        refine Kd.R_lit_step k28 _ 28 ?hg (N := 16) ?hd (xs := ([] : List (S28))) (inner := []) (ok := fun _ => True) (okp := fun _ => True) ?hr ?hp (fun _ hk => hk) trivial (Below.refl _ _) (Nat.le_refl _) (by simp) ?_; (case hd => rfl); (case hg => rfl); (case hr => first | (go_simp; done) | (go_simp; rfl)); (case hp => exact (Reps.none _ _))
        intro v211 w18 ho19 hb hg_ hnew_
        clear hg_ hnew_
        (first | rw [← Ny210.out] at ho19 | (simp only [Int.reduceToNat] at ho19; rw [← Ny210.out] at ho19))
        have n0_ := Aside0.mk (Kd.R_below HO224.out hb)
        have n1_ := Aside0.mk (Kd.R_lower (Kd.R_newB ho19 BKi.out) (below_size HB.out))
        have n2_ := Aside0.mk (blk_below BKp.out hb)
        have n3_ := Aside0.mk (blk_below BKx.out hb)
        have n4_ := Aside0.mk (blk_below BKi.out hb)
        have n5_ := Aside0.mk (below_step HB.out hb)
        clear HO224 BKp BKx BKi HB
        have HO224 := n0_; have HO212 := n1_; have BKp := n2_; have BKx := n3_; have BKi := n4_; have HB := n5_
        clear n0_ n1_ n2_ n3_ n4_ n5_ hb ho19
        refine hK.out _ _ (hS0 _ BKx.out BKi.out) (fun hHeld => ?_)
        clear hK K
        refine norm_ (a' := ?_) ?_ ?_; rotate_left; (· (show Act.put _ (some 16) _ = _; simp only [Act.put, zA10, zB10, zC10, i64_w, i32_w]; rfl))
        exact norm_ (by simp only [putAll, Act.put, zA10, zB10, zC10] <;> rfl) (hJ0_6 (v211, v223) _ ⟨hHeld, (Kd.R_mono HO212.out (fun _ hk => hk.2)), HO224.out, BKp.out, BKx.out, BKi.out, HB.out⟩)
      · skip
        refine Kd.R_lit_step k28 _ 28 ?hg (N := 20) ?hd (xs := ([(⟨a4_0, a4_1, a4_2, a4_3, a4_4, a4_5⟩ : S28)] : List (S28))) (inner := [.int .i64 a4_0, .int .i64 a4_1, .int .i64 a4_2, .int .i64 a4_3, .int .i64 a4_4, .int .i64 a4_5]) (ok := fun _ => True) (okp := fun _ => True) ?hr ?hp (fun _ hk => hk) trivial (Below.refl _ _) (Nat.le_refl _) (by simp) ?_; (case hd => rfl); (case hg => rfl); (case hr => first | (go_simp; done) | (go_simp; rfl)); (case hp => exact (Reps.c6 (show Kd.M k28 _ _ _ (⟨a4_0, a4_1, a4_2, a4_3, a4_4, a4_5⟩ : S28) [.int .i64 a4_0, .int .i64 a4_1, .int .i64 a4_2, .int .i64 a4_3, .int .i64 a4_4, .int .i64 a4_5] from (k28_mkM _ _ _ (⟨a4_0, a4_1, a4_2, a4_3, a4_4, a4_5⟩ : S28) )) (Reps.none _ _)))
        intro v217 w18 ho19 hb hg_ hnew_
        clear hg_ hnew_
        (first | rw [← Ny216.out] at ho19 | (simp only [Int.reduceToNat] at ho19; rw [← Ny216.out] at ho19))
        have n0_ := Aside0.mk (Kd.R_below HO224.out hb)
        have n1_ := Aside0.mk (Kd.R_lower (Kd.R_newB ho19 BKi.out) (below_size HB.out))
        have n2_ := Aside0.mk (blk_below BKp.out hb)
        have n3_ := Aside0.mk (blk_below BKx.out hb)
        have n4_ := Aside0.mk (blk_below BKi.out hb)
        have n5_ := Aside0.mk (below_step HB.out hb)
        clear HO224 BKp BKx BKi HB
        have HO224 := n0_; have HO218 := n1_; have BKp := n2_; have BKx := n3_; have BKi := n4_; have HB := n5_
        clear n0_ n1_ n2_ n3_ n4_ n5_ hb ho19
        refine hK.out _ _ (hS0 _ BKx.out BKi.out) (fun hHeld => ?_)
        clear hK K
        refine norm_ (a' := ?_) ?_ ?_; rotate_left; (· (show Act.put _ (some 20) _ = _; simp only [Act.put, zA10, zB10, zC10, i64_w, i32_w]; rfl))
        exact norm_ (by simp only [putAll, Act.put, zA10, zB10, zC10] <;> rfl) (hJ4_6 (v217, v223) _ ⟨hHeld, (Kd.R_mono HO218.out (fun _ hk => hk.2)), HO224.out, BKp.out, BKx.out, BKi.out, HB.out⟩)
      · skip
        refine Kd.R_lit_step k63 _ 63 ?hg (N := 26) ?hd (xs := ([(⟨a3_0, a3_1, a3_2, a3_3⟩ : S63)] : List (S63))) (inner := [.int .i64 a3_0, .int .i64 a3_1, .int .i64 a3_2, .int .i64 a3_3]) (ok := fun _ => True) (okp := fun _ => True) ?hr ?hp (fun _ hk => hk) trivial (Below.refl _ _) (Nat.le_refl _) (by simp) ?_; (case hd => rfl); (case hg => rfl); (case hr => first | (go_simp; done) | (go_simp; rfl)); (case hp => exact (Reps.c4 (show Kd.M k63 _ _ _ (⟨a3_0, a3_1, a3_2, a3_3⟩ : S63) [.int .i64 a3_0, .int .i64 a3_1, .int .i64 a3_2, .int .i64 a3_3] from (k63_mkM _ _ _ (⟨a3_0, a3_1, a3_2, a3_3⟩ : S63) )) (Reps.none _ _)))
        intro v229 w18 ho19 hb hg_ hnew_
        clear hg_ hnew_
        (first | rw [← Ny228.out] at ho19 | (simp only [Int.reduceToNat] at ho19; rw [← Ny228.out] at ho19))
        have n0_ := Aside0.mk (Kd.R_elder' HO224.out (Kd.R_base ho19) hb)
        have n1_ := Aside0.mk (Kd.R_lower (Kd.R_newB (Kd.R_new' ho19 (Kd.R_lt HO224.out)) BKx.out) (below_size HB.out))
        have n2_ := Aside0.mk (blk_below BKp.out hb)
        have n3_ := Aside0.mk (blk_below BKx.out hb)
        have n4_ := Aside0.mk (blk_below BKi.out hb)
        have n5_ := Aside0.mk (below_step HB.out hb)
        clear HO224 BKp BKx BKi HB
        have HO224 := n0_; have HO230 := n1_; have BKp := n2_; have BKx := n3_; have BKi := n4_; have HB := n5_
        clear n0_ n1_ n2_ n3_ n4_ n5_ hb ho19
        refine hK.out _ _ (hS0 _ BKx.out BKi.out) (fun hHeld => ?_)
        clear hK K
        refine norm_ (a' := ?_) ?_ ?_; rotate_left; (· (show Act.put _ (some 26) _ = _; simp only [Act.put, zA10, zB10, zC10, i64_w, i32_w]; rfl))
        exact norm_ (by simp only [putAll, Act.put, zA10, zB10, zC10] <;> rfl) (hJ6_10 (v223, v229) _ ⟨hHeld, (Kd.R_mono HO224.out (fun _ hk => ⟨hk.2, hk.1⟩)), (Kd.R_mono HO230.out (fun _ hk => ⟨hk.1.2, hk.2⟩)), BKp.out, BKx.out, BKi.out, HB.out⟩)
    intro hJ6
    refine join_ (σ := Value) 9 q10_28 (fun s_ => [(26, s_)]) (fun s_ w' => S0 w' ∧ (Kd.R k63 63 w' w.heap.size (fun k_ => k_ ≠ gx) s_ y228) ∧ (w'.heap[gp]? = some (.cells cs7 26 (0, 0))) ∧ (w'.heap[gx]? = some (.cells cs8 63 (0, 0))) ∧ (w'.heap[gi]? = some (.cells cs9 28 (0, 0))) ∧ (Below w.heap.size w w')) ?_ ?_
    · skip
      rintro v229 w17 ⟨hS_, h0_, h1_, h2_, h3_, h4_⟩
      have n0_ : Aside0 (Kd.R k63 63 w17 w.heap.size (fun k_ => k_ ≠ gx) v229 y228) := ⟨h0_⟩
      have n1_ : Aside0 (w17.heap[gp]? = some (.cells cs7 26 (0, 0))) := ⟨h1_⟩
      have n2_ : Aside0 (w17.heap[gx]? = some (.cells cs8 63 (0, 0))) := ⟨h2_⟩
      have n3_ : Aside0 (w17.heap[gi]? = some (.cells cs9 28 (0, 0))) := ⟨h3_⟩
      have n4_ : Aside0 (Below w.heap.size w w17) := ⟨h4_⟩
      clear BKp BKx BKi HB h0_ h1_ h2_ h3_ h4_
      have HO230 := n0_; have BKp := n1_; have BKx := n2_; have BKi := n3_; have HB := n4_
      clear n0_ n1_ n2_ n3_ n4_
      have hHeld : S0 w17 := hS_
      refine norm_ (a' := ?_) ?_ ?_; rotate_left; (· (simp only [putAll, Act.put, zA10, zB10, zC10]; rfl))
      refine three_ (i := 0) (j := 4) (k := 6) (Ni := some 16) (Nj := some 20) (Nk := some 22) q10_21 q10_23 q10_24 rfl rfl rfl rfl rfl rfl (three_of HT_.out (by kernel_rfl)) (by decide) (by decide) (by decide) (fun K hK => ?_) (fun K hK => ?_) (fun K hK => ?_)
      · skip
        refine Kd.R_lit_step k28 _ 28 ?hg (N := 16) ?hd (xs := ([] : List (S28))) (inner := []) (ok := fun _ => True) (okp := fun _ => True) ?hr ?hp (fun _ hk => hk) trivial (Below.refl _ _) (Nat.le_refl _) (by simp) ?_; (case hd => rfl); (case hg => rfl); (case hr => first | (go_simp; done) | (go_simp; rfl)); (case hp => exact (Reps.none _ _))
        intro v211 w18 ho19 hb hg_ hnew_
        clear hg_ hnew_
        (first | rw [← Ny210.out] at ho19 | (simp only [Int.reduceToNat] at ho19; rw [← Ny210.out] at ho19))
        have n0_ := Aside0.mk (Kd.R_below HO230.out hb)
        have n1_ := Aside0.mk (Kd.R_lower (Kd.R_newB ho19 BKi.out) (below_size HB.out))
        have n2_ := Aside0.mk (blk_below BKp.out hb)
        have n3_ := Aside0.mk (blk_below BKx.out hb)
        have n4_ := Aside0.mk (blk_below BKi.out hb)
        have n5_ := Aside0.mk (below_step HB.out hb)
        clear HO230 BKp BKx BKi HB
        have HO230 := n0_; have HO212 := n1_; have BKp := n2_; have BKx := n3_; have BKi := n4_; have HB := n5_
        clear n0_ n1_ n2_ n3_ n4_ n5_ hb ho19
        refine hK.out _ _ (hS0 _ BKx.out BKi.out) (fun hHeld => ?_)
        clear hK K
        refine norm_ (a' := ?_) ?_ ?_; rotate_left; (· (show Act.put _ (some 16) _ = _; simp only [Act.put, zA10, zB10, zC10, i64_w, i32_w]; rfl))
        exact norm_ (by simp only [putAll, Act.put, zA10, zB10, zC10] <;> rfl) (hJ0_10 (v211, v229) _ ⟨hHeld, (Kd.R_mono HO212.out (fun _ hk => hk.2)), HO230.out, BKp.out, BKx.out, BKi.out, HB.out⟩)
      · skip
        refine Kd.R_lit_step k28 _ 28 ?hg (N := 20) ?hd (xs := ([(⟨a4_0, a4_1, a4_2, a4_3, a4_4, a4_5⟩ : S28)] : List (S28))) (inner := [.int .i64 a4_0, .int .i64 a4_1, .int .i64 a4_2, .int .i64 a4_3, .int .i64 a4_4, .int .i64 a4_5]) (ok := fun _ => True) (okp := fun _ => True) ?hr ?hp (fun _ hk => hk) trivial (Below.refl _ _) (Nat.le_refl _) (by simp) ?_; (case hd => rfl); (case hg => rfl); (case hr => first | (go_simp; done) | (go_simp; rfl)); (case hp => exact (Reps.c6 (show Kd.M k28 _ _ _ (⟨a4_0, a4_1, a4_2, a4_3, a4_4, a4_5⟩ : S28) [.int .i64 a4_0, .int .i64 a4_1, .int .i64 a4_2, .int .i64 a4_3, .int .i64 a4_4, .int .i64 a4_5] from (k28_mkM _ _ _ (⟨a4_0, a4_1, a4_2, a4_3, a4_4, a4_5⟩ : S28) )) (Reps.none _ _)))
        intro v217 w18 ho19 hb hg_ hnew_
        clear hg_ hnew_
        (first | rw [← Ny216.out] at ho19 | (simp only [Int.reduceToNat] at ho19; rw [← Ny216.out] at ho19))
        have n0_ := Aside0.mk (Kd.R_below HO230.out hb)
        have n1_ := Aside0.mk (Kd.R_lower (Kd.R_newB ho19 BKi.out) (below_size HB.out))
        have n2_ := Aside0.mk (blk_below BKp.out hb)
        have n3_ := Aside0.mk (blk_below BKx.out hb)
        have n4_ := Aside0.mk (blk_below BKi.out hb)
        have n5_ := Aside0.mk (below_step HB.out hb)
        clear HO230 BKp BKx BKi HB
        have HO230 := n0_; have HO218 := n1_; have BKp := n2_; have BKx := n3_; have BKi := n4_; have HB := n5_
        clear n0_ n1_ n2_ n3_ n4_ n5_ hb ho19
        refine hK.out _ _ (hS0 _ BKx.out BKi.out) (fun hHeld => ?_)
        clear hK K
        refine norm_ (a' := ?_) ?_ ?_; rotate_left; (· (show Act.put _ (some 20) _ = _; simp only [Act.put, zA10, zB10, zC10, i64_w, i32_w]; rfl))
        exact norm_ (by simp only [putAll, Act.put, zA10, zB10, zC10] <;> rfl) (hJ4_10 (v217, v229) _ ⟨hHeld, (Kd.R_mono HO218.out (fun _ hk => hk.2)), HO230.out, BKp.out, BKx.out, BKi.out, HB.out⟩)
      · skip
        refine Kd.R_lit_step k63 _ 63 ?hg (N := 22) ?hd (xs := ([] : List (S63))) (inner := []) (ok := fun _ => True) (okp := fun _ => True) ?hr ?hp (fun _ hk => hk) trivial (Below.refl _ _) (Nat.le_refl _) (by simp) ?_; (case hd => rfl); (case hg => rfl); (case hr => first | (go_simp; done) | (go_simp; rfl)); (case hp => exact (Reps.none _ _))
        intro v223 w18 ho19 hb hg_ hnew_
        clear hg_ hnew_
        (first | rw [← Ny222.out] at ho19 | (simp only [Int.reduceToNat] at ho19; rw [← Ny222.out] at ho19))
        have n0_ := Aside0.mk (Kd.R_elder' HO230.out (Kd.R_base ho19) hb)
        have n1_ := Aside0.mk (Kd.R_lower (Kd.R_newB (Kd.R_new' ho19 (Kd.R_lt HO230.out)) BKx.out) (below_size HB.out))
        have n2_ := Aside0.mk (blk_below BKp.out hb)
        have n3_ := Aside0.mk (blk_below BKx.out hb)
        have n4_ := Aside0.mk (blk_below BKi.out hb)
        have n5_ := Aside0.mk (below_step HB.out hb)
        clear HO230 BKp BKx BKi HB
        have HO230 := n0_; have HO224 := n1_; have BKp := n2_; have BKx := n3_; have BKi := n4_; have HB := n5_
        clear n0_ n1_ n2_ n3_ n4_ n5_ hb ho19
        refine hK.out _ _ (hS0 _ BKx.out BKi.out) (fun hHeld => ?_)
        clear hK K
        refine norm_ (a' := ?_) ?_ ?_; rotate_left; (· (show Act.put _ (some 22) _ = _; simp only [Act.put, zA10, zB10, zC10, i64_w, i32_w]; rfl))
        exact norm_ (by simp only [putAll, Act.put, zA10, zB10, zC10] <;> rfl) (hJ6_10 (v223, v229) _ ⟨hHeld, (Kd.R_mono HO224.out (fun _ hk => ⟨hk.1.2, hk.2⟩)), (Kd.R_mono HO230.out (fun _ hk => ⟨hk.2, hk.1⟩)), BKp.out, BKx.out, BKi.out, HB.out⟩)
    intro hJ10
    refine four_ (i := 0) (j := 4) (k := 6) (m := 10) (Ni := some 16) (Nj := some 20) (Nk := some 22) (Nm := some 26) q10_25 q10_26 q10_27 q10_28 rfl rfl rfl rfl rfl rfl rfl rfl (four_of HT_.out (by kernel_rfl)) (by decide) (by decide) (by decide) (by decide) (fun K hK => ?_) (fun K hK => ?_) (fun K hK => ?_) (fun K hK => ?_)
    · skip
      refine Kd.R_lit_step k28 _ 28 ?hg (N := 16) ?hd (xs := ([] : List (S28))) (inner := []) (ok := fun _ => True) (okp := fun _ => True) ?hr ?hp (fun _ hk => hk) trivial (Below.refl _ _) (Nat.le_refl _) (by simp) ?_; (case hd => rfl); (case hg => rfl); (case hr => first | (go_simp; done) | (go_simp; rfl)); (case hp => exact (Reps.none _ _))
      intro v211 w15 ho16 hb hg_ hnew_
      clear hg_ hnew_
      (first | rw [← Ny210.out] at ho16 | (simp only [Int.reduceToNat] at ho16; rw [← Ny210.out] at ho16))
      have n0_ := Aside0.mk (Kd.R_lower (Kd.R_newB ho16 BKi.out) (below_size HB.out))
      have n1_ := Aside0.mk (blk_below BKp.out hb)
      have n2_ := Aside0.mk (blk_below BKx.out hb)
      have n3_ := Aside0.mk (blk_below BKi.out hb)
      have n4_ := Aside0.mk (below_step HB.out hb)
      clear BKp BKx BKi HB
      have HO212 := n0_; have BKp := n1_; have BKx := n2_; have BKi := n3_; have HB := n4_
      clear n0_ n1_ n2_ n3_ n4_ hb ho16
      refine hK.out _ _ (hS0 _ BKx.out BKi.out) (fun hHeld => ?_)
      clear hK K
      refine norm_ (a' := ?_) ?_ ?_; rotate_left; (· (show Act.put _ (some 16) _ = _; simp only [Act.put, zA10, zB10, zC10, i64_w, i32_w]; rfl))
      exact norm_ (by simp only [putAll, Act.put, zA10, zB10, zC10] <;> rfl) (hJ0 (v211) _ ⟨hHeld, (Kd.R_mono HO212.out (fun _ hk => hk.2)), BKp.out, BKx.out, BKi.out, HB.out⟩)
    · skip
      refine Kd.R_lit_step k28 _ 28 ?hg (N := 20) ?hd (xs := ([(⟨a4_0, a4_1, a4_2, a4_3, a4_4, a4_5⟩ : S28)] : List (S28))) (inner := [.int .i64 a4_0, .int .i64 a4_1, .int .i64 a4_2, .int .i64 a4_3, .int .i64 a4_4, .int .i64 a4_5]) (ok := fun _ => True) (okp := fun _ => True) ?hr ?hp (fun _ hk => hk) trivial (Below.refl _ _) (Nat.le_refl _) (by simp) ?_; (case hd => rfl); (case hg => rfl); (case hr => first | (go_simp; done) | (go_simp; rfl)); (case hp => exact (Reps.c6 (show Kd.M k28 _ _ _ (⟨a4_0, a4_1, a4_2, a4_3, a4_4, a4_5⟩ : S28) [.int .i64 a4_0, .int .i64 a4_1, .int .i64 a4_2, .int .i64 a4_3, .int .i64 a4_4, .int .i64 a4_5] from (k28_mkM _ _ _ (⟨a4_0, a4_1, a4_2, a4_3, a4_4, a4_5⟩ : S28) )) (Reps.none _ _)))
      intro v217 w15 ho16 hb hg_ hnew_
      clear hg_ hnew_
      (first | rw [← Ny216.out] at ho16 | (simp only [Int.reduceToNat] at ho16; rw [← Ny216.out] at ho16))
      have n0_ := Aside0.mk (Kd.R_lower (Kd.R_newB ho16 BKi.out) (below_size HB.out))
      have n1_ := Aside0.mk (blk_below BKp.out hb)
      have n2_ := Aside0.mk (blk_below BKx.out hb)
      have n3_ := Aside0.mk (blk_below BKi.out hb)
      have n4_ := Aside0.mk (below_step HB.out hb)
      clear BKp BKx BKi HB
      have HO218 := n0_; have BKp := n1_; have BKx := n2_; have BKi := n3_; have HB := n4_
      clear n0_ n1_ n2_ n3_ n4_ hb ho16
      refine hK.out _ _ (hS0 _ BKx.out BKi.out) (fun hHeld => ?_)
      clear hK K
      refine norm_ (a' := ?_) ?_ ?_; rotate_left; (· (show Act.put _ (some 20) _ = _; simp only [Act.put, zA10, zB10, zC10, i64_w, i32_w]; rfl))
      exact norm_ (by simp only [putAll, Act.put, zA10, zB10, zC10] <;> rfl) (hJ4 (v217) _ ⟨hHeld, (Kd.R_mono HO218.out (fun _ hk => hk.2)), BKp.out, BKx.out, BKi.out, HB.out⟩)
    · skip
      refine Kd.R_lit_step k63 _ 63 ?hg (N := 22) ?hd (xs := ([] : List (S63))) (inner := []) (ok := fun _ => True) (okp := fun _ => True) ?hr ?hp (fun _ hk => hk) trivial (Below.refl _ _) (Nat.le_refl _) (by simp) ?_; (case hd => rfl); (case hg => rfl); (case hr => first | (go_simp; done) | (go_simp; rfl)); (case hp => exact (Reps.none _ _))
      intro v223 w15 ho16 hb hg_ hnew_
      clear hg_ hnew_
      (first | rw [← Ny222.out] at ho16 | (simp only [Int.reduceToNat] at ho16; rw [← Ny222.out] at ho16))
      have n0_ := Aside0.mk (Kd.R_lower (Kd.R_newB ho16 BKx.out) (below_size HB.out))
      have n1_ := Aside0.mk (blk_below BKp.out hb)
      have n2_ := Aside0.mk (blk_below BKx.out hb)
      have n3_ := Aside0.mk (blk_below BKi.out hb)
      have n4_ := Aside0.mk (below_step HB.out hb)
      clear BKp BKx BKi HB
      have HO224 := n0_; have BKp := n1_; have BKx := n2_; have BKi := n3_; have HB := n4_
      clear n0_ n1_ n2_ n3_ n4_ hb ho16
      refine hK.out _ _ (hS0 _ BKx.out BKi.out) (fun hHeld => ?_)
      clear hK K
      refine norm_ (a' := ?_) ?_ ?_; rotate_left; (· (show Act.put _ (some 22) _ = _; simp only [Act.put, zA10, zB10, zC10, i64_w, i32_w]; rfl))
      exact norm_ (by simp only [putAll, Act.put, zA10, zB10, zC10] <;> rfl) (hJ6 (v223) _ ⟨hHeld, (Kd.R_mono HO224.out (fun _ hk => hk.2)), BKp.out, BKx.out, BKi.out, HB.out⟩)
    · skip
      refine Kd.R_lit_step k63 _ 63 ?hg (N := 26) ?hd (xs := ([(⟨a3_0, a3_1, a3_2, a3_3⟩ : S63)] : List (S63))) (inner := [.int .i64 a3_0, .int .i64 a3_1, .int .i64 a3_2, .int .i64 a3_3]) (ok := fun _ => True) (okp := fun _ => True) ?hr ?hp (fun _ hk => hk) trivial (Below.refl _ _) (Nat.le_refl _) (by simp) ?_; (case hd => rfl); (case hg => rfl); (case hr => first | (go_simp; done) | (go_simp; rfl)); (case hp => exact (Reps.c4 (show Kd.M k63 _ _ _ (⟨a3_0, a3_1, a3_2, a3_3⟩ : S63) [.int .i64 a3_0, .int .i64 a3_1, .int .i64 a3_2, .int .i64 a3_3] from (k63_mkM _ _ _ (⟨a3_0, a3_1, a3_2, a3_3⟩ : S63) )) (Reps.none _ _)))
      intro v229 w15 ho16 hb hg_ hnew_
      clear hg_ hnew_
      (first | rw [← Ny228.out] at ho16 | (simp only [Int.reduceToNat] at ho16; rw [← Ny228.out] at ho16))
      have n0_ := Aside0.mk (Kd.R_lower (Kd.R_newB ho16 BKx.out) (below_size HB.out))
      have n1_ := Aside0.mk (blk_below BKp.out hb)
      have n2_ := Aside0.mk (blk_below BKx.out hb)
      have n3_ := Aside0.mk (blk_below BKi.out hb)
      have n4_ := Aside0.mk (below_step HB.out hb)
      clear BKp BKx BKi HB
      have HO230 := n0_; have BKp := n1_; have BKx := n2_; have BKi := n3_; have HB := n4_
      clear n0_ n1_ n2_ n3_ n4_ hb ho16
      refine hK.out _ _ (hS0 _ BKx.out BKi.out) (fun hHeld => ?_)
      clear hK K
      refine norm_ (a' := ?_) ?_ ?_; rotate_left; (· (show Act.put _ (some 26) _ = _; simp only [Act.put, zA10, zB10, zC10, i64_w, i32_w]; rfl))
      exact norm_ (by simp only [putAll, Act.put, zA10, zB10, zC10] <;> rfl) (hJ10 (v229) _ ⟨hHeld, (Kd.R_mono HO230.out (fun _ hk => hk.2)), BKp.out, BKx.out, BKi.out, HB.out⟩)
  rintro ⟨v211, v214, v217, v220, v223, v226, v229⟩ w27 ⟨hS_, h0_, h1_, h2_, h3_, h4_, h5_, h6_, h7_⟩
  have n0_ : Aside0 (Kd.R k28 28 w27 w.heap.size (fun k_ => some k_ ≠ (v220 : Value).ownBlock ∧ k_ ≠ gi) v217 y216) := ⟨h0_⟩
  have n1_ : Aside0 (Kd.R k28 28 w27 w.heap.size (fun k_ => some k_ ≠ (v217 : Value).ownBlock ∧ k_ ≠ gi) v220 y219) := ⟨h1_⟩
  have n2_ : Aside0 (Kd.R k63 63 w27 w.heap.size (fun k_ => some k_ ≠ (v229 : Value).ownBlock ∧ k_ ≠ gx) v226 y225) := ⟨h2_⟩
  have n3_ : Aside0 (Kd.R k63 63 w27 w.heap.size (fun k_ => some k_ ≠ (v226 : Value).ownBlock ∧ k_ ≠ gx) v229 y228) := ⟨h3_⟩
  have n4_ : Aside0 (w27.heap[gp]? = some (.cells cs7 26 (0, 0))) := ⟨h4_⟩
  have n5_ : Aside0 (w27.heap[gx]? = some (.cells cs8 63 (0, 0))) := ⟨h5_⟩
  have n6_ : Aside0 (w27.heap[gi]? = some (.cells cs9 28 (0, 0))) := ⟨h6_⟩
  have n7_ : Aside0 (Below w.heap.size w w27) := ⟨h7_⟩
  clear BKp BKx BKi HB h0_ h1_ h2_ h3_ h4_ h5_ h6_ h7_
  have HO218 := n0_; have HO221 := n1_; have HO227 := n2_; have HO230 := n3_; have BKp := n4_; have BKx := n5_; have BKi := n6_; have HB := n7_
  clear n0_ n1_ n2_ n3_ n4_ n5_ n6_ n7_
  have hHeld : S0 w27 := hS_
  obtain ⟨Ao29, co29, eo29⟩ := Kd.R_slice HO230.out
  (first | subst eo29 | (injection eo29 with f1_ f2_ f3_; have f4_ := f1_.symm; have f5_ := f3_.symm; clear f1_ f2_ f3_; subst f4_; subst f5_))
  refine norm_ (a' := ?_) ?_ ?_; rotate_left; (· (simp only [putAll, Act.put, zA10, zB10, zC10]; rfl))
  refine one_ (i := 11) (N := some 27) #[true, true, true, true, true, true, true, true, true, true, true, true, false, false] rfl rfl (one_of HT_.out (by kernel_rfl)) (by decide) (fun K hK => ?_)
  refine Kd.R_append_rows_step k63 (w0 := w) w.heap.size (by rfl) (.tmp 24) (.tmp 26) 46 63 (.agg #[(.int .i64 0), (.int .i64 0), (.int .i64 0), (.int .i64 0)]) 32 rfl Try.underlying46 info63 rfl (by decide) (by omega) v226 y225 y228 _ _ _ (fun k_ => some k_ ≠ (.slice Ao29 y228.length co29 : Value).ownBlock ∧ k_ ≠ gx) (fun _ => False) rfl rfl ?aO ?aR (fun _ _ h => h) (fun _ h => h.elim) ?aF ?aB ?aS ?aL ?_
  (case aR => repeat (first | exact (Kd.R_reads' HO230.out).2.2 | (with_reducible refine Kd.C_alloc ?_ _) | (with_reducible refine Kd.C_drewN ?_ _) | (with_reducible refine Kd.C_drew ?_)))
  (case aB => exact HB.out)
  (case aF => exact (fun k_ hk => ⟨Kd.fresh' (Kd.R_lt HO230.out) k_ hk, Kd.freshB BKx.out k_ hk⟩))
  (case aO => exact HO227.out)
  (case aS => exact (below_size HB.out))
  (case aL => have := LMc9.out; omega)
  intro v232 w28 ho hb hg hat
  rw [← Ny231.out] at ho
  have n0_ := Aside0.mk (blk_grown BKp.out hg (Kd.R_ne HO227.out BKp.out (by decide)))
  have n1_ := Aside0.mk (blk_grown BKx.out hg (Kd.R_away HO227.out (fun _ hk => hk.2)))
  have n2_ := Aside0.mk (blk_grown BKi.out hg (Kd.R_ne HO227.out BKi.out (by decide)))
  have n3_ := Aside0.mk (Kd.R_over' HO218.out (Kd.R_typed HO227.out) (by decide) hg)
  have n4_ := Aside0.mk (Kd.R_over' HO221.out (Kd.R_typed HO227.out) (by decide) hg)
  have n5_ := Aside0.mk (Kd.R_after (ok := (fun k_ => k_ ≠ gx)) (Kd.R_mono HO230.out (fun _ hk => ⟨hk.2, hk.1⟩)) hg hat)
  have n6_ := Aside0.mk (hb)
  have n7_ := Aside0.mk (ho)
  clear BKp BKx BKi HO218 HO221 HO230 HB HO227
  have BKp := n0_; have BKx := n1_; have BKi := n2_; have HO218 := n3_; have HO221 := n4_; have HO230 := n5_; have HB := n6_; have HO233 := n7_
  clear n0_ n1_ n2_ n3_ n4_ n5_ n6_ n7_ ho hb hg hat
  refine hK.out _ _ (hS0 _ BKx.out BKi.out) (fun hHeld => ?_)
  clear hK K
  refine norm_ (a' := ?_) ?_ ?_; rotate_left; (· (show Act.put _ (some 27) _ = _; simp only [Act.put, zA10, zB10, zC10, i64_w, i32_w]; rfl))
  refine pure_ (i := 12) (N := some 11) (v := ?_) (a' := ?_) #[true, true, true, true, true, true, true, true, true, true, true, true, true, false] rfl rfl (any_of HT_.out (by kernel_rfl)) (fun _ _ _ h => h) (Or.inl ⟨by rfl, ?_⟩) ?_ ?_; rotate_left; (· (intro w'; go_simp; with_reducible rfl))
  rotate_left
  · simp only [Act.put, zA10, zB10, zC10, i64_w, i32_w]; rfl
  refine pure_ (i := 13) (N := some 12) (v := ?_) (a' := ?_) #[true, true, true, true, true, true, true, true, true, true, true, true, true, true] rfl rfl (any_of HT_.out (by kernel_rfl)) (fun _ _ _ h => h) (Or.inl ⟨by rfl, ?_⟩) ?_ ?_; rotate_left; (· (intro w'; go_simp; with_reducible rfl))
  rotate_left
  · simp only [Act.put, zA10, zB10, zC10, i64_w, i32_w]; rfl
  refine done_ (done_of HT_.out (by kernel_rfl)) ?_

  have m7_ : Aside0 (w28.heap[gp]? = some (.cells #[.slice A0_0 l0_0.length c0_0, .slice A0_1 l0_1.length c0_1, .slice A0_2 l0_2.length c0_2, .int .i64 a0_3, .int .i64 a0_4, .int .i64 a0_5, .int .i64 a0_6, .int .i64 a0_7, .int .i64 a0_8] 26 (0, 0))) := ⟨by rw [← hcs7.out]; exact BKp.out⟩
  have m8_ : Aside0 (w28.heap[gx]? = some (.cells #[.int .i64 a3_0, .int .i64 a3_1, .int .i64 a3_2, .int .i64 a3_3] 63 (0, 0))) := ⟨by rw [← hcs8.out]; exact BKx.out⟩
  have m9_ : Aside0 (w28.heap[gi]? = some (.cells #[.int .i64 a4_0, .int .i64 a4_1, .int .i64 a4_2, .int .i64 a4_3, .int .i64 a4_4, .int .i64 a4_5] 28 (0, 0))) := ⟨by rw [← hcs9.out]; exact BKi.out⟩
  obtain ⟨Aa, ca, ea⟩ := Kd.R_slice HO221.out
  obtain ⟨Ab, cb, eb⟩ := Kd.R_slice HO233.out
  subst ea
  subst eb
  have n1_ := Aside0.mk (Kd.C_below HR0_0.out HB.out); have n2_ := Aside0.mk (Kd.C_below HR0_1.out HB.out); have n3_ := Aside0.mk (Kd.C_below HR0_2.out HB.out)
  have n4_ := Aside0.mk (Kd.C_below HR1.out HB.out); have n5_ := Aside0.mk (Kd.C_below HR2.out HB.out)
  have HRa := Aside0.mk (Kd.R_reads' HO221.out).2.2; have HCa := Aside0.mk (Kd.R_reads' HO221.out).2.1
  have HRb := Aside0.mk (Kd.R_reads' HO233.out).2.2; have HCb := Aside0.mk (Kd.R_reads' HO233.out).2.1
  have HW := Aside0.mk HB.out
  clear HR0_0 HR0_1 HR0_2 HR1 HR2 BKp BKx BKi HO221 HO233 HO218 HO230 hHeld HT_ HW_ hS0 hS1 hcs7 hcs8 hcs9 HB
  have HR0_0 := n1_; have HR0_1 := n2_; have HR0_2 := n3_; have HR1 := n4_; have HR2 := n5_; have BKp := m7_; have BKx := m8_; have BKi := m9_
  clear n1_ n2_ n3_ n4_ n5_ m7_ m8_ m9_
  generalize w28 = wB at *
  have HB := Aside0.mk (Below.refl wB.heap.size wB)
  have z0 : wB.cell? ⟨gp, 0, none⟩ = some (.slice A0_0 l0_0.length c0_0) := (blk_cell BKp.out 0).trans rfl
  have z1 : wB.cell? ⟨gp, 1, none⟩ = some (.slice A0_1 l0_1.length c0_1) := (blk_cell BKp.out 1).trans rfl
  have z2 : wB.cell? ⟨gp, 2, none⟩ = some (.slice A0_2 l0_2.length c0_2) := (blk_cell BKp.out 2).trans rfl
  have z3 : wB.cell? ⟨gp, 3, none⟩ = some (.int .i64 a0_3) := (blk_cell BKp.out 3).trans rfl
  have z4 : wB.cell? ⟨gp, 4, none⟩ = some (.int .i64 a0_4) := (blk_cell BKp.out 4).trans rfl
  have z5 : wB.cell? ⟨gp, 5, none⟩ = some (.int .i64 a0_5) := (blk_cell BKp.out 5).trans rfl
  have z6 : wB.cell? ⟨gp, 6, none⟩ = some (.int .i64 a0_6) := (blk_cell BKp.out 6).trans rfl
  have z7 : wB.cell? ⟨gp, 7, none⟩ = some (.int .i64 a0_7) := (blk_cell BKp.out 7).trans rfl
  have z8 : wB.cell? ⟨gp, 8, none⟩ = some (.int .i64 a0_8) := (blk_cell BKp.out 8).trans rfl
  cases t
  · go_wp2_with (first | ((with_reducible refine gate_callee (f := 11) rfl ?_); refine goesL_ (some 29) rfl rfl Try.func11 (by kernel_rfl) rfl #[.agg #[.slice A0_0 l0_0.length c0_0, .slice A0_1 l0_1.length c0_1, .slice A0_2 l0_2.length c0_2, .int .i64 a0_3, .int .i64 a0_4, .int .i64 a0_5, .int .i64 a0_6, .int .i64 a0_7, .int .i64 a0_8]] rfl (by (try simp only [List.map_toArray, List.map_cons, List.map_nil]); first | done | rfl | (simp only [List.length_drop, List.length_take]; rfl)) ?_; (with_reducible refine (dormouseref01_Table.calls k _ _ l0_0 _ _ l0_1 _ _ l0_2 a0_3 a0_4 a0_5 a0_6 a0_7 a0_8 _ _ ?s1 ?s2 ?s3 ?s4 ?s5 ?s6 AT.out).mono ?_); (case s1 => exact Kd.C_below HR0_0.out HB.out); (case s2 => exact HC0_0.out); (case s3 => exact Kd.C_below HR0_1.out HB.out); (case s4 => exact HC0_1.out); (case s5 => exact Kd.C_below HR0_2.out HB.out); (case s6 => exact HC0_2.out); rintro e w5 ⟨rfl, hb⟩; refine ⟨_, rfl, ?_⟩; have n0_ := Aside0.mk (below_step HB.out hb); clear HB hb; clear z0 z1 z2 z3 z4 z5 z6 z7 z8; have HB := n0_; clear n0_; have z0 : w5.cell? ⟨gp, 0, none⟩ = some (.slice A0_0 l0_0.length c0_0) := (blk_cell (blk_below BKp.out HB.out) 0).trans rfl; have z1 : w5.cell? ⟨gp, 1, none⟩ = some (.slice A0_1 l0_1.length c0_1) := (blk_cell (blk_below BKp.out HB.out) 1).trans rfl; have z2 : w5.cell? ⟨gp, 2, none⟩ = some (.slice A0_2 l0_2.length c0_2) := (blk_cell (blk_below BKp.out HB.out) 2).trans rfl; have z3 : w5.cell? ⟨gp, 3, none⟩ = some (.int .i64 a0_3) := (blk_cell (blk_below BKp.out HB.out) 3).trans rfl; have z4 : w5.cell? ⟨gp, 4, none⟩ = some (.int .i64 a0_4) := (blk_cell (blk_below BKp.out HB.out) 4).trans rfl; have z5 : w5.cell? ⟨gp, 5, none⟩ = some (.int .i64 a0_5) := (blk_cell (blk_below BKp.out HB.out) 5).trans rfl; have z6 : w5.cell? ⟨gp, 6, none⟩ = some (.int .i64 a0_6) := (blk_cell (blk_below BKp.out HB.out) 6).trans rfl; have z7 : w5.cell? ⟨gp, 7, none⟩ = some (.int .i64 a0_7) := (blk_cell (blk_below BKp.out HB.out) 7).trans rfl; have z8 : w5.cell? ⟨gp, 8, none⟩ = some (.int .i64 a0_8) := (blk_cell (blk_below BKp.out HB.out) 8).trans rfl) | ((with_reducible refine gate_callee (f := 21) rfl ?_); refine goesL_ (some 37) rfl rfl Try.func21 (by kernel_rfl) rfl #[] rfl (by (try simp only [List.map_toArray, List.map_cons, List.map_nil]); first | done | rfl | (simp only [List.length_drop, List.length_take]; rfl)) ?_; (with_reducible refine (answers26.calls _).mono ?_); rintro e w30 ⟨rfl, hb⟩; refine ⟨_, rfl, ?_⟩))
    go_ret
    exact ⟨rfl, below_step HW.out (below_step (by repeat (first | (with_reducible exact HB.out) | (with_reducible first | apply below_alloc | apply pw_below_drewN | apply below_drew1))) hb)⟩
  cases b
  · go_wp2_with (first | ((with_reducible refine gate_callee (f := 11) rfl ?_); refine goesL_ (some 29) rfl rfl Try.func11 (by kernel_rfl) rfl #[.agg #[.slice A0_0 l0_0.length c0_0, .slice A0_1 l0_1.length c0_1, .slice A0_2 l0_2.length c0_2, .int .i64 a0_3, .int .i64 a0_4, .int .i64 a0_5, .int .i64 a0_6, .int .i64 a0_7, .int .i64 a0_8]] rfl (by (try simp only [List.map_toArray, List.map_cons, List.map_nil]); first | done | rfl | (simp only [List.length_drop, List.length_take]; rfl)) ?_; (with_reducible refine (dormouseref01_Table.calls k _ _ l0_0 _ _ l0_1 _ _ l0_2 a0_3 a0_4 a0_5 a0_6 a0_7 a0_8 _ _ ?s1 ?s2 ?s3 ?s4 ?s5 ?s6 AT.out).mono ?_); (case s1 => exact Kd.C_below HR0_0.out HB.out); (case s2 => exact HC0_0.out); (case s3 => exact Kd.C_below HR0_1.out HB.out); (case s4 => exact HC0_1.out); (case s5 => exact Kd.C_below HR0_2.out HB.out); (case s6 => exact HC0_2.out); rintro e w5 ⟨rfl, hb⟩; refine ⟨_, rfl, ?_⟩; have n0_ := Aside0.mk (below_step HB.out hb); clear HB hb; clear z0 z1 z2 z3 z4 z5 z6 z7 z8; have HB := n0_; clear n0_; have z0 : w5.cell? ⟨gp, 0, none⟩ = some (.slice A0_0 l0_0.length c0_0) := (blk_cell (blk_below BKp.out HB.out) 0).trans rfl; have z1 : w5.cell? ⟨gp, 1, none⟩ = some (.slice A0_1 l0_1.length c0_1) := (blk_cell (blk_below BKp.out HB.out) 1).trans rfl; have z2 : w5.cell? ⟨gp, 2, none⟩ = some (.slice A0_2 l0_2.length c0_2) := (blk_cell (blk_below BKp.out HB.out) 2).trans rfl; have z3 : w5.cell? ⟨gp, 3, none⟩ = some (.int .i64 a0_3) := (blk_cell (blk_below BKp.out HB.out) 3).trans rfl; have z4 : w5.cell? ⟨gp, 4, none⟩ = some (.int .i64 a0_4) := (blk_cell (blk_below BKp.out HB.out) 4).trans rfl; have z5 : w5.cell? ⟨gp, 5, none⟩ = some (.int .i64 a0_5) := (blk_cell (blk_below BKp.out HB.out) 5).trans rfl; have z6 : w5.cell? ⟨gp, 6, none⟩ = some (.int .i64 a0_6) := (blk_cell (blk_below BKp.out HB.out) 6).trans rfl; have z7 : w5.cell? ⟨gp, 7, none⟩ = some (.int .i64 a0_7) := (blk_cell (blk_below BKp.out HB.out) 7).trans rfl; have z8 : w5.cell? ⟨gp, 8, none⟩ = some (.int .i64 a0_8) := (blk_cell (blk_below BKp.out HB.out) 8).trans rfl) | ((with_reducible refine gate_callee (f := 20) rfl ?_); (try (refine gate_guard (by rfl) ?_; dsimp only)); refine goesL_ (some 34) rfl rfl Try.func20 (by kernel_rfl) rfl #[.slice Aa y219.length ca, .slice Ab y231.length cb] rfl (by (try simp only [List.map_toArray, List.map_cons, List.map_nil]); first | done | rfl | (simp only [List.length_drop, List.length_take]; rfl)) ?_; (with_reducible refine (dormouselaw26_near.calls k _ _ y219 _ _ y231 _ _ ?s7 ?s8 ?s9 ?s10 AN.out).mono ?_); (case s7 => exact Kd.C_below HRa.out HB.out); (case s8 => exact HCa.out); (case s9 => exact Kd.C_below HRb.out HB.out); (case s10 => exact HCb.out); rintro e w6 ⟨rfl, ⟨nd, rfl⟩⟩; refine ⟨_, rfl, ?_⟩) | ((with_reducible refine gate_callee (f := 21) rfl ?_); refine goesL_ (some 37) rfl rfl Try.func21 (by kernel_rfl) rfl #[] rfl (by (try simp only [List.map_toArray, List.map_cons, List.map_nil]); first | done | rfl | (simp only [List.length_drop, List.length_take]; rfl)) ?_; (with_reducible refine (answers26.calls _).mono ?_); rintro e w30 ⟨rfl, hb⟩; refine ⟨_, rfl, ?_⟩))
    go_ret
    exact ⟨rfl, below_step HW.out (below_step (by repeat (first | (with_reducible exact HB.out) | (with_reducible first | apply below_alloc | apply pw_below_drewN | apply below_drew1))) hb)⟩
  have LN : Aside0 (l1.length ≤ 4096 ∧ l2.length ≤ 4096) := ⟨by
    have q := hx.out
    rw [if_pos rfl] at q
    by_cases q1 : l1.length + 1 ≤ 4096
    · rw [if_pos q1] at q
      by_cases q2 : l2.length + 1 ≤ 4096
      · exact ⟨by omega, by omega⟩
      · rw [if_neg q2] at q; cases q
    · rw [if_neg q1] at q; cases q⟩
  have LN2 : Aside0 (y219.length ≤ 4096 ∧ y231.length ≤ 4096) := ⟨by
    have q := hx.out
    have qa := La.out
    have qb := Lb.out
    rw [if_pos rfl] at q
    by_cases q1 : l1.length + 1 ≤ 4096
    · rw [if_pos q1] at q
      by_cases q2 : l2.length + 1 ≤ 4096
      · exact ⟨by omega, by omega⟩
      · rw [if_neg q2] at q; cases q
    · rw [if_neg q1] at q; cases q⟩
  clear hx
  go_upto_region 4 with (first | ((with_reducible refine gate_callee (f := 11) rfl ?_); refine goesL_ (some 29) rfl rfl Try.func11 (by kernel_rfl) rfl #[.agg #[.slice A0_0 l0_0.length c0_0, .slice A0_1 l0_1.length c0_1, .slice A0_2 l0_2.length c0_2, .int .i64 a0_3, .int .i64 a0_4, .int .i64 a0_5, .int .i64 a0_6, .int .i64 a0_7, .int .i64 a0_8]] rfl (by (try simp only [List.map_toArray, List.map_cons, List.map_nil]); first | done | rfl | (simp only [List.length_drop, List.length_take]; rfl)) ?_; (with_reducible refine (dormouseref01_Table.calls k _ _ l0_0 _ _ l0_1 _ _ l0_2 a0_3 a0_4 a0_5 a0_6 a0_7 a0_8 _ _ ?s1 ?s2 ?s3 ?s4 ?s5 ?s6 AT.out).mono ?_); (case s1 => exact Kd.C_below HR0_0.out HB.out); (case s2 => exact HC0_0.out); (case s3 => exact Kd.C_below HR0_1.out HB.out); (case s4 => exact HC0_1.out); (case s5 => exact Kd.C_below HR0_2.out HB.out); (case s6 => exact HC0_2.out); rintro e w5 ⟨rfl, hb⟩; refine ⟨_, rfl, ?_⟩; have n0_ := Aside0.mk (below_step HB.out hb); clear HB hb; clear z0 z1 z2 z3 z4 z5 z6 z7 z8; have HB := n0_; clear n0_; have z0 : w5.cell? ⟨gp, 0, none⟩ = some (.slice A0_0 l0_0.length c0_0) := (blk_cell (blk_below BKp.out HB.out) 0).trans rfl; have z1 : w5.cell? ⟨gp, 1, none⟩ = some (.slice A0_1 l0_1.length c0_1) := (blk_cell (blk_below BKp.out HB.out) 1).trans rfl; have z2 : w5.cell? ⟨gp, 2, none⟩ = some (.slice A0_2 l0_2.length c0_2) := (blk_cell (blk_below BKp.out HB.out) 2).trans rfl; have z3 : w5.cell? ⟨gp, 3, none⟩ = some (.int .i64 a0_3) := (blk_cell (blk_below BKp.out HB.out) 3).trans rfl; have z4 : w5.cell? ⟨gp, 4, none⟩ = some (.int .i64 a0_4) := (blk_cell (blk_below BKp.out HB.out) 4).trans rfl; have z5 : w5.cell? ⟨gp, 5, none⟩ = some (.int .i64 a0_5) := (blk_cell (blk_below BKp.out HB.out) 5).trans rfl; have z6 : w5.cell? ⟨gp, 6, none⟩ = some (.int .i64 a0_6) := (blk_cell (blk_below BKp.out HB.out) 6).trans rfl; have z7 : w5.cell? ⟨gp, 7, none⟩ = some (.int .i64 a0_7) := (blk_cell (blk_below BKp.out HB.out) 7).trans rfl; have z8 : w5.cell? ⟨gp, 8, none⟩ = some (.int .i64 a0_8) := (blk_cell (blk_below BKp.out HB.out) 8).trans rfl) | ((with_reducible refine gate_callee (f := 20) rfl ?_); (try (refine gate_guard (by rfl) ?_; dsimp only)); refine goesL_ (some 34) rfl rfl Try.func20 (by kernel_rfl) rfl #[.slice Aa y219.length ca, .slice Ab y231.length cb] rfl (by (try simp only [List.map_toArray, List.map_cons, List.map_nil]); first | done | rfl | (simp only [List.length_drop, List.length_take]; rfl)) ?_; (with_reducible refine (dormouselaw26_near.calls k _ _ y219 _ _ y231 _ _ ?s7 ?s8 ?s9 ?s10 AN.out).mono ?_); (case s7 => exact Kd.C_below HRa.out HB.out); (case s8 => exact HCa.out); (case s9 => exact Kd.C_below HRb.out HB.out); (case s10 => exact HCb.out); rintro e w6 ⟨rfl, ⟨nd, rfl⟩⟩; refine ⟨_, rfl, ?_⟩))
  have m0_ : Aside0 (Below wB.heap.size wB (w5.drewN nd)) := ⟨by repeat (first | (with_reducible exact HB.out) | (with_reducible first | apply below_alloc | apply pw_below_drewN | apply below_drew1))⟩
  clear HB z0 z1 z2 z3 z4 z5 z6 z7 z8
  have HB := m0_; clear m0_
  generalize w5.drewN nd = w6 at HB ⊢
  obtain ⟨V, hV⟩ : ∃ V, Aside0 (V = tasksV l0_0 l0_1 a0_3 a0_6 l1 l2) := ⟨_, ⟨rfl⟩⟩
  obtain ⟨U, hU⟩ : ∃ V, Aside0 (V = tasksV l0_0 l0_1 a0_3 a0_6 y219 y231) := ⟨_, ⟨rfl⟩⟩
  obtain ⟨cs1, hcs1⟩ : ∃ cs, Aside0 (cs = arrN 36 V) := ⟨_, ⟨rfl⟩⟩
  obtain ⟨cs2, hcs2⟩ : ∃ cs, Aside0 (cs = arrN 36 U) := ⟨_, ⟨rfl⟩⟩
  obtain ⟨zs, hzs⟩ : ∃ cs, Aside0 (cs = (#[.int .i64 0, .int .i64 0, .int .i64 0, .int .i64 0, .int .i64 0, .int .i64 0, .int .i64 0, .int .i64 0, .int .i64 0, .int .i64 0, .int .i64 0, .int .i64 0, .int .i64 0, .int .i64 0, .int .i64 0, .int .i64 0, .int .i64 0, .int .i64 0, .int .i64 0, .int .i64 0, .int .i64 0, .int .i64 0, .int .i64 0, .int .i64 0, .int .i64 0, .int .i64 0, .int .i64 0, .int .i64 0, .int .i64 0, .int .i64 0, .int .i64 0, .int .i64 0, .int .i64 0, .int .i64 0, .int .i64 0, .int .i64 0] : Array Value)) := ⟨_, ⟨rfl⟩⟩
  have hsz1 : Aside0 (cs1.size = 36) := ⟨by rw [hcs1.out, arrN_size]⟩
  have hsz2 : Aside0 (cs2.size = 36) := ⟨by rw [hcs2.out, arrN_size]⟩
  have hon1 : Aside0 (cs1.all (·.oneCell') = true) := ⟨by rw [hcs1.out]; exact arrN_one 36 _⟩
  have hon2 : Aside0 (cs2.all (·.oneCell') = true) := ⟨by rw [hcs2.out]; exact arrN_one 36 _⟩
  try go_wp2
  refine start_ (n := 12) (S := fun w' => Below wB.heap.size wB w') (ds := []) #[false, false, false, false, false, false, false, false, false, false, false, false] (by kernel_rfl) rfl rfl (HB.out.drew) (fun hHeld => ?_); refine with_tabW stp.tab4 stp.bits4 (fun HT_ HW_ => ?_)
  clear HB; generalize w6.drew = w7 at hHeld ⊢
  refine pure_ (i := 1) (N := some 39) (v := ?_) (a' := ?_) #[false, true, false, false, false, false, false, false, false, false, false, false] rfl rfl (any_of HT_.out (by kernel_rfl)) (fun _ _ _ h => h) (Or.inl ⟨by rfl, ?_⟩) ?_ ?_; rotate_left; (· (intro w'; go_simp; with_reducible rfl)); rotate_left; (· (simp only [Act.put, zA10, zB10, zC10, i64_w, i32_w]; rfl))
  refine pure_ (i := 2) (N := some 40) (v := ?_) (a' := ?_) #[false, true, true, false, false, false, false, false, false, false, false, false] rfl rfl (any_of HT_.out (by kernel_rfl)) (fun _ _ _ h => h) (Or.inl ⟨by rfl, ?_⟩) ?_ ?_; rotate_left; (· (intro w'; go_simp; with_reducible rfl)); rotate_left; (· (simp only [Act.put, zA10, zB10, zC10, i64_w, i32_w]; rfl))
  refine pure_ (i := 5) (N := some 43) (v := ?_) (a' := ?_) #[false, true, true, false, false, true, false, false, false, false, false, false] rfl rfl (any_of HT_.out (by kernel_rfl)) (fun _ _ _ h => h) (Or.inl ⟨by rfl, ?_⟩) ?_ ?_; rotate_left; (· (intro w'; go_simp; with_reducible rfl)); rotate_left; (· (simp only [Act.put, zA10, zB10, zC10, i64_w, i32_w]; rfl))
  refine pure_ (i := 6) (N := some 44) (v := ?_) (a' := ?_) #[false, true, true, false, false, true, true, false, false, false, false, false] rfl rfl (any_of HT_.out (by kernel_rfl)) (fun _ _ _ h => h) (Or.inl ⟨by rfl, ?_⟩) ?_ ?_; rotate_left; (· (intro w'; go_simp; with_reducible rfl)); rotate_left; (· (simp only [Act.put, zA10, zB10, zC10, i64_w, i32_w]; rfl))
  refine take_ (i := 0) (N := some 38) (v := ?_) (a' := ?_) #[true, true, true, false, false, true, true, false, false, false, false, false] rfl rfl (take_ofW HT_.out HW_.out (by kernel_rfl)) (fun _ _ _ h => h) (Or.inl ⟨by rfl, ?_⟩) hHeld ?_ ?_; rotate_left; (· (intro w' hS'; have z0 : w'.cell? ⟨gp, 0, none⟩ = some (.slice A0_0 l0_0.length c0_0) := (blk_cell (blk_below BKp.out hS') 0).trans rfl; have z1 : w'.cell? ⟨gp, 1, none⟩ = some (.slice A0_1 l0_1.length c0_1) := (blk_cell (blk_below BKp.out hS') 1).trans rfl; have z2 : w'.cell? ⟨gp, 2, none⟩ = some (.slice A0_2 l0_2.length c0_2) := (blk_cell (blk_below BKp.out hS') 2).trans rfl; have z3 : w'.cell? ⟨gp, 3, none⟩ = some (.int .i64 a0_3) := (blk_cell (blk_below BKp.out hS') 3).trans rfl; have z4 : w'.cell? ⟨gp, 4, none⟩ = some (.int .i64 a0_4) := (blk_cell (blk_below BKp.out hS') 4).trans rfl; have z5 : w'.cell? ⟨gp, 5, none⟩ = some (.int .i64 a0_5) := (blk_cell (blk_below BKp.out hS') 5).trans rfl; have z6 : w'.cell? ⟨gp, 6, none⟩ = some (.int .i64 a0_6) := (blk_cell (blk_below BKp.out hS') 6).trans rfl; have z7 : w'.cell? ⟨gp, 7, none⟩ = some (.int .i64 a0_7) := (blk_cell (blk_below BKp.out hS') 7).trans rfl; have z8 : w'.cell? ⟨gp, 8, none⟩ = some (.int .i64 a0_8) := (blk_cell (blk_below BKp.out hS') 8).trans rfl; go_simp; with_reducible rfl)); rotate_left; (· (simp only [Act.put, zA10, zB10, zC10, i64_w, i32_w]; rfl))
  refine take_ (i := 4) (N := some 42) (v := ?_) (a' := ?_) #[true, true, true, false, true, true, true, false, false, false, false, false] rfl rfl (take_ofW HT_.out HW_.out (by kernel_rfl)) (fun _ _ _ h => h) (Or.inl ⟨by rfl, ?_⟩) hHeld ?_ ?_; rotate_left; (· (intro w' hS'; have z0 : w'.cell? ⟨gp, 0, none⟩ = some (.slice A0_0 l0_0.length c0_0) := (blk_cell (blk_below BKp.out hS') 0).trans rfl; have z1 : w'.cell? ⟨gp, 1, none⟩ = some (.slice A0_1 l0_1.length c0_1) := (blk_cell (blk_below BKp.out hS') 1).trans rfl; have z2 : w'.cell? ⟨gp, 2, none⟩ = some (.slice A0_2 l0_2.length c0_2) := (blk_cell (blk_below BKp.out hS') 2).trans rfl; have z3 : w'.cell? ⟨gp, 3, none⟩ = some (.int .i64 a0_3) := (blk_cell (blk_below BKp.out hS') 3).trans rfl; have z4 : w'.cell? ⟨gp, 4, none⟩ = some (.int .i64 a0_4) := (blk_cell (blk_below BKp.out hS') 4).trans rfl; have z5 : w'.cell? ⟨gp, 5, none⟩ = some (.int .i64 a0_5) := (blk_cell (blk_below BKp.out hS') 5).trans rfl; have z6 : w'.cell? ⟨gp, 6, none⟩ = some (.int .i64 a0_6) := (blk_cell (blk_below BKp.out hS') 6).trans rfl; have z7 : w'.cell? ⟨gp, 7, none⟩ = some (.int .i64 a0_7) := (blk_cell (blk_below BKp.out hS') 7).trans rfl; have z8 : w'.cell? ⟨gp, 8, none⟩ = some (.int .i64 a0_8) := (blk_cell (blk_below BKp.out hS') 8).trans rfl; go_simp; with_reducible rfl)); rotate_left; (· (simp only [Act.put, zA10, zB10, zC10, i64_w, i32_w]; rfl))
  refine join_ (σ := Nat × Nat) 2 q10_29 (fun s_ => [(41, .agg cs1), (45, .agg cs2), (13, .pointer (some ⟨s_.1, 0, none⟩)), (14, .pointer (some ⟨s_.2, 0, none⟩))]) (fun s_ w' => (Below wB.heap.size wB w') ∧ (w'.heap[s_.1]? = some (.cells zs 50 (0, 0))) ∧ (wB.heap.size ≤ s_.1) ∧ (w'.heap[s_.2]? = some (.cells zs 50 (0, 0))) ∧ (wB.heap.size ≤ s_.2) ∧ (s_.1 ≠ s_.2) ∧ True) ?_ ?_; rotate_left
  · intro hJ211
    refine join_ (σ := Nat) 3 q10_30 (fun s_ => [(41, .agg cs1), (45, .agg cs2), (13, .pointer (some ⟨s_, 0, none⟩))]) (fun s_ w' => (Below wB.heap.size wB w') ∧ (w'.heap[s_]? = some (.cells zs 50 (0, 0))) ∧ (wB.heap.size ≤ s_) ∧ True) ?_ ?_
    · rintro g3 wn ⟨hHeld, h0_, h1_, -⟩
      have B3 := Aside0.mk h0_; have G3 := Aside0.mk h1_; clear h0_ h1_
      refine norm_ (a' := ?_) ?_ ?_; rotate_left; (· (simp only [putAll, Act.put, zA10, zB10, zC10]; rfl))
      refine one_ (i := 9) (N := some 14) q10_29 rfl rfl (one_of HT_.out (by kernel_rfl)) (by decide) (fun K hK => ?_)
      refine box_step ?hg (N := 14) ?hd (cs := #[.int .i64 0, .int .i64 0, .int .i64 0, .int .i64 0, .int .i64 0, .int .i64 0, .int .i64 0, .int .i64 0, .int .i64 0, .int .i64 0, .int .i64 0, .int .i64 0, .int .i64 0, .int .i64 0, .int .i64 0, .int .i64 0, .int .i64 0, .int .i64 0, .int .i64 0, .int .i64 0, .int .i64 0, .int .i64 0, .int .i64 0, .int .i64 0, .int .i64 0, .int .i64 0, .int .i64 0, .int .i64 0, .int .i64 0, .int .i64 0, .int .i64 0, .int .i64 0, .int .i64 0, .int .i64 0, .int .i64 0, .int .i64 0]) (t := 50) ?hr ?_; (case hd => rfl); (case hg => rfl); (case hr => first | (go_simp; done) | (go_simp; rfl))
      intro g4 hg wn hbox hb
      have B4 : Aside0 (wn.heap[g4]? = some (.cells zs 50 (0, 0))) := ⟨by rw [hzs.out]; exact hbox⟩
      have G4 : Aside0 (wB.heap.size ≤ g4) := ⟨by rw [hg]; exact below_size hHeld⟩
      have N34 : Aside0 (g3 ≠ g4) := ⟨by rw [hg]; exact Nat.ne_of_lt (blk_lt B3.out)⟩
      have m0_ := Aside0.mk (blk_below B3.out hb)
      clear B3
      have B3 := m0_
      refine hK.out _ _ (below_step hHeld hb) (fun hHeld => ?_)
      clear hK K hbox hb hg
      refine norm_ (a' := ?_) ?_ ?_; rotate_left; (· (show Act.put _ (some 14) _ = _; simp only [Act.put, zA10, zB10, zC10, i64_w, i32_w]; rfl))
      exact norm_ (by simp only [putAll, Act.put, zA10, zB10, zC10] <;> rfl) (hJ211 (g3, g4) _ ⟨hHeld, B3.out, G3.out, B4.out, G4.out, N34.out, trivial⟩)
    intro hJ210
    refine join_ (σ := Nat) 3 q10_31 (fun s_ => [(41, .agg cs1), (45, .agg cs2), (14, .pointer (some ⟨s_, 0, none⟩))]) (fun s_ w' => (Below wB.heap.size wB w') ∧ (w'.heap[s_]? = some (.cells zs 50 (0, 0))) ∧ (wB.heap.size ≤ s_) ∧ True) ?_ ?_
    · rintro g4 wn ⟨hHeld, h2_, h3_, -⟩
      have B4 := Aside0.mk h2_; have G4 := Aside0.mk h3_; clear h2_ h3_
      refine norm_ (a' := ?_) ?_ ?_; rotate_left; (· (simp only [putAll, Act.put, zA10, zB10, zC10]; rfl))
      refine one_ (i := 8) (N := some 13) q10_29 rfl rfl (one_of HT_.out (by kernel_rfl)) (by decide) (fun K hK => ?_)
      refine box_step ?hg (N := 13) ?hd (cs := #[.int .i64 0, .int .i64 0, .int .i64 0, .int .i64 0, .int .i64 0, .int .i64 0, .int .i64 0, .int .i64 0, .int .i64 0, .int .i64 0, .int .i64 0, .int .i64 0, .int .i64 0, .int .i64 0, .int .i64 0, .int .i64 0, .int .i64 0, .int .i64 0, .int .i64 0, .int .i64 0, .int .i64 0, .int .i64 0, .int .i64 0, .int .i64 0, .int .i64 0, .int .i64 0, .int .i64 0, .int .i64 0, .int .i64 0, .int .i64 0, .int .i64 0, .int .i64 0, .int .i64 0, .int .i64 0, .int .i64 0, .int .i64 0]) (t := 50) ?hr ?_; (case hd => rfl); (case hg => rfl); (case hr => first | (go_simp; done) | (go_simp; rfl))
      intro g3 hg wn hbox hb
      have B3 : Aside0 (wn.heap[g3]? = some (.cells zs 50 (0, 0))) := ⟨by rw [hzs.out]; exact hbox⟩
      have G3 : Aside0 (wB.heap.size ≤ g3) := ⟨by rw [hg]; exact below_size hHeld⟩
      have N34 : Aside0 (g3 ≠ g4) := ⟨by rw [hg]; exact Nat.ne_of_gt (blk_lt B4.out)⟩
      have m0_ := Aside0.mk (blk_below B4.out hb)
      clear B4
      have B4 := m0_
      refine hK.out _ _ (below_step hHeld hb) (fun hHeld => ?_)
      clear hK K hbox hb hg
      refine norm_ (a' := ?_) ?_ ?_; rotate_left; (· (show Act.put _ (some 13) _ = _; simp only [Act.put, zA10, zB10, zC10, i64_w, i32_w]; rfl))
      exact norm_ (by simp only [putAll, Act.put, zA10, zB10, zC10] <;> rfl) (hJ211 (g3, g4) _ ⟨hHeld, B3.out, G3.out, B4.out, G4.out, N34.out, trivial⟩)
    intro hJ201
    refine join_ (σ := Nat × Nat) 3 q10_32 (fun s_ => [(41, .agg cs1), (13, .pointer (some ⟨s_.1, 0, none⟩)), (14, .pointer (some ⟨s_.2, 0, none⟩))]) (fun s_ w' => (Below wB.heap.size wB w') ∧ (w'.heap[s_.1]? = some (.cells zs 50 (0, 0))) ∧ (wB.heap.size ≤ s_.1) ∧ (w'.heap[s_.2]? = some (.cells zs 50 (0, 0))) ∧ (wB.heap.size ≤ s_.2) ∧ (s_.1 ≠ s_.2) ∧ True) ?_ ?_
    · rintro ⟨g3, g4⟩ wn ⟨hHeld, h0_, h1_, h2_, h3_, h4_, -⟩
      have B3 := Aside0.mk h0_; have G3 := Aside0.mk h1_; clear h0_ h1_
      have B4 := Aside0.mk h2_; have G4 := Aside0.mk h3_; clear h2_ h3_
      have N34 : Aside0 (g3 ≠ g4) := ⟨h4_⟩; clear h4_
      refine norm_ (a' := ?_) ?_ ?_; rotate_left; (· (simp only [putAll, Act.put, zA10, zB10, zC10]; rfl))
      refine one_ (i := 7) (N := some 45) q10_29 rfl rfl (one_of HT_.out (by kernel_rfl)) (by decide) (fun K hK => ?_)
      refine goes_ Try.func22 (by kernel_rfl) rfl #[.agg #[.slice A0_0 l0_0.length c0_0, .slice A0_1 l0_1.length c0_1, .slice A0_2 l0_2.length c0_2, .int .i64 a0_3, .int .i64 a0_4, .int .i64 a0_5, .int .i64 a0_6, .int .i64 a0_7, .int .i64 a0_8], .slice Aa y219.length ca, .slice Ab y231.length cb] (by rfl) rfl rfl (by (try simp only [List.map_toArray, List.map_cons, List.map_nil]); first | done | rfl | (simp only [List.length_drop, List.length_take]; rfl)) ?_
      with_reducible refine (stats_Tasks.calls _ _ l0_0 _ _ l0_1 _ _ l0_2 a0_3 a0_4 a0_5 a0_6 a0_7 a0_8 _ _ y219 _ _ y231 _ ?s1 ?s2 ?s3 ?s4 ?s5 ?s6 ?s7 ?s8 ?s9 ?s10 ?s11 ?s12).mono ?_
      (case s1 => exact Kd.C_below HR0_0.out hHeld); (case s2 => exact HC0_0.out); (case s3 => exact Kd.C_below HR0_1.out hHeld); (case s4 => exact HC0_1.out); (case s5 => exact Kd.C_below HR0_2.out hHeld); (case s6 => exact HC0_2.out); (case s7 => exact Kd.C_below HRa.out hHeld); (case s8 => exact HCa.out); (case s9 => exact Kd.C_below HRb.out hHeld); (case s10 => exact HCb.out); (case s11 => have := LN2.out.1; omega); (case s12 => have := LN2.out.2; omega)
      rintro e wn ⟨rfl, hb⟩
      refine ⟨_, rfl, ?_⟩
      rw [← hU.out, ← hcs2.out]
      have m0_ := Aside0.mk (blk_below B3.out hb)
      have m1_ := Aside0.mk (blk_below B4.out hb)
      clear B3 B4
      have B3 := m0_
      have B4 := m1_
      refine hK.out _ _ (below_step hHeld hb) (fun hHeld => ?_)
      clear hK K
      refine norm_ (a' := ?_) ?_ ?_; rotate_left; (· (show Act.put _ (some 45) _ = _; simp only [Act.put, zA10, zB10, zC10, i64_w, i32_w]; rfl))
      exact norm_ (by simp only [putAll, Act.put, zA10, zB10, zC10] <;> rfl) (hJ211 (g3, g4) _ ⟨hHeld, B3.out, G3.out, B4.out, G4.out, N34.out, trivial⟩)
    intro hJ111
    refine join_ (σ := Unit) 4 q10_33 (fun s_ => [(41, .agg cs1), (45, .agg cs2)]) (fun s_ w' => (Below wB.heap.size wB w') ∧ True) ?_ ?_
    · rintro ⟨⟩ wn ⟨hHeld, -⟩
      refine norm_ (a' := ?_) ?_ ?_; rotate_left; (· (simp only [putAll, Act.put, zA10, zB10, zC10]; rfl))
      refine two_ (i := 8) (j := 9) (Ni := some 13) (Nj := some 14) q10_30 q10_31 rfl rfl rfl rfl (two_of HT_.out (by kernel_rfl)) (by decide) (by decide) (fun K hK => ?_) (fun K hK => ?_)
      · refine box_step ?hg (N := 13) ?hd (cs := #[.int .i64 0, .int .i64 0, .int .i64 0, .int .i64 0, .int .i64 0, .int .i64 0, .int .i64 0, .int .i64 0, .int .i64 0, .int .i64 0, .int .i64 0, .int .i64 0, .int .i64 0, .int .i64 0, .int .i64 0, .int .i64 0, .int .i64 0, .int .i64 0, .int .i64 0, .int .i64 0, .int .i64 0, .int .i64 0, .int .i64 0, .int .i64 0, .int .i64 0, .int .i64 0, .int .i64 0, .int .i64 0, .int .i64 0, .int .i64 0, .int .i64 0, .int .i64 0, .int .i64 0, .int .i64 0, .int .i64 0, .int .i64 0]) (t := 50) ?hr ?_; (case hd => rfl); (case hg => rfl); (case hr => first | (go_simp; done) | (go_simp; rfl))
        intro g3 hg wn hbox hb
        have B3 : Aside0 (wn.heap[g3]? = some (.cells zs 50 (0, 0))) := ⟨by rw [hzs.out]; exact hbox⟩
        have G3 : Aside0 (wB.heap.size ≤ g3) := ⟨by rw [hg]; exact below_size hHeld⟩
        refine hK.out _ _ (below_step hHeld hb) (fun hHeld => ?_)
        clear hK K hbox hb hg
        refine norm_ (a' := ?_) ?_ ?_; rotate_left; (· (show Act.put _ (some 13) _ = _; simp only [Act.put, zA10, zB10, zC10, i64_w, i32_w]; rfl))
        exact norm_ (by simp only [putAll, Act.put, zA10, zB10, zC10] <;> rfl) (hJ210 g3 _ ⟨hHeld, B3.out, G3.out, trivial⟩)
      · refine box_step ?hg (N := 14) ?hd (cs := #[.int .i64 0, .int .i64 0, .int .i64 0, .int .i64 0, .int .i64 0, .int .i64 0, .int .i64 0, .int .i64 0, .int .i64 0, .int .i64 0, .int .i64 0, .int .i64 0, .int .i64 0, .int .i64 0, .int .i64 0, .int .i64 0, .int .i64 0, .int .i64 0, .int .i64 0, .int .i64 0, .int .i64 0, .int .i64 0, .int .i64 0, .int .i64 0, .int .i64 0, .int .i64 0, .int .i64 0, .int .i64 0, .int .i64 0, .int .i64 0, .int .i64 0, .int .i64 0, .int .i64 0, .int .i64 0, .int .i64 0, .int .i64 0]) (t := 50) ?hr ?_; (case hd => rfl); (case hg => rfl); (case hr => first | (go_simp; done) | (go_simp; rfl))
        intro g4 hg wn hbox hb
        have B4 : Aside0 (wn.heap[g4]? = some (.cells zs 50 (0, 0))) := ⟨by rw [hzs.out]; exact hbox⟩
        have G4 : Aside0 (wB.heap.size ≤ g4) := ⟨by rw [hg]; exact below_size hHeld⟩
        refine hK.out _ _ (below_step hHeld hb) (fun hHeld => ?_)
        clear hK K hbox hb hg
        refine norm_ (a' := ?_) ?_ ?_; rotate_left; (· (show Act.put _ (some 14) _ = _; simp only [Act.put, zA10, zB10, zC10, i64_w, i32_w]; rfl))
        exact norm_ (by simp only [putAll, Act.put, zA10, zB10, zC10] <;> rfl) (hJ201 g4 _ ⟨hHeld, B4.out, G4.out, trivial⟩)
    intro hJ200
    refine join_ (σ := Nat) 4 q10_34 (fun s_ => [(41, .agg cs1), (13, .pointer (some ⟨s_, 0, none⟩))]) (fun s_ w' => (Below wB.heap.size wB w') ∧ (w'.heap[s_]? = some (.cells zs 50 (0, 0))) ∧ (wB.heap.size ≤ s_) ∧ True) ?_ ?_
    · rintro g3 wn ⟨hHeld, h0_, h1_, -⟩
      have B3 := Aside0.mk h0_; have G3 := Aside0.mk h1_; clear h0_ h1_
      refine norm_ (a' := ?_) ?_ ?_; rotate_left; (· (simp only [putAll, Act.put, zA10, zB10, zC10]; rfl))
      refine two_ (i := 7) (j := 9) (Ni := some 45) (Nj := some 14) q10_30 q10_32 rfl rfl rfl rfl (two_of HT_.out (by kernel_rfl)) (by decide) (by decide) (fun K hK => ?_) (fun K hK => ?_)
      · refine goes_ Try.func22 (by kernel_rfl) rfl #[.agg #[.slice A0_0 l0_0.length c0_0, .slice A0_1 l0_1.length c0_1, .slice A0_2 l0_2.length c0_2, .int .i64 a0_3, .int .i64 a0_4, .int .i64 a0_5, .int .i64 a0_6, .int .i64 a0_7, .int .i64 a0_8], .slice Aa y219.length ca, .slice Ab y231.length cb] (by rfl) rfl rfl (by (try simp only [List.map_toArray, List.map_cons, List.map_nil]); first | done | rfl | (simp only [List.length_drop, List.length_take]; rfl)) ?_
        with_reducible refine (stats_Tasks.calls _ _ l0_0 _ _ l0_1 _ _ l0_2 a0_3 a0_4 a0_5 a0_6 a0_7 a0_8 _ _ y219 _ _ y231 _ ?s1 ?s2 ?s3 ?s4 ?s5 ?s6 ?s7 ?s8 ?s9 ?s10 ?s11 ?s12).mono ?_
        (case s1 => exact Kd.C_below HR0_0.out hHeld); (case s2 => exact HC0_0.out); (case s3 => exact Kd.C_below HR0_1.out hHeld); (case s4 => exact HC0_1.out); (case s5 => exact Kd.C_below HR0_2.out hHeld); (case s6 => exact HC0_2.out); (case s7 => exact Kd.C_below HRa.out hHeld); (case s8 => exact HCa.out); (case s9 => exact Kd.C_below HRb.out hHeld); (case s10 => exact HCb.out); (case s11 => have := LN2.out.1; omega); (case s12 => have := LN2.out.2; omega)
        rintro e wn ⟨rfl, hb⟩
        refine ⟨_, rfl, ?_⟩
        rw [← hU.out, ← hcs2.out]
        have m0_ := Aside0.mk (blk_below B3.out hb)
        clear B3
        have B3 := m0_
        refine hK.out _ _ (below_step hHeld hb) (fun hHeld => ?_)
        clear hK K
        refine norm_ (a' := ?_) ?_ ?_; rotate_left; (· (show Act.put _ (some 45) _ = _; simp only [Act.put, zA10, zB10, zC10, i64_w, i32_w]; rfl))
        exact norm_ (by simp only [putAll, Act.put, zA10, zB10, zC10] <;> rfl) (hJ210 g3 _ ⟨hHeld, B3.out, G3.out, trivial⟩)
      · refine box_step ?hg (N := 14) ?hd (cs := #[.int .i64 0, .int .i64 0, .int .i64 0, .int .i64 0, .int .i64 0, .int .i64 0, .int .i64 0, .int .i64 0, .int .i64 0, .int .i64 0, .int .i64 0, .int .i64 0, .int .i64 0, .int .i64 0, .int .i64 0, .int .i64 0, .int .i64 0, .int .i64 0, .int .i64 0, .int .i64 0, .int .i64 0, .int .i64 0, .int .i64 0, .int .i64 0, .int .i64 0, .int .i64 0, .int .i64 0, .int .i64 0, .int .i64 0, .int .i64 0, .int .i64 0, .int .i64 0, .int .i64 0, .int .i64 0, .int .i64 0, .int .i64 0]) (t := 50) ?hr ?_; (case hd => rfl); (case hg => rfl); (case hr => first | (go_simp; done) | (go_simp; rfl))
        intro g4 hg wn hbox hb
        have B4 : Aside0 (wn.heap[g4]? = some (.cells zs 50 (0, 0))) := ⟨by rw [hzs.out]; exact hbox⟩
        have G4 : Aside0 (wB.heap.size ≤ g4) := ⟨by rw [hg]; exact below_size hHeld⟩
        have N34 : Aside0 (g3 ≠ g4) := ⟨by rw [hg]; exact Nat.ne_of_lt (blk_lt B3.out)⟩
        have m0_ := Aside0.mk (blk_below B3.out hb)
        clear B3
        have B3 := m0_
        refine hK.out _ _ (below_step hHeld hb) (fun hHeld => ?_)
        clear hK K hbox hb hg
        refine norm_ (a' := ?_) ?_ ?_; rotate_left; (· (show Act.put _ (some 14) _ = _; simp only [Act.put, zA10, zB10, zC10, i64_w, i32_w]; rfl))
        exact norm_ (by simp only [putAll, Act.put, zA10, zB10, zC10] <;> rfl) (hJ111 (g3, g4) _ ⟨hHeld, B3.out, G3.out, B4.out, G4.out, N34.out, trivial⟩)
    intro hJ110
    refine join_ (σ := Nat) 4 q10_35 (fun s_ => [(41, .agg cs1), (14, .pointer (some ⟨s_, 0, none⟩))]) (fun s_ w' => (Below wB.heap.size wB w') ∧ (w'.heap[s_]? = some (.cells zs 50 (0, 0))) ∧ (wB.heap.size ≤ s_) ∧ True) ?_ ?_
    · rintro g4 wn ⟨hHeld, h2_, h3_, -⟩
      have B4 := Aside0.mk h2_; have G4 := Aside0.mk h3_; clear h2_ h3_
      refine norm_ (a' := ?_) ?_ ?_; rotate_left; (· (simp only [putAll, Act.put, zA10, zB10, zC10]; rfl))
      refine two_ (i := 7) (j := 8) (Ni := some 45) (Nj := some 13) q10_31 q10_32 rfl rfl rfl rfl (two_of HT_.out (by kernel_rfl)) (by decide) (by decide) (fun K hK => ?_) (fun K hK => ?_)
      · refine goes_ Try.func22 (by kernel_rfl) rfl #[.agg #[.slice A0_0 l0_0.length c0_0, .slice A0_1 l0_1.length c0_1, .slice A0_2 l0_2.length c0_2, .int .i64 a0_3, .int .i64 a0_4, .int .i64 a0_5, .int .i64 a0_6, .int .i64 a0_7, .int .i64 a0_8], .slice Aa y219.length ca, .slice Ab y231.length cb] (by rfl) rfl rfl (by (try simp only [List.map_toArray, List.map_cons, List.map_nil]); first | done | rfl | (simp only [List.length_drop, List.length_take]; rfl)) ?_
        with_reducible refine (stats_Tasks.calls _ _ l0_0 _ _ l0_1 _ _ l0_2 a0_3 a0_4 a0_5 a0_6 a0_7 a0_8 _ _ y219 _ _ y231 _ ?s1 ?s2 ?s3 ?s4 ?s5 ?s6 ?s7 ?s8 ?s9 ?s10 ?s11 ?s12).mono ?_
        (case s1 => exact Kd.C_below HR0_0.out hHeld); (case s2 => exact HC0_0.out); (case s3 => exact Kd.C_below HR0_1.out hHeld); (case s4 => exact HC0_1.out); (case s5 => exact Kd.C_below HR0_2.out hHeld); (case s6 => exact HC0_2.out); (case s7 => exact Kd.C_below HRa.out hHeld); (case s8 => exact HCa.out); (case s9 => exact Kd.C_below HRb.out hHeld); (case s10 => exact HCb.out); (case s11 => have := LN2.out.1; omega); (case s12 => have := LN2.out.2; omega)
        rintro e wn ⟨rfl, hb⟩
        refine ⟨_, rfl, ?_⟩
        rw [← hU.out, ← hcs2.out]
        have m0_ := Aside0.mk (blk_below B4.out hb)
        clear B4
        have B4 := m0_
        refine hK.out _ _ (below_step hHeld hb) (fun hHeld => ?_)
        clear hK K
        refine norm_ (a' := ?_) ?_ ?_; rotate_left; (· (show Act.put _ (some 45) _ = _; simp only [Act.put, zA10, zB10, zC10, i64_w, i32_w]; rfl))
        exact norm_ (by simp only [putAll, Act.put, zA10, zB10, zC10] <;> rfl) (hJ201 g4 _ ⟨hHeld, B4.out, G4.out, trivial⟩)
      · refine box_step ?hg (N := 13) ?hd (cs := #[.int .i64 0, .int .i64 0, .int .i64 0, .int .i64 0, .int .i64 0, .int .i64 0, .int .i64 0, .int .i64 0, .int .i64 0, .int .i64 0, .int .i64 0, .int .i64 0, .int .i64 0, .int .i64 0, .int .i64 0, .int .i64 0, .int .i64 0, .int .i64 0, .int .i64 0, .int .i64 0, .int .i64 0, .int .i64 0, .int .i64 0, .int .i64 0, .int .i64 0, .int .i64 0, .int .i64 0, .int .i64 0, .int .i64 0, .int .i64 0, .int .i64 0, .int .i64 0, .int .i64 0, .int .i64 0, .int .i64 0, .int .i64 0]) (t := 50) ?hr ?_; (case hd => rfl); (case hg => rfl); (case hr => first | (go_simp; done) | (go_simp; rfl))
        intro g3 hg wn hbox hb
        have B3 : Aside0 (wn.heap[g3]? = some (.cells zs 50 (0, 0))) := ⟨by rw [hzs.out]; exact hbox⟩
        have G3 : Aside0 (wB.heap.size ≤ g3) := ⟨by rw [hg]; exact below_size hHeld⟩
        have N34 : Aside0 (g3 ≠ g4) := ⟨by rw [hg]; exact Nat.ne_of_gt (blk_lt B4.out)⟩
        have m0_ := Aside0.mk (blk_below B4.out hb)
        clear B4
        have B4 := m0_
        refine hK.out _ _ (below_step hHeld hb) (fun hHeld => ?_)
        clear hK K hbox hb hg
        refine norm_ (a' := ?_) ?_ ?_; rotate_left; (· (show Act.put _ (some 13) _ = _; simp only [Act.put, zA10, zB10, zC10, i64_w, i32_w]; rfl))
        exact norm_ (by simp only [putAll, Act.put, zA10, zB10, zC10] <;> rfl) (hJ111 (g3, g4) _ ⟨hHeld, B3.out, G3.out, B4.out, G4.out, N34.out, trivial⟩)
    intro hJ101
    refine join_ (σ := Nat × Nat) 4 q10_36 (fun s_ => [(13, .pointer (some ⟨s_.1, 0, none⟩)), (14, .pointer (some ⟨s_.2, 0, none⟩))]) (fun s_ w' => (Below wB.heap.size wB w') ∧ (w'.heap[s_.1]? = some (.cells zs 50 (0, 0))) ∧ (wB.heap.size ≤ s_.1) ∧ (w'.heap[s_.2]? = some (.cells zs 50 (0, 0))) ∧ (wB.heap.size ≤ s_.2) ∧ (s_.1 ≠ s_.2) ∧ True) ?_ ?_
    · rintro ⟨g3, g4⟩ wn ⟨hHeld, h0_, h1_, h2_, h3_, h4_, -⟩
      have B3 := Aside0.mk h0_; have G3 := Aside0.mk h1_; clear h0_ h1_
      have B4 := Aside0.mk h2_; have G4 := Aside0.mk h3_; clear h2_ h3_
      have N34 : Aside0 (g3 ≠ g4) := ⟨h4_⟩; clear h4_
      refine norm_ (a' := ?_) ?_ ?_; rotate_left; (· (simp only [putAll, Act.put, zA10, zB10, zC10]; rfl))
      refine one_ (i := 3) (N := some 41) q10_32 rfl rfl (one_of HT_.out (by kernel_rfl)) (by decide) (fun K hK => ?_)
      refine goes_ Try.func22 (by kernel_rfl) rfl #[.agg #[.slice A0_0 l0_0.length c0_0, .slice A0_1 l0_1.length c0_1, .slice A0_2 l0_2.length c0_2, .int .i64 a0_3, .int .i64 a0_4, .int .i64 a0_5, .int .i64 a0_6, .int .i64 a0_7, .int .i64 a0_8], .slice A1 l1.length c1, .slice A2 l2.length c2] (by rfl) rfl rfl (by (try simp only [List.map_toArray, List.map_cons, List.map_nil]); first | done | rfl | (simp only [List.length_drop, List.length_take]; rfl)) ?_
      with_reducible refine (stats_Tasks.calls _ _ l0_0 _ _ l0_1 _ _ l0_2 a0_3 a0_4 a0_5 a0_6 a0_7 a0_8 _ _ l1 _ _ l2 _ ?s1 ?s2 ?s3 ?s4 ?s5 ?s6 ?s7 ?s8 ?s9 ?s10 ?s11 ?s12).mono ?_
      (case s1 => exact Kd.C_below HR0_0.out hHeld); (case s2 => exact HC0_0.out); (case s3 => exact Kd.C_below HR0_1.out hHeld); (case s4 => exact HC0_1.out); (case s5 => exact Kd.C_below HR0_2.out hHeld); (case s6 => exact HC0_2.out); (case s7 => exact Kd.C_below HR1.out hHeld); (case s8 => exact HC1.out); (case s9 => exact Kd.C_below HR2.out hHeld); (case s10 => exact HC2.out); (case s11 => have := LN.out.1; omega); (case s12 => have := LN.out.2; omega)
      rintro e wn ⟨rfl, hb⟩
      refine ⟨_, rfl, ?_⟩
      rw [← hV.out, ← hcs1.out]
      have m0_ := Aside0.mk (blk_below B3.out hb)
      have m1_ := Aside0.mk (blk_below B4.out hb)
      clear B3 B4
      have B3 := m0_
      have B4 := m1_
      refine hK.out _ _ (below_step hHeld hb) (fun hHeld => ?_)
      clear hK K
      refine norm_ (a' := ?_) ?_ ?_; rotate_left; (· (show Act.put _ (some 41) _ = _; simp only [Act.put, zA10, zB10, zC10, i64_w, i32_w]; rfl))
      exact norm_ (by simp only [putAll, Act.put, zA10, zB10, zC10] <;> rfl) (hJ111 (g3, g4) _ ⟨hHeld, B3.out, G3.out, B4.out, G4.out, N34.out, trivial⟩)
    intro hJ011
    refine join_ (σ := Unit) 5 q10_37 (fun s_ => [(41, .agg cs1)]) (fun s_ w' => (Below wB.heap.size wB w') ∧ True) ?_ ?_
    · rintro ⟨⟩ wn ⟨hHeld, -⟩
      refine norm_ (a' := ?_) ?_ ?_; rotate_left; (· (simp only [putAll, Act.put, zA10, zB10, zC10]; rfl))
      refine three_ (i := 7) (j := 8) (k := 9) (Ni := some 45) (Nj := some 13) (Nk := some 14) q10_33 q10_34 q10_35 rfl rfl rfl rfl rfl rfl (three_of HT_.out (by kernel_rfl)) (by decide) (by decide) (by decide) (fun K hK => ?_) (fun K hK => ?_) (fun K hK => ?_)
      · refine goes_ Try.func22 (by kernel_rfl) rfl #[.agg #[.slice A0_0 l0_0.length c0_0, .slice A0_1 l0_1.length c0_1, .slice A0_2 l0_2.length c0_2, .int .i64 a0_3, .int .i64 a0_4, .int .i64 a0_5, .int .i64 a0_6, .int .i64 a0_7, .int .i64 a0_8], .slice Aa y219.length ca, .slice Ab y231.length cb] (by rfl) rfl rfl (by (try simp only [List.map_toArray, List.map_cons, List.map_nil]); first | done | rfl | (simp only [List.length_drop, List.length_take]; rfl)) ?_
        with_reducible refine (stats_Tasks.calls _ _ l0_0 _ _ l0_1 _ _ l0_2 a0_3 a0_4 a0_5 a0_6 a0_7 a0_8 _ _ y219 _ _ y231 _ ?s1 ?s2 ?s3 ?s4 ?s5 ?s6 ?s7 ?s8 ?s9 ?s10 ?s11 ?s12).mono ?_
        (case s1 => exact Kd.C_below HR0_0.out hHeld); (case s2 => exact HC0_0.out); (case s3 => exact Kd.C_below HR0_1.out hHeld); (case s4 => exact HC0_1.out); (case s5 => exact Kd.C_below HR0_2.out hHeld); (case s6 => exact HC0_2.out); (case s7 => exact Kd.C_below HRa.out hHeld); (case s8 => exact HCa.out); (case s9 => exact Kd.C_below HRb.out hHeld); (case s10 => exact HCb.out); (case s11 => have := LN2.out.1; omega); (case s12 => have := LN2.out.2; omega)
        rintro e wn ⟨rfl, hb⟩
        refine ⟨_, rfl, ?_⟩
        rw [← hU.out, ← hcs2.out]
        refine hK.out _ _ (below_step hHeld hb) (fun hHeld => ?_)
        clear hK K
        refine norm_ (a' := ?_) ?_ ?_; rotate_left; (· (show Act.put _ (some 45) _ = _; simp only [Act.put, zA10, zB10, zC10, i64_w, i32_w]; rfl))
        exact norm_ (by simp only [putAll, Act.put, zA10, zB10, zC10] <;> rfl) (hJ200 () _ ⟨hHeld, trivial⟩)
      · refine box_step ?hg (N := 13) ?hd (cs := #[.int .i64 0, .int .i64 0, .int .i64 0, .int .i64 0, .int .i64 0, .int .i64 0, .int .i64 0, .int .i64 0, .int .i64 0, .int .i64 0, .int .i64 0, .int .i64 0, .int .i64 0, .int .i64 0, .int .i64 0, .int .i64 0, .int .i64 0, .int .i64 0, .int .i64 0, .int .i64 0, .int .i64 0, .int .i64 0, .int .i64 0, .int .i64 0, .int .i64 0, .int .i64 0, .int .i64 0, .int .i64 0, .int .i64 0, .int .i64 0, .int .i64 0, .int .i64 0, .int .i64 0, .int .i64 0, .int .i64 0, .int .i64 0]) (t := 50) ?hr ?_; (case hd => rfl); (case hg => rfl); (case hr => first | (go_simp; done) | (go_simp; rfl))
        intro g3 hg wn hbox hb
        have B3 : Aside0 (wn.heap[g3]? = some (.cells zs 50 (0, 0))) := ⟨by rw [hzs.out]; exact hbox⟩
        have G3 : Aside0 (wB.heap.size ≤ g3) := ⟨by rw [hg]; exact below_size hHeld⟩
        refine hK.out _ _ (below_step hHeld hb) (fun hHeld => ?_)
        clear hK K hbox hb hg
        refine norm_ (a' := ?_) ?_ ?_; rotate_left; (· (show Act.put _ (some 13) _ = _; simp only [Act.put, zA10, zB10, zC10, i64_w, i32_w]; rfl))
        exact norm_ (by simp only [putAll, Act.put, zA10, zB10, zC10] <;> rfl) (hJ110 g3 _ ⟨hHeld, B3.out, G3.out, trivial⟩)
      · refine box_step ?hg (N := 14) ?hd (cs := #[.int .i64 0, .int .i64 0, .int .i64 0, .int .i64 0, .int .i64 0, .int .i64 0, .int .i64 0, .int .i64 0, .int .i64 0, .int .i64 0, .int .i64 0, .int .i64 0, .int .i64 0, .int .i64 0, .int .i64 0, .int .i64 0, .int .i64 0, .int .i64 0, .int .i64 0, .int .i64 0, .int .i64 0, .int .i64 0, .int .i64 0, .int .i64 0, .int .i64 0, .int .i64 0, .int .i64 0, .int .i64 0, .int .i64 0, .int .i64 0, .int .i64 0, .int .i64 0, .int .i64 0, .int .i64 0, .int .i64 0, .int .i64 0]) (t := 50) ?hr ?_; (case hd => rfl); (case hg => rfl); (case hr => first | (go_simp; done) | (go_simp; rfl))
        intro g4 hg wn hbox hb
        have B4 : Aside0 (wn.heap[g4]? = some (.cells zs 50 (0, 0))) := ⟨by rw [hzs.out]; exact hbox⟩
        have G4 : Aside0 (wB.heap.size ≤ g4) := ⟨by rw [hg]; exact below_size hHeld⟩
        refine hK.out _ _ (below_step hHeld hb) (fun hHeld => ?_)
        clear hK K hbox hb hg
        refine norm_ (a' := ?_) ?_ ?_; rotate_left; (· (show Act.put _ (some 14) _ = _; simp only [Act.put, zA10, zB10, zC10, i64_w, i32_w]; rfl))
        exact norm_ (by simp only [putAll, Act.put, zA10, zB10, zC10] <;> rfl) (hJ101 g4 _ ⟨hHeld, B4.out, G4.out, trivial⟩)
    intro hJ100
    refine join_ (σ := Nat) 5 q10_38 (fun s_ => [(13, .pointer (some ⟨s_, 0, none⟩))]) (fun s_ w' => (Below wB.heap.size wB w') ∧ (w'.heap[s_]? = some (.cells zs 50 (0, 0))) ∧ (wB.heap.size ≤ s_) ∧ True) ?_ ?_
    · rintro g3 wn ⟨hHeld, h0_, h1_, -⟩
      have B3 := Aside0.mk h0_; have G3 := Aside0.mk h1_; clear h0_ h1_
      refine norm_ (a' := ?_) ?_ ?_; rotate_left; (· (simp only [putAll, Act.put, zA10, zB10, zC10]; rfl))
      refine two_ (i := 3) (j := 9) (Ni := some 41) (Nj := some 14) q10_34 q10_36 rfl rfl rfl rfl (two_of HT_.out (by kernel_rfl)) (by decide) (by decide) (fun K hK => ?_) (fun K hK => ?_)
      · refine goes_ Try.func22 (by kernel_rfl) rfl #[.agg #[.slice A0_0 l0_0.length c0_0, .slice A0_1 l0_1.length c0_1, .slice A0_2 l0_2.length c0_2, .int .i64 a0_3, .int .i64 a0_4, .int .i64 a0_5, .int .i64 a0_6, .int .i64 a0_7, .int .i64 a0_8], .slice A1 l1.length c1, .slice A2 l2.length c2] (by rfl) rfl rfl (by (try simp only [List.map_toArray, List.map_cons, List.map_nil]); first | done | rfl | (simp only [List.length_drop, List.length_take]; rfl)) ?_
        with_reducible refine (stats_Tasks.calls _ _ l0_0 _ _ l0_1 _ _ l0_2 a0_3 a0_4 a0_5 a0_6 a0_7 a0_8 _ _ l1 _ _ l2 _ ?s1 ?s2 ?s3 ?s4 ?s5 ?s6 ?s7 ?s8 ?s9 ?s10 ?s11 ?s12).mono ?_
        (case s1 => exact Kd.C_below HR0_0.out hHeld); (case s2 => exact HC0_0.out); (case s3 => exact Kd.C_below HR0_1.out hHeld); (case s4 => exact HC0_1.out); (case s5 => exact Kd.C_below HR0_2.out hHeld); (case s6 => exact HC0_2.out); (case s7 => exact Kd.C_below HR1.out hHeld); (case s8 => exact HC1.out); (case s9 => exact Kd.C_below HR2.out hHeld); (case s10 => exact HC2.out); (case s11 => have := LN.out.1; omega); (case s12 => have := LN.out.2; omega)
        rintro e wn ⟨rfl, hb⟩
        refine ⟨_, rfl, ?_⟩
        rw [← hV.out, ← hcs1.out]
        have m0_ := Aside0.mk (blk_below B3.out hb)
        clear B3
        have B3 := m0_
        refine hK.out _ _ (below_step hHeld hb) (fun hHeld => ?_)
        clear hK K
        refine norm_ (a' := ?_) ?_ ?_; rotate_left; (· (show Act.put _ (some 41) _ = _; simp only [Act.put, zA10, zB10, zC10, i64_w, i32_w]; rfl))
        exact norm_ (by simp only [putAll, Act.put, zA10, zB10, zC10] <;> rfl) (hJ110 g3 _ ⟨hHeld, B3.out, G3.out, trivial⟩)
      · refine box_step ?hg (N := 14) ?hd (cs := #[.int .i64 0, .int .i64 0, .int .i64 0, .int .i64 0, .int .i64 0, .int .i64 0, .int .i64 0, .int .i64 0, .int .i64 0, .int .i64 0, .int .i64 0, .int .i64 0, .int .i64 0, .int .i64 0, .int .i64 0, .int .i64 0, .int .i64 0, .int .i64 0, .int .i64 0, .int .i64 0, .int .i64 0, .int .i64 0, .int .i64 0, .int .i64 0, .int .i64 0, .int .i64 0, .int .i64 0, .int .i64 0, .int .i64 0, .int .i64 0, .int .i64 0, .int .i64 0, .int .i64 0, .int .i64 0, .int .i64 0, .int .i64 0]) (t := 50) ?hr ?_; (case hd => rfl); (case hg => rfl); (case hr => first | (go_simp; done) | (go_simp; rfl))
        intro g4 hg wn hbox hb
        have B4 : Aside0 (wn.heap[g4]? = some (.cells zs 50 (0, 0))) := ⟨by rw [hzs.out]; exact hbox⟩
        have G4 : Aside0 (wB.heap.size ≤ g4) := ⟨by rw [hg]; exact below_size hHeld⟩
        have N34 : Aside0 (g3 ≠ g4) := ⟨by rw [hg]; exact Nat.ne_of_lt (blk_lt B3.out)⟩
        have m0_ := Aside0.mk (blk_below B3.out hb)
        clear B3
        have B3 := m0_
        refine hK.out _ _ (below_step hHeld hb) (fun hHeld => ?_)
        clear hK K hbox hb hg
        refine norm_ (a' := ?_) ?_ ?_; rotate_left; (· (show Act.put _ (some 14) _ = _; simp only [Act.put, zA10, zB10, zC10, i64_w, i32_w]; rfl))
        exact norm_ (by simp only [putAll, Act.put, zA10, zB10, zC10] <;> rfl) (hJ011 (g3, g4) _ ⟨hHeld, B3.out, G3.out, B4.out, G4.out, N34.out, trivial⟩)
    intro hJ010
    refine join_ (σ := Nat) 5 q10_39 (fun s_ => [(14, .pointer (some ⟨s_, 0, none⟩))]) (fun s_ w' => (Below wB.heap.size wB w') ∧ (w'.heap[s_]? = some (.cells zs 50 (0, 0))) ∧ (wB.heap.size ≤ s_) ∧ True) ?_ ?_
    · rintro g4 wn ⟨hHeld, h2_, h3_, -⟩
      have B4 := Aside0.mk h2_; have G4 := Aside0.mk h3_; clear h2_ h3_
      refine norm_ (a' := ?_) ?_ ?_; rotate_left; (· (simp only [putAll, Act.put, zA10, zB10, zC10]; rfl))
      refine two_ (i := 3) (j := 8) (Ni := some 41) (Nj := some 13) q10_35 q10_36 rfl rfl rfl rfl (two_of HT_.out (by kernel_rfl)) (by decide) (by decide) (fun K hK => ?_) (fun K hK => ?_)
      · refine goes_ Try.func22 (by kernel_rfl) rfl #[.agg #[.slice A0_0 l0_0.length c0_0, .slice A0_1 l0_1.length c0_1, .slice A0_2 l0_2.length c0_2, .int .i64 a0_3, .int .i64 a0_4, .int .i64 a0_5, .int .i64 a0_6, .int .i64 a0_7, .int .i64 a0_8], .slice A1 l1.length c1, .slice A2 l2.length c2] (by rfl) rfl rfl (by (try simp only [List.map_toArray, List.map_cons, List.map_nil]); first | done | rfl | (simp only [List.length_drop, List.length_take]; rfl)) ?_
        with_reducible refine (stats_Tasks.calls _ _ l0_0 _ _ l0_1 _ _ l0_2 a0_3 a0_4 a0_5 a0_6 a0_7 a0_8 _ _ l1 _ _ l2 _ ?s1 ?s2 ?s3 ?s4 ?s5 ?s6 ?s7 ?s8 ?s9 ?s10 ?s11 ?s12).mono ?_
        (case s1 => exact Kd.C_below HR0_0.out hHeld); (case s2 => exact HC0_0.out); (case s3 => exact Kd.C_below HR0_1.out hHeld); (case s4 => exact HC0_1.out); (case s5 => exact Kd.C_below HR0_2.out hHeld); (case s6 => exact HC0_2.out); (case s7 => exact Kd.C_below HR1.out hHeld); (case s8 => exact HC1.out); (case s9 => exact Kd.C_below HR2.out hHeld); (case s10 => exact HC2.out); (case s11 => have := LN.out.1; omega); (case s12 => have := LN.out.2; omega)
        rintro e wn ⟨rfl, hb⟩
        refine ⟨_, rfl, ?_⟩
        rw [← hV.out, ← hcs1.out]
        have m0_ := Aside0.mk (blk_below B4.out hb)
        clear B4
        have B4 := m0_
        refine hK.out _ _ (below_step hHeld hb) (fun hHeld => ?_)
        clear hK K
        refine norm_ (a' := ?_) ?_ ?_; rotate_left; (· (show Act.put _ (some 41) _ = _; simp only [Act.put, zA10, zB10, zC10, i64_w, i32_w]; rfl))
        exact norm_ (by simp only [putAll, Act.put, zA10, zB10, zC10] <;> rfl) (hJ101 g4 _ ⟨hHeld, B4.out, G4.out, trivial⟩)
      · refine box_step ?hg (N := 13) ?hd (cs := #[.int .i64 0, .int .i64 0, .int .i64 0, .int .i64 0, .int .i64 0, .int .i64 0, .int .i64 0, .int .i64 0, .int .i64 0, .int .i64 0, .int .i64 0, .int .i64 0, .int .i64 0, .int .i64 0, .int .i64 0, .int .i64 0, .int .i64 0, .int .i64 0, .int .i64 0, .int .i64 0, .int .i64 0, .int .i64 0, .int .i64 0, .int .i64 0, .int .i64 0, .int .i64 0, .int .i64 0, .int .i64 0, .int .i64 0, .int .i64 0, .int .i64 0, .int .i64 0, .int .i64 0, .int .i64 0, .int .i64 0, .int .i64 0]) (t := 50) ?hr ?_; (case hd => rfl); (case hg => rfl); (case hr => first | (go_simp; done) | (go_simp; rfl))
        intro g3 hg wn hbox hb
        have B3 : Aside0 (wn.heap[g3]? = some (.cells zs 50 (0, 0))) := ⟨by rw [hzs.out]; exact hbox⟩
        have G3 : Aside0 (wB.heap.size ≤ g3) := ⟨by rw [hg]; exact below_size hHeld⟩
        have N34 : Aside0 (g3 ≠ g4) := ⟨by rw [hg]; exact Nat.ne_of_gt (blk_lt B4.out)⟩
        have m0_ := Aside0.mk (blk_below B4.out hb)
        clear B4
        have B4 := m0_
        refine hK.out _ _ (below_step hHeld hb) (fun hHeld => ?_)
        clear hK K hbox hb hg
        refine norm_ (a' := ?_) ?_ ?_; rotate_left; (· (show Act.put _ (some 13) _ = _; simp only [Act.put, zA10, zB10, zC10, i64_w, i32_w]; rfl))
        exact norm_ (by simp only [putAll, Act.put, zA10, zB10, zC10] <;> rfl) (hJ011 (g3, g4) _ ⟨hHeld, B3.out, G3.out, B4.out, G4.out, N34.out, trivial⟩)
    intro hJ001
    refine three_ (i := 3) (j := 8) (k := 9) (Ni := some 41) (Nj := some 13) (Nk := some 14) q10_37 q10_38 q10_39 rfl rfl rfl rfl rfl rfl (three_of HT_.out (by kernel_rfl)) (by decide) (by decide) (by decide) (fun K hK => ?_) (fun K hK => ?_) (fun K hK => ?_)
    · refine goes_ Try.func22 (by kernel_rfl) rfl #[.agg #[.slice A0_0 l0_0.length c0_0, .slice A0_1 l0_1.length c0_1, .slice A0_2 l0_2.length c0_2, .int .i64 a0_3, .int .i64 a0_4, .int .i64 a0_5, .int .i64 a0_6, .int .i64 a0_7, .int .i64 a0_8], .slice A1 l1.length c1, .slice A2 l2.length c2] (by rfl) rfl rfl (by (try simp only [List.map_toArray, List.map_cons, List.map_nil]); first | done | rfl | (simp only [List.length_drop, List.length_take]; rfl)) ?_
      with_reducible refine (stats_Tasks.calls _ _ l0_0 _ _ l0_1 _ _ l0_2 a0_3 a0_4 a0_5 a0_6 a0_7 a0_8 _ _ l1 _ _ l2 _ ?s1 ?s2 ?s3 ?s4 ?s5 ?s6 ?s7 ?s8 ?s9 ?s10 ?s11 ?s12).mono ?_
      (case s1 => exact Kd.C_below HR0_0.out hHeld); (case s2 => exact HC0_0.out); (case s3 => exact Kd.C_below HR0_1.out hHeld); (case s4 => exact HC0_1.out); (case s5 => exact Kd.C_below HR0_2.out hHeld); (case s6 => exact HC0_2.out); (case s7 => exact Kd.C_below HR1.out hHeld); (case s8 => exact HC1.out); (case s9 => exact Kd.C_below HR2.out hHeld); (case s10 => exact HC2.out); (case s11 => have := LN.out.1; omega); (case s12 => have := LN.out.2; omega)
      rintro e wn ⟨rfl, hb⟩
      refine ⟨_, rfl, ?_⟩
      rw [← hV.out, ← hcs1.out]
      refine hK.out _ _ (below_step hHeld hb) (fun hHeld => ?_)
      clear hK K
      refine norm_ (a' := ?_) ?_ ?_; rotate_left; (· (show Act.put _ (some 41) _ = _; simp only [Act.put, zA10, zB10, zC10, i64_w, i32_w]; rfl))
      exact norm_ (by simp only [putAll, Act.put, zA10, zB10, zC10] <;> rfl) (hJ100 () _ ⟨hHeld, trivial⟩)
    · refine box_step ?hg (N := 13) ?hd (cs := #[.int .i64 0, .int .i64 0, .int .i64 0, .int .i64 0, .int .i64 0, .int .i64 0, .int .i64 0, .int .i64 0, .int .i64 0, .int .i64 0, .int .i64 0, .int .i64 0, .int .i64 0, .int .i64 0, .int .i64 0, .int .i64 0, .int .i64 0, .int .i64 0, .int .i64 0, .int .i64 0, .int .i64 0, .int .i64 0, .int .i64 0, .int .i64 0, .int .i64 0, .int .i64 0, .int .i64 0, .int .i64 0, .int .i64 0, .int .i64 0, .int .i64 0, .int .i64 0, .int .i64 0, .int .i64 0, .int .i64 0, .int .i64 0]) (t := 50) ?hr ?_; (case hd => rfl); (case hg => rfl); (case hr => first | (go_simp; done) | (go_simp; rfl))
      intro g3 hg wn hbox hb
      have B3 : Aside0 (wn.heap[g3]? = some (.cells zs 50 (0, 0))) := ⟨by rw [hzs.out]; exact hbox⟩
      have G3 : Aside0 (wB.heap.size ≤ g3) := ⟨by rw [hg]; exact below_size hHeld⟩
      refine hK.out _ _ (below_step hHeld hb) (fun hHeld => ?_)
      clear hK K hbox hb hg
      refine norm_ (a' := ?_) ?_ ?_; rotate_left; (· (show Act.put _ (some 13) _ = _; simp only [Act.put, zA10, zB10, zC10, i64_w, i32_w]; rfl))
      exact norm_ (by simp only [putAll, Act.put, zA10, zB10, zC10] <;> rfl) (hJ010 g3 _ ⟨hHeld, B3.out, G3.out, trivial⟩)
    · refine box_step ?hg (N := 14) ?hd (cs := #[.int .i64 0, .int .i64 0, .int .i64 0, .int .i64 0, .int .i64 0, .int .i64 0, .int .i64 0, .int .i64 0, .int .i64 0, .int .i64 0, .int .i64 0, .int .i64 0, .int .i64 0, .int .i64 0, .int .i64 0, .int .i64 0, .int .i64 0, .int .i64 0, .int .i64 0, .int .i64 0, .int .i64 0, .int .i64 0, .int .i64 0, .int .i64 0, .int .i64 0, .int .i64 0, .int .i64 0, .int .i64 0, .int .i64 0, .int .i64 0, .int .i64 0, .int .i64 0, .int .i64 0, .int .i64 0, .int .i64 0, .int .i64 0]) (t := 50) ?hr ?_; (case hd => rfl); (case hg => rfl); (case hr => first | (go_simp; done) | (go_simp; rfl))
      intro g4 hg wn hbox hb
      have B4 : Aside0 (wn.heap[g4]? = some (.cells zs 50 (0, 0))) := ⟨by rw [hzs.out]; exact hbox⟩
      have G4 : Aside0 (wB.heap.size ≤ g4) := ⟨by rw [hg]; exact below_size hHeld⟩
      refine hK.out _ _ (below_step hHeld hb) (fun hHeld => ?_)
      clear hK K hbox hb hg
      refine norm_ (a' := ?_) ?_ ?_; rotate_left; (· (show Act.put _ (some 14) _ = _; simp only [Act.put, zA10, zB10, zC10, i64_w, i32_w]; rfl))
      exact norm_ (by simp only [putAll, Act.put, zA10, zB10, zC10] <;> rfl) (hJ001 g4 _ ⟨hHeld, B4.out, G4.out, trivial⟩)
  rintro ⟨g3, g4⟩ wn ⟨hHeld, h0_, h1_, h2_, h3_, h4_, -⟩
  have B3 := Aside0.mk h0_; have G3 := Aside0.mk h1_; clear h0_ h1_
  have B4 := Aside0.mk h2_; have G4 := Aside0.mk h3_; clear h2_ h3_
  have N34 : Aside0 (g3 ≠ g4) := ⟨h4_⟩; clear h4_
  refine norm_ (a' := ?_) ?_ ?_; rotate_left; (· (simp only [putAll, Act.put, zA10, zB10, zC10]; rfl))
  have hth : Aside0 (wn.there g3 0 cs1.size) := ⟨fun j hj => ⟨by rw [Nat.zero_add, blk_cell B3.out j, hzs.out, zeros36, arrN_get 36 zeroB j (by have := hsz1.out; omega)]; rfl, blk_frozen B3.out _⟩⟩
  refine one_ (i := 10) (N := none) #[true, true, true, true, true, true, true, true, true, true, true, false] rfl rfl (one_of HT_.out (by kernel_rfl)) (by decide) (fun K hK => ?_)
  refine skip_ (w1 := wn.setCells g3 0 cs1.toList) (by rfl) rfl (run_st36 rfl _ _ rfl rfl hth.out (by rw [hsz1.out]; kernel_rfl) hon1.out) ?_
  have m0_ : Aside0 ((wn.setCells g3 0 cs1.toList).heap[g3]? = some (.cells cs1 50 (0, 0))) := ⟨by have := blk_cells B3.out (seg := cs1.toList) (by rw [Array.length_toList, hsz1.out, hzs.out]; rfl); rw [Array.toArray_toList] at this; exact this⟩
  have m1_ := Aside0.mk ((setCells_far cs1.toList 0 (w := wn) _ (fun h => N34.out h.symm)).trans B4.out)
  have m2_ := below_cells hHeld G3.out cs1.toList
  clear hth B3 B4
  have B3 := m0_; have B4 := m1_; clear m0_ m1_
  refine hK.out _ _ m2_ (fun hHeld => ?_)
  clear hK K m2_
  generalize wn.setCells g3 0 cs1.toList = wn10 at B3 B4 hHeld ⊢
  have hth : Aside0 (wn10.there g4 0 cs2.size) := ⟨fun j hj => ⟨by rw [Nat.zero_add, blk_cell B4.out j, hzs.out, zeros36, arrN_get 36 zeroB j (by have := hsz2.out; omega)]; rfl, blk_frozen B4.out _⟩⟩
  refine one_ (i := 11) (N := none) #[true, true, true, true, true, true, true, true, true, true, true, true] rfl rfl (one_of HT_.out (by kernel_rfl)) (by decide) (fun K hK => ?_)
  refine skip_ (w1 := wn10.setCells g4 0 cs2.toList) (by rfl) rfl (run_st36 rfl _ _ rfl rfl hth.out (by rw [hsz2.out]; kernel_rfl) hon2.out) ?_
  have m0_ : Aside0 ((wn10.setCells g4 0 cs2.toList).heap[g4]? = some (.cells cs2 50 (0, 0))) := ⟨by have := blk_cells B4.out (seg := cs2.toList) (by rw [Array.length_toList, hsz2.out, hzs.out]; rfl); rw [Array.toArray_toList] at this; exact this⟩
  have m1_ := Aside0.mk ((setCells_far cs2.toList 0 (w := wn10) _ (fun h => N34.out h)).trans B3.out)
  have m2_ := below_cells hHeld G4.out cs2.toList
  clear hth B4 B3
  have B4 := m0_; have B3 := m1_; clear m0_ m1_
  refine hK.out _ _ m2_ (fun hHeld => ?_)
  clear hK K m2_
  generalize wn10.setCells g4 0 cs2.toList = wn11 at B4 B3 hHeld ⊢
  refine done_ (done_of HT_.out (by kernel_rfl)) ?_
  have HB := Aside0.mk hHeld
  clear hHeld HT_ HW_ hon1 hon2 hsz1 hsz2
  rw [hcs1.out] at B3
  rw [hcs2.out] at B4
  clear hcs1 hcs2
  go_wp2
  go_loopg [15] 7 (fun kq v15 w' => ∃ (i : Int), v15 = .int .i64 i ∧ Aside0 (0 ≤ i ∧ i ≤ 6 ∧ (kq : Int) + i = 7) ∧ Aside0 (w'.heap[g3]? = some (.cells (arrN 36 V) 50 (0, 0))) ∧ Aside0 (w'.heap[g4]? = some (.cells (arrN 36 U) 50 (0, 0))) ∧ Aside0 (Below wB.heap.size wB w'))
  case atStart => exact ⟨0, rfl, ⟨by omega, by omega, by omega⟩, ⟨B3.out⟩, ⟨B4.out⟩, ⟨HB.out⟩⟩
  case round =>
  clear B3 B4 HB
  obtain ⟨i, rfl, HI, B3, B4, HB⟩ := hrel
  have hi0 := HI.out.1
  by_cases c : i < 6
  case neg =>
    have c0 : decide (i < 6) = false := decide_eq_false c
    go_wp2_with (first | ((with_reducible refine gate_callee (f := 21) rfl ?_); refine goesL_ (some 69) rfl rfl Try.func21 (by kernel_rfl) rfl #[] rfl (by (try simp only [List.map_toArray, List.map_cons, List.map_nil]); first | done | rfl | (simp only [List.length_drop, List.length_take]; rfl)) ?_; (with_reducible refine (answers26.calls _).mono ?_); rintro e w30 ⟨rfl, hb⟩; refine ⟨_, rfl, ?_⟩))
    go_ret
    exact ⟨rfl, below_step HW.out (below_step HB.out hb)⟩
  have c0 : decide (i < 6) = true := decide_eq_true c
  cases gk with
  | zero => exact absurd HI.out.2.2 (by have := HI.out.2.1; omega)
  | succ k1 =>
  have HI1 : Aside0 (0 ≤ i + 1 ∧ i + 1 ≤ 6 ∧ (k1 : Int) + (i + 1) = 7) := ⟨by have := HI.out.2; omega⟩
  have next : wrap64 (i + 1) = i + 1 := by unfold wrap64; omega
  have p0 := eq_true hi0
  have q0 := eq_true c
  have BKx2 : Aside0 (wr.heap[gx]? = some (.cells #[.int .i64 a3_0, .int .i64 a3_1, .int .i64 a3_2, .int .i64 a3_3] 63 (0, 0))) := ⟨blk_below BKx.out HB.out⟩
  have BKi2 : Aside0 (wr.heap[gi]? = some (.cells #[.int .i64 a4_0, .int .i64 a4_1, .int .i64 a4_2, .int .i64 a4_3, .int .i64 a4_4, .int .i64 a4_5] 28 (0, 0))) := ⟨blk_below BKi.out HB.out⟩
  by_cases cx : i = a3_1
  · have d0 : (i == a3_1) = true := beq_iff_eq.mpr cx
    have d1 : (i != a3_1) = false := bne_eq_false_iff_eq.mpr cx
    clear cx
    go_upto_region 8 with (fail)
    refine start_ (n := 19) (S := fun w' => w'.cell? ⟨gx, 0, none⟩ = some (.int .i64 a3_0) ∧ w'.cell? ⟨gx, 1, none⟩ = some (.int .i64 a3_1) ∧ w'.cell? ⟨gx, 2, none⟩ = some (.int .i64 a3_2) ∧ w'.cell? ⟨gx, 3, none⟩ = some (.int .i64 a3_3)) (ds := []) q10_40 (by kernel_rfl) rfl rfl ⟨(blk_cell (blk_drew BKx2.out) 0).trans rfl, (blk_cell (blk_drew BKx2.out) 1).trans rfl, (blk_cell (blk_drew BKx2.out) 2).trans rfl, (blk_cell (blk_drew BKx2.out) 3).trans rfl⟩ (fun hHeld => ?_); refine with_tabW stp.tab8 stp.bits8 (fun HT_ HW_ => ?_)
    have n0_ := Aside0.mk (blk_drew B3.out); have n1_ := Aside0.mk (blk_drew B4.out); have n2_ := Aside0.mk (HB.out.drew); clear B3 B4 HB BKx2 BKi2; have B3 := n0_; have B4 := n1_; have HB := n2_; clear n0_ n1_ n2_; generalize wr.drew = w11 at B3 B4 HB hHeld ⊢
    refine pure_ (i := 0) (N := some 50) (v := ?_) (a' := ?_) q10_41 rfl rfl (any_of HT_.out (by kernel_rfl)) (fun _ _ _ h => h) (Or.inl ⟨by rfl, ?_⟩) ?_ ?_; rotate_left; (· (intro w'; go_simp; with_reducible rfl)); rotate_left; (· (simp only [Act.put, zA10, zB10, zC10, i64_w, i32_w]; rfl))
    refine pure_ (i := 1) (N := some 51) (v := ?_) (a' := ?_) q10_42 rfl rfl (any_of HT_.out (by kernel_rfl)) (fun _ _ _ h => h) (Or.inl ⟨by rfl, ?_⟩) ?_ ?_; rotate_left; (· (intro w'; go_simp; with_reducible rfl)); rotate_left; (· (simp only [Act.put, zA10, zB10, zC10, i64_w, i32_w]; rfl))
    refine take_ (i := 2) (N := some 52) (v := ?_) (a' := ?_) q10_43 rfl rfl (take_ofW HT_.out HW_.out (by kernel_rfl)) (fun _ _ _ h => h) (Or.inl ⟨by rfl, ?_⟩) hHeld ?_ ?_; rotate_left; (· (rintro w' ⟨s0, s1, s2, s3⟩; go_simp; with_reducible rfl)); rotate_left; (· (simp only [Act.put, zA10, zB10, zC10, i64_w, i32_w]; rfl))
    refine pure_ (i := 3) (N := some 53) (v := ?_) (a' := ?_) q10_44 rfl rfl (any_of HT_.out (by kernel_rfl)) (fun _ _ _ h => h) (Or.inl ⟨by rfl, ?_⟩) ?_ ?_; rotate_left; (· (intro w'; go_simp; with_reducible rfl)); rotate_left; (· (simp only [Act.put, zA10, zB10, zC10, i64_w, i32_w]; rfl))
    refine pure_ (i := 4) (N := some 54) (v := ?_) (a' := ?_) q10_45 rfl rfl (any_of HT_.out (by kernel_rfl)) (fun _ _ _ h => h) (Or.inl ⟨by rfl, ?_⟩) ?_ ?_; rotate_left; (· (intro w'; go_simp; with_reducible rfl)); rotate_left; (· (simp only [Act.put, zA10, zB10, zC10, i64_w, i32_w]; rfl))
    refine pure_ (i := 5) (N := some 55) (v := undef) (a' := ?_) q10_46 rfl rfl (any_of HT_.out (by kernel_rfl)) (fun _ _ _ h => h) (Or.inr ⟨by rfl, rfl⟩) ?_ ?_; rotate_left; (· (simp only [Act.put, zA10, zB10, zC10, i64_w, i32_w]; rfl))
    refine pure_ (i := 6) (N := some 56) (v := undef) (a' := ?_) q10_47 rfl rfl (any_of HT_.out (by kernel_rfl)) (fun _ _ _ h => h) (Or.inr ⟨by rfl, rfl⟩) ?_ ?_; rotate_left; (· (simp only [Act.put, zA10, zB10, zC10, i64_w, i32_w]; rfl))
    refine pure_ (i := 7) (N := some 57) (v := undef) (a' := ?_) q10_48 rfl rfl (any_of HT_.out (by kernel_rfl)) (fun _ _ _ h => h) (Or.inr ⟨by rfl, rfl⟩) ?_ ?_; rotate_left; (· (simp only [Act.put, zA10, zB10, zC10, i64_w, i32_w]; rfl))
    refine pure_ (i := 8) (N := some 58) (v := undef) (a' := ?_) q10_49 rfl rfl (any_of HT_.out (by kernel_rfl)) (fun _ _ _ h => h) (Or.inr ⟨by rfl, rfl⟩) ?_ ?_; rotate_left; (· (simp only [Act.put, zA10, zB10, zC10, i64_w, i32_w]; rfl))
    refine pure_ (i := 9) (N := some 59) (v := ?_) (a' := ?_) q10_50 rfl rfl (any_of HT_.out (by kernel_rfl)) (fun _ _ _ h => h) (Or.inl ⟨by rfl, ?_⟩) ?_ ?_; rotate_left; (· (intro w'; go_simp; with_reducible rfl)); rotate_left; (· (simp only [Act.put, zA10, zB10, zC10, i64_w, i32_w]; rfl))
    refine pure_ (i := 10) (N := some 60) (v := ?_) (a' := ?_) q10_51 rfl rfl (any_of HT_.out (by kernel_rfl)) (fun _ _ _ h => h) (Or.inl ⟨by rfl, ?_⟩) ?_ ?_; rotate_left; (· (intro w'; go_simp; with_reducible rfl)); rotate_left; (· (simp only [Act.put, zA10, zB10, zC10, i64_w, i32_w]; rfl))
    refine pure_ (i := 11) (N := some 61) (v := undef) (a' := ?_) q10_52 rfl rfl (any_of HT_.out (by kernel_rfl)) (fun _ _ _ h => h) (Or.inr ⟨by rfl, rfl⟩) ?_ ?_; rotate_left; (· (simp only [Act.put, zA10, zB10, zC10, i64_w, i32_w]; rfl))
    refine pure_ (i := 12) (N := some 62) (v := undef) (a' := ?_) q10_53 rfl rfl (any_of HT_.out (by kernel_rfl)) (fun _ _ _ h => h) (Or.inr ⟨by rfl, rfl⟩) ?_ ?_; rotate_left; (· (simp only [Act.put, zA10, zB10, zC10, i64_w, i32_w]; rfl))
    refine pure_ (i := 13) (N := some 63) (v := undef) (a' := ?_) q10_54 rfl rfl (any_of HT_.out (by kernel_rfl)) (fun _ _ _ h => h) (Or.inr ⟨by rfl, rfl⟩) ?_ ?_; rotate_left; (· (simp only [Act.put, zA10, zB10, zC10, i64_w, i32_w]; rfl))
    refine pure_ (i := 14) (N := some 64) (v := undef) (a' := ?_) q10_55 rfl rfl (any_of HT_.out (by kernel_rfl)) (fun _ _ _ h => h) (Or.inr ⟨by rfl, rfl⟩) ?_ ?_; rotate_left; (· (simp only [Act.put, zA10, zB10, zC10, i64_w, i32_w]; rfl))
    refine pure_ (i := 15) (N := some 65) (v := undef) (a' := ?_) q10_56 rfl rfl (any_of HT_.out (by kernel_rfl)) (fun _ _ _ h => h) (Or.inr ⟨by rfl, rfl⟩) ?_ ?_; rotate_left; (· (simp only [Act.put, zA10, zB10, zC10, i64_w, i32_w]; rfl))
    refine pure_ (i := 16) (N := some 66) (v := undef) (a' := ?_) q10_57 rfl rfl (any_of HT_.out (by kernel_rfl)) (fun _ _ _ h => h) (Or.inr ⟨by rfl, rfl⟩) ?_ ?_; rotate_left; (· (simp only [Act.put, zA10, zB10, zC10, i64_w, i32_w]; rfl))
    refine pure_ (i := 17) (N := some 67) (v := undef) (a' := ?_) q10_58 rfl rfl (any_of HT_.out (by kernel_rfl)) (fun _ _ _ h => h) (Or.inr ⟨by rfl, rfl⟩) ?_ ?_; rotate_left; (· (simp only [Act.put, zA10, zB10, zC10, i64_w, i32_w]; rfl))
    refine pure_ (i := 18) (N := some 68) (v := ?_) (a' := ?_) q10_59 rfl rfl (any_of HT_.out (by kernel_rfl)) (fun _ _ _ h => h) (Or.inl ⟨by rfl, ?_⟩) ?_ ?_; rotate_left; (· (intro w'; go_simp; with_reducible rfl)); rotate_left; (· (simp only [Act.put, zA10, zB10, zC10, i64_w, i32_w]; rfl))
    refine done_ (done_of HT_.out (by kernel_rfl)) ?_
    try go_wp2
    go_roundg k1
    case measure => omega
    case rel => exact ⟨i + 1, by first | rfl | rw [next], HI1, ⟨B3.out⟩, ⟨B4.out⟩, ⟨HB.out⟩⟩
  have d0 : (i == a3_1) = false := beq_eq_false_iff_ne.mpr cx
  have d1 : (i != a3_1) = true := bne_iff_ne.mpr cx
  by_cases ci : i = a4_4
  · have f0 : (i == a4_4) = true := beq_iff_eq.mpr ci
    have f1 : (i != a4_4) = false := bne_eq_false_iff_eq.mpr ci
    clear cx ci
    go_upto_region 8 with (fail)
    refine start_ (n := 19) (S := fun w' => w'.cell? ⟨gx, 0, none⟩ = some (.int .i64 a3_0) ∧ w'.cell? ⟨gx, 1, none⟩ = some (.int .i64 a3_1) ∧ w'.cell? ⟨gx, 2, none⟩ = some (.int .i64 a3_2) ∧ w'.cell? ⟨gx, 3, none⟩ = some (.int .i64 a3_3) ∧ w'.cell? ⟨gi, 0, none⟩ = some (.int .i64 a4_0) ∧ w'.cell? ⟨gi, 1, none⟩ = some (.int .i64 a4_1) ∧ w'.cell? ⟨gi, 2, none⟩ = some (.int .i64 a4_2) ∧ w'.cell? ⟨gi, 3, none⟩ = some (.int .i64 a4_3) ∧ w'.cell? ⟨gi, 4, none⟩ = some (.int .i64 a4_4) ∧ w'.cell? ⟨gi, 5, none⟩ = some (.int .i64 a4_5)) (ds := []) q10_40 (by kernel_rfl) rfl rfl ⟨(blk_cell (blk_drew BKx2.out) 0).trans rfl, (blk_cell (blk_drew BKx2.out) 1).trans rfl, (blk_cell (blk_drew BKx2.out) 2).trans rfl, (blk_cell (blk_drew BKx2.out) 3).trans rfl, (blk_cell (blk_drew BKi2.out) 0).trans rfl, (blk_cell (blk_drew BKi2.out) 1).trans rfl, (blk_cell (blk_drew BKi2.out) 2).trans rfl, (blk_cell (blk_drew BKi2.out) 3).trans rfl, (blk_cell (blk_drew BKi2.out) 4).trans rfl, (blk_cell (blk_drew BKi2.out) 5).trans rfl⟩ (fun hHeld => ?_); refine with_tabW stp.tab8 stp.bits8 (fun HT_ HW_ => ?_)
    have n0_ := Aside0.mk (blk_drew B3.out); have n1_ := Aside0.mk (blk_drew B4.out); have n2_ := Aside0.mk (HB.out.drew); clear B3 B4 HB BKx2 BKi2; have B3 := n0_; have B4 := n1_; have HB := n2_; clear n0_ n1_ n2_; generalize wr.drew = w11 at B3 B4 HB hHeld ⊢
    refine pure_ (i := 0) (N := some 50) (v := ?_) (a' := ?_) q10_41 rfl rfl (any_of HT_.out (by kernel_rfl)) (fun _ _ _ h => h) (Or.inl ⟨by rfl, ?_⟩) ?_ ?_; rotate_left; (· (intro w'; go_simp; with_reducible rfl)); rotate_left; (· (simp only [Act.put, zA10, zB10, zC10, i64_w, i32_w]; rfl))
    refine pure_ (i := 1) (N := some 51) (v := ?_) (a' := ?_) q10_42 rfl rfl (any_of HT_.out (by kernel_rfl)) (fun _ _ _ h => h) (Or.inl ⟨by rfl, ?_⟩) ?_ ?_; rotate_left; (· (intro w'; go_simp; with_reducible rfl)); rotate_left; (· (simp only [Act.put, zA10, zB10, zC10, i64_w, i32_w]; rfl))
    refine take_ (i := 2) (N := some 52) (v := ?_) (a' := ?_) q10_43 rfl rfl (take_ofW HT_.out HW_.out (by kernel_rfl)) (fun _ _ _ h => h) (Or.inl ⟨by rfl, ?_⟩) hHeld ?_ ?_; rotate_left; (· (rintro w' ⟨s0, s1, s2, s3, s4, s5, s6, s7, s8, s9⟩; go_simp; with_reducible rfl)); rotate_left; (· (simp only [Act.put, zA10, zB10, zC10, i64_w, i32_w]; rfl))
    refine pure_ (i := 3) (N := some 53) (v := ?_) (a' := ?_) q10_44 rfl rfl (any_of HT_.out (by kernel_rfl)) (fun _ _ _ h => h) (Or.inl ⟨by rfl, ?_⟩) ?_ ?_; rotate_left; (· (intro w'; go_simp; with_reducible rfl)); rotate_left; (· (simp only [Act.put, zA10, zB10, zC10, i64_w, i32_w]; rfl))
    refine pure_ (i := 4) (N := some 54) (v := ?_) (a' := ?_) q10_45 rfl rfl (any_of HT_.out (by kernel_rfl)) (fun _ _ _ h => h) (Or.inl ⟨by rfl, ?_⟩) ?_ ?_; rotate_left; (· (intro w'; go_simp; with_reducible rfl)); rotate_left; (· (simp only [Act.put, zA10, zB10, zC10, i64_w, i32_w]; rfl))
    refine pure_ (i := 5) (N := some 55) (v := ?_) (a' := ?_) q10_46 rfl rfl (any_of HT_.out (by kernel_rfl)) (fun _ _ _ h => h) (Or.inl ⟨by rfl, ?_⟩) ?_ ?_; rotate_left; (· (intro w'; go_simp; with_reducible rfl)); rotate_left; (· (simp only [Act.put, zA10, zB10, zC10, i64_w, i32_w]; rfl))
    refine pure_ (i := 6) (N := some 56) (v := ?_) (a' := ?_) q10_47 rfl rfl (any_of HT_.out (by kernel_rfl)) (fun _ _ _ h => h) (Or.inl ⟨by rfl, ?_⟩) ?_ ?_; rotate_left; (· (intro w'; go_simp; with_reducible rfl)); rotate_left; (· (simp only [Act.put, zA10, zB10, zC10, i64_w, i32_w]; rfl))
    refine take_ (i := 7) (N := some 57) (v := ?_) (a' := ?_) q10_48 rfl rfl (take_ofW HT_.out HW_.out (by kernel_rfl)) (fun _ _ _ h => h) (Or.inl ⟨by rfl, ?_⟩) hHeld ?_ ?_; rotate_left; (· (rintro w' ⟨s0, s1, s2, s3, s4, s5, s6, s7, s8, s9⟩; go_simp; with_reducible rfl)); rotate_left; (· (simp only [Act.put, zA10, zB10, zC10, i64_w, i32_w]; rfl))
    refine pure_ (i := 8) (N := some 58) (v := ?_) (a' := ?_) q10_49 rfl rfl (any_of HT_.out (by kernel_rfl)) (fun _ _ _ h => h) (Or.inl ⟨by rfl, ?_⟩) ?_ ?_; rotate_left; (· (intro w'; go_simp; with_reducible rfl)); rotate_left; (· (simp only [Act.put, zA10, zB10, zC10, i64_w, i32_w]; rfl))
    refine pure_ (i := 9) (N := some 59) (v := ?_) (a' := ?_) q10_50 rfl rfl (any_of HT_.out (by kernel_rfl)) (fun _ _ _ h => h) (Or.inl ⟨by rfl, ?_⟩) ?_ ?_; rotate_left; (· (intro w'; go_simp; with_reducible rfl)); rotate_left; (· (simp only [Act.put, zA10, zB10, zC10, i64_w, i32_w]; rfl))
    refine pure_ (i := 10) (N := some 60) (v := ?_) (a' := ?_) q10_51 rfl rfl (any_of HT_.out (by kernel_rfl)) (fun _ _ _ h => h) (Or.inl ⟨by rfl, ?_⟩) ?_ ?_; rotate_left; (· (intro w'; go_simp; with_reducible rfl)); rotate_left; (· (simp only [Act.put, zA10, zB10, zC10, i64_w, i32_w]; rfl))
    refine pure_ (i := 11) (N := some 61) (v := undef) (a' := ?_) q10_52 rfl rfl (any_of HT_.out (by kernel_rfl)) (fun _ _ _ h => h) (Or.inr ⟨by rfl, rfl⟩) ?_ ?_; rotate_left; (· (simp only [Act.put, zA10, zB10, zC10, i64_w, i32_w]; rfl))
    refine pure_ (i := 12) (N := some 62) (v := undef) (a' := ?_) q10_53 rfl rfl (any_of HT_.out (by kernel_rfl)) (fun _ _ _ h => h) (Or.inr ⟨by rfl, rfl⟩) ?_ ?_; rotate_left; (· (simp only [Act.put, zA10, zB10, zC10, i64_w, i32_w]; rfl))
    refine pure_ (i := 13) (N := some 63) (v := undef) (a' := ?_) q10_54 rfl rfl (any_of HT_.out (by kernel_rfl)) (fun _ _ _ h => h) (Or.inr ⟨by rfl, rfl⟩) ?_ ?_; rotate_left; (· (simp only [Act.put, zA10, zB10, zC10, i64_w, i32_w]; rfl))
    refine pure_ (i := 14) (N := some 64) (v := undef) (a' := ?_) q10_55 rfl rfl (any_of HT_.out (by kernel_rfl)) (fun _ _ _ h => h) (Or.inr ⟨by rfl, rfl⟩) ?_ ?_; rotate_left; (· (simp only [Act.put, zA10, zB10, zC10, i64_w, i32_w]; rfl))
    refine pure_ (i := 15) (N := some 65) (v := undef) (a' := ?_) q10_56 rfl rfl (any_of HT_.out (by kernel_rfl)) (fun _ _ _ h => h) (Or.inr ⟨by rfl, rfl⟩) ?_ ?_; rotate_left; (· (simp only [Act.put, zA10, zB10, zC10, i64_w, i32_w]; rfl))
    refine pure_ (i := 16) (N := some 66) (v := undef) (a' := ?_) q10_57 rfl rfl (any_of HT_.out (by kernel_rfl)) (fun _ _ _ h => h) (Or.inr ⟨by rfl, rfl⟩) ?_ ?_; rotate_left; (· (simp only [Act.put, zA10, zB10, zC10, i64_w, i32_w]; rfl))
    refine pure_ (i := 17) (N := some 67) (v := undef) (a' := ?_) q10_58 rfl rfl (any_of HT_.out (by kernel_rfl)) (fun _ _ _ h => h) (Or.inr ⟨by rfl, rfl⟩) ?_ ?_; rotate_left; (· (simp only [Act.put, zA10, zB10, zC10, i64_w, i32_w]; rfl))
    refine pure_ (i := 18) (N := some 68) (v := ?_) (a' := ?_) q10_59 rfl rfl (any_of HT_.out (by kernel_rfl)) (fun _ _ _ h => h) (Or.inl ⟨by rfl, ?_⟩) ?_ ?_; rotate_left; (· (intro w'; go_simp; with_reducible rfl)); rotate_left; (· (simp only [Act.put, zA10, zB10, zC10, i64_w, i32_w]; rfl))
    refine done_ (done_of HT_.out (by kernel_rfl)) ?_
    try go_wp2
    go_roundg k1
    case measure => omega
    case rel => exact ⟨i + 1, by first | rfl | rw [next], HI1, ⟨B3.out⟩, ⟨B4.out⟩, ⟨HB.out⟩⟩
  · have f0 : (i == a4_4) = false := beq_eq_false_iff_ne.mpr ci
    have f1 : (i != a4_4) = true := bne_iff_ne.mpr ci
    have E0 : Aside0 (U (i.toNat * 6) = V (i.toNat * 6)) := ⟨by rw [hU.out, hV.out, Ya.out, Yb.out]; exact rows_parts l0_0 l0_1 a0_3 a0_6 l1 l2 (⟨a4_0, a4_1, a4_2, a4_3, a4_4, a4_5⟩ : S28) (⟨a3_0, a3_1, a3_2, a3_3⟩ : S63) i.toNat (by omega) (by show ((i.toNat : Nat) : Int) ≠ a3_1; omega) (by show ((i.toNat : Nat) : Int) ≠ a4_4; omega) 0 (by omega)⟩
    have E1 : Aside0 (U (i.toNat * 6 + 1) = V (i.toNat * 6 + 1)) := ⟨by rw [hU.out, hV.out, Ya.out, Yb.out]; exact rows_parts l0_0 l0_1 a0_3 a0_6 l1 l2 (⟨a4_0, a4_1, a4_2, a4_3, a4_4, a4_5⟩ : S28) (⟨a3_0, a3_1, a3_2, a3_3⟩ : S63) i.toNat (by omega) (by show ((i.toNat : Nat) : Int) ≠ a3_1; omega) (by show ((i.toNat : Nat) : Int) ≠ a4_4; omega) 1 (by omega)⟩
    have E2 : Aside0 (U (i.toNat * 6 + 2) = V (i.toNat * 6 + 2)) := ⟨by rw [hU.out, hV.out, Ya.out, Yb.out]; exact rows_parts l0_0 l0_1 a0_3 a0_6 l1 l2 (⟨a4_0, a4_1, a4_2, a4_3, a4_4, a4_5⟩ : S28) (⟨a3_0, a3_1, a3_2, a3_3⟩ : S63) i.toNat (by omega) (by show ((i.toNat : Nat) : Int) ≠ a3_1; omega) (by show ((i.toNat : Nat) : Int) ≠ a4_4; omega) 2 (by omega)⟩
    have E3 : Aside0 (U (i.toNat * 6 + 3) = V (i.toNat * 6 + 3)) := ⟨by rw [hU.out, hV.out, Ya.out, Yb.out]; exact rows_parts l0_0 l0_1 a0_3 a0_6 l1 l2 (⟨a4_0, a4_1, a4_2, a4_3, a4_4, a4_5⟩ : S28) (⟨a3_0, a3_1, a3_2, a3_3⟩ : S63) i.toNat (by omega) (by show ((i.toNat : Nat) : Int) ≠ a3_1; omega) (by show ((i.toNat : Nat) : Int) ≠ a4_4; omega) 3 (by omega)⟩
    have E4 : Aside0 (U (i.toNat * 6 + 4) = V (i.toNat * 6 + 4)) := ⟨by rw [hU.out, hV.out, Ya.out, Yb.out]; exact rows_parts l0_0 l0_1 a0_3 a0_6 l1 l2 (⟨a4_0, a4_1, a4_2, a4_3, a4_4, a4_5⟩ : S28) (⟨a3_0, a3_1, a3_2, a3_3⟩ : S63) i.toNat (by omega) (by show ((i.toNat : Nat) : Int) ≠ a3_1; omega) (by show ((i.toNat : Nat) : Int) ≠ a4_4; omega) 4 (by omega)⟩
    have E5 : Aside0 (U (i.toNat * 6 + 5) = V (i.toNat * 6 + 5)) := ⟨by rw [hU.out, hV.out, Ya.out, Yb.out]; exact rows_parts l0_0 l0_1 a0_3 a0_6 l1 l2 (⟨a4_0, a4_1, a4_2, a4_3, a4_4, a4_5⟩ : S28) (⟨a3_0, a3_1, a3_2, a3_3⟩ : S63) i.toNat (by omega) (by show ((i.toNat : Nat) : Int) ≠ a3_1; omega) (by show ((i.toNat : Nat) : Int) ≠ a4_4; omega) 5 (by omega)⟩
    clear cx ci
    go_upto_region 8 with (fail)
    refine start_ (n := 19) (S := fun w' => w'.cell? ⟨gx, 0, none⟩ = some (.int .i64 a3_0) ∧ w'.cell? ⟨gx, 1, none⟩ = some (.int .i64 a3_1) ∧ w'.cell? ⟨gx, 2, none⟩ = some (.int .i64 a3_2) ∧ w'.cell? ⟨gx, 3, none⟩ = some (.int .i64 a3_3) ∧ w'.cell? ⟨gi, 0, none⟩ = some (.int .i64 a4_0) ∧ w'.cell? ⟨gi, 1, none⟩ = some (.int .i64 a4_1) ∧ w'.cell? ⟨gi, 2, none⟩ = some (.int .i64 a4_2) ∧ w'.cell? ⟨gi, 3, none⟩ = some (.int .i64 a4_3) ∧ w'.cell? ⟨gi, 4, none⟩ = some (.int .i64 a4_4) ∧ w'.cell? ⟨gi, 5, none⟩ = some (.int .i64 a4_5) ∧ w'.cell? ⟨g3, i.toNat * 6, none⟩ = some (.int .i64 (V (i.toNat * 6))) ∧ w'.cell? ⟨g3, i.toNat * 6 + 1, none⟩ = some (.int .i64 (V (i.toNat * 6 + 1))) ∧ w'.cell? ⟨g3, i.toNat * 6 + 2, none⟩ = some (.int .i64 (V (i.toNat * 6 + 2))) ∧ w'.cell? ⟨g3, i.toNat * 6 + 3, none⟩ = some (.int .i64 (V (i.toNat * 6 + 3))) ∧ w'.cell? ⟨g3, i.toNat * 6 + 4, none⟩ = some (.int .i64 (V (i.toNat * 6 + 4))) ∧ w'.cell? ⟨g3, i.toNat * 6 + 5, none⟩ = some (.int .i64 (V (i.toNat * 6 + 5))) ∧ w'.cell? ⟨g4, i.toNat * 6, none⟩ = some (.int .i64 (V (i.toNat * 6))) ∧ w'.cell? ⟨g4, i.toNat * 6 + 1, none⟩ = some (.int .i64 (V (i.toNat * 6 + 1))) ∧ w'.cell? ⟨g4, i.toNat * 6 + 2, none⟩ = some (.int .i64 (V (i.toNat * 6 + 2))) ∧ w'.cell? ⟨g4, i.toNat * 6 + 3, none⟩ = some (.int .i64 (V (i.toNat * 6 + 3))) ∧ w'.cell? ⟨g4, i.toNat * 6 + 4, none⟩ = some (.int .i64 (V (i.toNat * 6 + 4))) ∧ w'.cell? ⟨g4, i.toNat * 6 + 5, none⟩ = some (.int .i64 (V (i.toNat * 6 + 5)))) (ds := []) q10_40 (by kernel_rfl) rfl rfl ⟨(blk_cell (blk_drew BKx2.out) 0).trans rfl, (blk_cell (blk_drew BKx2.out) 1).trans rfl, (blk_cell (blk_drew BKx2.out) 2).trans rfl, (blk_cell (blk_drew BKx2.out) 3).trans rfl, (blk_cell (blk_drew BKi2.out) 0).trans rfl, (blk_cell (blk_drew BKi2.out) 1).trans rfl, (blk_cell (blk_drew BKi2.out) 2).trans rfl, (blk_cell (blk_drew BKi2.out) 3).trans rfl, (blk_cell (blk_drew BKi2.out) 4).trans rfl, (blk_cell (blk_drew BKi2.out) 5).trans rfl, arrN_cell (blk_drew B3.out) _ (by omega), arrN_cell (blk_drew B3.out) _ (by omega), arrN_cell (blk_drew B3.out) _ (by omega), arrN_cell (blk_drew B3.out) _ (by omega), arrN_cell (blk_drew B3.out) _ (by omega), arrN_cell (blk_drew B3.out) _ (by omega), (arrN_cell (blk_drew B4.out) _ (by omega)).trans (congrArg (fun z => some (Value.int .i64 z)) E0.out), (arrN_cell (blk_drew B4.out) _ (by omega)).trans (congrArg (fun z => some (Value.int .i64 z)) E1.out), (arrN_cell (blk_drew B4.out) _ (by omega)).trans (congrArg (fun z => some (Value.int .i64 z)) E2.out), (arrN_cell (blk_drew B4.out) _ (by omega)).trans (congrArg (fun z => some (Value.int .i64 z)) E3.out), (arrN_cell (blk_drew B4.out) _ (by omega)).trans (congrArg (fun z => some (Value.int .i64 z)) E4.out), (arrN_cell (blk_drew B4.out) _ (by omega)).trans (congrArg (fun z => some (Value.int .i64 z)) E5.out)⟩ (fun hHeld => ?_); refine with_tabW stp.tab8 stp.bits8 (fun HT_ HW_ => ?_)
    have n0_ := Aside0.mk (blk_drew B3.out); have n1_ := Aside0.mk (blk_drew B4.out); have n2_ := Aside0.mk (HB.out.drew); clear B3 B4 HB BKx2 BKi2; have B3 := n0_; have B4 := n1_; have HB := n2_; clear n0_ n1_ n2_; generalize wr.drew = w11 at B3 B4 HB hHeld ⊢
    refine pure_ (i := 0) (N := some 50) (v := ?_) (a' := ?_) q10_41 rfl rfl (any_of HT_.out (by kernel_rfl)) (fun _ _ _ h => h) (Or.inl ⟨by rfl, ?_⟩) ?_ ?_; rotate_left; (· (intro w'; go_simp; with_reducible rfl)); rotate_left; (· (simp only [Act.put, zA10, zB10, zC10, i64_w, i32_w]; rfl))
    refine pure_ (i := 1) (N := some 51) (v := ?_) (a' := ?_) q10_42 rfl rfl (any_of HT_.out (by kernel_rfl)) (fun _ _ _ h => h) (Or.inl ⟨by rfl, ?_⟩) ?_ ?_; rotate_left; (· (intro w'; go_simp; with_reducible rfl)); rotate_left; (· (simp only [Act.put, zA10, zB10, zC10, i64_w, i32_w]; rfl))
    refine take_ (i := 2) (N := some 52) (v := ?_) (a' := ?_) q10_43 rfl rfl (take_ofW HT_.out HW_.out (by kernel_rfl)) (fun _ _ _ h => h) (Or.inl ⟨by rfl, ?_⟩) hHeld ?_ ?_; rotate_left; (· (rintro w' ⟨s0, s1, s2, s3, s4, s5, s6, s7, s8, s9, s10, s11, s12, s13, s14, s15, s16, s17, s18, s19, s20, s21⟩; go_simp; with_reducible rfl)); rotate_left; (· (simp only [Act.put, zA10, zB10, zC10, i64_w, i32_w]; rfl))
    refine pure_ (i := 3) (N := some 53) (v := ?_) (a' := ?_) q10_44 rfl rfl (any_of HT_.out (by kernel_rfl)) (fun _ _ _ h => h) (Or.inl ⟨by rfl, ?_⟩) ?_ ?_; rotate_left; (· (intro w'; go_simp; with_reducible rfl)); rotate_left; (· (simp only [Act.put, zA10, zB10, zC10, i64_w, i32_w]; rfl))
    refine pure_ (i := 4) (N := some 54) (v := ?_) (a' := ?_) q10_45 rfl rfl (any_of HT_.out (by kernel_rfl)) (fun _ _ _ h => h) (Or.inl ⟨by rfl, ?_⟩) ?_ ?_; rotate_left; (· (intro w'; go_simp; with_reducible rfl)); rotate_left; (· (simp only [Act.put, zA10, zB10, zC10, i64_w, i32_w]; rfl))
    refine pure_ (i := 5) (N := some 55) (v := ?_) (a' := ?_) q10_46 rfl rfl (any_of HT_.out (by kernel_rfl)) (fun _ _ _ h => h) (Or.inl ⟨by rfl, ?_⟩) ?_ ?_; rotate_left; (· (intro w'; go_simp; with_reducible rfl)); rotate_left; (· (simp only [Act.put, zA10, zB10, zC10, i64_w, i32_w]; rfl))
    refine pure_ (i := 6) (N := some 56) (v := ?_) (a' := ?_) q10_47 rfl rfl (any_of HT_.out (by kernel_rfl)) (fun _ _ _ h => h) (Or.inl ⟨by rfl, ?_⟩) ?_ ?_; rotate_left; (· (intro w'; go_simp; with_reducible rfl)); rotate_left; (· (simp only [Act.put, zA10, zB10, zC10, i64_w, i32_w]; rfl))
    refine take_ (i := 7) (N := some 57) (v := ?_) (a' := ?_) q10_48 rfl rfl (take_ofW HT_.out HW_.out (by kernel_rfl)) (fun _ _ _ h => h) (Or.inl ⟨by rfl, ?_⟩) hHeld ?_ ?_; rotate_left; (· (rintro w' ⟨s0, s1, s2, s3, s4, s5, s6, s7, s8, s9, s10, s11, s12, s13, s14, s15, s16, s17, s18, s19, s20, s21⟩; go_simp; with_reducible rfl)); rotate_left; (· (simp only [Act.put, zA10, zB10, zC10, i64_w, i32_w]; rfl))
    refine pure_ (i := 8) (N := some 58) (v := ?_) (a' := ?_) q10_49 rfl rfl (any_of HT_.out (by kernel_rfl)) (fun _ _ _ h => h) (Or.inl ⟨by rfl, ?_⟩) ?_ ?_; rotate_left; (· (intro w'; go_simp; with_reducible rfl)); rotate_left; (· (simp only [Act.put, zA10, zB10, zC10, i64_w, i32_w]; rfl))
    refine pure_ (i := 9) (N := some 59) (v := ?_) (a' := ?_) q10_50 rfl rfl (any_of HT_.out (by kernel_rfl)) (fun _ _ _ h => h) (Or.inl ⟨by rfl, ?_⟩) ?_ ?_; rotate_left; (· (intro w'; go_simp; with_reducible rfl)); rotate_left; (· (simp only [Act.put, zA10, zB10, zC10, i64_w, i32_w]; rfl))
    refine pure_ (i := 10) (N := some 60) (v := ?_) (a' := ?_) q10_51 rfl rfl (any_of HT_.out (by kernel_rfl)) (fun _ _ _ h => h) (Or.inl ⟨by rfl, ?_⟩) ?_ ?_; rotate_left; (· (intro w'; go_simp; with_reducible rfl)); rotate_left; (· (simp only [Act.put, zA10, zB10, zC10, i64_w, i32_w]; rfl))
    refine pure_ (i := 11) (N := some 61) (v := ?_) (a' := ?_) q10_52 rfl rfl (any_of HT_.out (by kernel_rfl)) (fun _ _ _ h => h) (Or.inl ⟨by rfl, ?_⟩) ?_ ?_; rotate_left; (· (intro w'; go_simp; with_reducible rfl)); rotate_left; (· (simp only [Act.put, zA10, zB10, zC10, i64_w, i32_w]; rfl))
    refine pure_ (i := 12) (N := some 62) (v := ?_) (a' := ?_) q10_53 rfl rfl (any_of HT_.out (by kernel_rfl)) (fun _ _ _ h => h) (Or.inl ⟨by rfl, ?_⟩) ?_ ?_; rotate_left; (· (intro w'; go_simp; with_reducible rfl)); rotate_left; (· (simp only [Act.put, zA10, zB10, zC10, i64_w, i32_w]; rfl))
    refine pure_ (i := 14) (N := some 64) (v := ?_) (a' := ?_) #[true, true, true, true, true, true, true, true, true, true, true, true, true, false, true, false, false, false, false] rfl rfl (any_of HT_.out (by kernel_rfl)) (fun _ _ _ h => h) (Or.inl ⟨by rfl, ?_⟩) ?_ ?_; rotate_left; (· (intro w'; go_simp; with_reducible rfl)); rotate_left; (· (simp only [Act.put, zA10, zB10, zC10, i64_w, i32_w]; rfl))
    refine pure_ (i := 15) (N := some 65) (v := ?_) (a' := ?_) #[true, true, true, true, true, true, true, true, true, true, true, true, true, false, true, true, false, false, false] rfl rfl (any_of HT_.out (by kernel_rfl)) (fun _ _ _ h => h) (Or.inl ⟨by rfl, ?_⟩) ?_ ?_; rotate_left; (· (intro w'; go_simp; with_reducible rfl)); rotate_left; (· (simp only [Act.put, zA10, zB10, zC10, i64_w, i32_w]; rfl))
    refine take_ (i := 13) (N := some 63) (v := ?_) (a' := ?_) q10_56 rfl rfl (take_ofW HT_.out HW_.out (by kernel_rfl)) (fun _ _ _ h => h) (Or.inl ⟨by rfl, ?_⟩) hHeld ?_ ?_; rotate_left; (· (rintro w' ⟨s0, s1, s2, s3, s4, s5, s6, s7, s8, s9, s10, s11, s12, s13, s14, s15, s16, s17, s18, s19, s20, s21⟩; go_simp; with_reducible rfl)); rotate_left; (· (simp only [Act.put, zA10, zB10, zC10, i64_w, i32_w]; rfl))
    refine take_ (i := 16) (N := some 66) (v := ?_) (a' := ?_) q10_57 rfl rfl (take_ofW HT_.out HW_.out (by kernel_rfl)) (fun _ _ _ h => h) (Or.inl ⟨by rfl, ?_⟩) hHeld ?_ ?_; rotate_left; (· (rintro w' ⟨s0, s1, s2, s3, s4, s5, s6, s7, s8, s9, s10, s11, s12, s13, s14, s15, s16, s17, s18, s19, s20, s21⟩; go_simp; with_reducible rfl)); rotate_left; (· (simp only [Act.put, zA10, zB10, zC10, i64_w, i32_w]; rfl))
    refine pure_ (i := 17) (N := some 67) (v := ?_) (a' := ?_) q10_58 rfl rfl (any_of HT_.out (by kernel_rfl)) (fun _ _ _ h => h) (Or.inl ⟨by rfl, ?_⟩) ?_ ?_; rotate_left; (· (intro w'; go_simp; with_reducible rfl)); rotate_left; (· (simp only [Act.put, zA10, zB10, zC10, i64_w, i32_w]; rfl))
    refine pure_ (i := 18) (N := some 68) (v := ?_) (a' := ?_) q10_59 rfl rfl (any_of HT_.out (by kernel_rfl)) (fun _ _ _ h => h) (Or.inl ⟨by rfl, ?_⟩) ?_ ?_; rotate_left; (· (intro w'; go_simp; with_reducible rfl)); rotate_left; (· (simp only [Act.put, zA10, zB10, zC10, i64_w, i32_w]; rfl))
    refine done_ (done_of HT_.out (by kernel_rfl)) ?_
    try go_wp2
    go_roundg k1
    case measure => omega
    case rel => exact ⟨i + 1, by first | rfl | rw [next], HI1, ⟨B3.out⟩, ⟨B4.out⟩, ⟨HB.out⟩⟩
end Go.Proofs.Ytfimgecceneagaa.PAll
