-- Written by the kit's print.py, then turned by this session's program squeeze.py (bullets taken off, branches made lemmas of their own, lines joined).
import Derived.Test.YtfimgecceneagaaPAllx0
import Derived.Test.YtfimgecceneagaaPAllf11
import Derived.Test.YtfimgecceneagaaPAllf12
import Derived.Test.YtfimgecceneagaaPAllf13
import Derived.Test.YtfimgecceneagaaPAllf15
import Derived.Test.YtfimgecceneagaaPAllf16
import Derived.Test.YtfimgecceneagaaPAllf17
import Derived.Test.YtfimgecceneagaaPAllf18
import Derived.Test.YtfimgecceneagaaPAllf19
import Derived.Test.YtfimgecceneagaaArr
import Derived.Test.YtfimgecceneagaaEq4
namespace Go.Proofs.Ytfimgecceneagaa.PAll
open Go.RowKit Go.Proofs.YtfimgecceneagaaW.PrintWords Go.Proofs.YtfimgecceneagaaW.PrintLast Go.Proofs.Ytfimgecceneagaa.Arr
set_option linter.unusedVariables false
set_option linter.unusedSimpArgs false

/-! ### dormouselaw05_MeterAdds: function 4 -/
mutual
def dormouselaw05_MeterAdds.j0 : Nat → List (S28) → Bool → List (S66) → List (S69) → List (S72) → Int → Int → Int → Int → Int → Int → Option (Bool)
  | 0, _, _, _, _, _, _, _, _, _, _, _ => none
  | k + 1, x1, x16, x173000, x173001, x173002, x173003, x173004, x173005, x173006, x173007, x173008 => if x16 = true then ((dormouselaw05_answers.f).bind fun t174 => (some t174)) else (dormouselaw05_MeterAdds.l0 k x1 0 x173000 x173001 x173002 x173003 x173004 x173005 x173006 x173007 x173008 0 0 0 0 0 0 0 0)
def dormouselaw05_MeterAdds.l0 : Nat → List (S28) → Int → List (S66) → List (S69) → List (S72) → Int → Int → Int → Int → Int → Int → Int → Int → Int → Int → Int → Int → Int → Int → Option (Bool)
  | 0, _, _, _, _, _, _, _, _, _, _, _, _, _, _, _, _, _, _, _ => none
  | k + 1, x1, x7, x173000, x173001, x173002, x173003, x173004, x173005, x173006, x173007, x173008, x176000, x176001, x176002, x176003, x177000, x177001, x177002, x177003 => if x7 < (x1.length : Int) then (if 0 ≤ x7 then ((dormouselaw05_small.f ((rd_T28 x1 x7).f0) ((rd_T28 x1 x7).f1) ((rd_T28 x1 x7).f2) ((rd_T28 x1 x7).f3) ((rd_T28 x1 x7).f4) ((rd_T28 x1 x7).f5)).bind fun t184 => (if t184 = true then ((meter_Meter_Add.f x176000 x176001 x176002 x176003 x173000 x173001 x173002 x173003 x173004 x173005 x173006 x173007 x173008 ((rd_T28 x1 x7).f0) ((rd_T28 x1 x7).f1) ((rd_T28 x1 x7).f2) ((rd_T28 x1 x7).f3) ((rd_T28 x1 x7).f4) ((rd_T28 x1 x7).f5)).bind fun bt187 => (if ((rd_T28 x1 x7).f0) ≥ 1 then (dormouselaw05_MeterAdds.j2 k x1 x7 ((rd_T28 x1 x7).f0) (decide (((rd_T28 x1 x7).f0) ≤ 6)) x173000 x173001 x173002 x173003 x173004 x173005 x173006 x173007 x173008 bt187.1 bt187.2.1 bt187.2.2.1 bt187.2.2.2 x177000 x177001 x177002 x177003) else (dormouselaw05_MeterAdds.j2 k x1 x7 ((rd_T28 x1 x7).f0) false x173000 x173001 x173002 x173003 x173004 x173005 x173006 x173007 x173008 bt187.1 bt187.2.1 bt187.2.2.1 bt187.2.2.2 x177000 x177001 x177002 x177003))) else ((dormouselaw05_answers.f).bind fun t185 => (some t185)))) else (none)) else ((dormouselaw05_answers.f).bind fun t177 => (if t177 = true then ((dormouselaw05_four.f x176000 x176001 x176002 x176003).bind fun bt178 => (if (bt178.1 == x177000 && (bt178.2.1 == x177001 && (bt178.2.2.1 == x177002 && (bt178.2.2.2 == x177003)))) = true then ((meter_Meter_Total.f x176000 x176001 x176002 x176003).bind fun t182 => (some (t182 == (wrap64 ((wrap64 ((wrap64 (x177000 + x177001)) + x177002)) + x177003))))) else (some false))) else (some false)))
def dormouselaw05_MeterAdds.j2 : Nat → List (S28) → Int → Int → Bool → List (S66) → List (S69) → List (S72) → Int → Int → Int → Int → Int → Int → Int → Int → Int → Int → Int → Int → Int → Int → Option (Bool)
  | 0, _, _, _, _, _, _, _, _, _, _, _, _, _, _, _, _, _, _, _, _, _ => none
  | k + 1, x1, x7, x8, x48, x173000, x173001, x173002, x173003, x173004, x173005, x173006, x173007, x173008, x176000, x176001, x176002, x176003, x177000, x177001, x177002, x177003 => if x48 = true then ((dormouseref01_Min.f (wrap64 (x8 - 1)) 3).bind fun t192 => ((dormouseref01_Min.f (wrap64 (x8 - 1)) 3).bind fun t193 => (if 0 ≤ x7 then (if x7 < (x1.length : Int) then ((dormouseref01_Energy.f k x173000 x173001 x173002 x173003 x173004 x173005 x173006 x173007 x173008 ((rd_T28 x1 x7).f0) ((rd_T28 x1 x7).f1) ((rd_T28 x1 x7).f2) ((rd_T28 x1 x7).f3) ((rd_T28 x1 x7).f4) ((rd_T28 x1 x7).f5)).bind fun t195 => (if (0 ≤ t192 ∧ t192 < 4) ∧ (0 ≤ t193 ∧ t193 < 4) then (dormouselaw05_MeterAdds.l0 k x1 (wrap64 (x7 + 1)) x173000 x173001 x173002 x173003 x173004 x173005 x173006 x173007 x173008 x176000 x176001 x176002 x176003 (up 0 t192 x177000 (wrap64 ((rd4 x177000 x177001 x177002 x177003 t193) + t195))) (up 1 t192 x177001 (wrap64 ((rd4 x177000 x177001 x177002 x177003 t193) + t195))) (up 2 t192 x177002 (wrap64 ((rd4 x177000 x177001 x177002 x177003 t193) + t195))) (up 3 t192 x177003 (wrap64 ((rd4 x177000 x177001 x177002 x177003 t193) + t195)))) else (none))) else (none)) else (none)))) else (dormouselaw05_MeterAdds.l0 k x1 (wrap64 (x7 + 1)) x173000 x173001 x173002 x173003 x173004 x173005 x173006 x173007 x173008 x176000 x176001 x176002 x176003 x177000 x177001 x177002 x177003)
end
def dormouselaw05_MeterAdds.f (k : Nat) (l0_0 : List (S66)) (l0_1 : List (S69)) (l0_2 : List (S72)) (a0_3 : Int) (a0_4 : Int) (a0_5 : Int) (a0_6 : Int) (a0_7 : Int) (a0_8 : Int) (l1 : List (S28)) : Option (Bool) := (dormouseref01_Table.f k l0_0 l0_1 l0_2 a0_3 a0_4 a0_5 a0_6 a0_7 a0_8).bind fun t173 => (if t173 = true then (dormouselaw05_MeterAdds.j0 k l1 (decide ((l1.length : Int) > 4096)) l0_0 l0_1 l0_2 a0_3 a0_4 a0_5 a0_6 a0_7 a0_8) else (dormouselaw05_MeterAdds.j0 k l1 true l0_0 l0_1 l0_2 a0_3 a0_4 a0_5 a0_6 a0_7 a0_8))
theorem dormouselaw05_MeterAdds.mono_l : ∀ k, (∀ y0 y1 y2 y3 y4 y5 y6 y7 y8 y9 y10, LeO (dormouselaw05_MeterAdds.j0 k y0 y1 y2 y3 y4 y5 y6 y7 y8 y9 y10) (dormouselaw05_MeterAdds.j0 (k + 1) y0 y1 y2 y3 y4 y5 y6 y7 y8 y9 y10)) ∧ (∀ y0 y1 y2 y3 y4 y5 y6 y7 y8 y9 y10 y11 y12 y13 y14 y15 y16 y17 y18, LeO (dormouselaw05_MeterAdds.l0 k y0 y1 y2 y3 y4 y5 y6 y7 y8 y9 y10 y11 y12 y13 y14 y15 y16 y17 y18) (dormouselaw05_MeterAdds.l0 (k + 1) y0 y1 y2 y3 y4 y5 y6 y7 y8 y9 y10 y11 y12 y13 y14 y15 y16 y17 y18)) ∧ (∀ y0 y1 y2 y3 y4 y5 y6 y7 y8 y9 y10 y11 y12 y13 y14 y15 y16 y17 y18 y19 y20, LeO (dormouselaw05_MeterAdds.j2 k y0 y1 y2 y3 y4 y5 y6 y7 y8 y9 y10 y11 y12 y13 y14 y15 y16 y17 y18 y19 y20) (dormouselaw05_MeterAdds.j2 (k + 1) y0 y1 y2 y3 y4 y5 y6 y7 y8 y9 y10 y11 y12 y13 y14 y15 y16 y17 y18 y19 y20))
  | 0 => ⟨fun _ _ _ _ _ _ _ _ _ _ _ r h => by simp [dormouselaw05_MeterAdds.j0] at h, fun _ _ _ _ _ _ _ _ _ _ _ _ _ _ _ _ _ _ _ r h => by simp [dormouselaw05_MeterAdds.l0] at h, fun _ _ _ _ _ _ _ _ _ _ _ _ _ _ _ _ _ _ _ _ _ r h => by simp [dormouselaw05_MeterAdds.j2] at h⟩
  | k + 1 => by
    obtain ⟨ih0, ih1, ih2⟩ := dormouselaw05_MeterAdds.mono_l k
    refine ⟨?_, ?_, ?_⟩
    · intro y0 y1 y2 y3 y4 y5 y6 y7 y8 y9 y10
      unfold dormouselaw05_MeterAdds.j0
      repeat' first
      | (with_reducible exact ih0 _ _ _ _ _ _ _ _ _ _ _)
      | (with_reducible exact ih1 _ _ _ _ _ _ _ _ _ _ _ _ _ _ _ _ _ _ _)
      | (with_reducible exact ih2 _ _ _ _ _ _ _ _ _ _ _ _ _ _ _ _ _ _ _ _ _)
      | (with_reducible exact dormouseref01_Energy.mono _ _ _ _ _ _ _ _ _ _ _ _ _ _ _ _)
      | (with_reducible exact dormouseref01_Table.mono _ _ _ _ _ _ _ _ _ _)
      | (with_reducible exact LeO.refl _)
      | (with_reducible exact LeO.none _)
      | (with_reducible refine LeO.ite ?_ ?_)
      | (with_reducible refine LeO.bind ?_ (fun _ => ?_))
      | exact ih0 _ _ _ _ _ _ _ _ _ _ _
      | exact ih1 _ _ _ _ _ _ _ _ _ _ _ _ _ _ _ _ _ _ _
      | exact ih2 _ _ _ _ _ _ _ _ _ _ _ _ _ _ _ _ _ _ _ _ _
      | exact dormouseref01_Energy.mono _ _ _ _ _ _ _ _ _ _ _ _ _ _ _ _
      | exact dormouseref01_Table.mono _ _ _ _ _ _ _ _ _ _
      | exact LeO.none _
      | refine LeO.ite ?_ ?_
      | refine LeO.bind ?_ (fun _ => ?_)
    · intro y0 y1 y2 y3 y4 y5 y6 y7 y8 y9 y10 y11 y12 y13 y14 y15 y16 y17 y18
      unfold dormouselaw05_MeterAdds.l0
      repeat' first
      | (with_reducible exact ih0 _ _ _ _ _ _ _ _ _ _ _)
      | (with_reducible exact ih1 _ _ _ _ _ _ _ _ _ _ _ _ _ _ _ _ _ _ _)
      | (with_reducible exact ih2 _ _ _ _ _ _ _ _ _ _ _ _ _ _ _ _ _ _ _ _ _)
      | (with_reducible exact dormouseref01_Energy.mono _ _ _ _ _ _ _ _ _ _ _ _ _ _ _ _)
      | (with_reducible exact dormouseref01_Table.mono _ _ _ _ _ _ _ _ _ _)
      | (with_reducible exact LeO.refl _)
      | (with_reducible exact LeO.none _)
      | (with_reducible refine LeO.ite ?_ ?_)
      | (with_reducible refine LeO.bind ?_ (fun _ => ?_))
      | exact ih0 _ _ _ _ _ _ _ _ _ _ _
      | exact ih1 _ _ _ _ _ _ _ _ _ _ _ _ _ _ _ _ _ _ _
      | exact ih2 _ _ _ _ _ _ _ _ _ _ _ _ _ _ _ _ _ _ _ _ _
      | exact dormouseref01_Energy.mono _ _ _ _ _ _ _ _ _ _ _ _ _ _ _ _
      | exact dormouseref01_Table.mono _ _ _ _ _ _ _ _ _ _
      | exact LeO.none _
      | refine LeO.ite ?_ ?_
      | refine LeO.bind ?_ (fun _ => ?_)
    · intro y0 y1 y2 y3 y4 y5 y6 y7 y8 y9 y10 y11 y12 y13 y14 y15 y16 y17 y18 y19 y20
      unfold dormouselaw05_MeterAdds.j2
      repeat' first
      | (with_reducible exact ih0 _ _ _ _ _ _ _ _ _ _ _)
      | (with_reducible exact ih1 _ _ _ _ _ _ _ _ _ _ _ _ _ _ _ _ _ _ _)
      | (with_reducible exact ih2 _ _ _ _ _ _ _ _ _ _ _ _ _ _ _ _ _ _ _ _ _)
      | (with_reducible exact dormouseref01_Energy.mono _ _ _ _ _ _ _ _ _ _ _ _ _ _ _ _)
      | (with_reducible exact dormouseref01_Table.mono _ _ _ _ _ _ _ _ _ _)
      | (with_reducible exact LeO.refl _)
      | (with_reducible exact LeO.none _)
      | (with_reducible refine LeO.ite ?_ ?_)
      | (with_reducible refine LeO.bind ?_ (fun _ => ?_))
      | exact ih0 _ _ _ _ _ _ _ _ _ _ _
      | exact ih1 _ _ _ _ _ _ _ _ _ _ _ _ _ _ _ _ _ _ _
      | exact ih2 _ _ _ _ _ _ _ _ _ _ _ _ _ _ _ _ _ _ _ _ _
      | exact dormouseref01_Energy.mono _ _ _ _ _ _ _ _ _ _ _ _ _ _ _ _
      | exact dormouseref01_Table.mono _ _ _ _ _ _ _ _ _ _
      | exact LeO.none _
      | refine LeO.ite ?_ ?_
      | refine LeO.bind ?_ (fun _ => ?_)
theorem dormouselaw05_MeterAdds.mono : ∀ a0 a1 a2 a3 a4 a5 a6 a7 a8 a9 k, LeO (dormouselaw05_MeterAdds.f k a0 a1 a2 a3 a4 a5 a6 a7 a8 a9) (dormouselaw05_MeterAdds.f (k + 1) a0 a1 a2 a3 a4 a5 a6 a7 a8 a9) := by
  intro a0 a1 a2 a3 a4 a5 a6 a7 a8 a9 k
  obtain ⟨ih0, ih1, ih2⟩ := dormouselaw05_MeterAdds.mono_l k
  unfold dormouselaw05_MeterAdds.f
  repeat' first
      | (with_reducible exact ih0 _ _ _ _ _ _ _ _ _ _ _)
      | (with_reducible exact ih1 _ _ _ _ _ _ _ _ _ _ _ _ _ _ _ _ _ _ _)
      | (with_reducible exact ih2 _ _ _ _ _ _ _ _ _ _ _ _ _ _ _ _ _ _ _ _ _)
      | (with_reducible exact dormouseref01_Energy.mono _ _ _ _ _ _ _ _ _ _ _ _ _ _ _ _)
      | (with_reducible exact dormouseref01_Table.mono _ _ _ _ _ _ _ _ _ _)
      | (with_reducible exact LeO.refl _)
      | (with_reducible exact LeO.none _)
      | (with_reducible refine LeO.ite ?_ ?_)
      | (with_reducible refine LeO.bind ?_ (fun _ => ?_))
      | exact ih0 _ _ _ _ _ _ _ _ _ _ _
      | exact ih1 _ _ _ _ _ _ _ _ _ _ _ _ _ _ _ _ _ _ _
      | exact ih2 _ _ _ _ _ _ _ _ _ _ _ _ _ _ _ _ _ _ _ _ _
      | exact dormouseref01_Energy.mono _ _ _ _ _ _ _ _ _ _ _ _ _ _ _ _
      | exact dormouseref01_Table.mono _ _ _ _ _ _ _ _ _ _
      | exact LeO.none _
      | refine LeO.ite ?_ ?_
      | refine LeO.bind ?_ (fun _ => ?_)
def dormouselaw05_MeterAdds.T10 : Bool × List (List Nat × List Nat) := (true, [([], []), ([], []), ([], []), ([], []), ([2, 3], [2, 3]), ([4], [4]), ([0, 1, 5], [0, 1, 5]), ([6, 6, 0, 1, 2, 3, 4, 5, 6], [6])])
def dormouselaw05_MeterAdds.B10 : List Nat := [0, 0, 0, 0, 12, 28, 63, 127]
theorem dormouselaw05_MeterAdds.tab10 : rtab .any (opsOf Try.f4 10) = dormouselaw05_MeterAdds.T10 := by kernel_rfl
theorem dormouselaw05_MeterAdds.bits10 : waitsOk dormouselaw05_MeterAdds.T10.2 dormouselaw05_MeterAdds.B10 = true := by kernel_rfl
def dormouselaw05_MeterAdds.T13 : Bool × List (List Nat × List Nat) := (true, [([], []), ([0], [0]), ([1], [1]), ([], []), ([3], [3]), ([4, 2], [4]), ([5], [5]), ([6], [6]), ([], []), ([], []), ([], []), ([9, 10], [9, 10]), ([11], [11]), ([8, 12, 5], [8, 12]), ([7, 13], [7, 13]), ([2, 0, 1, 2, 3, 4, 5, 6, 7, 8, 9, 10, 11, 12, 13, 14], [2]), ([15, 14, 13, 0, 1, 2, 3, 4, 5, 6, 7, 8, 9, 10, 11, 12, 13, 14], [14, 15])])
def dormouselaw05_MeterAdds.B13 : List Nat := [0, 1, 3, 0, 8, 31, 63, 127, 0, 0, 0, 1536, 3584, 7999, 16383, 32767, 65535]
theorem dormouselaw05_MeterAdds.tab13 : rtab .any (opsOf Try.f4 13) = dormouselaw05_MeterAdds.T13 := by kernel_rfl
theorem dormouselaw05_MeterAdds.bits13 : waitsOk dormouselaw05_MeterAdds.T13.2 dormouselaw05_MeterAdds.B13 = true := by kernel_rfl
def dormouselaw05_MeterAdds.T14 : Bool × List (List Nat × List Nat) := (true, [([], []), ([0, 0], [0]), ([1], [1]), ([2, 1, 1], [1, 2]), ([1], [1]), ([3, 4, 1], [1, 3, 4]), ([1, 5], [1, 5]), ([6, 3], [6]), ([7], [7]), ([8, 7, 7], [7, 8]), ([7], [7]), ([10, 7], [7, 10]), ([7], [7]), ([12, 7], [7, 12]), ([11, 13, 7], [7, 11, 13]), ([7], [7]), ([15, 7], [7, 15]), ([14, 16, 7], [7, 14, 16]), ([7], [7]), ([18, 7], [7, 18]), ([17, 19, 7], [7, 17, 19]), ([9, 20, 7], [7, 9, 20]), ([7, 21], [7, 21]), ([22, 9, 0, 1, 2, 3, 4, 5, 6, 7, 8, 9, 10, 11, 12, 13, 14, 15, 16, 17, 18, 19, 20, 21, 22], [22])])
def dormouselaw05_MeterAdds.B14 : List Nat := [0, 1, 3, 7, 3, 31, 63, 127, 255, 511, 255, 1279, 255, 4351, 15615, 255, 33023, 130303, 255, 262399, 1047807, 2097151, 4194303, 8388607]
theorem dormouselaw05_MeterAdds.tab14 : rtab .any (opsOf Try.f4 14) = dormouselaw05_MeterAdds.T14 := by kernel_rfl
theorem dormouselaw05_MeterAdds.bits14 : waitsOk dormouselaw05_MeterAdds.T14.2 dormouselaw05_MeterAdds.B14 = true := by kernel_rfl
theorem zAf4 {α : Type _} (l : List α) (i : Nat) (a : α) : l.toArray.setIfInBounds i a = (l.set i a).toArray := List.setIfInBounds_toArray l i a
theorem zBf4 {α : Type _} (x : α) (xs : List α) (a : α) : (x :: xs).set 0 a = a :: xs := rfl
theorem zCf4 {α : Type _} (x : α) (xs : List α) (n : Nat) (a : α) : (x :: xs).set (n + 1) a = x :: xs.set n a := rfl
set_option maxHeartbeats 8000000 in
set_option maxRecDepth 100000 in
theorem dormouselaw05_MeterAdds.calls (k : Nat) (A0_0 : Option Addr) (c0_0 : Nat) (l0_0 : List (S66)) (A0_1 : Option Addr) (c0_1 : Nat) (l0_1 : List (S69)) (A0_2 : Option Addr) (c0_2 : Nat) (l0_2 : List (S72)) (a0_3 : Int) (a0_4 : Int) (a0_5 : Int) (a0_6 : Int) (a0_7 : Int) (a0_8 : Int) (A1 : Option Addr) (c1 : Nat) (l1 : List (S28)) (w : World) (hr0_0 : Kd.C k66 w A0_0 l0_0.length l0_0) (hc0_0 : l0_0.length ≤ c0_0) (hr0_1 : Kd.C k69 w A0_1 l0_1.length l0_1) (hc0_1 : l0_1.length ≤ c0_1) (hr0_2 : Kd.C k72 w A0_2 l0_2.length l0_2) (hc0_2 : l0_2.length ≤ c0_2) (hr1 : Kd.C k28 w A1 l1.length l1) (hc1 : l1.length ≤ c1) (h : dormouselaw05_MeterAdds.f k l0_0 l0_1 l0_2 a0_3 a0_4 a0_5 a0_6 a0_7 a0_8 l1 = some true) :
    Calls Try.prog 4 #[.agg #[.slice A0_0 l0_0.length c0_0, .slice A0_1 l0_1.length c0_1, .slice A0_2 l0_2.length c0_2, .int .i64 a0_3, .int .i64 a0_4, .int .i64 a0_5, .int .i64 a0_6, .int .i64 a0_7, .int .i64 a0_8], .slice A1 l1.length c1] w fun e w' => e = .returned (.bool true) ∧ Below w.heap.size w w' := by
 have hu26 := Try.underlying26
 have hu36 := Try.underlying36
 have hu37 := Try.underlying37
 have hu28 := Try.underlying28
 have HR0_0 := Aside0.mk hr0_0
 have HC0_0 := Aside0.mk hc0_0
 clear hr0_0 hc0_0
 have HR0_1 := Aside0.mk hr0_1
 have HC0_1 := Aside0.mk hc0_1
 clear hr0_1 hc0_1
 have HR0_2 := Aside0.mk hr0_2
 have HC0_2 := Aside0.mk hc0_2
 clear hr0_2 hc0_2
 have HR1 := Aside0.mk hr1
 have HC1 := Aside0.mk hc1
 clear hr1 hc1; have HB := Aside0.mk (Below.refl w.heap.size w)
 have H : ((dormouseref01_Table.f k l0_0 l0_1 l0_2 a0_3 a0_4 a0_5 a0_6 a0_7 a0_8).bind fun t173 => (if t173 = true then (dormouselaw05_MeterAdds.j0 k l1 (decide ((l1.length : Int) > 4096)) l0_0 l0_1 l0_2 a0_3 a0_4 a0_5 a0_6 a0_7 a0_8) else (dormouselaw05_MeterAdds.j0 k l1 true l0_0 l0_1 l0_2 a0_3 a0_4 a0_5 a0_6 a0_7 a0_8))) = some true := h
 clear h
 have HC3 := Aside0.mk H
 clear H
 go_enter Try.func4, Try.ntmps4
 go_upto_region 1 with (first | ((with_reducible refine gate_dst (N := 2) rfl ?_); (try (refine gate_guard (by rfl) ?_; dsimp only)); refine box_event ?hg (N := 2) ?hd (cs := #[.slice A0_0 l0_0.length c0_0, .slice A0_1 l0_1.length c0_1, .slice A0_2 l0_2.length c0_2, .int .i64 a0_3, .int .i64 a0_4, .int .i64 a0_5, .int .i64 a0_6, .int .i64 a0_7, .int .i64 a0_8]) (t := 26) ?hr ?_; (case hd => rfl); (case hg => rfl); (case hr => first | (go_simp; done) | (go_simp; rfl)); intro gb172 hg w4 hbox hb; have n0_ := Aside0.mk (below_step (by repeat (first | (with_reducible first | exact HB.out | apply below_alloc | apply pw_below_drewN | apply below_drew1) | exact HB.out)) hb); have n1_ := Aside0.mk (hbox); have n2_ := Aside0.mk ((by rw [hg]; exact (below_size (by repeat (first | (with_reducible first | exact HB.out | apply below_alloc | apply pw_below_drewN | apply below_drew1) | exact HB.out))) : w.heap.size ≤ gb172)); have n3_ := Aside0.mk ((by rw [hg]; exact (below_size (by repeat (first | (with_reducible first | exact HB.out | apply below_alloc | apply pw_below_drewN | apply below_drew1) | exact HB.out))) : w.heap.size ≤ gb172)); clear HB; have HB := n0_; have BK172 := n1_; have GW172 := n2_; have GE172 := n3_; clear n0_ n1_ n2_ n3_; clear hb hbox hg))
 (try simp only [Act.put, List.setIfInBounds_toArray, List.set_cons_zero, List.set_cons_succ])
 go_cut [16] (fun v16 wc => ∃ (kq : Nat) (x16_2 : Bool), v16 = .bool x16_2 ∧ Aside0 (dormouselaw05_MeterAdds.j0 kq l1 x16_2 l0_0 l0_1 l0_2 a0_3 a0_4 a0_5 a0_6 a0_7 a0_8 = some true) ∧ Aside0 (kq ≤ k) ∧ Aside0 (wc.heap[gb172]? = some (.cells #[(.slice A0_0 l0_0.length c0_0), (.slice A0_1 l0_1.length c0_1), (.slice A0_2 l0_2.length c0_2), .int .i64 a0_3, .int .i64 a0_4, .int .i64 a0_5, .int .i64 a0_6, .int .i64 a0_7, .int .i64 a0_8] 26 (0, 0))) ∧ Aside0 (Below w.heap.size w wc))
 case first =>
  have H := HC3.out; clear HC3
  replace H := Option.bind_eq_some_iff.mp H
  obtain ⟨t173, A50, H⟩ := H
  replace H : (if t173 = true then (dormouselaw05_MeterAdds.j0 k l1 (decide ((l1.length : Int) > 4096)) l0_0 l0_1 l0_2 a0_3 a0_4 a0_5 a0_6 a0_7 a0_8) else (dormouselaw05_MeterAdds.j0 k l1 true l0_0 l0_1 l0_2 a0_3 a0_4 a0_5 a0_6 a0_7 a0_8)) = some true := H
  have A5 := Aside0.mk A50
  clear A50
  by_cases c6 : t173 = true
  ·
   subst c6
   have H1 : (dormouselaw05_MeterAdds.j0 k l1 (decide ((l1.length : Int) > 4096)) l0_0 l0_1 l0_2 a0_3 a0_4 a0_5 a0_6 a0_7 a0_8) = some true := by rw [if_pos rfl] at H; exact H
   clear H; have H := H1; clear H1; have H' := Aside0.mk H; clear H; have hcz7_0 : w4.cell? ⟨gb172, 0, none⟩ = some (.slice A0_0 l0_0.length c0_0) := (blk_cell BK172.out 0).trans rfl; have hcz7_1 : w4.cell? ⟨gb172, 1, none⟩ = some (.slice A0_1 l0_1.length c0_1) := (blk_cell BK172.out 1).trans rfl; have hcz7_2 : w4.cell? ⟨gb172, 2, none⟩ = some (.slice A0_2 l0_2.length c0_2) := (blk_cell BK172.out 2).trans rfl; have hcz7_3 : w4.cell? ⟨gb172, 3, none⟩ = some (.int .i64 a0_3) := (blk_cell BK172.out 3).trans rfl; have hcz7_4 : w4.cell? ⟨gb172, 4, none⟩ = some (.int .i64 a0_4) := (blk_cell BK172.out 4).trans rfl; have hcz7_5 : w4.cell? ⟨gb172, 5, none⟩ = some (.int .i64 a0_5) := (blk_cell BK172.out 5).trans rfl; have hcz7_6 : w4.cell? ⟨gb172, 6, none⟩ = some (.int .i64 a0_6) := (blk_cell BK172.out 6).trans rfl; have hcz7_7 : w4.cell? ⟨gb172, 7, none⟩ = some (.int .i64 a0_7) := (blk_cell BK172.out 7).trans rfl; have hcz7_8 : w4.cell? ⟨gb172, 8, none⟩ = some (.int .i64 a0_8) := (blk_cell BK172.out 8).trans rfl; have hfz7_0 := blk_frozen BK172.out 0; have hfz7_1 := blk_frozen BK172.out 1; have hfz7_2 := blk_frozen BK172.out 2; have hfz7_3 := blk_frozen BK172.out 3; have hfz7_4 := blk_frozen BK172.out 4; have hfz7_5 := blk_frozen BK172.out 5; have hfz7_6 := blk_frozen BK172.out 6; have hfz7_7 := blk_frozen BK172.out 7; have hfz7_8 := blk_frozen BK172.out 8
   go_wp2_with (first | ((with_reducible refine gate_callee (f := 11) rfl ?_); refine goesL_ (some 10) rfl rfl Try.func11 (by kernel_rfl) rfl #[.agg #[.slice A0_0 l0_0.length c0_0, .slice A0_1 l0_1.length c0_1, .slice A0_2 l0_2.length c0_2, .int .i64 a0_3, .int .i64 a0_4, .int .i64 a0_5, .int .i64 a0_6, .int .i64 a0_7, .int .i64 a0_8]] rfl (by (try simp only [List.map_toArray, List.map_cons, List.map_nil]); first | done | rfl | (simp only [List.length_drop, List.length_take]; rfl)) ?_; (with_reducible refine (dormouseref01_Table.calls k _ _ l0_0 _ _ l0_1 _ _ l0_2 a0_3 a0_4 a0_5 a0_6 a0_7 a0_8 true _ ?side1 ?side2 ?side3 ?side4 ?side5 ?side6 A5.out).mono ?_); (case side1 => repeat (first | exact (Kd.C_below HR0_0.out HB.out) | (with_reducible refine Kd.C_alloc ?_ _) | (with_reducible refine Kd.C_drewN ?_ _) | (with_reducible refine Kd.C_drew ?_))); (case side2 => exact HC0_0.out); (case side3 => repeat (first | exact (Kd.C_below HR0_1.out HB.out) | (with_reducible refine Kd.C_alloc ?_ _) | (with_reducible refine Kd.C_drewN ?_ _) | (with_reducible refine Kd.C_drew ?_))); (case side4 => exact HC0_1.out); (case side5 => repeat (first | exact (Kd.C_below HR0_2.out HB.out) | (with_reducible refine Kd.C_alloc ?_ _) | (with_reducible refine Kd.C_drewN ?_ _) | (with_reducible refine Kd.C_drew ?_))); (case side6 => exact HC0_2.out); rintro e w8 ⟨rfl, hb⟩; refine ⟨_, rfl, ?_⟩; have n0_ := Aside0.mk (blk_below (g := gb172) (o := .cells #[.slice A0_0 l0_0.length c0_0, .slice A0_1 l0_1.length c0_1, .slice A0_2 l0_2.length c0_2, .int .i64 a0_3, .int .i64 a0_4, .int .i64 a0_5, .int .i64 a0_6, .int .i64 a0_7, .int .i64 a0_8] 26 (0, 0)) (by (with_reducible repeat (first | refine blk_drewN ?_ _ | refine blk_drew ?_ | refine blk_alloc ?_ _)); exact BK172.out) hb); have n1_ := Aside0.mk (below_step (by repeat (first | (with_reducible first | exact HB.out | apply below_alloc | apply pw_below_drewN | apply below_drew1 | refine below_set ?_ GE172.out) | exact HB.out)) hb); clear BK172; clear HB; have BK172 := n0_; have HB := n1_; clear n0_ n1_; (try clear hb); (try clear hb2); (try clear hk); (try clear hi)))
   go_meet
   case rel => exact ⟨_, (decide ((l1.length : Int) > 4096)), (by first | rfl | (simp; done) | (simp [*]; done)), H', ⟨by first | omega | exact Nat.le_refl _⟩, ⟨by (with_reducible repeat (first | refine blk_drewN ?_ _ | refine blk_drew ?_ | refine blk_alloc ?_ _)); exact BK172.out⟩, ⟨by repeat (first | (with_reducible first | exact HB.out | apply below_alloc | apply pw_below_drewN | apply below_drew1 | refine below_set ?_ GE172.out) | exact HB.out)⟩⟩
  replace c6 := Bool.eq_false_iff.mpr c6
  subst c6
  have H1 : (dormouselaw05_MeterAdds.j0 k l1 true l0_0 l0_1 l0_2 a0_3 a0_4 a0_5 a0_6 a0_7 a0_8) = some true := by rw [if_neg (show ¬ (false = true) by decide)] at H; exact H
  clear H; have H := H1; clear H1; have H' := Aside0.mk H; clear H; have hcz9_0 : w4.cell? ⟨gb172, 0, none⟩ = some (.slice A0_0 l0_0.length c0_0) := (blk_cell BK172.out 0).trans rfl; have hcz9_1 : w4.cell? ⟨gb172, 1, none⟩ = some (.slice A0_1 l0_1.length c0_1) := (blk_cell BK172.out 1).trans rfl; have hcz9_2 : w4.cell? ⟨gb172, 2, none⟩ = some (.slice A0_2 l0_2.length c0_2) := (blk_cell BK172.out 2).trans rfl; have hcz9_3 : w4.cell? ⟨gb172, 3, none⟩ = some (.int .i64 a0_3) := (blk_cell BK172.out 3).trans rfl; have hcz9_4 : w4.cell? ⟨gb172, 4, none⟩ = some (.int .i64 a0_4) := (blk_cell BK172.out 4).trans rfl; have hcz9_5 : w4.cell? ⟨gb172, 5, none⟩ = some (.int .i64 a0_5) := (blk_cell BK172.out 5).trans rfl; have hcz9_6 : w4.cell? ⟨gb172, 6, none⟩ = some (.int .i64 a0_6) := (blk_cell BK172.out 6).trans rfl; have hcz9_7 : w4.cell? ⟨gb172, 7, none⟩ = some (.int .i64 a0_7) := (blk_cell BK172.out 7).trans rfl; have hcz9_8 : w4.cell? ⟨gb172, 8, none⟩ = some (.int .i64 a0_8) := (blk_cell BK172.out 8).trans rfl; have hfz9_0 := blk_frozen BK172.out 0; have hfz9_1 := blk_frozen BK172.out 1; have hfz9_2 := blk_frozen BK172.out 2; have hfz9_3 := blk_frozen BK172.out 3; have hfz9_4 := blk_frozen BK172.out 4; have hfz9_5 := blk_frozen BK172.out 5; have hfz9_6 := blk_frozen BK172.out 6; have hfz9_7 := blk_frozen BK172.out 7; have hfz9_8 := blk_frozen BK172.out 8
  go_wp2_with (first | ((with_reducible refine gate_callee (f := 11) rfl ?_); refine goesL_ (some 10) rfl rfl Try.func11 (by kernel_rfl) rfl #[.agg #[.slice A0_0 l0_0.length c0_0, .slice A0_1 l0_1.length c0_1, .slice A0_2 l0_2.length c0_2, .int .i64 a0_3, .int .i64 a0_4, .int .i64 a0_5, .int .i64 a0_6, .int .i64 a0_7, .int .i64 a0_8]] rfl (by (try simp only [List.map_toArray, List.map_cons, List.map_nil]); first | done | rfl | (simp only [List.length_drop, List.length_take]; rfl)) ?_; (with_reducible refine (dormouseref01_Table.calls k _ _ l0_0 _ _ l0_1 _ _ l0_2 a0_3 a0_4 a0_5 a0_6 a0_7 a0_8 false _ ?side1 ?side2 ?side3 ?side4 ?side5 ?side6 A5.out).mono ?_); (case side1 => repeat (first | exact (Kd.C_below HR0_0.out HB.out) | (with_reducible refine Kd.C_alloc ?_ _) | (with_reducible refine Kd.C_drewN ?_ _) | (with_reducible refine Kd.C_drew ?_))); (case side2 => exact HC0_0.out); (case side3 => repeat (first | exact (Kd.C_below HR0_1.out HB.out) | (with_reducible refine Kd.C_alloc ?_ _) | (with_reducible refine Kd.C_drewN ?_ _) | (with_reducible refine Kd.C_drew ?_))); (case side4 => exact HC0_1.out); (case side5 => repeat (first | exact (Kd.C_below HR0_2.out HB.out) | (with_reducible refine Kd.C_alloc ?_ _) | (with_reducible refine Kd.C_drewN ?_ _) | (with_reducible refine Kd.C_drew ?_))); (case side6 => exact HC0_2.out); rintro e w10 ⟨rfl, hb⟩; refine ⟨_, rfl, ?_⟩; have n0_ := Aside0.mk (blk_below (g := gb172) (o := .cells #[.slice A0_0 l0_0.length c0_0, .slice A0_1 l0_1.length c0_1, .slice A0_2 l0_2.length c0_2, .int .i64 a0_3, .int .i64 a0_4, .int .i64 a0_5, .int .i64 a0_6, .int .i64 a0_7, .int .i64 a0_8] 26 (0, 0)) (by (with_reducible repeat (first | refine blk_drewN ?_ _ | refine blk_drew ?_ | refine blk_alloc ?_ _)); exact BK172.out) hb); have n1_ := Aside0.mk (below_step (by repeat (first | (with_reducible first | exact HB.out | apply below_alloc | apply pw_below_drewN | apply below_drew1 | refine below_set ?_ GE172.out) | exact HB.out)) hb); clear BK172; clear HB; have BK172 := n0_; have HB := n1_; clear n0_ n1_; (try clear hb); (try clear hb2); (try clear hk); (try clear hi)))
  go_meet
  case rel => exact ⟨_, (true), (by first | rfl | (simp; done) | (simp [*]; done)), H', ⟨by first | omega | exact Nat.le_refl _⟩, ⟨by (with_reducible repeat (first | refine blk_drewN ?_ _ | refine blk_drew ?_ | refine blk_alloc ?_ _)); exact BK172.out⟩, ⟨by repeat (first | (with_reducible first | exact HB.out | apply below_alloc | apply pw_below_drewN | apply below_drew1 | refine below_set ?_ GE172.out) | exact HB.out)⟩⟩
 case rest =>
  clear HC3; (try clear c1); (try clear p2); (try clear c4); (try clear c6); (try clear hcz7_0); (try clear hcz7_1); (try clear hcz7_2); (try clear hcz7_3); (try clear hcz7_4); (try clear hcz7_5); (try clear hcz7_6); (try clear hcz7_7); (try clear hcz7_8); (try clear hcz9_0); (try clear hcz9_1); (try clear hcz9_2); (try clear hcz9_3); (try clear hcz9_4); (try clear hcz9_5); (try clear hcz9_6); (try clear hcz9_7); (try clear hcz9_8); (try clear hfz7_0); (try clear hfz7_1); (try clear hfz7_2); (try clear hfz7_3); (try clear hfz7_4); (try clear hfz7_5); (try clear hfz7_6); (try clear hfz7_7); (try clear hfz7_8); (try clear hfz9_0); (try clear hfz9_1); (try clear hfz9_2); (try clear hfz9_3); (try clear hfz9_4); (try clear hfz9_5); (try clear hfz9_6); (try clear hfz9_7); (try clear hfz9_8)
  obtain ⟨kq, x16_2, rfl, HA, HJ2, BK172, HB⟩ := hcut
  cases kq with
  | zero => exact absurd HA.out (by simp [dormouselaw05_MeterAdds.j0])
  | succ kj2 =>
   have H := HA.out; clear HA
   simp only [dormouselaw05_MeterAdds.j0] at H
   by_cases c11 : x16_2 = true
   ·
    subst c11
    have H1 : ((dormouselaw05_answers.f).bind fun t174 => (some t174)) = some true := by rw [if_pos rfl] at H; exact H
    clear H; have H := H1; clear H1
    replace H := Option.bind_eq_some_iff.mp H
    obtain ⟨t174, A120, H⟩ := H
    replace H : (some t174) = some true := H
    have A12 := Aside0.mk A120
    clear A120; have HR_ := Aside0.mk (Option.some.inj H)
    go_wp2_with (first | ((with_reducible refine gate_callee (f := 13) rfl ?_); refine goesL_ (some 17) rfl rfl Try.func13 (by kernel_rfl) rfl #[] rfl (by (try simp only [List.map_toArray, List.map_cons, List.map_nil]); first | done | rfl | (simp only [List.length_drop, List.length_take]; rfl)) ?_; (with_reducible refine (dormouselaw05_answers.calls  t174 _ A12.out).mono ?_); rintro e w13 ⟨rfl, hb⟩; refine ⟨_, rfl, ?_⟩; have n0_ := Aside0.mk (blk_below (g := gb172) (o := .cells #[.slice A0_0 l0_0.length c0_0, .slice A0_1 l0_1.length c0_1, .slice A0_2 l0_2.length c0_2, .int .i64 a0_3, .int .i64 a0_4, .int .i64 a0_5, .int .i64 a0_6, .int .i64 a0_7, .int .i64 a0_8] 26 (0, 0)) (by (with_reducible repeat (first | refine blk_drewN ?_ _ | refine blk_drew ?_ | refine blk_alloc ?_ _)); exact BK172.out) hb); have n1_ := Aside0.mk (below_step (by repeat (first | (with_reducible first | exact HB.out | apply below_alloc | apply pw_below_drewN | apply below_drew1 | refine below_set ?_ GE172.out) | exact HB.out)) hb); clear BK172; clear HB; have BK172 := n0_; have HB := n1_; clear n0_ n1_; (try clear hb); (try clear hb2); (try clear hk); (try clear hi)))
    go_ret
    exact ⟨by first | rfl | (rw [HR_.out]; done) | (rw [HR_.out]; rfl) | (simp [errW_none, errW_some] <;> rfl) | (simp [*, errW_none, errW_some] <;> rfl), by repeat (first | (with_reducible first | exact HB.out | apply below_alloc | apply pw_below_drewN | apply below_drew1 | refine below_set ?_ GE172.out) | exact HB.out)⟩
   replace c11 := Bool.eq_false_iff.mpr c11
   subst c11
   have H1 : (dormouselaw05_MeterAdds.l0 kj2 l1 0 l0_0 l0_1 l0_2 a0_3 a0_4 a0_5 a0_6 a0_7 a0_8 0 0 0 0 0 0 0 0) = some true := by rw [if_neg (show ¬ (false = true) by decide)] at H; exact H
   clear H; have H := H1; clear H1; have H' := Aside0.mk H; clear H
   go_wp2_with (first | ((with_reducible refine gate_dst (N := 5) rfl ?_); (try (refine gate_guard (by rfl) ?_; dsimp only)); refine box_event ?hg (N := 5) ?hd (cs := #[.int .i64 0, .int .i64 0, .int .i64 0, .int .i64 0]) (t := 36) ?hr ?_; (case hd => rfl); (case hg => rfl); (case hr => first | (go_simp; done) | (go_simp; rfl)); intro gb175 hg w14 hbox hb; have n0_ := Aside0.mk (blk_below (g := gb172) (o := .cells #[.slice A0_0 l0_0.length c0_0, .slice A0_1 l0_1.length c0_1, .slice A0_2 l0_2.length c0_2, .int .i64 a0_3, .int .i64 a0_4, .int .i64 a0_5, .int .i64 a0_6, .int .i64 a0_7, .int .i64 a0_8] 26 (0, 0)) (by (with_reducible repeat (first | refine blk_drewN ?_ _ | refine blk_drew ?_ | refine blk_alloc ?_ _)); exact BK172.out) hb); have n1_ := Aside0.mk (below_step (by repeat (first | (with_reducible first | exact HB.out | apply below_alloc | apply pw_below_drewN | apply below_drew1 | refine below_set ?_ GE172.out) | exact HB.out)) hb); have n2_ := Aside0.mk (hbox); have n3_ := Aside0.mk ((by rw [hg]; exact (below_size (by repeat (first | (with_reducible first | exact HB.out | apply below_alloc | apply pw_below_drewN | apply below_drew1 | refine below_set ?_ GE172.out) | exact HB.out))) : w.heap.size ≤ gb175)); have n4_ := Aside0.mk ((by rw [hg]; exact (below_size (by repeat (first | (with_reducible first | exact HB.out | apply below_alloc | apply pw_below_drewN | apply below_drew1 | refine below_set ?_ GE172.out) | exact HB.out))) : w.heap.size ≤ gb175)); have n5_ := Aside0.mk ((by rw [hg]; exact Nat.ne_of_lt (blk_lt (g := gb172) (o := .cells #[.slice A0_0 l0_0.length c0_0, .slice A0_1 l0_1.length c0_1, .slice A0_2 l0_2.length c0_2, .int .i64 a0_3, .int .i64 a0_4, .int .i64 a0_5, .int .i64 a0_6, .int .i64 a0_7, .int .i64 a0_8] 26 (0, 0)) (by (with_reducible repeat (first | refine blk_drewN ?_ _ | refine blk_drew ?_ | refine blk_alloc ?_ _)); exact BK172.out)) : gb172 ≠ gb175)); have n6_ := Aside0.mk ((by rw [hg]; exact Nat.ne_of_gt (blk_lt (g := gb172) (o := .cells #[.slice A0_0 l0_0.length c0_0, .slice A0_1 l0_1.length c0_1, .slice A0_2 l0_2.length c0_2, .int .i64 a0_3, .int .i64 a0_4, .int .i64 a0_5, .int .i64 a0_6, .int .i64 a0_7, .int .i64 a0_8] 26 (0, 0)) (by (with_reducible repeat (first | refine blk_drewN ?_ _ | refine blk_drew ?_ | refine blk_alloc ?_ _)); exact BK172.out)) : gb175 ≠ gb172)); clear BK172; clear HB; have BK172 := n0_; have HB := n1_; have BK175 := n2_; have GW175 := n3_; have GE175 := n4_; have NB172_175 := n5_; have NB175_172 := n6_; clear n0_ n1_ n2_ n3_ n4_ n5_ n6_; clear hb hbox hg) | ((with_reducible refine gate_dst (N := 6) rfl ?_); (try (refine gate_guard (by rfl) ?_; dsimp only)); refine box_event ?hg (N := 6) ?hd (cs := #[.int .i64 0, .int .i64 0, .int .i64 0, .int .i64 0]) (t := 37) ?hr ?_; (case hd => rfl); (case hg => rfl); (case hr => first | (go_simp; done) | (go_simp; rfl)); intro gb176 hg w15 hbox hb; have n0_ := Aside0.mk (blk_below (g := gb172) (o := .cells #[.slice A0_0 l0_0.length c0_0, .slice A0_1 l0_1.length c0_1, .slice A0_2 l0_2.length c0_2, .int .i64 a0_3, .int .i64 a0_4, .int .i64 a0_5, .int .i64 a0_6, .int .i64 a0_7, .int .i64 a0_8] 26 (0, 0)) (by (with_reducible repeat (first | refine blk_drewN ?_ _ | refine blk_drew ?_ | refine blk_alloc ?_ _)); exact BK172.out) hb); have n1_ := Aside0.mk (blk_below (g := gb175) (o := .cells #[.int .i64 0, .int .i64 0, .int .i64 0, .int .i64 0] 36 (0, 0)) (by (with_reducible repeat (first | refine blk_drewN ?_ _ | refine blk_drew ?_ | refine blk_alloc ?_ _)); exact BK175.out) hb); have n2_ := Aside0.mk (below_step (by repeat (first | (with_reducible first | exact HB.out | apply below_alloc | apply pw_below_drewN | apply below_drew1 | refine below_set ?_ GE172.out | refine below_set ?_ GE175.out) | exact HB.out)) hb); have n3_ := Aside0.mk (hbox); have n4_ := Aside0.mk ((by rw [hg]; exact (below_size (by repeat (first | (with_reducible first | exact HB.out | apply below_alloc | apply pw_below_drewN | apply below_drew1 | refine below_set ?_ GE172.out | refine below_set ?_ GE175.out) | exact HB.out))) : w.heap.size ≤ gb176)); have n5_ := Aside0.mk ((by rw [hg]; exact (below_size (by repeat (first | (with_reducible first | exact HB.out | apply below_alloc | apply pw_below_drewN | apply below_drew1 | refine below_set ?_ GE172.out | refine below_set ?_ GE175.out) | exact HB.out))) : w.heap.size ≤ gb176)); have n6_ := Aside0.mk ((by rw [hg]; exact Nat.ne_of_lt (blk_lt (g := gb172) (o := .cells #[.slice A0_0 l0_0.length c0_0, .slice A0_1 l0_1.length c0_1, .slice A0_2 l0_2.length c0_2, .int .i64 a0_3, .int .i64 a0_4, .int .i64 a0_5, .int .i64 a0_6, .int .i64 a0_7, .int .i64 a0_8] 26 (0, 0)) (by (with_reducible repeat (first | refine blk_drewN ?_ _ | refine blk_drew ?_ | refine blk_alloc ?_ _)); exact BK172.out)) : gb172 ≠ gb176)); have n7_ := Aside0.mk ((by rw [hg]; exact Nat.ne_of_gt (blk_lt (g := gb172) (o := .cells #[.slice A0_0 l0_0.length c0_0, .slice A0_1 l0_1.length c0_1, .slice A0_2 l0_2.length c0_2, .int .i64 a0_3, .int .i64 a0_4, .int .i64 a0_5, .int .i64 a0_6, .int .i64 a0_7, .int .i64 a0_8] 26 (0, 0)) (by (with_reducible repeat (first | refine blk_drewN ?_ _ | refine blk_drew ?_ | refine blk_alloc ?_ _)); exact BK172.out)) : gb176 ≠ gb172)); have n8_ := Aside0.mk ((by rw [hg]; exact Nat.ne_of_lt (blk_lt (g := gb175) (o := .cells #[.int .i64 0, .int .i64 0, .int .i64 0, .int .i64 0] 36 (0, 0)) (by (with_reducible repeat (first | refine blk_drewN ?_ _ | refine blk_drew ?_ | refine blk_alloc ?_ _)); exact BK175.out)) : gb175 ≠ gb176)); have n9_ := Aside0.mk ((by rw [hg]; exact Nat.ne_of_gt (blk_lt (g := gb175) (o := .cells #[.int .i64 0, .int .i64 0, .int .i64 0, .int .i64 0] 36 (0, 0)) (by (with_reducible repeat (first | refine blk_drewN ?_ _ | refine blk_drew ?_ | refine blk_alloc ?_ _)); exact BK175.out)) : gb176 ≠ gb175)); clear BK172; clear BK175; clear HB; have BK172 := n0_; have BK175 := n1_; have HB := n2_; have BK176 := n3_; have GW176 := n4_; have GE176 := n5_; have NB172_176 := n6_; have NB176_172 := n7_; have NB175_176 := n8_; have NB176_175 := n9_; clear n0_ n1_ n2_ n3_ n4_ n5_ n6_ n7_ n8_ n9_; clear hb hbox hg))
   go_loopg [7] kj2 (fun kq v7 w' => ∃ (x7_2 : Int) (x176000_2 : Int) (x176001_2 : Int) (x176002_2 : Int) (x176003_2 : Int) (x177000_2 : Int) (x177001_2 : Int) (x177002_2 : Int) (x177003_2 : Int), v7 = .int .i64 x7_2 ∧ Aside0 (dormouselaw05_MeterAdds.l0 kq l1 x7_2 l0_0 l0_1 l0_2 a0_3 a0_4 a0_5 a0_6 a0_7 a0_8 x176000_2 x176001_2 x176002_2 x176003_2 x177000_2 x177001_2 x177002_2 x177003_2 = some true) ∧ Aside0 (kq ≤ kj2) ∧ Aside0 (w'.heap[gb172]? = some (.cells #[(.slice A0_0 l0_0.length c0_0), (.slice A0_1 l0_1.length c0_1), (.slice A0_2 l0_2.length c0_2), .int .i64 a0_3, .int .i64 a0_4, .int .i64 a0_5, .int .i64 a0_6, .int .i64 a0_7, .int .i64 a0_8] 26 (0, 0))) ∧ Aside0 (w'.heap[gb175]? = some (.cells #[.int .i64 x176000_2, .int .i64 x176001_2, .int .i64 x176002_2, .int .i64 x176003_2] 36 (0, 0))) ∧ Aside0 (w'.heap[gb176]? = some (.cells #[.int .i64 x177000_2, .int .i64 x177001_2, .int .i64 x177002_2, .int .i64 x177003_2] 37 (0, 0))) ∧ Aside0 (Below w.heap.size w w'))
   case atStart => exact ⟨(0), (0), (0), (0), (0), (0), (0), (0), (0), (by first | rfl | (simp; done) | (simp [*]; done)), H', ⟨Nat.le_refl _⟩, ⟨by (with_reducible repeat (first | refine blk_drewN ?_ _ | refine blk_drew ?_ | refine blk_alloc ?_ _)); exact BK172.out⟩, ⟨by (with_reducible repeat (first | refine blk_drewN ?_ _ | refine blk_drew ?_ | refine blk_alloc ?_ _)); exact BK175.out⟩, ⟨by (with_reducible repeat (first | refine blk_drewN ?_ _ | refine blk_drew ?_ | refine blk_alloc ?_ _)); exact BK176.out⟩, ⟨by repeat (first | (with_reducible first | exact HB.out | apply below_alloc | apply pw_below_drewN | apply below_drew1 | refine below_set ?_ GE172.out | refine below_set ?_ GE175.out | refine below_set ?_ GE176.out) | exact HB.out)⟩⟩
   case round =>
    clear H'
    (try clear c1); (try clear p2); (try clear c4); (try clear c6); (try clear c11); (try clear c13); (try clear hcz7_0); (try clear hcz7_1); (try clear hcz7_2); (try clear hcz7_3); (try clear hcz7_4); (try clear hcz7_5); (try clear hcz7_6); (try clear hcz7_7); (try clear hcz7_8); (try clear hcz9_0); (try clear hcz9_1); (try clear hcz9_2); (try clear hcz9_3); (try clear hcz9_4); (try clear hcz9_5); (try clear hcz9_6); (try clear hcz9_7); (try clear hcz9_8); (try clear hfz7_0); (try clear hfz7_1); (try clear hfz7_2); (try clear hfz7_3); (try clear hfz7_4); (try clear hfz7_5); (try clear hfz7_6); (try clear hfz7_7); (try clear hfz7_8); (try clear hfz9_0); (try clear hfz9_1); (try clear hfz9_2); (try clear hfz9_3); (try clear hfz9_4); (try clear hfz9_5); (try clear hfz9_6); (try clear hfz9_7); (try clear hfz9_8); (try clear p2)
    obtain ⟨x7_2, x176000_2, x176001_2, x176002_2, x176003_2, x177000_2, x177001_2, x177002_2, x177003_2, rfl, HA, HK2, BK172, BK175, BK176, HB⟩ := hrel
    cases gk with
    | zero => exact absurd HA.out (by simp [dormouselaw05_MeterAdds.l0])
    | succ k2 =>
     have H := HA.out; clear HA
     simp only [dormouselaw05_MeterAdds.l0] at H
     by_cases c16 : x7_2 < (l1.length : Int)
     ·
      rw [if_pos c16] at H
      have c16b0 : decide (x7_2 < (l1.length : Int)) = true := decide_eq_true c16
      clear c16
      by_cases c17 : 0 ≤ x7_2
      ·
       rw [if_pos c17] at H
       have c17b0 : decide (0 ≤ x7_2) = true := decide_eq_true c17
       clear c17
       replace H := Option.bind_eq_some_iff.mp H
       obtain ⟨t184, A180, H⟩ := H
       replace H : (if t184 = true then ((meter_Meter_Add.f x176000_2 x176001_2 x176002_2 x176003_2 l0_0 l0_1 l0_2 a0_3 a0_4 a0_5 a0_6 a0_7 a0_8 ((rd_T28 l1 x7_2).f0) ((rd_T28 l1 x7_2).f1) ((rd_T28 l1 x7_2).f2) ((rd_T28 l1 x7_2).f3) ((rd_T28 l1 x7_2).f4) ((rd_T28 l1 x7_2).f5)).bind fun bt187 => (if ((rd_T28 l1 x7_2).f0) ≥ 1 then (dormouselaw05_MeterAdds.j2 k2 l1 x7_2 ((rd_T28 l1 x7_2).f0) (decide (((rd_T28 l1 x7_2).f0) ≤ 6)) l0_0 l0_1 l0_2 a0_3 a0_4 a0_5 a0_6 a0_7 a0_8 bt187.1 bt187.2.1 bt187.2.2.1 bt187.2.2.2 x177000_2 x177001_2 x177002_2 x177003_2) else (dormouselaw05_MeterAdds.j2 k2 l1 x7_2 ((rd_T28 l1 x7_2).f0) false l0_0 l0_1 l0_2 a0_3 a0_4 a0_5 a0_6 a0_7 a0_8 bt187.1 bt187.2.1 bt187.2.2.1 bt187.2.2.2 x177000_2 x177001_2 x177002_2 x177003_2))) else ((dormouselaw05_answers.f).bind fun t185 => (some t185))) = some true := H
       have A18 := Aside0.mk A180
       clear A180
       by_cases c19 : t184 = true
       ·
        subst c19
        have H1 : ((meter_Meter_Add.f x176000_2 x176001_2 x176002_2 x176003_2 l0_0 l0_1 l0_2 a0_3 a0_4 a0_5 a0_6 a0_7 a0_8 ((rd_T28 l1 x7_2).f0) ((rd_T28 l1 x7_2).f1) ((rd_T28 l1 x7_2).f2) ((rd_T28 l1 x7_2).f3) ((rd_T28 l1 x7_2).f4) ((rd_T28 l1 x7_2).f5)).bind fun bt187 => (if ((rd_T28 l1 x7_2).f0) ≥ 1 then (dormouselaw05_MeterAdds.j2 k2 l1 x7_2 ((rd_T28 l1 x7_2).f0) (decide (((rd_T28 l1 x7_2).f0) ≤ 6)) l0_0 l0_1 l0_2 a0_3 a0_4 a0_5 a0_6 a0_7 a0_8 bt187.1 bt187.2.1 bt187.2.2.1 bt187.2.2.2 x177000_2 x177001_2 x177002_2 x177003_2) else (dormouselaw05_MeterAdds.j2 k2 l1 x7_2 ((rd_T28 l1 x7_2).f0) false l0_0 l0_1 l0_2 a0_3 a0_4 a0_5 a0_6 a0_7 a0_8 bt187.1 bt187.2.1 bt187.2.2.1 bt187.2.2.2 x177000_2 x177001_2 x177002_2 x177003_2))) = some true := by rw [if_pos rfl] at H; exact H
        clear H; have H := H1; clear H1
        replace H := Option.bind_eq_some_iff.mp H
        obtain ⟨⟨t187, t188, t189, t190⟩, A200, H⟩ := H
        replace H : (if ((rd_T28 l1 x7_2).f0) ≥ 1 then (dormouselaw05_MeterAdds.j2 k2 l1 x7_2 ((rd_T28 l1 x7_2).f0) (decide (((rd_T28 l1 x7_2).f0) ≤ 6)) l0_0 l0_1 l0_2 a0_3 a0_4 a0_5 a0_6 a0_7 a0_8 t187 t188 t189 t190 x177000_2 x177001_2 x177002_2 x177003_2) else (dormouselaw05_MeterAdds.j2 k2 l1 x7_2 ((rd_T28 l1 x7_2).f0) false l0_0 l0_1 l0_2 a0_3 a0_4 a0_5 a0_6 a0_7 a0_8 t187 t188 t189 t190 x177000_2 x177001_2 x177002_2 x177003_2)) = some true := H
        have A20 := Aside0.mk A200
        clear A200
        have HC21 := Aside0.mk H
        clear H
        have p183 : 0 ≤ (x7_2 : Int) := of_decide_eq_true (by first | (with_reducible assumption) | assumption)
        have q183 : x7_2 < (l1.length : Int) := of_decide_eq_true (by first | (with_reducible assumption) | assumption)
        obtain ⟨ad183, e183, hx183_0, hx183_1, hx183_2, hx183_3, hx183_4, hx183_5⟩ := at_T28 HR1.out x7_2 p183 q183
        cases e183
        replace hx183_0 := (HB.out.cell (World.block_lt_of_cell? w _ hx183_0)).trans hx183_0
        replace hx183_1 := (HB.out.cell (World.block_lt_of_cell? w _ hx183_1)).trans hx183_1
        replace hx183_2 := (HB.out.cell (World.block_lt_of_cell? w _ hx183_2)).trans hx183_2
        replace hx183_3 := (HB.out.cell (World.block_lt_of_cell? w _ hx183_3)).trans hx183_3
        replace hx183_4 := (HB.out.cell (World.block_lt_of_cell? w _ hx183_4)).trans hx183_4
        replace hx183_5 := (HB.out.cell (World.block_lt_of_cell? w _ hx183_5)).trans hx183_5
        replace p183 := eq_true p183
        replace q183 := eq_true q183
        try go_wp2_with (first | ((with_reducible refine gate_callee (f := 12) rfl ?_); refine goesL_ (some 28) rfl rfl Try.func12 (by kernel_rfl) rfl #[.agg #[.int .i64 ((rd_T28 l1 x7_2).f0), .int .i64 ((rd_T28 l1 x7_2).f1), .int .i64 ((rd_T28 l1 x7_2).f2), .int .i64 ((rd_T28 l1 x7_2).f3), .int .i64 ((rd_T28 l1 x7_2).f4), .int .i64 ((rd_T28 l1 x7_2).f5)]] rfl (by (try simp only [List.map_toArray, List.map_cons, List.map_nil]); first | done | rfl | (simp only [List.length_drop, List.length_take]; rfl)) ?_; (with_reducible refine (dormouselaw05_small.calls ((rd_T28 l1 x7_2).f0) ((rd_T28 l1 x7_2).f1) ((rd_T28 l1 x7_2).f2) ((rd_T28 l1 x7_2).f3) ((rd_T28 l1 x7_2).f4) ((rd_T28 l1 x7_2).f5) true _ A18.out).mono ?_); rintro e w22 ⟨rfl, hb⟩; refine ⟨_, rfl, ?_⟩; have n0_ := Aside0.mk (blk_below (g := gb172) (o := .cells #[.slice A0_0 l0_0.length c0_0, .slice A0_1 l0_1.length c0_1, .slice A0_2 l0_2.length c0_2, .int .i64 a0_3, .int .i64 a0_4, .int .i64 a0_5, .int .i64 a0_6, .int .i64 a0_7, .int .i64 a0_8] 26 (0, 0)) (by (with_reducible repeat (first | refine blk_drewN ?_ _ | refine blk_drew ?_ | refine blk_alloc ?_ _)); exact BK172.out) hb); have n1_ := Aside0.mk (blk_below (g := gb175) (o := .cells #[.int .i64 x176000_2, .int .i64 x176001_2, .int .i64 x176002_2, .int .i64 x176003_2] 36 (0, 0)) (by (with_reducible repeat (first | refine blk_drewN ?_ _ | refine blk_drew ?_ | refine blk_alloc ?_ _)); exact BK175.out) hb); have n2_ := Aside0.mk (blk_below (g := gb176) (o := .cells #[.int .i64 x177000_2, .int .i64 x177001_2, .int .i64 x177002_2, .int .i64 x177003_2] 37 (0, 0)) (by (with_reducible repeat (first | refine blk_drewN ?_ _ | refine blk_drew ?_ | refine blk_alloc ?_ _)); exact BK176.out) hb); have n3_ := Aside0.mk (below_step (by repeat (first | (with_reducible first | exact HB.out | apply below_alloc | apply pw_below_drewN | apply below_drew1 | refine below_set ?_ GE172.out | refine below_set ?_ GE175.out | refine below_set ?_ GE176.out) | exact HB.out)) hb); clear BK172; clear BK175; clear BK176; clear HB; have BK172 := n0_; have BK175 := n1_; have BK176 := n2_; have HB := n3_; clear n0_ n1_ n2_ n3_; (try clear hb); (try clear hb2); (try clear hk); (try clear hi)))
        have n0_ := Aside0.mk (blk_drew BK172.out); have n1_ := Aside0.mk (blk_drew BK175.out); have n2_ := Aside0.mk (blk_drew BK176.out); have n3_ := Aside0.mk (below_drew1 HB.out); clear BK172; clear BK175; clear BK176; clear HB; have BK172 := n0_; have BK175 := n1_; have BK176 := n2_; have HB := n3_; clear n0_ n1_ n2_ n3_
        have p186 : 0 ≤ (x7_2 : Int) := of_decide_eq_true (by first | (with_reducible assumption) | assumption)
        have q186 : x7_2 < (l1.length : Int) := of_decide_eq_true (by first | (with_reducible assumption) | assumption)
        obtain ⟨ad186, e186, hx186_0, hx186_1, hx186_2, hx186_3, hx186_4, hx186_5⟩ := at_T28 HR1.out x7_2 p186 q186
        have hw186_5 := hx186_5
        have hw186_4 := hx186_4
        have hw186_3 := hx186_3
        have hw186_2 := hx186_2
        have hw186_1 := hx186_1
        have hw186_0 := hx186_0
        obtain rfl : ad183 = ad186 := (by injection e186)
        replace hx186_0 := (HB.out.cell (World.block_lt_of_cell? w _ hx186_0)).trans hx186_0
        replace hx186_1 := (HB.out.cell (World.block_lt_of_cell? w _ hx186_1)).trans hx186_1
        replace hx186_2 := (HB.out.cell (World.block_lt_of_cell? w _ hx186_2)).trans hx186_2
        replace hx186_3 := (HB.out.cell (World.block_lt_of_cell? w _ hx186_3)).trans hx186_3
        replace hx186_4 := (HB.out.cell (World.block_lt_of_cell? w _ hx186_4)).trans hx186_4
        replace hx186_5 := (HB.out.cell (World.block_lt_of_cell? w _ hx186_5)).trans hx186_5
        replace p186 := eq_true p186
        replace q186 := eq_true q186
        refine start_ (n := 8) (S := fun w' => w'.cell? ⟨gb175, 0, none⟩ = some (.int .i64 x176000_2) ∧ w'.cell? ⟨gb175, 1, none⟩ = some (.int .i64 x176001_2) ∧ w'.cell? ⟨gb175, 2, none⟩ = some (.int .i64 x176002_2) ∧ w'.cell? ⟨gb175, 3, none⟩ = some (.int .i64 x176003_2) ∧ w'.cell? ⟨gb172, 0, none⟩ = some (.slice A0_0 l0_0.length c0_0) ∧ w'.cell? ⟨gb172, 1, none⟩ = some (.slice A0_1 l0_1.length c0_1) ∧ w'.cell? ⟨gb172, 2, none⟩ = some (.slice A0_2 l0_2.length c0_2) ∧ w'.cell? ⟨gb172, 3, none⟩ = some (.int .i64 a0_3) ∧ w'.cell? ⟨gb172, 4, none⟩ = some (.int .i64 a0_4) ∧ w'.cell? ⟨gb172, 5, none⟩ = some (.int .i64 a0_5) ∧ w'.cell? ⟨gb172, 6, none⟩ = some (.int .i64 a0_6) ∧ w'.cell? ⟨gb172, 7, none⟩ = some (.int .i64 a0_7) ∧ w'.cell? ⟨gb172, 8, none⟩ = some (.int .i64 a0_8) ∧ w'.cell? (ad183.add ((x7_2).toNat * 6)) = some (.int .i64 ((rd_T28 l1 x7_2).f0)) ∧ w'.cell? ⟨(ad183.add ((x7_2).toNat * 6)).block, (ad183.add ((x7_2).toNat * 6)).off + 1, none⟩ = some (.int .i64 ((rd_T28 l1 x7_2).f1)) ∧ w'.cell? ⟨(ad183.add ((x7_2).toNat * 6)).block, (ad183.add ((x7_2).toNat * 6)).off + 2, none⟩ = some (.int .i64 ((rd_T28 l1 x7_2).f2)) ∧ w'.cell? ⟨(ad183.add ((x7_2).toNat * 6)).block, (ad183.add ((x7_2).toNat * 6)).off + 3, none⟩ = some (.int .i64 ((rd_T28 l1 x7_2).f3)) ∧ w'.cell? ⟨(ad183.add ((x7_2).toNat * 6)).block, (ad183.add ((x7_2).toNat * 6)).off + 4, none⟩ = some (.int .i64 ((rd_T28 l1 x7_2).f4)) ∧ w'.cell? ⟨(ad183.add ((x7_2).toNat * 6)).block, (ad183.add ((x7_2).toNat * 6)).off + 5, none⟩ = some (.int .i64 ((rd_T28 l1 x7_2).f5))) (ds := [7]) #[false, false, false, false, false, false, false, false] (by kernel_rfl) rfl rfl ⟨(blk_cell BK175.out 0).trans rfl, (blk_cell BK175.out 1).trans rfl, (blk_cell BK175.out 2).trans rfl, (blk_cell BK175.out 3).trans rfl, (blk_cell BK172.out 0).trans rfl, (blk_cell BK172.out 1).trans rfl, (blk_cell BK172.out 2).trans rfl, (blk_cell BK172.out 3).trans rfl, (blk_cell BK172.out 4).trans rfl, (blk_cell BK172.out 5).trans rfl, (blk_cell BK172.out 6).trans rfl, (blk_cell BK172.out 7).trans rfl, (blk_cell BK172.out 8).trans rfl, ((HB.out.cell (World.block_lt_of_cell? w _ hw186_0)).trans hw186_0), ((HB.out.cell (World.block_lt_of_cell? w _ hw186_1)).trans hw186_1), ((HB.out.cell (World.block_lt_of_cell? w _ hw186_2)).trans hw186_2), ((HB.out.cell (World.block_lt_of_cell? w _ hw186_3)).trans hw186_3), ((HB.out.cell (World.block_lt_of_cell? w _ hw186_4)).trans hw186_4), ((HB.out.cell (World.block_lt_of_cell? w _ hw186_5)).trans hw186_5)⟩ (fun hHeld => ?_); refine with_tabW dormouselaw05_MeterAdds.tab10 dormouselaw05_MeterAdds.bits10 (fun HT_ HW_ => ?_)
        generalize w22.drew = w23 at BK172 BK175 BK176 HB hx186_0 hx186_1 hx186_2 hx186_3 hx186_4 hx186_5 hHeld ⊢
        refine pure_ (i := 2) (N := some 33) (v := ?_) (a' := ?_) #[false, false, true, false, false, false, false, false] rfl rfl (any_of HT_.out (by kernel_rfl)) (fun _ _ _ h => h) (Or.inl ⟨by rfl, ?_⟩) ?_ ?_; rotate_left; (· (intro w'; go_simp; with_reducible rfl)); rotate_left; (· (simp only [Act.put, zAf4, zBf4, zCf4, i64_w, i32_w]; rfl))
        refine pure_ (i := 3) (N := some 34) (v := ?_) (a' := ?_) #[false, false, true, true, false, false, false, false] rfl rfl (any_of HT_.out (by kernel_rfl)) (fun _ _ _ h => h) (Or.inl ⟨by rfl, ?_⟩) ?_ ?_; rotate_left; (· (intro w'; go_simp; with_reducible rfl)); rotate_left; (· (simp only [Act.put, zAf4, zBf4, zCf4, i64_w, i32_w]; rfl))
        refine pure_ (i := 4) (N := some 35) (v := ?_) (a' := ?_) #[false, false, true, true, true, false, false, false] rfl rfl (any_of HT_.out (by kernel_rfl)) (fun _ _ _ h => h) (Or.inl ⟨by rfl, ?_⟩) ?_ ?_; rotate_left; (· (intro w'; go_simp; with_reducible rfl)); rotate_left; (· (simp only [Act.put, zAf4, zBf4, zCf4, i64_w, i32_w]; rfl))
        refine take_ (i := 0) (N := some 31) (v := ?_) (a' := ?_) #[true, false, true, true, true, false, false, false] rfl rfl (take_ofW HT_.out HW_.out (by kernel_rfl)) (fun _ _ _ h => h) (Or.inl ⟨by rfl, ?_⟩) hHeld ?_ ?_; rotate_left; (· (rintro w' ⟨s0, s1, s2, s3, s4, s5, s6, s7, s8, s9, s10, s11, s12, s13, s14, s15, s16, s17, s18⟩; go_simp; with_reducible rfl)); rotate_left; (· (simp only [Act.put, zAf4, zBf4, zCf4, i64_w, i32_w]; rfl))
        refine take_ (i := 1) (N := some 32) (v := ?_) (a' := ?_) #[true, true, true, true, true, false, false, false] rfl rfl (take_ofW HT_.out HW_.out (by kernel_rfl)) (fun _ _ _ h => h) (Or.inl ⟨by rfl, ?_⟩) hHeld ?_ ?_; rotate_left; (· (rintro w' ⟨s0, s1, s2, s3, s4, s5, s6, s7, s8, s9, s10, s11, s12, s13, s14, s15, s16, s17, s18⟩; go_simp; with_reducible rfl)); rotate_left; (· (simp only [Act.put, zAf4, zBf4, zCf4, i64_w, i32_w]; rfl))
        refine take_ (i := 5) (N := some 36) (v := ?_) (a' := ?_) #[true, true, true, true, true, true, false, false] rfl rfl (take_ofW HT_.out HW_.out (by kernel_rfl)) (fun _ _ _ h => h) (Or.inl ⟨by rfl, ?_⟩) hHeld ?_ ?_; rotate_left; (· (rintro w' ⟨s0, s1, s2, s3, s4, s5, s6, s7, s8, s9, s10, s11, s12, s13, s14, s15, s16, s17, s18⟩; go_simp; with_reducible rfl)); rotate_left; (· (simp only [Act.put, zAf4, zBf4, zCf4, i64_w, i32_w]; rfl))
        refine one_ (i := 6) (N := some 37) #[true, true, true, true, true, true, true, false] rfl rfl (one_of HT_.out (by kernel_rfl)) (by decide) (fun K hK => ?_)
        refine goes_ Try.func16 (by kernel_rfl) rfl #[.agg #[.int .i64 x176000_2, .int .i64 x176001_2, .int .i64 x176002_2, .int .i64 x176003_2], .agg #[.slice A0_0 l0_0.length c0_0, .slice A0_1 l0_1.length c0_1, .slice A0_2 l0_2.length c0_2, .int .i64 a0_3, .int .i64 a0_4, .int .i64 a0_5, .int .i64 a0_6, .int .i64 a0_7, .int .i64 a0_8], .agg #[.int .i64 ((rd_T28 l1 x7_2).f0), .int .i64 ((rd_T28 l1 x7_2).f1), .int .i64 ((rd_T28 l1 x7_2).f2), .int .i64 ((rd_T28 l1 x7_2).f3), .int .i64 ((rd_T28 l1 x7_2).f4), .int .i64 ((rd_T28 l1 x7_2).f5)]] (by rfl) rfl rfl (by (try simp only [List.map_toArray, List.map_cons, List.map_nil]); first | done | rfl | (simp only [List.length_drop, List.length_take]; rfl)) ?_
        with_reducible refine (meter_Meter_Add.calls x176000_2 x176001_2 x176002_2 x176003_2 _ _ l0_0 _ _ l0_1 _ _ l0_2 a0_3 a0_4 a0_5 a0_6 a0_7 a0_8 ((rd_T28 l1 x7_2).f0) ((rd_T28 l1 x7_2).f1) ((rd_T28 l1 x7_2).f2) ((rd_T28 l1 x7_2).f3) ((rd_T28 l1 x7_2).f4) ((rd_T28 l1 x7_2).f5) t187 t188 t189 t190 _ ?side1 ?side2 ?side3 ?side4 ?side5 ?side6 A20.out).mono ?_
        (case side1 => repeat (first | exact (Kd.C_below HR0_0.out HB.out) | (with_reducible refine Kd.C_alloc ?_ _) | (with_reducible refine Kd.C_drewN ?_ _) | (with_reducible refine Kd.C_drew ?_)))
        (case side2 => exact HC0_0.out)
        (case side3 => repeat (first | exact (Kd.C_below HR0_1.out HB.out) | (with_reducible refine Kd.C_alloc ?_ _) | (with_reducible refine Kd.C_drewN ?_ _) | (with_reducible refine Kd.C_drew ?_)))
        (case side4 => exact HC0_1.out)
        (case side5 => repeat (first | exact (Kd.C_below HR0_2.out HB.out) | (with_reducible refine Kd.C_alloc ?_ _) | (with_reducible refine Kd.C_drewN ?_ _) | (with_reducible refine Kd.C_drew ?_)))
        (case side6 => exact HC0_2.out)
        rintro e w24 ⟨rfl, hb⟩
        refine ⟨_, rfl, ?_⟩
        have n0_ := Aside0.mk (blk_below (g := gb172) (o := .cells #[.slice A0_0 l0_0.length c0_0, .slice A0_1 l0_1.length c0_1, .slice A0_2 l0_2.length c0_2, .int .i64 a0_3, .int .i64 a0_4, .int .i64 a0_5, .int .i64 a0_6, .int .i64 a0_7, .int .i64 a0_8] 26 (0, 0)) (by (with_reducible repeat (first | refine blk_drewN ?_ _ | refine blk_drew ?_ | refine blk_alloc ?_ _)); exact BK172.out) hb); have n1_ := Aside0.mk (blk_below (g := gb175) (o := .cells #[.int .i64 x176000_2, .int .i64 x176001_2, .int .i64 x176002_2, .int .i64 x176003_2] 36 (0, 0)) (by (with_reducible repeat (first | refine blk_drewN ?_ _ | refine blk_drew ?_ | refine blk_alloc ?_ _)); exact BK175.out) hb); have n2_ := Aside0.mk (blk_below (g := gb176) (o := .cells #[.int .i64 x177000_2, .int .i64 x177001_2, .int .i64 x177002_2, .int .i64 x177003_2] 37 (0, 0)) (by (with_reducible repeat (first | refine blk_drewN ?_ _ | refine blk_drew ?_ | refine blk_alloc ?_ _)); exact BK176.out) hb); have n3_ := Aside0.mk (below_step (by repeat (first | (with_reducible first | exact HB.out | apply below_alloc | apply pw_below_drewN | apply below_drew1 | refine below_set ?_ GE172.out | refine below_set ?_ GE175.out | refine below_set ?_ GE176.out) | exact HB.out)) hb); clear BK172; clear BK175; clear BK176; clear HB; have BK172 := n0_; have BK175 := n1_; have BK176 := n2_; have HB := n3_; clear n0_ n1_ n2_ n3_; (try clear hb); (try clear hb2); (try clear hk); (try clear hi)
        refine hK.out _ _ ⟨(blk_cell BK175.out 0).trans rfl, (blk_cell BK175.out 1).trans rfl, (blk_cell BK175.out 2).trans rfl, (blk_cell BK175.out 3).trans rfl, (blk_cell BK172.out 0).trans rfl, (blk_cell BK172.out 1).trans rfl, (blk_cell BK172.out 2).trans rfl, (blk_cell BK172.out 3).trans rfl, (blk_cell BK172.out 4).trans rfl, (blk_cell BK172.out 5).trans rfl, (blk_cell BK172.out 6).trans rfl, (blk_cell BK172.out 7).trans rfl, (blk_cell BK172.out 8).trans rfl, ((HB.out.cell (World.block_lt_of_cell? w _ hw186_0)).trans hw186_0), ((HB.out.cell (World.block_lt_of_cell? w _ hw186_1)).trans hw186_1), ((HB.out.cell (World.block_lt_of_cell? w _ hw186_2)).trans hw186_2), ((HB.out.cell (World.block_lt_of_cell? w _ hw186_3)).trans hw186_3), ((HB.out.cell (World.block_lt_of_cell? w _ hw186_4)).trans hw186_4), ((HB.out.cell (World.block_lt_of_cell? w _ hw186_5)).trans hw186_5)⟩ (fun hHeld => ?_)
        clear hK K
        refine norm_ (a' := ?_) ?_ ?_
        rotate_left
        ·
         show Act.put _ (some 37) _ = _
         simp only [Act.put, zAf4, zBf4, zCf4, i64_w, i32_w]
         rfl
        refine last_ (i := 7) (N := none) #[true, true, true, true, true, true, true, true] rfl rfl (one_of HT_.out (by kernel_rfl)) (by decide) (fun K hK => ?_)
        have hs25 : w24.cell? ⟨gb175, 0, none⟩ = some (.int .i64 x176000_2) := (blk_cell BK175.out 0).trans rfl
        have hfs25 := blk_frozen BK175.out 0
        have hns25_0 := NB172_175.out
        have hns25_2 := NB176_175.out
        have hms25_0 := NB175_172.out
        have hms25_2 := NB175_176.out
        have hs26 : w24.cell? ⟨gb175, 1, none⟩ = some (.int .i64 x176001_2) := (blk_cell BK175.out 1).trans rfl
        have hfs26 := blk_frozen BK175.out 1
        have hns26_0 := NB172_175.out
        have hns26_2 := NB176_175.out
        have hms26_0 := NB175_172.out
        have hms26_2 := NB175_176.out
        have hs27 : w24.cell? ⟨gb175, 2, none⟩ = some (.int .i64 x176002_2) := (blk_cell BK175.out 2).trans rfl
        have hfs27 := blk_frozen BK175.out 2
        have hns27_0 := NB172_175.out
        have hns27_2 := NB176_175.out
        have hms27_0 := NB175_172.out
        have hms27_2 := NB175_176.out
        have hs28 : w24.cell? ⟨gb175, 3, none⟩ = some (.int .i64 x176003_2) := (blk_cell BK175.out 3).trans rfl
        have hfs28 := blk_frozen BK175.out 3
        have hns28_0 := NB172_175.out
        have hns28_2 := NB176_175.out
        have hms28_0 := NB175_172.out
        have hms28_2 := NB175_176.out
        refine skip_ (w1 := ?_) (by rfl) rfl ?_ ?_
        rotate_left
        · (go_simp; rfl)
        refine hK.out _ _ ?_
        clear hK K
        refine done_ (done_of HT_.out (by kernel_rfl)) ?_
        have p191 : 0 ≤ (x7_2 : Int) := of_decide_eq_true (by first | (with_reducible assumption) | assumption)
        have q191 : x7_2 < (l1.length : Int) := of_decide_eq_true (by first | (with_reducible assumption) | assumption)
        obtain ⟨ad191, e191, hx191_0, hx191_1, hx191_2, hx191_3, hx191_4, hx191_5⟩ := at_T28 HR1.out x7_2 p191 q191
        obtain rfl : ad183 = ad191 := (by injection e191)
        have hn191_0 : ad183.block ≠ gb175 := Nat.ne_of_lt (Nat.lt_of_lt_of_le (by have := World.block_lt_of_cell? _ _ hx191_0; first | rwa [add_block] at this | exact this) GW175.out)
        have hn191_1 : ad183.block ≠ gb175 := Nat.ne_of_lt (Nat.lt_of_lt_of_le (by have := World.block_lt_of_cell? _ _ hx191_0; first | rwa [add_block] at this | exact this) GW175.out)
        have hn191_2 : ad183.block ≠ gb175 := Nat.ne_of_lt (Nat.lt_of_lt_of_le (by have := World.block_lt_of_cell? _ _ hx191_0; first | rwa [add_block] at this | exact this) GW175.out)
        have hn191_3 : ad183.block ≠ gb175 := Nat.ne_of_lt (Nat.lt_of_lt_of_le (by have := World.block_lt_of_cell? _ _ hx191_0; first | rwa [add_block] at this | exact this) GW175.out)
        replace hx191_0 := (HB.out.cell (World.block_lt_of_cell? w _ hx191_0)).trans hx191_0
        replace hx191_1 := (HB.out.cell (World.block_lt_of_cell? w _ hx191_1)).trans hx191_1
        replace hx191_2 := (HB.out.cell (World.block_lt_of_cell? w _ hx191_2)).trans hx191_2
        replace hx191_3 := (HB.out.cell (World.block_lt_of_cell? w _ hx191_3)).trans hx191_3
        replace hx191_4 := (HB.out.cell (World.block_lt_of_cell? w _ hx191_4)).trans hx191_4
        replace hx191_5 := (HB.out.cell (World.block_lt_of_cell? w _ hx191_5)).trans hx191_5
        replace hx191_0 := (cell_far (p := ⟨gb175, 0, none⟩) (by first | (rw [add_block]; exact hn191_0) | (show (Addr.add _ _).block ≠ _; rw [add_block]; exact hn191_0) | exact hn191_0) (.int .i64 t187)).trans hx191_0
        replace hx191_1 := (cell_far (p := ⟨gb175, 0, none⟩) (by first | (rw [add_block]; exact hn191_0) | (show (Addr.add _ _).block ≠ _; rw [add_block]; exact hn191_0) | exact hn191_0) (.int .i64 t187)).trans hx191_1
        replace hx191_2 := (cell_far (p := ⟨gb175, 0, none⟩) (by first | (rw [add_block]; exact hn191_0) | (show (Addr.add _ _).block ≠ _; rw [add_block]; exact hn191_0) | exact hn191_0) (.int .i64 t187)).trans hx191_2
        replace hx191_3 := (cell_far (p := ⟨gb175, 0, none⟩) (by first | (rw [add_block]; exact hn191_0) | (show (Addr.add _ _).block ≠ _; rw [add_block]; exact hn191_0) | exact hn191_0) (.int .i64 t187)).trans hx191_3
        replace hx191_4 := (cell_far (p := ⟨gb175, 0, none⟩) (by first | (rw [add_block]; exact hn191_0) | (show (Addr.add _ _).block ≠ _; rw [add_block]; exact hn191_0) | exact hn191_0) (.int .i64 t187)).trans hx191_4
        replace hx191_5 := (cell_far (p := ⟨gb175, 0, none⟩) (by first | (rw [add_block]; exact hn191_0) | (show (Addr.add _ _).block ≠ _; rw [add_block]; exact hn191_0) | exact hn191_0) (.int .i64 t187)).trans hx191_5
        replace hx191_0 := (cell_far (p := ⟨gb175, 1, none⟩) (by first | (rw [add_block]; exact hn191_1) | (show (Addr.add _ _).block ≠ _; rw [add_block]; exact hn191_1) | exact hn191_1) (.int .i64 t188)).trans hx191_0
        replace hx191_1 := (cell_far (p := ⟨gb175, 1, none⟩) (by first | (rw [add_block]; exact hn191_1) | (show (Addr.add _ _).block ≠ _; rw [add_block]; exact hn191_1) | exact hn191_1) (.int .i64 t188)).trans hx191_1
        replace hx191_2 := (cell_far (p := ⟨gb175, 1, none⟩) (by first | (rw [add_block]; exact hn191_1) | (show (Addr.add _ _).block ≠ _; rw [add_block]; exact hn191_1) | exact hn191_1) (.int .i64 t188)).trans hx191_2
        replace hx191_3 := (cell_far (p := ⟨gb175, 1, none⟩) (by first | (rw [add_block]; exact hn191_1) | (show (Addr.add _ _).block ≠ _; rw [add_block]; exact hn191_1) | exact hn191_1) (.int .i64 t188)).trans hx191_3
        replace hx191_4 := (cell_far (p := ⟨gb175, 1, none⟩) (by first | (rw [add_block]; exact hn191_1) | (show (Addr.add _ _).block ≠ _; rw [add_block]; exact hn191_1) | exact hn191_1) (.int .i64 t188)).trans hx191_4
        replace hx191_5 := (cell_far (p := ⟨gb175, 1, none⟩) (by first | (rw [add_block]; exact hn191_1) | (show (Addr.add _ _).block ≠ _; rw [add_block]; exact hn191_1) | exact hn191_1) (.int .i64 t188)).trans hx191_5
        replace hx191_0 := (cell_far (p := ⟨gb175, 2, none⟩) (by first | (rw [add_block]; exact hn191_2) | (show (Addr.add _ _).block ≠ _; rw [add_block]; exact hn191_2) | exact hn191_2) (.int .i64 t189)).trans hx191_0
        replace hx191_1 := (cell_far (p := ⟨gb175, 2, none⟩) (by first | (rw [add_block]; exact hn191_2) | (show (Addr.add _ _).block ≠ _; rw [add_block]; exact hn191_2) | exact hn191_2) (.int .i64 t189)).trans hx191_1
        replace hx191_2 := (cell_far (p := ⟨gb175, 2, none⟩) (by first | (rw [add_block]; exact hn191_2) | (show (Addr.add _ _).block ≠ _; rw [add_block]; exact hn191_2) | exact hn191_2) (.int .i64 t189)).trans hx191_2
        replace hx191_3 := (cell_far (p := ⟨gb175, 2, none⟩) (by first | (rw [add_block]; exact hn191_2) | (show (Addr.add _ _).block ≠ _; rw [add_block]; exact hn191_2) | exact hn191_2) (.int .i64 t189)).trans hx191_3
        replace hx191_4 := (cell_far (p := ⟨gb175, 2, none⟩) (by first | (rw [add_block]; exact hn191_2) | (show (Addr.add _ _).block ≠ _; rw [add_block]; exact hn191_2) | exact hn191_2) (.int .i64 t189)).trans hx191_4
        replace hx191_5 := (cell_far (p := ⟨gb175, 2, none⟩) (by first | (rw [add_block]; exact hn191_2) | (show (Addr.add _ _).block ≠ _; rw [add_block]; exact hn191_2) | exact hn191_2) (.int .i64 t189)).trans hx191_5
        replace hx191_0 := (cell_far (p := ⟨gb175, 3, none⟩) (by first | (rw [add_block]; exact hn191_3) | (show (Addr.add _ _).block ≠ _; rw [add_block]; exact hn191_3) | exact hn191_3) (.int .i64 t190)).trans hx191_0
        replace hx191_1 := (cell_far (p := ⟨gb175, 3, none⟩) (by first | (rw [add_block]; exact hn191_3) | (show (Addr.add _ _).block ≠ _; rw [add_block]; exact hn191_3) | exact hn191_3) (.int .i64 t190)).trans hx191_1
        replace hx191_2 := (cell_far (p := ⟨gb175, 3, none⟩) (by first | (rw [add_block]; exact hn191_3) | (show (Addr.add _ _).block ≠ _; rw [add_block]; exact hn191_3) | exact hn191_3) (.int .i64 t190)).trans hx191_2
        replace hx191_3 := (cell_far (p := ⟨gb175, 3, none⟩) (by first | (rw [add_block]; exact hn191_3) | (show (Addr.add _ _).block ≠ _; rw [add_block]; exact hn191_3) | exact hn191_3) (.int .i64 t190)).trans hx191_3
        replace hx191_4 := (cell_far (p := ⟨gb175, 3, none⟩) (by first | (rw [add_block]; exact hn191_3) | (show (Addr.add _ _).block ≠ _; rw [add_block]; exact hn191_3) | exact hn191_3) (.int .i64 t190)).trans hx191_4
        replace hx191_5 := (cell_far (p := ⟨gb175, 3, none⟩) (by first | (rw [add_block]; exact hn191_3) | (show (Addr.add _ _).block ≠ _; rw [add_block]; exact hn191_3) | exact hn191_3) (.int .i64 t190)).trans hx191_5
        clear hn191_0; clear hn191_1; clear hn191_2; clear hn191_3
        replace p191 := eq_true p191
        replace q191 := eq_true q191
        go_upto_region 12 with (fail)
        go_cut [48] (fun v48 wc => ∃ (kq : Nat) (x48_20 : Bool), v48 = .bool x48_20 ∧ Aside0 (dormouselaw05_MeterAdds.j2 kq l1 x7_2 ((rd_T28 l1 x7_2).f0) x48_20 l0_0 l0_1 l0_2 a0_3 a0_4 a0_5 a0_6 a0_7 a0_8 t187 t188 t189 t190 x177000_2 x177001_2 x177002_2 x177003_2 = some true) ∧ Aside0 (kq ≤ k2) ∧ Aside0 (wc.heap[gb172]? = some (.cells #[(.slice A0_0 l0_0.length c0_0), (.slice A0_1 l0_1.length c0_1), (.slice A0_2 l0_2.length c0_2), .int .i64 a0_3, .int .i64 a0_4, .int .i64 a0_5, .int .i64 a0_6, .int .i64 a0_7, .int .i64 a0_8] 26 (0, 0))) ∧ Aside0 (wc.heap[gb175]? = some (.cells #[.int .i64 t187, .int .i64 t188, .int .i64 t189, .int .i64 t190] 36 (0, 0))) ∧ Aside0 (wc.heap[gb176]? = some (.cells #[.int .i64 x177000_2, .int .i64 x177001_2, .int .i64 x177002_2, .int .i64 x177003_2] 37 (0, 0))) ∧ Aside0 (Below w.heap.size w wc))
        case first =>
         have H := HC21.out; clear HC21
         by_cases c29 : ((rd_T28 l1 x7_2).f0) ≥ 1
         ·
          rw [if_pos c29] at H
          have c29b0 : decide (1 ≤ ((rd_T28 l1 x7_2).f0)) = true := decide_eq_true c29
          clear c29
          (first | rw [c29b0] | (simp only [i64_w, i32_w]; rw [c29b0]) | skip)
          have H' := Aside0.mk H; clear H
          go_wp2
          go_meet
          case rel => exact ⟨_, (decide (((rd_T28 l1 x7_2).f0) ≤ 6)), (by first | rfl | (simp; done) | (simp [*]; done)), H', ⟨by have := HJ2.out; have := HK2.out; first | omega | exact Nat.le_refl _⟩, ⟨by (with_reducible repeat (first | refine blk_drewN ?_ _ | refine blk_drew ?_ | refine blk_alloc ?_ _)); refine blk_far ?_ NB172_175.out _; (with_reducible repeat (first | refine blk_drewN ?_ _ | refine blk_drew ?_ | refine blk_alloc ?_ _)); refine blk_far ?_ NB172_175.out _; (with_reducible repeat (first | refine blk_drewN ?_ _ | refine blk_drew ?_ | refine blk_alloc ?_ _)); refine blk_far ?_ NB172_175.out _; (with_reducible repeat (first | refine blk_drewN ?_ _ | refine blk_drew ?_ | refine blk_alloc ?_ _)); refine blk_far ?_ NB172_175.out _; (with_reducible repeat (first | refine blk_drewN ?_ _ | refine blk_drew ?_ | refine blk_alloc ?_ _)); exact BK172.out⟩, ⟨by (with_reducible repeat (first | refine blk_drewN ?_ _ | refine blk_drew ?_ | refine blk_alloc ?_ _)); refine blk_put (cs := #[.int .i64 t187, .int .i64 t188, .int .i64 t189, .int .i64 x176003_2]) ?_ 3 _ rfl; (with_reducible repeat (first | refine blk_drewN ?_ _ | refine blk_drew ?_ | refine blk_alloc ?_ _)); refine blk_put (cs := #[.int .i64 t187, .int .i64 t188, .int .i64 x176002_2, .int .i64 x176003_2]) ?_ 2 _ rfl; (with_reducible repeat (first | refine blk_drewN ?_ _ | refine blk_drew ?_ | refine blk_alloc ?_ _)); refine blk_put (cs := #[.int .i64 t187, .int .i64 x176001_2, .int .i64 x176002_2, .int .i64 x176003_2]) ?_ 1 _ rfl; (with_reducible repeat (first | refine blk_drewN ?_ _ | refine blk_drew ?_ | refine blk_alloc ?_ _)); refine blk_put (cs := #[.int .i64 x176000_2, .int .i64 x176001_2, .int .i64 x176002_2, .int .i64 x176003_2]) ?_ 0 _ rfl; (with_reducible repeat (first | refine blk_drewN ?_ _ | refine blk_drew ?_ | refine blk_alloc ?_ _)); exact BK175.out⟩, ⟨by (with_reducible repeat (first | refine blk_drewN ?_ _ | refine blk_drew ?_ | refine blk_alloc ?_ _)); refine blk_far ?_ NB176_175.out _; (with_reducible repeat (first | refine blk_drewN ?_ _ | refine blk_drew ?_ | refine blk_alloc ?_ _)); refine blk_far ?_ NB176_175.out _; (with_reducible repeat (first | refine blk_drewN ?_ _ | refine blk_drew ?_ | refine blk_alloc ?_ _)); refine blk_far ?_ NB176_175.out _; (with_reducible repeat (first | refine blk_drewN ?_ _ | refine blk_drew ?_ | refine blk_alloc ?_ _)); refine blk_far ?_ NB176_175.out _; (with_reducible repeat (first | refine blk_drewN ?_ _ | refine blk_drew ?_ | refine blk_alloc ?_ _)); exact BK176.out⟩, ⟨by repeat (first | (with_reducible first | exact HB.out | apply below_alloc | apply pw_below_drewN | apply below_drew1 | refine below_set ?_ GE172.out | refine below_set ?_ GE175.out | refine below_set ?_ GE176.out) | exact HB.out)⟩⟩
         rw [if_neg c29] at H
         have c29b0 : decide (1 ≤ ((rd_T28 l1 x7_2).f0)) = false := decide_eq_false c29
         clear c29
         (first | rw [c29b0] | (simp only [i64_w, i32_w]; rw [c29b0]) | skip)
         have H' := Aside0.mk H; clear H
         go_wp2
         go_meet
         case rel => exact ⟨_, (false), (by first | rfl | (simp; done) | (simp [*]; done)), H', ⟨by have := HJ2.out; have := HK2.out; first | omega | exact Nat.le_refl _⟩, ⟨by (with_reducible repeat (first | refine blk_drewN ?_ _ | refine blk_drew ?_ | refine blk_alloc ?_ _)); refine blk_far ?_ NB172_175.out _; (with_reducible repeat (first | refine blk_drewN ?_ _ | refine blk_drew ?_ | refine blk_alloc ?_ _)); refine blk_far ?_ NB172_175.out _; (with_reducible repeat (first | refine blk_drewN ?_ _ | refine blk_drew ?_ | refine blk_alloc ?_ _)); refine blk_far ?_ NB172_175.out _; (with_reducible repeat (first | refine blk_drewN ?_ _ | refine blk_drew ?_ | refine blk_alloc ?_ _)); refine blk_far ?_ NB172_175.out _; (with_reducible repeat (first | refine blk_drewN ?_ _ | refine blk_drew ?_ | refine blk_alloc ?_ _)); exact BK172.out⟩, ⟨by (with_reducible repeat (first | refine blk_drewN ?_ _ | refine blk_drew ?_ | refine blk_alloc ?_ _)); refine blk_put (cs := #[.int .i64 t187, .int .i64 t188, .int .i64 t189, .int .i64 x176003_2]) ?_ 3 _ rfl; (with_reducible repeat (first | refine blk_drewN ?_ _ | refine blk_drew ?_ | refine blk_alloc ?_ _)); refine blk_put (cs := #[.int .i64 t187, .int .i64 t188, .int .i64 x176002_2, .int .i64 x176003_2]) ?_ 2 _ rfl; (with_reducible repeat (first | refine blk_drewN ?_ _ | refine blk_drew ?_ | refine blk_alloc ?_ _)); refine blk_put (cs := #[.int .i64 t187, .int .i64 x176001_2, .int .i64 x176002_2, .int .i64 x176003_2]) ?_ 1 _ rfl; (with_reducible repeat (first | refine blk_drewN ?_ _ | refine blk_drew ?_ | refine blk_alloc ?_ _)); refine blk_put (cs := #[.int .i64 x176000_2, .int .i64 x176001_2, .int .i64 x176002_2, .int .i64 x176003_2]) ?_ 0 _ rfl; (with_reducible repeat (first | refine blk_drewN ?_ _ | refine blk_drew ?_ | refine blk_alloc ?_ _)); exact BK175.out⟩, ⟨by (with_reducible repeat (first | refine blk_drewN ?_ _ | refine blk_drew ?_ | refine blk_alloc ?_ _)); refine blk_far ?_ NB176_175.out _; (with_reducible repeat (first | refine blk_drewN ?_ _ | refine blk_drew ?_ | refine blk_alloc ?_ _)); refine blk_far ?_ NB176_175.out _; (with_reducible repeat (first | refine blk_drewN ?_ _ | refine blk_drew ?_ | refine blk_alloc ?_ _)); refine blk_far ?_ NB176_175.out _; (with_reducible repeat (first | refine blk_drewN ?_ _ | refine blk_drew ?_ | refine blk_alloc ?_ _)); refine blk_far ?_ NB176_175.out _; (with_reducible repeat (first | refine blk_drewN ?_ _ | refine blk_drew ?_ | refine blk_alloc ?_ _)); exact BK176.out⟩, ⟨by repeat (first | (with_reducible first | exact HB.out | apply below_alloc | apply pw_below_drewN | apply below_drew1 | refine below_set ?_ GE172.out | refine below_set ?_ GE175.out | refine below_set ?_ GE176.out) | exact HB.out)⟩⟩
        case rest =>
         clear HC21; (try clear c1); (try clear p1); (try clear q1); (try clear hx1); (try clear c2); (try clear p2); (try clear c4); (try clear c6); (try clear c11); (try clear c12); (try clear c13); (try clear c16); (try clear c16b0); (try clear c17); (try clear c17b0); (try clear p18); (try clear q18); (try clear hx18); (try clear c19); (try clear p19); (try clear q19); (try clear hx19); (try clear c29); (try clear c29b0); (try clear hcz7_0); (try clear hcz7_1); (try clear hcz7_2); (try clear hcz7_3); (try clear hcz7_4); (try clear hcz7_5); (try clear hcz7_6); (try clear hcz7_7); (try clear hcz7_8); (try clear hcz9_0); (try clear hcz9_1); (try clear hcz9_2); (try clear hcz9_3); (try clear hcz9_4); (try clear hcz9_5); (try clear hcz9_6); (try clear hcz9_7); (try clear hcz9_8); (try clear hfz7_0); (try clear hfz7_1); (try clear hfz7_2); (try clear hfz7_3); (try clear hfz7_4); (try clear hfz7_5); (try clear hfz7_6); (try clear hfz7_7); (try clear hfz7_8); (try clear hfz9_0); (try clear hfz9_1); (try clear hfz9_2); (try clear hfz9_3); (try clear hfz9_4); (try clear hfz9_5); (try clear hfz9_6); (try clear hfz9_7); (try clear hfz9_8); (try clear hx183_0); (try clear hx183_1); (try clear hx183_2); (try clear hx183_3); (try clear hx183_4); (try clear hx183_5); (try clear hx186_0); (try clear hx186_1); (try clear hx186_2); (try clear hx186_3); (try clear hx186_4); (try clear hx186_5); (try clear hx191_0); (try clear hx191_1); (try clear hx191_2); (try clear hx191_3); (try clear hx191_4); (try clear hx191_5); (try clear p183); (try clear p186); (try clear p191); (try clear p2); (try clear q183); (try clear q186); (try clear q191)
         obtain ⟨kq, x48_20, rfl, HA, HJ20, BK172, BK175, BK176, HB⟩ := hcut
         cases kq with
         | zero => exact absurd HA.out (by simp [dormouselaw05_MeterAdds.j2])
         | succ kj20 =>
          have H := HA.out; clear HA
          simp only [dormouselaw05_MeterAdds.j2] at H
          by_cases c30 : x48_20 = true
          ·
           subst c30
           have H1 : ((dormouseref01_Min.f (wrap64 (((rd_T28 l1 x7_2).f0) - 1)) 3).bind fun t192 => ((dormouseref01_Min.f (wrap64 (((rd_T28 l1 x7_2).f0) - 1)) 3).bind fun t193 => (if 0 ≤ x7_2 then (if x7_2 < (l1.length : Int) then ((dormouseref01_Energy.f kj20 l0_0 l0_1 l0_2 a0_3 a0_4 a0_5 a0_6 a0_7 a0_8 ((rd_T28 l1 x7_2).f0) ((rd_T28 l1 x7_2).f1) ((rd_T28 l1 x7_2).f2) ((rd_T28 l1 x7_2).f3) ((rd_T28 l1 x7_2).f4) ((rd_T28 l1 x7_2).f5)).bind fun t195 => (if (0 ≤ t192 ∧ t192 < 4) ∧ (0 ≤ t193 ∧ t193 < 4) then (dormouselaw05_MeterAdds.l0 kj20 l1 (wrap64 (x7_2 + 1)) l0_0 l0_1 l0_2 a0_3 a0_4 a0_5 a0_6 a0_7 a0_8 t187 t188 t189 t190 (up 0 t192 x177000_2 (wrap64 ((rd4 x177000_2 x177001_2 x177002_2 x177003_2 t193) + t195))) (up 1 t192 x177001_2 (wrap64 ((rd4 x177000_2 x177001_2 x177002_2 x177003_2 t193) + t195))) (up 2 t192 x177002_2 (wrap64 ((rd4 x177000_2 x177001_2 x177002_2 x177003_2 t193) + t195))) (up 3 t192 x177003_2 (wrap64 ((rd4 x177000_2 x177001_2 x177002_2 x177003_2 t193) + t195)))) else (none))) else (none)) else (none)))) = some true := by rw [if_pos rfl] at H; exact H
           clear H; have H := H1; clear H1
           replace H := Option.bind_eq_some_iff.mp H
           obtain ⟨t192, A310, H⟩ := H
           replace H : ((dormouseref01_Min.f (wrap64 (((rd_T28 l1 x7_2).f0) - 1)) 3).bind fun t193 => (if 0 ≤ x7_2 then (if x7_2 < (l1.length : Int) then ((dormouseref01_Energy.f kj20 l0_0 l0_1 l0_2 a0_3 a0_4 a0_5 a0_6 a0_7 a0_8 ((rd_T28 l1 x7_2).f0) ((rd_T28 l1 x7_2).f1) ((rd_T28 l1 x7_2).f2) ((rd_T28 l1 x7_2).f3) ((rd_T28 l1 x7_2).f4) ((rd_T28 l1 x7_2).f5)).bind fun t195 => (if (0 ≤ t192 ∧ t192 < 4) ∧ (0 ≤ t193 ∧ t193 < 4) then (dormouselaw05_MeterAdds.l0 kj20 l1 (wrap64 (x7_2 + 1)) l0_0 l0_1 l0_2 a0_3 a0_4 a0_5 a0_6 a0_7 a0_8 t187 t188 t189 t190 (up 0 t192 x177000_2 (wrap64 ((rd4 x177000_2 x177001_2 x177002_2 x177003_2 t193) + t195))) (up 1 t192 x177001_2 (wrap64 ((rd4 x177000_2 x177001_2 x177002_2 x177003_2 t193) + t195))) (up 2 t192 x177002_2 (wrap64 ((rd4 x177000_2 x177001_2 x177002_2 x177003_2 t193) + t195))) (up 3 t192 x177003_2 (wrap64 ((rd4 x177000_2 x177001_2 x177002_2 x177003_2 t193) + t195)))) else (none))) else (none)) else (none))) = some true := H
           have A31 := Aside0.mk A310
           clear A310
           replace H := Option.bind_eq_some_iff.mp H
           obtain ⟨t193, A320, H⟩ := H
           replace H : (if 0 ≤ x7_2 then (if x7_2 < (l1.length : Int) then ((dormouseref01_Energy.f kj20 l0_0 l0_1 l0_2 a0_3 a0_4 a0_5 a0_6 a0_7 a0_8 ((rd_T28 l1 x7_2).f0) ((rd_T28 l1 x7_2).f1) ((rd_T28 l1 x7_2).f2) ((rd_T28 l1 x7_2).f3) ((rd_T28 l1 x7_2).f4) ((rd_T28 l1 x7_2).f5)).bind fun t195 => (if (0 ≤ t192 ∧ t192 < 4) ∧ (0 ≤ t193 ∧ t193 < 4) then (dormouselaw05_MeterAdds.l0 kj20 l1 (wrap64 (x7_2 + 1)) l0_0 l0_1 l0_2 a0_3 a0_4 a0_5 a0_6 a0_7 a0_8 t187 t188 t189 t190 (up 0 t192 x177000_2 (wrap64 ((rd4 x177000_2 x177001_2 x177002_2 x177003_2 t193) + t195))) (up 1 t192 x177001_2 (wrap64 ((rd4 x177000_2 x177001_2 x177002_2 x177003_2 t193) + t195))) (up 2 t192 x177002_2 (wrap64 ((rd4 x177000_2 x177001_2 x177002_2 x177003_2 t193) + t195))) (up 3 t192 x177003_2 (wrap64 ((rd4 x177000_2 x177001_2 x177002_2 x177003_2 t193) + t195)))) else (none))) else (none)) else (none)) = some true := H
           have A32 := Aside0.mk A320
           clear A320
           by_cases c33 : 0 ≤ x7_2
           ·
            rw [if_pos c33] at H
            have c33b0 : decide (0 ≤ x7_2) = true := decide_eq_true c33
            clear c33
            by_cases c34 : x7_2 < (l1.length : Int)
            ·
             rw [if_pos c34] at H
             have c34b0 : decide (x7_2 < (l1.length : Int)) = true := decide_eq_true c34
             clear c34
             replace H := Option.bind_eq_some_iff.mp H
             obtain ⟨t195, A350, H⟩ := H
             by_cases c35 : (0 ≤ t192 ∧ t192 < 4) ∧ (0 ≤ t193 ∧ t193 < 4)
             case neg => exact absurd H (by simp [c35])
             replace H : (dormouselaw05_MeterAdds.l0 kj20 l1 (wrap64 (x7_2 + 1)) l0_0 l0_1 l0_2 a0_3 a0_4 a0_5 a0_6 a0_7 a0_8 t187 t188 t189 t190 (up 0 t192 x177000_2 (wrap64 ((rd4 x177000_2 x177001_2 x177002_2 x177003_2 t193) + t195))) (up 1 t192 x177001_2 (wrap64 ((rd4 x177000_2 x177001_2 x177002_2 x177003_2 t193) + t195))) (up 2 t192 x177002_2 (wrap64 ((rd4 x177000_2 x177001_2 x177002_2 x177003_2 t193) + t195))) (up 3 t192 x177003_2 (wrap64 ((rd4 x177000_2 x177001_2 x177002_2 x177003_2 t193) + t195)))) = some true := by simp only [if_pos c35] at H; exact H
             have j192a := eq_true c35.1.1
             have j192b := eq_true c35.1.2
             have j193a := eq_true c35.2.1
             have j193b := eq_true c35.2.2
             have A35 := Aside0.mk A350
             clear A350; have H' := Aside0.mk H; clear H
             try go_wp2
             have n0_ := Aside0.mk (blk_drew BK172.out); have n1_ := Aside0.mk (blk_drew BK175.out); have n2_ := Aside0.mk (blk_drew BK176.out); have n3_ := Aside0.mk (below_drew1 HB.out); clear BK172; clear BK175; clear BK176; clear HB; have BK172 := n0_; have BK175 := n1_; have BK176 := n2_; have HB := n3_; clear n0_ n1_ n2_ n3_
             have p194 : 0 ≤ (x7_2 : Int) := of_decide_eq_true (by first | (with_reducible assumption) | assumption)
             have q194 : x7_2 < (l1.length : Int) := of_decide_eq_true (by first | (with_reducible assumption) | assumption)
             obtain ⟨ad194, e194, hx194_0, hx194_1, hx194_2, hx194_3, hx194_4, hx194_5⟩ := at_T28 HR1.out x7_2 p194 q194
             have hw194_5 := hx194_5
             have hw194_4 := hx194_4
             have hw194_3 := hx194_3
             have hw194_2 := hx194_2
             have hw194_1 := hx194_1
             have hw194_0 := hx194_0
             obtain rfl : ad183 = ad194 := (by injection e194)
             replace hx194_0 := (HB.out.cell (World.block_lt_of_cell? w _ hx194_0)).trans hx194_0
             replace hx194_1 := (HB.out.cell (World.block_lt_of_cell? w _ hx194_1)).trans hx194_1
             replace hx194_2 := (HB.out.cell (World.block_lt_of_cell? w _ hx194_2)).trans hx194_2
             replace hx194_3 := (HB.out.cell (World.block_lt_of_cell? w _ hx194_3)).trans hx194_3
             replace hx194_4 := (HB.out.cell (World.block_lt_of_cell? w _ hx194_4)).trans hx194_4
             replace hx194_5 := (HB.out.cell (World.block_lt_of_cell? w _ hx194_5)).trans hx194_5
             replace p194 := eq_true p194
             replace q194 := eq_true q194
             refine start_ (n := 17) (S := fun w' => w'.cell? ⟨gb172, 0, none⟩ = some (.slice A0_0 l0_0.length c0_0) ∧ w'.cell? ⟨gb172, 1, none⟩ = some (.slice A0_1 l0_1.length c0_1) ∧ w'.cell? ⟨gb172, 2, none⟩ = some (.slice A0_2 l0_2.length c0_2) ∧ w'.cell? ⟨gb172, 3, none⟩ = some (.int .i64 a0_3) ∧ w'.cell? ⟨gb172, 4, none⟩ = some (.int .i64 a0_4) ∧ w'.cell? ⟨gb172, 5, none⟩ = some (.int .i64 a0_5) ∧ w'.cell? ⟨gb172, 6, none⟩ = some (.int .i64 a0_6) ∧ w'.cell? ⟨gb172, 7, none⟩ = some (.int .i64 a0_7) ∧ w'.cell? ⟨gb172, 8, none⟩ = some (.int .i64 a0_8) ∧ w'.cell? ⟨gb176, 0, none⟩ = some (.int .i64 x177000_2) ∧ w'.cell? ⟨gb176, 1, none⟩ = some (.int .i64 x177001_2) ∧ w'.cell? ⟨gb176, 2, none⟩ = some (.int .i64 x177002_2) ∧ w'.cell? ⟨gb176, 3, none⟩ = some (.int .i64 x177003_2) ∧ w'.cell? (ad183.add ((x7_2).toNat * 6)) = some (.int .i64 ((rd_T28 l1 x7_2).f0)) ∧ w'.cell? ⟨(ad183.add ((x7_2).toNat * 6)).block, (ad183.add ((x7_2).toNat * 6)).off + 1, none⟩ = some (.int .i64 ((rd_T28 l1 x7_2).f1)) ∧ w'.cell? ⟨(ad183.add ((x7_2).toNat * 6)).block, (ad183.add ((x7_2).toNat * 6)).off + 2, none⟩ = some (.int .i64 ((rd_T28 l1 x7_2).f2)) ∧ w'.cell? ⟨(ad183.add ((x7_2).toNat * 6)).block, (ad183.add ((x7_2).toNat * 6)).off + 3, none⟩ = some (.int .i64 ((rd_T28 l1 x7_2).f3)) ∧ w'.cell? ⟨(ad183.add ((x7_2).toNat * 6)).block, (ad183.add ((x7_2).toNat * 6)).off + 4, none⟩ = some (.int .i64 ((rd_T28 l1 x7_2).f4)) ∧ w'.cell? ⟨(ad183.add ((x7_2).toNat * 6)).block, (ad183.add ((x7_2).toNat * 6)).off + 5, none⟩ = some (.int .i64 ((rd_T28 l1 x7_2).f5)) ∧ w'.cell? ⟨gb176, (t193).toNat, none⟩ = some (.int .i64 (rd4 x177000_2 x177001_2 x177002_2 x177003_2 t193))) (ds := [16]) #[false, false, false, false, false, false, false, false, false, false, false, false, false, false, false, false, false] (by kernel_rfl) rfl rfl ⟨(blk_cell BK172.out 0).trans rfl, (blk_cell BK172.out 1).trans rfl, (blk_cell BK172.out 2).trans rfl, (blk_cell BK172.out 3).trans rfl, (blk_cell BK172.out 4).trans rfl, (blk_cell BK172.out 5).trans rfl, (blk_cell BK172.out 6).trans rfl, (blk_cell BK172.out 7).trans rfl, (blk_cell BK172.out 8).trans rfl, (blk_cell BK176.out 0).trans rfl, (blk_cell BK176.out 1).trans rfl, (blk_cell BK176.out 2).trans rfl, (blk_cell BK176.out 3).trans rfl, ((HB.out.cell (World.block_lt_of_cell? w _ hw194_0)).trans hw194_0), ((HB.out.cell (World.block_lt_of_cell? w _ hw194_1)).trans hw194_1), ((HB.out.cell (World.block_lt_of_cell? w _ hw194_2)).trans hw194_2), ((HB.out.cell (World.block_lt_of_cell? w _ hw194_3)).trans hw194_3), ((HB.out.cell (World.block_lt_of_cell? w _ hw194_4)).trans hw194_4), ((HB.out.cell (World.block_lt_of_cell? w _ hw194_5)).trans hw194_5), cell4_at BK176.out t193 c35.2.1 c35.2.2⟩ (fun hHeld => ?_); refine with_tabW dormouselaw05_MeterAdds.tab13 dormouselaw05_MeterAdds.bits13 (fun HT_ HW_ => ?_)
             generalize wc.drew = w36 at BK172 BK175 BK176 HB hx194_0 hx194_1 hx194_2 hx194_3 hx194_4 hx194_5 hHeld ⊢
             refine pure_ (i := 0) (N := some 49) (v := ?_) (a' := ?_) #[true, false, false, false, false, false, false, false, false, false, false, false, false, false, false, false, false] rfl rfl (any_of HT_.out (by kernel_rfl)) (fun _ _ _ h => h) (Or.inl ⟨by rfl, ?_⟩) ?_ ?_; rotate_left; (· (intro w'; go_simp; with_reducible rfl)); rotate_left; (· (simp only [Act.put, zAf4, zBf4, zCf4, i64_w, i32_w]; rfl))
             refine pure_ (i := 1) (N := some 50) (v := ?_) (a' := ?_) #[true, true, false, false, false, false, false, false, false, false, false, false, false, false, false, false, false] rfl rfl (any_of HT_.out (by kernel_rfl)) (fun _ _ _ h => h) (Or.inl ⟨by rfl, ?_⟩) ?_ ?_; rotate_left; (· (intro w'; go_simp; with_reducible rfl)); rotate_left; (· (simp only [Act.put, zAf4, zBf4, zCf4, i64_w, i32_w]; rfl))
             refine pure_ (i := 3) (N := some 52) (v := ?_) (a' := ?_) #[true, true, false, true, false, false, false, false, false, false, false, false, false, false, false, false, false] rfl rfl (any_of HT_.out (by kernel_rfl)) (fun _ _ _ h => h) (Or.inl ⟨by rfl, ?_⟩) ?_ ?_; rotate_left; (· (intro w'; go_simp; with_reducible rfl)); rotate_left; (· (simp only [Act.put, zAf4, zBf4, zCf4, i64_w, i32_w]; rfl))
             refine pure_ (i := 4) (N := some 53) (v := ?_) (a' := ?_) #[true, true, false, true, true, false, false, false, false, false, false, false, false, false, false, false, false] rfl rfl (any_of HT_.out (by kernel_rfl)) (fun _ _ _ h => h) (Or.inl ⟨by rfl, ?_⟩) ?_ ?_; rotate_left; (· (intro w'; go_simp; with_reducible rfl)); rotate_left; (· (simp only [Act.put, zAf4, zBf4, zCf4, i64_w, i32_w]; rfl))
             refine pure_ (i := 9) (N := some 58) (v := ?_) (a' := ?_) #[true, true, false, true, true, false, false, false, false, true, false, false, false, false, false, false, false] rfl rfl (any_of HT_.out (by kernel_rfl)) (fun _ _ _ h => h) (Or.inl ⟨by rfl, ?_⟩) ?_ ?_; rotate_left; (· (intro w'; go_simp; with_reducible rfl)); rotate_left; (· (simp only [Act.put, zAf4, zBf4, zCf4, i64_w, i32_w]; rfl))
             refine pure_ (i := 10) (N := some 59) (v := ?_) (a' := ?_) #[true, true, false, true, true, false, false, false, false, true, true, false, false, false, false, false, false] rfl rfl (any_of HT_.out (by kernel_rfl)) (fun _ _ _ h => h) (Or.inl ⟨by rfl, ?_⟩) ?_ ?_; rotate_left; (· (intro w'; go_simp; with_reducible rfl)); rotate_left; (· (simp only [Act.put, zAf4, zBf4, zCf4, i64_w, i32_w]; rfl))
             refine pure_ (i := 11) (N := some 60) (v := ?_) (a' := ?_) #[true, true, false, true, true, false, false, false, false, true, true, true, false, false, false, false, false] rfl rfl (any_of HT_.out (by kernel_rfl)) (fun _ _ _ h => h) (Or.inl ⟨by rfl, ?_⟩) ?_ ?_; rotate_left; (· (intro w'; go_simp; with_reducible rfl)); rotate_left; (· (simp only [Act.put, zAf4, zBf4, zCf4, i64_w, i32_w]; rfl))
             refine take_ (i := 8) (N := some 57) (v := ?_) (a' := ?_) #[true, true, false, true, true, false, false, false, true, true, true, true, false, false, false, false, false] rfl rfl (take_ofW HT_.out HW_.out (by kernel_rfl)) (fun _ _ _ h => h) (Or.inl ⟨by rfl, ?_⟩) hHeld ?_ ?_; rotate_left; (· (rintro w' ⟨s0, s1, s2, s3, s4, s5, s6, s7, s8, s9, s10, s11, s12, s13, s14, s15, s16, s17, s18, s19⟩; go_simp; with_reducible rfl)); rotate_left; (· (simp only [Act.put, zAf4, zBf4, zCf4, i64_w, i32_w]; rfl))
             refine take_ (i := 12) (N := some 61) (v := ?_) (a' := ?_) #[true, true, false, true, true, false, false, false, true, true, true, true, true, false, false, false, false] rfl rfl (take_ofW HT_.out HW_.out (by kernel_rfl)) (fun _ _ _ h => h) (Or.inl ⟨by rfl, ?_⟩) hHeld ?_ ?_; rotate_left; (· (rintro w' ⟨s0, s1, s2, s3, s4, s5, s6, s7, s8, s9, s10, s11, s12, s13, s14, s15, s16, s17, s18, s19⟩; go_simp; with_reducible rfl)); rotate_left; (· (simp only [Act.put, zAf4, zBf4, zCf4, i64_w, i32_w]; rfl))
             refine one_ (i := 2) (N := some 51) #[true, true, true, true, true, false, false, false, true, true, true, true, true, false, false, false, false] rfl rfl (one_of HT_.out (by kernel_rfl)) (by decide) (fun K hK => ?_)
             refine goes_ Try.func17 (by kernel_rfl) rfl #[.int .i64 (wrap64 (((rd_T28 l1 x7_2).f0) - 1)), .int .i64 3] (by rfl) rfl rfl (by (try simp only [List.map_toArray, List.map_cons, List.map_nil]); first | done | rfl | (simp only [List.length_drop, List.length_take]; rfl)) ?_
             with_reducible refine (dormouseref01_Min.calls (wrap64 (((rd_T28 l1 x7_2).f0) - 1)) 3 t192 _ A31.out).mono ?_
             rintro e w' ⟨rfl, ⟨nd, rfl⟩⟩
             refine ⟨_, rfl, ?_⟩
             refine hK.out _ _ ⟨(blk_cell BK172.out 0).trans rfl, (blk_cell BK172.out 1).trans rfl, (blk_cell BK172.out 2).trans rfl, (blk_cell BK172.out 3).trans rfl, (blk_cell BK172.out 4).trans rfl, (blk_cell BK172.out 5).trans rfl, (blk_cell BK172.out 6).trans rfl, (blk_cell BK172.out 7).trans rfl, (blk_cell BK172.out 8).trans rfl, (blk_cell BK176.out 0).trans rfl, (blk_cell BK176.out 1).trans rfl, (blk_cell BK176.out 2).trans rfl, (blk_cell BK176.out 3).trans rfl, ((HB.out.cell (World.block_lt_of_cell? w _ hw194_0)).trans hw194_0), ((HB.out.cell (World.block_lt_of_cell? w _ hw194_1)).trans hw194_1), ((HB.out.cell (World.block_lt_of_cell? w _ hw194_2)).trans hw194_2), ((HB.out.cell (World.block_lt_of_cell? w _ hw194_3)).trans hw194_3), ((HB.out.cell (World.block_lt_of_cell? w _ hw194_4)).trans hw194_4), ((HB.out.cell (World.block_lt_of_cell? w _ hw194_5)).trans hw194_5), cell4_at BK176.out t193 c35.2.1 c35.2.2⟩ (fun hHeld => ?_)
             clear hK K
             refine norm_ (a' := ?_) ?_ ?_
             rotate_left
             ·
              show Act.put _ (some 51) _ = _
              simp only [Act.put, zAf4, zBf4, zCf4, i64_w, i32_w]
              rfl
             refine one_ (i := 5) (N := some 54) #[true, true, true, true, true, true, false, false, true, true, true, true, true, false, false, false, false] rfl rfl (one_of HT_.out (by kernel_rfl)) (by decide) (fun K hK => ?_)
             refine goes_ Try.func17 (by kernel_rfl) rfl #[.int .i64 (wrap64 (((rd_T28 l1 x7_2).f0) - 1)), .int .i64 3] (by rfl) rfl rfl (by (try simp only [List.map_toArray, List.map_cons, List.map_nil]); first | done | rfl | (simp only [List.length_drop, List.length_take]; rfl)) ?_
             with_reducible refine (dormouseref01_Min.calls (wrap64 (((rd_T28 l1 x7_2).f0) - 1)) 3 t193 _ A32.out).mono ?_
             rintro e w' ⟨rfl, ⟨nd, rfl⟩⟩
             refine ⟨_, rfl, ?_⟩
             refine hK.out _ _ ⟨(blk_cell BK172.out 0).trans rfl, (blk_cell BK172.out 1).trans rfl, (blk_cell BK172.out 2).trans rfl, (blk_cell BK172.out 3).trans rfl, (blk_cell BK172.out 4).trans rfl, (blk_cell BK172.out 5).trans rfl, (blk_cell BK172.out 6).trans rfl, (blk_cell BK172.out 7).trans rfl, (blk_cell BK172.out 8).trans rfl, (blk_cell BK176.out 0).trans rfl, (blk_cell BK176.out 1).trans rfl, (blk_cell BK176.out 2).trans rfl, (blk_cell BK176.out 3).trans rfl, ((HB.out.cell (World.block_lt_of_cell? w _ hw194_0)).trans hw194_0), ((HB.out.cell (World.block_lt_of_cell? w _ hw194_1)).trans hw194_1), ((HB.out.cell (World.block_lt_of_cell? w _ hw194_2)).trans hw194_2), ((HB.out.cell (World.block_lt_of_cell? w _ hw194_3)).trans hw194_3), ((HB.out.cell (World.block_lt_of_cell? w _ hw194_4)).trans hw194_4), ((HB.out.cell (World.block_lt_of_cell? w _ hw194_5)).trans hw194_5), cell4_at BK176.out t193 c35.2.1 c35.2.2⟩ (fun hHeld => ?_)
             clear hK K
             refine norm_ (a' := ?_) ?_ ?_
             rotate_left
             ·
              show Act.put _ (some 54) _ = _
              simp only [Act.put, zAf4, zBf4, zCf4, i64_w, i32_w]
              rfl
             refine pure_ (i := 6) (N := some 55) (v := ?_) (a' := ?_) #[true, true, true, true, true, true, true, false, true, true, true, true, true, false, false, false, false] rfl rfl (any_of HT_.out (by kernel_rfl)) (fun _ _ _ h => h) (Or.inl ⟨by rfl, ?_⟩) ?_ ?_; rotate_left; (· (intro w'; go_simp; with_reducible rfl)); rotate_left; (· (simp only [Act.put, zAf4, zBf4, zCf4, i64_w, i32_w]; rfl))
             refine take_ (i := 7) (N := some 56) (v := ?_) (a' := ?_) #[true, true, true, true, true, true, true, true, true, true, true, true, true, false, false, false, false] rfl rfl (take_ofW HT_.out HW_.out (by kernel_rfl)) (fun _ _ _ h => h) (Or.inl ⟨by rfl, ?_⟩) hHeld ?_ ?_; rotate_left; (· (rintro w' ⟨s0, s1, s2, s3, s4, s5, s6, s7, s8, s9, s10, s11, s12, s13, s14, s15, s16, s17, s18, s19⟩; go_simp; with_reducible rfl)); rotate_left; (· (simp only [Act.put, zAf4, zBf4, zCf4, i64_w, i32_w]; rfl))
             refine one_ (i := 13) (N := some 62) #[true, true, true, true, true, true, true, true, true, true, true, true, true, true, false, false, false] rfl rfl (one_of HT_.out (by kernel_rfl)) (by decide) (fun K hK => ?_)
             refine goes_ Try.func15 (by kernel_rfl) rfl #[.agg #[.slice A0_0 l0_0.length c0_0, .slice A0_1 l0_1.length c0_1, .slice A0_2 l0_2.length c0_2, .int .i64 a0_3, .int .i64 a0_4, .int .i64 a0_5, .int .i64 a0_6, .int .i64 a0_7, .int .i64 a0_8], .agg #[.int .i64 ((rd_T28 l1 x7_2).f0), .int .i64 ((rd_T28 l1 x7_2).f1), .int .i64 ((rd_T28 l1 x7_2).f2), .int .i64 ((rd_T28 l1 x7_2).f3), .int .i64 ((rd_T28 l1 x7_2).f4), .int .i64 ((rd_T28 l1 x7_2).f5)]] (by rfl) rfl rfl (by (try simp only [List.map_toArray, List.map_cons, List.map_nil]); first | done | rfl | (simp only [List.length_drop, List.length_take]; rfl)) ?_
             with_reducible refine (dormouseref01_Energy.calls kj20 _ _ l0_0 _ _ l0_1 _ _ l0_2 a0_3 a0_4 a0_5 a0_6 a0_7 a0_8 ((rd_T28 l1 x7_2).f0) ((rd_T28 l1 x7_2).f1) ((rd_T28 l1 x7_2).f2) ((rd_T28 l1 x7_2).f3) ((rd_T28 l1 x7_2).f4) ((rd_T28 l1 x7_2).f5) t195 _ ?side1 ?side2 ?side3 ?side4 ?side5 ?side6 A35.out).mono ?_
             (case side1 => repeat (first | exact (Kd.C_below HR0_0.out (by repeat (first | (with_reducible first | exact HB.out | apply below_alloc | apply pw_below_drewN | apply below_drew1 | refine below_set ?_ GE172.out | refine below_set ?_ GE175.out | refine below_set ?_ GE176.out) | exact HB.out))) | (with_reducible refine Kd.C_alloc ?_ _) | (with_reducible refine Kd.C_drewN ?_ _) | (with_reducible refine Kd.C_drew ?_)))
             (case side2 => exact HC0_0.out)
             (case side3 => repeat (first | exact (Kd.C_below HR0_1.out (by repeat (first | (with_reducible first | exact HB.out | apply below_alloc | apply pw_below_drewN | apply below_drew1 | refine below_set ?_ GE172.out | refine below_set ?_ GE175.out | refine below_set ?_ GE176.out) | exact HB.out))) | (with_reducible refine Kd.C_alloc ?_ _) | (with_reducible refine Kd.C_drewN ?_ _) | (with_reducible refine Kd.C_drew ?_)))
             (case side4 => exact HC0_1.out)
             (case side5 => repeat (first | exact (Kd.C_below HR0_2.out (by repeat (first | (with_reducible first | exact HB.out | apply below_alloc | apply pw_below_drewN | apply below_drew1 | refine below_set ?_ GE172.out | refine below_set ?_ GE175.out | refine below_set ?_ GE176.out) | exact HB.out))) | (with_reducible refine Kd.C_alloc ?_ _) | (with_reducible refine Kd.C_drewN ?_ _) | (with_reducible refine Kd.C_drew ?_)))
             (case side6 => exact HC0_2.out)
             rintro e w37 ⟨rfl, hb⟩
             refine ⟨_, rfl, ?_⟩
             have n0_ := Aside0.mk (blk_below (g := gb172) (o := .cells #[.slice A0_0 l0_0.length c0_0, .slice A0_1 l0_1.length c0_1, .slice A0_2 l0_2.length c0_2, .int .i64 a0_3, .int .i64 a0_4, .int .i64 a0_5, .int .i64 a0_6, .int .i64 a0_7, .int .i64 a0_8] 26 (0, 0)) (by (with_reducible repeat (first | refine blk_drewN ?_ _ | refine blk_drew ?_ | refine blk_alloc ?_ _)); exact BK172.out) hb); have n1_ := Aside0.mk (blk_below (g := gb175) (o := .cells #[.int .i64 t187, .int .i64 t188, .int .i64 t189, .int .i64 t190] 36 (0, 0)) (by (with_reducible repeat (first | refine blk_drewN ?_ _ | refine blk_drew ?_ | refine blk_alloc ?_ _)); exact BK175.out) hb); have n2_ := Aside0.mk (blk_below (g := gb176) (o := .cells #[.int .i64 x177000_2, .int .i64 x177001_2, .int .i64 x177002_2, .int .i64 x177003_2] 37 (0, 0)) (by (with_reducible repeat (first | refine blk_drewN ?_ _ | refine blk_drew ?_ | refine blk_alloc ?_ _)); exact BK176.out) hb); have n3_ := Aside0.mk (below_step (by repeat (first | (with_reducible first | exact HB.out | apply below_alloc | apply pw_below_drewN | apply below_drew1 | refine below_set ?_ GE172.out | refine below_set ?_ GE175.out | refine below_set ?_ GE176.out) | exact HB.out)) hb); clear BK172; clear BK175; clear BK176; clear HB; have BK172 := n0_; have BK175 := n1_; have BK176 := n2_; have HB := n3_; clear n0_ n1_ n2_ n3_; (try clear hb); (try clear hb2); (try clear hk); (try clear hi)
             refine hK.out _ _ ⟨(blk_cell BK172.out 0).trans rfl, (blk_cell BK172.out 1).trans rfl, (blk_cell BK172.out 2).trans rfl, (blk_cell BK172.out 3).trans rfl, (blk_cell BK172.out 4).trans rfl, (blk_cell BK172.out 5).trans rfl, (blk_cell BK172.out 6).trans rfl, (blk_cell BK172.out 7).trans rfl, (blk_cell BK172.out 8).trans rfl, (blk_cell BK176.out 0).trans rfl, (blk_cell BK176.out 1).trans rfl, (blk_cell BK176.out 2).trans rfl, (blk_cell BK176.out 3).trans rfl, ((HB.out.cell (World.block_lt_of_cell? w _ hw194_0)).trans hw194_0), ((HB.out.cell (World.block_lt_of_cell? w _ hw194_1)).trans hw194_1), ((HB.out.cell (World.block_lt_of_cell? w _ hw194_2)).trans hw194_2), ((HB.out.cell (World.block_lt_of_cell? w _ hw194_3)).trans hw194_3), ((HB.out.cell (World.block_lt_of_cell? w _ hw194_4)).trans hw194_4), ((HB.out.cell (World.block_lt_of_cell? w _ hw194_5)).trans hw194_5), cell4_at BK176.out t193 c35.2.1 c35.2.2⟩ (fun hHeld => ?_)
             clear hK K
             refine norm_ (a' := ?_) ?_ ?_
             rotate_left
             ·
              show Act.put _ (some 62) _ = _
              simp only [Act.put, zAf4, zBf4, zCf4, i64_w, i32_w]
              rfl
             refine pure_ (i := 14) (N := some 63) (v := ?_) (a' := ?_) #[true, true, true, true, true, true, true, true, true, true, true, true, true, true, true, false, false] rfl rfl (any_of HT_.out (by kernel_rfl)) (fun _ _ _ h => h) (Or.inl ⟨by rfl, ?_⟩) ?_ ?_; rotate_left; (· (intro w'; go_simp; with_reducible rfl)); rotate_left; (· (simp only [Act.put, zAf4, zBf4, zCf4, i64_w, i32_w]; rfl))
             refine pure_ (i := 15) (N := some 64) (v := ?_) (a' := ?_) #[true, true, true, true, true, true, true, true, true, true, true, true, true, true, true, true, false] rfl rfl (any_of HT_.out (by kernel_rfl)) (fun _ _ _ h => h) (Or.inl ⟨by rfl, ?_⟩) ?_ ?_; rotate_left; (· (intro w'; go_simp; with_reducible rfl)); rotate_left; (· (simp only [Act.put, zAf4, zBf4, zCf4, i64_w, i32_w]; rfl))
             refine last_ (i := 16) (N := none) #[true, true, true, true, true, true, true, true, true, true, true, true, true, true, true, true, true] rfl rfl (one_of HT_.out (by kernel_rfl)) (by decide) (fun K hK => ?_)
             have hs38 := cell4_at BK176.out t192 c35.1.1 c35.1.2
             have hfs38 := blk_frozen BK176.out t192.toNat
             have hns38_0 := NB172_176.out
             have hns38_1 := NB175_176.out
             have hms38_0 := NB176_172.out
             have hms38_1 := NB176_175.out
             refine skip_ (w1 := ?_) (by rfl) rfl ?_ ?_
             rotate_left
             · (go_simp; rfl)
             refine hK.out _ _ ?_
             clear hK K
             refine done_ (done_of HT_.out (by kernel_rfl)) ?_
             try go_wp2
             go_roundg kj20
             case measure => have := HJ2.out; have := HK2.out; have := HJ20.out; omega
             case rel => exact ⟨(wrap64 (x7_2 + 1)), (t187), (t188), (t189), (t190), (up 0 t192 x177000_2 (wrap64 ((rd4 x177000_2 x177001_2 x177002_2 x177003_2 t193) + t195))), (up 1 t192 x177001_2 (wrap64 ((rd4 x177000_2 x177001_2 x177002_2 x177003_2 t193) + t195))), (up 2 t192 x177002_2 (wrap64 ((rd4 x177000_2 x177001_2 x177002_2 x177003_2 t193) + t195))), (up 3 t192 x177003_2 (wrap64 ((rd4 x177000_2 x177001_2 x177002_2 x177003_2 t193) + t195))), (by first | rfl | (simp; done) | (simp [*]; done)), H', ⟨by have := HJ2.out; have := HK2.out; have := HJ20.out; omega⟩, ⟨by (with_reducible repeat (first | refine blk_drewN ?_ _ | refine blk_drew ?_ | refine blk_alloc ?_ _)); refine blk_far ?_ NB172_176.out _; (with_reducible repeat (first | refine blk_drewN ?_ _ | refine blk_drew ?_ | refine blk_alloc ?_ _)); exact BK172.out⟩, ⟨by (with_reducible repeat (first | refine blk_drewN ?_ _ | refine blk_drew ?_ | refine blk_alloc ?_ _)); refine blk_far ?_ NB175_176.out _; (with_reducible repeat (first | refine blk_drewN ?_ _ | refine blk_drew ?_ | refine blk_alloc ?_ _)); exact BK175.out⟩, ⟨by (with_reducible repeat (first | refine blk_drewN ?_ _ | refine blk_drew ?_ | refine blk_alloc ?_ _)); refine blk_put (cs := #[.int .i64 x177000_2, .int .i64 x177001_2, .int .i64 x177002_2, .int .i64 x177003_2]) ?_ t192.toNat _ (put4_at _ _ _ _ _ t192 c35.1.1 c35.1.2); (with_reducible repeat (first | refine blk_drewN ?_ _ | refine blk_drew ?_ | refine blk_alloc ?_ _)); exact BK176.out⟩, ⟨by repeat (first | (with_reducible first | exact HB.out | apply below_alloc | apply pw_below_drewN | apply below_drew1 | refine below_set ?_ GE172.out | refine below_set ?_ GE175.out | refine below_set ?_ GE176.out) | exact HB.out)⟩⟩
            rw [if_neg c34] at H
            exact absurd H (by simp)
           rw [if_neg c33] at H
           exact absurd H (by simp)
          replace c30 := Bool.eq_false_iff.mpr c30
          subst c30
          have H1 : (dormouselaw05_MeterAdds.l0 kj20 l1 (wrap64 (x7_2 + 1)) l0_0 l0_1 l0_2 a0_3 a0_4 a0_5 a0_6 a0_7 a0_8 t187 t188 t189 t190 x177000_2 x177001_2 x177002_2 x177003_2) = some true := by rw [if_neg (show ¬ (false = true) by decide)] at H; exact H
          clear H; have H := H1; clear H1; have H' := Aside0.mk H; clear H
          go_wp2
          go_roundg kj20
          case measure => have := HJ2.out; have := HK2.out; have := HJ20.out; omega
          case rel => exact ⟨(wrap64 (x7_2 + 1)), (t187), (t188), (t189), (t190), (x177000_2), (x177001_2), (x177002_2), (x177003_2), (by first | rfl | (simp; done) | (simp [*]; done)), H', ⟨by have := HJ2.out; have := HK2.out; have := HJ20.out; omega⟩, ⟨by (with_reducible repeat (first | refine blk_drewN ?_ _ | refine blk_drew ?_ | refine blk_alloc ?_ _)); exact BK172.out⟩, ⟨by (with_reducible repeat (first | refine blk_drewN ?_ _ | refine blk_drew ?_ | refine blk_alloc ?_ _)); exact BK175.out⟩, ⟨by (with_reducible repeat (first | refine blk_drewN ?_ _ | refine blk_drew ?_ | refine blk_alloc ?_ _)); exact BK176.out⟩, ⟨by repeat (first | (with_reducible first | exact HB.out | apply below_alloc | apply pw_below_drewN | apply below_drew1 | refine below_set ?_ GE172.out | refine below_set ?_ GE175.out | refine below_set ?_ GE176.out) | exact HB.out)⟩⟩
       replace c19 := Bool.eq_false_iff.mpr c19
       subst c19
       have H1 : ((dormouselaw05_answers.f).bind fun t185 => (some t185)) = some true := by rw [if_neg (show ¬ (false = true) by decide)] at H; exact H
       clear H; have H := H1; clear H1
       replace H := Option.bind_eq_some_iff.mp H
       obtain ⟨t185, A420, H⟩ := H
       replace H : (some t185) = some true := H
       have A42 := Aside0.mk A420
       clear A420; have HR_ := Aside0.mk (Option.some.inj H)
       have p183 : 0 ≤ (x7_2 : Int) := of_decide_eq_true (by first | (with_reducible assumption) | assumption)
       have q183 : x7_2 < (l1.length : Int) := of_decide_eq_true (by first | (with_reducible assumption) | assumption)
       obtain ⟨ad183, e183, hx183_0, hx183_1, hx183_2, hx183_3, hx183_4, hx183_5⟩ := at_T28 HR1.out x7_2 p183 q183
       cases e183
       replace hx183_0 := (HB.out.cell (World.block_lt_of_cell? w _ hx183_0)).trans hx183_0
       replace hx183_1 := (HB.out.cell (World.block_lt_of_cell? w _ hx183_1)).trans hx183_1
       replace hx183_2 := (HB.out.cell (World.block_lt_of_cell? w _ hx183_2)).trans hx183_2
       replace hx183_3 := (HB.out.cell (World.block_lt_of_cell? w _ hx183_3)).trans hx183_3
       replace hx183_4 := (HB.out.cell (World.block_lt_of_cell? w _ hx183_4)).trans hx183_4
       replace hx183_5 := (HB.out.cell (World.block_lt_of_cell? w _ hx183_5)).trans hx183_5
       replace p183 := eq_true p183
       replace q183 := eq_true q183
       go_wp2_with (first | ((with_reducible refine gate_callee (f := 12) rfl ?_); refine goesL_ (some 28) rfl rfl Try.func12 (by kernel_rfl) rfl #[.agg #[.int .i64 ((rd_T28 l1 x7_2).f0), .int .i64 ((rd_T28 l1 x7_2).f1), .int .i64 ((rd_T28 l1 x7_2).f2), .int .i64 ((rd_T28 l1 x7_2).f3), .int .i64 ((rd_T28 l1 x7_2).f4), .int .i64 ((rd_T28 l1 x7_2).f5)]] rfl (by (try simp only [List.map_toArray, List.map_cons, List.map_nil]); first | done | rfl | (simp only [List.length_drop, List.length_take]; rfl)) ?_; (with_reducible refine (dormouselaw05_small.calls ((rd_T28 l1 x7_2).f0) ((rd_T28 l1 x7_2).f1) ((rd_T28 l1 x7_2).f2) ((rd_T28 l1 x7_2).f3) ((rd_T28 l1 x7_2).f4) ((rd_T28 l1 x7_2).f5) false _ A18.out).mono ?_); rintro e w43 ⟨rfl, hb⟩; refine ⟨_, rfl, ?_⟩; have n0_ := Aside0.mk (blk_below (g := gb172) (o := .cells #[.slice A0_0 l0_0.length c0_0, .slice A0_1 l0_1.length c0_1, .slice A0_2 l0_2.length c0_2, .int .i64 a0_3, .int .i64 a0_4, .int .i64 a0_5, .int .i64 a0_6, .int .i64 a0_7, .int .i64 a0_8] 26 (0, 0)) (by (with_reducible repeat (first | refine blk_drewN ?_ _ | refine blk_drew ?_ | refine blk_alloc ?_ _)); exact BK172.out) hb); have n1_ := Aside0.mk (blk_below (g := gb175) (o := .cells #[.int .i64 x176000_2, .int .i64 x176001_2, .int .i64 x176002_2, .int .i64 x176003_2] 36 (0, 0)) (by (with_reducible repeat (first | refine blk_drewN ?_ _ | refine blk_drew ?_ | refine blk_alloc ?_ _)); exact BK175.out) hb); have n2_ := Aside0.mk (blk_below (g := gb176) (o := .cells #[.int .i64 x177000_2, .int .i64 x177001_2, .int .i64 x177002_2, .int .i64 x177003_2] 37 (0, 0)) (by (with_reducible repeat (first | refine blk_drewN ?_ _ | refine blk_drew ?_ | refine blk_alloc ?_ _)); exact BK176.out) hb); have n3_ := Aside0.mk (below_step (by repeat (first | (with_reducible first | exact HB.out | apply below_alloc | apply pw_below_drewN | apply below_drew1 | refine below_set ?_ GE172.out | refine below_set ?_ GE175.out | refine below_set ?_ GE176.out) | exact HB.out)) hb); clear BK172; clear BK175; clear BK176; clear HB; have BK172 := n0_; have BK175 := n1_; have BK176 := n2_; have HB := n3_; clear n0_ n1_ n2_ n3_; (try clear hb); (try clear hb2); (try clear hk); (try clear hi)) | ((with_reducible refine gate_callee (f := 13) rfl ?_); refine goesL_ (some 30) rfl rfl Try.func13 (by kernel_rfl) rfl #[] rfl (by (try simp only [List.map_toArray, List.map_cons, List.map_nil]); first | done | rfl | (simp only [List.length_drop, List.length_take]; rfl)) ?_; (with_reducible refine (dormouselaw05_answers.calls  t185 _ A42.out).mono ?_); rintro e w44 ⟨rfl, hb⟩; refine ⟨_, rfl, ?_⟩; have n0_ := Aside0.mk (blk_below (g := gb172) (o := .cells #[.slice A0_0 l0_0.length c0_0, .slice A0_1 l0_1.length c0_1, .slice A0_2 l0_2.length c0_2, .int .i64 a0_3, .int .i64 a0_4, .int .i64 a0_5, .int .i64 a0_6, .int .i64 a0_7, .int .i64 a0_8] 26 (0, 0)) (by (with_reducible repeat (first | refine blk_drewN ?_ _ | refine blk_drew ?_ | refine blk_alloc ?_ _)); exact BK172.out) hb); have n1_ := Aside0.mk (blk_below (g := gb175) (o := .cells #[.int .i64 x176000_2, .int .i64 x176001_2, .int .i64 x176002_2, .int .i64 x176003_2] 36 (0, 0)) (by (with_reducible repeat (first | refine blk_drewN ?_ _ | refine blk_drew ?_ | refine blk_alloc ?_ _)); exact BK175.out) hb); have n2_ := Aside0.mk (blk_below (g := gb176) (o := .cells #[.int .i64 x177000_2, .int .i64 x177001_2, .int .i64 x177002_2, .int .i64 x177003_2] 37 (0, 0)) (by (with_reducible repeat (first | refine blk_drewN ?_ _ | refine blk_drew ?_ | refine blk_alloc ?_ _)); exact BK176.out) hb); have n3_ := Aside0.mk (below_step (by repeat (first | (with_reducible first | exact HB.out | apply below_alloc | apply pw_below_drewN | apply below_drew1 | refine below_set ?_ GE172.out | refine below_set ?_ GE175.out | refine below_set ?_ GE176.out) | exact HB.out)) hb); clear BK172; clear BK175; clear BK176; clear HB; have BK172 := n0_; have BK175 := n1_; have BK176 := n2_; have HB := n3_; clear n0_ n1_ n2_ n3_; (try clear hb); (try clear hb2); (try clear hk); (try clear hi)))
       go_ret
       exact ⟨by first | rfl | (rw [HR_.out]; done) | (rw [HR_.out]; rfl) | (simp [errW_none, errW_some] <;> rfl) | (simp [*, errW_none, errW_some] <;> rfl), by repeat (first | (with_reducible first | exact HB.out | apply below_alloc | apply pw_below_drewN | apply below_drew1 | refine below_set ?_ GE172.out | refine below_set ?_ GE175.out | refine below_set ?_ GE176.out) | exact HB.out)⟩
      rw [if_neg c17] at H
      exact absurd H (by simp)
     rw [if_neg c16] at H
     have c16b0 : decide (x7_2 < (l1.length : Int)) = false := decide_eq_false c16
     clear c16
     replace H := Option.bind_eq_some_iff.mp H
     obtain ⟨t177, A450, H⟩ := H
     replace H : (if t177 = true then ((dormouselaw05_four.f x176000_2 x176001_2 x176002_2 x176003_2).bind fun bt178 => (if (bt178.1 == x177000_2 && (bt178.2.1 == x177001_2 && (bt178.2.2.1 == x177002_2 && (bt178.2.2.2 == x177003_2)))) = true then ((meter_Meter_Total.f x176000_2 x176001_2 x176002_2 x176003_2).bind fun t182 => (some (t182 == (wrap64 ((wrap64 ((wrap64 (x177000_2 + x177001_2)) + x177002_2)) + x177003_2))))) else (some false))) else (some false)) = some true := H
     have A45 := Aside0.mk A450
     clear A450
     by_cases c46 : t177 = true
     ·
      subst c46
      have H1 : ((dormouselaw05_four.f x176000_2 x176001_2 x176002_2 x176003_2).bind fun bt178 => (if (bt178.1 == x177000_2 && (bt178.2.1 == x177001_2 && (bt178.2.2.1 == x177002_2 && (bt178.2.2.2 == x177003_2)))) = true then ((meter_Meter_Total.f x176000_2 x176001_2 x176002_2 x176003_2).bind fun t182 => (some (t182 == (wrap64 ((wrap64 ((wrap64 (x177000_2 + x177001_2)) + x177002_2)) + x177003_2))))) else (some false))) = some true := by rw [if_pos rfl] at H; exact H
      clear H; have H := H1; clear H1
      replace H := Option.bind_eq_some_iff.mp H
      obtain ⟨⟨t178, t179, t180, t181⟩, A470, H⟩ := H
      replace H : (if (t178 == x177000_2 && (t179 == x177001_2 && (t180 == x177002_2 && (t181 == x177003_2)))) = true then ((meter_Meter_Total.f x176000_2 x176001_2 x176002_2 x176003_2).bind fun t182 => (some (t182 == (wrap64 ((wrap64 ((wrap64 (x177000_2 + x177001_2)) + x177002_2)) + x177003_2))))) else (some false)) = some true := H
      have A47 := Aside0.mk A470
      clear A470
      by_cases c48 : (t178 == x177000_2 && (t179 == x177001_2 && (t180 == x177002_2 && (t181 == x177003_2)))) = true
      ·
       rw [if_pos c48] at H
       have c48b0 : (t178 == x177000_2 && (t179 == x177001_2 && (t180 == x177002_2 && (t181 == x177003_2)))) = true := c48
       (try (have c48b1 : decide (t178 = x177000_2 && (t179 == x177001_2 && (t180 == x177002_2 && (t181 == x177003_2)))) = true := by simpa using c48))
       (try (have c48b2 : (t178 == x177000_2 && (t179 == x177001_2 && (t180 == x177002_2 && (t181 == x177003_2)))) = true := by simpa using c48))
       clear c48
       replace H := Option.bind_eq_some_iff.mp H
       obtain ⟨t182, A490, H⟩ := H
       replace H : (some (t182 == (wrap64 ((wrap64 ((wrap64 (x177000_2 + x177001_2)) + x177002_2)) + x177003_2)))) = some true := H
       have A49 := Aside0.mk A490
       clear A490; have HR_ := Aside0.mk (Option.some.inj H)
       try go_wp2
       have n0_ := Aside0.mk (blk_drew BK172.out); have n1_ := Aside0.mk (blk_drew BK175.out); have n2_ := Aside0.mk (blk_drew BK176.out); have n3_ := Aside0.mk (below_drew1 HB.out); clear BK172; clear BK175; clear BK176; clear HB; have BK172 := n0_; have BK175 := n1_; have BK176 := n2_; have HB := n3_; clear n0_ n1_ n2_ n3_
       refine start_ (n := 24) (S := fun w' => w'.cell? ⟨gb175, 0, none⟩ = some (.int .i64 x176000_2) ∧ w'.cell? ⟨gb175, 1, none⟩ = some (.int .i64 x176001_2) ∧ w'.cell? ⟨gb175, 2, none⟩ = some (.int .i64 x176002_2) ∧ w'.cell? ⟨gb175, 3, none⟩ = some (.int .i64 x176003_2) ∧ w'.cell? ⟨gb176, 0, none⟩ = some (.int .i64 x177000_2) ∧ w'.cell? ⟨gb176, 1, none⟩ = some (.int .i64 x177001_2) ∧ w'.cell? ⟨gb176, 2, none⟩ = some (.int .i64 x177002_2) ∧ w'.cell? ⟨gb176, 3, none⟩ = some (.int .i64 x177003_2)) (ds := []) #[false, false, false, false, false, false, false, false, false, false, false, false, false, false, false, false, false, false, false, false, false, false, false, false] (by kernel_rfl) rfl rfl ⟨(blk_cell BK175.out 0).trans rfl, (blk_cell BK175.out 1).trans rfl, (blk_cell BK175.out 2).trans rfl, (blk_cell BK175.out 3).trans rfl, (blk_cell BK176.out 0).trans rfl, (blk_cell BK176.out 1).trans rfl, (blk_cell BK176.out 2).trans rfl, (blk_cell BK176.out 3).trans rfl⟩ (fun hHeld => ?_); refine with_tabW dormouselaw05_MeterAdds.tab14 dormouselaw05_MeterAdds.bits14 (fun HT_ HW_ => ?_)
       generalize wr.drew = w50 at BK172 BK175 BK176 HB hHeld ⊢
       refine one_ (i := 0) (N := some 65) #[true, false, false, false, false, false, false, false, false, false, false, false, false, false, false, false, false, false, false, false, false, false, false, false] rfl rfl (one_of HT_.out (by kernel_rfl)) (by decide) (fun K hK => ?_)
       refine goes_ Try.func13 (by kernel_rfl) rfl #[] (by rfl) rfl rfl (by (try simp only [List.map_toArray, List.map_cons, List.map_nil]); first | done | rfl | (simp only [List.length_drop, List.length_take]; rfl)) ?_
       with_reducible refine (dormouselaw05_answers.calls  true _ A45.out).mono ?_
       rintro e w51 ⟨rfl, hb⟩
       refine ⟨_, rfl, ?_⟩
       have n0_ := Aside0.mk (blk_below (g := gb172) (o := .cells #[.slice A0_0 l0_0.length c0_0, .slice A0_1 l0_1.length c0_1, .slice A0_2 l0_2.length c0_2, .int .i64 a0_3, .int .i64 a0_4, .int .i64 a0_5, .int .i64 a0_6, .int .i64 a0_7, .int .i64 a0_8] 26 (0, 0)) (by (with_reducible repeat (first | refine blk_drewN ?_ _ | refine blk_drew ?_ | refine blk_alloc ?_ _)); exact BK172.out) hb); have n1_ := Aside0.mk (blk_below (g := gb175) (o := .cells #[.int .i64 x176000_2, .int .i64 x176001_2, .int .i64 x176002_2, .int .i64 x176003_2] 36 (0, 0)) (by (with_reducible repeat (first | refine blk_drewN ?_ _ | refine blk_drew ?_ | refine blk_alloc ?_ _)); exact BK175.out) hb); have n2_ := Aside0.mk (blk_below (g := gb176) (o := .cells #[.int .i64 x177000_2, .int .i64 x177001_2, .int .i64 x177002_2, .int .i64 x177003_2] 37 (0, 0)) (by (with_reducible repeat (first | refine blk_drewN ?_ _ | refine blk_drew ?_ | refine blk_alloc ?_ _)); exact BK176.out) hb); have n3_ := Aside0.mk (below_step (by repeat (first | (with_reducible first | exact HB.out | apply below_alloc | apply pw_below_drewN | apply below_drew1 | refine below_set ?_ GE172.out | refine below_set ?_ GE175.out | refine below_set ?_ GE176.out) | exact HB.out)) hb); clear BK172; clear BK175; clear BK176; clear HB; have BK172 := n0_; have BK175 := n1_; have BK176 := n2_; have HB := n3_; clear n0_ n1_ n2_ n3_; (try clear hb); (try clear hb2); (try clear hk); (try clear hi)
       refine hK.out _ _ ⟨(blk_cell BK175.out 0).trans rfl, (blk_cell BK175.out 1).trans rfl, (blk_cell BK175.out 2).trans rfl, (blk_cell BK175.out 3).trans rfl, (blk_cell BK176.out 0).trans rfl, (blk_cell BK176.out 1).trans rfl, (blk_cell BK176.out 2).trans rfl, (blk_cell BK176.out 3).trans rfl⟩ (fun hHeld => ?_)
       clear hK K
       refine norm_ (a' := ?_) ?_ ?_
       rotate_left
       ·
        show Act.put _ (some 65) _ = _
        simp only [Act.put, zAf4, zBf4, zCf4, i64_w, i32_w]
        rfl
       refine pure_ (i := 1) (N := some 66) (v := ?_) (a' := ?_) #[true, true, false, false, false, false, false, false, false, false, false, false, false, false, false, false, false, false, false, false, false, false, false, false] rfl rfl (any_of HT_.out (by kernel_rfl)) (fun _ _ _ h => h) (Or.inl ⟨by rfl, ?_⟩) ?_ ?_; rotate_left; (· (intro w'; go_simp; with_reducible rfl)); rotate_left; (· (simp only [Act.put, zAf4, zBf4, zCf4, i64_w, i32_w]; rfl))
       refine take_ (i := 2) (N := some 67) (v := ?_) (a' := ?_) #[true, true, true, false, false, false, false, false, false, false, false, false, false, false, false, false, false, false, false, false, false, false, false, false] rfl rfl (take_ofW HT_.out HW_.out (by kernel_rfl)) (fun _ _ _ h => h) (Or.inl ⟨by rfl, ?_⟩) hHeld ?_ ?_; rotate_left; (· (rintro w' ⟨s0, s1, s2, s3, s4, s5, s6, s7⟩; go_simp; with_reducible rfl)); rotate_left; (· (simp only [Act.put, zAf4, zBf4, zCf4, i64_w, i32_w]; rfl))
       refine take_ (i := 4) (N := some 69) (v := ?_) (a' := ?_) #[true, true, true, false, true, false, false, false, false, false, false, false, false, false, false, false, false, false, false, false, false, false, false, false] rfl rfl (take_ofW HT_.out HW_.out (by kernel_rfl)) (fun _ _ _ h => h) (Or.inl ⟨by rfl, ?_⟩) hHeld ?_ ?_; rotate_left; (· (rintro w' ⟨s0, s1, s2, s3, s4, s5, s6, s7⟩; go_simp; with_reducible rfl)); rotate_left; (· (simp only [Act.put, zAf4, zBf4, zCf4, i64_w, i32_w]; rfl))
       refine one_ (i := 3) (N := some 68) #[true, true, true, true, true, false, false, false, false, false, false, false, false, false, false, false, false, false, false, false, false, false, false, false] rfl rfl (one_of HT_.out (by kernel_rfl)) (by decide) (fun K hK => ?_)
       refine goes_ Try.func18 (by kernel_rfl) rfl #[.agg #[.int .i64 x176000_2, .int .i64 x176001_2, .int .i64 x176002_2, .int .i64 x176003_2]] (by rfl) rfl rfl (by (try simp only [List.map_toArray, List.map_cons, List.map_nil]); first | done | rfl | (simp only [List.length_drop, List.length_take]; rfl)) ?_
       with_reducible refine (dormouselaw05_four.calls x176000_2 x176001_2 x176002_2 x176003_2 t178 t179 t180 t181 _ A47.out).mono ?_
       rintro e w52 ⟨rfl, hb⟩
       refine ⟨_, rfl, ?_⟩
       have n0_ := Aside0.mk (blk_below (g := gb172) (o := .cells #[.slice A0_0 l0_0.length c0_0, .slice A0_1 l0_1.length c0_1, .slice A0_2 l0_2.length c0_2, .int .i64 a0_3, .int .i64 a0_4, .int .i64 a0_5, .int .i64 a0_6, .int .i64 a0_7, .int .i64 a0_8] 26 (0, 0)) (by (with_reducible repeat (first | refine blk_drewN ?_ _ | refine blk_drew ?_ | refine blk_alloc ?_ _)); exact BK172.out) hb); have n1_ := Aside0.mk (blk_below (g := gb175) (o := .cells #[.int .i64 x176000_2, .int .i64 x176001_2, .int .i64 x176002_2, .int .i64 x176003_2] 36 (0, 0)) (by (with_reducible repeat (first | refine blk_drewN ?_ _ | refine blk_drew ?_ | refine blk_alloc ?_ _)); exact BK175.out) hb); have n2_ := Aside0.mk (blk_below (g := gb176) (o := .cells #[.int .i64 x177000_2, .int .i64 x177001_2, .int .i64 x177002_2, .int .i64 x177003_2] 37 (0, 0)) (by (with_reducible repeat (first | refine blk_drewN ?_ _ | refine blk_drew ?_ | refine blk_alloc ?_ _)); exact BK176.out) hb); have n3_ := Aside0.mk (below_step (by repeat (first | (with_reducible first | exact HB.out | apply below_alloc | apply pw_below_drewN | apply below_drew1 | refine below_set ?_ GE172.out | refine below_set ?_ GE175.out | refine below_set ?_ GE176.out) | exact HB.out)) hb); clear BK172; clear BK175; clear BK176; clear HB; have BK172 := n0_; have BK175 := n1_; have BK176 := n2_; have HB := n3_; clear n0_ n1_ n2_ n3_; (try clear hb); (try clear hb2); (try clear hk); (try clear hi)
       refine hK.out _ _ ⟨(blk_cell BK175.out 0).trans rfl, (blk_cell BK175.out 1).trans rfl, (blk_cell BK175.out 2).trans rfl, (blk_cell BK175.out 3).trans rfl, (blk_cell BK176.out 0).trans rfl, (blk_cell BK176.out 1).trans rfl, (blk_cell BK176.out 2).trans rfl, (blk_cell BK176.out 3).trans rfl⟩ (fun hHeld => ?_)
       clear hK K
       refine norm_ (a' := ?_) ?_ ?_
       rotate_left
       ·
        show Act.put _ (some 68) _ = _
        simp only [Act.put, zAf4, zBf4, zCf4, i64_w, i32_w]
        rfl
       refine pure_ (i := 5) (N := some 70) (v := ?_) (a' := ?_) #[true, true, true, true, true, true, false, false, false, false, false, false, false, false, false, false, false, false, false, false, false, false, false, false] rfl rfl (any_of HT_.out (by kernel_rfl)) (fun _ _ _ h => h) (Or.inl ⟨by rfl, ?_⟩) ?_ ?_; rotate_left
       ·
        intro w'
        go_simp
        simp only [eq_arr4, Result.andThen_ok]
        with_reducible rfl
       rotate_left
       · (simp only [Act.put, zAf4, zBf4, zCf4, i64_w, i32_w]; rfl)
       refine pure_ (i := 6) (N := some 71) (v := ?_) (a' := ?_) #[true, true, true, true, true, true, true, false, false, false, false, false, false, false, false, false, false, false, false, false, false, false, false, false] rfl rfl (any_of HT_.out (by kernel_rfl)) (fun _ _ _ h => h) (Or.inl ⟨by rfl, ?_⟩) ?_ ?_; rotate_left; (· (intro w'; go_simp; with_reducible rfl)); rotate_left; (· (simp only [Act.put, zAf4, zBf4, zCf4, i64_w, i32_w]; rfl))
       refine pure_ (i := 7) (N := some 72) (v := ?_) (a' := ?_) #[true, true, true, true, true, true, true, true, false, false, false, false, false, false, false, false, false, false, false, false, false, false, false, false] rfl rfl (any_of HT_.out (by kernel_rfl)) (fun _ _ _ h => h) (Or.inl ⟨by rfl, ?_⟩) ?_ ?_; rotate_left; (· (intro w'; go_simp; with_reducible rfl)); rotate_left; (· (simp only [Act.put, zAf4, zBf4, zCf4, i64_w, i32_w]; rfl))
       refine pure_ (i := 10) (N := some 75) (v := ?_) (a' := ?_) #[true, true, true, true, true, true, true, true, false, false, true, false, false, false, false, false, false, false, false, false, false, false, false, false] rfl rfl (any_of HT_.out (by kernel_rfl)) (fun _ _ _ h => h) (Or.inl ⟨by rfl, ?_⟩) ?_ ?_; rotate_left; (· (intro w'; go_simp; with_reducible rfl)); rotate_left; (· (simp only [Act.put, zAf4, zBf4, zCf4, i64_w, i32_w]; rfl))
       refine pure_ (i := 12) (N := some 77) (v := ?_) (a' := ?_) #[true, true, true, true, true, true, true, true, false, false, true, false, true, false, false, false, false, false, false, false, false, false, false, false] rfl rfl (any_of HT_.out (by kernel_rfl)) (fun _ _ _ h => h) (Or.inl ⟨by rfl, ?_⟩) ?_ ?_; rotate_left; (· (intro w'; go_simp; with_reducible rfl)); rotate_left; (· (simp only [Act.put, zAf4, zBf4, zCf4, i64_w, i32_w]; rfl))
       refine pure_ (i := 15) (N := some 80) (v := ?_) (a' := ?_) #[true, true, true, true, true, true, true, true, false, false, true, false, true, false, false, true, false, false, false, false, false, false, false, false] rfl rfl (any_of HT_.out (by kernel_rfl)) (fun _ _ _ h => h) (Or.inl ⟨by rfl, ?_⟩) ?_ ?_; rotate_left; (· (intro w'; go_simp; with_reducible rfl)); rotate_left; (· (simp only [Act.put, zAf4, zBf4, zCf4, i64_w, i32_w]; rfl))
       refine pure_ (i := 18) (N := some 83) (v := ?_) (a' := ?_) #[true, true, true, true, true, true, true, true, false, false, true, false, true, false, false, true, false, false, true, false, false, false, false, false] rfl rfl (any_of HT_.out (by kernel_rfl)) (fun _ _ _ h => h) (Or.inl ⟨by rfl, ?_⟩) ?_ ?_; rotate_left; (· (intro w'; go_simp; with_reducible rfl)); rotate_left; (· (simp only [Act.put, zAf4, zBf4, zCf4, i64_w, i32_w]; rfl))
       refine take_ (i := 8) (N := some 73) (v := ?_) (a' := ?_) #[true, true, true, true, true, true, true, true, true, false, true, false, true, false, false, true, false, false, true, false, false, false, false, false] rfl rfl (take_ofW HT_.out HW_.out (by kernel_rfl)) (fun _ _ _ h => h) (Or.inl ⟨by rfl, ?_⟩) hHeld ?_ ?_; rotate_left; (· (rintro w' ⟨s0, s1, s2, s3, s4, s5, s6, s7⟩; go_simp; with_reducible rfl)); rotate_left; (· (simp only [Act.put, zAf4, zBf4, zCf4, i64_w, i32_w]; rfl))
       refine take_ (i := 11) (N := some 76) (v := ?_) (a' := ?_) #[true, true, true, true, true, true, true, true, true, false, true, true, true, false, false, true, false, false, true, false, false, false, false, false] rfl rfl (take_ofW HT_.out HW_.out (by kernel_rfl)) (fun _ _ _ h => h) (Or.inl ⟨by rfl, ?_⟩) hHeld ?_ ?_; rotate_left; (· (rintro w' ⟨s0, s1, s2, s3, s4, s5, s6, s7⟩; go_simp; with_reducible rfl)); rotate_left; (· (simp only [Act.put, zAf4, zBf4, zCf4, i64_w, i32_w]; rfl))
       refine take_ (i := 13) (N := some 78) (v := ?_) (a' := ?_) #[true, true, true, true, true, true, true, true, true, false, true, true, true, true, false, true, false, false, true, false, false, false, false, false] rfl rfl (take_ofW HT_.out HW_.out (by kernel_rfl)) (fun _ _ _ h => h) (Or.inl ⟨by rfl, ?_⟩) hHeld ?_ ?_; rotate_left; (· (rintro w' ⟨s0, s1, s2, s3, s4, s5, s6, s7⟩; go_simp; with_reducible rfl)); rotate_left; (· (simp only [Act.put, zAf4, zBf4, zCf4, i64_w, i32_w]; rfl))
       refine pure_ (i := 14) (N := some 79) (v := ?_) (a' := ?_) #[true, true, true, true, true, true, true, true, true, false, true, true, true, true, true, true, false, false, true, false, false, false, false, false] rfl rfl (any_of HT_.out (by kernel_rfl)) (fun _ _ _ h => h) (Or.inl ⟨by rfl, ?_⟩) ?_ ?_; rotate_left; (· (intro w'; go_simp; with_reducible rfl)); rotate_left; (· (simp only [Act.put, zAf4, zBf4, zCf4, i64_w, i32_w]; rfl))
       refine take_ (i := 16) (N := some 81) (v := ?_) (a' := ?_) #[true, true, true, true, true, true, true, true, true, false, true, true, true, true, true, true, true, false, true, false, false, false, false, false] rfl rfl (take_ofW HT_.out HW_.out (by kernel_rfl)) (fun _ _ _ h => h) (Or.inl ⟨by rfl, ?_⟩) hHeld ?_ ?_; rotate_left; (· (rintro w' ⟨s0, s1, s2, s3, s4, s5, s6, s7⟩; go_simp; with_reducible rfl)); rotate_left; (· (simp only [Act.put, zAf4, zBf4, zCf4, i64_w, i32_w]; rfl))
       refine pure_ (i := 17) (N := some 82) (v := ?_) (a' := ?_) #[true, true, true, true, true, true, true, true, true, false, true, true, true, true, true, true, true, true, true, false, false, false, false, false] rfl rfl (any_of HT_.out (by kernel_rfl)) (fun _ _ _ h => h) (Or.inl ⟨by rfl, ?_⟩) ?_ ?_; rotate_left; (· (intro w'; go_simp; with_reducible rfl)); rotate_left; (· (simp only [Act.put, zAf4, zBf4, zCf4, i64_w, i32_w]; rfl))
       refine take_ (i := 19) (N := some 84) (v := ?_) (a' := ?_) #[true, true, true, true, true, true, true, true, true, false, true, true, true, true, true, true, true, true, true, true, false, false, false, false] rfl rfl (take_ofW HT_.out HW_.out (by kernel_rfl)) (fun _ _ _ h => h) (Or.inl ⟨by rfl, ?_⟩) hHeld ?_ ?_; rotate_left; (· (rintro w' ⟨s0, s1, s2, s3, s4, s5, s6, s7⟩; go_simp; with_reducible rfl)); rotate_left; (· (simp only [Act.put, zAf4, zBf4, zCf4, i64_w, i32_w]; rfl))
       refine pure_ (i := 20) (N := some 85) (v := ?_) (a' := ?_) #[true, true, true, true, true, true, true, true, true, false, true, true, true, true, true, true, true, true, true, true, true, false, false, false] rfl rfl (any_of HT_.out (by kernel_rfl)) (fun _ _ _ h => h) (Or.inl ⟨by rfl, ?_⟩) ?_ ?_; rotate_left; (· (intro w'; go_simp; with_reducible rfl)); rotate_left; (· (simp only [Act.put, zAf4, zBf4, zCf4, i64_w, i32_w]; rfl))
       refine one_ (i := 9) (N := some 74) #[true, true, true, true, true, true, true, true, true, true, true, true, true, true, true, true, true, true, true, true, true, false, false, false] rfl rfl (one_of HT_.out (by kernel_rfl)) (by decide) (fun K hK => ?_)
       refine goes_ Try.func19 (by kernel_rfl) rfl #[.agg #[.int .i64 x176000_2, .int .i64 x176001_2, .int .i64 x176002_2, .int .i64 x176003_2]] (by rfl) rfl rfl (by (try simp only [List.map_toArray, List.map_cons, List.map_nil]); first | done | rfl | (simp only [List.length_drop, List.length_take]; rfl)) ?_
       with_reducible refine (meter_Meter_Total.calls x176000_2 x176001_2 x176002_2 x176003_2 t182 _ A49.out).mono ?_
       rintro e w53 ⟨rfl, hb⟩
       refine ⟨_, rfl, ?_⟩
       have n0_ := Aside0.mk (blk_below (g := gb172) (o := .cells #[.slice A0_0 l0_0.length c0_0, .slice A0_1 l0_1.length c0_1, .slice A0_2 l0_2.length c0_2, .int .i64 a0_3, .int .i64 a0_4, .int .i64 a0_5, .int .i64 a0_6, .int .i64 a0_7, .int .i64 a0_8] 26 (0, 0)) (by (with_reducible repeat (first | refine blk_drewN ?_ _ | refine blk_drew ?_ | refine blk_alloc ?_ _)); exact BK172.out) hb); have n1_ := Aside0.mk (blk_below (g := gb175) (o := .cells #[.int .i64 x176000_2, .int .i64 x176001_2, .int .i64 x176002_2, .int .i64 x176003_2] 36 (0, 0)) (by (with_reducible repeat (first | refine blk_drewN ?_ _ | refine blk_drew ?_ | refine blk_alloc ?_ _)); exact BK175.out) hb); have n2_ := Aside0.mk (blk_below (g := gb176) (o := .cells #[.int .i64 x177000_2, .int .i64 x177001_2, .int .i64 x177002_2, .int .i64 x177003_2] 37 (0, 0)) (by (with_reducible repeat (first | refine blk_drewN ?_ _ | refine blk_drew ?_ | refine blk_alloc ?_ _)); exact BK176.out) hb); have n3_ := Aside0.mk (below_step (by repeat (first | (with_reducible first | exact HB.out | apply below_alloc | apply pw_below_drewN | apply below_drew1 | refine below_set ?_ GE172.out | refine below_set ?_ GE175.out | refine below_set ?_ GE176.out) | exact HB.out)) hb); clear BK172; clear BK175; clear BK176; clear HB; have BK172 := n0_; have BK175 := n1_; have BK176 := n2_; have HB := n3_; clear n0_ n1_ n2_ n3_; (try clear hb); (try clear hb2); (try clear hk); (try clear hi)
       refine hK.out _ _ ⟨(blk_cell BK175.out 0).trans rfl, (blk_cell BK175.out 1).trans rfl, (blk_cell BK175.out 2).trans rfl, (blk_cell BK175.out 3).trans rfl, (blk_cell BK176.out 0).trans rfl, (blk_cell BK176.out 1).trans rfl, (blk_cell BK176.out 2).trans rfl, (blk_cell BK176.out 3).trans rfl⟩ (fun hHeld => ?_)
       clear hK K
       refine norm_ (a' := ?_) ?_ ?_
       rotate_left
       ·
        show Act.put _ (some 74) _ = _
        simp only [Act.put, zAf4, zBf4, zCf4, i64_w, i32_w]
        rfl
       refine pure_ (i := 21) (N := some 86) (v := ?_) (a' := ?_) #[true, true, true, true, true, true, true, true, true, true, true, true, true, true, true, true, true, true, true, true, true, true, false, false] rfl rfl (any_of HT_.out (by kernel_rfl)) (fun _ _ _ h => h) (Or.inl ⟨by rfl, ?_⟩) ?_ ?_; rotate_left; (· (intro w'; go_simp; with_reducible rfl)); rotate_left; (· (simp only [Act.put, zAf4, zBf4, zCf4, i64_w, i32_w]; rfl))
       refine pure_ (i := 22) (N := some 87) (v := ?_) (a' := ?_) #[true, true, true, true, true, true, true, true, true, true, true, true, true, true, true, true, true, true, true, true, true, true, true, false] rfl rfl (any_of HT_.out (by kernel_rfl)) (fun _ _ _ h => h) (Or.inl ⟨by rfl, ?_⟩) ?_ ?_; rotate_left; (· (intro w'; go_simp; with_reducible rfl)); rotate_left; (· (simp only [Act.put, zAf4, zBf4, zCf4, i64_w, i32_w]; rfl))
       refine pure_ (i := 23) (N := some 4) (v := ?_) (a' := ?_) #[true, true, true, true, true, true, true, true, true, true, true, true, true, true, true, true, true, true, true, true, true, true, true, true] rfl rfl (any_of HT_.out (by kernel_rfl)) (fun _ _ _ h => h) (Or.inl ⟨by rfl, ?_⟩) ?_ ?_; rotate_left; (· (intro w'; go_simp; with_reducible rfl)); rotate_left; (· (simp only [Act.put, zAf4, zBf4, zCf4, i64_w, i32_w]; rfl))
       refine done_ (done_of HT_.out (by kernel_rfl)) ?_
       try go_wp2
       go_ret
       exact ⟨by first | rfl | (rw [HR_.out]; done) | (rw [HR_.out]; rfl) | (simp [errW_none, errW_some] <;> rfl) | (simp [*, errW_none, errW_some] <;> rfl), by repeat (first | (with_reducible first | exact HB.out | apply below_alloc | apply pw_below_drewN | apply below_drew1 | refine below_set ?_ GE172.out | refine below_set ?_ GE175.out | refine below_set ?_ GE176.out) | exact HB.out)⟩
      · (rw [if_neg c48] at H; cases H)
     replace c46 := Bool.eq_false_iff.mpr c46
     subst c46
     have H1 : (some false) = some true := by rw [if_neg (show ¬ (false = true) by decide)] at H; exact H
     cases H1

end Go.Proofs.Ytfimgecceneagaa.PAll
