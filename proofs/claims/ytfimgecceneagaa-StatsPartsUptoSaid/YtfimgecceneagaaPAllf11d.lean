-- Written by the kit's print.py; laid as one text a function by this session's split.py.
import Derived.Test.YtfimgecceneagaaPAllx0
import Derived.Test.YtfimgecceneagaaPAllf28
import Derived.Test.YtfimgecceneagaaPAllf29
namespace Go.Proofs.Ytfimgecceneagaa.PAll
open Go.RowKit Go.Proofs.YtfimgecceneagaaW.PrintWords Go.Proofs.YtfimgecceneagaaW.PrintLast
set_option linter.unusedVariables false
set_option linter.unusedSimpArgs false

/-! ### dormouseref01_Table: function 11 -/
mutual
def dormouseref01_Table.j0 : Nat → Bool → List (S66) → List (S69) → List (S72) → Int → Int → Int → Int → Int → Int → Option (Bool)
  | 0, _, _, _, _, _, _, _, _, _, _ => none
  | k + 1, x59, x106000, x106001, x106002, x106003, x106004, x106005, x106006, x106007, x106008 => if x59 = true then (some false) else (if (x106001.length : Int) > 3 then (dormouseref01_Table.j1 k true x106000 x106001 x106002 x106003 x106004 x106005 x106006 x106007 x106008) else (if (x106002.length : Int) > 3 then (dormouseref01_Table.j1 k true x106000 x106001 x106002 x106003 x106004 x106005 x106006 x106007 x106008) else (if x106007 < 0 then (dormouseref01_Table.j1 k true x106000 x106001 x106002 x106003 x106004 x106005 x106006 x106007 x106008) else (if x106007 > 3 then (dormouseref01_Table.j1 k true x106000 x106001 x106002 x106003 x106004 x106005 x106006 x106007 x106008) else (if x106008 < 1 then (dormouseref01_Table.j1 k true x106000 x106001 x106002 x106003 x106004 x106005 x106006 x106007 x106008) else (dormouseref01_Table.j1 k (decide (x106008 > 16384)) x106000 x106001 x106002 x106003 x106004 x106005 x106006 x106007 x106008))))))
def dormouseref01_Table.j1 : Nat → Bool → List (S66) → List (S69) → List (S72) → Int → Int → Int → Int → Int → Int → Option (Bool)
  | 0, _, _, _, _, _, _, _, _, _, _ => none
  | k + 1, x89, x106000, x106001, x106002, x106003, x106004, x106005, x106006, x106007, x106008 => if x89 = true then (some false) else (dormouseref01_Table.l0 k 0 x106000 x106001 x106002 x106003 x106004 x106005 x106006 x106007 x106008)
def dormouseref01_Table.l0 : Nat → Int → List (S66) → List (S69) → List (S72) → Int → Int → Int → Int → Int → Int → Option (Bool)
  | 0, _, _, _, _, _, _, _, _, _, _ => none
  | k + 1, x3, x106000, x106001, x106002, x106003, x106004, x106005, x106006, x106007, x106008 => if x3 < (x106000.length : Int) then (if 0 ≤ x3 then (if ((rd_T66 x106000 x3).f0) < 1 then (dormouseref01_Table.j3 k x3 true x106000 x106001 x106002 x106003 x106004 x106005 x106006 x106007 x106008 ((rd_T66 x106000 x3).f0) ((rd_T66 x106000 x3).f1)) else (if ((rd_T66 x106000 x3).f0) > 256 then (dormouseref01_Table.j3 k x3 true x106000 x106001 x106002 x106003 x106004 x106005 x106006 x106007 x106008 ((rd_T66 x106000 x3).f0) ((rd_T66 x106000 x3).f1)) else (if ((rd_T66 x106000 x3).f1) < 0 then (dormouseref01_Table.j3 k x3 true x106000 x106001 x106002 x106003 x106004 x106005 x106006 x106007 x106008 ((rd_T66 x106000 x3).f0) ((rd_T66 x106000 x3).f1)) else (if ((rd_T66 x106000 x3).f1) > 65536 then (dormouseref01_Table.j3 k x3 true x106000 x106001 x106002 x106003 x106004 x106005 x106006 x106007 x106008 ((rd_T66 x106000 x3).f0) ((rd_T66 x106000 x3).f1)) else (if x3 > 0 then (if 0 ≤ (wrap64 (x3 - 1)) then (if (wrap64 (x3 - 1)) < (x106000.length : Int) then (dormouseref01_Table.j3 k x3 (decide (((rd_T66 x106000 x3).f0) ≤ ((rd_T66 x106000 (wrap64 (x3 - 1))).f0))) x106000 x106001 x106002 x106003 x106004 x106005 x106006 x106007 x106008 ((rd_T66 x106000 x3).f0) ((rd_T66 x106000 x3).f1)) else (none)) else (none)) else (dormouseref01_Table.j3 k x3 false x106000 x106001 x106002 x106003 x106004 x106005 x106006 x106007 x106008 ((rd_T66 x106000 x3).f0) ((rd_T66 x106000 x3).f1))))))) else (none)) else (dormouseref01_Table.l1 k 0 x106000 x106001 x106002 x106003 x106004 x106005 x106006 x106007 x106008)
def dormouseref01_Table.j3 : Nat → Int → Bool → List (S66) → List (S69) → List (S72) → Int → Int → Int → Int → Int → Int → Int → Int → Option (Bool)
  | 0, _, _, _, _, _, _, _, _, _, _, _, _, _ => none
  | k + 1, x3, x135, x106000, x106001, x106002, x106003, x106004, x106005, x106006, x106007, x106008, x108000, x108001 => if x135 = true then (some false) else (if x3 > 0 then (if x3 ≤ x106004 then (if 0 ≤ (wrap64 (x3 - 1)) then (if (wrap64 (x3 - 1)) < (x106000.length : Int) then (if (wrap64 (x108001 - (wrap64 (x108000 * x106003)))) > (wrap64 (((rd_T66 x106000 (wrap64 (x3 - 1))).f1) - (wrap64 (((rd_T66 x106000 (wrap64 (x3 - 1))).f0) * x106003)))) then (some false) else (dormouseref01_Table.l0 k (wrap64 (x3 + 1)) x106000 x106001 x106002 x106003 x106004 x106005 x106006 x106007 x106008)) else (none)) else (none)) else (dormouseref01_Table.l0 k (wrap64 (x3 + 1)) x106000 x106001 x106002 x106003 x106004 x106005 x106006 x106007 x106008)) else (dormouseref01_Table.l0 k (wrap64 (x3 + 1)) x106000 x106001 x106002 x106003 x106004 x106005 x106006 x106007 x106008))
def dormouseref01_Table.l1 : Nat → Int → List (S66) → List (S69) → List (S72) → Int → Int → Int → Int → Int → Int → Option (Bool)
  | 0, _, _, _, _, _, _, _, _, _, _ => none
  | k + 1, x5, x106000, x106001, x106002, x106003, x106004, x106005, x106006, x106007, x106008 => if x5 < (x106001.length : Int) then (if 0 ≤ x5 then ((dormouseref01_Sleep.f ((rd_T69 x106001 x5).f0) ((rd_T69 x106001 x5).f1) ((rd_T69 x106001 x5).f2) ((rd_T69 x106001 x5).f3) ((rd_T69 x106001 x5).f4) ((rd_T69 x106001 x5).f5) x106003).bind fun t112 => (if t112 = true then (dormouseref01_Table.l1 k (wrap64 (x5 + 1)) x106000 x106001 x106002 x106003 x106004 x106005 x106006 x106007 x106008) else (some false))) else (none)) else (dormouseref01_Table.l2 k 0 x106000 x106001 x106002 x106003 x106004 x106005 x106006 x106007 x106008)
def dormouseref01_Table.l2 : Nat → Int → List (S66) → List (S69) → List (S72) → Int → Int → Int → Int → Int → Int → Option (Bool)
  | 0, _, _, _, _, _, _, _, _, _, _ => none
  | k + 1, x6, x106000, x106001, x106002, x106003, x106004, x106005, x106006, x106007, x106008 => if x6 < (x106002.length : Int) then (if 0 ≤ x6 then ((dormouseref01_Device.f ((rd_T72 x106002 x6).f0) ((rd_T72 x106002 x6).f1) ((rd_T72 x106002 x6).f2) ((rd_T72 x106002 x6).f3) ((rd_T72 x106002 x6).f4) ((rd_T72 x106002 x6).f5) ((rd_T72 x106002 x6).f6)).bind fun t114 => (if t114 = true then (dormouseref01_Table.l2 k (wrap64 (x6 + 1)) x106000 x106001 x106002 x106003 x106004 x106005 x106006 x106007 x106008) else (some false))) else (none)) else (some true)
end
def dormouseref01_Table.f (k : Nat) (l0_0 : List (S66)) (l0_1 : List (S69)) (l0_2 : List (S72)) (a0_3 : Int) (a0_4 : Int) (a0_5 : Int) (a0_6 : Int) (a0_7 : Int) (a0_8 : Int) : Option (Bool) := if (l0_0.length : Int) < 1 then (dormouseref01_Table.j0 k true l0_0 l0_1 l0_2 a0_3 a0_4 a0_5 a0_6 a0_7 a0_8) else (if (l0_0.length : Int) > 4 then (dormouseref01_Table.j0 k true l0_0 l0_1 l0_2 a0_3 a0_4 a0_5 a0_6 a0_7 a0_8) else (if a0_3 < 0 then (dormouseref01_Table.j0 k true l0_0 l0_1 l0_2 a0_3 a0_4 a0_5 a0_6 a0_7 a0_8) else (if a0_3 > 65536 then (dormouseref01_Table.j0 k true l0_0 l0_1 l0_2 a0_3 a0_4 a0_5 a0_6 a0_7 a0_8) else (if a0_4 < 0 then (dormouseref01_Table.j0 k true l0_0 l0_1 l0_2 a0_3 a0_4 a0_5 a0_6 a0_7 a0_8) else (if a0_4 ≥ (l0_0.length : Int) then (dormouseref01_Table.j0 k true l0_0 l0_1 l0_2 a0_3 a0_4 a0_5 a0_6 a0_7 a0_8) else (if a0_5 < 0 then (dormouseref01_Table.j0 k true l0_0 l0_1 l0_2 a0_3 a0_4 a0_5 a0_6 a0_7 a0_8) else (if a0_5 > 256 then (dormouseref01_Table.j0 k true l0_0 l0_1 l0_2 a0_3 a0_4 a0_5 a0_6 a0_7 a0_8) else (if a0_6 < 0 then (dormouseref01_Table.j0 k true l0_0 l0_1 l0_2 a0_3 a0_4 a0_5 a0_6 a0_7 a0_8) else (dormouseref01_Table.j0 k (decide (a0_6 > 65536)) l0_0 l0_1 l0_2 a0_3 a0_4 a0_5 a0_6 a0_7 a0_8)))))))))
theorem dormouseref01_Table.mono_l : ∀ k, (∀ y0 y1 y2 y3 y4 y5 y6 y7 y8 y9, LeO (dormouseref01_Table.j0 k y0 y1 y2 y3 y4 y5 y6 y7 y8 y9) (dormouseref01_Table.j0 (k + 1) y0 y1 y2 y3 y4 y5 y6 y7 y8 y9)) ∧ (∀ y0 y1 y2 y3 y4 y5 y6 y7 y8 y9, LeO (dormouseref01_Table.j1 k y0 y1 y2 y3 y4 y5 y6 y7 y8 y9) (dormouseref01_Table.j1 (k + 1) y0 y1 y2 y3 y4 y5 y6 y7 y8 y9)) ∧ (∀ y0 y1 y2 y3 y4 y5 y6 y7 y8 y9, LeO (dormouseref01_Table.l0 k y0 y1 y2 y3 y4 y5 y6 y7 y8 y9) (dormouseref01_Table.l0 (k + 1) y0 y1 y2 y3 y4 y5 y6 y7 y8 y9)) ∧ (∀ y0 y1 y2 y3 y4 y5 y6 y7 y8 y9 y10 y11 y12, LeO (dormouseref01_Table.j3 k y0 y1 y2 y3 y4 y5 y6 y7 y8 y9 y10 y11 y12) (dormouseref01_Table.j3 (k + 1) y0 y1 y2 y3 y4 y5 y6 y7 y8 y9 y10 y11 y12)) ∧ (∀ y0 y1 y2 y3 y4 y5 y6 y7 y8 y9, LeO (dormouseref01_Table.l1 k y0 y1 y2 y3 y4 y5 y6 y7 y8 y9) (dormouseref01_Table.l1 (k + 1) y0 y1 y2 y3 y4 y5 y6 y7 y8 y9)) ∧ (∀ y0 y1 y2 y3 y4 y5 y6 y7 y8 y9, LeO (dormouseref01_Table.l2 k y0 y1 y2 y3 y4 y5 y6 y7 y8 y9) (dormouseref01_Table.l2 (k + 1) y0 y1 y2 y3 y4 y5 y6 y7 y8 y9))
  | 0 => ⟨fun _ _ _ _ _ _ _ _ _ _ r h => by simp [dormouseref01_Table.j0] at h, fun _ _ _ _ _ _ _ _ _ _ r h => by simp [dormouseref01_Table.j1] at h, fun _ _ _ _ _ _ _ _ _ _ r h => by simp [dormouseref01_Table.l0] at h, fun _ _ _ _ _ _ _ _ _ _ _ _ _ r h => by simp [dormouseref01_Table.j3] at h, fun _ _ _ _ _ _ _ _ _ _ r h => by simp [dormouseref01_Table.l1] at h, fun _ _ _ _ _ _ _ _ _ _ r h => by simp [dormouseref01_Table.l2] at h⟩
  | k + 1 => by
    obtain ⟨ih0, ih1, ih2, ih3, ih4, ih5⟩ := dormouseref01_Table.mono_l k
    refine ⟨?_, ?_, ?_, ?_, ?_, ?_⟩
    · intro y0 y1 y2 y3 y4 y5 y6 y7 y8 y9
      unfold dormouseref01_Table.j0
      repeat' first
      | (with_reducible exact ih0 _ _ _ _ _ _ _ _ _ _)
      | (with_reducible exact ih1 _ _ _ _ _ _ _ _ _ _)
      | (with_reducible exact ih2 _ _ _ _ _ _ _ _ _ _)
      | (with_reducible exact ih3 _ _ _ _ _ _ _ _ _ _ _ _ _)
      | (with_reducible exact ih4 _ _ _ _ _ _ _ _ _ _)
      | (with_reducible exact ih5 _ _ _ _ _ _ _ _ _ _)
      | (with_reducible exact LeO.refl _)
      | (with_reducible exact LeO.none _)
      | (with_reducible refine LeO.ite ?_ ?_)
      | (with_reducible refine LeO.bind ?_ (fun _ => ?_))
      | exact ih0 _ _ _ _ _ _ _ _ _ _
      | exact ih1 _ _ _ _ _ _ _ _ _ _
      | exact ih2 _ _ _ _ _ _ _ _ _ _
      | exact ih3 _ _ _ _ _ _ _ _ _ _ _ _ _
      | exact ih4 _ _ _ _ _ _ _ _ _ _
      | exact ih5 _ _ _ _ _ _ _ _ _ _
      | exact LeO.none _
      | refine LeO.ite ?_ ?_
      | refine LeO.bind ?_ (fun _ => ?_)
    · intro y0 y1 y2 y3 y4 y5 y6 y7 y8 y9
      unfold dormouseref01_Table.j1
      repeat' first
      | (with_reducible exact ih0 _ _ _ _ _ _ _ _ _ _)
      | (with_reducible exact ih1 _ _ _ _ _ _ _ _ _ _)
      | (with_reducible exact ih2 _ _ _ _ _ _ _ _ _ _)
      | (with_reducible exact ih3 _ _ _ _ _ _ _ _ _ _ _ _ _)
      | (with_reducible exact ih4 _ _ _ _ _ _ _ _ _ _)
      | (with_reducible exact ih5 _ _ _ _ _ _ _ _ _ _)
      | (with_reducible exact LeO.refl _)
      | (with_reducible exact LeO.none _)
      | (with_reducible refine LeO.ite ?_ ?_)
      | (with_reducible refine LeO.bind ?_ (fun _ => ?_))
      | exact ih0 _ _ _ _ _ _ _ _ _ _
      | exact ih1 _ _ _ _ _ _ _ _ _ _
      | exact ih2 _ _ _ _ _ _ _ _ _ _
      | exact ih3 _ _ _ _ _ _ _ _ _ _ _ _ _
      | exact ih4 _ _ _ _ _ _ _ _ _ _
      | exact ih5 _ _ _ _ _ _ _ _ _ _
      | exact LeO.none _
      | refine LeO.ite ?_ ?_
      | refine LeO.bind ?_ (fun _ => ?_)
    · intro y0 y1 y2 y3 y4 y5 y6 y7 y8 y9
      unfold dormouseref01_Table.l0
      repeat' first
      | (with_reducible exact ih0 _ _ _ _ _ _ _ _ _ _)
      | (with_reducible exact ih1 _ _ _ _ _ _ _ _ _ _)
      | (with_reducible exact ih2 _ _ _ _ _ _ _ _ _ _)
      | (with_reducible exact ih3 _ _ _ _ _ _ _ _ _ _ _ _ _)
      | (with_reducible exact ih4 _ _ _ _ _ _ _ _ _ _)
      | (with_reducible exact ih5 _ _ _ _ _ _ _ _ _ _)
      | (with_reducible exact LeO.refl _)
      | (with_reducible exact LeO.none _)
      | (with_reducible refine LeO.ite ?_ ?_)
      | (with_reducible refine LeO.bind ?_ (fun _ => ?_))
      | exact ih0 _ _ _ _ _ _ _ _ _ _
      | exact ih1 _ _ _ _ _ _ _ _ _ _
      | exact ih2 _ _ _ _ _ _ _ _ _ _
      | exact ih3 _ _ _ _ _ _ _ _ _ _ _ _ _
      | exact ih4 _ _ _ _ _ _ _ _ _ _
      | exact ih5 _ _ _ _ _ _ _ _ _ _
      | exact LeO.none _
      | refine LeO.ite ?_ ?_
      | refine LeO.bind ?_ (fun _ => ?_)
    · intro y0 y1 y2 y3 y4 y5 y6 y7 y8 y9 y10 y11 y12
      unfold dormouseref01_Table.j3
      repeat' first
      | (with_reducible exact ih0 _ _ _ _ _ _ _ _ _ _)
      | (with_reducible exact ih1 _ _ _ _ _ _ _ _ _ _)
      | (with_reducible exact ih2 _ _ _ _ _ _ _ _ _ _)
      | (with_reducible exact ih3 _ _ _ _ _ _ _ _ _ _ _ _ _)
      | (with_reducible exact ih4 _ _ _ _ _ _ _ _ _ _)
      | (with_reducible exact ih5 _ _ _ _ _ _ _ _ _ _)
      | (with_reducible exact LeO.refl _)
      | (with_reducible exact LeO.none _)
      | (with_reducible refine LeO.ite ?_ ?_)
      | (with_reducible refine LeO.bind ?_ (fun _ => ?_))
      | exact ih0 _ _ _ _ _ _ _ _ _ _
      | exact ih1 _ _ _ _ _ _ _ _ _ _
      | exact ih2 _ _ _ _ _ _ _ _ _ _
      | exact ih3 _ _ _ _ _ _ _ _ _ _ _ _ _
      | exact ih4 _ _ _ _ _ _ _ _ _ _
      | exact ih5 _ _ _ _ _ _ _ _ _ _
      | exact LeO.none _
      | refine LeO.ite ?_ ?_
      | refine LeO.bind ?_ (fun _ => ?_)
    · intro y0 y1 y2 y3 y4 y5 y6 y7 y8 y9
      unfold dormouseref01_Table.l1
      repeat' first
      | (with_reducible exact ih0 _ _ _ _ _ _ _ _ _ _)
      | (with_reducible exact ih1 _ _ _ _ _ _ _ _ _ _)
      | (with_reducible exact ih2 _ _ _ _ _ _ _ _ _ _)
      | (with_reducible exact ih3 _ _ _ _ _ _ _ _ _ _ _ _ _)
      | (with_reducible exact ih4 _ _ _ _ _ _ _ _ _ _)
      | (with_reducible exact ih5 _ _ _ _ _ _ _ _ _ _)
      | (with_reducible exact LeO.refl _)
      | (with_reducible exact LeO.none _)
      | (with_reducible refine LeO.ite ?_ ?_)
      | (with_reducible refine LeO.bind ?_ (fun _ => ?_))
      | exact ih0 _ _ _ _ _ _ _ _ _ _
      | exact ih1 _ _ _ _ _ _ _ _ _ _
      | exact ih2 _ _ _ _ _ _ _ _ _ _
      | exact ih3 _ _ _ _ _ _ _ _ _ _ _ _ _
      | exact ih4 _ _ _ _ _ _ _ _ _ _
      | exact ih5 _ _ _ _ _ _ _ _ _ _
      | exact LeO.none _
      | refine LeO.ite ?_ ?_
      | refine LeO.bind ?_ (fun _ => ?_)
    · intro y0 y1 y2 y3 y4 y5 y6 y7 y8 y9
      unfold dormouseref01_Table.l2
      repeat' first
      | (with_reducible exact ih0 _ _ _ _ _ _ _ _ _ _)
      | (with_reducible exact ih1 _ _ _ _ _ _ _ _ _ _)
      | (with_reducible exact ih2 _ _ _ _ _ _ _ _ _ _)
      | (with_reducible exact ih3 _ _ _ _ _ _ _ _ _ _ _ _ _)
      | (with_reducible exact ih4 _ _ _ _ _ _ _ _ _ _)
      | (with_reducible exact ih5 _ _ _ _ _ _ _ _ _ _)
      | (with_reducible exact LeO.refl _)
      | (with_reducible exact LeO.none _)
      | (with_reducible refine LeO.ite ?_ ?_)
      | (with_reducible refine LeO.bind ?_ (fun _ => ?_))
      | exact ih0 _ _ _ _ _ _ _ _ _ _
      | exact ih1 _ _ _ _ _ _ _ _ _ _
      | exact ih2 _ _ _ _ _ _ _ _ _ _
      | exact ih3 _ _ _ _ _ _ _ _ _ _ _ _ _
      | exact ih4 _ _ _ _ _ _ _ _ _ _
      | exact ih5 _ _ _ _ _ _ _ _ _ _
      | exact LeO.none _
      | refine LeO.ite ?_ ?_
      | refine LeO.bind ?_ (fun _ => ?_)
theorem dormouseref01_Table.mono : ∀ a0 a1 a2 a3 a4 a5 a6 a7 a8 k, LeO (dormouseref01_Table.f k a0 a1 a2 a3 a4 a5 a6 a7 a8) (dormouseref01_Table.f (k + 1) a0 a1 a2 a3 a4 a5 a6 a7 a8) := by
  intro a0 a1 a2 a3 a4 a5 a6 a7 a8 k
  obtain ⟨ih0, ih1, ih2, ih3, ih4, ih5⟩ := dormouseref01_Table.mono_l k
  unfold dormouseref01_Table.f
  repeat' first
      | (with_reducible exact ih0 _ _ _ _ _ _ _ _ _ _)
      | (with_reducible exact ih1 _ _ _ _ _ _ _ _ _ _)
      | (with_reducible exact ih2 _ _ _ _ _ _ _ _ _ _)
      | (with_reducible exact ih3 _ _ _ _ _ _ _ _ _ _ _ _ _)
      | (with_reducible exact ih4 _ _ _ _ _ _ _ _ _ _)
      | (with_reducible exact ih5 _ _ _ _ _ _ _ _ _ _)
      | (with_reducible exact LeO.refl _)
      | (with_reducible exact LeO.none _)
      | (with_reducible refine LeO.ite ?_ ?_)
      | (with_reducible refine LeO.bind ?_ (fun _ => ?_))
      | exact ih0 _ _ _ _ _ _ _ _ _ _
      | exact ih1 _ _ _ _ _ _ _ _ _ _
      | exact ih2 _ _ _ _ _ _ _ _ _ _
      | exact ih3 _ _ _ _ _ _ _ _ _ _ _ _ _
      | exact ih4 _ _ _ _ _ _ _ _ _ _
      | exact ih5 _ _ _ _ _ _ _ _ _ _
      | exact LeO.none _
      | refine LeO.ite ?_ ?_
      | refine LeO.bind ?_ (fun _ => ?_)
def dormouseref01_Table.T9 : Bool × List (List Nat × List Nat) := (true, [([], []), ([0], [0]), ([1], [1]), ([2], [2]), ([3], [3]), ([4, 3], [3, 4]), ([5, 3], [3, 5]), ([3, 6], [3, 6]), ([7, 3], [7]), ([8], [8]), ([9, 8], [8, 9]), ([10, 8], [8, 10]), ([8, 11], [8, 11]), ([12, 8], [12]), ([13], [13]), ([14, 13], [13, 14]), ([15, 13], [13, 15]), ([13, 16], [13, 16]), ([17, 13], [17]), ([18], [18]), ([19, 18], [18, 19]), ([20, 18, 18], [18, 20]), ([21], [21]), ([22, 21], [21, 22]), ([21], [21]), ([24, 21], [21, 24]), ([21], [21]), ([26, 21], [21, 26]), ([25, 27, 21], [21, 25, 27]), ([28, 21], [21, 28]), ([29, 21], [21, 29]), ([23, 30, 21], [21, 23, 30]), ([21, 31, 18], [18, 21, 31]), ([18, 32], [18, 32])])
def dormouseref01_Table.B9 : List Nat := [0, 1, 3, 7, 15, 31, 63, 127, 255, 511, 1023, 2047, 4095, 8191, 16383, 32767, 65535, 131071, 262143, 524287, 1048575, 2097151, 4194303, 8388607, 4194303, 20971519, 4194303, 71303167, 255852543, 524287999, 1061158911, 2147483647, 4294967295, 8589934591]
theorem dormouseref01_Table.tab9 : rtab .any (opsOf Try.f11 9) = dormouseref01_Table.T9 := by kernel_rfl
theorem dormouseref01_Table.bits9 : waitsOk dormouseref01_Table.T9.2 dormouseref01_Table.B9 = true := by kernel_rfl
def dormouseref01_Table.T11 : Bool × List (List Nat × List Nat) := (true, [([], []), ([0], [0]), ([1], [1]), ([2], [2]), ([2], [2]), ([4, 2], [2, 4]), ([3, 5, 2], [2, 3, 5]), ([2, 6], [2, 6]), ([7, 2], [7]), ([8], [8]), ([9, 8], [8, 9]), ([8], [8]), ([11, 8], [8, 11]), ([8], [8]), ([13, 8], [8, 13]), ([12, 14, 8], [8, 12, 14]), ([10, 15, 8], [8, 10, 15]), ([8], [8]), ([17, 8], [8, 17]), ([8], [8]), ([19, 8], [8, 19]), ([18, 20, 8], [8, 18, 20]), ([21, 8], [8, 21]), ([22, 8], [8, 22]), ([8], [8]), ([24, 8], [8, 24]), ([8], [8]), ([26, 8], [8, 26]), ([25, 27, 8], [8, 25, 27]), ([28, 8], [8, 28]), ([29, 8], [8, 29]), ([8], [8]), ([31, 8], [8, 31]), ([30, 32, 8], [8, 30, 32]), ([23, 33, 8], [8, 23, 33]), ([16, 34, 8], [8, 16, 34]), ([8, 35], [8, 35])])
def dormouseref01_Table.B11 : List Nat := [0, 1, 3, 7, 7, 23, 63, 127, 255, 511, 1023, 511, 2559, 511, 8703, 31231, 65535, 511, 131583, 511, 524799, 1966591, 4063743, 8258047, 511, 16777727, 511, 67109375, 251658751, 520094207, 1056965119, 511, 2147484159, 8573157887, 17179738623, 34359738367, 68719476735]
theorem dormouseref01_Table.tab11 : rtab .any (opsOf Try.f11 11) = dormouseref01_Table.T11 := by kernel_rfl
theorem dormouseref01_Table.bits11 : waitsOk dormouseref01_Table.T11.2 dormouseref01_Table.B11 = true := by kernel_rfl
def dormouseref01_Table.T16 : Bool × List (List Nat × List Nat) := (true, [([], []), ([0], [0]), ([], []), ([1, 2], [1, 2]), ([3], [3]), ([], []), ([5], [5]), ([4, 6], [4, 6]), ([7], [7])])
def dormouseref01_Table.B16 : List Nat := [0, 1, 0, 7, 15, 0, 32, 127, 255]
theorem dormouseref01_Table.tab16 : rtab .any (opsOf Try.f11 16) = dormouseref01_Table.T16 := by kernel_rfl
theorem dormouseref01_Table.bits16 : waitsOk dormouseref01_Table.T16.2 dormouseref01_Table.B16 = true := by kernel_rfl
theorem zAf11 {α : Type _} (l : List α) (i : Nat) (a : α) : l.toArray.setIfInBounds i a = (l.set i a).toArray := List.setIfInBounds_toArray l i a
theorem zBf11 {α : Type _} (x : α) (xs : List α) (a : α) : (x :: xs).set 0 a = a :: xs := rfl
theorem zCf11 {α : Type _} (x : α) (xs : List α) (n : Nat) (a : α) : (x :: xs).set (n + 1) a = x :: xs.set n a := rfl
abbrev qf11_0 : Array Bool := #[false, false, false, false, false, false, false, false, false, false, false, false, false, false, false, false, false, false, false, false, false, false, false, false, false, false, false, false, false, false, false, false, false, false]
abbrev qf11_1 : Array Bool := #[true, false, false, false, false, false, false, false, false, false, false, false, false, false, false, false, false, false, false, false, false, false, false, false, false, false, false, false, false, false, false, false, false, false]
abbrev qf11_2 : Array Bool := #[true, true, false, false, false, false, false, false, false, false, false, false, false, false, false, false, false, false, false, false, false, false, false, false, false, false, false, false, false, false, false, false, false, false]
abbrev qf11_3 : Array Bool := #[true, true, true, false, false, false, false, false, false, false, false, false, false, false, false, false, false, false, false, false, false, false, false, false, false, false, false, false, false, false, false, false, false, false]
abbrev qf11_4 : Array Bool := #[true, true, true, true, false, false, false, false, false, false, false, false, false, false, false, false, false, false, false, false, false, false, false, false, false, false, false, false, false, false, false, false, false, false]
abbrev qf11_5 : Array Bool := #[true, true, true, true, true, false, false, false, false, false, false, false, false, false, false, false, false, false, false, false, false, false, false, false, false, false, false, false, false, false, false, false, false, false]
abbrev qf11_6 : Array Bool := #[true, true, true, true, true, true, false, false, false, false, false, false, false, false, false, false, false, false, false, false, false, false, false, false, false, false, false, false, false, false, false, false, false, false]
abbrev qf11_7 : Array Bool := #[true, true, true, true, true, true, true, false, false, false, false, false, false, false, false, false, false, false, false, false, false, false, false, false, false, false, false, false, false, false, false, false, false, false]
abbrev qf11_8 : Array Bool := #[true, true, true, true, true, true, true, true, false, false, false, false, false, false, false, false, false, false, false, false, false, false, false, false, false, false, false, false, false, false, false, false, false, false]
abbrev qf11_9 : Array Bool := #[true, true, true, true, true, true, true, true, true, false, false, false, false, false, false, false, false, false, false, false, false, false, false, false, false, false, false, false, false, false, false, false, false, false]
abbrev qf11_10 : Array Bool := #[true, true, true, true, true, true, true, true, true, true, false, false, false, false, false, false, false, false, false, false, false, false, false, false, false, false, false, false, false, false, false, false, false, false]
abbrev qf11_11 : Array Bool := #[true, true, true, true, true, true, true, true, true, true, true, false, false, false, false, false, false, false, false, false, false, false, false, false, false, false, false, false, false, false, false, false, false, false]
abbrev qf11_12 : Array Bool := #[true, true, true, true, true, true, true, true, true, true, true, true, false, false, false, false, false, false, false, false, false, false, false, false, false, false, false, false, false, false, false, false, false, false]
abbrev qf11_13 : Array Bool := #[true, true, true, true, true, true, true, true, true, true, true, true, true, false, false, false, false, false, false, false, false, false, false, false, false, false, false, false, false, false, false, false, false, false]
abbrev qf11_14 : Array Bool := #[true, true, true, true, true, true, true, true, true, true, true, true, true, true, false, false, false, false, false, false, false, false, false, false, false, false, false, false, false, false, false, false, false, false]
abbrev qf11_15 : Array Bool := #[true, true, true, true, true, true, true, true, true, true, true, true, true, true, true, false, false, false, false, false, false, false, false, false, false, false, false, false, false, false, false, false, false, false]
abbrev qf11_16 : Array Bool := #[true, true, true, true, true, true, true, true, true, true, true, true, true, true, true, true, false, false, false, false, false, false, false, false, false, false, false, false, false, false, false, false, false, false]
abbrev qf11_17 : Array Bool := #[true, true, true, true, true, true, true, true, true, true, true, true, true, true, true, true, true, false, false, false, false, false, false, false, false, false, false, false, false, false, false, false, false, false]
abbrev qf11_18 : Array Bool := #[true, true, true, true, true, true, true, true, true, true, true, true, true, true, true, true, true, true, false, false, false, false, false, false, false, false, false, false, false, false, false, false, false, false]
abbrev qf11_19 : Array Bool := #[true, true, true, true, true, true, true, true, true, true, true, true, true, true, true, true, true, true, true, false, false, false, false, false, false, false, false, false, false, false, false, false, false, false]
abbrev qf11_20 : Array Bool := #[true, true, true, true, true, true, true, true, true, true, true, true, true, true, true, true, true, true, true, true, false, false, false, false, false, false, false, false, false, false, false, false, false, false]
abbrev qf11_21 : Array Bool := #[true, true, true, true, true, true, true, true, true, true, true, true, true, true, true, true, true, true, true, true, true, false, false, false, false, false, false, false, false, false, false, false, false, false]
abbrev qf11_22 : Array Bool := #[true, true, true, true, true, true, true, true, true, true, true, true, true, true, true, true, true, true, true, true, true, true, false, false, false, false, false, false, false, false, false, false, false, false]
abbrev qf11_23 : Array Bool := #[true, true, true, true, true, true, true, true, true, true, true, true, true, true, true, true, true, true, true, true, true, true, true, false, false, false, false, false, false, false, false, false, false, false]
abbrev qf11_24 : Array Bool := #[true, true, true, true, true, true, true, true, true, true, true, true, true, true, true, true, true, true, true, true, true, true, true, true, false, false, false, false, false, false, false, false, false, false]
abbrev qf11_25 : Array Bool := #[true, true, true, true, true, true, true, true, true, true, true, true, true, true, true, true, true, true, true, true, true, true, true, true, true, false, false, false, false, false, false, false, false, false]
abbrev qf11_26 : Array Bool := #[true, true, true, true, true, true, true, true, true, true, true, true, true, true, true, true, true, true, true, true, true, true, true, true, true, true, false, false, false, false, false, false, false, false]
abbrev qf11_27 : Array Bool := #[true, true, true, true, true, true, true, true, true, true, true, true, true, true, true, true, true, true, true, true, true, true, true, true, true, true, true, false, false, false, false, false, false, false]
abbrev qf11_28 : Array Bool := #[true, true, true, true, true, true, true, true, true, true, true, true, true, true, true, true, true, true, true, true, true, true, true, true, true, true, true, true, false, false, false, false, false, false]
abbrev qf11_29 : Array Bool := #[true, true, true, true, true, true, true, true, true, true, true, true, true, true, true, true, true, true, true, true, true, true, true, true, true, true, true, true, true, false, false, false, false, false]
abbrev qf11_30 : Array Bool := #[true, true, true, true, true, true, true, true, true, true, true, true, true, true, true, true, true, true, true, true, true, true, true, true, true, true, true, true, true, true, false, false, false, false]
abbrev qf11_31 : Array Bool := #[true, true, true, true, true, true, true, true, true, true, true, true, true, true, true, true, true, true, true, true, true, true, true, true, true, true, true, true, true, true, true, false, false, false]
abbrev qf11_32 : Array Bool := #[true, true, true, true, true, true, true, true, true, true, true, true, true, true, true, true, true, true, true, true, true, true, true, true, true, true, true, true, true, true, true, true, false, false]
abbrev qf11_33 : Array Bool := #[true, true, true, true, true, true, true, true, true, true, true, true, true, true, true, true, true, true, true, true, true, true, true, true, true, true, true, true, true, true, true, true, true, false]
abbrev qf11_34 : Array Bool := #[true, true, true, true, true, true, true, true, true, true, true, true, true, true, true, true, true, true, true, true, true, true, true, true, true, true, true, true, true, true, true, true, true, true]
abbrev qf11_35 : Array Bool := #[false, false, false, false, false, false, false, false, false, false, false, false, false, false, false, false, false, false, false, false, false, false, false, false, false, false, false, false, false, false, false, false, false, false, false, false, false]
abbrev qf11_36 : Array Bool := #[true, false, false, false, false, false, false, false, false, false, false, false, false, false, false, false, false, false, false, false, false, false, false, false, false, false, false, false, false, false, false, false, false, false, false, false, false]
abbrev qf11_37 : Array Bool := #[true, true, false, false, false, false, false, false, false, false, false, false, false, false, false, false, false, false, false, false, false, false, false, false, false, false, false, false, false, false, false, false, false, false, false, false, false]
abbrev qf11_38 : Array Bool := #[true, true, true, false, false, false, false, false, false, false, false, false, false, false, false, false, false, false, false, false, false, false, false, false, false, false, false, false, false, false, false, false, false, false, false, false, false]
abbrev qf11_39 : Array Bool := #[true, true, true, true, false, false, false, false, false, false, false, false, false, false, false, false, false, false, false, false, false, false, false, false, false, false, false, false, false, false, false, false, false, false, false, false, false]
abbrev qf11_40 : Array Bool := #[true, true, true, true, true, false, false, false, false, false, false, false, false, false, false, false, false, false, false, false, false, false, false, false, false, false, false, false, false, false, false, false, false, false, false, false, false]
abbrev qf11_41 : Array Bool := #[true, true, true, true, true, true, false, false, false, false, false, false, false, false, false, false, false, false, false, false, false, false, false, false, false, false, false, false, false, false, false, false, false, false, false, false, false]
abbrev qf11_42 : Array Bool := #[true, true, true, true, true, true, true, false, false, false, false, false, false, false, false, false, false, false, false, false, false, false, false, false, false, false, false, false, false, false, false, false, false, false, false, false, false]
abbrev qf11_43 : Array Bool := #[true, true, true, true, true, true, true, true, false, false, false, false, false, false, false, false, false, false, false, false, false, false, false, false, false, false, false, false, false, false, false, false, false, false, false, false, false]
abbrev qf11_44 : Array Bool := #[true, true, true, true, true, true, true, true, true, false, false, false, false, false, false, false, false, false, false, false, false, false, false, false, false, false, false, false, false, false, false, false, false, false, false, false, false]
abbrev qf11_45 : Array Bool := #[true, true, true, true, true, true, true, true, true, true, false, false, false, false, false, false, false, false, false, false, false, false, false, false, false, false, false, false, false, false, false, false, false, false, false, false, false]
abbrev qf11_46 : Array Bool := #[true, true, true, true, true, true, true, true, true, true, false, true, false, false, false, false, false, false, false, false, false, false, false, false, false, false, false, false, false, false, false, false, false, false, false, false, false]
abbrev qf11_47 : Array Bool := #[true, true, true, true, true, true, true, true, true, true, false, true, false, true, false, false, false, false, false, false, false, false, false, false, false, false, false, false, false, false, false, false, false, false, false, false, false]
abbrev qf11_48 : Array Bool := #[true, true, true, true, true, true, true, true, true, true, false, true, false, true, false, false, false, true, false, false, false, false, false, false, false, false, false, false, false, false, false, false, false, false, false, false, false]
abbrev qf11_49 : Array Bool := #[true, true, true, true, true, true, true, true, true, true, false, true, false, true, false, false, false, true, false, true, false, false, false, false, false, false, false, false, false, false, false, false, false, false, false, false, false]
abbrev qf11_50 : Array Bool := #[true, true, true, true, true, true, true, true, true, true, false, true, false, true, false, false, false, true, false, true, true, false, false, false, false, false, false, false, false, false, false, false, false, false, false, false, false]
abbrev qf11_51 : Array Bool := #[true, true, true, true, true, true, true, true, true, true, false, true, false, true, false, false, false, true, false, true, true, false, false, false, true, false, false, false, false, false, false, false, false, false, false, false, false]
abbrev qf11_52 : Array Bool := #[true, true, true, true, true, true, true, true, true, true, false, true, false, true, false, false, false, true, false, true, true, false, false, false, true, false, true, false, false, false, false, false, false, false, false, false, false]
abbrev qf11_53 : Array Bool := #[true, true, true, true, true, true, true, true, true, true, false, true, false, true, false, false, false, true, false, true, true, false, false, false, true, false, true, true, false, false, false, false, false, false, false, false, false]
abbrev qf11_54 : Array Bool := #[true, true, true, true, true, true, true, true, true, true, false, true, false, true, false, false, false, true, false, true, true, false, false, false, true, false, true, true, false, false, false, true, false, false, false, false, false]
abbrev qf11_55 : Array Bool := #[true, true, true, true, true, true, true, true, true, true, true, true, false, true, false, false, false, true, false, true, true, false, false, false, true, false, true, true, false, false, false, true, false, false, false, false, false]
abbrev qf11_56 : Array Bool := #[true, true, true, true, true, true, true, true, true, true, true, true, true, true, false, false, false, true, false, true, true, false, false, false, true, false, true, true, false, false, false, true, false, false, false, false, false]
abbrev qf11_57 : Array Bool := #[true, true, true, true, true, true, true, true, true, true, true, true, true, true, true, false, false, true, false, true, true, false, false, false, true, false, true, true, false, false, false, true, false, false, false, false, false]
abbrev qf11_58 : Array Bool := #[true, true, true, true, true, true, true, true, true, true, true, true, true, true, true, true, false, true, false, true, true, false, false, false, true, false, true, true, false, false, false, true, false, false, false, false, false]
abbrev qf11_59 : Array Bool := #[true, true, true, true, true, true, true, true, true, true, true, true, true, true, true, true, true, true, false, true, true, false, false, false, true, false, true, true, false, false, false, true, false, false, false, false, false]
abbrev qf11_60 : Array Bool := #[true, true, true, true, true, true, true, true, true, true, true, true, true, true, true, true, true, true, true, true, true, false, false, false, true, false, true, true, false, false, false, true, false, false, false, false, false]
abbrev qf11_61 : Array Bool := #[true, true, true, true, true, true, true, true, true, true, true, true, true, true, true, true, true, true, true, true, true, true, false, false, true, false, true, true, false, false, false, true, false, false, false, false, false]
abbrev qf11_62 : Array Bool := #[true, true, true, true, true, true, true, true, true, true, true, true, true, true, true, true, true, true, true, true, true, true, true, false, true, false, true, true, false, false, false, true, false, false, false, false, false]
abbrev qf11_63 : Array Bool := #[true, true, true, true, true, true, true, true, true, true, true, true, true, true, true, true, true, true, true, true, true, true, true, true, true, false, true, true, false, false, false, true, false, false, false, false, false]
abbrev qf11_64 : Array Bool := #[true, true, true, true, true, true, true, true, true, true, true, true, true, true, true, true, true, true, true, true, true, true, true, true, true, true, true, true, false, false, false, true, false, false, false, false, false]
abbrev qf11_65 : Array Bool := #[true, true, true, true, true, true, true, true, true, true, true, true, true, true, true, true, true, true, true, true, true, true, true, true, true, true, true, true, true, false, false, true, false, false, false, false, false]
abbrev qf11_66 : Array Bool := #[true, true, true, true, true, true, true, true, true, true, true, true, true, true, true, true, true, true, true, true, true, true, true, true, true, true, true, true, true, true, false, true, false, false, false, false, false]
abbrev qf11_67 : Array Bool := #[true, true, true, true, true, true, true, true, true, true, true, true, true, true, true, true, true, true, true, true, true, true, true, true, true, true, true, true, true, true, true, true, false, false, false, false, false]
abbrev qf11_68 : Array Bool := #[true, true, true, true, true, true, true, true, true, true, true, true, true, true, true, true, true, true, true, true, true, true, true, true, true, true, true, true, true, true, true, true, true, false, false, false, false]
abbrev qf11_69 : Array Bool := #[true, true, true, true, true, true, true, true, true, true, true, true, true, true, true, true, true, true, true, true, true, true, true, true, true, true, true, true, true, true, true, true, true, true, false, false, false]
abbrev qf11_70 : Array Bool := #[true, true, true, true, true, true, true, true, true, true, true, true, true, true, true, true, true, true, true, true, true, true, true, true, true, true, true, true, true, true, true, true, true, true, true, false, false]
abbrev qf11_71 : Array Bool := #[true, true, true, true, true, true, true, true, true, true, true, true, true, true, true, true, true, true, true, true, true, true, true, true, true, true, true, true, true, true, true, true, true, true, true, true, false]
abbrev qf11_72 : Array Bool := #[true, true, true, true, true, true, true, true, true, true, true, true, true, true, true, true, true, true, true, true, true, true, true, true, true, true, true, true, true, true, true, true, true, true, true, true, true]
abbrev qf11_73 : Array Bool := #[true, true, true, true, true, true, true, true, true, true, true, false, false, false, false, false, false, false, false, false, false, false, false, false, false, false, false, false, false, false, false, false, false, false, false, false, false]
abbrev qf11_74 : Array Bool := #[true, true, true, true, true, true, true, true, true, true, true, true, false, false, false, false, false, false, false, false, false, false, false, false, false, false, false, false, false, false, false, false, false, false, false, false, false]
abbrev qf11_75 : Array Bool := #[true, true, true, true, true, true, true, true, true, true, true, true, true, false, false, false, false, false, false, false, false, false, false, false, false, false, false, false, false, false, false, false, false, false, false, false, false]
abbrev qf11_76 : Array Bool := #[true, true, true, true, true, true, true, true, true, true, true, true, true, true, false, false, false, false, false, false, false, false, false, false, false, false, false, false, false, false, false, false, false, false, false, false, false]
abbrev qf11_77 : Array Bool := #[true, true, true, true, true, true, true, true, true, true, true, true, true, true, true, false, false, false, false, false, false, false, false, false, false, false, false, false, false, false, false, false, false, false, false, false, false]
abbrev qf11_78 : Array Bool := #[true, true, true, true, true, true, true, true, true, true, true, true, true, true, true, true, false, false, false, false, false, false, false, false, false, false, false, false, false, false, false, false, false, false, false, false, false]
abbrev qf11_79 : Array Bool := #[true, true, true, true, true, true, true, true, true, true, true, true, true, true, true, true, true, false, false, false, false, false, false, false, false, false, false, false, false, false, false, false, false, false, false, false, false]
abbrev qf11_80 : Array Bool := #[true, true, true, true, true, true, true, true, true, true, true, true, true, true, true, true, true, true, false, false, false, false, false, false, false, false, false, false, false, false, false, false, false, false, false, false, false]
abbrev qf11_81 : Array Bool := #[true, true, true, true, true, true, true, true, true, true, true, true, true, true, true, true, true, true, true, false, false, false, false, false, false, false, false, false, false, false, false, false, false, false, false, false, false]
abbrev qf11_82 : Array Bool := #[true, true, true, true, true, true, true, true, true, true, true, true, true, true, true, true, true, true, true, true, false, false, false, false, false, false, false, false, false, false, false, false, false, false, false, false, false]
abbrev qf11_83 : Array Bool := #[true, true, true, true, true, true, true, true, true, true, true, true, true, true, true, true, true, true, true, true, true, false, false, false, false, false, false, false, false, false, false, false, false, false, false, false, false]
abbrev qf11_84 : Array Bool := #[true, true, true, true, true, true, true, true, true, true, true, true, true, true, true, true, true, true, true, true, true, true, false, false, false, false, false, false, false, false, false, false, false, false, false, false, false]
abbrev qf11_85 : Array Bool := #[true, true, true, true, true, true, true, true, true, true, true, true, true, true, true, true, true, true, true, true, true, true, true, false, false, false, false, false, false, false, false, false, false, false, false, false, false]
abbrev qf11_86 : Array Bool := #[true, true, true, true, true, true, true, true, true, true, true, true, true, true, true, true, true, true, true, true, true, true, true, true, false, false, false, false, false, false, false, false, false, false, false, false, false]
abbrev qf11_87 : Array Bool := #[true, true, true, true, true, true, true, true, true, true, true, true, true, true, true, true, true, true, true, true, true, true, true, true, true, false, false, false, false, false, false, false, false, false, false, false, false]
abbrev qf11_88 : Array Bool := #[true, true, true, true, true, true, true, true, true, true, true, true, true, true, true, true, true, true, true, true, true, true, true, true, true, true, false, false, false, false, false, false, false, false, false, false, false]
abbrev qf11_89 : Array Bool := #[true, true, true, true, true, true, true, true, true, true, true, true, true, true, true, true, true, true, true, true, true, true, true, true, true, true, true, false, false, false, false, false, false, false, false, false, false]
abbrev qf11_90 : Array Bool := #[true, true, true, true, true, true, true, true, true, true, true, true, true, true, true, true, true, true, true, true, true, true, true, true, true, true, true, true, false, false, false, false, false, false, false, false, false]
abbrev qf11_91 : Array Bool := #[true, true, true, true, true, true, true, true, true, true, true, true, true, true, true, true, true, true, true, true, true, true, true, true, true, true, true, true, true, false, false, false, false, false, false, false, false]
abbrev qf11_92 : Array Bool := #[true, true, true, true, true, true, true, true, true, true, true, true, true, true, true, true, true, true, true, true, true, true, true, true, true, true, true, true, true, true, false, false, false, false, false, false, false]
abbrev qf11_93 : Array Bool := #[true, true, true, true, true, true, true, true, true, true, true, true, true, true, true, true, true, true, true, true, true, true, true, true, true, true, true, true, true, true, true, false, false, false, false, false, false]

end Go.Proofs.Ytfimgecceneagaa.PAll
