-- Written by the kit's print.py; laid as one text a function by this session's split.py.
import Derived.Test.YtahdadmibmgpmaaPAllx0
import Derived.Test.YtahdadmibmgpmaaPAllf9
import Derived.Test.YtahdadmibmgpmaaPAllf10
import Derived.Test.YtahdadmibmgpmaaPAllf16
import Derived.Test.YtahdadmibmgpmaaPAllf18
import Derived.Test.YtahdadmibmgpmaaPAllf11
namespace Go.Proofs.Ytahdadmibmgpmaa.PAll
open Go.RowKit Go.Proofs.YtahdadmibmgpmaaW.PrintWords Go.Proofs.YtahdadmibmgpmaaW.PrintLast
set_option linter.unusedVariables false
set_option linter.unusedSimpArgs false

/-! ### dormouselaw22_AuditEarlier: function 8 -/
def dormouselaw22_AuditEarlier.j0 : Nat → List (S33) → List (S53) → Int → Bool → List (S45) → List (S48) → List (S51) → Int → Int → Int → Int → Int → Int → Option (Bool)
  | 0, _, _, _, _, _, _, _, _, _, _, _, _, _ => none
  | k + 1, x1, x2, x3, x18, x301000, x301001, x301002, x301003, x301004, x301005, x301006, x301007, x301008 => if x18 = true then ((dormouselaw22_answers.f k).bind fun t303 => (some t303)) else (if (wrap64 ((x1.length : Int) + 1)) = 0 then (none) else (if (wrap64 ((x2.length : Int) + 1)) = 0 then (none) else ((dormouselaw22_answers.f k).bind fun t304 => (if t304 = true then ((audit_Slept.f k x301000 x301001 x301002 x301003 x301004 x301005 x301006 x301007 x301008 x1).bind fun t305 => (if t305 = true then (if 0 ≤ (Int.tmod (wrap64 (x3)) (wrap64 ((x1.length : Int) + 1))) then (if (Int.tmod (wrap64 (x3)) (wrap64 ((x1.length : Int) + 1))) ≤ (x1.length : Int) then ((audit_Slept.f k x301000 x301001 x301002 x301003 x301004 x301005 x301006 x301007 x301008 (x1.take ((Int.tmod (wrap64 (x3)) (wrap64 ((x1.length : Int) + 1))) : Int).toNat)).bind fun t310 => (if t310 = true then ((audit_Kept.f k x2).bind fun t311 => (if t311 = true then (if 0 ≤ (Int.tmod (wrap64 (x3)) (wrap64 ((x2.length : Int) + 1))) then (if (Int.tmod (wrap64 (x3)) (wrap64 ((x2.length : Int) + 1))) ≤ (x2.length : Int) then ((audit_Kept.f k (x2.take ((Int.tmod (wrap64 (x3)) (wrap64 ((x2.length : Int) + 1))) : Int).toNat)).bind fun t316 => (some t316)) else (none)) else (none)) else (some true))) else (some false))) else (none)) else (none)) else ((audit_Kept.f k x2).bind fun t317 => (if t317 = true then (if 0 ≤ (Int.tmod (wrap64 (x3)) (wrap64 ((x2.length : Int) + 1))) then (if (Int.tmod (wrap64 (x3)) (wrap64 ((x2.length : Int) + 1))) ≤ (x2.length : Int) then ((audit_Kept.f k (x2.take ((Int.tmod (wrap64 (x3)) (wrap64 ((x2.length : Int) + 1))) : Int).toNat)).bind fun t322 => (some t322)) else (none)) else (none)) else (some true))))) else (some false)))))
def dormouselaw22_AuditEarlier.f (k : Nat) (l0_0 : List (S45)) (l0_1 : List (S48)) (l0_2 : List (S51)) (a0_3 : Int) (a0_4 : Int) (a0_5 : Int) (a0_6 : Int) (a0_7 : Int) (a0_8 : Int) (l1 : List (S33)) (l2 : List (S53)) (a3 : Int) : Option (Bool) := (dormouseref01_Table.f k l0_0 l0_1 l0_2 a0_3 a0_4 a0_5 a0_6 a0_7 a0_8).bind fun t301 => (if t301 = true then ((dormouselaw22_near.f k l1 (-1073741824)).bind fun t302 => (dormouselaw22_AuditEarlier.j0 k l1 l2 a3 (!t302) l0_0 l0_1 l0_2 a0_3 a0_4 a0_5 a0_6 a0_7 a0_8)) else (dormouselaw22_AuditEarlier.j0 k l1 l2 a3 true l0_0 l0_1 l0_2 a0_3 a0_4 a0_5 a0_6 a0_7 a0_8))
theorem dormouselaw22_AuditEarlier.mono_l : ∀ k, (∀ y0 y1 y2 y3 y4 y5 y6 y7 y8 y9 y10 y11 y12, LeO (dormouselaw22_AuditEarlier.j0 k y0 y1 y2 y3 y4 y5 y6 y7 y8 y9 y10 y11 y12) (dormouselaw22_AuditEarlier.j0 (k + 1) y0 y1 y2 y3 y4 y5 y6 y7 y8 y9 y10 y11 y12))
  | 0 => fun _ _ _ _ _ _ _ _ _ _ _ _ _ r h => by simp [dormouselaw22_AuditEarlier.j0] at h
  | k + 1 => by
    have ih0 := dormouselaw22_AuditEarlier.mono_l k
    · intro y0 y1 y2 y3 y4 y5 y6 y7 y8 y9 y10 y11 y12
      unfold dormouselaw22_AuditEarlier.j0
      repeat' first
      | (with_reducible exact ih0 _ _ _ _ _ _ _ _ _ _ _ _ _)
      | (with_reducible exact audit_Kept.mono _ _)
      | (with_reducible exact audit_Slept.mono _ _ _ _ _ _ _ _ _ _ _)
      | (with_reducible exact dormouselaw22_answers.mono _)
      | (with_reducible exact dormouselaw22_near.mono _ _ _)
      | (with_reducible exact dormouseref01_Table.mono _ _ _ _ _ _ _ _ _ _)
      | (with_reducible exact LeO.refl _)
      | (with_reducible exact LeO.none _)
      | (with_reducible refine LeO.ite ?_ ?_)
      | (with_reducible refine LeO.bind ?_ (fun _ => ?_))
      | exact ih0 _ _ _ _ _ _ _ _ _ _ _ _ _
      | exact audit_Kept.mono _ _
      | exact audit_Slept.mono _ _ _ _ _ _ _ _ _ _ _
      | exact dormouselaw22_answers.mono _
      | exact dormouselaw22_near.mono _ _ _
      | exact dormouseref01_Table.mono _ _ _ _ _ _ _ _ _ _
      | exact LeO.none _
      | refine LeO.ite ?_ ?_
      | refine LeO.bind ?_ (fun _ => ?_)
theorem dormouselaw22_AuditEarlier.mono : ∀ a0 a1 a2 a3 a4 a5 a6 a7 a8 a9 a10 a11 k, LeO (dormouselaw22_AuditEarlier.f k a0 a1 a2 a3 a4 a5 a6 a7 a8 a9 a10 a11) (dormouselaw22_AuditEarlier.f (k + 1) a0 a1 a2 a3 a4 a5 a6 a7 a8 a9 a10 a11) := by
  intro a0 a1 a2 a3 a4 a5 a6 a7 a8 a9 a10 a11 k
  have ih0 := dormouselaw22_AuditEarlier.mono_l k
  unfold dormouselaw22_AuditEarlier.f
  repeat' first
      | (with_reducible exact ih0 _ _ _ _ _ _ _ _ _ _ _ _ _)
      | (with_reducible exact audit_Kept.mono _ _)
      | (with_reducible exact audit_Slept.mono _ _ _ _ _ _ _ _ _ _ _)
      | (with_reducible exact dormouselaw22_answers.mono _)
      | (with_reducible exact dormouselaw22_near.mono _ _ _)
      | (with_reducible exact dormouseref01_Table.mono _ _ _ _ _ _ _ _ _ _)
      | (with_reducible exact LeO.refl _)
      | (with_reducible exact LeO.none _)
      | (with_reducible refine LeO.ite ?_ ?_)
      | (with_reducible refine LeO.bind ?_ (fun _ => ?_))
      | exact ih0 _ _ _ _ _ _ _ _ _ _ _ _ _
      | exact audit_Kept.mono _ _
      | exact audit_Slept.mono _ _ _ _ _ _ _ _ _ _ _
      | exact dormouselaw22_answers.mono _
      | exact dormouselaw22_near.mono _ _ _
      | exact dormouseref01_Table.mono _ _ _ _ _ _ _ _ _ _
      | exact LeO.none _
      | refine LeO.ite ?_ ?_
      | refine LeO.bind ?_ (fun _ => ?_)
def dormouselaw22_AuditEarlier.T3 : Bool × List (List Nat × List Nat) := (true, [([], []), ([0], [0]), ([], []), ([2], [2]), ([3], [3]), ([1, 4], [1, 4]), ([], []), ([6], [6]), ([], []), ([8], [8]), ([9], [9]), ([7, 10], [7, 10]), ([5, 0, 1, 2, 3, 4, 5], [5]), ([11, 12, 0, 1, 2, 3, 4, 5, 6, 7, 8, 9, 10, 11, 12], [11])])
def dormouselaw22_AuditEarlier.B3 : List Nat := [0, 1, 0, 4, 12, 31, 0, 64, 0, 256, 768, 1984, 63, 8191]
theorem dormouselaw22_AuditEarlier.tab3 : rtab .any (opsOf Try.f8 3) = dormouselaw22_AuditEarlier.T3 := by kernel_rfl
theorem dormouselaw22_AuditEarlier.bits3 : waitsOk dormouselaw22_AuditEarlier.T3.2 dormouselaw22_AuditEarlier.B3 = true := by kernel_rfl
def dormouselaw22_AuditEarlier.T4 : Bool × List (List Nat × List Nat) := (true, [([], []), ([0, 0], [0]), ([1], [1]), ([1], [1]), ([2, 3, 1, 1], [1, 2, 3]), ([4, 1], [1, 4]), ([5, 4, 1], [1, 5]), ([6], [6]), ([6], [6]), ([6], [6]), ([8, 9, 6], [6, 8, 9]), ([7, 10, 6, 6], [6, 7, 10]), ([6, 11, 1], [1, 6, 11]), ([1, 12], [1, 12]), ([13, 11], [13]), ([14], [14]), ([15, 14, 14], [14, 15]), ([16, 14], [14, 16]), ([17, 16, 14], [14, 17]), ([18], [18]), ([18], [18]), ([19, 20, 18], [18, 19, 20]), ([21, 18, 18], [18, 21]), ([18, 22, 14], [14, 18, 22]), ([14, 23], [14, 23]), ([24, 22, 0, 1, 2, 3, 4, 5, 6, 7, 8, 9, 10, 11, 12, 13, 14, 15, 16, 17, 18, 19, 20, 21, 22, 23, 24], [24])])
def dormouselaw22_AuditEarlier.B4 : List Nat := [0, 1, 3, 3, 15, 31, 63, 127, 127, 127, 895, 2047, 4095, 8191, 16383, 32767, 65535, 131071, 262143, 524287, 524287, 2097151, 4194303, 8388607, 16777215, 33554431]
theorem dormouselaw22_AuditEarlier.tab4 : rtab .any (opsOf Try.f8 4) = dormouselaw22_AuditEarlier.T4 := by kernel_rfl
theorem dormouselaw22_AuditEarlier.bits4 : waitsOk dormouselaw22_AuditEarlier.T4.2 dormouselaw22_AuditEarlier.B4 = true := by kernel_rfl
theorem zAf8 {α : Type _} (l : List α) (i : Nat) (a : α) : l.toArray.setIfInBounds i a = (l.set i a).toArray := List.setIfInBounds_toArray l i a
theorem zBf8 {α : Type _} (x : α) (xs : List α) (a : α) : (x :: xs).set 0 a = a :: xs := rfl
theorem zCf8 {α : Type _} (x : α) (xs : List α) (n : Nat) (a : α) : (x :: xs).set (n + 1) a = x :: xs.set n a := rfl
abbrev qf8_0 : Array Bool := #[false, false, false, false, false, false, false, false, false, false, false, false, false, false]
abbrev qf8_1 : Array Bool := #[true, false, false, false, false, false, false, false, false, false, false, false, false, false]
abbrev qf8_2 : Array Bool := #[true, true, false, false, false, false, false, false, false, false, false, false, false, false]
abbrev qf8_3 : Array Bool := #[true, true, true, false, false, false, false, false, false, false, false, false, false, false]
abbrev qf8_4 : Array Bool := #[true, true, true, true, false, false, false, false, false, false, false, false, false, false]
abbrev qf8_5 : Array Bool := #[true, true, true, true, true, false, false, false, false, false, false, false, false, false]
abbrev qf8_6 : Array Bool := #[true, true, true, true, true, true, false, false, false, false, false, false, false, false]
abbrev qf8_7 : Array Bool := #[true, true, true, true, true, true, true, false, false, false, false, false, false, false]
abbrev qf8_8 : Array Bool := #[true, true, true, true, true, true, true, true, false, false, false, false, false, false]
abbrev qf8_9 : Array Bool := #[true, true, true, true, true, true, true, true, true, false, false, false, false, false]
abbrev qf8_10 : Array Bool := #[true, true, true, true, true, true, true, true, true, true, false, false, false, false]
abbrev qf8_11 : Array Bool := #[true, true, true, true, true, true, true, true, true, true, true, false, false, false]
abbrev qf8_12 : Array Bool := #[true, true, true, true, true, true, true, true, true, true, true, true, false, false]
abbrev qf8_13 : Array Bool := #[true, true, true, true, true, true, true, true, true, true, true, true, true, false]
abbrev qf8_14 : Array Bool := #[true, true, true, true, true, true, true, true, true, true, true, true, true, true]
abbrev qf8_15 : Array Bool := #[false, false, false, false, false, false, false, false, false, false, false, false, false, false, false, false, false, false, false, false, false, false, false, false, false, false]
abbrev qf8_16 : Array Bool := #[true, false, false, false, false, false, false, false, false, false, false, false, false, false, false, false, false, false, false, false, false, false, false, false, false, false]
abbrev qf8_17 : Array Bool := #[true, true, false, false, false, false, false, false, false, false, false, false, false, false, false, false, false, false, false, false, false, false, false, false, false, false]
abbrev qf8_18 : Array Bool := #[true, true, false, true, false, false, false, false, false, false, false, false, false, false, false, false, false, false, false, false, false, false, false, false, false, false]
abbrev qf8_19 : Array Bool := #[true, true, true, true, false, false, false, false, false, false, false, false, false, false, false, false, false, false, false, false, false, false, false, false, false, false]
abbrev qf8_20 : Array Bool := #[true, true, true, true, true, false, false, false, false, false, false, false, false, false, false, false, false, false, false, false, false, false, false, false, false, false]
abbrev qf8_21 : Array Bool := #[true, true, true, true, true, true, false, false, false, false, false, false, false, false, false, false, false, false, false, false, false, false, false, false, false, false]
abbrev qf8_22 : Array Bool := #[true, true, true, true, true, true, true, false, false, false, false, false, false, false, false, false, false, false, false, false, false, false, false, false, false, false]
abbrev qf8_23 : Array Bool := #[true, true, true, true, true, true, true, false, true, false, false, false, false, false, false, false, false, false, false, false, false, false, false, false, false, false]
abbrev qf8_24 : Array Bool := #[true, true, true, true, true, true, true, false, true, true, false, false, false, false, false, false, false, false, false, false, false, false, false, false, false, false]
abbrev qf8_25 : Array Bool := #[true, true, true, true, true, true, true, false, true, true, true, false, false, false, false, false, false, false, false, false, false, false, false, false, false, false]
abbrev qf8_26 : Array Bool := #[true, true, true, true, true, true, true, true, true, true, true, false, false, false, false, false, false, false, false, false, false, false, false, false, false, false]
abbrev qf8_27 : Array Bool := #[true, true, true, true, true, true, true, true, true, true, true, true, false, false, false, false, false, false, false, false, false, false, false, false, false, false]
abbrev qf8_28 : Array Bool := #[true, true, true, true, true, true, true, true, true, true, true, true, true, false, false, false, false, false, false, false, false, false, false, false, false, false]
abbrev qf8_29 : Array Bool := #[true, true, true, true, true, true, true, true, true, true, true, true, true, true, false, false, false, false, false, false, false, false, false, false, false, false]
abbrev qf8_30 : Array Bool := #[true, true, true, true, true, true, true, true, true, true, true, true, true, true, true, false, false, false, false, false, false, false, false, false, false, false]
abbrev qf8_31 : Array Bool := #[true, true, true, true, true, true, true, true, true, true, true, true, true, true, true, true, false, false, false, false, false, false, false, false, false, false]
abbrev qf8_32 : Array Bool := #[true, true, true, true, true, true, true, true, true, true, true, true, true, true, true, true, true, false, false, false, false, false, false, false, false, false]
abbrev qf8_33 : Array Bool := #[true, true, true, true, true, true, true, true, true, true, true, true, true, true, true, true, true, true, false, false, false, false, false, false, false, false]
abbrev qf8_34 : Array Bool := #[true, true, true, true, true, true, true, true, true, true, true, true, true, true, true, true, true, true, true, false, false, false, false, false, false, false]
abbrev qf8_35 : Array Bool := #[true, true, true, true, true, true, true, true, true, true, true, true, true, true, true, true, true, true, true, true, false, false, false, false, false, false]
abbrev qf8_36 : Array Bool := #[true, true, true, true, true, true, true, true, true, true, true, true, true, true, true, true, true, true, true, true, true, false, false, false, false, false]
abbrev qf8_37 : Array Bool := #[true, true, true, true, true, true, true, true, true, true, true, true, true, true, true, true, true, true, true, true, true, true, false, false, false, false]
abbrev qf8_38 : Array Bool := #[true, true, true, true, true, true, true, true, true, true, true, true, true, true, true, true, true, true, true, true, true, true, true, false, false, false]
abbrev qf8_39 : Array Bool := #[true, true, true, true, true, true, true, true, true, true, true, true, true, true, true, true, true, true, true, true, true, true, true, true, false, false]
abbrev qf8_40 : Array Bool := #[true, true, true, true, true, true, true, true, true, true, true, true, true, true, true, true, true, true, true, true, true, true, true, true, true, false]
abbrev qf8_41 : Array Bool := #[true, true, true, true, true, true, true, true, true, true, true, true, true, true, true, true, true, true, true, true, true, true, true, true, true, true]
abbrev qf8_42 : Array Bool := #[true, true, true, true, true, true, true, true, false, false, false, false, false, false, false, false, false, false, false, false, false, false, false, false, false, false]
abbrev qf8_43 : Array Bool := #[true, true, true, true, true, true, true, true, true, false, false, false, false, false, false, false, false, false, false, false, false, false, false, false, false, false]
abbrev qf8_44 : Array Bool := #[true, true, true, true, true, true, true, true, true, true, false, false, false, false, false, false, false, false, false, false, false, false, false, false, false, false]
set_option maxHeartbeats 8000000 in
set_option maxRecDepth 100000 in
theorem dormouselaw22_AuditEarlier.calls (k : Nat) (A0_0 : Option Addr) (c0_0 : Nat) (l0_0 : List (S45)) (A0_1 : Option Addr) (c0_1 : Nat) (l0_1 : List (S48)) (A0_2 : Option Addr) (c0_2 : Nat) (l0_2 : List (S51)) (a0_3 : Int) (a0_4 : Int) (a0_5 : Int) (a0_6 : Int) (a0_7 : Int) (a0_8 : Int) (A1 : Option Addr) (c1 : Nat) (l1 : List (S33)) (A2 : Option Addr) (c2 : Nat) (l2 : List (S53)) (a3 : Int) (w : World) (hr0_0 : Kd.C k45 w A0_0 l0_0.length l0_0) (hc0_0 : l0_0.length ≤ c0_0) (hr0_1 : Kd.C k48 w A0_1 l0_1.length l0_1) (hc0_1 : l0_1.length ≤ c0_1) (hr0_2 : Kd.C k51 w A0_2 l0_2.length l0_2) (hc0_2 : l0_2.length ≤ c0_2) (hr1 : Kd.C k33 w A1 l1.length l1) (hc1 : l1.length ≤ c1) (hr2 : Kd.C k53 w A2 l2.length l2) (hc2 : l2.length ≤ c2) (h : dormouselaw22_AuditEarlier.f k l0_0 l0_1 l0_2 a0_3 a0_4 a0_5 a0_6 a0_7 a0_8 l1 l2 a3 = some true) :
    Calls Try.prog 8 #[.agg #[.slice A0_0 l0_0.length c0_0, .slice A0_1 l0_1.length c0_1, .slice A0_2 l0_2.length c0_2, .int .i64 a0_3, .int .i64 a0_4, .int .i64 a0_5, .int .i64 a0_6, .int .i64 a0_7, .int .i64 a0_8], .slice A1 l1.length c1, .slice A2 l2.length c2, .int .u8 a3] w fun e w' => e = .returned (.bool true) ∧ Below w.heap.size w w' := by
 have hu26 := Try.underlying26
 have HR0_0 := Aside0.mk hr0_0
 have HC0_0 := Aside0.mk hc0_0
 clear hr0_0 hc0_0
 have HR0_1 := Aside0.mk hr0_1
 have HC0_1 := Aside0.mk hc0_1
 clear hr0_1 hc0_1
 have HR0_2 := Aside0.mk hr0_2
 have HC0_2 := Aside0.mk hc0_2
 clear hr0_2 hc0_2
 have HR1 := Aside0.mk hr1
 have HC1 := Aside0.mk hc1
 clear hr1 hc1
 have HR2 := Aside0.mk hr2
 have HC2 := Aside0.mk hc2
 clear hr2 hc2; have HB := Aside0.mk (Below.refl w.heap.size w)
 have H : ((dormouseref01_Table.f k l0_0 l0_1 l0_2 a0_3 a0_4 a0_5 a0_6 a0_7 a0_8).bind fun t301 => (if t301 = true then ((dormouselaw22_near.f k l1 (-1073741824)).bind fun t302 => (dormouselaw22_AuditEarlier.j0 k l1 l2 a3 (!t302) l0_0 l0_1 l0_2 a0_3 a0_4 a0_5 a0_6 a0_7 a0_8)) else (dormouselaw22_AuditEarlier.j0 k l1 l2 a3 true l0_0 l0_1 l0_2 a0_3 a0_4 a0_5 a0_6 a0_7 a0_8))) = some true := h
 clear h
 have HC5 := Aside0.mk H
 clear H
 go_enter Try.func8, Try.ntmps8
 go_upto_region 1 with (first | ((with_reducible refine gate_dst (N := 4) rfl ?_); refine box_event ?hg (N := 4) ?hd (cs := #[.slice A0_0 l0_0.length c0_0, .slice A0_1 l0_1.length c0_1, .slice A0_2 l0_2.length c0_2, .int .i64 a0_3, .int .i64 a0_4, .int .i64 a0_5, .int .i64 a0_6, .int .i64 a0_7, .int .i64 a0_8]) (t := 26) ?hr ?_; (case hd => rfl); (case hg => rfl); (case hr => first | (go_simp; done) | (go_simp; rfl)); intro gb300 hg w6 hbox hb; have n0_ := Aside0.mk (below_step (by repeat (first | (with_reducible first | exact HB.out | apply below_alloc | apply pw_below_drewN | apply below_drew1) | exact HB.out)) hb); have n1_ := Aside0.mk (hbox); have n2_ := Aside0.mk ((by rw [hg]; exact (below_size (by repeat (first | (with_reducible first | exact HB.out | apply below_alloc | apply pw_below_drewN | apply below_drew1) | exact HB.out))) : w.heap.size ≤ gb300)); have n3_ := Aside0.mk ((by rw [hg]; exact (below_size (by repeat (first | (with_reducible first | exact HB.out | apply below_alloc | apply pw_below_drewN | apply below_drew1) | exact HB.out))) : w.heap.size ≤ gb300)); clear HB; have HB := n0_; have BK300 := n1_; have GW300 := n2_; have GE300 := n3_; clear n0_ n1_ n2_ n3_; clear hb hbox hg))
 (try simp only [Act.put, List.setIfInBounds_toArray, List.set_cons_zero, List.set_cons_succ])
 go_cut [18] (fun v18 wc => ∃ (kq : Nat) (x18_4 : Bool), v18 = .bool x18_4 ∧ Aside0 (dormouselaw22_AuditEarlier.j0 kq l1 l2 a3 x18_4 l0_0 l0_1 l0_2 a0_3 a0_4 a0_5 a0_6 a0_7 a0_8 = some true) ∧ Aside0 (kq ≤ k) ∧ Aside0 (wc.heap[gb300]? = some (.cells #[(.slice A0_0 l0_0.length c0_0), (.slice A0_1 l0_1.length c0_1), (.slice A0_2 l0_2.length c0_2), .int .i64 a0_3, .int .i64 a0_4, .int .i64 a0_5, .int .i64 a0_6, .int .i64 a0_7, .int .i64 a0_8] 26 (0, 0))) ∧ Aside0 (Below w.heap.size w wc))
 case first =>
  have H := HC5.out; clear HC5
  replace H := Option.bind_eq_some_iff.mp H
  obtain ⟨t301, A70, H⟩ := H
  replace H : (if t301 = true then ((dormouselaw22_near.f k l1 (-1073741824)).bind fun t302 => (dormouselaw22_AuditEarlier.j0 k l1 l2 a3 (!t302) l0_0 l0_1 l0_2 a0_3 a0_4 a0_5 a0_6 a0_7 a0_8)) else (dormouselaw22_AuditEarlier.j0 k l1 l2 a3 true l0_0 l0_1 l0_2 a0_3 a0_4 a0_5 a0_6 a0_7 a0_8)) = some true := H
  have A7 := Aside0.mk A70
  clear A70
  by_cases c8 : t301 = true
  ·
   subst c8
   have H1 : ((dormouselaw22_near.f k l1 (-1073741824)).bind fun t302 => (dormouselaw22_AuditEarlier.j0 k l1 l2 a3 (!t302) l0_0 l0_1 l0_2 a0_3 a0_4 a0_5 a0_6 a0_7 a0_8)) = some true := by rw [if_pos rfl] at H; exact H
   clear H; have H := H1; clear H1
   replace H := Option.bind_eq_some_iff.mp H
   obtain ⟨t302, A90, H⟩ := H
   replace H : (dormouselaw22_AuditEarlier.j0 k l1 l2 a3 (!t302) l0_0 l0_1 l0_2 a0_3 a0_4 a0_5 a0_6 a0_7 a0_8) = some true := H
   have A9 := Aside0.mk A90
   clear A90; have H' := Aside0.mk H; clear H; have hcz10_0 : w6.cell? ⟨gb300, 0, none⟩ = some (.slice A0_0 l0_0.length c0_0) := (blk_cell BK300.out 0).trans rfl; have hcz10_1 : w6.cell? ⟨gb300, 1, none⟩ = some (.slice A0_1 l0_1.length c0_1) := (blk_cell BK300.out 1).trans rfl; have hcz10_2 : w6.cell? ⟨gb300, 2, none⟩ = some (.slice A0_2 l0_2.length c0_2) := (blk_cell BK300.out 2).trans rfl; have hcz10_3 : w6.cell? ⟨gb300, 3, none⟩ = some (.int .i64 a0_3) := (blk_cell BK300.out 3).trans rfl; have hcz10_4 : w6.cell? ⟨gb300, 4, none⟩ = some (.int .i64 a0_4) := (blk_cell BK300.out 4).trans rfl; have hcz10_5 : w6.cell? ⟨gb300, 5, none⟩ = some (.int .i64 a0_5) := (blk_cell BK300.out 5).trans rfl; have hcz10_6 : w6.cell? ⟨gb300, 6, none⟩ = some (.int .i64 a0_6) := (blk_cell BK300.out 6).trans rfl; have hcz10_7 : w6.cell? ⟨gb300, 7, none⟩ = some (.int .i64 a0_7) := (blk_cell BK300.out 7).trans rfl; have hcz10_8 : w6.cell? ⟨gb300, 8, none⟩ = some (.int .i64 a0_8) := (blk_cell BK300.out 8).trans rfl; have hfz10_0 := blk_frozen BK300.out 0; have hfz10_1 := blk_frozen BK300.out 1; have hfz10_2 := blk_frozen BK300.out 2; have hfz10_3 := blk_frozen BK300.out 3; have hfz10_4 := blk_frozen BK300.out 4; have hfz10_5 := blk_frozen BK300.out 5; have hfz10_6 := blk_frozen BK300.out 6; have hfz10_7 := blk_frozen BK300.out 7; have hfz10_8 := blk_frozen BK300.out 8
   go_wp2_with (first | ((with_reducible refine gate_callee (f := 9) rfl ?_); refine goesL_ (some 12) rfl rfl Try.func9 (by kernel_rfl) rfl #[.agg #[.slice A0_0 l0_0.length c0_0, .slice A0_1 l0_1.length c0_1, .slice A0_2 l0_2.length c0_2, .int .i64 a0_3, .int .i64 a0_4, .int .i64 a0_5, .int .i64 a0_6, .int .i64 a0_7, .int .i64 a0_8]] rfl (by (try simp only [List.map_toArray, List.map_cons, List.map_nil]); first | done | rfl | (simp only [List.length_drop, List.length_take]; rfl)) ?_; (with_reducible refine (dormouseref01_Table.calls k _ _ l0_0 _ _ l0_1 _ _ l0_2 a0_3 a0_4 a0_5 a0_6 a0_7 a0_8 true _ ?side1 ?side2 ?side3 ?side4 ?side5 ?side6 A7.out).mono ?_); (case side1 => repeat (first | exact (Kd.C_below HR0_0.out HB.out) | (with_reducible refine Kd.C_alloc ?_ _) | (with_reducible refine Kd.C_drewN ?_ _) | (with_reducible refine Kd.C_drew ?_))); (case side2 => exact HC0_0.out); (case side3 => repeat (first | exact (Kd.C_below HR0_1.out HB.out) | (with_reducible refine Kd.C_alloc ?_ _) | (with_reducible refine Kd.C_drewN ?_ _) | (with_reducible refine Kd.C_drew ?_))); (case side4 => exact HC0_1.out); (case side5 => repeat (first | exact (Kd.C_below HR0_2.out HB.out) | (with_reducible refine Kd.C_alloc ?_ _) | (with_reducible refine Kd.C_drewN ?_ _) | (with_reducible refine Kd.C_drew ?_))); (case side6 => exact HC0_2.out); rintro e w11 ⟨rfl, hb⟩; refine ⟨_, rfl, ?_⟩; have n0_ := Aside0.mk (blk_below (g := gb300) (o := .cells #[.slice A0_0 l0_0.length c0_0, .slice A0_1 l0_1.length c0_1, .slice A0_2 l0_2.length c0_2, .int .i64 a0_3, .int .i64 a0_4, .int .i64 a0_5, .int .i64 a0_6, .int .i64 a0_7, .int .i64 a0_8] 26 (0, 0)) (by (with_reducible repeat (first | refine blk_drewN ?_ _ | refine blk_drew ?_ | refine blk_alloc ?_ _)); exact BK300.out) hb); have n1_ := Aside0.mk (below_step (by repeat (first | (with_reducible first | exact HB.out | apply below_alloc | apply pw_below_drewN | apply below_drew1 | refine below_set ?_ GE300.out) | exact HB.out)) hb); clear BK300; clear HB; have BK300 := n0_; have HB := n1_; clear n0_ n1_; (try clear hb); (try clear hb2); (try clear hk); (try clear hi)) | (go_at_call 10; (with_reducible refine (dormouselaw22_near.calls k _ _ l1 (-1073741824) t302 _ ?side1 ?side2 A9.out).mono ?_); (case side1 => repeat (first | exact (Kd.C_below HR1.out HB.out) | (with_reducible refine Kd.C_alloc ?_ _) | (with_reducible refine Kd.C_drewN ?_ _) | (with_reducible refine Kd.C_drew ?_))); (case side2 => exact HC1.out); rintro e w12 ⟨rfl, hb⟩; have n0_ := Aside0.mk (blk_below (g := gb300) (o := .cells #[.slice A0_0 l0_0.length c0_0, .slice A0_1 l0_1.length c0_1, .slice A0_2 l0_2.length c0_2, .int .i64 a0_3, .int .i64 a0_4, .int .i64 a0_5, .int .i64 a0_6, .int .i64 a0_7, .int .i64 a0_8] 26 (0, 0)) (by (with_reducible repeat (first | refine blk_drewN ?_ _ | refine blk_drew ?_ | refine blk_alloc ?_ _)); exact BK300.out) hb); have n1_ := Aside0.mk (below_step (by repeat (first | (with_reducible first | exact HB.out | apply below_alloc | apply pw_below_drewN | apply below_drew1 | refine below_set ?_ GE300.out) | exact HB.out)) hb); clear BK300; clear HB; have BK300 := n0_; have HB := n1_; clear n0_ n1_; (try clear hb); (try clear hb2); (try clear hk); (try clear hi)))
   go_meet
   case rel => exact ⟨_, (!t302), (by first | rfl | (simp; done) | (simp [*]; done)), H', ⟨by first | omega | exact Nat.le_refl _⟩, ⟨by (with_reducible repeat (first | refine blk_drewN ?_ _ | refine blk_drew ?_ | refine blk_alloc ?_ _)); exact BK300.out⟩, ⟨by repeat (first | (with_reducible first | exact HB.out | apply below_alloc | apply pw_below_drewN | apply below_drew1 | refine below_set ?_ GE300.out) | exact HB.out)⟩⟩
  replace c8 := Bool.eq_false_iff.mpr c8
  subst c8
  have H1 : (dormouselaw22_AuditEarlier.j0 k l1 l2 a3 true l0_0 l0_1 l0_2 a0_3 a0_4 a0_5 a0_6 a0_7 a0_8) = some true := by rw [if_neg (show ¬ (false = true) by decide)] at H; exact H
  clear H; have H := H1; clear H1; have H' := Aside0.mk H; clear H; have hcz13_0 : w6.cell? ⟨gb300, 0, none⟩ = some (.slice A0_0 l0_0.length c0_0) := (blk_cell BK300.out 0).trans rfl; have hcz13_1 : w6.cell? ⟨gb300, 1, none⟩ = some (.slice A0_1 l0_1.length c0_1) := (blk_cell BK300.out 1).trans rfl; have hcz13_2 : w6.cell? ⟨gb300, 2, none⟩ = some (.slice A0_2 l0_2.length c0_2) := (blk_cell BK300.out 2).trans rfl; have hcz13_3 : w6.cell? ⟨gb300, 3, none⟩ = some (.int .i64 a0_3) := (blk_cell BK300.out 3).trans rfl; have hcz13_4 : w6.cell? ⟨gb300, 4, none⟩ = some (.int .i64 a0_4) := (blk_cell BK300.out 4).trans rfl; have hcz13_5 : w6.cell? ⟨gb300, 5, none⟩ = some (.int .i64 a0_5) := (blk_cell BK300.out 5).trans rfl; have hcz13_6 : w6.cell? ⟨gb300, 6, none⟩ = some (.int .i64 a0_6) := (blk_cell BK300.out 6).trans rfl; have hcz13_7 : w6.cell? ⟨gb300, 7, none⟩ = some (.int .i64 a0_7) := (blk_cell BK300.out 7).trans rfl; have hcz13_8 : w6.cell? ⟨gb300, 8, none⟩ = some (.int .i64 a0_8) := (blk_cell BK300.out 8).trans rfl; have hfz13_0 := blk_frozen BK300.out 0; have hfz13_1 := blk_frozen BK300.out 1; have hfz13_2 := blk_frozen BK300.out 2; have hfz13_3 := blk_frozen BK300.out 3; have hfz13_4 := blk_frozen BK300.out 4; have hfz13_5 := blk_frozen BK300.out 5; have hfz13_6 := blk_frozen BK300.out 6; have hfz13_7 := blk_frozen BK300.out 7; have hfz13_8 := blk_frozen BK300.out 8
  go_wp2_with (first | ((with_reducible refine gate_callee (f := 9) rfl ?_); refine goesL_ (some 12) rfl rfl Try.func9 (by kernel_rfl) rfl #[.agg #[.slice A0_0 l0_0.length c0_0, .slice A0_1 l0_1.length c0_1, .slice A0_2 l0_2.length c0_2, .int .i64 a0_3, .int .i64 a0_4, .int .i64 a0_5, .int .i64 a0_6, .int .i64 a0_7, .int .i64 a0_8]] rfl (by (try simp only [List.map_toArray, List.map_cons, List.map_nil]); first | done | rfl | (simp only [List.length_drop, List.length_take]; rfl)) ?_; (with_reducible refine (dormouseref01_Table.calls k _ _ l0_0 _ _ l0_1 _ _ l0_2 a0_3 a0_4 a0_5 a0_6 a0_7 a0_8 false _ ?side1 ?side2 ?side3 ?side4 ?side5 ?side6 A7.out).mono ?_); (case side1 => repeat (first | exact (Kd.C_below HR0_0.out HB.out) | (with_reducible refine Kd.C_alloc ?_ _) | (with_reducible refine Kd.C_drewN ?_ _) | (with_reducible refine Kd.C_drew ?_))); (case side2 => exact HC0_0.out); (case side3 => repeat (first | exact (Kd.C_below HR0_1.out HB.out) | (with_reducible refine Kd.C_alloc ?_ _) | (with_reducible refine Kd.C_drewN ?_ _) | (with_reducible refine Kd.C_drew ?_))); (case side4 => exact HC0_1.out); (case side5 => repeat (first | exact (Kd.C_below HR0_2.out HB.out) | (with_reducible refine Kd.C_alloc ?_ _) | (with_reducible refine Kd.C_drewN ?_ _) | (with_reducible refine Kd.C_drew ?_))); (case side6 => exact HC0_2.out); rintro e w14 ⟨rfl, hb⟩; refine ⟨_, rfl, ?_⟩; have n0_ := Aside0.mk (blk_below (g := gb300) (o := .cells #[.slice A0_0 l0_0.length c0_0, .slice A0_1 l0_1.length c0_1, .slice A0_2 l0_2.length c0_2, .int .i64 a0_3, .int .i64 a0_4, .int .i64 a0_5, .int .i64 a0_6, .int .i64 a0_7, .int .i64 a0_8] 26 (0, 0)) (by (with_reducible repeat (first | refine blk_drewN ?_ _ | refine blk_drew ?_ | refine blk_alloc ?_ _)); exact BK300.out) hb); have n1_ := Aside0.mk (below_step (by repeat (first | (with_reducible first | exact HB.out | apply below_alloc | apply pw_below_drewN | apply below_drew1 | refine below_set ?_ GE300.out) | exact HB.out)) hb); clear BK300; clear HB; have BK300 := n0_; have HB := n1_; clear n0_ n1_; (try clear hb); (try clear hb2); (try clear hk); (try clear hi)))
  go_meet
  case rel => exact ⟨_, (true), (by first | rfl | (simp; done) | (simp [*]; done)), H', ⟨by first | omega | exact Nat.le_refl _⟩, ⟨by (with_reducible repeat (first | refine blk_drewN ?_ _ | refine blk_drew ?_ | refine blk_alloc ?_ _)); exact BK300.out⟩, ⟨by repeat (first | (with_reducible first | exact HB.out | apply below_alloc | apply pw_below_drewN | apply below_drew1 | refine below_set ?_ GE300.out) | exact HB.out)⟩⟩
 case rest =>
  clear HC5; (try clear c1); (try clear c2); (try clear p2); (try clear c8); (try clear c9); (try clear hcz10_0); (try clear hcz10_1); (try clear hcz10_2); (try clear hcz10_3); (try clear hcz10_4); (try clear hcz10_5); (try clear hcz10_6); (try clear hcz10_7); (try clear hcz10_8); (try clear hcz13_0); (try clear hcz13_1); (try clear hcz13_2); (try clear hcz13_3); (try clear hcz13_4); (try clear hcz13_5); (try clear hcz13_6); (try clear hcz13_7); (try clear hcz13_8); (try clear hfz10_0); (try clear hfz10_1); (try clear hfz10_2); (try clear hfz10_3); (try clear hfz10_4); (try clear hfz10_5); (try clear hfz10_6); (try clear hfz10_7); (try clear hfz10_8); (try clear hfz13_0); (try clear hfz13_1); (try clear hfz13_2); (try clear hfz13_3); (try clear hfz13_4); (try clear hfz13_5); (try clear hfz13_6); (try clear hfz13_7); (try clear hfz13_8)
  obtain ⟨kq, x18_4, rfl, HA, HJ4, BK300, HB⟩ := hcut
  cases kq with
  | zero => exact absurd HA.out (by simp [dormouselaw22_AuditEarlier.j0])
  | succ kj4 =>
   have H := HA.out; clear HA
   simp only [dormouselaw22_AuditEarlier.j0] at H
   by_cases c15 : x18_4 = true
   ·
    subst c15
    have H1 : ((dormouselaw22_answers.f kj4).bind fun t303 => (some t303)) = some true := by rw [if_pos rfl] at H; exact H
    clear H; have H := H1; clear H1
    replace H := Option.bind_eq_some_iff.mp H
    obtain ⟨t303, A160, H⟩ := H
    replace H : (some t303) = some true := H
    have A16 := Aside0.mk A160
    clear A160; have HR_ := Aside0.mk (Option.some.inj H)
    go_wp2_with (first | ((with_reducible refine gate_callee (f := 11) rfl ?_); refine goesL_ (some 19) rfl rfl Try.func11 (by kernel_rfl) rfl #[] rfl (by (try simp only [List.map_toArray, List.map_cons, List.map_nil]); first | done | rfl | (simp only [List.length_drop, List.length_take]; rfl)) ?_; (with_reducible refine (dormouselaw22_answers.calls kj4  t303 _ A16.out).mono ?_); rintro e w17 ⟨rfl, hb⟩; refine ⟨_, rfl, ?_⟩; have n0_ := Aside0.mk (blk_below (g := gb300) (o := .cells #[.slice A0_0 l0_0.length c0_0, .slice A0_1 l0_1.length c0_1, .slice A0_2 l0_2.length c0_2, .int .i64 a0_3, .int .i64 a0_4, .int .i64 a0_5, .int .i64 a0_6, .int .i64 a0_7, .int .i64 a0_8] 26 (0, 0)) (by (with_reducible repeat (first | refine blk_drewN ?_ _ | refine blk_drew ?_ | refine blk_alloc ?_ _)); exact BK300.out) hb); have n1_ := Aside0.mk (below_step (by repeat (first | (with_reducible first | exact HB.out | apply below_alloc | apply pw_below_drewN | apply below_drew1 | refine below_set ?_ GE300.out) | exact HB.out)) hb); clear BK300; clear HB; have BK300 := n0_; have HB := n1_; clear n0_ n1_; (try clear hb); (try clear hb2); (try clear hk); (try clear hi)))
    go_ret
    exact ⟨by first | rfl | (rw [HR_.out]; done) | (rw [HR_.out]; rfl) | (simp [errW_none, errW_some] <;> rfl) | (simp [*, errW_none, errW_some] <;> rfl), by repeat (first | (with_reducible first | exact HB.out | apply below_alloc | apply pw_below_drewN | apply below_drew1 | refine below_set ?_ GE300.out) | exact HB.out)⟩
   replace c15 := Bool.eq_false_iff.mpr c15
   subst c15
   have H1 : (if (wrap64 ((l1.length : Int) + 1)) = 0 then (none) else (if (wrap64 ((l2.length : Int) + 1)) = 0 then (none) else ((dormouselaw22_answers.f kj4).bind fun t304 => (if t304 = true then ((audit_Slept.f kj4 l0_0 l0_1 l0_2 a0_3 a0_4 a0_5 a0_6 a0_7 a0_8 l1).bind fun t305 => (if t305 = true then (if 0 ≤ (Int.tmod (wrap64 (a3)) (wrap64 ((l1.length : Int) + 1))) then (if (Int.tmod (wrap64 (a3)) (wrap64 ((l1.length : Int) + 1))) ≤ (l1.length : Int) then ((audit_Slept.f kj4 l0_0 l0_1 l0_2 a0_3 a0_4 a0_5 a0_6 a0_7 a0_8 (l1.take ((Int.tmod (wrap64 (a3)) (wrap64 ((l1.length : Int) + 1))) : Int).toNat)).bind fun t310 => (if t310 = true then ((audit_Kept.f kj4 l2).bind fun t311 => (if t311 = true then (if 0 ≤ (Int.tmod (wrap64 (a3)) (wrap64 ((l2.length : Int) + 1))) then (if (Int.tmod (wrap64 (a3)) (wrap64 ((l2.length : Int) + 1))) ≤ (l2.length : Int) then ((audit_Kept.f kj4 (l2.take ((Int.tmod (wrap64 (a3)) (wrap64 ((l2.length : Int) + 1))) : Int).toNat)).bind fun t316 => (some t316)) else (none)) else (none)) else (some true))) else (some false))) else (none)) else (none)) else ((audit_Kept.f kj4 l2).bind fun t317 => (if t317 = true then (if 0 ≤ (Int.tmod (wrap64 (a3)) (wrap64 ((l2.length : Int) + 1))) then (if (Int.tmod (wrap64 (a3)) (wrap64 ((l2.length : Int) + 1))) ≤ (l2.length : Int) then ((audit_Kept.f kj4 (l2.take ((Int.tmod (wrap64 (a3)) (wrap64 ((l2.length : Int) + 1))) : Int).toNat)).bind fun t322 => (some t322)) else (none)) else (none)) else (some true))))) else (some false))))) = some true := by rw [if_neg (show ¬ (false = true) by decide)] at H; exact H
   clear H; have H := H1; clear H1
   by_cases c18 : (wrap64 ((l1.length : Int) + 1)) = 0
   ·
    rw [if_pos c18] at H
    exact absurd H (by simp)
   rw [if_neg c18] at H
   have c18b0 : ((wrap64 ((l1.length : Int) + 1)) == 0) = false := beq_eq_false_iff_ne.mpr c18
   have c18b1 : ((wrap64 ((l1.length : Int) + 1)) != 0) = true := bne_iff_ne.mpr c18
   by_cases c19 : (wrap64 ((l2.length : Int) + 1)) = 0
   ·
    rw [if_pos c19] at H
    exact absurd H (by simp)
   rw [if_neg c19] at H
   have c19b0 : ((wrap64 ((l2.length : Int) + 1)) == 0) = false := beq_eq_false_iff_ne.mpr c19
   have c19b1 : ((wrap64 ((l2.length : Int) + 1)) != 0) = true := bne_iff_ne.mpr c19
   replace H := Option.bind_eq_some_iff.mp H
   obtain ⟨t304, A200, H⟩ := H
   replace H : (if t304 = true then ((audit_Slept.f kj4 l0_0 l0_1 l0_2 a0_3 a0_4 a0_5 a0_6 a0_7 a0_8 l1).bind fun t305 => (if t305 = true then (if 0 ≤ (Int.tmod (wrap64 (a3)) (wrap64 ((l1.length : Int) + 1))) then (if (Int.tmod (wrap64 (a3)) (wrap64 ((l1.length : Int) + 1))) ≤ (l1.length : Int) then ((audit_Slept.f kj4 l0_0 l0_1 l0_2 a0_3 a0_4 a0_5 a0_6 a0_7 a0_8 (l1.take ((Int.tmod (wrap64 (a3)) (wrap64 ((l1.length : Int) + 1))) : Int).toNat)).bind fun t310 => (if t310 = true then ((audit_Kept.f kj4 l2).bind fun t311 => (if t311 = true then (if 0 ≤ (Int.tmod (wrap64 (a3)) (wrap64 ((l2.length : Int) + 1))) then (if (Int.tmod (wrap64 (a3)) (wrap64 ((l2.length : Int) + 1))) ≤ (l2.length : Int) then ((audit_Kept.f kj4 (l2.take ((Int.tmod (wrap64 (a3)) (wrap64 ((l2.length : Int) + 1))) : Int).toNat)).bind fun t316 => (some t316)) else (none)) else (none)) else (some true))) else (some false))) else (none)) else (none)) else ((audit_Kept.f kj4 l2).bind fun t317 => (if t317 = true then (if 0 ≤ (Int.tmod (wrap64 (a3)) (wrap64 ((l2.length : Int) + 1))) then (if (Int.tmod (wrap64 (a3)) (wrap64 ((l2.length : Int) + 1))) ≤ (l2.length : Int) then ((audit_Kept.f kj4 (l2.take ((Int.tmod (wrap64 (a3)) (wrap64 ((l2.length : Int) + 1))) : Int).toNat)).bind fun t322 => (some t322)) else (none)) else (none)) else (some true))))) else (some false)) = some true := H
   have A20 := Aside0.mk A200
   clear A200
   by_cases c21 : t304 = true
   ·
    subst c21
    have H1 : ((audit_Slept.f kj4 l0_0 l0_1 l0_2 a0_3 a0_4 a0_5 a0_6 a0_7 a0_8 l1).bind fun t305 => (if t305 = true then (if 0 ≤ (Int.tmod (wrap64 (a3)) (wrap64 ((l1.length : Int) + 1))) then (if (Int.tmod (wrap64 (a3)) (wrap64 ((l1.length : Int) + 1))) ≤ (l1.length : Int) then ((audit_Slept.f kj4 l0_0 l0_1 l0_2 a0_3 a0_4 a0_5 a0_6 a0_7 a0_8 (l1.take ((Int.tmod (wrap64 (a3)) (wrap64 ((l1.length : Int) + 1))) : Int).toNat)).bind fun t310 => (if t310 = true then ((audit_Kept.f kj4 l2).bind fun t311 => (if t311 = true then (if 0 ≤ (Int.tmod (wrap64 (a3)) (wrap64 ((l2.length : Int) + 1))) then (if (Int.tmod (wrap64 (a3)) (wrap64 ((l2.length : Int) + 1))) ≤ (l2.length : Int) then ((audit_Kept.f kj4 (l2.take ((Int.tmod (wrap64 (a3)) (wrap64 ((l2.length : Int) + 1))) : Int).toNat)).bind fun t316 => (some t316)) else (none)) else (none)) else (some true))) else (some false))) else (none)) else (none)) else ((audit_Kept.f kj4 l2).bind fun t317 => (if t317 = true then (if 0 ≤ (Int.tmod (wrap64 (a3)) (wrap64 ((l2.length : Int) + 1))) then (if (Int.tmod (wrap64 (a3)) (wrap64 ((l2.length : Int) + 1))) ≤ (l2.length : Int) then ((audit_Kept.f kj4 (l2.take ((Int.tmod (wrap64 (a3)) (wrap64 ((l2.length : Int) + 1))) : Int).toNat)).bind fun t322 => (some t322)) else (none)) else (none)) else (some true))))) = some true := by rw [if_pos rfl] at H; exact H
    clear H; have H := H1; clear H1
    replace H := Option.bind_eq_some_iff.mp H
    obtain ⟨t305, A220, H⟩ := H
    replace H : (if t305 = true then (if 0 ≤ (Int.tmod (wrap64 (a3)) (wrap64 ((l1.length : Int) + 1))) then (if (Int.tmod (wrap64 (a3)) (wrap64 ((l1.length : Int) + 1))) ≤ (l1.length : Int) then ((audit_Slept.f kj4 l0_0 l0_1 l0_2 a0_3 a0_4 a0_5 a0_6 a0_7 a0_8 (l1.take ((Int.tmod (wrap64 (a3)) (wrap64 ((l1.length : Int) + 1))) : Int).toNat)).bind fun t310 => (if t310 = true then ((audit_Kept.f kj4 l2).bind fun t311 => (if t311 = true then (if 0 ≤ (Int.tmod (wrap64 (a3)) (wrap64 ((l2.length : Int) + 1))) then (if (Int.tmod (wrap64 (a3)) (wrap64 ((l2.length : Int) + 1))) ≤ (l2.length : Int) then ((audit_Kept.f kj4 (l2.take ((Int.tmod (wrap64 (a3)) (wrap64 ((l2.length : Int) + 1))) : Int).toNat)).bind fun t316 => (some t316)) else (none)) else (none)) else (some true))) else (some false))) else (none)) else (none)) else ((audit_Kept.f kj4 l2).bind fun t317 => (if t317 = true then (if 0 ≤ (Int.tmod (wrap64 (a3)) (wrap64 ((l2.length : Int) + 1))) then (if (Int.tmod (wrap64 (a3)) (wrap64 ((l2.length : Int) + 1))) ≤ (l2.length : Int) then ((audit_Kept.f kj4 (l2.take ((Int.tmod (wrap64 (a3)) (wrap64 ((l2.length : Int) + 1))) : Int).toNat)).bind fun t322 => (some t322)) else (none)) else (none)) else (some true)))) = some true := H
    have A22 := Aside0.mk A220
    clear A220
    by_cases c23 : t305 = true
    ·
     subst c23
     have H1 : (if 0 ≤ (Int.tmod (wrap64 (a3)) (wrap64 ((l1.length : Int) + 1))) then (if (Int.tmod (wrap64 (a3)) (wrap64 ((l1.length : Int) + 1))) ≤ (l1.length : Int) then ((audit_Slept.f kj4 l0_0 l0_1 l0_2 a0_3 a0_4 a0_5 a0_6 a0_7 a0_8 (l1.take ((Int.tmod (wrap64 (a3)) (wrap64 ((l1.length : Int) + 1))) : Int).toNat)).bind fun t310 => (if t310 = true then ((audit_Kept.f kj4 l2).bind fun t311 => (if t311 = true then (if 0 ≤ (Int.tmod (wrap64 (a3)) (wrap64 ((l2.length : Int) + 1))) then (if (Int.tmod (wrap64 (a3)) (wrap64 ((l2.length : Int) + 1))) ≤ (l2.length : Int) then ((audit_Kept.f kj4 (l2.take ((Int.tmod (wrap64 (a3)) (wrap64 ((l2.length : Int) + 1))) : Int).toNat)).bind fun t316 => (some t316)) else (none)) else (none)) else (some true))) else (some false))) else (none)) else (none)) = some true := by rw [if_pos rfl] at H; exact H
     clear H; have H := H1; clear H1
     obtain ⟨ji24, hji24⟩ : ∃ j_ : Int, (Int.tmod (wrap64 (a3)) (wrap64 ((l1.length : Int) + 1))) = j_ := ⟨_, rfl⟩
     replace H : (if 0 ≤ (ji24) then (if (ji24) ≤ (l1.length : Int) then ((audit_Slept.f kj4 l0_0 l0_1 l0_2 a0_3 a0_4 a0_5 a0_6 a0_7 a0_8 (l1.take ((ji24) : Int).toNat)).bind fun t310 => (if t310 = true then ((audit_Kept.f kj4 l2).bind fun t311 => (if t311 = true then (if 0 ≤ (Int.tmod (wrap64 (a3)) (wrap64 ((l2.length : Int) + 1))) then (if (Int.tmod (wrap64 (a3)) (wrap64 ((l2.length : Int) + 1))) ≤ (l2.length : Int) then ((audit_Kept.f kj4 (l2.take ((Int.tmod (wrap64 (a3)) (wrap64 ((l2.length : Int) + 1))) : Int).toNat)).bind fun t316 => (some t316)) else (none)) else (none)) else (some true))) else (some false))) else (none)) else (none)) = some true := by first | (rw [hji24] at H; exact H) | (simp only [hji24] at H ⊢; exact H)
     (try rw [hji24] at A20)
     (try rw [hji24] at A22)
     by_cases c25 : 0 ≤ (ji24)
     ·
      rw [if_pos c25] at H
      have c25b0 := eq_true c25
      have c25b1 : decide (0 ≤ (ji24)) = true := decide_eq_true c25
      clear c25
      by_cases c26 : (ji24) ≤ (l1.length : Int)
      ·
       rw [if_pos c26] at H
       have c26b0 := eq_true c26
       have c26b1 : decide ((ji24) ≤ (l1.length : Int)) = true := decide_eq_true c26
       clear c26
       obtain ⟨y306, hy306⟩ : ∃ y_ : List (S33), y_ = (l1.take ((ji24) : Int).toNat) := ⟨_, rfl⟩
       replace H : ((audit_Slept.f kj4 l0_0 l0_1 l0_2 a0_3 a0_4 a0_5 a0_6 a0_7 a0_8 y306).bind fun t310 => (if t310 = true then ((audit_Kept.f kj4 l2).bind fun t311 => (if t311 = true then (if 0 ≤ (Int.tmod (wrap64 (a3)) (wrap64 ((l2.length : Int) + 1))) then (if (Int.tmod (wrap64 (a3)) (wrap64 ((l2.length : Int) + 1))) ≤ (l2.length : Int) then ((audit_Kept.f kj4 (l2.take ((Int.tmod (wrap64 (a3)) (wrap64 ((l2.length : Int) + 1))) : Int).toNat)).bind fun t316 => (some t316)) else (none)) else (none)) else (some true))) else (some false))) = some true := by first | (rw [hy306]; with_reducible exact H) | (have H2_ := (Option.bind_some _ _).symm.trans H; rw [hy306]; with_reducible exact H2_) | (have H2_ := (Option.bind_some _ _).symm.trans H; with_reducible exact H2_) | with_reducible exact H | (rw [hy306]; exact H) | exact H
       have Ny306 := Aside0.mk hy306
       clear hy306
       replace H := Option.bind_eq_some_iff.mp H
       obtain ⟨t310, A270, H⟩ := H
       replace H : (if t310 = true then ((audit_Kept.f kj4 l2).bind fun t311 => (if t311 = true then (if 0 ≤ (Int.tmod (wrap64 (a3)) (wrap64 ((l2.length : Int) + 1))) then (if (Int.tmod (wrap64 (a3)) (wrap64 ((l2.length : Int) + 1))) ≤ (l2.length : Int) then ((audit_Kept.f kj4 (l2.take ((Int.tmod (wrap64 (a3)) (wrap64 ((l2.length : Int) + 1))) : Int).toNat)).bind fun t316 => (some t316)) else (none)) else (none)) else (some true))) else (some false)) = some true := H
       have A27 := Aside0.mk A270
       clear A270
       by_cases c28 : t310 = true
       ·
        subst c28
        have H1 : ((audit_Kept.f kj4 l2).bind fun t311 => (if t311 = true then (if 0 ≤ (Int.tmod (wrap64 (a3)) (wrap64 ((l2.length : Int) + 1))) then (if (Int.tmod (wrap64 (a3)) (wrap64 ((l2.length : Int) + 1))) ≤ (l2.length : Int) then ((audit_Kept.f kj4 (l2.take ((Int.tmod (wrap64 (a3)) (wrap64 ((l2.length : Int) + 1))) : Int).toNat)).bind fun t316 => (some t316)) else (none)) else (none)) else (some true))) = some true := by rw [if_pos rfl] at H; exact H
        clear H; have H := H1; clear H1
        replace H := Option.bind_eq_some_iff.mp H
        obtain ⟨t311, A290, H⟩ := H
        replace H : (if t311 = true then (if 0 ≤ (Int.tmod (wrap64 (a3)) (wrap64 ((l2.length : Int) + 1))) then (if (Int.tmod (wrap64 (a3)) (wrap64 ((l2.length : Int) + 1))) ≤ (l2.length : Int) then ((audit_Kept.f kj4 (l2.take ((Int.tmod (wrap64 (a3)) (wrap64 ((l2.length : Int) + 1))) : Int).toNat)).bind fun t316 => (some t316)) else (none)) else (none)) else (some true)) = some true := H
        have A29 := Aside0.mk A290
        clear A290
        by_cases c30 : t311 = true
        ·
         subst c30
         have H1 : (if 0 ≤ (Int.tmod (wrap64 (a3)) (wrap64 ((l2.length : Int) + 1))) then (if (Int.tmod (wrap64 (a3)) (wrap64 ((l2.length : Int) + 1))) ≤ (l2.length : Int) then ((audit_Kept.f kj4 (l2.take ((Int.tmod (wrap64 (a3)) (wrap64 ((l2.length : Int) + 1))) : Int).toNat)).bind fun t316 => (some t316)) else (none)) else (none)) = some true := by rw [if_pos rfl] at H; exact H
         clear H; have H := H1; clear H1
         obtain ⟨ji31, hji31⟩ : ∃ j_ : Int, (Int.tmod (wrap64 (a3)) (wrap64 ((l2.length : Int) + 1))) = j_ := ⟨_, rfl⟩
         replace H : (if 0 ≤ (ji31) then (if (ji31) ≤ (l2.length : Int) then ((audit_Kept.f kj4 (l2.take ((ji31) : Int).toNat)).bind fun t316 => (some t316)) else (none)) else (none)) = some true := by first | (rw [hji31] at H; exact H) | (simp only [hji31] at H ⊢; exact H)
         (try rw [hji31] at A20)
         (try rw [hji31] at A22)
         (try rw [hji31] at A27)
         (try rw [hji31] at A29)
         by_cases c32 : 0 ≤ (ji31)
         ·
          rw [if_pos c32] at H
          have c32b0 := eq_true c32
          have c32b1 : decide (0 ≤ (ji31)) = true := decide_eq_true c32
          clear c32
          by_cases c33 : (ji31) ≤ (l2.length : Int)
          ·
           rw [if_pos c33] at H
           have c33b0 := eq_true c33
           have c33b1 : decide ((ji31) ≤ (l2.length : Int)) = true := decide_eq_true c33
           clear c33
           obtain ⟨y312, hy312⟩ : ∃ y_ : List (S53), y_ = (l2.take ((ji31) : Int).toNat) := ⟨_, rfl⟩
           replace H : ((audit_Kept.f kj4 y312).bind fun t316 => (some t316)) = some true := by first | (rw [hy312]; with_reducible exact H) | (have H2_ := (Option.bind_some _ _).symm.trans H; rw [hy312]; with_reducible exact H2_) | (have H2_ := (Option.bind_some _ _).symm.trans H; with_reducible exact H2_) | with_reducible exact H | (rw [hy312]; exact H) | exact H
           have Ny312 := Aside0.mk hy312
           clear hy312
           replace H := Option.bind_eq_some_iff.mp H
           obtain ⟨t316, A340, H⟩ := H
           replace H : (some t316) = some true := H
           have A34 := Aside0.mk A340
           clear A340; have HR_ := Aside0.mk (Option.some.inj H)
           try go_wp2
           have n0_ := Aside0.mk (blk_drew BK300.out); have n1_ := Aside0.mk (below_drew1 HB.out); clear BK300; clear HB; have BK300 := n0_; have HB := n1_; clear n0_ n1_
           refine start_ (n := 14) (S := fun w' => True) (ds := []) qf8_0 (by kernel_rfl) rfl rfl trivial (fun hHeld => ?_); refine with_tabW dormouselaw22_AuditEarlier.tab3 dormouselaw22_AuditEarlier.bits3 (fun HT_ HW_ => ?_)
           generalize wc.drew = w35 at BK300 HB hHeld ⊢
           refine pure_ (i := 0) (N := some 20) (v := ?_) (a' := ?_) qf8_1 rfl rfl (any_of HT_.out (by kernel_rfl)) (fun _ _ _ h => h) (Or.inl ⟨by rfl, ?_⟩) ?_ ?_; rotate_left; (· (intro w'; go_simp; with_reducible rfl)); rotate_left; (· (simp only [Act.put, zAf8, zBf8, zCf8, i64_w, i32_w]; rfl))
           refine pure_ (i := 1) (N := some 21) (v := ?_) (a' := ?_) qf8_2 rfl rfl (any_of HT_.out (by kernel_rfl)) (fun _ _ _ h => h) (Or.inl ⟨by rfl, ?_⟩) ?_ ?_; rotate_left; (· (intro w'; go_simp; with_reducible rfl)); rotate_left; (· (simp only [Act.put, zAf8, zBf8, zCf8, i64_w, i32_w]; rfl))
           refine pure_ (i := 2) (N := some 22) (v := ?_) (a' := ?_) qf8_3 rfl rfl (any_of HT_.out (by kernel_rfl)) (fun _ _ _ h => h) (Or.inl ⟨by rfl, ?_⟩) ?_ ?_; rotate_left; (· (intro w'; go_simp; with_reducible rfl)); rotate_left; (· (simp only [Act.put, zAf8, zBf8, zCf8, i64_w, i32_w]; rfl))
           refine pure_ (i := 3) (N := some 23) (v := ?_) (a' := ?_) qf8_4 rfl rfl (any_of HT_.out (by kernel_rfl)) (fun _ _ _ h => h) (Or.inl ⟨by rfl, ?_⟩) ?_ ?_; rotate_left; (· (intro w'; go_simp; with_reducible rfl)); rotate_left; (· (simp only [Act.put, zAf8, zBf8, zCf8, i64_w, i32_w]; rfl))
           refine pure_ (i := 4) (N := some 24) (v := ?_) (a' := ?_) qf8_5 rfl rfl (any_of HT_.out (by kernel_rfl)) (fun _ _ _ h => h) (Or.inl ⟨by rfl, ?_⟩) ?_ ?_; rotate_left; (· (intro w'; go_simp; with_reducible rfl)); rotate_left; (· (simp only [Act.put, zAf8, zBf8, zCf8, i64_w, i32_w]; rfl))
           refine pure_ (i := 5) (N := some 25) (v := ?_) (a' := ?_) qf8_6 rfl rfl (any_of HT_.out (by kernel_rfl)) (fun _ _ _ h => h) (Or.inl ⟨by rfl, ?_⟩) ?_ ?_; rotate_left; (· (intro w'; go_simp; with_reducible rfl)); rotate_left; (· (simp only [Act.put, zAf8, zBf8, zCf8, i64_w, i32_w]; rfl))
           refine pure_ (i := 6) (N := some 26) (v := ?_) (a' := ?_) qf8_7 rfl rfl (any_of HT_.out (by kernel_rfl)) (fun _ _ _ h => h) (Or.inl ⟨by rfl, ?_⟩) ?_ ?_; rotate_left; (· (intro w'; go_simp; with_reducible rfl)); rotate_left; (· (simp only [Act.put, zAf8, zBf8, zCf8, i64_w, i32_w]; rfl))
           refine pure_ (i := 7) (N := some 27) (v := ?_) (a' := ?_) qf8_8 rfl rfl (any_of HT_.out (by kernel_rfl)) (fun _ _ _ h => h) (Or.inl ⟨by rfl, ?_⟩) ?_ ?_; rotate_left; (· (intro w'; go_simp; with_reducible rfl)); rotate_left; (· (simp only [Act.put, zAf8, zBf8, zCf8, i64_w, i32_w]; rfl))
           refine pure_ (i := 8) (N := some 28) (v := ?_) (a' := ?_) qf8_9 rfl rfl (any_of HT_.out (by kernel_rfl)) (fun _ _ _ h => h) (Or.inl ⟨by rfl, ?_⟩) ?_ ?_; rotate_left; (· (intro w'; go_simp; with_reducible rfl)); rotate_left; (· (simp only [Act.put, zAf8, zBf8, zCf8, i64_w, i32_w]; rfl))
           refine pure_ (i := 9) (N := some 29) (v := ?_) (a' := ?_) qf8_10 rfl rfl (any_of HT_.out (by kernel_rfl)) (fun _ _ _ h => h) (Or.inl ⟨by rfl, ?_⟩) ?_ ?_; rotate_left; (· (intro w'; go_simp; with_reducible rfl)); rotate_left; (· (simp only [Act.put, zAf8, zBf8, zCf8, i64_w, i32_w]; rfl))
           refine pure_ (i := 10) (N := some 30) (v := ?_) (a' := ?_) qf8_11 rfl rfl (any_of HT_.out (by kernel_rfl)) (fun _ _ _ h => h) (Or.inl ⟨by rfl, ?_⟩) ?_ ?_; rotate_left; (· (intro w'; go_simp; with_reducible rfl)); rotate_left; (· (simp only [Act.put, zAf8, zBf8, zCf8, i64_w, i32_w]; rfl))
           refine pure_ (i := 11) (N := some 31) (v := ?_) (a' := ?_) qf8_12 rfl rfl (any_of HT_.out (by kernel_rfl)) (fun _ _ _ h => h) (Or.inl ⟨by rfl, ?_⟩) ?_ ?_; rotate_left; (· (intro w'; go_simp; with_reducible rfl)); rotate_left; (· (simp only [Act.put, zAf8, zBf8, zCf8, i64_w, i32_w]; rfl))
           refine pure_ (i := 12) (N := some 9) (v := ?_) (a' := ?_) qf8_13 rfl rfl (any_of HT_.out (by kernel_rfl)) (fun _ _ _ h => h) (Or.inl ⟨by rfl, ?_⟩) ?_ ?_; rotate_left; (· (intro w'; go_simp; with_reducible rfl)); rotate_left; (· (simp only [Act.put, zAf8, zBf8, zCf8, i64_w, i32_w]; rfl))
           refine pure_ (i := 13) (N := some 10) (v := ?_) (a' := ?_) qf8_14 rfl rfl (any_of HT_.out (by kernel_rfl)) (fun _ _ _ h => h) (Or.inl ⟨by rfl, ?_⟩) ?_ ?_; rotate_left; (· (intro w'; go_simp; with_reducible rfl)); rotate_left; (· (simp only [Act.put, zAf8, zBf8, zCf8, i64_w, i32_w]; rfl))
           refine done_ (done_of HT_.out (by kernel_rfl)) ?_
           try go_wp2
           have n0_ := Aside0.mk (blk_drew BK300.out); have n1_ := Aside0.mk (below_drew1 HB.out); clear BK300; clear HB; have BK300 := n0_; have HB := n1_; clear n0_ n1_
           refine start_ (n := 26) (S := fun w' => w'.cell? ⟨gb300, 0, none⟩ = some (.slice A0_0 l0_0.length c0_0) ∧ w'.cell? ⟨gb300, 1, none⟩ = some (.slice A0_1 l0_1.length c0_1) ∧ w'.cell? ⟨gb300, 2, none⟩ = some (.slice A0_2 l0_2.length c0_2) ∧ w'.cell? ⟨gb300, 3, none⟩ = some (.int .i64 a0_3) ∧ w'.cell? ⟨gb300, 4, none⟩ = some (.int .i64 a0_4) ∧ w'.cell? ⟨gb300, 5, none⟩ = some (.int .i64 a0_5) ∧ w'.cell? ⟨gb300, 6, none⟩ = some (.int .i64 a0_6) ∧ w'.cell? ⟨gb300, 7, none⟩ = some (.int .i64 a0_7) ∧ w'.cell? ⟨gb300, 8, none⟩ = some (.int .i64 a0_8)) (ds := []) qf8_15 (by kernel_rfl) rfl rfl ⟨(blk_cell BK300.out 0).trans rfl, (blk_cell BK300.out 1).trans rfl, (blk_cell BK300.out 2).trans rfl, (blk_cell BK300.out 3).trans rfl, (blk_cell BK300.out 4).trans rfl, (blk_cell BK300.out 5).trans rfl, (blk_cell BK300.out 6).trans rfl, (blk_cell BK300.out 7).trans rfl, (blk_cell BK300.out 8).trans rfl⟩ (fun hHeld => ?_); refine with_tabW dormouselaw22_AuditEarlier.tab4 dormouselaw22_AuditEarlier.bits4 (fun HT_ HW_ => ?_)
           generalize w35.drew = w36 at BK300 HB hHeld ⊢
           refine one_ (i := 0) (N := some 32) qf8_16 rfl rfl (one_of HT_.out (by kernel_rfl)) (by decide) (fun K hK => ?_)
           refine goes_ Try.func11 (by kernel_rfl) rfl #[] (by rfl) rfl rfl (by (try simp only [List.map_toArray, List.map_cons, List.map_nil]); first | done | rfl | (simp only [List.length_drop, List.length_take]; rfl)) ?_
           with_reducible refine (dormouselaw22_answers.calls kj4  true _ A20.out).mono ?_
           rintro e w37 ⟨rfl, hb⟩
           refine ⟨_, rfl, ?_⟩
           have n0_ := Aside0.mk (blk_below (g := gb300) (o := .cells #[.slice A0_0 l0_0.length c0_0, .slice A0_1 l0_1.length c0_1, .slice A0_2 l0_2.length c0_2, .int .i64 a0_3, .int .i64 a0_4, .int .i64 a0_5, .int .i64 a0_6, .int .i64 a0_7, .int .i64 a0_8] 26 (0, 0)) (by (with_reducible repeat (first | refine blk_drewN ?_ _ | refine blk_drew ?_ | refine blk_alloc ?_ _)); exact BK300.out) hb); have n1_ := Aside0.mk (below_step (by repeat (first | (with_reducible first | exact HB.out | apply below_alloc | apply pw_below_drewN | apply below_drew1 | refine below_set ?_ GE300.out) | exact HB.out)) hb); clear BK300; clear HB; have BK300 := n0_; have HB := n1_; clear n0_ n1_; (try clear hb); (try clear hb2); (try clear hk); (try clear hi)
           refine hK.out _ _ ⟨(blk_cell BK300.out 0).trans rfl, (blk_cell BK300.out 1).trans rfl, (blk_cell BK300.out 2).trans rfl, (blk_cell BK300.out 3).trans rfl, (blk_cell BK300.out 4).trans rfl, (blk_cell BK300.out 5).trans rfl, (blk_cell BK300.out 6).trans rfl, (blk_cell BK300.out 7).trans rfl, (blk_cell BK300.out 8).trans rfl⟩ (fun hHeld => ?_)
           clear hK K
           refine norm_ (a' := ?_) ?_ ?_
           rotate_left
           ·
            show Act.put _ (some 32) _ = _
            simp only [Act.put, zAf8, zBf8, zCf8, i64_w, i32_w]
            rfl
           refine pure_ (i := 1) (N := some 33) (v := ?_) (a' := ?_) qf8_17 rfl rfl (any_of HT_.out (by kernel_rfl)) (fun _ _ _ h => h) (Or.inl ⟨by rfl, ?_⟩) ?_ ?_; rotate_left; (· (intro w'; go_simp; with_reducible rfl)); rotate_left; (· (simp only [Act.put, zAf8, zBf8, zCf8, i64_w, i32_w]; rfl))
           refine pure_ (i := 3) (N := some 35) (v := ?_) (a' := ?_) qf8_18 rfl rfl (any_of HT_.out (by kernel_rfl)) (fun _ _ _ h => h) (Or.inl ⟨by rfl, ?_⟩) ?_ ?_; rotate_left; (· (intro w'; go_simp; with_reducible rfl)); rotate_left; (· (simp only [Act.put, zAf8, zBf8, zCf8, i64_w, i32_w]; rfl))
           refine take_ (i := 2) (N := some 34) (v := ?_) (a' := ?_) qf8_19 rfl rfl (take_ofW HT_.out HW_.out (by kernel_rfl)) (fun _ _ _ h => h) (Or.inl ⟨by rfl, ?_⟩) hHeld ?_ ?_; rotate_left; (· (rintro w' ⟨s0, s1, s2, s3, s4, s5, s6, s7, s8⟩; go_simp; with_reducible rfl)); rotate_left; (· (simp only [Act.put, zAf8, zBf8, zCf8, i64_w, i32_w]; rfl))
           refine one_ (i := 4) (N := some 36) qf8_20 rfl rfl (one_of HT_.out (by kernel_rfl)) (by decide) (fun K hK => ?_)
           refine goes_ Try.func18 (by kernel_rfl) rfl #[.agg #[.slice A0_0 l0_0.length c0_0, .slice A0_1 l0_1.length c0_1, .slice A0_2 l0_2.length c0_2, .int .i64 a0_3, .int .i64 a0_4, .int .i64 a0_5, .int .i64 a0_6, .int .i64 a0_7, .int .i64 a0_8], .slice A1 l1.length c1] (by rfl) rfl rfl (by (try simp only [List.map_toArray, List.map_cons, List.map_nil]); first | done | rfl | (simp only [List.length_drop, List.length_take]; rfl)) ?_
           with_reducible refine (audit_Slept.calls kj4 _ _ l0_0 _ _ l0_1 _ _ l0_2 a0_3 a0_4 a0_5 a0_6 a0_7 a0_8 _ _ l1 true _ ?side1 ?side2 ?side3 ?side4 ?side5 ?side6 ?side7 ?side8 A22.out).mono ?_
           (case side1 => repeat (first | exact (Kd.C_below HR0_0.out HB.out) | (with_reducible refine Kd.C_alloc ?_ _) | (with_reducible refine Kd.C_drewN ?_ _) | (with_reducible refine Kd.C_drew ?_)))
           (case side2 => exact HC0_0.out)
           (case side3 => repeat (first | exact (Kd.C_below HR0_1.out HB.out) | (with_reducible refine Kd.C_alloc ?_ _) | (with_reducible refine Kd.C_drewN ?_ _) | (with_reducible refine Kd.C_drew ?_)))
           (case side4 => exact HC0_1.out)
           (case side5 => repeat (first | exact (Kd.C_below HR0_2.out HB.out) | (with_reducible refine Kd.C_alloc ?_ _) | (with_reducible refine Kd.C_drewN ?_ _) | (with_reducible refine Kd.C_drew ?_)))
           (case side6 => exact HC0_2.out)
           (case side7 => repeat (first | exact (Kd.C_below HR1.out HB.out) | (with_reducible refine Kd.C_alloc ?_ _) | (with_reducible refine Kd.C_drewN ?_ _) | (with_reducible refine Kd.C_drew ?_)))
           (case side8 => exact HC1.out)
           rintro e w38 ⟨rfl, hb⟩
           refine ⟨_, rfl, ?_⟩
           have n0_ := Aside0.mk (blk_below (g := gb300) (o := .cells #[.slice A0_0 l0_0.length c0_0, .slice A0_1 l0_1.length c0_1, .slice A0_2 l0_2.length c0_2, .int .i64 a0_3, .int .i64 a0_4, .int .i64 a0_5, .int .i64 a0_6, .int .i64 a0_7, .int .i64 a0_8] 26 (0, 0)) (by (with_reducible repeat (first | refine blk_drewN ?_ _ | refine blk_drew ?_ | refine blk_alloc ?_ _)); exact BK300.out) hb); have n1_ := Aside0.mk (below_step (by repeat (first | (with_reducible first | exact HB.out | apply below_alloc | apply pw_below_drewN | apply below_drew1 | refine below_set ?_ GE300.out) | exact HB.out)) hb); clear BK300; clear HB; have BK300 := n0_; have HB := n1_; clear n0_ n1_; (try clear hb); (try clear hb2); (try clear hk); (try clear hi)
           have q39 : ((ji24) : Int) ≤ ((l1.length : Int) : Int) := of_decide_eq_true (by first | (with_reducible assumption) | assumption)
           obtain ⟨i039, hi039, _, hsz39, _⟩ := info_parts info33
           have hroom39 : l1.length ≤ c1 := HC1.out
           have hC39 : Kd.C k33 _ A1 l1.length l1 := HR1.out
           have hcut39 := cut_to (P := Try.prog) 27 33 .i64 Try.underlying27 hi039 A1 l1.length c1 (ji24) (of_decide_eq_true (by first | (with_reducible assumption) | assumption)) q39 hroom39
           have hr39 := Kd.C_take (m := ((ji24) : Int).toNat) hC39 (by omega)
           have hy39 : y306.length = ((ji24) : Int).toNat := (by rw [Ny306.out, List.length_take]; omega)
           rw [← Ny306.out] at hr39
           rw [← hy39] at hcut39
           have HR309 := Aside0.mk hr39
           have HC309 := Aside0.mk (show y306.length ≤ c1 from by omega); clear hr39 hC39 hroom39 hi039 hsz39
           have KY39 := Aside0.mk hy39
           clear hy39
           replace q39 := eq_true q39
           refine hK.out _ _ ⟨(blk_cell BK300.out 0).trans rfl, (blk_cell BK300.out 1).trans rfl, (blk_cell BK300.out 2).trans rfl, (blk_cell BK300.out 3).trans rfl, (blk_cell BK300.out 4).trans rfl, (blk_cell BK300.out 5).trans rfl, (blk_cell BK300.out 6).trans rfl, (blk_cell BK300.out 7).trans rfl, (blk_cell BK300.out 8).trans rfl⟩ (fun hHeld => ?_)
           clear hK K
           refine norm_ (a' := ?_) ?_ ?_
           rotate_left
           ·
            show Act.put _ (some 36) _ = _
            simp only [Act.put, zAf8, zBf8, zCf8, i64_w, i32_w]
            rfl
           refine pure_ (i := 5) (N := some 37) (v := ?_) (a' := ?_) qf8_21 rfl rfl (any_of HT_.out (by kernel_rfl)) (fun _ _ _ h => h) (Or.inl ⟨by rfl, ?_⟩) ?_ ?_; rotate_left; (· (intro w'; go_simp; with_reducible rfl)); rotate_left; (· (simp only [Act.put, zAf8, zBf8, zCf8, i64_w, i32_w]; rfl))
           refine pure_ (i := 6) (N := some 38) (v := ?_) (a' := ?_) qf8_22 rfl rfl (any_of HT_.out (by kernel_rfl)) (fun _ _ _ h => h) (Or.inl ⟨by rfl, ?_⟩) ?_ ?_; rotate_left; (· (intro w'; go_simp; with_reducible rfl)); rotate_left; (· (simp only [Act.put, zAf8, zBf8, zCf8, i64_w, i32_w]; rfl))
           refine pure_ (i := 8) (N := some 40) (v := ?_) (a' := ?_) qf8_23 rfl rfl (any_of HT_.out (by kernel_rfl)) (fun _ _ _ h => h) (Or.inl ⟨by rfl, ?_⟩) ?_ ?_; rotate_left; (· (intro w'; go_simp; with_reducible rfl)); rotate_left; (· (simp only [Act.put, zAf8, zBf8, zCf8, i64_w, i32_w]; rfl))
           refine pure_ (i := 9) (N := some 41) (v := ?_) (a' := ?_) qf8_24 rfl rfl (any_of HT_.out (by kernel_rfl)) (fun _ _ _ h => h) (Or.inl ⟨by rfl, ?_⟩) ?_ ?_; rotate_left; (· (intro w'; go_simp; with_reducible rfl)); rotate_left; (· (simp only [Act.put, zAf8, zBf8, zCf8, i64_w, i32_w]; rfl))
           refine pure_ (i := 10) (N := some 42) (v := ?_) (a' := ?_) qf8_25 rfl rfl (any_of HT_.out (by kernel_rfl)) (fun _ _ _ h => h) (Or.inl ⟨by rfl, ?_⟩) ?_ ?_; rotate_left; (· (intro w'; go_simp; with_reducible rfl)); rotate_left; (· (simp only [Act.put, zAf8, zBf8, zCf8, i64_w, i32_w]; rfl))
           refine take_ (i := 7) (N := some 39) (v := ?_) (a' := ?_) qf8_26 rfl rfl (take_ofW HT_.out HW_.out (by kernel_rfl)) (fun _ _ _ h => h) (Or.inl ⟨by rfl, ?_⟩) hHeld ?_ ?_; rotate_left; (· (rintro w' ⟨s0, s1, s2, s3, s4, s5, s6, s7, s8⟩; go_simp; with_reducible rfl)); rotate_left; (· (simp only [Act.put, zAf8, zBf8, zCf8, i64_w, i32_w]; rfl))
           refine one_ (i := 11) (N := some 43) qf8_27 rfl rfl (one_of HT_.out (by kernel_rfl)) (by decide) (fun K hK => ?_)
           refine goes_ Try.func18 (by kernel_rfl) rfl #[.agg #[.slice A0_0 l0_0.length c0_0, .slice A0_1 l0_1.length c0_1, .slice A0_2 l0_2.length c0_2, .int .i64 a0_3, .int .i64 a0_4, .int .i64 a0_5, .int .i64 a0_6, .int .i64 a0_7, .int .i64 a0_8], .slice A1 y306.length c1] (by rfl) rfl rfl (by (try simp only [List.map_toArray, List.map_cons, List.map_nil]); first | done | rfl | (simp only [List.length_drop, List.length_take]; rfl)) ?_
           with_reducible refine (audit_Slept.calls kj4 _ _ l0_0 _ _ l0_1 _ _ l0_2 a0_3 a0_4 a0_5 a0_6 a0_7 a0_8 _ _ y306 true _ ?side1 ?side2 ?side3 ?side4 ?side5 ?side6 ?side7 ?side8 A27.out).mono ?_
           (case side1 => repeat (first | exact (Kd.C_below HR0_0.out HB.out) | (with_reducible refine Kd.C_alloc ?_ _) | (with_reducible refine Kd.C_drewN ?_ _) | (with_reducible refine Kd.C_drew ?_)))
           (case side2 => exact HC0_0.out)
           (case side3 => repeat (first | exact (Kd.C_below HR0_1.out HB.out) | (with_reducible refine Kd.C_alloc ?_ _) | (with_reducible refine Kd.C_drewN ?_ _) | (with_reducible refine Kd.C_drew ?_)))
           (case side4 => exact HC0_1.out)
           (case side5 => repeat (first | exact (Kd.C_below HR0_2.out HB.out) | (with_reducible refine Kd.C_alloc ?_ _) | (with_reducible refine Kd.C_drewN ?_ _) | (with_reducible refine Kd.C_drew ?_)))
           (case side6 => exact HC0_2.out)
           (case side7 => repeat (first | exact (Kd.C_below HR309.out HB.out) | (with_reducible refine Kd.C_alloc ?_ _) | (with_reducible refine Kd.C_drewN ?_ _) | (with_reducible refine Kd.C_drew ?_)))
           (case side8 => exact HC309.out)
           rintro e w40 ⟨rfl, hb⟩
           refine ⟨_, rfl, ?_⟩
           have n0_ := Aside0.mk (blk_below (g := gb300) (o := .cells #[.slice A0_0 l0_0.length c0_0, .slice A0_1 l0_1.length c0_1, .slice A0_2 l0_2.length c0_2, .int .i64 a0_3, .int .i64 a0_4, .int .i64 a0_5, .int .i64 a0_6, .int .i64 a0_7, .int .i64 a0_8] 26 (0, 0)) (by (with_reducible repeat (first | refine blk_drewN ?_ _ | refine blk_drew ?_ | refine blk_alloc ?_ _)); exact BK300.out) hb); have n1_ := Aside0.mk (below_step (by repeat (first | (with_reducible first | exact HB.out | apply below_alloc | apply pw_below_drewN | apply below_drew1 | refine below_set ?_ GE300.out) | exact HB.out)) hb); clear BK300; clear HB; have BK300 := n0_; have HB := n1_; clear n0_ n1_; (try clear hb); (try clear hb2); (try clear hk); (try clear hi)
           refine hK.out _ _ ⟨(blk_cell BK300.out 0).trans rfl, (blk_cell BK300.out 1).trans rfl, (blk_cell BK300.out 2).trans rfl, (blk_cell BK300.out 3).trans rfl, (blk_cell BK300.out 4).trans rfl, (blk_cell BK300.out 5).trans rfl, (blk_cell BK300.out 6).trans rfl, (blk_cell BK300.out 7).trans rfl, (blk_cell BK300.out 8).trans rfl⟩ (fun hHeld => ?_)
           clear hK K
           refine norm_ (a' := ?_) ?_ ?_
           rotate_left
           ·
            show Act.put _ (some 43) _ = _
            simp only [Act.put, zAf8, zBf8, zCf8, i64_w, i32_w]
            rfl
           refine pure_ (i := 12) (N := some 44) (v := ?_) (a' := ?_) qf8_28 rfl rfl (any_of HT_.out (by kernel_rfl)) (fun _ _ _ h => h) (Or.inl ⟨by rfl, ?_⟩) ?_ ?_; rotate_left; (· (intro w'; go_simp; with_reducible rfl)); rotate_left; (· (simp only [Act.put, zAf8, zBf8, zCf8, i64_w, i32_w]; rfl))
           refine pure_ (i := 13) (N := some 45) (v := ?_) (a' := ?_) qf8_29 rfl rfl (any_of HT_.out (by kernel_rfl)) (fun _ _ _ h => h) (Or.inl ⟨by rfl, ?_⟩) ?_ ?_; rotate_left; (· (intro w'; go_simp; with_reducible rfl)); rotate_left; (· (simp only [Act.put, zAf8, zBf8, zCf8, i64_w, i32_w]; rfl))
           refine pure_ (i := 14) (N := some 46) (v := ?_) (a' := ?_) qf8_30 rfl rfl (any_of HT_.out (by kernel_rfl)) (fun _ _ _ h => h) (Or.inl ⟨by rfl, ?_⟩) ?_ ?_; rotate_left; (· (intro w'; go_simp; with_reducible rfl)); rotate_left; (· (simp only [Act.put, zAf8, zBf8, zCf8, i64_w, i32_w]; rfl))
           refine pure_ (i := 15) (N := some 47) (v := ?_) (a' := ?_) qf8_31 rfl rfl (any_of HT_.out (by kernel_rfl)) (fun _ _ _ h => h) (Or.inl ⟨by rfl, ?_⟩) ?_ ?_; rotate_left; (· (intro w'; go_simp; with_reducible rfl)); rotate_left; (· (simp only [Act.put, zAf8, zBf8, zCf8, i64_w, i32_w]; rfl))
           refine one_ (i := 16) (N := some 48) qf8_32 rfl rfl (one_of HT_.out (by kernel_rfl)) (by decide) (fun K hK => ?_)
           refine goes_ Try.func16 (by kernel_rfl) rfl #[.slice A2 l2.length c2] (by rfl) rfl rfl (by (try simp only [List.map_toArray, List.map_cons, List.map_nil]); first | done | rfl | (simp only [List.length_drop, List.length_take]; rfl)) ?_
           with_reducible refine (audit_Kept.calls kj4 _ _ l2 true _ ?side1 ?side2 A29.out).mono ?_
           (case side1 => repeat (first | exact (Kd.C_below HR2.out HB.out) | (with_reducible refine Kd.C_alloc ?_ _) | (with_reducible refine Kd.C_drewN ?_ _) | (with_reducible refine Kd.C_drew ?_)))
           (case side2 => exact HC2.out)
           rintro e w41 ⟨rfl, hb⟩
           refine ⟨_, rfl, ?_⟩
           have n0_ := Aside0.mk (blk_below (g := gb300) (o := .cells #[.slice A0_0 l0_0.length c0_0, .slice A0_1 l0_1.length c0_1, .slice A0_2 l0_2.length c0_2, .int .i64 a0_3, .int .i64 a0_4, .int .i64 a0_5, .int .i64 a0_6, .int .i64 a0_7, .int .i64 a0_8] 26 (0, 0)) (by (with_reducible repeat (first | refine blk_drewN ?_ _ | refine blk_drew ?_ | refine blk_alloc ?_ _)); exact BK300.out) hb); have n1_ := Aside0.mk (below_step (by repeat (first | (with_reducible first | exact HB.out | apply below_alloc | apply pw_below_drewN | apply below_drew1 | refine below_set ?_ GE300.out) | exact HB.out)) hb); clear BK300; clear HB; have BK300 := n0_; have HB := n1_; clear n0_ n1_; (try clear hb); (try clear hb2); (try clear hk); (try clear hi)
           have q42 : ((ji31) : Int) ≤ ((l2.length : Int) : Int) := of_decide_eq_true (by first | (with_reducible assumption) | assumption)
           obtain ⟨i042, hi042, _, hsz42, _⟩ := info_parts info53
           have hroom42 : l2.length ≤ c2 := HC2.out
           have hC42 : Kd.C k53 _ A2 l2.length l2 := HR2.out
           have hcut42 := cut_to (P := Try.prog) 41 53 .i64 Try.underlying41 hi042 A2 l2.length c2 (ji31) (of_decide_eq_true (by first | (with_reducible assumption) | assumption)) q42 hroom42
           have hr42 := Kd.C_take (m := ((ji31) : Int).toNat) hC42 (by omega)
           have hy42 : y312.length = ((ji31) : Int).toNat := (by rw [Ny312.out, List.length_take]; omega)
           rw [← Ny312.out] at hr42
           rw [← hy42] at hcut42
           have HR315 := Aside0.mk hr42
           have HC315 := Aside0.mk (show y312.length ≤ c2 from by omega); clear hr42 hC42 hroom42 hi042 hsz42
           have KY42 := Aside0.mk hy42
           clear hy42
           replace q42 := eq_true q42
           refine hK.out _ _ ⟨(blk_cell BK300.out 0).trans rfl, (blk_cell BK300.out 1).trans rfl, (blk_cell BK300.out 2).trans rfl, (blk_cell BK300.out 3).trans rfl, (blk_cell BK300.out 4).trans rfl, (blk_cell BK300.out 5).trans rfl, (blk_cell BK300.out 6).trans rfl, (blk_cell BK300.out 7).trans rfl, (blk_cell BK300.out 8).trans rfl⟩ (fun hHeld => ?_)
           clear hK K
           refine norm_ (a' := ?_) ?_ ?_
           rotate_left
           ·
            show Act.put _ (some 48) _ = _
            simp only [Act.put, zAf8, zBf8, zCf8, i64_w, i32_w]
            rfl
           refine pure_ (i := 17) (N := some 49) (v := ?_) (a' := ?_) qf8_33 rfl rfl (any_of HT_.out (by kernel_rfl)) (fun _ _ _ h => h) (Or.inl ⟨by rfl, ?_⟩) ?_ ?_; rotate_left; (· (intro w'; go_simp; with_reducible rfl)); rotate_left; (· (simp only [Act.put, zAf8, zBf8, zCf8, i64_w, i32_w]; rfl))
           refine pure_ (i := 18) (N := some 50) (v := ?_) (a' := ?_) qf8_34 rfl rfl (any_of HT_.out (by kernel_rfl)) (fun _ _ _ h => h) (Or.inl ⟨by rfl, ?_⟩) ?_ ?_; rotate_left; (· (intro w'; go_simp; with_reducible rfl)); rotate_left; (· (simp only [Act.put, zAf8, zBf8, zCf8, i64_w, i32_w]; rfl))
           refine pure_ (i := 19) (N := some 51) (v := ?_) (a' := ?_) qf8_35 rfl rfl (any_of HT_.out (by kernel_rfl)) (fun _ _ _ h => h) (Or.inl ⟨by rfl, ?_⟩) ?_ ?_; rotate_left; (· (intro w'; go_simp; with_reducible rfl)); rotate_left; (· (simp only [Act.put, zAf8, zBf8, zCf8, i64_w, i32_w]; rfl))
           refine pure_ (i := 20) (N := some 52) (v := ?_) (a' := ?_) qf8_36 rfl rfl (any_of HT_.out (by kernel_rfl)) (fun _ _ _ h => h) (Or.inl ⟨by rfl, ?_⟩) ?_ ?_; rotate_left; (· (intro w'; go_simp; with_reducible rfl)); rotate_left; (· (simp only [Act.put, zAf8, zBf8, zCf8, i64_w, i32_w]; rfl))
           refine pure_ (i := 21) (N := some 53) (v := ?_) (a' := ?_) qf8_37 rfl rfl (any_of HT_.out (by kernel_rfl)) (fun _ _ _ h => h) (Or.inl ⟨by rfl, ?_⟩) ?_ ?_; rotate_left; (· (intro w'; go_simp; with_reducible rfl)); rotate_left; (· (simp only [Act.put, zAf8, zBf8, zCf8, i64_w, i32_w]; rfl))
           refine one_ (i := 22) (N := some 54) qf8_38 rfl rfl (one_of HT_.out (by kernel_rfl)) (by decide) (fun K hK => ?_)
           refine goes_ Try.func16 (by kernel_rfl) rfl #[.slice A2 y312.length c2] (by rfl) rfl rfl (by (try simp only [List.map_toArray, List.map_cons, List.map_nil]); first | done | rfl | (simp only [List.length_drop, List.length_take]; rfl)) ?_
           with_reducible refine (audit_Kept.calls kj4 _ _ y312 t316 _ ?side1 ?side2 A34.out).mono ?_
           (case side1 => repeat (first | exact (Kd.C_below HR315.out HB.out) | (with_reducible refine Kd.C_alloc ?_ _) | (with_reducible refine Kd.C_drewN ?_ _) | (with_reducible refine Kd.C_drew ?_)))
           (case side2 => exact HC315.out)
           rintro e w43 ⟨rfl, hb⟩
           refine ⟨_, rfl, ?_⟩
           have n0_ := Aside0.mk (blk_below (g := gb300) (o := .cells #[.slice A0_0 l0_0.length c0_0, .slice A0_1 l0_1.length c0_1, .slice A0_2 l0_2.length c0_2, .int .i64 a0_3, .int .i64 a0_4, .int .i64 a0_5, .int .i64 a0_6, .int .i64 a0_7, .int .i64 a0_8] 26 (0, 0)) (by (with_reducible repeat (first | refine blk_drewN ?_ _ | refine blk_drew ?_ | refine blk_alloc ?_ _)); exact BK300.out) hb); have n1_ := Aside0.mk (below_step (by repeat (first | (with_reducible first | exact HB.out | apply below_alloc | apply pw_below_drewN | apply below_drew1 | refine below_set ?_ GE300.out) | exact HB.out)) hb); clear BK300; clear HB; have BK300 := n0_; have HB := n1_; clear n0_ n1_; (try clear hb); (try clear hb2); (try clear hk); (try clear hi)
           refine hK.out _ _ ⟨(blk_cell BK300.out 0).trans rfl, (blk_cell BK300.out 1).trans rfl, (blk_cell BK300.out 2).trans rfl, (blk_cell BK300.out 3).trans rfl, (blk_cell BK300.out 4).trans rfl, (blk_cell BK300.out 5).trans rfl, (blk_cell BK300.out 6).trans rfl, (blk_cell BK300.out 7).trans rfl, (blk_cell BK300.out 8).trans rfl⟩ (fun hHeld => ?_)
           clear hK K
           refine norm_ (a' := ?_) ?_ ?_
           rotate_left
           ·
            show Act.put _ (some 54) _ = _
            simp only [Act.put, zAf8, zBf8, zCf8, i64_w, i32_w]
            rfl
           refine pure_ (i := 23) (N := some 55) (v := ?_) (a' := ?_) qf8_39 rfl rfl (any_of HT_.out (by kernel_rfl)) (fun _ _ _ h => h) (Or.inl ⟨by rfl, ?_⟩) ?_ ?_; rotate_left; (· (intro w'; go_simp; with_reducible rfl)); rotate_left; (· (simp only [Act.put, zAf8, zBf8, zCf8, i64_w, i32_w]; rfl))
           refine pure_ (i := 24) (N := some 56) (v := ?_) (a' := ?_) qf8_40 rfl rfl (any_of HT_.out (by kernel_rfl)) (fun _ _ _ h => h) (Or.inl ⟨by rfl, ?_⟩) ?_ ?_; rotate_left; (· (intro w'; go_simp; with_reducible rfl)); rotate_left; (· (simp only [Act.put, zAf8, zBf8, zCf8, i64_w, i32_w]; rfl))
           refine pure_ (i := 25) (N := some 8) (v := ?_) (a' := ?_) qf8_41 rfl rfl (any_of HT_.out (by kernel_rfl)) (fun _ _ _ h => h) (Or.inl ⟨by rfl, ?_⟩) ?_ ?_; rotate_left; (· (intro w'; go_simp; with_reducible rfl)); rotate_left; (· (simp only [Act.put, zAf8, zBf8, zCf8, i64_w, i32_w]; rfl))
           refine done_ (done_of HT_.out (by kernel_rfl)) ?_
           try go_wp2
           go_ret
           exact ⟨by first | rfl | (rw [HR_.out]; done) | (rw [HR_.out]; rfl) | (simp [errW_none, errW_some] <;> rfl) | (simp only [← hji24, ← hji31]; first | rfl | (simp [errW_none, errW_some] <;> rfl)) | (simp [*, errW_none, errW_some] <;> rfl), by repeat (first | (with_reducible first | exact HB.out | apply below_alloc | apply pw_below_drewN | apply below_drew1 | refine below_set ?_ GE300.out) | exact HB.out)⟩
          rw [if_neg c33] at H
          exact absurd H (by simp)
         rw [if_neg c32] at H
         exact absurd H (by simp)
        replace c30 := Bool.eq_false_iff.mpr c30
        subst c30
        have H1 : (some true) = some true := rfl
        clear H; have H := H1; clear H1; have HR_ := Aside0.mk (Option.some.inj H)
        try go_wp2
        have n0_ := Aside0.mk (blk_drew BK300.out); have n1_ := Aside0.mk (below_drew1 HB.out); clear BK300; clear HB; have BK300 := n0_; have HB := n1_; clear n0_ n1_
        refine start_ (n := 14) (S := fun w' => True) (ds := []) qf8_0 (by kernel_rfl) rfl rfl trivial (fun hHeld => ?_); refine with_tabW dormouselaw22_AuditEarlier.tab3 dormouselaw22_AuditEarlier.bits3 (fun HT_ HW_ => ?_)
        generalize wc.drew = w44 at BK300 HB hHeld ⊢
        refine pure_ (i := 0) (N := some 20) (v := ?_) (a' := ?_) qf8_1 rfl rfl (any_of HT_.out (by kernel_rfl)) (fun _ _ _ h => h) (Or.inl ⟨by rfl, ?_⟩) ?_ ?_; rotate_left; (· (intro w'; go_simp; with_reducible rfl)); rotate_left; (· (simp only [Act.put, zAf8, zBf8, zCf8, i64_w, i32_w]; rfl))
        refine pure_ (i := 1) (N := some 21) (v := ?_) (a' := ?_) qf8_2 rfl rfl (any_of HT_.out (by kernel_rfl)) (fun _ _ _ h => h) (Or.inl ⟨by rfl, ?_⟩) ?_ ?_; rotate_left; (· (intro w'; go_simp; with_reducible rfl)); rotate_left; (· (simp only [Act.put, zAf8, zBf8, zCf8, i64_w, i32_w]; rfl))
        refine pure_ (i := 2) (N := some 22) (v := ?_) (a' := ?_) qf8_3 rfl rfl (any_of HT_.out (by kernel_rfl)) (fun _ _ _ h => h) (Or.inl ⟨by rfl, ?_⟩) ?_ ?_; rotate_left; (· (intro w'; go_simp; with_reducible rfl)); rotate_left; (· (simp only [Act.put, zAf8, zBf8, zCf8, i64_w, i32_w]; rfl))
        refine pure_ (i := 3) (N := some 23) (v := ?_) (a' := ?_) qf8_4 rfl rfl (any_of HT_.out (by kernel_rfl)) (fun _ _ _ h => h) (Or.inl ⟨by rfl, ?_⟩) ?_ ?_; rotate_left; (· (intro w'; go_simp; with_reducible rfl)); rotate_left; (· (simp only [Act.put, zAf8, zBf8, zCf8, i64_w, i32_w]; rfl))
        refine pure_ (i := 4) (N := some 24) (v := ?_) (a' := ?_) qf8_5 rfl rfl (any_of HT_.out (by kernel_rfl)) (fun _ _ _ h => h) (Or.inl ⟨by rfl, ?_⟩) ?_ ?_; rotate_left; (· (intro w'; go_simp; with_reducible rfl)); rotate_left; (· (simp only [Act.put, zAf8, zBf8, zCf8, i64_w, i32_w]; rfl))
        refine pure_ (i := 5) (N := some 25) (v := ?_) (a' := ?_) qf8_6 rfl rfl (any_of HT_.out (by kernel_rfl)) (fun _ _ _ h => h) (Or.inl ⟨by rfl, ?_⟩) ?_ ?_; rotate_left; (· (intro w'; go_simp; with_reducible rfl)); rotate_left; (· (simp only [Act.put, zAf8, zBf8, zCf8, i64_w, i32_w]; rfl))
        refine pure_ (i := 6) (N := some 26) (v := ?_) (a' := ?_) qf8_7 rfl rfl (any_of HT_.out (by kernel_rfl)) (fun _ _ _ h => h) (Or.inl ⟨by rfl, ?_⟩) ?_ ?_; rotate_left; (· (intro w'; go_simp; with_reducible rfl)); rotate_left; (· (simp only [Act.put, zAf8, zBf8, zCf8, i64_w, i32_w]; rfl))
        refine pure_ (i := 7) (N := some 27) (v := ?_) (a' := ?_) qf8_8 rfl rfl (any_of HT_.out (by kernel_rfl)) (fun _ _ _ h => h) (Or.inl ⟨by rfl, ?_⟩) ?_ ?_; rotate_left; (· (intro w'; go_simp; with_reducible rfl)); rotate_left; (· (simp only [Act.put, zAf8, zBf8, zCf8, i64_w, i32_w]; rfl))
        refine pure_ (i := 8) (N := some 28) (v := ?_) (a' := ?_) qf8_9 rfl rfl (any_of HT_.out (by kernel_rfl)) (fun _ _ _ h => h) (Or.inl ⟨by rfl, ?_⟩) ?_ ?_; rotate_left; (· (intro w'; go_simp; with_reducible rfl)); rotate_left; (· (simp only [Act.put, zAf8, zBf8, zCf8, i64_w, i32_w]; rfl))
        refine pure_ (i := 9) (N := some 29) (v := ?_) (a' := ?_) qf8_10 rfl rfl (any_of HT_.out (by kernel_rfl)) (fun _ _ _ h => h) (Or.inl ⟨by rfl, ?_⟩) ?_ ?_; rotate_left; (· (intro w'; go_simp; with_reducible rfl)); rotate_left; (· (simp only [Act.put, zAf8, zBf8, zCf8, i64_w, i32_w]; rfl))
        refine pure_ (i := 10) (N := some 30) (v := ?_) (a' := ?_) qf8_11 rfl rfl (any_of HT_.out (by kernel_rfl)) (fun _ _ _ h => h) (Or.inl ⟨by rfl, ?_⟩) ?_ ?_; rotate_left; (· (intro w'; go_simp; with_reducible rfl)); rotate_left; (· (simp only [Act.put, zAf8, zBf8, zCf8, i64_w, i32_w]; rfl))
        refine pure_ (i := 11) (N := some 31) (v := ?_) (a' := ?_) qf8_12 rfl rfl (any_of HT_.out (by kernel_rfl)) (fun _ _ _ h => h) (Or.inl ⟨by rfl, ?_⟩) ?_ ?_; rotate_left; (· (intro w'; go_simp; with_reducible rfl)); rotate_left; (· (simp only [Act.put, zAf8, zBf8, zCf8, i64_w, i32_w]; rfl))
        refine pure_ (i := 12) (N := some 9) (v := ?_) (a' := ?_) qf8_13 rfl rfl (any_of HT_.out (by kernel_rfl)) (fun _ _ _ h => h) (Or.inl ⟨by rfl, ?_⟩) ?_ ?_; rotate_left; (· (intro w'; go_simp; with_reducible rfl)); rotate_left; (· (simp only [Act.put, zAf8, zBf8, zCf8, i64_w, i32_w]; rfl))
        refine pure_ (i := 13) (N := some 10) (v := ?_) (a' := ?_) qf8_14 rfl rfl (any_of HT_.out (by kernel_rfl)) (fun _ _ _ h => h) (Or.inl ⟨by rfl, ?_⟩) ?_ ?_; rotate_left; (· (intro w'; go_simp; with_reducible rfl)); rotate_left; (· (simp only [Act.put, zAf8, zBf8, zCf8, i64_w, i32_w]; rfl))
        refine done_ (done_of HT_.out (by kernel_rfl)) ?_
        try go_wp2
        have n0_ := Aside0.mk (blk_drew BK300.out); have n1_ := Aside0.mk (below_drew1 HB.out); clear BK300; clear HB; have BK300 := n0_; have HB := n1_; clear n0_ n1_
        refine start_ (n := 26) (S := fun w' => w'.cell? ⟨gb300, 0, none⟩ = some (.slice A0_0 l0_0.length c0_0) ∧ w'.cell? ⟨gb300, 1, none⟩ = some (.slice A0_1 l0_1.length c0_1) ∧ w'.cell? ⟨gb300, 2, none⟩ = some (.slice A0_2 l0_2.length c0_2) ∧ w'.cell? ⟨gb300, 3, none⟩ = some (.int .i64 a0_3) ∧ w'.cell? ⟨gb300, 4, none⟩ = some (.int .i64 a0_4) ∧ w'.cell? ⟨gb300, 5, none⟩ = some (.int .i64 a0_5) ∧ w'.cell? ⟨gb300, 6, none⟩ = some (.int .i64 a0_6) ∧ w'.cell? ⟨gb300, 7, none⟩ = some (.int .i64 a0_7) ∧ w'.cell? ⟨gb300, 8, none⟩ = some (.int .i64 a0_8)) (ds := []) qf8_15 (by kernel_rfl) rfl rfl ⟨(blk_cell BK300.out 0).trans rfl, (blk_cell BK300.out 1).trans rfl, (blk_cell BK300.out 2).trans rfl, (blk_cell BK300.out 3).trans rfl, (blk_cell BK300.out 4).trans rfl, (blk_cell BK300.out 5).trans rfl, (blk_cell BK300.out 6).trans rfl, (blk_cell BK300.out 7).trans rfl, (blk_cell BK300.out 8).trans rfl⟩ (fun hHeld => ?_); refine with_tabW dormouselaw22_AuditEarlier.tab4 dormouselaw22_AuditEarlier.bits4 (fun HT_ HW_ => ?_)
        generalize w44.drew = w45 at BK300 HB hHeld ⊢
        refine one_ (i := 0) (N := some 32) qf8_16 rfl rfl (one_of HT_.out (by kernel_rfl)) (by decide) (fun K hK => ?_)
        refine goes_ Try.func11 (by kernel_rfl) rfl #[] (by rfl) rfl rfl (by (try simp only [List.map_toArray, List.map_cons, List.map_nil]); first | done | rfl | (simp only [List.length_drop, List.length_take]; rfl)) ?_
        with_reducible refine (dormouselaw22_answers.calls kj4  true _ A20.out).mono ?_
        rintro e w46 ⟨rfl, hb⟩
        refine ⟨_, rfl, ?_⟩
        have n0_ := Aside0.mk (blk_below (g := gb300) (o := .cells #[.slice A0_0 l0_0.length c0_0, .slice A0_1 l0_1.length c0_1, .slice A0_2 l0_2.length c0_2, .int .i64 a0_3, .int .i64 a0_4, .int .i64 a0_5, .int .i64 a0_6, .int .i64 a0_7, .int .i64 a0_8] 26 (0, 0)) (by (with_reducible repeat (first | refine blk_drewN ?_ _ | refine blk_drew ?_ | refine blk_alloc ?_ _)); exact BK300.out) hb); have n1_ := Aside0.mk (below_step (by repeat (first | (with_reducible first | exact HB.out | apply below_alloc | apply pw_below_drewN | apply below_drew1 | refine below_set ?_ GE300.out) | exact HB.out)) hb); clear BK300; clear HB; have BK300 := n0_; have HB := n1_; clear n0_ n1_; (try clear hb); (try clear hb2); (try clear hk); (try clear hi)
        refine hK.out _ _ ⟨(blk_cell BK300.out 0).trans rfl, (blk_cell BK300.out 1).trans rfl, (blk_cell BK300.out 2).trans rfl, (blk_cell BK300.out 3).trans rfl, (blk_cell BK300.out 4).trans rfl, (blk_cell BK300.out 5).trans rfl, (blk_cell BK300.out 6).trans rfl, (blk_cell BK300.out 7).trans rfl, (blk_cell BK300.out 8).trans rfl⟩ (fun hHeld => ?_)
        clear hK K
        refine norm_ (a' := ?_) ?_ ?_
        rotate_left
        ·
         show Act.put _ (some 32) _ = _
         simp only [Act.put, zAf8, zBf8, zCf8, i64_w, i32_w]
         rfl
        refine pure_ (i := 1) (N := some 33) (v := ?_) (a' := ?_) qf8_17 rfl rfl (any_of HT_.out (by kernel_rfl)) (fun _ _ _ h => h) (Or.inl ⟨by rfl, ?_⟩) ?_ ?_; rotate_left; (· (intro w'; go_simp; with_reducible rfl)); rotate_left; (· (simp only [Act.put, zAf8, zBf8, zCf8, i64_w, i32_w]; rfl))
        refine pure_ (i := 3) (N := some 35) (v := ?_) (a' := ?_) qf8_18 rfl rfl (any_of HT_.out (by kernel_rfl)) (fun _ _ _ h => h) (Or.inl ⟨by rfl, ?_⟩) ?_ ?_; rotate_left; (· (intro w'; go_simp; with_reducible rfl)); rotate_left; (· (simp only [Act.put, zAf8, zBf8, zCf8, i64_w, i32_w]; rfl))
        refine take_ (i := 2) (N := some 34) (v := ?_) (a' := ?_) qf8_19 rfl rfl (take_ofW HT_.out HW_.out (by kernel_rfl)) (fun _ _ _ h => h) (Or.inl ⟨by rfl, ?_⟩) hHeld ?_ ?_; rotate_left; (· (rintro w' ⟨s0, s1, s2, s3, s4, s5, s6, s7, s8⟩; go_simp; with_reducible rfl)); rotate_left; (· (simp only [Act.put, zAf8, zBf8, zCf8, i64_w, i32_w]; rfl))
        refine one_ (i := 4) (N := some 36) qf8_20 rfl rfl (one_of HT_.out (by kernel_rfl)) (by decide) (fun K hK => ?_)
        refine goes_ Try.func18 (by kernel_rfl) rfl #[.agg #[.slice A0_0 l0_0.length c0_0, .slice A0_1 l0_1.length c0_1, .slice A0_2 l0_2.length c0_2, .int .i64 a0_3, .int .i64 a0_4, .int .i64 a0_5, .int .i64 a0_6, .int .i64 a0_7, .int .i64 a0_8], .slice A1 l1.length c1] (by rfl) rfl rfl (by (try simp only [List.map_toArray, List.map_cons, List.map_nil]); first | done | rfl | (simp only [List.length_drop, List.length_take]; rfl)) ?_
        with_reducible refine (audit_Slept.calls kj4 _ _ l0_0 _ _ l0_1 _ _ l0_2 a0_3 a0_4 a0_5 a0_6 a0_7 a0_8 _ _ l1 true _ ?side1 ?side2 ?side3 ?side4 ?side5 ?side6 ?side7 ?side8 A22.out).mono ?_
        (case side1 => repeat (first | exact (Kd.C_below HR0_0.out HB.out) | (with_reducible refine Kd.C_alloc ?_ _) | (with_reducible refine Kd.C_drewN ?_ _) | (with_reducible refine Kd.C_drew ?_)))
        (case side2 => exact HC0_0.out)
        (case side3 => repeat (first | exact (Kd.C_below HR0_1.out HB.out) | (with_reducible refine Kd.C_alloc ?_ _) | (with_reducible refine Kd.C_drewN ?_ _) | (with_reducible refine Kd.C_drew ?_)))
        (case side4 => exact HC0_1.out)
        (case side5 => repeat (first | exact (Kd.C_below HR0_2.out HB.out) | (with_reducible refine Kd.C_alloc ?_ _) | (with_reducible refine Kd.C_drewN ?_ _) | (with_reducible refine Kd.C_drew ?_)))
        (case side6 => exact HC0_2.out)
        (case side7 => repeat (first | exact (Kd.C_below HR1.out HB.out) | (with_reducible refine Kd.C_alloc ?_ _) | (with_reducible refine Kd.C_drewN ?_ _) | (with_reducible refine Kd.C_drew ?_)))
        (case side8 => exact HC1.out)
        rintro e w47 ⟨rfl, hb⟩
        refine ⟨_, rfl, ?_⟩
        have n0_ := Aside0.mk (blk_below (g := gb300) (o := .cells #[.slice A0_0 l0_0.length c0_0, .slice A0_1 l0_1.length c0_1, .slice A0_2 l0_2.length c0_2, .int .i64 a0_3, .int .i64 a0_4, .int .i64 a0_5, .int .i64 a0_6, .int .i64 a0_7, .int .i64 a0_8] 26 (0, 0)) (by (with_reducible repeat (first | refine blk_drewN ?_ _ | refine blk_drew ?_ | refine blk_alloc ?_ _)); exact BK300.out) hb); have n1_ := Aside0.mk (below_step (by repeat (first | (with_reducible first | exact HB.out | apply below_alloc | apply pw_below_drewN | apply below_drew1 | refine below_set ?_ GE300.out) | exact HB.out)) hb); clear BK300; clear HB; have BK300 := n0_; have HB := n1_; clear n0_ n1_; (try clear hb); (try clear hb2); (try clear hk); (try clear hi)
        have q48 : ((ji24) : Int) ≤ ((l1.length : Int) : Int) := of_decide_eq_true (by first | (with_reducible assumption) | assumption)
        obtain ⟨i048, hi048, _, hsz48, _⟩ := info_parts info33
        have hroom48 : l1.length ≤ c1 := HC1.out
        have hC48 : Kd.C k33 _ A1 l1.length l1 := HR1.out
        have hcut48 := cut_to (P := Try.prog) 27 33 .i64 Try.underlying27 hi048 A1 l1.length c1 (ji24) (of_decide_eq_true (by first | (with_reducible assumption) | assumption)) q48 hroom48
        have hr48 := Kd.C_take (m := ((ji24) : Int).toNat) hC48 (by omega)
        have hy48 : y306.length = ((ji24) : Int).toNat := (by rw [Ny306.out, List.length_take]; omega)
        rw [← Ny306.out] at hr48
        rw [← hy48] at hcut48
        have HR309 := Aside0.mk hr48
        have HC309 := Aside0.mk (show y306.length ≤ c1 from by omega); clear hr48 hC48 hroom48 hi048 hsz48
        have KY48 := Aside0.mk hy48
        clear hy48
        replace q48 := eq_true q48
        refine hK.out _ _ ⟨(blk_cell BK300.out 0).trans rfl, (blk_cell BK300.out 1).trans rfl, (blk_cell BK300.out 2).trans rfl, (blk_cell BK300.out 3).trans rfl, (blk_cell BK300.out 4).trans rfl, (blk_cell BK300.out 5).trans rfl, (blk_cell BK300.out 6).trans rfl, (blk_cell BK300.out 7).trans rfl, (blk_cell BK300.out 8).trans rfl⟩ (fun hHeld => ?_)
        clear hK K
        refine norm_ (a' := ?_) ?_ ?_
        rotate_left
        ·
         show Act.put _ (some 36) _ = _
         simp only [Act.put, zAf8, zBf8, zCf8, i64_w, i32_w]
         rfl
        refine pure_ (i := 5) (N := some 37) (v := ?_) (a' := ?_) qf8_21 rfl rfl (any_of HT_.out (by kernel_rfl)) (fun _ _ _ h => h) (Or.inl ⟨by rfl, ?_⟩) ?_ ?_; rotate_left; (· (intro w'; go_simp; with_reducible rfl)); rotate_left; (· (simp only [Act.put, zAf8, zBf8, zCf8, i64_w, i32_w]; rfl))
        refine pure_ (i := 6) (N := some 38) (v := ?_) (a' := ?_) qf8_22 rfl rfl (any_of HT_.out (by kernel_rfl)) (fun _ _ _ h => h) (Or.inl ⟨by rfl, ?_⟩) ?_ ?_; rotate_left; (· (intro w'; go_simp; with_reducible rfl)); rotate_left; (· (simp only [Act.put, zAf8, zBf8, zCf8, i64_w, i32_w]; rfl))
        refine pure_ (i := 8) (N := some 40) (v := ?_) (a' := ?_) qf8_23 rfl rfl (any_of HT_.out (by kernel_rfl)) (fun _ _ _ h => h) (Or.inl ⟨by rfl, ?_⟩) ?_ ?_; rotate_left; (· (intro w'; go_simp; with_reducible rfl)); rotate_left; (· (simp only [Act.put, zAf8, zBf8, zCf8, i64_w, i32_w]; rfl))
        refine pure_ (i := 9) (N := some 41) (v := ?_) (a' := ?_) qf8_24 rfl rfl (any_of HT_.out (by kernel_rfl)) (fun _ _ _ h => h) (Or.inl ⟨by rfl, ?_⟩) ?_ ?_; rotate_left; (· (intro w'; go_simp; with_reducible rfl)); rotate_left; (· (simp only [Act.put, zAf8, zBf8, zCf8, i64_w, i32_w]; rfl))
        refine pure_ (i := 10) (N := some 42) (v := ?_) (a' := ?_) qf8_25 rfl rfl (any_of HT_.out (by kernel_rfl)) (fun _ _ _ h => h) (Or.inl ⟨by rfl, ?_⟩) ?_ ?_; rotate_left; (· (intro w'; go_simp; with_reducible rfl)); rotate_left; (· (simp only [Act.put, zAf8, zBf8, zCf8, i64_w, i32_w]; rfl))
        refine take_ (i := 7) (N := some 39) (v := ?_) (a' := ?_) qf8_26 rfl rfl (take_ofW HT_.out HW_.out (by kernel_rfl)) (fun _ _ _ h => h) (Or.inl ⟨by rfl, ?_⟩) hHeld ?_ ?_; rotate_left; (· (rintro w' ⟨s0, s1, s2, s3, s4, s5, s6, s7, s8⟩; go_simp; with_reducible rfl)); rotate_left; (· (simp only [Act.put, zAf8, zBf8, zCf8, i64_w, i32_w]; rfl))
        refine one_ (i := 11) (N := some 43) qf8_27 rfl rfl (one_of HT_.out (by kernel_rfl)) (by decide) (fun K hK => ?_)
        refine goes_ Try.func18 (by kernel_rfl) rfl #[.agg #[.slice A0_0 l0_0.length c0_0, .slice A0_1 l0_1.length c0_1, .slice A0_2 l0_2.length c0_2, .int .i64 a0_3, .int .i64 a0_4, .int .i64 a0_5, .int .i64 a0_6, .int .i64 a0_7, .int .i64 a0_8], .slice A1 y306.length c1] (by rfl) rfl rfl (by (try simp only [List.map_toArray, List.map_cons, List.map_nil]); first | done | rfl | (simp only [List.length_drop, List.length_take]; rfl)) ?_
        with_reducible refine (audit_Slept.calls kj4 _ _ l0_0 _ _ l0_1 _ _ l0_2 a0_3 a0_4 a0_5 a0_6 a0_7 a0_8 _ _ y306 true _ ?side1 ?side2 ?side3 ?side4 ?side5 ?side6 ?side7 ?side8 A27.out).mono ?_
        (case side1 => repeat (first | exact (Kd.C_below HR0_0.out HB.out) | (with_reducible refine Kd.C_alloc ?_ _) | (with_reducible refine Kd.C_drewN ?_ _) | (with_reducible refine Kd.C_drew ?_)))
        (case side2 => exact HC0_0.out)
        (case side3 => repeat (first | exact (Kd.C_below HR0_1.out HB.out) | (with_reducible refine Kd.C_alloc ?_ _) | (with_reducible refine Kd.C_drewN ?_ _) | (with_reducible refine Kd.C_drew ?_)))
        (case side4 => exact HC0_1.out)
        (case side5 => repeat (first | exact (Kd.C_below HR0_2.out HB.out) | (with_reducible refine Kd.C_alloc ?_ _) | (with_reducible refine Kd.C_drewN ?_ _) | (with_reducible refine Kd.C_drew ?_)))
        (case side6 => exact HC0_2.out)
        (case side7 => repeat (first | exact (Kd.C_below HR309.out HB.out) | (with_reducible refine Kd.C_alloc ?_ _) | (with_reducible refine Kd.C_drewN ?_ _) | (with_reducible refine Kd.C_drew ?_)))
        (case side8 => exact HC309.out)
        rintro e w49 ⟨rfl, hb⟩
        refine ⟨_, rfl, ?_⟩
        have n0_ := Aside0.mk (blk_below (g := gb300) (o := .cells #[.slice A0_0 l0_0.length c0_0, .slice A0_1 l0_1.length c0_1, .slice A0_2 l0_2.length c0_2, .int .i64 a0_3, .int .i64 a0_4, .int .i64 a0_5, .int .i64 a0_6, .int .i64 a0_7, .int .i64 a0_8] 26 (0, 0)) (by (with_reducible repeat (first | refine blk_drewN ?_ _ | refine blk_drew ?_ | refine blk_alloc ?_ _)); exact BK300.out) hb); have n1_ := Aside0.mk (below_step (by repeat (first | (with_reducible first | exact HB.out | apply below_alloc | apply pw_below_drewN | apply below_drew1 | refine below_set ?_ GE300.out) | exact HB.out)) hb); clear BK300; clear HB; have BK300 := n0_; have HB := n1_; clear n0_ n1_; (try clear hb); (try clear hb2); (try clear hk); (try clear hi)
        refine hK.out _ _ ⟨(blk_cell BK300.out 0).trans rfl, (blk_cell BK300.out 1).trans rfl, (blk_cell BK300.out 2).trans rfl, (blk_cell BK300.out 3).trans rfl, (blk_cell BK300.out 4).trans rfl, (blk_cell BK300.out 5).trans rfl, (blk_cell BK300.out 6).trans rfl, (blk_cell BK300.out 7).trans rfl, (blk_cell BK300.out 8).trans rfl⟩ (fun hHeld => ?_)
        clear hK K
        refine norm_ (a' := ?_) ?_ ?_
        rotate_left
        ·
         show Act.put _ (some 43) _ = _
         simp only [Act.put, zAf8, zBf8, zCf8, i64_w, i32_w]
         rfl
        refine pure_ (i := 12) (N := some 44) (v := ?_) (a' := ?_) qf8_28 rfl rfl (any_of HT_.out (by kernel_rfl)) (fun _ _ _ h => h) (Or.inl ⟨by rfl, ?_⟩) ?_ ?_; rotate_left; (· (intro w'; go_simp; with_reducible rfl)); rotate_left; (· (simp only [Act.put, zAf8, zBf8, zCf8, i64_w, i32_w]; rfl))
        refine pure_ (i := 13) (N := some 45) (v := ?_) (a' := ?_) qf8_29 rfl rfl (any_of HT_.out (by kernel_rfl)) (fun _ _ _ h => h) (Or.inl ⟨by rfl, ?_⟩) ?_ ?_; rotate_left; (· (intro w'; go_simp; with_reducible rfl)); rotate_left; (· (simp only [Act.put, zAf8, zBf8, zCf8, i64_w, i32_w]; rfl))
        refine pure_ (i := 14) (N := some 46) (v := ?_) (a' := ?_) qf8_30 rfl rfl (any_of HT_.out (by kernel_rfl)) (fun _ _ _ h => h) (Or.inl ⟨by rfl, ?_⟩) ?_ ?_; rotate_left; (· (intro w'; go_simp; with_reducible rfl)); rotate_left; (· (simp only [Act.put, zAf8, zBf8, zCf8, i64_w, i32_w]; rfl))
        refine pure_ (i := 15) (N := some 47) (v := ?_) (a' := ?_) qf8_31 rfl rfl (any_of HT_.out (by kernel_rfl)) (fun _ _ _ h => h) (Or.inl ⟨by rfl, ?_⟩) ?_ ?_; rotate_left; (· (intro w'; go_simp; with_reducible rfl)); rotate_left; (· (simp only [Act.put, zAf8, zBf8, zCf8, i64_w, i32_w]; rfl))
        refine one_ (i := 16) (N := some 48) qf8_32 rfl rfl (one_of HT_.out (by kernel_rfl)) (by decide) (fun K hK => ?_)
        refine goes_ Try.func16 (by kernel_rfl) rfl #[.slice A2 l2.length c2] (by rfl) rfl rfl (by (try simp only [List.map_toArray, List.map_cons, List.map_nil]); first | done | rfl | (simp only [List.length_drop, List.length_take]; rfl)) ?_
        with_reducible refine (audit_Kept.calls kj4 _ _ l2 false _ ?side1 ?side2 A29.out).mono ?_
        (case side1 => repeat (first | exact (Kd.C_below HR2.out HB.out) | (with_reducible refine Kd.C_alloc ?_ _) | (with_reducible refine Kd.C_drewN ?_ _) | (with_reducible refine Kd.C_drew ?_)))
        (case side2 => exact HC2.out)
        rintro e w50 ⟨rfl, hb⟩
        refine ⟨_, rfl, ?_⟩
        have n0_ := Aside0.mk (blk_below (g := gb300) (o := .cells #[.slice A0_0 l0_0.length c0_0, .slice A0_1 l0_1.length c0_1, .slice A0_2 l0_2.length c0_2, .int .i64 a0_3, .int .i64 a0_4, .int .i64 a0_5, .int .i64 a0_6, .int .i64 a0_7, .int .i64 a0_8] 26 (0, 0)) (by (with_reducible repeat (first | refine blk_drewN ?_ _ | refine blk_drew ?_ | refine blk_alloc ?_ _)); exact BK300.out) hb); have n1_ := Aside0.mk (below_step (by repeat (first | (with_reducible first | exact HB.out | apply below_alloc | apply pw_below_drewN | apply below_drew1 | refine below_set ?_ GE300.out) | exact HB.out)) hb); clear BK300; clear HB; have BK300 := n0_; have HB := n1_; clear n0_ n1_; (try clear hb); (try clear hb2); (try clear hk); (try clear hi)
        refine hK.out _ _ ⟨(blk_cell BK300.out 0).trans rfl, (blk_cell BK300.out 1).trans rfl, (blk_cell BK300.out 2).trans rfl, (blk_cell BK300.out 3).trans rfl, (blk_cell BK300.out 4).trans rfl, (blk_cell BK300.out 5).trans rfl, (blk_cell BK300.out 6).trans rfl, (blk_cell BK300.out 7).trans rfl, (blk_cell BK300.out 8).trans rfl⟩ (fun hHeld => ?_)
        clear hK K
        refine norm_ (a' := ?_) ?_ ?_
        rotate_left
        ·
         show Act.put _ (some 48) _ = _
         simp only [Act.put, zAf8, zBf8, zCf8, i64_w, i32_w]
         rfl
        refine pure_ (i := 17) (N := some 49) (v := ?_) (a' := ?_) qf8_33 rfl rfl (any_of HT_.out (by kernel_rfl)) (fun _ _ _ h => h) (Or.inl ⟨by rfl, ?_⟩) ?_ ?_; rotate_left; (· (intro w'; go_simp; with_reducible rfl)); rotate_left; (· (simp only [Act.put, zAf8, zBf8, zCf8, i64_w, i32_w]; rfl))
        refine pure_ (i := 18) (N := some 50) (v := ?_) (a' := ?_) qf8_34 rfl rfl (any_of HT_.out (by kernel_rfl)) (fun _ _ _ h => h) (Or.inl ⟨by rfl, ?_⟩) ?_ ?_; rotate_left; (· (intro w'; go_simp; with_reducible rfl)); rotate_left; (· (simp only [Act.put, zAf8, zBf8, zCf8, i64_w, i32_w]; rfl))
        refine pure_ (i := 19) (N := some 51) (v := undef) (a' := ?_) qf8_35 rfl rfl (any_of HT_.out (by kernel_rfl)) (fun _ _ _ h => h) (Or.inr ⟨by rfl, rfl⟩) ?_ ?_; rotate_left; (· (simp only [Act.put, zAf8, zBf8, zCf8, i64_w, i32_w]; rfl))
        refine pure_ (i := 20) (N := some 52) (v := undef) (a' := ?_) qf8_36 rfl rfl (any_of HT_.out (by kernel_rfl)) (fun _ _ _ h => h) (Or.inr ⟨by rfl, rfl⟩) ?_ ?_; rotate_left; (· (simp only [Act.put, zAf8, zBf8, zCf8, i64_w, i32_w]; rfl))
        refine pure_ (i := 21) (N := some 53) (v := undef) (a' := ?_) qf8_37 rfl rfl (any_of HT_.out (by kernel_rfl)) (fun _ _ _ h => h) (Or.inr ⟨by rfl, rfl⟩) ?_ ?_; rotate_left; (· (simp only [Act.put, zAf8, zBf8, zCf8, i64_w, i32_w]; rfl))
        refine pure_ (i := 22) (N := some 54) (v := undef) (a' := ?_) qf8_38 rfl rfl (any_of HT_.out (by kernel_rfl)) (fun _ _ _ h => h) (Or.inr ⟨by rfl, rfl⟩) ?_ ?_; rotate_left; (· (simp only [Act.put, zAf8, zBf8, zCf8, i64_w, i32_w]; rfl))
        refine pure_ (i := 23) (N := some 55) (v := ?_) (a' := ?_) qf8_39 rfl rfl (any_of HT_.out (by kernel_rfl)) (fun _ _ _ h => h) (Or.inl ⟨by rfl, ?_⟩) ?_ ?_; rotate_left; (· (intro w'; go_simp; with_reducible rfl)); rotate_left; (· (simp only [Act.put, zAf8, zBf8, zCf8, i64_w, i32_w]; rfl))
        refine pure_ (i := 24) (N := some 56) (v := ?_) (a' := ?_) qf8_40 rfl rfl (any_of HT_.out (by kernel_rfl)) (fun _ _ _ h => h) (Or.inl ⟨by rfl, ?_⟩) ?_ ?_; rotate_left; (· (intro w'; go_simp; with_reducible rfl)); rotate_left; (· (simp only [Act.put, zAf8, zBf8, zCf8, i64_w, i32_w]; rfl))
        refine pure_ (i := 25) (N := some 8) (v := ?_) (a' := ?_) qf8_41 rfl rfl (any_of HT_.out (by kernel_rfl)) (fun _ _ _ h => h) (Or.inl ⟨by rfl, ?_⟩) ?_ ?_; rotate_left; (· (intro w'; go_simp; with_reducible rfl)); rotate_left; (· (simp only [Act.put, zAf8, zBf8, zCf8, i64_w, i32_w]; rfl))
        refine done_ (done_of HT_.out (by kernel_rfl)) ?_
        try go_wp2
        go_ret
        exact ⟨by first | rfl | (rw [HR_.out]; done) | (rw [HR_.out]; rfl) | (simp [errW_none, errW_some] <;> rfl) | (simp only [← hji24]; first | rfl | (simp [errW_none, errW_some] <;> rfl)) | (simp [*, errW_none, errW_some] <;> rfl), by repeat (first | (with_reducible first | exact HB.out | apply below_alloc | apply pw_below_drewN | apply below_drew1 | refine below_set ?_ GE300.out) | exact HB.out)⟩
       replace c28 := Bool.eq_false_iff.mpr c28
       subst c28
       have H1 : (some false) = some true := by rw [if_neg (show ¬ (false = true) by decide)] at H; exact H
       cases H1
      rw [if_neg c26] at H
      exact absurd H (by simp)
     rw [if_neg c25] at H
     exact absurd H (by simp)
    replace c23 := Bool.eq_false_iff.mpr c23
    subst c23
    have H1 : ((audit_Kept.f kj4 l2).bind fun t317 => (if t317 = true then (if 0 ≤ (Int.tmod (wrap64 (a3)) (wrap64 ((l2.length : Int) + 1))) then (if (Int.tmod (wrap64 (a3)) (wrap64 ((l2.length : Int) + 1))) ≤ (l2.length : Int) then ((audit_Kept.f kj4 (l2.take ((Int.tmod (wrap64 (a3)) (wrap64 ((l2.length : Int) + 1))) : Int).toNat)).bind fun t322 => (some t322)) else (none)) else (none)) else (some true))) = some true := by rw [if_neg (show ¬ (false = true) by decide)] at H; exact H
    clear H; have H := H1; clear H1
    replace H := Option.bind_eq_some_iff.mp H
    obtain ⟨t317, A570, H⟩ := H
    replace H : (if t317 = true then (if 0 ≤ (Int.tmod (wrap64 (a3)) (wrap64 ((l2.length : Int) + 1))) then (if (Int.tmod (wrap64 (a3)) (wrap64 ((l2.length : Int) + 1))) ≤ (l2.length : Int) then ((audit_Kept.f kj4 (l2.take ((Int.tmod (wrap64 (a3)) (wrap64 ((l2.length : Int) + 1))) : Int).toNat)).bind fun t322 => (some t322)) else (none)) else (none)) else (some true)) = some true := H
    have A57 := Aside0.mk A570
    clear A570
    by_cases c58 : t317 = true
    ·
     subst c58
     have H1 : (if 0 ≤ (Int.tmod (wrap64 (a3)) (wrap64 ((l2.length : Int) + 1))) then (if (Int.tmod (wrap64 (a3)) (wrap64 ((l2.length : Int) + 1))) ≤ (l2.length : Int) then ((audit_Kept.f kj4 (l2.take ((Int.tmod (wrap64 (a3)) (wrap64 ((l2.length : Int) + 1))) : Int).toNat)).bind fun t322 => (some t322)) else (none)) else (none)) = some true := by rw [if_pos rfl] at H; exact H
     clear H; have H := H1; clear H1
     obtain ⟨ji59, hji59⟩ : ∃ j_ : Int, (Int.tmod (wrap64 (a3)) (wrap64 ((l2.length : Int) + 1))) = j_ := ⟨_, rfl⟩
     replace H : (if 0 ≤ (ji59) then (if (ji59) ≤ (l2.length : Int) then ((audit_Kept.f kj4 (l2.take ((ji59) : Int).toNat)).bind fun t322 => (some t322)) else (none)) else (none)) = some true := by first | (rw [hji59] at H; exact H) | (simp only [hji59] at H ⊢; exact H)
     (try rw [hji59] at A20)
     (try rw [hji59] at A22)
     (try rw [hji59] at A57)
     by_cases c60 : 0 ≤ (ji59)
     ·
      rw [if_pos c60] at H
      have c60b0 := eq_true c60
      have c60b1 : decide (0 ≤ (ji59)) = true := decide_eq_true c60
      clear c60
      by_cases c61 : (ji59) ≤ (l2.length : Int)
      ·
       rw [if_pos c61] at H
       have c61b0 := eq_true c61
       have c61b1 : decide ((ji59) ≤ (l2.length : Int)) = true := decide_eq_true c61
       clear c61
       obtain ⟨y318, hy318⟩ : ∃ y_ : List (S53), y_ = (l2.take ((ji59) : Int).toNat) := ⟨_, rfl⟩
       replace H : ((audit_Kept.f kj4 y318).bind fun t322 => (some t322)) = some true := by first | (rw [hy318]; with_reducible exact H) | (have H2_ := (Option.bind_some _ _).symm.trans H; rw [hy318]; with_reducible exact H2_) | (have H2_ := (Option.bind_some _ _).symm.trans H; with_reducible exact H2_) | with_reducible exact H | (rw [hy318]; exact H) | exact H
       have Ny318 := Aside0.mk hy318
       clear hy318
       replace H := Option.bind_eq_some_iff.mp H
       obtain ⟨t322, A620, H⟩ := H
       replace H : (some t322) = some true := H
       have A62 := Aside0.mk A620
       clear A620; have HR_ := Aside0.mk (Option.some.inj H)
       try go_wp2
       have n0_ := Aside0.mk (blk_drew BK300.out); have n1_ := Aside0.mk (below_drew1 HB.out); clear BK300; clear HB; have BK300 := n0_; have HB := n1_; clear n0_ n1_
       refine start_ (n := 14) (S := fun w' => True) (ds := []) qf8_0 (by kernel_rfl) rfl rfl trivial (fun hHeld => ?_); refine with_tabW dormouselaw22_AuditEarlier.tab3 dormouselaw22_AuditEarlier.bits3 (fun HT_ HW_ => ?_)
       generalize wc.drew = w63 at BK300 HB hHeld ⊢
       refine pure_ (i := 0) (N := some 20) (v := ?_) (a' := ?_) qf8_1 rfl rfl (any_of HT_.out (by kernel_rfl)) (fun _ _ _ h => h) (Or.inl ⟨by rfl, ?_⟩) ?_ ?_; rotate_left; (· (intro w'; go_simp; with_reducible rfl)); rotate_left; (· (simp only [Act.put, zAf8, zBf8, zCf8, i64_w, i32_w]; rfl))
       refine pure_ (i := 1) (N := some 21) (v := ?_) (a' := ?_) qf8_2 rfl rfl (any_of HT_.out (by kernel_rfl)) (fun _ _ _ h => h) (Or.inl ⟨by rfl, ?_⟩) ?_ ?_; rotate_left; (· (intro w'; go_simp; with_reducible rfl)); rotate_left; (· (simp only [Act.put, zAf8, zBf8, zCf8, i64_w, i32_w]; rfl))
       refine pure_ (i := 2) (N := some 22) (v := ?_) (a' := ?_) qf8_3 rfl rfl (any_of HT_.out (by kernel_rfl)) (fun _ _ _ h => h) (Or.inl ⟨by rfl, ?_⟩) ?_ ?_; rotate_left; (· (intro w'; go_simp; with_reducible rfl)); rotate_left; (· (simp only [Act.put, zAf8, zBf8, zCf8, i64_w, i32_w]; rfl))
       refine pure_ (i := 3) (N := some 23) (v := ?_) (a' := ?_) qf8_4 rfl rfl (any_of HT_.out (by kernel_rfl)) (fun _ _ _ h => h) (Or.inl ⟨by rfl, ?_⟩) ?_ ?_; rotate_left; (· (intro w'; go_simp; with_reducible rfl)); rotate_left; (· (simp only [Act.put, zAf8, zBf8, zCf8, i64_w, i32_w]; rfl))
       refine pure_ (i := 4) (N := some 24) (v := ?_) (a' := ?_) qf8_5 rfl rfl (any_of HT_.out (by kernel_rfl)) (fun _ _ _ h => h) (Or.inl ⟨by rfl, ?_⟩) ?_ ?_; rotate_left; (· (intro w'; go_simp; with_reducible rfl)); rotate_left; (· (simp only [Act.put, zAf8, zBf8, zCf8, i64_w, i32_w]; rfl))
       refine pure_ (i := 5) (N := some 25) (v := ?_) (a' := ?_) qf8_6 rfl rfl (any_of HT_.out (by kernel_rfl)) (fun _ _ _ h => h) (Or.inl ⟨by rfl, ?_⟩) ?_ ?_; rotate_left; (· (intro w'; go_simp; with_reducible rfl)); rotate_left; (· (simp only [Act.put, zAf8, zBf8, zCf8, i64_w, i32_w]; rfl))
       refine pure_ (i := 6) (N := some 26) (v := ?_) (a' := ?_) qf8_7 rfl rfl (any_of HT_.out (by kernel_rfl)) (fun _ _ _ h => h) (Or.inl ⟨by rfl, ?_⟩) ?_ ?_; rotate_left; (· (intro w'; go_simp; with_reducible rfl)); rotate_left; (· (simp only [Act.put, zAf8, zBf8, zCf8, i64_w, i32_w]; rfl))
       refine pure_ (i := 7) (N := some 27) (v := ?_) (a' := ?_) qf8_8 rfl rfl (any_of HT_.out (by kernel_rfl)) (fun _ _ _ h => h) (Or.inl ⟨by rfl, ?_⟩) ?_ ?_; rotate_left; (· (intro w'; go_simp; with_reducible rfl)); rotate_left; (· (simp only [Act.put, zAf8, zBf8, zCf8, i64_w, i32_w]; rfl))
       refine pure_ (i := 8) (N := some 28) (v := ?_) (a' := ?_) qf8_9 rfl rfl (any_of HT_.out (by kernel_rfl)) (fun _ _ _ h => h) (Or.inl ⟨by rfl, ?_⟩) ?_ ?_; rotate_left; (· (intro w'; go_simp; with_reducible rfl)); rotate_left; (· (simp only [Act.put, zAf8, zBf8, zCf8, i64_w, i32_w]; rfl))
       refine pure_ (i := 9) (N := some 29) (v := ?_) (a' := ?_) qf8_10 rfl rfl (any_of HT_.out (by kernel_rfl)) (fun _ _ _ h => h) (Or.inl ⟨by rfl, ?_⟩) ?_ ?_; rotate_left; (· (intro w'; go_simp; with_reducible rfl)); rotate_left; (· (simp only [Act.put, zAf8, zBf8, zCf8, i64_w, i32_w]; rfl))
       refine pure_ (i := 10) (N := some 30) (v := ?_) (a' := ?_) qf8_11 rfl rfl (any_of HT_.out (by kernel_rfl)) (fun _ _ _ h => h) (Or.inl ⟨by rfl, ?_⟩) ?_ ?_; rotate_left; (· (intro w'; go_simp; with_reducible rfl)); rotate_left; (· (simp only [Act.put, zAf8, zBf8, zCf8, i64_w, i32_w]; rfl))
       refine pure_ (i := 11) (N := some 31) (v := ?_) (a' := ?_) qf8_12 rfl rfl (any_of HT_.out (by kernel_rfl)) (fun _ _ _ h => h) (Or.inl ⟨by rfl, ?_⟩) ?_ ?_; rotate_left; (· (intro w'; go_simp; with_reducible rfl)); rotate_left; (· (simp only [Act.put, zAf8, zBf8, zCf8, i64_w, i32_w]; rfl))
       refine pure_ (i := 12) (N := some 9) (v := ?_) (a' := ?_) qf8_13 rfl rfl (any_of HT_.out (by kernel_rfl)) (fun _ _ _ h => h) (Or.inl ⟨by rfl, ?_⟩) ?_ ?_; rotate_left; (· (intro w'; go_simp; with_reducible rfl)); rotate_left; (· (simp only [Act.put, zAf8, zBf8, zCf8, i64_w, i32_w]; rfl))
       refine pure_ (i := 13) (N := some 10) (v := ?_) (a' := ?_) qf8_14 rfl rfl (any_of HT_.out (by kernel_rfl)) (fun _ _ _ h => h) (Or.inl ⟨by rfl, ?_⟩) ?_ ?_; rotate_left; (· (intro w'; go_simp; with_reducible rfl)); rotate_left; (· (simp only [Act.put, zAf8, zBf8, zCf8, i64_w, i32_w]; rfl))
       refine done_ (done_of HT_.out (by kernel_rfl)) ?_
       try go_wp2
       have n0_ := Aside0.mk (blk_drew BK300.out); have n1_ := Aside0.mk (below_drew1 HB.out); clear BK300; clear HB; have BK300 := n0_; have HB := n1_; clear n0_ n1_
       refine start_ (n := 26) (S := fun w' => w'.cell? ⟨gb300, 0, none⟩ = some (.slice A0_0 l0_0.length c0_0) ∧ w'.cell? ⟨gb300, 1, none⟩ = some (.slice A0_1 l0_1.length c0_1) ∧ w'.cell? ⟨gb300, 2, none⟩ = some (.slice A0_2 l0_2.length c0_2) ∧ w'.cell? ⟨gb300, 3, none⟩ = some (.int .i64 a0_3) ∧ w'.cell? ⟨gb300, 4, none⟩ = some (.int .i64 a0_4) ∧ w'.cell? ⟨gb300, 5, none⟩ = some (.int .i64 a0_5) ∧ w'.cell? ⟨gb300, 6, none⟩ = some (.int .i64 a0_6) ∧ w'.cell? ⟨gb300, 7, none⟩ = some (.int .i64 a0_7) ∧ w'.cell? ⟨gb300, 8, none⟩ = some (.int .i64 a0_8)) (ds := []) qf8_15 (by kernel_rfl) rfl rfl ⟨(blk_cell BK300.out 0).trans rfl, (blk_cell BK300.out 1).trans rfl, (blk_cell BK300.out 2).trans rfl, (blk_cell BK300.out 3).trans rfl, (blk_cell BK300.out 4).trans rfl, (blk_cell BK300.out 5).trans rfl, (blk_cell BK300.out 6).trans rfl, (blk_cell BK300.out 7).trans rfl, (blk_cell BK300.out 8).trans rfl⟩ (fun hHeld => ?_); refine with_tabW dormouselaw22_AuditEarlier.tab4 dormouselaw22_AuditEarlier.bits4 (fun HT_ HW_ => ?_)
       generalize w63.drew = w64 at BK300 HB hHeld ⊢
       refine one_ (i := 0) (N := some 32) qf8_16 rfl rfl (one_of HT_.out (by kernel_rfl)) (by decide) (fun K hK => ?_)
       refine goes_ Try.func11 (by kernel_rfl) rfl #[] (by rfl) rfl rfl (by (try simp only [List.map_toArray, List.map_cons, List.map_nil]); first | done | rfl | (simp only [List.length_drop, List.length_take]; rfl)) ?_
       with_reducible refine (dormouselaw22_answers.calls kj4  true _ A20.out).mono ?_
       rintro e w65 ⟨rfl, hb⟩
       refine ⟨_, rfl, ?_⟩
       have n0_ := Aside0.mk (blk_below (g := gb300) (o := .cells #[.slice A0_0 l0_0.length c0_0, .slice A0_1 l0_1.length c0_1, .slice A0_2 l0_2.length c0_2, .int .i64 a0_3, .int .i64 a0_4, .int .i64 a0_5, .int .i64 a0_6, .int .i64 a0_7, .int .i64 a0_8] 26 (0, 0)) (by (with_reducible repeat (first | refine blk_drewN ?_ _ | refine blk_drew ?_ | refine blk_alloc ?_ _)); exact BK300.out) hb); have n1_ := Aside0.mk (below_step (by repeat (first | (with_reducible first | exact HB.out | apply below_alloc | apply pw_below_drewN | apply below_drew1 | refine below_set ?_ GE300.out) | exact HB.out)) hb); clear BK300; clear HB; have BK300 := n0_; have HB := n1_; clear n0_ n1_; (try clear hb); (try clear hb2); (try clear hk); (try clear hi)
       refine hK.out _ _ ⟨(blk_cell BK300.out 0).trans rfl, (blk_cell BK300.out 1).trans rfl, (blk_cell BK300.out 2).trans rfl, (blk_cell BK300.out 3).trans rfl, (blk_cell BK300.out 4).trans rfl, (blk_cell BK300.out 5).trans rfl, (blk_cell BK300.out 6).trans rfl, (blk_cell BK300.out 7).trans rfl, (blk_cell BK300.out 8).trans rfl⟩ (fun hHeld => ?_)
       clear hK K
       refine norm_ (a' := ?_) ?_ ?_
       rotate_left
       ·
        show Act.put _ (some 32) _ = _
        simp only [Act.put, zAf8, zBf8, zCf8, i64_w, i32_w]
        rfl
       refine pure_ (i := 1) (N := some 33) (v := ?_) (a' := ?_) qf8_17 rfl rfl (any_of HT_.out (by kernel_rfl)) (fun _ _ _ h => h) (Or.inl ⟨by rfl, ?_⟩) ?_ ?_; rotate_left; (· (intro w'; go_simp; with_reducible rfl)); rotate_left; (· (simp only [Act.put, zAf8, zBf8, zCf8, i64_w, i32_w]; rfl))
       refine pure_ (i := 3) (N := some 35) (v := ?_) (a' := ?_) qf8_18 rfl rfl (any_of HT_.out (by kernel_rfl)) (fun _ _ _ h => h) (Or.inl ⟨by rfl, ?_⟩) ?_ ?_; rotate_left; (· (intro w'; go_simp; with_reducible rfl)); rotate_left; (· (simp only [Act.put, zAf8, zBf8, zCf8, i64_w, i32_w]; rfl))
       refine take_ (i := 2) (N := some 34) (v := ?_) (a' := ?_) qf8_19 rfl rfl (take_ofW HT_.out HW_.out (by kernel_rfl)) (fun _ _ _ h => h) (Or.inl ⟨by rfl, ?_⟩) hHeld ?_ ?_; rotate_left; (· (rintro w' ⟨s0, s1, s2, s3, s4, s5, s6, s7, s8⟩; go_simp; with_reducible rfl)); rotate_left; (· (simp only [Act.put, zAf8, zBf8, zCf8, i64_w, i32_w]; rfl))
       refine one_ (i := 4) (N := some 36) qf8_20 rfl rfl (one_of HT_.out (by kernel_rfl)) (by decide) (fun K hK => ?_)
       refine goes_ Try.func18 (by kernel_rfl) rfl #[.agg #[.slice A0_0 l0_0.length c0_0, .slice A0_1 l0_1.length c0_1, .slice A0_2 l0_2.length c0_2, .int .i64 a0_3, .int .i64 a0_4, .int .i64 a0_5, .int .i64 a0_6, .int .i64 a0_7, .int .i64 a0_8], .slice A1 l1.length c1] (by rfl) rfl rfl (by (try simp only [List.map_toArray, List.map_cons, List.map_nil]); first | done | rfl | (simp only [List.length_drop, List.length_take]; rfl)) ?_
       with_reducible refine (audit_Slept.calls kj4 _ _ l0_0 _ _ l0_1 _ _ l0_2 a0_3 a0_4 a0_5 a0_6 a0_7 a0_8 _ _ l1 false _ ?side1 ?side2 ?side3 ?side4 ?side5 ?side6 ?side7 ?side8 A22.out).mono ?_
       (case side1 => repeat (first | exact (Kd.C_below HR0_0.out HB.out) | (with_reducible refine Kd.C_alloc ?_ _) | (with_reducible refine Kd.C_drewN ?_ _) | (with_reducible refine Kd.C_drew ?_)))
       (case side2 => exact HC0_0.out)
       (case side3 => repeat (first | exact (Kd.C_below HR0_1.out HB.out) | (with_reducible refine Kd.C_alloc ?_ _) | (with_reducible refine Kd.C_drewN ?_ _) | (with_reducible refine Kd.C_drew ?_)))
       (case side4 => exact HC0_1.out)
       (case side5 => repeat (first | exact (Kd.C_below HR0_2.out HB.out) | (with_reducible refine Kd.C_alloc ?_ _) | (with_reducible refine Kd.C_drewN ?_ _) | (with_reducible refine Kd.C_drew ?_)))
       (case side6 => exact HC0_2.out)
       (case side7 => repeat (first | exact (Kd.C_below HR1.out HB.out) | (with_reducible refine Kd.C_alloc ?_ _) | (with_reducible refine Kd.C_drewN ?_ _) | (with_reducible refine Kd.C_drew ?_)))
       (case side8 => exact HC1.out)
       rintro e w66 ⟨rfl, hb⟩
       refine ⟨_, rfl, ?_⟩
       have n0_ := Aside0.mk (blk_below (g := gb300) (o := .cells #[.slice A0_0 l0_0.length c0_0, .slice A0_1 l0_1.length c0_1, .slice A0_2 l0_2.length c0_2, .int .i64 a0_3, .int .i64 a0_4, .int .i64 a0_5, .int .i64 a0_6, .int .i64 a0_7, .int .i64 a0_8] 26 (0, 0)) (by (with_reducible repeat (first | refine blk_drewN ?_ _ | refine blk_drew ?_ | refine blk_alloc ?_ _)); exact BK300.out) hb); have n1_ := Aside0.mk (below_step (by repeat (first | (with_reducible first | exact HB.out | apply below_alloc | apply pw_below_drewN | apply below_drew1 | refine below_set ?_ GE300.out) | exact HB.out)) hb); clear BK300; clear HB; have BK300 := n0_; have HB := n1_; clear n0_ n1_; (try clear hb); (try clear hb2); (try clear hk); (try clear hi)
       refine hK.out _ _ ⟨(blk_cell BK300.out 0).trans rfl, (blk_cell BK300.out 1).trans rfl, (blk_cell BK300.out 2).trans rfl, (blk_cell BK300.out 3).trans rfl, (blk_cell BK300.out 4).trans rfl, (blk_cell BK300.out 5).trans rfl, (blk_cell BK300.out 6).trans rfl, (blk_cell BK300.out 7).trans rfl, (blk_cell BK300.out 8).trans rfl⟩ (fun hHeld => ?_)
       clear hK K
       refine norm_ (a' := ?_) ?_ ?_
       rotate_left
       ·
        show Act.put _ (some 36) _ = _
        simp only [Act.put, zAf8, zBf8, zCf8, i64_w, i32_w]
        rfl
       refine pure_ (i := 5) (N := some 37) (v := ?_) (a' := ?_) qf8_21 rfl rfl (any_of HT_.out (by kernel_rfl)) (fun _ _ _ h => h) (Or.inl ⟨by rfl, ?_⟩) ?_ ?_; rotate_left; (· (intro w'; go_simp; with_reducible rfl)); rotate_left; (· (simp only [Act.put, zAf8, zBf8, zCf8, i64_w, i32_w]; rfl))
       refine pure_ (i := 6) (N := some 38) (v := ?_) (a' := ?_) qf8_22 rfl rfl (any_of HT_.out (by kernel_rfl)) (fun _ _ _ h => h) (Or.inl ⟨by rfl, ?_⟩) ?_ ?_; rotate_left; (· (intro w'; go_simp; with_reducible rfl)); rotate_left; (· (simp only [Act.put, zAf8, zBf8, zCf8, i64_w, i32_w]; rfl))
       refine pure_ (i := 7) (N := some 39) (v := undef) (a' := ?_) qf8_42 rfl rfl (any_of HT_.out (by kernel_rfl)) (fun _ _ _ h => h) (Or.inr ⟨by rfl, rfl⟩) ?_ ?_; rotate_left; (· (simp only [Act.put, zAf8, zBf8, zCf8, i64_w, i32_w]; rfl))
       refine pure_ (i := 8) (N := some 40) (v := undef) (a' := ?_) qf8_43 rfl rfl (any_of HT_.out (by kernel_rfl)) (fun _ _ _ h => h) (Or.inr ⟨by rfl, rfl⟩) ?_ ?_; rotate_left; (· (simp only [Act.put, zAf8, zBf8, zCf8, i64_w, i32_w]; rfl))
       refine pure_ (i := 9) (N := some 41) (v := undef) (a' := ?_) qf8_44 rfl rfl (any_of HT_.out (by kernel_rfl)) (fun _ _ _ h => h) (Or.inr ⟨by rfl, rfl⟩) ?_ ?_; rotate_left; (· (simp only [Act.put, zAf8, zBf8, zCf8, i64_w, i32_w]; rfl))
       refine pure_ (i := 10) (N := some 42) (v := undef) (a' := ?_) qf8_26 rfl rfl (any_of HT_.out (by kernel_rfl)) (fun _ _ _ h => h) (Or.inr ⟨by rfl, rfl⟩) ?_ ?_; rotate_left; (· (simp only [Act.put, zAf8, zBf8, zCf8, i64_w, i32_w]; rfl))
       refine pure_ (i := 11) (N := some 43) (v := undef) (a' := ?_) qf8_27 rfl rfl (any_of HT_.out (by kernel_rfl)) (fun _ _ _ h => h) (Or.inr ⟨by rfl, rfl⟩) ?_ ?_; rotate_left; (· (simp only [Act.put, zAf8, zBf8, zCf8, i64_w, i32_w]; rfl))
       refine pure_ (i := 12) (N := some 44) (v := ?_) (a' := ?_) qf8_28 rfl rfl (any_of HT_.out (by kernel_rfl)) (fun _ _ _ h => h) (Or.inl ⟨by rfl, ?_⟩) ?_ ?_; rotate_left; (· (intro w'; go_simp; with_reducible rfl)); rotate_left; (· (simp only [Act.put, zAf8, zBf8, zCf8, i64_w, i32_w]; rfl))
       refine pure_ (i := 13) (N := some 45) (v := ?_) (a' := ?_) qf8_29 rfl rfl (any_of HT_.out (by kernel_rfl)) (fun _ _ _ h => h) (Or.inl ⟨by rfl, ?_⟩) ?_ ?_; rotate_left; (· (intro w'; go_simp; with_reducible rfl)); rotate_left; (· (simp only [Act.put, zAf8, zBf8, zCf8, i64_w, i32_w]; rfl))
       refine pure_ (i := 14) (N := some 46) (v := ?_) (a' := ?_) qf8_30 rfl rfl (any_of HT_.out (by kernel_rfl)) (fun _ _ _ h => h) (Or.inl ⟨by rfl, ?_⟩) ?_ ?_; rotate_left; (· (intro w'; go_simp; with_reducible rfl)); rotate_left; (· (simp only [Act.put, zAf8, zBf8, zCf8, i64_w, i32_w]; rfl))
       refine pure_ (i := 15) (N := some 47) (v := ?_) (a' := ?_) qf8_31 rfl rfl (any_of HT_.out (by kernel_rfl)) (fun _ _ _ h => h) (Or.inl ⟨by rfl, ?_⟩) ?_ ?_; rotate_left; (· (intro w'; go_simp; with_reducible rfl)); rotate_left; (· (simp only [Act.put, zAf8, zBf8, zCf8, i64_w, i32_w]; rfl))
       refine one_ (i := 16) (N := some 48) qf8_32 rfl rfl (one_of HT_.out (by kernel_rfl)) (by decide) (fun K hK => ?_)
       refine goes_ Try.func16 (by kernel_rfl) rfl #[.slice A2 l2.length c2] (by rfl) rfl rfl (by (try simp only [List.map_toArray, List.map_cons, List.map_nil]); first | done | rfl | (simp only [List.length_drop, List.length_take]; rfl)) ?_
       with_reducible refine (audit_Kept.calls kj4 _ _ l2 true _ ?side1 ?side2 A57.out).mono ?_
       (case side1 => repeat (first | exact (Kd.C_below HR2.out HB.out) | (with_reducible refine Kd.C_alloc ?_ _) | (with_reducible refine Kd.C_drewN ?_ _) | (with_reducible refine Kd.C_drew ?_)))
       (case side2 => exact HC2.out)
       rintro e w67 ⟨rfl, hb⟩
       refine ⟨_, rfl, ?_⟩
       have n0_ := Aside0.mk (blk_below (g := gb300) (o := .cells #[.slice A0_0 l0_0.length c0_0, .slice A0_1 l0_1.length c0_1, .slice A0_2 l0_2.length c0_2, .int .i64 a0_3, .int .i64 a0_4, .int .i64 a0_5, .int .i64 a0_6, .int .i64 a0_7, .int .i64 a0_8] 26 (0, 0)) (by (with_reducible repeat (first | refine blk_drewN ?_ _ | refine blk_drew ?_ | refine blk_alloc ?_ _)); exact BK300.out) hb); have n1_ := Aside0.mk (below_step (by repeat (first | (with_reducible first | exact HB.out | apply below_alloc | apply pw_below_drewN | apply below_drew1 | refine below_set ?_ GE300.out) | exact HB.out)) hb); clear BK300; clear HB; have BK300 := n0_; have HB := n1_; clear n0_ n1_; (try clear hb); (try clear hb2); (try clear hk); (try clear hi)
       have q68 : ((ji59) : Int) ≤ ((l2.length : Int) : Int) := of_decide_eq_true (by first | (with_reducible assumption) | assumption)
       obtain ⟨i068, hi068, _, hsz68, _⟩ := info_parts info53
       have hroom68 : l2.length ≤ c2 := HC2.out
       have hC68 : Kd.C k53 _ A2 l2.length l2 := HR2.out
       have hcut68 := cut_to (P := Try.prog) 41 53 .i64 Try.underlying41 hi068 A2 l2.length c2 (ji59) (of_decide_eq_true (by first | (with_reducible assumption) | assumption)) q68 hroom68
       have hr68 := Kd.C_take (m := ((ji59) : Int).toNat) hC68 (by omega)
       have hy68 : y318.length = ((ji59) : Int).toNat := (by rw [Ny318.out, List.length_take]; omega)
       rw [← Ny318.out] at hr68
       rw [← hy68] at hcut68
       have HR321 := Aside0.mk hr68
       have HC321 := Aside0.mk (show y318.length ≤ c2 from by omega); clear hr68 hC68 hroom68 hi068 hsz68
       have KY68 := Aside0.mk hy68
       clear hy68
       replace q68 := eq_true q68
       refine hK.out _ _ ⟨(blk_cell BK300.out 0).trans rfl, (blk_cell BK300.out 1).trans rfl, (blk_cell BK300.out 2).trans rfl, (blk_cell BK300.out 3).trans rfl, (blk_cell BK300.out 4).trans rfl, (blk_cell BK300.out 5).trans rfl, (blk_cell BK300.out 6).trans rfl, (blk_cell BK300.out 7).trans rfl, (blk_cell BK300.out 8).trans rfl⟩ (fun hHeld => ?_)
       clear hK K
       refine norm_ (a' := ?_) ?_ ?_
       rotate_left
       ·
        show Act.put _ (some 48) _ = _
        simp only [Act.put, zAf8, zBf8, zCf8, i64_w, i32_w]
        rfl
       refine pure_ (i := 17) (N := some 49) (v := ?_) (a' := ?_) qf8_33 rfl rfl (any_of HT_.out (by kernel_rfl)) (fun _ _ _ h => h) (Or.inl ⟨by rfl, ?_⟩) ?_ ?_; rotate_left; (· (intro w'; go_simp; with_reducible rfl)); rotate_left; (· (simp only [Act.put, zAf8, zBf8, zCf8, i64_w, i32_w]; rfl))
       refine pure_ (i := 18) (N := some 50) (v := ?_) (a' := ?_) qf8_34 rfl rfl (any_of HT_.out (by kernel_rfl)) (fun _ _ _ h => h) (Or.inl ⟨by rfl, ?_⟩) ?_ ?_; rotate_left; (· (intro w'; go_simp; with_reducible rfl)); rotate_left; (· (simp only [Act.put, zAf8, zBf8, zCf8, i64_w, i32_w]; rfl))
       refine pure_ (i := 19) (N := some 51) (v := ?_) (a' := ?_) qf8_35 rfl rfl (any_of HT_.out (by kernel_rfl)) (fun _ _ _ h => h) (Or.inl ⟨by rfl, ?_⟩) ?_ ?_; rotate_left; (· (intro w'; go_simp; with_reducible rfl)); rotate_left; (· (simp only [Act.put, zAf8, zBf8, zCf8, i64_w, i32_w]; rfl))
       refine pure_ (i := 20) (N := some 52) (v := ?_) (a' := ?_) qf8_36 rfl rfl (any_of HT_.out (by kernel_rfl)) (fun _ _ _ h => h) (Or.inl ⟨by rfl, ?_⟩) ?_ ?_; rotate_left; (· (intro w'; go_simp; with_reducible rfl)); rotate_left; (· (simp only [Act.put, zAf8, zBf8, zCf8, i64_w, i32_w]; rfl))
       refine pure_ (i := 21) (N := some 53) (v := ?_) (a' := ?_) qf8_37 rfl rfl (any_of HT_.out (by kernel_rfl)) (fun _ _ _ h => h) (Or.inl ⟨by rfl, ?_⟩) ?_ ?_; rotate_left; (· (intro w'; go_simp; with_reducible rfl)); rotate_left; (· (simp only [Act.put, zAf8, zBf8, zCf8, i64_w, i32_w]; rfl))
       refine one_ (i := 22) (N := some 54) qf8_38 rfl rfl (one_of HT_.out (by kernel_rfl)) (by decide) (fun K hK => ?_)
       refine goes_ Try.func16 (by kernel_rfl) rfl #[.slice A2 y318.length c2] (by rfl) rfl rfl (by (try simp only [List.map_toArray, List.map_cons, List.map_nil]); first | done | rfl | (simp only [List.length_drop, List.length_take]; rfl)) ?_
       with_reducible refine (audit_Kept.calls kj4 _ _ y318 t322 _ ?side1 ?side2 A62.out).mono ?_
       (case side1 => repeat (first | exact (Kd.C_below HR321.out HB.out) | (with_reducible refine Kd.C_alloc ?_ _) | (with_reducible refine Kd.C_drewN ?_ _) | (with_reducible refine Kd.C_drew ?_)))
       (case side2 => exact HC321.out)
       rintro e w69 ⟨rfl, hb⟩
       refine ⟨_, rfl, ?_⟩
       have n0_ := Aside0.mk (blk_below (g := gb300) (o := .cells #[.slice A0_0 l0_0.length c0_0, .slice A0_1 l0_1.length c0_1, .slice A0_2 l0_2.length c0_2, .int .i64 a0_3, .int .i64 a0_4, .int .i64 a0_5, .int .i64 a0_6, .int .i64 a0_7, .int .i64 a0_8] 26 (0, 0)) (by (with_reducible repeat (first | refine blk_drewN ?_ _ | refine blk_drew ?_ | refine blk_alloc ?_ _)); exact BK300.out) hb); have n1_ := Aside0.mk (below_step (by repeat (first | (with_reducible first | exact HB.out | apply below_alloc | apply pw_below_drewN | apply below_drew1 | refine below_set ?_ GE300.out) | exact HB.out)) hb); clear BK300; clear HB; have BK300 := n0_; have HB := n1_; clear n0_ n1_; (try clear hb); (try clear hb2); (try clear hk); (try clear hi)
       refine hK.out _ _ ⟨(blk_cell BK300.out 0).trans rfl, (blk_cell BK300.out 1).trans rfl, (blk_cell BK300.out 2).trans rfl, (blk_cell BK300.out 3).trans rfl, (blk_cell BK300.out 4).trans rfl, (blk_cell BK300.out 5).trans rfl, (blk_cell BK300.out 6).trans rfl, (blk_cell BK300.out 7).trans rfl, (blk_cell BK300.out 8).trans rfl⟩ (fun hHeld => ?_)
       clear hK K
       refine norm_ (a' := ?_) ?_ ?_
       rotate_left
       ·
        show Act.put _ (some 54) _ = _
        simp only [Act.put, zAf8, zBf8, zCf8, i64_w, i32_w]
        rfl
       refine pure_ (i := 23) (N := some 55) (v := ?_) (a' := ?_) qf8_39 rfl rfl (any_of HT_.out (by kernel_rfl)) (fun _ _ _ h => h) (Or.inl ⟨by rfl, ?_⟩) ?_ ?_; rotate_left; (· (intro w'; go_simp; with_reducible rfl)); rotate_left; (· (simp only [Act.put, zAf8, zBf8, zCf8, i64_w, i32_w]; rfl))
       refine pure_ (i := 24) (N := some 56) (v := ?_) (a' := ?_) qf8_40 rfl rfl (any_of HT_.out (by kernel_rfl)) (fun _ _ _ h => h) (Or.inl ⟨by rfl, ?_⟩) ?_ ?_; rotate_left; (· (intro w'; go_simp; with_reducible rfl)); rotate_left; (· (simp only [Act.put, zAf8, zBf8, zCf8, i64_w, i32_w]; rfl))
       refine pure_ (i := 25) (N := some 8) (v := ?_) (a' := ?_) qf8_41 rfl rfl (any_of HT_.out (by kernel_rfl)) (fun _ _ _ h => h) (Or.inl ⟨by rfl, ?_⟩) ?_ ?_; rotate_left; (· (intro w'; go_simp; with_reducible rfl)); rotate_left; (· (simp only [Act.put, zAf8, zBf8, zCf8, i64_w, i32_w]; rfl))
       refine done_ (done_of HT_.out (by kernel_rfl)) ?_
       try go_wp2
       go_ret
       exact ⟨by first | rfl | (rw [HR_.out]; done) | (rw [HR_.out]; rfl) | (simp [errW_none, errW_some] <;> rfl) | (simp only [← hji59]; first | rfl | (simp [errW_none, errW_some] <;> rfl)) | (simp [*, errW_none, errW_some] <;> rfl), by repeat (first | (with_reducible first | exact HB.out | apply below_alloc | apply pw_below_drewN | apply below_drew1 | refine below_set ?_ GE300.out) | exact HB.out)⟩
      rw [if_neg c61] at H
      exact absurd H (by simp)
     rw [if_neg c60] at H
     exact absurd H (by simp)
    replace c58 := Bool.eq_false_iff.mpr c58
    subst c58
    have H1 : (some true) = some true := rfl
    clear H; have H := H1; clear H1; have HR_ := Aside0.mk (Option.some.inj H)
    try go_wp2
    have n0_ := Aside0.mk (blk_drew BK300.out); have n1_ := Aside0.mk (below_drew1 HB.out); clear BK300; clear HB; have BK300 := n0_; have HB := n1_; clear n0_ n1_
    refine start_ (n := 14) (S := fun w' => True) (ds := []) qf8_0 (by kernel_rfl) rfl rfl trivial (fun hHeld => ?_); refine with_tabW dormouselaw22_AuditEarlier.tab3 dormouselaw22_AuditEarlier.bits3 (fun HT_ HW_ => ?_)
    generalize wc.drew = w70 at BK300 HB hHeld ⊢
    refine pure_ (i := 0) (N := some 20) (v := ?_) (a' := ?_) qf8_1 rfl rfl (any_of HT_.out (by kernel_rfl)) (fun _ _ _ h => h) (Or.inl ⟨by rfl, ?_⟩) ?_ ?_; rotate_left; (· (intro w'; go_simp; with_reducible rfl)); rotate_left; (· (simp only [Act.put, zAf8, zBf8, zCf8, i64_w, i32_w]; rfl))
    refine pure_ (i := 1) (N := some 21) (v := ?_) (a' := ?_) qf8_2 rfl rfl (any_of HT_.out (by kernel_rfl)) (fun _ _ _ h => h) (Or.inl ⟨by rfl, ?_⟩) ?_ ?_; rotate_left; (· (intro w'; go_simp; with_reducible rfl)); rotate_left; (· (simp only [Act.put, zAf8, zBf8, zCf8, i64_w, i32_w]; rfl))
    refine pure_ (i := 2) (N := some 22) (v := ?_) (a' := ?_) qf8_3 rfl rfl (any_of HT_.out (by kernel_rfl)) (fun _ _ _ h => h) (Or.inl ⟨by rfl, ?_⟩) ?_ ?_; rotate_left; (· (intro w'; go_simp; with_reducible rfl)); rotate_left; (· (simp only [Act.put, zAf8, zBf8, zCf8, i64_w, i32_w]; rfl))
    refine pure_ (i := 3) (N := some 23) (v := ?_) (a' := ?_) qf8_4 rfl rfl (any_of HT_.out (by kernel_rfl)) (fun _ _ _ h => h) (Or.inl ⟨by rfl, ?_⟩) ?_ ?_; rotate_left; (· (intro w'; go_simp; with_reducible rfl)); rotate_left; (· (simp only [Act.put, zAf8, zBf8, zCf8, i64_w, i32_w]; rfl))
    refine pure_ (i := 4) (N := some 24) (v := ?_) (a' := ?_) qf8_5 rfl rfl (any_of HT_.out (by kernel_rfl)) (fun _ _ _ h => h) (Or.inl ⟨by rfl, ?_⟩) ?_ ?_; rotate_left; (· (intro w'; go_simp; with_reducible rfl)); rotate_left; (· (simp only [Act.put, zAf8, zBf8, zCf8, i64_w, i32_w]; rfl))
    refine pure_ (i := 5) (N := some 25) (v := ?_) (a' := ?_) qf8_6 rfl rfl (any_of HT_.out (by kernel_rfl)) (fun _ _ _ h => h) (Or.inl ⟨by rfl, ?_⟩) ?_ ?_; rotate_left; (· (intro w'; go_simp; with_reducible rfl)); rotate_left; (· (simp only [Act.put, zAf8, zBf8, zCf8, i64_w, i32_w]; rfl))
    refine pure_ (i := 6) (N := some 26) (v := ?_) (a' := ?_) qf8_7 rfl rfl (any_of HT_.out (by kernel_rfl)) (fun _ _ _ h => h) (Or.inl ⟨by rfl, ?_⟩) ?_ ?_; rotate_left; (· (intro w'; go_simp; with_reducible rfl)); rotate_left; (· (simp only [Act.put, zAf8, zBf8, zCf8, i64_w, i32_w]; rfl))
    refine pure_ (i := 7) (N := some 27) (v := ?_) (a' := ?_) qf8_8 rfl rfl (any_of HT_.out (by kernel_rfl)) (fun _ _ _ h => h) (Or.inl ⟨by rfl, ?_⟩) ?_ ?_; rotate_left; (· (intro w'; go_simp; with_reducible rfl)); rotate_left; (· (simp only [Act.put, zAf8, zBf8, zCf8, i64_w, i32_w]; rfl))
    refine pure_ (i := 8) (N := some 28) (v := ?_) (a' := ?_) qf8_9 rfl rfl (any_of HT_.out (by kernel_rfl)) (fun _ _ _ h => h) (Or.inl ⟨by rfl, ?_⟩) ?_ ?_; rotate_left; (· (intro w'; go_simp; with_reducible rfl)); rotate_left; (· (simp only [Act.put, zAf8, zBf8, zCf8, i64_w, i32_w]; rfl))
    refine pure_ (i := 9) (N := some 29) (v := ?_) (a' := ?_) qf8_10 rfl rfl (any_of HT_.out (by kernel_rfl)) (fun _ _ _ h => h) (Or.inl ⟨by rfl, ?_⟩) ?_ ?_; rotate_left; (· (intro w'; go_simp; with_reducible rfl)); rotate_left; (· (simp only [Act.put, zAf8, zBf8, zCf8, i64_w, i32_w]; rfl))
    refine pure_ (i := 10) (N := some 30) (v := ?_) (a' := ?_) qf8_11 rfl rfl (any_of HT_.out (by kernel_rfl)) (fun _ _ _ h => h) (Or.inl ⟨by rfl, ?_⟩) ?_ ?_; rotate_left; (· (intro w'; go_simp; with_reducible rfl)); rotate_left; (· (simp only [Act.put, zAf8, zBf8, zCf8, i64_w, i32_w]; rfl))
    refine pure_ (i := 11) (N := some 31) (v := ?_) (a' := ?_) qf8_12 rfl rfl (any_of HT_.out (by kernel_rfl)) (fun _ _ _ h => h) (Or.inl ⟨by rfl, ?_⟩) ?_ ?_; rotate_left; (· (intro w'; go_simp; with_reducible rfl)); rotate_left; (· (simp only [Act.put, zAf8, zBf8, zCf8, i64_w, i32_w]; rfl))
    refine pure_ (i := 12) (N := some 9) (v := ?_) (a' := ?_) qf8_13 rfl rfl (any_of HT_.out (by kernel_rfl)) (fun _ _ _ h => h) (Or.inl ⟨by rfl, ?_⟩) ?_ ?_; rotate_left; (· (intro w'; go_simp; with_reducible rfl)); rotate_left; (· (simp only [Act.put, zAf8, zBf8, zCf8, i64_w, i32_w]; rfl))
    refine pure_ (i := 13) (N := some 10) (v := ?_) (a' := ?_) qf8_14 rfl rfl (any_of HT_.out (by kernel_rfl)) (fun _ _ _ h => h) (Or.inl ⟨by rfl, ?_⟩) ?_ ?_; rotate_left; (· (intro w'; go_simp; with_reducible rfl)); rotate_left; (· (simp only [Act.put, zAf8, zBf8, zCf8, i64_w, i32_w]; rfl))
    refine done_ (done_of HT_.out (by kernel_rfl)) ?_
    try go_wp2
    have n0_ := Aside0.mk (blk_drew BK300.out); have n1_ := Aside0.mk (below_drew1 HB.out); clear BK300; clear HB; have BK300 := n0_; have HB := n1_; clear n0_ n1_
    refine start_ (n := 26) (S := fun w' => w'.cell? ⟨gb300, 0, none⟩ = some (.slice A0_0 l0_0.length c0_0) ∧ w'.cell? ⟨gb300, 1, none⟩ = some (.slice A0_1 l0_1.length c0_1) ∧ w'.cell? ⟨gb300, 2, none⟩ = some (.slice A0_2 l0_2.length c0_2) ∧ w'.cell? ⟨gb300, 3, none⟩ = some (.int .i64 a0_3) ∧ w'.cell? ⟨gb300, 4, none⟩ = some (.int .i64 a0_4) ∧ w'.cell? ⟨gb300, 5, none⟩ = some (.int .i64 a0_5) ∧ w'.cell? ⟨gb300, 6, none⟩ = some (.int .i64 a0_6) ∧ w'.cell? ⟨gb300, 7, none⟩ = some (.int .i64 a0_7) ∧ w'.cell? ⟨gb300, 8, none⟩ = some (.int .i64 a0_8)) (ds := []) qf8_15 (by kernel_rfl) rfl rfl ⟨(blk_cell BK300.out 0).trans rfl, (blk_cell BK300.out 1).trans rfl, (blk_cell BK300.out 2).trans rfl, (blk_cell BK300.out 3).trans rfl, (blk_cell BK300.out 4).trans rfl, (blk_cell BK300.out 5).trans rfl, (blk_cell BK300.out 6).trans rfl, (blk_cell BK300.out 7).trans rfl, (blk_cell BK300.out 8).trans rfl⟩ (fun hHeld => ?_); refine with_tabW dormouselaw22_AuditEarlier.tab4 dormouselaw22_AuditEarlier.bits4 (fun HT_ HW_ => ?_)
    generalize w70.drew = w71 at BK300 HB hHeld ⊢
    refine one_ (i := 0) (N := some 32) qf8_16 rfl rfl (one_of HT_.out (by kernel_rfl)) (by decide) (fun K hK => ?_)
    refine goes_ Try.func11 (by kernel_rfl) rfl #[] (by rfl) rfl rfl (by (try simp only [List.map_toArray, List.map_cons, List.map_nil]); first | done | rfl | (simp only [List.length_drop, List.length_take]; rfl)) ?_
    with_reducible refine (dormouselaw22_answers.calls kj4  true _ A20.out).mono ?_
    rintro e w72 ⟨rfl, hb⟩
    refine ⟨_, rfl, ?_⟩
    have n0_ := Aside0.mk (blk_below (g := gb300) (o := .cells #[.slice A0_0 l0_0.length c0_0, .slice A0_1 l0_1.length c0_1, .slice A0_2 l0_2.length c0_2, .int .i64 a0_3, .int .i64 a0_4, .int .i64 a0_5, .int .i64 a0_6, .int .i64 a0_7, .int .i64 a0_8] 26 (0, 0)) (by (with_reducible repeat (first | refine blk_drewN ?_ _ | refine blk_drew ?_ | refine blk_alloc ?_ _)); exact BK300.out) hb); have n1_ := Aside0.mk (below_step (by repeat (first | (with_reducible first | exact HB.out | apply below_alloc | apply pw_below_drewN | apply below_drew1 | refine below_set ?_ GE300.out) | exact HB.out)) hb); clear BK300; clear HB; have BK300 := n0_; have HB := n1_; clear n0_ n1_; (try clear hb); (try clear hb2); (try clear hk); (try clear hi)
    refine hK.out _ _ ⟨(blk_cell BK300.out 0).trans rfl, (blk_cell BK300.out 1).trans rfl, (blk_cell BK300.out 2).trans rfl, (blk_cell BK300.out 3).trans rfl, (blk_cell BK300.out 4).trans rfl, (blk_cell BK300.out 5).trans rfl, (blk_cell BK300.out 6).trans rfl, (blk_cell BK300.out 7).trans rfl, (blk_cell BK300.out 8).trans rfl⟩ (fun hHeld => ?_)
    clear hK K
    refine norm_ (a' := ?_) ?_ ?_
    rotate_left
    ·
     show Act.put _ (some 32) _ = _
     simp only [Act.put, zAf8, zBf8, zCf8, i64_w, i32_w]
     rfl
    refine pure_ (i := 1) (N := some 33) (v := ?_) (a' := ?_) qf8_17 rfl rfl (any_of HT_.out (by kernel_rfl)) (fun _ _ _ h => h) (Or.inl ⟨by rfl, ?_⟩) ?_ ?_; rotate_left; (· (intro w'; go_simp; with_reducible rfl)); rotate_left; (· (simp only [Act.put, zAf8, zBf8, zCf8, i64_w, i32_w]; rfl))
    refine pure_ (i := 3) (N := some 35) (v := ?_) (a' := ?_) qf8_18 rfl rfl (any_of HT_.out (by kernel_rfl)) (fun _ _ _ h => h) (Or.inl ⟨by rfl, ?_⟩) ?_ ?_; rotate_left; (· (intro w'; go_simp; with_reducible rfl)); rotate_left; (· (simp only [Act.put, zAf8, zBf8, zCf8, i64_w, i32_w]; rfl))
    refine take_ (i := 2) (N := some 34) (v := ?_) (a' := ?_) qf8_19 rfl rfl (take_ofW HT_.out HW_.out (by kernel_rfl)) (fun _ _ _ h => h) (Or.inl ⟨by rfl, ?_⟩) hHeld ?_ ?_; rotate_left; (· (rintro w' ⟨s0, s1, s2, s3, s4, s5, s6, s7, s8⟩; go_simp; with_reducible rfl)); rotate_left; (· (simp only [Act.put, zAf8, zBf8, zCf8, i64_w, i32_w]; rfl))
    refine one_ (i := 4) (N := some 36) qf8_20 rfl rfl (one_of HT_.out (by kernel_rfl)) (by decide) (fun K hK => ?_)
    refine goes_ Try.func18 (by kernel_rfl) rfl #[.agg #[.slice A0_0 l0_0.length c0_0, .slice A0_1 l0_1.length c0_1, .slice A0_2 l0_2.length c0_2, .int .i64 a0_3, .int .i64 a0_4, .int .i64 a0_5, .int .i64 a0_6, .int .i64 a0_7, .int .i64 a0_8], .slice A1 l1.length c1] (by rfl) rfl rfl (by (try simp only [List.map_toArray, List.map_cons, List.map_nil]); first | done | rfl | (simp only [List.length_drop, List.length_take]; rfl)) ?_
    with_reducible refine (audit_Slept.calls kj4 _ _ l0_0 _ _ l0_1 _ _ l0_2 a0_3 a0_4 a0_5 a0_6 a0_7 a0_8 _ _ l1 false _ ?side1 ?side2 ?side3 ?side4 ?side5 ?side6 ?side7 ?side8 A22.out).mono ?_
    (case side1 => repeat (first | exact (Kd.C_below HR0_0.out HB.out) | (with_reducible refine Kd.C_alloc ?_ _) | (with_reducible refine Kd.C_drewN ?_ _) | (with_reducible refine Kd.C_drew ?_)))
    (case side2 => exact HC0_0.out)
    (case side3 => repeat (first | exact (Kd.C_below HR0_1.out HB.out) | (with_reducible refine Kd.C_alloc ?_ _) | (with_reducible refine Kd.C_drewN ?_ _) | (with_reducible refine Kd.C_drew ?_)))
    (case side4 => exact HC0_1.out)
    (case side5 => repeat (first | exact (Kd.C_below HR0_2.out HB.out) | (with_reducible refine Kd.C_alloc ?_ _) | (with_reducible refine Kd.C_drewN ?_ _) | (with_reducible refine Kd.C_drew ?_)))
    (case side6 => exact HC0_2.out)
    (case side7 => repeat (first | exact (Kd.C_below HR1.out HB.out) | (with_reducible refine Kd.C_alloc ?_ _) | (with_reducible refine Kd.C_drewN ?_ _) | (with_reducible refine Kd.C_drew ?_)))
    (case side8 => exact HC1.out)
    rintro e w73 ⟨rfl, hb⟩
    refine ⟨_, rfl, ?_⟩
    have n0_ := Aside0.mk (blk_below (g := gb300) (o := .cells #[.slice A0_0 l0_0.length c0_0, .slice A0_1 l0_1.length c0_1, .slice A0_2 l0_2.length c0_2, .int .i64 a0_3, .int .i64 a0_4, .int .i64 a0_5, .int .i64 a0_6, .int .i64 a0_7, .int .i64 a0_8] 26 (0, 0)) (by (with_reducible repeat (first | refine blk_drewN ?_ _ | refine blk_drew ?_ | refine blk_alloc ?_ _)); exact BK300.out) hb); have n1_ := Aside0.mk (below_step (by repeat (first | (with_reducible first | exact HB.out | apply below_alloc | apply pw_below_drewN | apply below_drew1 | refine below_set ?_ GE300.out) | exact HB.out)) hb); clear BK300; clear HB; have BK300 := n0_; have HB := n1_; clear n0_ n1_; (try clear hb); (try clear hb2); (try clear hk); (try clear hi)
    refine hK.out _ _ ⟨(blk_cell BK300.out 0).trans rfl, (blk_cell BK300.out 1).trans rfl, (blk_cell BK300.out 2).trans rfl, (blk_cell BK300.out 3).trans rfl, (blk_cell BK300.out 4).trans rfl, (blk_cell BK300.out 5).trans rfl, (blk_cell BK300.out 6).trans rfl, (blk_cell BK300.out 7).trans rfl, (blk_cell BK300.out 8).trans rfl⟩ (fun hHeld => ?_)
    clear hK K
    refine norm_ (a' := ?_) ?_ ?_
    rotate_left
    ·
     show Act.put _ (some 36) _ = _
     simp only [Act.put, zAf8, zBf8, zCf8, i64_w, i32_w]
     rfl
    refine pure_ (i := 5) (N := some 37) (v := ?_) (a' := ?_) qf8_21 rfl rfl (any_of HT_.out (by kernel_rfl)) (fun _ _ _ h => h) (Or.inl ⟨by rfl, ?_⟩) ?_ ?_; rotate_left; (· (intro w'; go_simp; with_reducible rfl)); rotate_left; (· (simp only [Act.put, zAf8, zBf8, zCf8, i64_w, i32_w]; rfl))
    refine pure_ (i := 6) (N := some 38) (v := ?_) (a' := ?_) qf8_22 rfl rfl (any_of HT_.out (by kernel_rfl)) (fun _ _ _ h => h) (Or.inl ⟨by rfl, ?_⟩) ?_ ?_; rotate_left; (· (intro w'; go_simp; with_reducible rfl)); rotate_left; (· (simp only [Act.put, zAf8, zBf8, zCf8, i64_w, i32_w]; rfl))
    refine pure_ (i := 7) (N := some 39) (v := undef) (a' := ?_) qf8_42 rfl rfl (any_of HT_.out (by kernel_rfl)) (fun _ _ _ h => h) (Or.inr ⟨by rfl, rfl⟩) ?_ ?_; rotate_left; (· (simp only [Act.put, zAf8, zBf8, zCf8, i64_w, i32_w]; rfl))
    refine pure_ (i := 8) (N := some 40) (v := undef) (a' := ?_) qf8_43 rfl rfl (any_of HT_.out (by kernel_rfl)) (fun _ _ _ h => h) (Or.inr ⟨by rfl, rfl⟩) ?_ ?_; rotate_left; (· (simp only [Act.put, zAf8, zBf8, zCf8, i64_w, i32_w]; rfl))
    refine pure_ (i := 9) (N := some 41) (v := undef) (a' := ?_) qf8_44 rfl rfl (any_of HT_.out (by kernel_rfl)) (fun _ _ _ h => h) (Or.inr ⟨by rfl, rfl⟩) ?_ ?_; rotate_left; (· (simp only [Act.put, zAf8, zBf8, zCf8, i64_w, i32_w]; rfl))
    refine pure_ (i := 10) (N := some 42) (v := undef) (a' := ?_) qf8_26 rfl rfl (any_of HT_.out (by kernel_rfl)) (fun _ _ _ h => h) (Or.inr ⟨by rfl, rfl⟩) ?_ ?_; rotate_left; (· (simp only [Act.put, zAf8, zBf8, zCf8, i64_w, i32_w]; rfl))
    refine pure_ (i := 11) (N := some 43) (v := undef) (a' := ?_) qf8_27 rfl rfl (any_of HT_.out (by kernel_rfl)) (fun _ _ _ h => h) (Or.inr ⟨by rfl, rfl⟩) ?_ ?_; rotate_left; (· (simp only [Act.put, zAf8, zBf8, zCf8, i64_w, i32_w]; rfl))
    refine pure_ (i := 12) (N := some 44) (v := ?_) (a' := ?_) qf8_28 rfl rfl (any_of HT_.out (by kernel_rfl)) (fun _ _ _ h => h) (Or.inl ⟨by rfl, ?_⟩) ?_ ?_; rotate_left; (· (intro w'; go_simp; with_reducible rfl)); rotate_left; (· (simp only [Act.put, zAf8, zBf8, zCf8, i64_w, i32_w]; rfl))
    refine pure_ (i := 13) (N := some 45) (v := ?_) (a' := ?_) qf8_29 rfl rfl (any_of HT_.out (by kernel_rfl)) (fun _ _ _ h => h) (Or.inl ⟨by rfl, ?_⟩) ?_ ?_; rotate_left; (· (intro w'; go_simp; with_reducible rfl)); rotate_left; (· (simp only [Act.put, zAf8, zBf8, zCf8, i64_w, i32_w]; rfl))
    refine pure_ (i := 14) (N := some 46) (v := ?_) (a' := ?_) qf8_30 rfl rfl (any_of HT_.out (by kernel_rfl)) (fun _ _ _ h => h) (Or.inl ⟨by rfl, ?_⟩) ?_ ?_; rotate_left; (· (intro w'; go_simp; with_reducible rfl)); rotate_left; (· (simp only [Act.put, zAf8, zBf8, zCf8, i64_w, i32_w]; rfl))
    refine pure_ (i := 15) (N := some 47) (v := ?_) (a' := ?_) qf8_31 rfl rfl (any_of HT_.out (by kernel_rfl)) (fun _ _ _ h => h) (Or.inl ⟨by rfl, ?_⟩) ?_ ?_; rotate_left; (· (intro w'; go_simp; with_reducible rfl)); rotate_left; (· (simp only [Act.put, zAf8, zBf8, zCf8, i64_w, i32_w]; rfl))
    refine one_ (i := 16) (N := some 48) qf8_32 rfl rfl (one_of HT_.out (by kernel_rfl)) (by decide) (fun K hK => ?_)
    refine goes_ Try.func16 (by kernel_rfl) rfl #[.slice A2 l2.length c2] (by rfl) rfl rfl (by (try simp only [List.map_toArray, List.map_cons, List.map_nil]); first | done | rfl | (simp only [List.length_drop, List.length_take]; rfl)) ?_
    with_reducible refine (audit_Kept.calls kj4 _ _ l2 false _ ?side1 ?side2 A57.out).mono ?_
    (case side1 => repeat (first | exact (Kd.C_below HR2.out HB.out) | (with_reducible refine Kd.C_alloc ?_ _) | (with_reducible refine Kd.C_drewN ?_ _) | (with_reducible refine Kd.C_drew ?_)))
    (case side2 => exact HC2.out)
    rintro e w74 ⟨rfl, hb⟩
    refine ⟨_, rfl, ?_⟩
    have n0_ := Aside0.mk (blk_below (g := gb300) (o := .cells #[.slice A0_0 l0_0.length c0_0, .slice A0_1 l0_1.length c0_1, .slice A0_2 l0_2.length c0_2, .int .i64 a0_3, .int .i64 a0_4, .int .i64 a0_5, .int .i64 a0_6, .int .i64 a0_7, .int .i64 a0_8] 26 (0, 0)) (by (with_reducible repeat (first | refine blk_drewN ?_ _ | refine blk_drew ?_ | refine blk_alloc ?_ _)); exact BK300.out) hb); have n1_ := Aside0.mk (below_step (by repeat (first | (with_reducible first | exact HB.out | apply below_alloc | apply pw_below_drewN | apply below_drew1 | refine below_set ?_ GE300.out) | exact HB.out)) hb); clear BK300; clear HB; have BK300 := n0_; have HB := n1_; clear n0_ n1_; (try clear hb); (try clear hb2); (try clear hk); (try clear hi)
    refine hK.out _ _ ⟨(blk_cell BK300.out 0).trans rfl, (blk_cell BK300.out 1).trans rfl, (blk_cell BK300.out 2).trans rfl, (blk_cell BK300.out 3).trans rfl, (blk_cell BK300.out 4).trans rfl, (blk_cell BK300.out 5).trans rfl, (blk_cell BK300.out 6).trans rfl, (blk_cell BK300.out 7).trans rfl, (blk_cell BK300.out 8).trans rfl⟩ (fun hHeld => ?_)
    clear hK K
    refine norm_ (a' := ?_) ?_ ?_
    rotate_left
    ·
     show Act.put _ (some 48) _ = _
     simp only [Act.put, zAf8, zBf8, zCf8, i64_w, i32_w]
     rfl
    refine pure_ (i := 17) (N := some 49) (v := ?_) (a' := ?_) qf8_33 rfl rfl (any_of HT_.out (by kernel_rfl)) (fun _ _ _ h => h) (Or.inl ⟨by rfl, ?_⟩) ?_ ?_; rotate_left; (· (intro w'; go_simp; with_reducible rfl)); rotate_left; (· (simp only [Act.put, zAf8, zBf8, zCf8, i64_w, i32_w]; rfl))
    refine pure_ (i := 18) (N := some 50) (v := ?_) (a' := ?_) qf8_34 rfl rfl (any_of HT_.out (by kernel_rfl)) (fun _ _ _ h => h) (Or.inl ⟨by rfl, ?_⟩) ?_ ?_; rotate_left; (· (intro w'; go_simp; with_reducible rfl)); rotate_left; (· (simp only [Act.put, zAf8, zBf8, zCf8, i64_w, i32_w]; rfl))
    refine pure_ (i := 19) (N := some 51) (v := undef) (a' := ?_) qf8_35 rfl rfl (any_of HT_.out (by kernel_rfl)) (fun _ _ _ h => h) (Or.inr ⟨by rfl, rfl⟩) ?_ ?_; rotate_left; (· (simp only [Act.put, zAf8, zBf8, zCf8, i64_w, i32_w]; rfl))
    refine pure_ (i := 20) (N := some 52) (v := undef) (a' := ?_) qf8_36 rfl rfl (any_of HT_.out (by kernel_rfl)) (fun _ _ _ h => h) (Or.inr ⟨by rfl, rfl⟩) ?_ ?_; rotate_left; (· (simp only [Act.put, zAf8, zBf8, zCf8, i64_w, i32_w]; rfl))
    refine pure_ (i := 21) (N := some 53) (v := undef) (a' := ?_) qf8_37 rfl rfl (any_of HT_.out (by kernel_rfl)) (fun _ _ _ h => h) (Or.inr ⟨by rfl, rfl⟩) ?_ ?_; rotate_left; (· (simp only [Act.put, zAf8, zBf8, zCf8, i64_w, i32_w]; rfl))
    refine pure_ (i := 22) (N := some 54) (v := undef) (a' := ?_) qf8_38 rfl rfl (any_of HT_.out (by kernel_rfl)) (fun _ _ _ h => h) (Or.inr ⟨by rfl, rfl⟩) ?_ ?_; rotate_left; (· (simp only [Act.put, zAf8, zBf8, zCf8, i64_w, i32_w]; rfl))
    refine pure_ (i := 23) (N := some 55) (v := ?_) (a' := ?_) qf8_39 rfl rfl (any_of HT_.out (by kernel_rfl)) (fun _ _ _ h => h) (Or.inl ⟨by rfl, ?_⟩) ?_ ?_; rotate_left; (· (intro w'; go_simp; with_reducible rfl)); rotate_left; (· (simp only [Act.put, zAf8, zBf8, zCf8, i64_w, i32_w]; rfl))
    refine pure_ (i := 24) (N := some 56) (v := ?_) (a' := ?_) qf8_40 rfl rfl (any_of HT_.out (by kernel_rfl)) (fun _ _ _ h => h) (Or.inl ⟨by rfl, ?_⟩) ?_ ?_; rotate_left; (· (intro w'; go_simp; with_reducible rfl)); rotate_left; (· (simp only [Act.put, zAf8, zBf8, zCf8, i64_w, i32_w]; rfl))
    refine pure_ (i := 25) (N := some 8) (v := ?_) (a' := ?_) qf8_41 rfl rfl (any_of HT_.out (by kernel_rfl)) (fun _ _ _ h => h) (Or.inl ⟨by rfl, ?_⟩) ?_ ?_; rotate_left; (· (intro w'; go_simp; with_reducible rfl)); rotate_left; (· (simp only [Act.put, zAf8, zBf8, zCf8, i64_w, i32_w]; rfl))
    refine done_ (done_of HT_.out (by kernel_rfl)) ?_
    try go_wp2
    go_ret
    exact ⟨by first | rfl | (rw [HR_.out]; done) | (rw [HR_.out]; rfl) | (simp [errW_none, errW_some] <;> rfl) | (simp [*, errW_none, errW_some] <;> rfl), by repeat (first | (with_reducible first | exact HB.out | apply below_alloc | apply pw_below_drewN | apply below_drew1 | refine below_set ?_ GE300.out) | exact HB.out)⟩
   replace c21 := Bool.eq_false_iff.mpr c21
   subst c21
   have H1 : (some false) = some true := by rw [if_neg (show ¬ (false = true) by decide)] at H; exact H
   cases H1

end Go.Proofs.Ytahdadmibmgpmaa.PAll
