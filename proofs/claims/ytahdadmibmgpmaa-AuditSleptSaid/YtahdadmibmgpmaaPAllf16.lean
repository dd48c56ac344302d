/- audit.Kept: its function literal, slices.IndexFunc and slices.ContainsFunc at it, and itself, by hand: whether no event of a list is late. -/
import Derived.Test.YtahdadmibmgpmaaPAllx0
namespace Go.Proofs.Ytahdadmibmgpmaa.PAll
open Go.RowKit Go.Proofs.YtahdadmibmgpmaaW.PrintWords Go.Proofs.YtahdadmibmgpmaaW.PrintLast
set_option linter.unusedVariables false
set_option linter.unusedSimpArgs false

/-- An end behind its deadline. -/
def late (x : S53) : Bool := (x.f0 == 2 || x.f0 == 3) && decide (x.f3 < x.f2)
/-- The first late one, or -1. -/
def audit_Kept.l0 : Nat → List S53 → Int → Option Int
  | 0, _, _ => none
  | k + 1, l, i => if i < (l.length : Int) then (if 0 ≤ i then (if late (rd_T53 l i) = true then some i else audit_Kept.l0 k l (wrap64 (i + 1))) else none) else some (-1)
def audit_Kept.f (k : Nat) (l0 : List S53) : Option Bool := (audit_Kept.l0 k l0 0).bind fun n => some (!decide (0 ≤ n))
theorem audit_Kept.mono_l : ∀ k l i, LeO (audit_Kept.l0 k l i) (audit_Kept.l0 (k + 1) l i)
  | 0, _, _ => fun r h => by simp [audit_Kept.l0] at h
  | k + 1, l, i => LeO.ite (LeO.ite (LeO.ite (LeO.refl _) (audit_Kept.mono_l k l _)) (LeO.none _)) (LeO.refl _)
theorem audit_Kept.mono : ∀ a0 k, LeO (audit_Kept.f k a0) (audit_Kept.f (k + 1) a0) := fun l k => LeO.bind (audit_Kept.mono_l k l 0) (fun _ => LeO.refl _)

set_option maxHeartbeats 4000000 in
set_option maxRecDepth 100000 in
theorem audit_Kept.lit (x : S53) (w : World) :
    Calls Try.prog 27 #[.agg #[.int .i64 x.f0, .int .i64 x.f1, .int .i64 x.f2, .int .i64 x.f3]] w fun e w' => e = .returned (.bool (late x)) ∧ Below w.heap.size w w' := by
  have hu53 := Try.underlying53
  have HB := Aside0.mk (Below.refl w.heap.size w)
  obtain ⟨x0, x1, x2, x3⟩ := x
  obtain ⟨b1, e1⟩ : ∃ b, b = (x0 == 2) := ⟨_, rfl⟩
  obtain ⟨b2, e2⟩ : ∃ b, b = (x0 == 3) := ⟨_, rfl⟩
  obtain ⟨b3, e3⟩ : ∃ b, b = decide (x3 < x2) := ⟨_, rfl⟩
  have hl : Aside0 (late ⟨x0, x1, x2, x3⟩ = ((b1 || b2) && b3)) := ⟨by rw [e1, e2, e3]; rfl⟩
  cases b1 <;> cases b2 <;> cases b3
  all_goals
    replace e1 := e1.symm
    replace e2 := e2.symm
    replace e3 := e3.symm
    go_enter Try.func27, Try.ntmps27
    go_wp2_with (first | ((with_reducible refine gate_dst (N := 1) rfl ?_); refine box_event ?hg (N := 1) ?hd (cs := #[.int .i64 x0, .int .i64 x1, .int .i64 x2, .int .i64 x3]) (t := 53) ?hr ?_; (case hd => rfl); (case hg => rfl); (case hr => first | (go_simp; done) | (go_simp; rfl)); intro gb1 hg w1 hbox hb; have n0_ := Aside0.mk (below_step (by exact HB.out) hb); have n1_ := Aside0.mk hbox; clear HB; have HB := n0_; have BK1 := n1_; clear n0_ n1_; clear hb hbox hg; have hc0 : w1.cell? ⟨gb1, 0, none⟩ = some (.int .i64 x0) := (blk_cell BK1.out 0).trans rfl; have hc2 : w1.cell? ⟨gb1, 2, none⟩ = some (.int .i64 x2) := (blk_cell BK1.out 2).trans rfl; have hc3 : w1.cell? ⟨gb1, 3, none⟩ = some (.int .i64 x3) := (blk_cell BK1.out 3).trans rfl))
    try (go_quiet (fail); go_wp2)
    go_ret
    exact ⟨by rw [hl.out]; rfl, by repeat (first | (with_reducible first | exact HB.out | apply below_alloc | apply pw_below_drewN | apply below_drew1) | exact HB.out)⟩

set_option maxHeartbeats 4000000 in
set_option maxRecDepth 100000 in
theorem audit_Kept.index (k : Nat) (A0 : Option Addr) (c0 : Nat) (l0 : List S53) (r : Int) (w : World) (hr0 : Kd.C k53 w A0 l0.length l0) (hc0 : l0.length ≤ c0) (h : audit_Kept.l0 k l0 0 = some r) :
    Calls Try.prog 32 #[.slice A0 l0.length c0, .func (.func 27) #[] #[]] w fun e w' => e = .returned (.int .i64 r) ∧ Below w.heap.size w w' := by
  have hu53 := Try.underlying53
  have HR0 := Aside0.mk hr0
  have HC0 := Aside0.mk hc0
  clear hr0 hc0
  have HB := Aside0.mk (Below.refl w.heap.size w)
  have H' := Aside0.mk h
  clear h
  go_enter Try.func32, Try.ntmps32
  go_wp2
  go_loopg [5, 8] k (fun kq v5 v8 w' => ∃ (x8_1 : Int), v8 = .int .i64 x8_1 ∧ Aside0 (audit_Kept.l0 kq l0 x8_1 = some r) ∧ Aside0 (kq ≤ k) ∧ Aside0 (Below w.heap.size w w'))
  case atStart => exact ⟨(0), (by first | rfl | (simp; done) | (simp [*]; done)), H', ⟨Nat.le_refl _⟩, ⟨by repeat (first | (with_reducible first | exact HB.out | apply below_alloc | apply pw_below_drewN | apply below_drew1) | exact HB.out)⟩⟩
  case round =>
    clear H'
    obtain ⟨x8_1, rfl, HA, HK1, HB⟩ := hrel
    cases gk with
    | zero => exact absurd HA.out (by simp [audit_Kept.l0])
    | succ k1 =>
      have H := HA.out
      clear HA
      simp only [audit_Kept.l0] at H
      by_cases c2 : x8_1 < (l0.length : Int)
      · rw [if_pos c2] at H
        have c2b0 : decide (x8_1 < (l0.length : Int)) = true := decide_eq_true c2
        by_cases c3 : 0 ≤ x8_1
        · rw [if_pos c3] at H
          have c3b0 : decide (0 ≤ x8_1) = true := decide_eq_true c3
          have lc := audit_Kept.lit (rd_T53 l0 x8_1)
          obtain ⟨ad, e0, hx0, hx1, hx2, hx3⟩ := at_T53 HR0.out x8_1 c3 c2
          cases e0
          replace c2 := eq_true c2
          replace c3 := eq_true c3
          have LC := Aside0.mk lc
          clear lc
          replace hx0 := (HB.out.cell (World.block_lt_of_cell? w _ hx0)).trans hx0
          replace hx1 := (HB.out.cell (World.block_lt_of_cell? w _ hx1)).trans hx1
          replace hx2 := (HB.out.cell (World.block_lt_of_cell? w _ hx2)).trans hx2
          replace hx3 := (HB.out.cell (World.block_lt_of_cell? w _ hx3)).trans hx3
          by_cases c4 : late (rd_T53 l0 x8_1) = true
          · rw [if_pos c4] at H
            rw [c4] at LC
            clear c4
            obtain rfl := Option.some.inj H
            go_wp2_with (go_at_call 27; refine (LC.out _).mono ?_; rintro e w1 ⟨rfl, hb⟩; have n1_ := Aside0.mk (below_step (by repeat (first | (with_reducible first | exact HB.out | apply below_alloc | apply pw_below_drewN | apply below_drew1) | exact HB.out)) hb); clear HB; have HB := n1_; clear n1_ hb)
            go_ret
            exact ⟨rfl, by repeat (first | (with_reducible first | exact HB.out | apply below_alloc | apply pw_below_drewN | apply below_drew1) | exact HB.out)⟩
          · rw [if_neg c4] at H
            have H' := Aside0.mk H
            clear H
            replace c4 := Bool.eq_false_iff.mpr c4
            rw [c4] at LC
            clear c4
            go_wp2_with (go_at_call 27; refine (LC.out _).mono ?_; rintro e w1 ⟨rfl, hb⟩; have n1_ := Aside0.mk (below_step (by repeat (first | (with_reducible first | exact HB.out | apply below_alloc | apply pw_below_drewN | apply below_drew1) | exact HB.out)) hb); clear HB; have HB := n1_; clear n1_ hb)
            go_roundg k1
            case measure => have := HK1.out; omega
            case rel => exact ⟨(wrap64 (x8_1 + 1)), (by first | rfl | (simp; done) | (simp [*]; done)), H', ⟨by have := HK1.out; omega⟩, ⟨by repeat (first | (with_reducible first | exact HB.out | apply below_alloc | apply pw_below_drewN | apply below_drew1) | exact HB.out)⟩⟩
        · rw [if_neg c3] at H
          cases H
      · rw [if_neg c2] at H
        have c2b0 : decide (x8_1 < (l0.length : Int)) = false := decide_eq_false c2
        clear c2
        obtain rfl := Option.some.inj H
        go_wp2
        go_ret
        exact ⟨rfl, by repeat (first | (with_reducible first | exact HB.out | apply below_alloc | apply pw_below_drewN | apply below_drew1) | exact HB.out)⟩

set_option maxHeartbeats 4000000 in
theorem audit_Kept.contains (k : Nat) (A0 : Option Addr) (c0 : Nat) (l0 : List S53) (r : Int) (w : World) (hr0 : Kd.C k53 w A0 l0.length l0) (hc0 : l0.length ≤ c0) (h : audit_Kept.l0 k l0 0 = some r) :
    Calls Try.prog 26 #[.slice A0 l0.length c0, .func (.func 27) #[] #[]] w fun e w' => e = .returned (.bool (decide (0 ≤ r))) ∧ Below w.heap.size w w' := by
  have IX := Aside0.mk (audit_Kept.index k A0 c0 l0 r w hr0 hc0 h)
  clear hr0 hc0 h
  go_enter Try.func26, Try.ntmps26
  go_wp2_with (go_at_call 32; refine IX.out.mono ?_; rintro e w1 ⟨rfl, hb⟩; have HB := Aside0.mk hb; clear hb)
  go_ret
  exact ⟨by first | rfl | simp, HB.out⟩

set_option maxHeartbeats 4000000 in
theorem audit_Kept.calls (k : Nat) (A0 : Option Addr) (c0 : Nat) (l0 : List S53) (r : Bool) (w : World) (hr0 : Kd.C k53 w A0 l0.length l0) (hc0 : l0.length ≤ c0) (h : audit_Kept.f k l0 = some r) :
    Calls Try.prog 16 #[.slice A0 l0.length c0] w fun e w' => e = .returned (.bool r) ∧ Below w.heap.size w w' := by
  obtain ⟨n, hn, h⟩ := Option.bind_eq_some_iff.mp h
  obtain rfl := Option.some.inj h
  have IX := Aside0.mk (audit_Kept.contains k A0 c0 l0 n w hr0 hc0 hn)
  clear hr0 hc0 hn h
  go_enter Try.func16, Try.ntmps16
  go_wp2_with (go_at_call 26; refine IX.out.mono ?_; rintro e w1 ⟨rfl, hb⟩; have HB := Aside0.mk hb; clear hb)
  go_ret
  exact ⟨by first | rfl | simp, HB.out⟩
end Go.Proofs.Ytahdadmibmgpmaa.PAll
