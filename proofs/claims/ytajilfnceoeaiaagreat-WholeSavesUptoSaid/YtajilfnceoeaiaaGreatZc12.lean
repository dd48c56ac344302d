/- Parts of the proof: What the smallest kernel answers: the function. boot, none, Scripts; laws' loops over them, A CPU that was never let sleep never does. Plain, Switches: no more than jobs came and ended; each leads to another level; each cycle runs at the level that was chosen last. Plain, Whenever a device is on, it has cost no more than if it had never been away. Plain, WholeSaves: the function returns true, How . -/
import Derived.Test.YtajilfnceoeaiaaGreatZc11
import Derived.Deep.Slices
import Derived.SizedLaws
import Derived.ChangeArms
import Derived.Test.YtajilfnceoeaiaaGreatRows
import Derived.WalkKit
set_option linter.unusedVariables false
set_option linter.unusedSimpArgs false
/- What the smallest kernel answers: the function. boot, none. -/
namespace Go.Proofs.YtajilfnceoeaiaaGreat.V
open Go Go.RowKit Enc
set_option maxRecDepth 100000
theorem eqEvent (a b c d a' b' c' d' : Int) (w : World) : (do eqGuard .eql 45 (.tmp 62) (.tmp 63) (.agg #[.int .i64 a, .int .i64 b, .int .i64 c, .int .i64 d]) (.agg #[.int .i64 a', .int .i64 b', .int .i64 c', .int .i64 d']); binOp .eql 45 (.agg #[.int .i64 a, .int .i64 b, .int .i64 c, .int .i64 d]) (.agg #[.int .i64 a', .int .i64 b', .int .i64 c', .int .i64 d']) : Sem Value).run P w = .ok (.bool (a == a' && b == b' && c == c' && d == d')) w := by
  have hf : (P.fieldsOf 45).toList = [⟨"Kind", 3, 0, false, "", "", 0⟩, ⟨"Task", 3, 1, false, "", "", 8⟩, ⟨"At", 3, 2, false, "", "", 16⟩, ⟨"Due", 3, 3, false, "", "", 24⟩] := by kernel_rfl
  have hu : P.underlying 45 = some (.struct (P.fieldsOf 45)) := by kernel_rfl
  have hi : P.underlying 3 = some (.int .i64) := by kernel_rfl
  rw [Sem.run_bind, run_eqGuard_agg w .eql 45 _ _ _ _ (by kernel_rfl), Result.andThen_ok, run_eql_struct, run_equalIn_agg w 9999 45 _ _ hu (by kernel_rfl), hf]
  have p0 : ∀ x y z u : Int, (Go.part 3 #[.int .i64 x, .int .i64 y, .int .i64 z, .int .i64 u] 0).run P w = .ok (.int .i64 x) w := fun x y z u => rfl
  have p1 : ∀ x y z u : Int, (Go.part 3 #[.int .i64 x, .int .i64 y, .int .i64 z, .int .i64 u] 1).run P w = .ok (.int .i64 y) w := fun x y z u => rfl
  have p2 : ∀ x y z u : Int, (Go.part 3 #[.int .i64 x, .int .i64 y, .int .i64 z, .int .i64 u] 2).run P w = .ok (.int .i64 z) w := fun x y z u => rfl
  have p3 : ∀ x y z u : Int, (Go.part 3 #[.int .i64 x, .int .i64 y, .int .i64 z, .int .i64 u] 3).run P w = .ok (.int .i64 u) w := fun x y z u => rfl
  have he : ∀ x y : Int, (Op.equalIn 9999 3 (.int .i64 x) (.int .i64 y)).run P w = .ok (x == y) w := fun x y => run_equalIn_int w 9998 3 .i64 .i64 x y hi
  unfold Op.eqFields Op.eqFields Op.eqFields Op.eqFields Op.eqFields
  simp only [ne_eq, show ("Kind" : String) ≠ "_" from by decide, show ("Task" : String) ≠ "_" from by decide, show ("At" : String) ≠ "_" from by decide, show ("Due" : String) ≠ "_" from by decide, not_false_eq_true, if_true, Sem.run_bind, p0, p1, p2, p3, Result.andThen_ok, he, Sem.run_ite, Sem.run_pure]
  by_cases h0 : a = a' <;> by_cases h1 : b = b' <;> by_cases h2 : c = c' <;> by_cases h3 : d = d' <;> simp [h0, h1, h2, h3]
theorem s0_inv {m : Mach} (t : Tab m) : KInv m 0 20000000 (s0 m) := by
  have hc := t.mok.crit
  have hb : baseW (s0 m) = 0 := rfl
  refine ⟨⟨⟨hc, by simp [s0], by simp [s0], by simp [s0], by simp [s0], by simp [s0], fun x hx => ?_, fun x hx => (by cases hx), by simp [s0], ⟨Int.le_refl _, hc.lo⟩, by simp [s0], by simp [s0]⟩, by simp [s0]⟩, t.mok, fun k x hk => (by cases hk), fun x hx => (by cases hx), fun h => (by cases h), fun k x hk => (by cases hk), fun k x hk => (by cases hk), ⟨Int.le_refl _, by simp [s0]⟩, ⟨Int.le_refl _, by simp [s0]⟩, rfl, fun x hx => ?_, ⟨by simp [s0], fun x hx => (by cases hx)⟩, Nat.le_refl _, ?_, ?_, by decide, by decide⟩
  · rw [List.eq_of_mem_replicate hx]; exact Int.le_refl _
  · rw [List.eq_of_mem_replicate hx]; exact ⟨Nat.zero_le _, Nat.zero_le _, fun h => absurd rfl h⟩
  · show 0 + psi m (s0 m) ≤ 20000000
    rw [psi_awake rfl, hb]
    show 0 + ((17000 - 0 : Int).toNat * 1000 + (0 + 1)) ≤ 20000000
    decide
  · exact Nat.zero_le _
section
variable {o o' : Own} {w w' : World} {m : Mach}
def mLeast (p : Plat) : Mach := ⟨p, [⟨1, 2⟩], [], []⟩
theorem leastTab (p : Plat) (h1 : p.idle = 0) (h2 : p.crit = 0) (h3 : p.switch = 0) (h4 : p.switchE = 0) (h5 : p.sems = 0) (h6 : p.horizon = 50) (_ : True = True) : Tab (mLeast p) := by
  refine ⟨Nat.le_refl 1, (by decide : 1 ≤ 4), (by decide : 0 ≤ 3), (by decide : 0 ≤ 3), ?_, ?_, ?_, ?_, ?_, ?_, fun i x hx => ?_, fun i x y hy hx => ?_, fun i x y hc hy hx => ?_, fun i x hx => (by cases hx), fun i x hx => (by cases hx)⟩
  · show 0 ≤ p.idle ∧ p.idle ≤ 65536
    omega
  · show 0 ≤ p.crit ∧ p.crit < 1
    omega
  · show 0 ≤ p.switch ∧ p.switch ≤ 256
    omega
  · show 0 ≤ p.switchE ∧ p.switchE ≤ 65536
    omega
  · show 0 ≤ p.sems ∧ p.sems ≤ 3
    omega
  · show 1 ≤ p.horizon ∧ p.horizon ≤ 16384
    omega
  · cases i with
    | zero => cases hx; decide
    | succ i => cases hx
  · cases hx
  · cases hx
theorem taskNil (o : Own) (w : World) (a b : Int) : TaskR o w ⟨⟨a, b, ⟨none, 0, 0⟩, ⟨none, 0, 0⟩⟩, [], []⟩ := ⟨RL.nil rfl, RL.nil rfl⟩
theorem answers_spec (o : Own) (w : World) : Call P 15 [] [sB] (fun b w' => b = true ∧ ∃ o', Up kl o w o' w') w := by
  refine f15_of (New_blk o 0 fun b1 o1 w1 k1 u1 _ => ?_)
  have hmL : RL o1 w1 0 ⟨some ⟨b1, 0, none⟩, 1, 1⟩ [(⟨1, 2⟩ : Level)] := k1.rd1 rfl
  let p : Plat := ⟨⟨some ⟨b1, 0, none⟩, 1, 1⟩, ⟨none, 0, 0⟩, ⟨none, 0, 0⟩, 0, 0, 0, 0, 0, 50⟩
  have hm : MachR o1 w1 (mLeast p) := ⟨hmL, RL.nil rfl, RL.nil rfl⟩
  have ht : Tab (mLeast p) := leastTab _ rfl rfl rfl rfl rfl rfl rfl
  have hn := new_spec hm ht
  refine hn.imp2 ?_
  rintro pk e w2 ⟨rfl, a, q, x, y, z, o2, rfl, h, u2⟩
  have hl : Least (pl (mLeast p) x y z) := ⟨rfl, rfl, rfl, rfl, rfl, rfl, rfl, rfl, rfl⟩
  have ht' : Tab (pl (mLeast p) x y z) := ⟨ht.l1, ht.l4, ht.s3, ht.d3, ht.idle, ht.crit, ht.sw, ht.swE, ht.sems, ht.hor, ht.lev, ht.inc, ht.eff, ht.slp, ht.dev⟩
  have iv := s0_inv ht'
  generalize pl (mLeast p) x y z = m at h hl ht' iv
  refine If_f (If_f ?_)
  have hd := do_spec h iv (by decide) (by decide) (x1 ⟨10, 2, ⟨none, 0, 0⟩, ⟨none, 0, 0⟩⟩) (taskNil _ _ _ _)
  refine hd.imp2 ?_
  rintro (n : Int) (e1 : Int) w3 ⟨s1, d1, iv1, q1, o3, h1, u3⟩
  obtain ⟨rfl, a1⟩ := ans1 hl ⟨rfl, rfl, rfl, rfl, rfl, rfl, rfl, rfl, rfl, rfl, rfl, rfl, rfl, rfl, rfl⟩ ⟨rfl, rfl⟩ d1
  have hd := do_spec h1 iv1 (by decide) (by decide) (x2 ⟨0, 0, ⟨none, 0, 0⟩, ⟨none, 0, 0⟩⟩) (taskNil _ _ _ _)
  refine hd.imp2 ?_
  rintro (n : Int) (e2 : Int) w4 ⟨s2, d2, iv2, q2, o4, h2, u4⟩
  obtain ⟨rfl, a2⟩ := ans2 a1 hl d2
  have hd := do_spec h2 iv2 (by decide) (by decide) (x3 ⟨0, 0, ⟨none, 0, 0⟩, ⟨none, 0, 0⟩⟩) (taskNil _ _ _ _)
  refine hd.imp2 ?_
  rintro (n : Int) (e3 : Int) w5 ⟨s3, d3, iv3, q3, o5, h3, u5⟩
  obtain ⟨rfl, g1, g2, g3⟩ := ans3 hl a2 d3
  have he := events_spec h3 iv3.events
  refine he.imp1 ?_
  rintro se w6 ⟨o6, r6, u6⟩
  have h3 := h3.upno u6
  have U : Up kl o w o6 w6 := ((((u1.trans u2).of_no.trans u3).trans u4).trans u5).trans u6.of_no
  rw [g3] at r6
  have hn6 := r6.n
  have hn2 : se.n = 2 := hn6
  refine If_t (If_t (If_t ?_))
  refine If_eq (fun _ => ?_) fun h => absurd (by rw [hn2]; rfl) h
  refine r6.event (i := 1) (k := 1) (x := ⟨2, 0, 2, 10⟩) rfl rfl ?_
  refine ⟨w6, _, eqEvent _ _ _ _ _ _ _ _ _, If_t ?_⟩
  have hme := meter_spec h3
  refine hme.impI4 ?_
  rintro n1 n2 n3 n4 w7 ⟨em, u7⟩
  have hr : n1 = 4 := by
    have := congrArg Meter.run em
    rw [g2] at this
    exact this
  refine If_eq (fun _ => ?_) fun h => absurd hr h
  have hno := now_spec (h3.below u7)
  refine hno.imp1 ?_
  rintro r w8 ⟨rfl, rfl⟩
  rw [g1]
  exact ⟨rfl, o6, U.trans (Up.of_below u7)⟩
theorem answers_below (w : World) : Call P 15 [] [sB] (fun b w' => b = true ∧ Below w.heap.size w w') w := by
  have ha := answers_spec (still w) w
  refine ha.imp1 ?_
  rintro b w1 ⟨rfl, o1, u1⟩
  exact ⟨rfl, u1.quiet (by decide)⟩
/-- A new kernel of a machine that may be; else none. -/
theorem boot_spec (h : MachR o w m) : Call P 11 [m.p.v] [sP] (fun p w' => (Tab m ∧ ∃ a q x y z o', p = some ⟨a, 0, none⟩ ∧ KRep o' w' (pl m x y z) a q (s0 (pl m x y z)) ∧ Up no o w o' w') ∨ (¬ Tab m ∧ p = none ∧ Below w.heap.size w w')) w := by
  refine f11_of _ (New_of fun b1 w1 c1 u1 => c1.ldPlat (x := m.p) ?_)
  have h := h.below u1
  have ht := table_spec h
  refine ht.imp1 ?_
  rintro b w2 ⟨u2, hb⟩
  refine If_not (If_b (fun e => ?_) fun e => ?_)
  · have t := hb.1 e
    have h := h.below u2
    refine (c1.below u2).ldPlat (x := m.p) ?_
    have hn := new_spec h t
    refine hn.imp2 ?_
    rintro pk e w3 ⟨rfl, a, q, x, y, z, o2, rfl, hk, u3⟩
    exact If_f (.inl ⟨t, a, q, x, y, z, o2, rfl, hk, (Up.of_below (u1.on u2)).trans u3⟩)
  · exact .inr ⟨fun t => (by rw [hb.2 t] at e; cases e), rfl, u1.on u2⟩
theorem none_spec (h : MachR o w m) (ht : ¬ Tab m) : Call P 12 [m.p.v] [sB] (fun b w' => b = true ∧ ∃ o', Up kl o w o' w') w := by
  refine f12_of _ (New_blk o 0 fun b1 o1 w1 k1 u1 _ => ?_)
  have h := h.up u1 rfl
  have ha := answers_spec o1 w1
  refine ha.imp1 ?_
  rintro b w2 ⟨rfl, o2, u2⟩
  have h := h.up u2 (by decide)
  have k1 := k1.up u2 (by decide)
  refine If_t (k1.bx.ldPlat (x := m.p) ?_)
  have hb := table_spec h
  refine hb.imp1 ?_
  rintro b w3 ⟨u3, hb⟩
  refine ⟨?_, o2, (u1.of_no.trans u2).trans (Up.of_below u3)⟩
  cases b with
  | false => rfl
  | true => exact absurd (hb.1 rfl) ht
end
end Go.Proofs.YtajilfnceoeaiaaGreat.V
/- Scripts; laws' loops over them. -/
namespace Go.Proofs.YtajilfnceoeaiaaGreat.V
open Go Go.RowKit Enc
set_option maxRecDepth 100000
instance : Enc Step := ⟨Step.l, 8, fun _ => rfl, by decide⟩
/-- A script, in memory. -/
structure StepsR (o : Own) (w : World) (s : Sl) (l : List ASt) : Prop where
  rl : RL o w 0 s (l.map ASt.st)
  each : ∀ x ∈ l, TaskR o w x.t
section
variable {o o' : Own} {w w' : World} {m : Mach} {s : Sl} {l : List ASt} {C : Nat → Bool}
theorem StepsR.up (h : StepsR o w s l) (u : Up C o w o' w') (hC : C 0 = false) : StepsR o' w' s l := ⟨h.rl.up u hC, fun x hx => (h.each x hx).up u hC⟩
theorem StepsR.n (h : StepsR o w s l) : s.n = l.length := by
  have := h.rl.n
  rwa [List.length_map] at this
theorem StepsR.step (h : StepsR o w s l) {i : Int} {k : Nat} {x : ASt} (hi : i = (k : Int)) (hx : l[k]? = some x) {K : Int → Int → Int → Int → Int → Int → Sl → Sl → World → Prop} (hk : K x.st.kind x.st.a x.st.b x.st.c x.st.period x.st.cycles x.st.sec x.st.devs w) :
    ((0 : Int) ≤ i ∧ i < ((s.n : Nat) : Int)) ∧ WithAddr s.a fun a => LdN shStep.cs 0 (a.add (Int.toNat i * 8)) K w :=
  h.rl.ldN hi (x := x.st) (by rw [List.getElem?_map, hx]; rfl) (cs := shStep.cs) (K := K) rfl hk
def kz : Nat → Bool := fun d => kl d
def budB (k : Nat) : Nat := 20000000 + 70000 * k
/-- Behind so many steps of a script. -/
structure LawS (o : Own) (w : World) (m : Mach) (a : Nat) (k : Nat) (o' : Own) (w' : World) (q : KPtr) (s : KS) : Prop where
  h : KRep o' w' m a q s
  iv : KInv m k (budB k) s
  U : Up kl o w o' w'
theorem LawS.doo {o1 : Own} {w1 : World} {a k : Nat} {q : KPtr} {s : KS} (L : LawS o w m a k o1 w1 q s) (hk : k < 1100000) (x : ASt) (hx : TaskR o1 w1 x.t) :
    Call P 13 [vP a, x.st.v] [sI, sI] (fun n e w' => ∃ s', DoR m s x n e s' ∧ ∃ q' o', LawS o w m a (k + 1) o' w' q' s' ∧ Up kl o1 w1 o' w') w1 := by
  have hd := do_spec L.h L.iv (by omega) (by unfold budB bigN; omega) x hx
  refine hd.imp2 ?_
  rintro n e w2 ⟨s', d, iv, q', o', h', u'⟩
  refine ⟨s', d, q', o', ⟨h', ?_, L.U.trans u'⟩, u'⟩
  have : budB (k + 1) = budB k + 70000 := by unfold budB; omega
  rw [this]
  exact iv
theorem LawS.below {o1 : Own} {w1 w2 : World} {a k : Nat} {q : KPtr} {s : KS} (L : LawS o w m a k o1 w1 q s) (u : Below w1.heap.size w1 w2) : LawS o w m a k o1 w2 q s := ⟨L.h.below u, L.iv, L.U.trans (Up.of_below u)⟩
theorem LawS.upno {o1 o2 : Own} {w1 w2 : World} {a k : Nat} {q : KPtr} {s : KS} (L : LawS o w m a k o1 w1 q s) (u : Up no o1 w1 o2 w2) : LawS o w m a k o2 w2 q s := ⟨L.h.upno u, L.iv, L.U.trans u.of_no⟩
theorem LawS.skip {o1 : Own} {w1 : World} {a k : Nat} {q : KPtr} {s : KS} (L : LawS o w m a k o1 w1 q s) (hk : k < 1100000) : LawS o w m a (k + 1) o1 w1 q s := ⟨L.h, L.iv.mono (by omega) (by unfold budB; omega) (by omega) (by unfold budB bigN; omega), L.U⟩
theorem Tab.pl (t : Tab m) (x y z : Sl) : Tab (pl m x y z) := ⟨t.l1, t.l4, t.s3, t.d3, t.idle, t.crit, t.sw, t.swE, t.sems, t.hor, t.lev, t.inc, t.eff, t.slp, t.dev⟩
theorem kl0 : kl 0 = false := by decide
theorem boot_law (h : MachR o w m) : Call P 11 [m.p.v] [sP] (fun p w' => (Tab m ∧ ∃ a q x y z o', p = some ⟨a, 0, none⟩ ∧ LawS o w (V.pl m x y z) a 0 o' w' q (s0 (V.pl m x y z))) ∨ (¬ Tab m ∧ p = none ∧ Below w.heap.size w w')) w := by
  have hb := boot_spec h
  refine hb.imp1 ?_
  rintro p w' (⟨t, a, q, x, y, z, o', rfl, hk, u⟩ | hn)
  · exact .inl ⟨t, a, q, x, y, z, o', rfl, hk, s0_inv (t.pl x y z), u.of_no⟩
  · exact .inr hn
end
end Go.Proofs.YtajilfnceoeaiaaGreat.V
/- A CPU that was never let sleep never does. Plain. -/
namespace Go.Proofs.YtajilfnceoeaiaaGreat.V
open Go Go.RowKit Enc
set_option maxRecDepth 100000
/-- Awake, and it always was. -/
structure Awk (s : KS) : Prop where
  naps : s.naps = false
  asleep : s.asleep = false
  trace : ∀ x ∈ s.trace, x.kind ≠ 4 ∧ x.kind ≠ 5 ∧ x.kind ≠ 6
  sleep : s.meter.sleep = 0
theorem Star.keep {R : KS → KS → Prop} {I : KS → Prop} (h : ∀ s s', R s s' → I s → I s') {s s' : KS} (hs : Star R s s') : I s → I s' := by
  intro hi
  induction hs with
  | refl => exact hi
  | tail _ h2 ih => exact h _ _ h2 ih
theorem addZ_mem {L : List Interval} {i x : Interval} (h : x ∈ addZ L i) : x ∈ L ∨ x.kind = i.kind ∧ x.arg = i.arg ∧ x.task = i.task := by
  unfold addZ at h
  split at h
  · split at h
    · rename_i y hy hj
      rcases List.mem_append.1 h with h | h
      · exact .inl ((List.dropLast_sublist L).subset h)
      · refine .inr ?_
        rw [List.mem_singleton.1 h]
        unfold joinZ
        rw [if_pos hj]
        exact ⟨hj.2.1, hj.2.2.1, hj.2.2.2.1⟩
    · rcases List.mem_append.1 h with h | h
      · exact .inl h
      · rw [List.mem_singleton.1 h]; exact .inr ⟨rfl, rfl, rfl⟩
  · rw [List.mem_singleton.1 h]; exact .inr ⟨rfl, rfl, rfl⟩
theorem addM_sleep (m : Mach) (x : Meter) (i : Interval) (h : i.kind ≠ 4 ∧ i.kind ≠ 5 ∧ i.kind ≠ 6) : (addM m x i).sleep = x.sleep := by
  unfold addM
  split
  · rfl
  · split
    · rfl
    · split
      · rfl
      · split
        · omega
        · rfl
section
variable {m : Mach} {s s' : KS}
theorem Awk.did (h : Awk s) (kind len arg task cyc : Int) (hk : kind ≠ 4 ∧ kind ≠ 5 ∧ kind ≠ 6) : Awk (didZ m s kind len arg task cyc) := by
  refine ⟨h.naps, h.asleep, fun x hx => ?_, ?_⟩
  · rcases addZ_mem hx with hx | ⟨hx, _⟩
    · exact h.trace x hx
    · rw [hx]; exact hk
  · show (addM m s.meter _).sleep = 0
    rw [addM_sleep m s.meter _ hk]
    exact h.sleep
theorem Awk.endZ (h : Awk s) (kind : Int) (j : Job) : Awk (endZ s kind j) := ⟨h.naps, h.asleep, h.trace, h.sleep⟩
theorem Awk.startZ (h : Awk s) (j : Job) : Awk (startZ s j) := by
  unfold V.startZ
  split
  · exact ⟨h.naps, h.asleep, h.trace, h.sleep⟩
  · exact ⟨h.naps, h.asleep, h.trace, h.sleep⟩
theorem Awk.runsTail (h : Awk s) (n : Int) (j : Job) : Awk (runsTailZ m s n j) := by
  have hd := h.did (m := m) 1 (lvlP m s.level) s.level n 1 (by decide)
  unfold runsTailZ
  dsimp only
  split
  · have h2 : Awk { didZ m s 1 (lvlP m s.level) s.level n 1 with held := (didZ m s 1 (lvlP m s.level) s.level n 1).held.map (spendZ n) } := ⟨hd.naps, hd.asleep, hd.trace, hd.sleep⟩
    exact h2.endZ _ _
  · exact ⟨hd.naps, hd.asleep, hd.trace, hd.sleep⟩
theorem Awk.runs (h : Awk s) {n : Int} (hr : RunsR m s n s') : Awk s' := by
  unfold RunsR at hr
  dsimp only at hr
  split at hr
  · rw [hr]; exact h.endZ _ _
  · split at hr
    · obtain ⟨b, s1, hch, hb⟩ := hr
      obtain ⟨lv, _, _, _, hz⟩ := chooseR_start hch
      rcases hz with ⟨_, rfl, rfl⟩ | ⟨_, rfl, rfl⟩
      · rw [if_neg (by decide)] at hb
        rw [hb]
        exact (h.startZ _).runsTail _ _
      · rw [if_pos rfl] at hb
        rw [hb]
        have hs := h.startZ ((s.jobs n).getD noJob)
        have h2 : Awk { V.startZ s ((s.jobs n).getD noJob) with level := lv } := ⟨hs.naps, hs.asleep, hs.trace, hs.sleep⟩
        exact h2.did 3 _ _ _ _ (by decide)
    · rw [hr]; exact h.runsTail _ _
theorem Awk.step (h : Awk s) (hr : StepR m s s') : Awk s' := by
  unfold StepR at hr
  rw [h.asleep, if_neg (by decide)] at hr
  obtain ⟨n, ok, L, _, _, _, hr⟩ := hr
  split at hr
  · exact h.runs hr
  · rcases hr with rfl | ⟨hn, _⟩
    · have h2 : Awk { s with ended := false } := ⟨h.naps, h.asleep, h.trace, h.sleep⟩
      exact h2.did 2 _ _ _ _ (by decide)
    · rw [h.naps] at hn; cases hn
theorem Awk.rel (h : Awk s) (hr : RelOne s s') : Awk s' := by
  obtain ⟨n, at_, cyc, t, _, _, _, _, rfl⟩ := hr
  exact ⟨h.naps, h.asleep, h.trace, h.sleep⟩
theorem Awk.exp (h : Awk s) (hr : ExpOne s s') : Awk s' := by
  obtain ⟨n, at_, cyc, _, _, _, rfl⟩ := hr
  exact ⟨h.naps, h.asleep, h.trace, h.sleep⟩
theorem Awk.bound (h : Awk s) (hr : BoundR m s s') : Awk s' := by
  obtain ⟨s1, s2, h1, _, h2, _, D, X, rfl, _⟩ := hr
  have i1 := Star.keep (I := Awk) (fun _ _ r i => i.rel r) h1 h
  have i2 := Star.keep (I := Awk) (fun _ _ r i => i.exp r) h2 i1
  exact ⟨i2.naps, i2.asleep, i2.trace, i2.sleep⟩
theorem Awk.one (h : Awk s) {x : ASt} {n e : Int} (hx : x.kind ≠ 7 ∨ x.b ≠ 1) (hr : OneR m s x n e s') : Awk s' := by
  rcases hr with ⟨_, hr⟩ | ⟨_, _, hr⟩ | ⟨_, _, hr⟩ | ⟨_, _, hr⟩ | ⟨_, _, hr⟩ | ⟨hk, _, hr⟩ | ⟨_, _, hr⟩ | ⟨_, _, _, rfl⟩
  · rcases hr with ⟨_, _, _, rfl⟩ | ⟨_, ⟨_, _, _, rfl⟩ | ⟨_, ⟨_, _, _, rfl⟩ | ⟨_, ⟨_, _, _, rfl⟩ | ⟨_, _, i, y, z, r, s1, _, _, _, _, ⟨D, rfl, _⟩, _, _, _, _, rfl⟩⟩⟩⟩
    · exact h
    · exact h
    · exact h
    · exact h
    · exact ⟨h.naps, h.asleep, h.trace, h.sleep⟩
  · rcases hr with ⟨rfl, _⟩ | ⟨_, _, _, _, _, rfl⟩
    · exact h
    · exact ⟨h.naps, h.asleep, h.trace, h.sleep⟩
  · rcases hr with ⟨_, rfl⟩ | ⟨_, _, _, _, _, _, _, _, rfl⟩
    · exact h
    · exact ⟨h.naps, h.asleep, h.trace, h.sleep⟩
  · rcases hr with ⟨_, _, rfl⟩ | ⟨_, _, _, hs, _⟩
    · exact h
    · refine Star.keep (I := Awk) (fun _ _ r i => ?_) hs h
      obtain ⟨_, s1, h1, h2⟩ := r
      exact (i.step h1).bound h2
  · rcases hr with ⟨rfl, _⟩ | ⟨_, n, L, _, _, _, _, t, _, _, _, hr⟩
    · exact h
    · rcases hr with ⟨_, i, _, rfl⟩ | ⟨_, _, c, _, rfl⟩
      · exact ⟨h.naps, h.asleep, h.trace, h.sleep⟩
      · exact ⟨h.naps, h.asleep, h.trace, h.sleep⟩
  · rcases hr with ⟨_, _, rfl⟩ | ⟨_, _, _, h0, h1, rfl⟩
    · exact h
    · refine ⟨?_, h.asleep, h.trace, h.sleep⟩
      have : x.b ≠ 1 := hx.resolve_left (fun h => h hk)
      simpa using this
  · unfold TimerR at hr
    split at hr
    · rcases hr with ⟨_, _, rfl⟩ | ⟨_, _, rfl⟩
      · exact ⟨h.naps, h.asleep, h.trace, h.sleep⟩
      · exact h
    · rcases hr with ⟨_, _, rfl⟩ | ⟨_, _, _, _, _, _, _, rfl⟩
      · exact h
      · exact ⟨h.naps, h.asleep, h.trace, h.sleep⟩
  · exact h
theorem Awk.doR (h : Awk s) {x : ASt} {n e : Int} (hx : x.kind ≠ 7 ∨ x.b ≠ 1) (hr : DoR m s x n e s') : Awk s' := by
  rcases hr with ⟨_, _, _, rfl⟩ | ⟨_, ⟨_, _, rfl⟩ | ⟨_, s1, h1, h2⟩⟩
  · exact h
  · exact h
  · exact (h.one hx h1).bound h2
end
end Go.Proofs.YtajilfnceoeaiaaGreat.V
/- Switches: no more than jobs came and ended; each leads to another level; each cycle runs at the level that was chosen last. Plain. -/
namespace Go.Proofs.YtajilfnceoeaiaaGreat.V
open Go Go.RowKit Enc
set_option maxRecDepth 100000
/-- The level, how many switches, and whether all is right so far. -/
structure Sw where
  lv : Int
  n : Nat
  ok : Bool
def swOne (crit : Int) (x : Sw) (i : Interval) : Sw :=
  if i.kind = 1 then ⟨x.lv, x.n, x.ok && (i.arg == x.lv)⟩ else if i.kind = 3 then ⟨i.arg, x.n + 1, x.ok && (!(i.arg == x.lv) && (decide (0 ≤ i.arg) && decide (i.arg ≤ crit)))⟩ else x
def swAll (crit : Int) (L : List Interval) : Sw := L.foldl (swOne crit) ⟨0, 0, true⟩
theorem swAll_snoc (crit : Int) (L : List Interval) (i : Interval) : swAll crit (L ++ [i]) = swOne crit (swAll crit L) i := by
  unfold swAll
  rw [List.foldl_append]
  rfl
theorem swOne_same (crit : Int) (x : Sw) (i j : Interval) (hk : i.kind = j.kind) (ha : i.arg = j.arg) : swOne crit x i = swOne crit x j := by
  unfold swOne
  rw [hk, ha]
theorem swOne_twice (crit : Int) (x : Sw) (i : Interval) (hk : i.kind = 1 ∨ i.kind = 2 ∨ i.kind = 5) : swOne crit (swOne crit x i) i = swOne crit x i := by
  unfold swOne
  by_cases h : i.kind = 1
  · simp only [if_pos h]
    cases x.ok <;> simp
  · have h3 : i.kind ≠ 3 := by omega
    simp only [if_neg h, if_neg h3]
theorem swAll_addZ (crit : Int) (L : List Interval) (i : Interval) : swAll crit (addZ L i) = swOne crit (swAll crit L) i := by
  unfold addZ
  split
  · rename_i y hy
    split
    · rename_i hj
      obtain ⟨Z, rfl⟩ := List.getLast?_eq_some_iff.1 hy
      rw [List.dropLast_concat, swAll_snoc, swAll_snoc]
      have h1 : swOne crit (swAll crit Z) (joinZ y i) = swOne crit (swAll crit Z) y := by
        refine swOne_same crit _ _ _ ?_ ?_
        · unfold joinZ; rw [if_pos hj]
        · unfold joinZ; rw [if_pos hj]
      have h2 : swOne crit (swOne crit (swAll crit Z) y) i = swOne crit (swOne crit (swAll crit Z) y) y := swOne_same crit _ _ _ hj.2.1.symm hj.2.2.1.symm
      rw [h1, h2, swOne_twice crit _ y hj.1]
    · exact swAll_snoc crit L i
  · rename_i h
    have : L = [] := by
      cases L with
      | nil => rfl
      | cons a l => simp at h
    subst this
    exact swAll_snoc crit [] i
/-- Events that may bring a switch. -/
def nonExp (E : List Event) : Nat := (E.filter fun e => e.kind != 4).length
theorem nonExp_snoc (E : List Event) (e : Event) : nonExp (E ++ [e]) = nonExp E + (if e.kind = 4 then 0 else 1) := by
  unfold nonExp
  rw [List.filter_append, List.length_append]
  congr 1
  by_cases h : e.kind = 4 <;> simp [h]
/-- What holds of switches. -/
structure SwI (m : Mach) (s : KS) : Prop where
  lv : (swAll m.p.crit s.trace).lv = s.level
  ok : (swAll m.p.crit s.trace).ok = true
  n : (swAll m.p.crit s.trace).n + wsum unW s.jobs + (if s.ended then 1 else 0) ≤ nonExp s.events
section
variable {m : Mach} {A B : Nat} {s s' : KS}
theorem SwI.did (h : SwI m s) (kind len arg task cyc : Int) (hk : kind ≠ 3) (ha : kind = 1 → arg = s.level) : SwI m (didZ m s kind len arg task cyc) := by
  have e : swAll m.p.crit (didZ m s kind len arg task cyc).trace = swAll m.p.crit s.trace := by
    show swAll m.p.crit (addZ s.trace _) = _
    rw [swAll_addZ]
    unfold swOne
    dsimp only
    split
    · rename_i h1
      rw [ha h1, h.lv, beq_self_eq_true, Bool.and_true]
      rw [← h.lv]
    · rfl
  refine ⟨by rw [e]; exact h.lv, by rw [e]; exact h.ok, ?_⟩
  rw [e]
  exact h.n
theorem SwI.endZ (h : SwI m s) (kind : Int) (hk : kind ≠ 4) (j : Job) : SwI m (endZ s kind j) := by
  refine ⟨h.lv, h.ok, ?_⟩
  have h1 := wsum_upd_le unW s.jobs j.task none
  have e0 : ow unW (none : Option Job) = 0 := rfl
  have hn := h.n
  show (swAll m.p.crit s.trace).n + wsum unW (upd s.jobs j.task none) + (if true = true then 1 else 0) ≤ nonExp (s.events ++ [⟨kind, j.task, s.now, j.deadline⟩])
  rw [nonExp_snoc, if_pos rfl, if_neg hk]
  omega
theorem SwI.startZ (iv : KInv m A B s) (h : SwI m s) {j : Job} (hj : s.jobs j.task = some j) (hc : j.started = false ∨ s.ended = true) : SwI m (startZ s j) ∧ (swAll m.p.crit (startZ s j).trace).n + 1 + wsum unW (startZ s j).jobs + (if (startZ s j).ended then 1 else 0) ≤ nonExp (startZ s j).events := by
  obtain ⟨_, h0, h6⟩ := iv.jobs _ _ hj
  have hn := h.n
  have key : (swAll m.p.crit (V.startZ s j).trace).n + 1 + wsum unW (V.startZ s j).jobs + (if (V.startZ s j).ended then 1 else 0) ≤ nonExp (V.startZ s j).events := by
    unfold V.startZ
    by_cases hs : j.started = true
    · rw [if_pos hs]
      have he : s.ended = true := hc.resolve_left (by rw [hs]; decide)
      rw [he] at hn
      show (swAll m.p.crit s.trace).n + 1 + wsum unW s.jobs + (if false = true then 1 else 0) ≤ nonExp s.events
      rw [if_pos rfl] at hn
      rw [if_neg (by decide)]
      omega
    · rw [if_neg hs]
      have w2 := wsum_upd unW s.jobs h0 (by omega) (some { j with started := true })
      rw [hj] at w2
      have e3 : ow unW (some j) = 1 := by show unW j = 1; rw [unW, if_neg hs]
      have e6 : ow unW (some ({ j with started := true } : Job)) = 0 := rfl
      show (swAll m.p.crit s.trace).n + 1 + wsum unW (upd s.jobs j.task (some { j with started := true })) + (if false = true then 1 else 0) ≤ nonExp s.events
      rw [if_neg (by decide)]
      split at hn <;> omega
  refine ⟨⟨?_, ?_, by omega⟩, key⟩
  · unfold V.startZ; split <;> exact h.lv
  · unfold V.startZ; split <;> exact h.ok
theorem SwI.runsTail (h : SwI m s) (iv : KInv m A B s) (n : Int) {j : Job} (hj : s.jobs j.task = some j) : SwI m (runsTailZ m s n j) := by
  have hd := h.did 1 (lvlP m s.level) s.level n 1 (by decide) (fun _ => rfl)
  obtain ⟨_, h0, h6⟩ := iv.jobs _ _ hj
  unfold runsTailZ
  dsimp only
  split
  · have h2 : SwI m { didZ m s 1 (lvlP m s.level) s.level n 1 with held := (didZ m s 1 (lvlP m s.level) s.level n 1).held.map (spendZ n) } := ⟨hd.lv, hd.ok, hd.n⟩
    refine h2.endZ _ ?_ _
    unfold jobHow
    split
    · decide
    · split <;> decide
  · refine ⟨hd.lv, hd.ok, ?_⟩
    have w2 := wsum_upd unW s.jobs h0 (by omega) (some (jobStep j))
    rw [hj] at w2
    have e2 : ow unW (some (jobStep j)) = ow unW (some j) := rfl
    have hn := hd.n
    have hn : (swAll m.p.crit (didZ m s 1 (lvlP m s.level) s.level n 1).trace).n + wsum unW s.jobs + (if s.ended then 1 else 0) ≤ nonExp s.events := hn
    show (swAll m.p.crit (didZ m s 1 (lvlP m s.level) s.level n 1).trace).n + wsum unW (upd s.jobs j.task (some (jobStep j))) + (if s.ended then 1 else 0) ≤ nonExp s.events
    omega
theorem SwI.runs (h : SwI m s) (iv : KInv m A B s) (hn : s.now < 16384) (ha : s.asleep = false) {n : Int} {j : Job} (hj : s.jobs n = some j) (hr : RunsR m s n s') : SwI m s' := by
  have hjt := (iv.jobs n j hj).1
  subst hjt
  unfold RunsR at hr
  rw [hj] at hr
  simp only [Option.getD_some] at hr
  split at hr
  · rw [hr]; exact h.endZ 3 (by decide) _
  · split at hr
    · rename_i hc
      obtain ⟨b, s1, hch, hb⟩ := hr
      obtain ⟨lv, l0, l1, _, hz⟩ := chooseR_start hch
      obtain ⟨hs, hs2⟩ := h.startZ iv hj hc
      obtain ⟨iv1, _, _, _, hlev, _, hj1⟩ := startZ_inv iv hj ha hc
      rcases hz with ⟨_, rfl, rfl⟩ | ⟨hne, rfl, rfl⟩
      · rw [if_neg (by decide)] at hb
        rw [hj1] at hb
        simp only [Option.getD_some] at hb
        rw [hb]
        exact hs.runsTail iv1 j.task (j := { j with started := true }) hj1
      · rw [if_pos rfl] at hb
        rw [hb]
        have e : swAll m.p.crit (didZ m { V.startZ s j with level := lv } 3 m.p.switch lv 0 0).trace = ⟨lv, (swAll m.p.crit (V.startZ s j).trace).n + 1, true⟩ := by
          show swAll m.p.crit (addZ (V.startZ s j).trace _) = _
          rw [swAll_addZ]
          unfold swOne
          dsimp only
          rw [if_neg (by decide), if_pos rfl, hs.ok, hs.lv, hlev]
          have : (lv == s.level) = false := by simpa using hne
          rw [this]
          simp [l0, l1]
        refine ⟨?_, ?_, ?_⟩
        · rw [e]; rfl
        · rw [e]
        · rw [e]
          exact hs2
    · rw [hr]; exact h.runsTail iv j.task hj
theorem SwI.step (h : SwI m s) (iv : KInv m A B s) (hn : s.now < 16384) (hr : StepR m s s') : SwI m s' := by
  unfold StepR at hr
  by_cases ha : s.asleep = true
  · rw [if_pos ha] at hr
    rw [hr]
    unfold sleepingZ
    dsimp only
    split
    · have h2 : SwI m { s with asleep := false } := ⟨h.lv, h.ok, h.n⟩
      exact h2.did 6 _ _ _ _ (by decide) (fun h => absurd h (by decide))
    · exact h.did 5 _ _ _ _ (by decide) (fun h => absurd h (by decide))
  · rw [if_neg ha] at hr
    have ha' : s.asleep = false := by simpa using ha
    obtain ⟨n, ok, L, hL, _, hw, hr⟩ := hr
    cases ok with
    | true =>
      rw [if_pos rfl] at hr
      obtain ⟨_, x, hx⟩ := whoOf_job iv hL hw
      exact h.runs iv hn ha' hx hr
    | false =>
      rw [if_neg (by decide)] at hr
      have hnn := h.n
      have hle : (swAll m.p.crit s.trace).n + wsum unW s.jobs + (if false = true then 1 else 0) ≤ nonExp s.events := by
        rw [if_neg (by decide)]
        omega
      rcases hr with rfl | ⟨_, k, x, t, _, _, _, _, rfl⟩
      · have h2 : SwI m { s with ended := false } := ⟨h.lv, h.ok, hle⟩
        exact h2.did 2 _ _ _ _ (by decide) (fun h => absurd h (by decide))
      · have h2 : SwI m { s with ended := false, asleep := true, state := (k : Int), wake := wz (s.now + t) } := ⟨h.lv, h.ok, hle⟩
        exact h2.did 4 _ _ _ _ (by decide) (fun h => absurd h (by decide))
theorem SwI.rel (h : SwI m s) (hr : RelOne s s') : SwI m s' := by
  obtain ⟨n, at_, cyc, t, _, _, _, _, rfl⟩ := hr
  refine ⟨h.lv, h.ok, ?_⟩
  have h1 := wsum_upd_le unW s.jobs n (some (jobNew n t.t at_ cyc))
  have e0 : ow unW (some (jobNew n t.t at_ cyc)) = 1 := rfl
  have hn := h.n
  show (swAll m.p.crit s.trace).n + wsum unW (upd s.jobs n (some (jobNew n t.t at_ cyc))) + (if s.ended then 1 else 0) ≤ nonExp (s.events ++ [_])
  rw [nonExp_snoc, if_neg (show ¬ (1 : Int) = 4 by decide)]
  omega
theorem SwI.exp (h : SwI m s) (hr : ExpOne s s') : SwI m s' := by
  obtain ⟨n, at_, cyc, _, _, _, rfl⟩ := hr
  refine ⟨h.lv, h.ok, ?_⟩
  have hn := h.n
  show (swAll m.p.crit s.trace).n + wsum unW s.jobs + (if s.ended then 1 else 0) ≤ nonExp (s.events ++ [_])
  rw [nonExp_snoc]
  omega
theorem SwI.bound (h : SwI m s) (hr : BoundR m s s') : SwI m s' := by
  obtain ⟨s1, s2, h1, _, h2, _, D, X, rfl, _⟩ := hr
  have i1 := Star.keep (I := SwI m) (fun _ _ r i => i.rel r) h1 h
  have i2 := Star.keep (I := SwI m) (fun _ _ r i => i.exp r) h2 i1
  exact ⟨i2.lv, i2.ok, i2.n⟩
/-- What a step that is no tick leaves as it was. -/
structure Calm (s s' : KS) : Prop where
  now : s'.now = s.now
  level : s'.level = s.level
  jobs : s'.jobs = s.jobs
  stack : s'.stack = s.stack
  ended : s'.ended = s.ended
  spent : s'.spent = s.spent
  asleep : s'.asleep = s.asleep
  state : s'.state = s.state
  wake : s'.wake = s.wake
  trace : s'.trace = s.trace
  meter : s'.meter = s.meter
  events : s'.events = s.events
theorem Calm.refl : Calm s s := ⟨rfl, rfl, rfl, rfl, rfl, rfl, rfl, rfl, rfl, rfl, rfl, rfl⟩
theorem AdmitR.calm {x : ATask} {n e : Int} (hr : AdmitR m s x n e s') : Calm s s' := by
  rcases hr with ⟨_, _, _, rfl⟩ | ⟨_, ⟨_, _, _, rfl⟩ | ⟨_, ⟨_, _, _, rfl⟩ | ⟨_, ⟨_, _, _, rfl⟩ | ⟨_, _, i, y, z, r, s1, _, _, _, _, ⟨D, rfl, _⟩, _, _, _, _, rfl⟩⟩⟩⟩
  · exact .refl
  · exact .refl
  · exact .refl
  · exact .refl
  · exact ⟨rfl, rfl, rfl, rfl, rfl, rfl, rfl, rfl, rfl, rfl, rfl, rfl⟩
theorem OneR.calm {x : ASt} {n e : Int} (hr : OneR m s x n e s') : (x.kind = 4 ∧ TickR m s x.a e s') ∨ Calm s s' := by
  rcases hr with ⟨_, hr⟩ | ⟨_, _, hr⟩ | ⟨_, _, hr⟩ | ⟨hk, _, hr⟩ | ⟨_, _, hr⟩ | ⟨hk, _, hr⟩ | ⟨_, _, hr⟩ | ⟨_, _, _, rfl⟩
  · exact .inr hr.calm
  · rcases hr with ⟨rfl, _⟩ | ⟨_, _, _, _, _, rfl⟩
    · exact .inr .refl
    · exact .inr ⟨rfl, rfl, rfl, rfl, rfl, rfl, rfl, rfl, rfl, rfl, rfl, rfl⟩
  · rcases hr with ⟨_, rfl⟩ | ⟨_, _, _, _, _, _, _, _, rfl⟩
    · exact .inr .refl
    · exact .inr ⟨rfl, rfl, rfl, rfl, rfl, rfl, rfl, rfl, rfl, rfl, rfl, rfl⟩
  · exact .inl ⟨hk, hr⟩
  · rcases hr with ⟨rfl, _⟩ | ⟨_, n, L, _, _, _, _, t, _, _, _, hr⟩
    · exact .inr .refl
    · rcases hr with ⟨_, i, _, rfl⟩ | ⟨_, _, c, _, rfl⟩
      · exact .inr ⟨rfl, rfl, rfl, rfl, rfl, rfl, rfl, rfl, rfl, rfl, rfl, rfl⟩
      · exact .inr ⟨rfl, rfl, rfl, rfl, rfl, rfl, rfl, rfl, rfl, rfl, rfl, rfl⟩
  · rcases hr with ⟨_, _, rfl⟩ | ⟨_, _, _, h0, h1, rfl⟩
    · exact .inr .refl
    · exact .inr ⟨rfl, rfl, rfl, rfl, rfl, rfl, rfl, rfl, rfl, rfl, rfl, rfl⟩
  · unfold TimerR at hr
    split at hr
    · rcases hr with ⟨_, _, rfl⟩ | ⟨_, _, rfl⟩
      · exact .inr ⟨rfl, rfl, rfl, rfl, rfl, rfl, rfl, rfl, rfl, rfl, rfl, rfl⟩
      · exact .inr .refl
    · rcases hr with ⟨_, _, rfl⟩ | ⟨_, _, _, _, _, _, _, rfl⟩
      · exact .inr .refl
      · exact .inr ⟨rfl, rfl, rfl, rfl, rfl, rfl, rfl, rfl, rfl, rfl, rfl, rfl⟩
  · exact .inr .refl
theorem TickR.keep {I : KS → Prop} (hstep : ∀ s s', KInv m A B s → s.now < 16384 → StepR m s s' → I s → I s') (hbound : ∀ s s', KInv m A B s → BoundR m s s' → I s → I s') {n e : Int} (iv : KInv m A B s) (hr : TickR m s n e s') (h : I s) : I s' := by
  rcases hr with ⟨_, _, rfl⟩ | ⟨_, _, _, hs, _⟩
  · exact h
  · have hE := endT_le iv.mok s n
    refine (Star.keep (I := fun s => KInv m A B s ∧ I s) (fun s1 s2 r i => ?_) hs ⟨iv, h⟩).2
    obtain ⟨hlt, s3, h1, h2⟩ := r
    have j1 := stepR_inv i.1 (by omega) h1
    exact ⟨(h2.inv j1.1).1, hbound _ _ j1.1 h2 (hstep _ _ i.1 (by omega) h1 i.2)⟩
theorem DoR.keep {I : KS → Prop} (hcalm : ∀ s s', Calm s s' → I s → I s') (hstep : ∀ s s', KInv m (A + 1) (B + 70000) s → s.now < 16384 → StepR m s s' → I s → I s') (hbound : ∀ s s', KInv m (A + 1) (B + 70000) s → BoundR m s s' → I s → I s')
    {x : ASt} {n e : Int} (iv : KInv m A B s) (hA : A + 1 ≤ 800000000) (hB : B + 70000 ≤ bigN) (hr : DoR m s x n e s') (h : I s) : I s' := by
  rcases hr with ⟨_, _, _, rfl⟩ | ⟨_, ⟨_, _, rfl⟩ | ⟨_, s1, h1, h2⟩⟩
  · exact h
  · exact h
  · have iv1 := (h1.inv iv hA hB).1
    refine hbound _ _ iv1 h2 ?_
    rcases h1.calm with ⟨_, ht⟩ | hc
    · exact ht.keep hstep hbound (iv.mono (by omega) (by omega) hA hB) h
    · exact hcalm _ _ hc h
theorem SwI.calm (h : SwI m s) (c : Calm s s') : SwI m s' := ⟨by rw [c.trace, c.level]; exact h.lv, by rw [c.trace]; exact h.ok, by rw [c.trace, c.jobs, c.ended, c.events]; exact h.n⟩
theorem SwI.doR (h : SwI m s) {x : ASt} {n e : Int} (iv : KInv m A B s) (hA : A + 1 ≤ 800000000) (hB : B + 70000 ≤ bigN) (hr : DoR m s x n e s') : SwI m s' :=
  DoR.keep (fun _ _ c i => i.calm c) (fun _ _ iv hn r i => i.step iv hn r) (fun _ _ _ r i => i.bound r) iv hA hB hr h
theorem SwI.s0 (m : Mach) : SwI m (s0 m) := ⟨rfl, rfl, Nat.le_refl _⟩
end
end Go.Proofs.YtajilfnceoeaiaaGreat.V
/- Whenever a device is on, it has cost no more than if it had never been away. Plain. -/
namespace Go.Proofs.YtajilfnceoeaiaaGreat.V
open Go Go.RowKit Enc
set_option maxRecDepth 100000
/-- What a step of the machine leaves as it was; time goes by, but not for long. -/
structure StepF (s s' : KS) : Prop where
  devs : s'.devs = s.devs
  spent : s'.spent = s.spent
  T : s'.T = s.T
  N : s'.N = s.N
  lat : s'.lat = s.lat
  tim : s'.tim = s.tim
  places : s'.places = s.places
  policy : s'.policy = s.policy
  naps : s'.naps = s.naps
  le : s.now ≤ s'.now
  far : s'.now ≤ s.now + 256
section
variable {m : Mach} {A B : Nat} {s s' s'' : KS}
theorem StepF.did (hn : 0 ≤ s.now ∧ s.now ≤ 17000) (kind len arg task cyc : Int) (hl : 0 ≤ len ∧ len ≤ 256) : StepF s (didZ m s kind len arg task cyc) := by
  have hw : wz (s.now + len) = s.now + len := wz_id (by omega) (by omega)
  refine ⟨rfl, rfl, rfl, rfl, rfl, rfl, rfl, rfl, rfl, ?_, ?_⟩
  · show s.now ≤ wz (s.now + len)
    omega
  · show wz (s.now + len) ≤ s.now + 256
    omega
theorem StepF.same {s1 s2 : KS} (h : StepF s1 s2) (e1 : s1.devs = s.devs) (e2 : s1.spent = s.spent) (e3 : s1.T = s.T) (e4 : s1.N = s.N) (e5 : s1.lat = s.lat) (e6 : s1.tim = s.tim) (e7 : s1.places = s.places) (e8 : s1.policy = s.policy) (e9 : s1.naps = s.naps) (e10 : s1.now = s.now) : StepF s s2 :=
  ⟨h.devs.trans e1, h.spent.trans e2, h.T.trans e3, h.N.trans e4, h.lat.trans e5, h.tim.trans e6, h.places.trans e7, h.policy.trans e8, h.naps.trans e9, by rw [← e10]; exact h.le, by rw [← e10]; exact h.far⟩
theorem StepF.endZ (h : StepF s s') (kind : Int) (j : Job) : StepF s (endZ s' kind j) := ⟨h.devs, h.spent, h.T, h.N, h.lat, h.tim, h.places, h.policy, h.naps, h.le, h.far⟩
theorem lvlP_in (iv : KInv m A B s) : 1 ≤ lvlP m s.level ∧ lvlP m s.level ≤ 256 := by
  have hlev := iv.lev
  have hcr := iv.crit.hi
  obtain ⟨i, hi⟩ : ∃ i : Nat, s.level = i := ⟨s.level.toNat, by omega⟩
  obtain ⟨x, hx⟩ : ∃ x, m.L[i]? = some x := ⟨m.L[i]'(by omega), List.getElem?_eq_getElem (by omega)⟩
  have hp := iv.mok.lev i x hx
  have hlp : lvlP m s.level = x.p := by rw [lvlP, hi, Int.toNat_natCast, hx]; rfl
  rw [hlp]
  exact hp
theorem StepF.runsTail (iv : KInv m A B s) (n : Int) (j : Job) : StepF s (runsTailZ m s n j) := by
  have hd : StepF s (didZ m s 1 (lvlP m s.level) s.level n 1) := StepF.did iv.now 1 _ _ _ _ ⟨by have := (lvlP_in iv).1; omega, (lvlP_in iv).2⟩
  have h2 : StepF s { didZ m s 1 (lvlP m s.level) s.level n 1 with held := (didZ m s 1 (lvlP m s.level) s.level n 1).held.map (spendZ n) } := ⟨hd.devs, hd.spent, hd.T, hd.N, hd.lat, hd.tim, hd.places, hd.policy, hd.naps, hd.le, hd.far⟩
  unfold runsTailZ
  dsimp only
  split
  · exact h2.endZ _ _
  · exact ⟨hd.devs, hd.spent, hd.T, hd.N, hd.lat, hd.tim, hd.places, hd.policy, hd.naps, hd.le, hd.far⟩
theorem startZ_same (s : KS) (j : Job) : (startZ s j).devs = s.devs ∧ (startZ s j).spent = s.spent ∧ (startZ s j).T = s.T ∧ (startZ s j).N = s.N ∧ (startZ s j).lat = s.lat ∧ (startZ s j).tim = s.tim ∧ (startZ s j).places = s.places ∧ (startZ s j).policy = s.policy ∧ (startZ s j).naps = s.naps ∧ (startZ s j).now = s.now := by
  unfold startZ
  split <;> exact ⟨rfl, rfl, rfl, rfl, rfl, rfl, rfl, rfl, rfl, rfl⟩
theorem StepR.frame (iv : KInv m A B s) (hn : s.now < 16384) (hr : StepR m s s') : StepF s s' := by
  have hnow := iv.now
  have hsw := iv.mok.sw
  unfold StepR at hr
  by_cases ha : s.asleep = true
  · rw [if_pos ha] at hr
    rw [hr]
    obtain ⟨h0, h1⟩ := iv.slp ha
    obtain ⟨k, hk⟩ : ∃ k : Nat, s.state = k := ⟨s.state.toNat, by omega⟩
    obtain ⟨x, hx⟩ : ∃ x, m.S[k]? = some x := ⟨m.S[k]'(by omega), List.getElem?_eq_getElem (by omega)⟩
    obtain ⟨g1, g2, g3, g4, g5, g6⟩ := iv.mok.slp k x hx
    have hz : sleepingZ m s = if s.now ≥ wz (s.wake - x.exit) then didZ m { s with asleep := false } 6 x.exit s.state 0 0 else didZ m s 5 1 s.state 0 0 := by
      unfold sleepingZ
      rw [hk, Int.toNat_natCast, hx]
      rfl
    rw [hz]
    split
    · exact (StepF.did (s := { s with asleep := false }) (m := m) hnow 6 x.exit s.state 0 0 ⟨g3, g4⟩).same rfl rfl rfl rfl rfl rfl rfl rfl rfl rfl
    · exact StepF.did hnow 5 1 s.state 0 0 (by omega)
  · rw [if_neg ha] at hr
    have ha' : s.asleep = false := by simpa using ha
    obtain ⟨n, ok, L, hL, _, hw, hr⟩ := hr
    cases ok with
    | true =>
      rw [if_pos rfl] at hr
      obtain ⟨_, j, hj⟩ := whoOf_job iv hL hw
      have hjt := (iv.jobs n j hj).1
      subst hjt
      unfold RunsR at hr
      rw [hj] at hr
      simp only [Option.getD_some] at hr
      split at hr
      · rw [hr]
        exact StepF.endZ ⟨rfl, rfl, rfl, rfl, rfl, rfl, rfl, rfl, rfl, Int.le_refl _, by omega⟩ _ _
      · split at hr
        · rename_i hc
          obtain ⟨b, s1, hch, hb⟩ := hr
          obtain ⟨lv, l0, l1, _, hz⟩ := chooseR_start hch
          obtain ⟨iv1, _, _, _, hlev, _, hj1⟩ := startZ_inv iv hj ha' hc
          obtain ⟨e1, e2, e3, e4, e5, e6, e7, e8, e9, e10⟩ := startZ_same s j
          rcases hz with ⟨_, rfl, rfl⟩ | ⟨hne, rfl, rfl⟩
          · rw [if_neg (by decide)] at hb
            rw [hb]
            exact (StepF.runsTail iv1 _ _).same e1 e2 e3 e4 e5 e6 e7 e8 e9 e10
          · rw [if_pos rfl] at hb
            rw [hb]
            exact (StepF.did (s := { startZ s j with level := lv }) (m := m) (by show 0 ≤ (startZ s j).now ∧ (startZ s j).now ≤ 17000; rw [e10]; exact hnow) 3 m.p.switch lv 0 0 hsw).same e1 e2 e3 e4 e5 e6 e7 e8 e9 e10
        · rw [hr]; exact StepF.runsTail iv _ _
    | false =>
      rw [if_neg (by decide)] at hr
      rcases hr with rfl | ⟨_, k, x, t, hx, _, _, _, rfl⟩
      · exact (StepF.did (s := { s with ended := false }) (m := m) hnow 2 1 0 0 0 (by omega)).same rfl rfl rfl rfl rfl rfl rfl rfl rfl rfl
      · obtain ⟨g1, g2, _⟩ := iv.mok.slp k x hx
        exact (StepF.did (s := { s with ended := false, asleep := true, state := (k : Int), wake := wz (s.now + t) }) (m := m) hnow 4 x.enter k 0 0 ⟨g1, g2⟩).same rfl rfl rfl rfl rfl rfl rfl rfl rfl rfl
/-- A device's moments and its cost. -/
def DevOne (now : Int) (d : Device) (x : Away) (p : Int) : Prop :=
  (x = ⟨0, 0⟩ ∧ p = 0) ∨ (0 ≤ x.from_ ∧ x.from_ ≤ now ∧ x.from_ + d.even ≤ x.until_ ∧ x.until_ ≤ 1099511627776 ∧ 0 ≤ p ∧ p ≤ d.on * x.from_)
theorem DevOne.later {now now' : Int} {d : Device} {x : Away} {p : Int} (h : DevOne now d x p) (hl : now ≤ now') : DevOne now' d x p := by
  rcases h with h | ⟨h1, h2, h3⟩
  · exact .inl h
  · exact .inr ⟨h1, by omega, h3⟩
theorem DevOne.on_le {now : Int} {d : Device} {x : Away} {p : Int} (hd : AwayOk d.down d.up d.downE d.upE d.off d.on d.even) (h0 : 0 ≤ now) (h1 : now ≤ 17000) (h : DevOne now d x p) (hs : stateZ d x now = 1) : wz (p + energyZ d x now) = p + energyZ d x now ∧ 0 ≤ p + energyZ d x now ∧ p + energyZ d x now ≤ d.on * now := by
  obtain ⟨k1, k2, k3, k4, k5, k6, k7, k8, k9, k10⟩ := hd
  have hon := mul_in k5.1 k5.2 h0 h1
  rcases h with ⟨rfl, rfl⟩ | ⟨f0, f1, f2, f3, p0, p1⟩
  · have he : energyZ d ⟨0, 0⟩ now = d.on * now := by
      unfold energyZ
      rw [if_pos (show neverZ ⟨0, 0⟩ = true from rfl), if_neg (by omega)]
      exact wz_id (by omega) (by omega)
    rw [he]
    refine ⟨wz_id (by omega) (by omega), by omega, by omega⟩
  · have hnv : neverZ x = false := by
      unfold neverZ
      by_cases e : x.from_ = 0
      · have : x.until_ ≠ 0 := by omega
        simp [this]
      · simp [e]
    have hu : now ≥ x.until_ := by
      unfold stateZ at hs
      rw [hnv] at hs
      by_cases g : now ≥ x.until_
      · exact g
      · rw [if_neg (by simp; omega)] at hs
        split at hs
        · cases hs
        · split at hs <;> cases hs
    have w1 : wz (x.from_ + d.down) = x.from_ + d.down := wz_id (by omega) (by omega)
    have w2 : wz (x.until_ - d.up) = x.until_ - d.up := wz_id (by omega) (by omega)
    have w3 : wz (0 + d.downE) = d.downE := by rw [show 0 + d.downE = d.downE by omega]; exact wz_id (by omega) (by omega)
    have w4 : wz (d.downE + d.upE) = d.downE + d.upE := wz_id (by omega) (by omega)
    have w5 : wz (x.until_ - d.up - (x.from_ + d.down)) = x.until_ - d.up - (x.from_ + d.down) := wz_id (by omega) (by omega)
    have w6 : wz (now - x.until_) = now - x.until_ := wz_id (by omega) (by omega)
    have hspan : spanZ (x.from_ + d.down) (x.until_ - d.up) now = x.until_ - d.up - (x.from_ + d.down) := by
      unfold spanZ
      have hif : (if now < x.until_ - d.up then now else x.until_ - d.up) = x.until_ - d.up := if_neg (by omega)
      rw [hif, w5, if_neg (by omega)]
    have m1 := mul_in k6.1 (show d.off ≤ 65536 by omega) (show 0 ≤ x.until_ - d.up - (x.from_ + d.down) by omega) (show x.until_ - d.up - (x.from_ + d.down) ≤ 17000 by omega)
    have m2 := mul_in k5.1 k5.2 (show 0 ≤ now - x.until_ by omega) (show now - x.until_ ≤ 17000 by omega)
    have he : energyZ d x now = d.downE + d.upE + d.off * (x.until_ - d.up - (x.from_ + d.down)) + d.on * (now - x.until_) := by
      unfold energyZ
      rw [hnv, if_neg (by decide)]
      dsimp only
      rw [w1, w2, hspan, if_pos (by omega), if_pos (by omega), w3, w4, w6, if_neg (by omega), wzi (x := d.off * (x.until_ - d.up - (x.from_ + d.down))) (by omega) (by omega), wzi (x := d.on * (now - x.until_)) (by omega) (by omega), wzi (x := d.downE + d.upE + d.off * (x.until_ - d.up - (x.from_ + d.down))) (by omega) (by omega)]
      exact wz_id (by omega) (by omega)
    -- off for longer than the least is no dearer than on
    have m3 : d.off * (x.until_ - d.up - (x.from_ + d.down)) = d.off * (d.even - d.down - d.up) + d.off * (x.until_ - x.from_ - d.even) := by
      rw [← Int.mul_add]
      congr 1
      omega
    have m4 : d.off * (x.until_ - x.from_ - d.even) ≤ d.on * (x.until_ - x.from_ - d.even) := Int.mul_le_mul_of_nonneg_right k6.2 (by omega)
    have m5 : d.on * now = d.on * x.from_ + (d.on * d.even + d.on * (x.until_ - x.from_ - d.even) + d.on * (now - x.until_)) := by
      rw [← Int.mul_add, ← Int.mul_add, ← Int.mul_add]
      congr 1
      omega
    rw [he]
    have hp1 := mul_in k5.1 k5.2 f0 (show x.from_ ≤ 17000 by omega)
    refine ⟨wz_id (by omega) (by omega), by omega, by omega⟩
theorem DevOne.call {now : Int} {d : Device} {x : Away} {p : Int} (hd : AwayOk d.down d.up d.downE d.upE d.off d.on d.even) (h0 : 0 ≤ now) (h1 : now ≤ 17000) (h : DevOne now d x p) : DevOne now d (callZ d x now) p := by
  obtain ⟨k1, k2, k3, k4, k5, k6, k7, k8, k9, k10⟩ := hd
  unfold callZ
  split
  · rename_i hu
    rcases h with ⟨rfl, rfl⟩ | ⟨f0, f1, f2, f3, p0, p1⟩
    · cases hu
    · have w1 : wz (x.from_ + d.even) = x.from_ + d.even := wz_id (by omega) (by omega)
      have w2 : wz (now + d.up) = now + d.up := wz_id (by omega) (by omega)
      have w3 : wz (x.from_ + d.down) = x.from_ + d.down := wz_id (by omega) (by omega)
      have w4 : wz (x.from_ + d.down + d.up) = x.from_ + d.down + d.up := wz_id (by omega) (by omega)
      refine .inr ⟨f0, f1, ?_, ?_, p0, p1⟩
      · dsimp only
        rw [w1, w2, w3, w4]
        unfold mxZ
        split <;> split <;> omega
      · dsimp only
        rw [w1, w2, w3, w4]
        unfold mxZ
        split <;> split <;> omega
  · exact h
theorem DevOne.calls {now : Int} {d : Device} {x : Away} {p : Int} (hd : AwayOk d.down d.up d.downE d.upE d.off d.on d.even) (h0 : 0 ≤ now) (h1 : now ≤ 17000) (h : DevOne now d x p) (n : Nat) : DevOne now d (Nat.repeat (fun z => callZ d z now) n x) p := by
  induction n with
  | zero => exact h
  | succ n ih => exact DevOne.call hd h0 h1 ih
theorem DevOne.away {now : Int} {d : Device} {x x' : Away} {p p' : Int} (hd : AwayOk d.down d.up d.downE d.upE d.off d.on d.even) (h0 : 0 ≤ now) (h1 : now ≤ 17000) (h : DevOne now d x p) (ha : AwayOne d now x p x' p') : DevOne now d x' p' := by
  obtain ⟨u, u0, u1, ⟨_, rfl, rfl⟩ | ⟨hb, rfl, rfl⟩⟩ := ha
  · exact h
  · unfold awayB at hb
    simp only [Bool.and_eq_true, beq_iff_eq, Bool.not_eq_true', decide_eq_false_iff_not] at hb
    obtain ⟨hs, he⟩ := hb
    rw [wzi (x := u - now) (by omega) (by omega)] at he
    obtain ⟨e1, e2, e3⟩ := h.on_le hd h0 h1 hs
    rw [e1]
    exact .inr ⟨h0, Int.le_refl _, by dsimp only; omega, u1, e2, e3⟩
/-- What holds of all devices. -/
def DevI (m : Mach) (s : KS) : Prop := ∀ (i : Nat) (d : Device) (x : Away) (p : Int), m.D[i]? = some d → s.devs[i]? = some x → s.spent[i]? = some p → DevOne s.now d x p
theorem DevI.eq (h : DevI m s) (e1 : s'.devs = s.devs) (e2 : s'.spent = s.spent) (e3 : s.now ≤ s'.now) : DevI m s' := fun i d x p hd hx hp => (h i d x p hd (by rw [← e1]; exact hx) (by rw [← e2]; exact hp)).later e3
theorem rel_frame (hr : RelOne s s') : s'.devs = s.devs ∧ s'.spent = s.spent ∧ s'.now = s.now ∧ s'.T = s.T ∧ s'.tim = s.tim := by
  obtain ⟨n, at_, cyc, t, _, _, _, _, rfl⟩ := hr
  exact ⟨rfl, rfl, rfl, rfl, rfl⟩
theorem exp_frame (hr : ExpOne s s') : s'.devs = s.devs ∧ s'.spent = s.spent ∧ s'.now = s.now ∧ s'.T = s.T ∧ s'.lat = s.lat ∧ s'.N = s.N := by
  obtain ⟨n, at_, cyc, _, _, _, rfl⟩ := hr
  exact ⟨rfl, rfl, rfl, rfl, rfl, rfl⟩
theorem DevI.bound (t : Tab m) (iv : KInv m A B s) (h : DevI m s) (hr : BoundR m s s') : DevI m s' := by
  obtain ⟨s1, s2, h1, _, h2, _, D, X, rfl, hDl, hXl, ha⟩ := hr
  have i1 := Star.keep (I := DevI m) (fun _ _ r i => i.eq (rel_frame r).1 (rel_frame r).2.1 (Int.le_of_eq (rel_frame r).2.2.1.symm)) h1 h
  have i2 := Star.keep (I := DevI m) (fun _ _ r i => i.eq (exp_frame r).1 (exp_frame r).2.1 (Int.le_of_eq (exp_frame r).2.2.1.symm)) h2 i1
  obtain ⟨j1, _, n1⟩ := h1.relInv iv
  obtain ⟨j2, _, n2⟩ := h2.expInv j1
  have hnow := j2.now
  intro i d x' p' hd hx' hp'
  have hx' : D[i]? = some x' := hx'
  have hp' : X[i]? = some p' := hp'
  have hlx : i < s2.devs.length := by have := lt_of_get hx'; omega
  have hlp : i < s2.spent.length := by have := lt_of_get hp'; omega
  obtain ⟨x3, p3, e1, e2, e3⟩ := ha i d _ _ hd (List.getElem?_eq_getElem hlx) (List.getElem?_eq_getElem hlp)
  rw [hx'] at e1
  rw [hp'] at e2
  cases e1; cases e2
  exact (i2 i d _ _ hd (List.getElem?_eq_getElem hlx) (List.getElem?_eq_getElem hlp)).away (t.dev i d hd) hnow.1 hnow.2 e3
theorem DevI.calm (t : Tab m) (iv : KInv m A B s) (h : DevI m s) {x : ASt} {n e : Int} (hr : OneR m s x n e s') (hk : x.kind ≠ 4) : DevI m s' := by
  have hnow := iv.now
  rcases hr with ⟨_, hr⟩ | ⟨_, _, hr⟩ | ⟨_, _, hr⟩ | ⟨hk4, _, hr⟩ | ⟨_, _, hr⟩ | ⟨_, _, hr⟩ | ⟨_, _, hr⟩ | ⟨_, _, _, rfl⟩
  · rcases hr with ⟨_, _, _, rfl⟩ | ⟨_, ⟨_, _, _, rfl⟩ | ⟨_, ⟨_, _, _, rfl⟩ | ⟨_, ⟨_, _, _, rfl⟩ | ⟨_, _, i, y, z, r, s1, _, _, _, _, ⟨D, rfl, ⟨hDl, hD⟩, _⟩, _, _, _, _, rfl⟩⟩⟩⟩
    · exact h
    · exact h
    · exact h
    · exact h
    · intro i d x p hd hx hp
      have hx : D[i]? = some x := hx
      have hlx : i < s.devs.length := by have := lt_of_get hx; rw [hDl] at this; exact this
      obtain ⟨y, n, e1, e2⟩ := hD i _ d hd (List.getElem?_eq_getElem hlx)
      rw [hx] at e1; cases e1
      rw [e2]
      exact (h i d _ p hd (List.getElem?_eq_getElem hlx) hp).calls (t.dev i d hd) hnow.1 hnow.2 n
  · rcases hr with ⟨rfl, _⟩ | ⟨_, _, _, _, _, rfl⟩
    · exact h
    · exact h.eq rfl rfl (Int.le_refl _)
  · rcases hr with ⟨_, rfl⟩ | ⟨_, _, _, _, _, _, _, _, rfl⟩
    · exact h
    · exact h.eq rfl rfl (Int.le_refl _)
  · exact absurd hk4 hk
  · rcases hr with ⟨rfl, _⟩ | ⟨_, n, L, _, _, _, _, t, _, _, _, hr⟩
    · exact h
    · rcases hr with ⟨_, i, _, rfl⟩ | ⟨_, _, c, _, rfl⟩ <;> exact h.eq rfl rfl (Int.le_refl _)
  · rcases hr with ⟨_, _, rfl⟩ | ⟨_, _, _, h0, h1, rfl⟩
    · exact h
    · exact h.eq rfl rfl (Int.le_refl _)
  · unfold TimerR at hr
    split at hr
    · rcases hr with ⟨_, _, rfl⟩ | ⟨_, _, rfl⟩
      · exact h.eq rfl rfl (Int.le_refl _)
      · exact h
    · rcases hr with ⟨_, _, rfl⟩ | ⟨_, _, _, _, _, _, _, rfl⟩
      · exact h
      · exact h.eq rfl rfl (Int.le_refl _)
  · exact h
theorem DevI.doR (t : Tab m) (h : DevI m s) {x : ASt} {n e : Int} (iv : KInv m A B s) (hA : A + 1 ≤ 800000000) (hB : B + 70000 ≤ bigN) (hr : DoR m s x n e s') : DevI m s' := by
  rcases hr with ⟨_, _, _, rfl⟩ | ⟨_, ⟨_, _, rfl⟩ | ⟨_, s1, h1, h2⟩⟩
  · exact h
  · exact h
  · have iv1 := (h1.inv iv hA hB).1
    refine DevI.bound t iv1 ?_ h2
    by_cases hk : x.kind = 4
    · rcases h1.calm with ⟨_, ht⟩ | hc
      · exact ht.keep (fun _ _ iv hn r i => i.eq (StepR.frame iv hn r).devs (StepR.frame iv hn r).spent (StepR.frame iv hn r).le) (fun _ _ iv r i => i.bound t iv r) iv h
      · rcases h1 with ⟨hk', _⟩ | ⟨hk', _⟩ | ⟨hk', _⟩ | ⟨_, _, ht⟩ | ⟨hk', _⟩ | ⟨hk', _⟩ | ⟨hk', _⟩ | ⟨hk', _⟩
        · omega
        · omega
        · omega
        · exact ht.keep (fun _ _ iv hn r i => i.eq (StepR.frame iv hn r).devs (StepR.frame iv hn r).spent (StepR.frame iv hn r).le) (fun _ _ iv r i => i.bound t iv r) iv h
        all_goals omega
    · exact h.calm t iv h1 hk
theorem DevI.s0 (m : Mach) : DevI m (s0 m) := by
  intro i d x p hd hx hp
  have hx := List.mem_of_getElem? hx
  have hp := List.mem_of_getElem? hp
  exact .inl ⟨List.eq_of_mem_replicate hx, List.eq_of_mem_replicate hp⟩
end
end Go.Proofs.YtajilfnceoeaiaaGreat.V
/- WholeSaves: the function returns true. -/
namespace Go.Proofs.YtajilfnceoeaiaaGreat.V
open Go Go.RowKit Enc
set_option maxRecDepth 100000
theorem rstate_spec (d : Device) (x : Away) (now : Int) (w : World) : Call P 20 [d.v, x.v, .int .i64 now] [sI] (fun r w' => Below w.heap.size w w' ∧ (r = 1 → stateZ d x now = 1)) w := by
  refine f20_of _ _ _ (New_of fun b1 w1 c1 u1 => New_of fun b2 w2 c2 u2 => ?_)
  have c1 := c1.below u2
  have u := u1.on u2
  have one : neverZ x = true ∨ now < x.from_ ∨ now ≥ x.until_ → (Below w.heap.size w w2 ∧ ((1 : Int) = 1 → stateZ d x now = 1)) := fun h => ⟨u, fun _ => by unfold stateZ; rw [if_pos h]⟩
  have oth : ∀ r : Int, r ≠ 1 → (Below w.heap.size w w2 ∧ (r = 1 → stateZ d x now = 1)) := fun r h => ⟨u, fun e => absurd e h⟩
  refine c2.ld (x := x.from_) rfl (If_eq (fun e0 => ?_) fun e0 => ?_)
  · refine c2.ld (x := x.until_) rfl (If_eq (fun e1 => one (.inl ?_)) fun e1 => ?_)
    · have e0 : x.from_ = 0 := e0
      have e1 : x.until_ = 0 := e1
      unfold neverZ
      rw [e0, e1]; rfl
    · refine c2.ld (x := x.from_) rfl (If_d (fun h => one (.inr (.inl h))) fun _ => c2.ld (x := x.until_) rfl (If_d (fun h => one (.inr (.inr h))) fun _ => ?_))
      refine c2.ld (x := x.from_) rfl (c1.ld (x := d.down) rfl (If_d (fun _ => oth 3 (by decide)) fun _ => c2.ld (x := x.until_) rfl (c1.ld (x := d.up) rfl (If_d (fun _ => oth 4 (by decide)) fun _ => oth 2 (by decide)))))
  · refine c2.ld (x := x.from_) rfl (If_d (fun h => one (.inr (.inl h))) fun _ => c2.ld (x := x.until_) rfl (If_d (fun h => one (.inr (.inr h))) fun _ => ?_))
    refine c2.ld (x := x.from_) rfl (c1.ld (x := d.down) rfl (If_d (fun _ => oth 3 (by decide)) fun _ => c2.ld (x := x.until_) rfl (c1.ld (x := d.up) rfl (If_d (fun _ => oth 4 (by decide)) fun _ => oth 2 (by decide)))))
theorem tdevice_spec {o : Own} {w : World} {m : Mach} {a : Nat} {q : KPtr} {s : KS} (h : KRep o w m a q s) (d : Nat) (hd : d < s.devs.length) : Call P 21 [vP a, .int .i64 d] [shAway] (fun a b w' => s.devs[d]? = some ⟨a, b⟩ ∧ Below w.heap.size w w') w := by
  refine f21_of _ _ (New_blk o 90 fun b1 o1 w1 k1 u1 hb1 => ?_)
  have h := h.upno u1
  have hv := device_spec h d hd
  refine hv.impI2 ?_
  rintro n1 n2 w2 ⟨hx, u2⟩
  have k1 := k1.up (C := no) (o' := o1) (Up.of_below u2) rfl
  refine NewSt_of (by rfl) fun b3 w3 c3 u3 => ?_
  have c3 : Bx w3 b3 0 (⟨n1, n2⟩ : Away).l := c3
  have k1 := k1.up (C := no) (o' := o1) (Up.of_below u3) rfl
  refine c3.ld (x := n1) rfl ?_
  refine c3.ld (x := n2) rfl ?_
  refine k1.wr0 (vs := [.int .i64 n1, .int .i64 n2]) (by rfl) fun w4 k4 hw => ?_
  have k4 : Bx w4 b1 0 (⟨n1, n2⟩ : Away).l := k4.bx
  refine LdAway k4 ?_
  refine ⟨hx, ?_⟩
  have U : Up no o w o1 w3 := (u1.trans (Up.of_below u2)).trans (Up.of_below u3)
  exact (U.wr hw (by rw [hb1]; exact Nat.le_refl _)).below
theorem saves_spec {o : Own} {w : World} {m : Mach} {st : Sl} {l : List ASt} (hm : MachR o w m) (hs : StepsR o w st l) (hl : l.length ≤ 1048576) : Call P 6 [m.p.v, vS st] [sB] (fun b w' => b = true ∧ ∃ o', Up kl o w o' w') w := by
  have hn := hs.n
  refine f6_of _ _ (New_blk o 0 fun b1 o1 w1 k1 u1 _ => k1.bx.ldPlat (x := m.p) ?_)
  have hm := hm.up u1 rfl
  have hs := hs.up u1 rfl
  have hb := boot_law hm
  refine hb.imp1 ?_
  rintro pk w2 (⟨t, a, q, x, y, z, o2, rfl, L⟩ | ⟨nt, rfl, u2⟩)
  rotate_left
  · refine If_t ((k1.bx.below u2).ldPlat (x := m.p) ?_)
    have hno := none_spec (hm.below u2) nt
    refine hno.imp1 ?_
    rintro b w3 ⟨rfl, o3, u3⟩
    exact ⟨rfl, o3, (u1.of_no.trans (Up.of_below u2)).trans u3⟩
  have hs := hs.up L.U kl0
  have k1 := k1.up L.U kl0
  have hm := hm.up L.U kl0
  have t' := t.pl x y z
  have hD : (V.pl m x y z).D = m.D := rfl
  generalize V.pl m x y z = m' at L t' hD
  refine If_f ⟨fun n w' => ∃ k : Nat, n = k ∧ k ≤ l.length ∧ ∃ o' q' s, LawS o1 w1 m' a k o' w' q' s ∧ DevI m' s ∧ StepsR o' w' st l ∧ Blk o' w' 0 b1 (.cells m.p.l.toArray 26 (0, 0)) ∧ MachR o' w' m, fun n _ => l.length - n.toNat, ⟨0, rfl, Nat.zero_le _, o2, q, _, L, DevI.s0 m', hs, k1, hm⟩, ?_⟩
  rintro n v ⟨k, rfl, hk, o3, q3, s, L, dv, hs, k1, hm⟩ _
  refine If_d (fun hlt => ?_) fun hlt => ?_
  · have hkl : k < l.length := by omega
    have hx : l[k]? = some l[k] := List.getElem?_eq_getElem hkl
    have htx := hs.each _ (List.getElem_mem hkl)
    generalize l[k] = x at hx htx
    have hme : l.length - Int.toNat ((k : Int) + 1) < l.length - Int.toNat (k : Int) := by omega
    rw [wz_id (x := (k : Int) + 1) (by omega) (by omega)]
    refine hs.step rfl hx ?_
    have hd := L.doo (by omega) x htx
    refine hd.imp2 ?_
    rintro n e w5 ⟨s5, d5, q5, o5, L5, u5⟩
    have dv := dv.doR t' L.iv (by omega) (by unfold budB bigN; omega) d5
    have hs := hs.up u5 kl0
    have k1 := k1.up u5 kl0
    have hm := hm.up u5 kl0
    have hDn := hm.D.n
    have hd3 := t.d3
    refine ⟨fun n w' => ∃ j : Nat, n = j ∧ j ≤ m.D.length ∧ Below w5.heap.size w5 w', fun n _ => m.D.length - n.toNat, ⟨0, rfl, Nat.zero_le _, Below.refl _ _⟩, ?_⟩
    rintro n v6 ⟨j, rfl, hj, u6⟩ _
    have L6 := L5.below u6
    have k1 := k1.up (C := no) (o' := o5) (Up.of_below u6) rfl
    have hm := hm.below u6
    refine k1.bx.ld (x := m.p.devices) rfl (If_d (fun hlt => ?_) fun hlt => ?_)
    · have hjl : j < m.D.length := by omega
      have hy : m.D[j]? = some m.D[j] := List.getElem?_eq_getElem hjl
      generalize m.D[j] = y at hy
      have hme' : m.D.length - Int.toNat ((j : Int) + 1) < m.D.length - Int.toNat (j : Int) := by omega
      rw [wz_id (x := (j : Int) + 1) (by omega) (by omega)]
      have hdl : j < s5.devs.length := by rw [L6.iv.D, hD]; exact hjl
      have hpl : j < s5.spent.length := by rw [L6.iv.X, hD]; exact hjl
      have L6 := L6.below bdrew
      have k1 := k1.up (C := no) (o' := o5) (w' := v6.drew) .drew rfl
      have hm := hm.below bdrew
      have u6 := u6.on bdrew
      refine k1.bx.ld (x := m.p.devices) rfl (RL.at' hm.D rfl hy fun bd fd had hbd => ?_)
      have hadr : (⟨bd, fd, none⟩ : Addr).add (Int.toNat (j : Int) * 7) = ⟨bd, fd + j * 7, none⟩ := by rw [Addr.add_mk, Int.toNat_natCast]
      have hbd : Bx v6.drew bd (fd + j * 7) y.l := hbd
      rw [hadr]
      refine hbd.ldDevice (x := y) ?_
      have hv := tdevice_spec L6.h j hdl
      refine hv.impI2 ?_
      rintro n1 n2 w7 ⟨hx7, u7⟩
      have L6 := L6.below u7
      have k1 := k1.up (C := no) (o' := o5) (Up.of_below u7) rfl
      have hbd := hbd.below u7
      have hm := hm.below u7
      have u6 := u6.on u7
      refine ⟨by (repeat' (first | (apply Bx.get0f; apply Blk.bx; assumption; rfl) | (apply Bx.get0f; apply Blk.bx; apply KRep.b; assumption; rfl) | (apply Bx.get0f; assumption; rfl) | (apply Bx.get00; apply Blk.bx; apply KRep.b; assumption; rfl) | (apply Bx.get0; apply Blk.bx; apply KRep.b; assumption; rfl) | (apply Bx.get00; apply Blk.bx; assumption; rfl) | (apply Bx.get00; assumption; rfl) | (apply Bx.getAt; assumption; rfl) | (apply Bx.get0; assumption; rfl) | (apply Bx.get; assumption; rfl) | (apply Bx.get0; apply Blk.bx; assumption; rfl) | (apply Bx.get; apply Blk.bx; assumption; rfl) | apply And.intro)), by (first | (apply Bx.get0f; apply Blk.bx; assumption; rfl) | (apply Bx.get0f; apply Blk.bx; apply KRep.b; assumption; rfl) | (apply Bx.get0f; assumption; rfl) | (apply Bx.get00; apply Blk.bx; apply KRep.b; assumption; rfl) | (apply Bx.get0; apply Blk.bx; apply KRep.b; assumption; rfl) | (apply Bx.get00; apply Blk.bx; assumption; rfl) | (apply Bx.get00; assumption; rfl) | (apply Bx.getAt; assumption; rfl) | (apply Bx.get0; assumption; rfl) | (apply Bx.get; assumption; rfl) | (apply Bx.get0; apply Blk.bx; assumption; rfl) | (apply Bx.get; apply Blk.bx; assumption; rfl)), ?_⟩
      have hno := now_spec L6.h
      refine hno.imp1 ?_
      rintro r w8 ⟨rfl, rfl⟩
      refine ⟨by (repeat' (first | (apply Bx.get0f; apply Blk.bx; assumption; rfl) | (apply Bx.get0f; apply Blk.bx; apply KRep.b; assumption; rfl) | (apply Bx.get0f; assumption; rfl) | (apply Bx.get00; apply Blk.bx; apply KRep.b; assumption; rfl) | (apply Bx.get0; apply Blk.bx; apply KRep.b; assumption; rfl) | (apply Bx.get00; apply Blk.bx; assumption; rfl) | (apply Bx.get00; assumption; rfl) | (apply Bx.getAt; assumption; rfl) | (apply Bx.get0; assumption; rfl) | (apply Bx.get; assumption; rfl) | (apply Bx.get0; apply Blk.bx; assumption; rfl) | (apply Bx.get; apply Blk.bx; assumption; rfl) | apply And.intro)), by (first | (apply Bx.get0f; apply Blk.bx; assumption; rfl) | (apply Bx.get0f; apply Blk.bx; apply KRep.b; assumption; rfl) | (apply Bx.get0f; assumption; rfl) | (apply Bx.get00; apply Blk.bx; apply KRep.b; assumption; rfl) | (apply Bx.get0; apply Blk.bx; apply KRep.b; assumption; rfl) | (apply Bx.get00; apply Blk.bx; assumption; rfl) | (apply Bx.get00; assumption; rfl) | (apply Bx.getAt; assumption; rfl) | (apply Bx.get0; assumption; rfl) | (apply Bx.get; assumption; rfl) | (apply Bx.get0; apply Blk.bx; assumption; rfl) | (apply Bx.get; apply Blk.bx; assumption; rfl)), ?_⟩
      have hst := rstate_spec y ⟨n1, n2⟩ s5.now w8
      refine hst.imp1 ?_
      rintro r w9 ⟨u9, hr⟩
      have L6 := L6.below u9
      have k1 := k1.up (C := no) (o' := o5) (Up.of_below u9) rfl
      have hbd := hbd.below u9
      have hm := hm.below u9
      have u6 := u6.on u9
      refine ⟨by (first | (apply Bx.get0f; apply Blk.bx; assumption; rfl) | (apply Bx.get0f; apply Blk.bx; apply KRep.b; assumption; rfl) | (apply Bx.get0f; assumption; rfl) | (apply Bx.get00; apply Blk.bx; apply KRep.b; assumption; rfl) | (apply Bx.get0; apply Blk.bx; apply KRep.b; assumption; rfl) | (apply Bx.get00; apply Blk.bx; assumption; rfl) | (apply Bx.get00; assumption; rfl) | (apply Bx.getAt; assumption; rfl) | (apply Bx.get0; assumption; rfl) | (apply Bx.get; assumption; rfl) | (apply Bx.get0; apply Blk.bx; assumption; rfl) | (apply Bx.get; apply Blk.bx; assumption; rfl)), If_eq (fun e => ?_) fun _ => ⟨⟨j + 1, by omega, by omega, u6⟩, hme'⟩⟩
      have hon := hr e
      refine k1.bx.ld (x := m.p.devices) rfl (RL.at' hm.D rfl hy fun be fe hae hbe => ?_)
      have hadr : (⟨be, fe, none⟩ : Addr).add (Int.toNat (j : Int) * 7) = ⟨be, fe + j * 7, none⟩ := by rw [Addr.add_mk, Int.toNat_natCast]
      have hbe : Bx w9 be (fe + j * 7) y.l := hbe
      rw [hadr]
      refine Ld_of (x := y.on) (hbe.getAt rfl) ?_
      have hsp := spent_spec L6.h (by rw [L6.iv.X, L6.iv.D]) L6.iv.D j hdl
      refine hsp.imp1 ?_
      rintro r w10 ⟨⟨x2, p2, e2, he2, hx2, hp2, rfl⟩, u10⟩
      rw [hD, hy] at he2
      cases he2
      rw [hx7] at hx2
      cases hx2
      have L6 := L6.below u10
      have k1 := k1.up (C := no) (o' := o5) (Up.of_below u10) rfl
      have hbd := hbd.below u10
      have hbe := hbe.below u10
      have u6 := u6.on u10
      refine ⟨by rw [Addr.add_mk, Addr.add_mk]; exact hbe.cell 0 _ rfl, by (first | (apply Bx.get0f; apply Blk.bx; assumption; rfl) | (apply Bx.get0f; apply Blk.bx; apply KRep.b; assumption; rfl) | (apply Bx.get0f; assumption; rfl) | (apply Bx.get00; apply Blk.bx; apply KRep.b; assumption; rfl) | (apply Bx.get0; apply Blk.bx; apply KRep.b; assumption; rfl) | (apply Bx.get00; apply Blk.bx; assumption; rfl) | (apply Bx.get00; assumption; rfl) | (apply Bx.getAt; assumption; rfl) | (apply Bx.get0; assumption; rfl) | (apply Bx.get; assumption; rfl) | (apply Bx.get0; apply Blk.bx; assumption; rfl) | (apply Bx.get; apply Blk.bx; assumption; rfl)), by (repeat' (first | (apply Bx.get0f; apply Blk.bx; assumption; rfl) | (apply Bx.get0f; apply Blk.bx; apply KRep.b; assumption; rfl) | (apply Bx.get0f; assumption; rfl) | (apply Bx.get00; apply Blk.bx; apply KRep.b; assumption; rfl) | (apply Bx.get0; apply Blk.bx; apply KRep.b; assumption; rfl) | (apply Bx.get00; apply Blk.bx; assumption; rfl) | (apply Bx.get00; assumption; rfl) | (apply Bx.getAt; assumption; rfl) | (apply Bx.get0; assumption; rfl) | (apply Bx.get; assumption; rfl) | (apply Bx.get0; apply Blk.bx; assumption; rfl) | (apply Bx.get; apply Blk.bx; assumption; rfl) | apply And.intro)), by (first | (apply Bx.get0f; apply Blk.bx; assumption; rfl) | (apply Bx.get0f; apply Blk.bx; apply KRep.b; assumption; rfl) | (apply Bx.get0f; assumption; rfl) | (apply Bx.get00; apply Blk.bx; apply KRep.b; assumption; rfl) | (apply Bx.get0; apply Blk.bx; apply KRep.b; assumption; rfl) | (apply Bx.get00; apply Blk.bx; assumption; rfl) | (apply Bx.get00; assumption; rfl) | (apply Bx.getAt; assumption; rfl) | (apply Bx.get0; assumption; rfl) | (apply Bx.get; assumption; rfl) | (apply Bx.get0; apply Blk.bx; assumption; rfl) | (apply Bx.get; apply Blk.bx; assumption; rfl)), ?_⟩
      have hno := now_spec L6.h
      refine hno.imp1 ?_
      rintro r w11 ⟨rfl, rfl⟩
      refine ⟨by rw [Addr.add_mk, Addr.add_mk]; exact hbe.cell 0 _ rfl, by (first | (apply Bx.get0f; apply Blk.bx; assumption; rfl) | (apply Bx.get0f; apply Blk.bx; apply KRep.b; assumption; rfl) | (apply Bx.get0f; assumption; rfl) | (apply Bx.get00; apply Blk.bx; apply KRep.b; assumption; rfl) | (apply Bx.get0; apply Blk.bx; apply KRep.b; assumption; rfl) | (apply Bx.get00; apply Blk.bx; assumption; rfl) | (apply Bx.get00; assumption; rfl) | (apply Bx.getAt; assumption; rfl) | (apply Bx.get0; assumption; rfl) | (apply Bx.get; assumption; rfl) | (apply Bx.get0; apply Blk.bx; assumption; rfl) | (apply Bx.get; apply Blk.bx; assumption; rfl)), by (repeat' (first | (apply Bx.get0f; apply Blk.bx; assumption; rfl) | (apply Bx.get0f; apply Blk.bx; apply KRep.b; assumption; rfl) | (apply Bx.get0f; assumption; rfl) | (apply Bx.get00; apply Blk.bx; apply KRep.b; assumption; rfl) | (apply Bx.get0; apply Blk.bx; apply KRep.b; assumption; rfl) | (apply Bx.get00; apply Blk.bx; assumption; rfl) | (apply Bx.get00; assumption; rfl) | (apply Bx.getAt; assumption; rfl) | (apply Bx.get0; assumption; rfl) | (apply Bx.get; assumption; rfl) | (apply Bx.get0; apply Blk.bx; assumption; rfl) | (apply Bx.get; apply Blk.bx; assumption; rfl) | apply And.intro)), by (first | (apply Bx.get0f; apply Blk.bx; assumption; rfl) | (apply Bx.get0f; apply Blk.bx; apply KRep.b; assumption; rfl) | (apply Bx.get0f; assumption; rfl) | (apply Bx.get00; apply Blk.bx; apply KRep.b; assumption; rfl) | (apply Bx.get0; apply Blk.bx; apply KRep.b; assumption; rfl) | (apply Bx.get00; apply Blk.bx; assumption; rfl) | (apply Bx.get00; assumption; rfl) | (apply Bx.getAt; assumption; rfl) | (apply Bx.get0; assumption; rfl) | (apply Bx.get; assumption; rfl) | (apply Bx.get0; apply Blk.bx; assumption; rfl) | (apply Bx.get; apply Blk.bx; assumption; rfl)), ?_⟩
      have hnow := L6.iv.now
      have hdo := (dv j y ⟨n1, n2⟩ p2 (by rw [hD]; exact hy) hx7 hp2).on_le (t.dev j y hy) hnow.1 hnow.2 hon
      have hao := t.dev j y hy
      obtain ⟨_, _, _, _, k5, _⟩ := hao
      have hmu := mul_in k5.1 k5.2 hnow.1 hnow.2
      rw [hdo.1, wz_id (x := y.on * s5.now) (by omega) (by omega)]
      exact If_d (c := p2 + energyZ y ⟨n1, n2⟩ s5.now > y.on * s5.now) (fun h => absurd h (Int.not_lt.2 hdo.2.2)) fun _ => ⟨⟨j + 1, by omega, by omega, u6⟩, hme'⟩
    · exact ⟨⟨k + 1, by omega, by omega, o5, q5, s5, L6, dv, hs.up (C := no) (o' := o5) (Up.of_below u6) rfl, k1, hm⟩, hme⟩
  · have ha := answers_below v
    refine ha.imp1 ?_
    rintro b w7 ⟨rfl, u7⟩
    exact ⟨rfl, o3, u1.of_no.trans (L.below u7).U⟩
end Go.Proofs.YtajilfnceoeaiaaGreat.V
/- How arguments read: machines, tasks, scripts. -/
namespace Go.Proofs.YtajilfnceoeaiaaGreat.V
open Go Go.RowKit Enc Go.ChangeShapes Go.WideShapes
set_option maxRecDepth 100000
/-- What the cells of a type that read as data say. -/
def Opn (t : TypeId) (R : World → List Value → Prop) : Prop :=
  ∀ {H : Type} (en : TypeId × Value → H) (w : World) (base : Nat) (spare : Nat → Bool) (held : Bool) (fuel : Nat) (cs : List Value) (x : DataW H × List MemPlace), DataW.trod en P w base spare held fuel t cs = some x → R w cs
theorem opn_int : Opn 3 (fun _ cs => ∃ n, cs = [.int .i64 n]) := by
  intro H en w base spare held fuel cs x h
  obtain ⟨n, rfl, _⟩ := DataW.trod_int Tryz.underlying3 h
  exact ⟨n, rfl⟩
theorem lists_of {α : Type} {q : Nat → α → Prop} : ∀ (n : Nat), (∀ i, i < n → ∃ y, q i y) → ∃ ys : List α, ys.length = n ∧ ∀ (j : Nat) (p : α), ys[j]? = some p → q j p
  | 0, _ => ⟨[], rfl, fun j p h => by simp at h⟩
  | n + 1, h => by
    obtain ⟨ys, hl, hy⟩ := lists_of n (fun i hi => h i (Nat.lt_succ_of_lt hi))
    obtain ⟨y, hq⟩ := h n (Nat.lt_succ_self n)
    refine ⟨ys ++ [y], by simp [hl], fun j p hp => ?_⟩
    rw [List.getElem?_append] at hp
    split at hp
    · exact hy j p hp
    · have hj := lt_of_get hp
      simp at hj
      have : j = n := by omega
      subst this
      rw [hl, Nat.sub_self] at hp
      cases hp
      exact hq
theorem flat_at {α : Type} [Enc α] : ∀ {l : List α} {j : Nat} {v : Value}, (l.flatMap enc)[j]? = some v → ∃ (k i : Nat) (x : α), j = k * sz α + i ∧ l[k]? = some x ∧ (enc x)[i]? = some v
  | [], j, v, h => by cases h
  | y :: l, j, v, h => by
    rw [List.flatMap_cons, List.getElem?_append, Enc.len] at h
    split at h
    · exact ⟨0, j, y, by omega, rfl, h⟩
    · rename_i hge
      obtain ⟨k, i, x, h1, h2, h3⟩ := flat_at h
      refine ⟨k + 1, i, x, ?_, h2, h3⟩
      rw [Nat.succ_mul]
      have h1' : j - sz α = k * sz α + i := h1
      have hge' : ¬ j < sz α := hge
      generalize k * sz α = kk at h1' ⊢
      generalize sz α = ss at h1' hge' ⊢
      omega
/-- A slice of what reads. -/
theorem opn_slice {α : Type} [Enc α] {t e : TypeId} {G : World → α → Prop} (ht : P.underlying t = some (.slice e)) (hc : P.cellsOf e = sz α) (he : Opn e (fun w cs => ∃ y : α, cs = enc y ∧ G w y)) :
    Opn t (fun w cs => ∃ (s : Sl) (l : List α), cs = [vS s] ∧ RL (fun _ => 0) w 0 s l ∧ ∀ y ∈ l, G w y) := by
  intro H en w base spare held fuel cs x h
  rcases Go.Deep.open_slice ht h with ⟨rfl, rfl⟩ | ⟨a, len, cap, m, n, D, Pl, rfl, _, hlc, hcm, hmm, rfl, hi⟩
  · exact ⟨⟨none, 0, 0⟩, [], rfl, RL.nil rfl, fun y hy => by cases hy⟩
  · have hlm : len ≤ m := by rw [hmm]; split <;> omega
    have hel : ∀ i, i < len → ∃ y : α, G w y ∧ ∀ j u, (enc y)[j]? = some u → w.cell? (a.add (i * sz α + j)) = some u := by
      intro i hil
      obtain ⟨cs', hcs, htr⟩ := hi i (by omega)
      obtain ⟨y, rfl, hG⟩ := he en w base spare held n cs' _ htr
      refine ⟨y, hG, fun j u hj => ?_⟩
      rw [hc] at hcs
      obtain ⟨_, _, hat⟩ := World.cells?_some hcs
      have hjl := lt_of_get hj
      rw [Enc.len] at hjl
      have h1 := hat j hjl
      rw [Go.Deep.add_add] at h1
      exact h1.trans hj
    obtain ⟨ys, hlen, hys⟩ := lists_of (q := fun i y => G w y ∧ ∀ j u, (enc y)[j]? = some u → w.cell? (a.add (i * sz α + j)) = some u) len hel
    refine ⟨⟨some a, len, cap⟩, ys, rfl, ⟨by rw [length_flat, hlen], Nat.le_trans hlc hcm, fun hne => ?_⟩, fun y hy => ?_⟩
    · obtain ⟨y, hy0⟩ : ∃ y, ys[0]? = some y := by
        cases ys with
        | nil => exact absurd rfl hne
        | cons y r => exact ⟨y, rfl⟩
      have hpos := Enc.pos (α := α)
      have hl0 : 0 < (enc y).length := by rw [Enc.len]; exact hpos
      have h0 := (hys 0 y hy0).2 0 _ (List.getElem?_eq_getElem hl0)
      have ha0 : a.add (0 * sz α + 0) = a := by simp [Addr.add]
      rw [ha0] at h0
      obtain ⟨b, off, sp⟩ := a
      have hsp : sp = none ∧ b < w.heap.size := by
        unfold World.cell? at h0
        split at h0
        · rename_i c t' fr hb
          split at h0
          · cases h0
          · rename_i hs
            exact ⟨by simpa using hs, lt_of_heap hb⟩
        · cases h0
      obtain ⟨rfl, hbl⟩ := hsp
      refine ⟨b, off, rfl, rfl, hbl, fun j v hj => ?_⟩
      obtain ⟨k, i, z, rfl, hk, hiz⟩ := flat_at hj
      have := (hys k z hk).2 i v hiz
      rwa [Addr.add_mk] at this
    · obtain ⟨i, hi'⟩ := List.mem_iff_getElem?.1 hy
      exact (hys i y hi').1
theorem take1 {cs : List Value} {i : Nat} {v : Value} (h : (cs.drop i).take 1 = [v]) : cs[i]? = some v := by
  have : ((cs.drop i).take 1)[0]? = some v := by rw [h]; rfl
  rw [List.getElem?_take_of_lt (by decide), List.getElem?_drop] at this
  exact this
/-- The fields of a struct that reads. -/
theorem opn_fields {t : TypeId} {fs : Array Field} (ht : P.underlying t = some (.struct fs)) {H : Type} {en : TypeId × Value → H} {w : World} {base : Nat} {spare : Nat → Bool} {held : Bool} {fuel : Nat} {cs : List Value} {x : DataW H × List MemPlace} (h : DataW.trod en P w base spare held fuel t cs = some x) :
    cs.length = P.cellsOf t ∧ ∀ (i : Nat) (f : Field) (R : World → List Value → Prop), fs[i]? = some f → Opn f.type R → R w ((cs.drop f.offset).take (P.cellsOf f.type)) := by
  obtain ⟨xs, n, _, rfl, hl, hlen, hf⟩ := DataW.trod_struct ht h
  refine ⟨hl, fun i f R hif hR => ?_⟩
  have h1 := hf i f hif
  have hi : i < xs.length := by
    have := (Array.getElem?_eq_some_iff.1 hif).1
    omega
  rw [List.getElem?_eq_getElem hi] at h1
  exact hR en w base spare held n _ _ h1
theorem c3 : P.cellsOf 3 = 1 := by kernel_rfl
theorem c22 : P.cellsOf 22 = 1 := by kernel_rfl
theorem c23 : P.cellsOf 23 = 1 := by kernel_rfl
theorem c24 : P.cellsOf 24 = 1 := by kernel_rfl
theorem c35 : P.cellsOf 35 = 1 := by kernel_rfl
theorem c37 : P.cellsOf 37 = 4 := by kernel_rfl
theorem opn_level : Opn 93 (fun w cs => ∃ y : Level, cs = enc y ∧ True) := by
  intro H en w base spare held fuel cs x h
  obtain ⟨hl, hf⟩ := opn_fields Tryz.underlying93 h
  have h0 : ∃ n, (cs.drop 0).take (P.cellsOf 3) = [.int .i64 n] := hf 0 _ _ rfl opn_int
  obtain ⟨a0, h0⟩ := h0
  rw [c3] at h0
  have h0 := take1 h0
  have h1 : ∃ n, (cs.drop 1).take (P.cellsOf 3) = [.int .i64 n] := hf 1 _ _ rfl opn_int
  obtain ⟨a1, h1⟩ := h1
  rw [c3] at h1
  have h1 := take1 h1
  refine ⟨⟨a0, a1⟩, List.ext_getElem? fun j => ?_, trivial⟩
  have hl : cs.length = 2 := hl.trans (by kernel_rfl)
  match j with
  | 0 => exact h0
  | 1 => exact h1
  | j + 2 => rw [List.getElem?_eq_none (by omega)]; rfl
theorem opn_sleep : Opn 105 (fun w cs => ∃ y : Sleep, cs = enc y ∧ True) := by
  intro H en w base spare held fuel cs x h
  obtain ⟨hl, hf⟩ := opn_fields Tryz.underlying105 h
  have h0 : ∃ n, (cs.drop 0).take (P.cellsOf 3) = [.int .i64 n] := hf 0 _ _ rfl opn_int
  obtain ⟨a0, h0⟩ := h0
  rw [c3] at h0
  have h0 := take1 h0
  have h1 : ∃ n, (cs.drop 1).take (P.cellsOf 3) = [.int .i64 n] := hf 1 _ _ rfl opn_int
  obtain ⟨a1, h1⟩ := h1
  rw [c3] at h1
  have h1 := take1 h1
  have h2 : ∃ n, (cs.drop 2).take (P.cellsOf 3) = [.int .i64 n] := hf 2 _ _ rfl opn_int
  obtain ⟨a2, h2⟩ := h2
  rw [c3] at h2
  have h2 := take1 h2
  have h3 : ∃ n, (cs.drop 3).take (P.cellsOf 3) = [.int .i64 n] := hf 3 _ _ rfl opn_int
  obtain ⟨a3, h3⟩ := h3
  rw [c3] at h3
  have h3 := take1 h3
  have h4 : ∃ n, (cs.drop 4).take (P.cellsOf 3) = [.int .i64 n] := hf 4 _ _ rfl opn_int
  obtain ⟨a4, h4⟩ := h4
  rw [c3] at h4
  have h4 := take1 h4
  have h5 : ∃ n, (cs.drop 5).take (P.cellsOf 3) = [.int .i64 n] := hf 5 _ _ rfl opn_int
  obtain ⟨a5, h5⟩ := h5
  rw [c3] at h5
  have h5 := take1 h5
  refine ⟨⟨a0, a1, a2, a3, a4, a5⟩, List.ext_getElem? fun j => ?_, trivial⟩
  have hl : cs.length = 6 := hl.trans (by kernel_rfl)
  match j with
  | 0 => exact h0
  | 1 => exact h1
  | 2 => exact h2
  | 3 => exact h3
  | 4 => exact h4
  | 5 => exact h5
  | j + 6 => rw [List.getElem?_eq_none (by omega)]; rfl
theorem opn_device : Opn 58 (fun w cs => ∃ y : Device, cs = enc y ∧ True) := by
  intro H en w base spare held fuel cs x h
  obtain ⟨hl, hf⟩ := opn_fields Tryz.underlying58 h
  have h0 : ∃ n, (cs.drop 0).take (P.cellsOf 3) = [.int .i64 n] := hf 0 _ _ rfl opn_int
  obtain ⟨a0, h0⟩ := h0
  rw [c3] at h0
  have h0 := take1 h0
  have h1 : ∃ n, (cs.drop 1).take (P.cellsOf 3) = [.int .i64 n] := hf 1 _ _ rfl opn_int
  obtain ⟨a1, h1⟩ := h1
  rw [c3] at h1
  have h1 := take1 h1
  have h2 : ∃ n, (cs.drop 2).take (P.cellsOf 3) = [.int .i64 n] := hf 2 _ _ rfl opn_int
  obtain ⟨a2, h2⟩ := h2
  rw [c3] at h2
  have h2 := take1 h2
  have h3 : ∃ n, (cs.drop 3).take (P.cellsOf 3) = [.int .i64 n] := hf 3 _ _ rfl opn_int
  obtain ⟨a3, h3⟩ := h3
  rw [c3] at h3
  have h3 := take1 h3
  have h4 : ∃ n, (cs.drop 4).take (P.cellsOf 3) = [.int .i64 n] := hf 4 _ _ rfl opn_int
  obtain ⟨a4, h4⟩ := h4
  rw [c3] at h4
  have h4 := take1 h4
  have h5 : ∃ n, (cs.drop 5).take (P.cellsOf 3) = [.int .i64 n] := hf 5 _ _ rfl opn_int
  obtain ⟨a5, h5⟩ := h5
  rw [c3] at h5
  have h5 := take1 h5
  have h6 : ∃ n, (cs.drop 6).take (P.cellsOf 3) = [.int .i64 n] := hf 6 _ _ rfl opn_int
  obtain ⟨a6, h6⟩ := h6
  rw [c3] at h6
  have h6 := take1 h6
  refine ⟨⟨a0, a1, a2, a3, a4, a5, a6⟩, List.ext_getElem? fun j => ?_, trivial⟩
  have hl : cs.length = 7 := hl.trans (by kernel_rfl)
  match j with
  | 0 => exact h0
  | 1 => exact h1
  | 2 => exact h2
  | 3 => exact h3
  | 4 => exact h4
  | 5 => exact h5
  | 6 => exact h6
  | j + 7 => rw [List.getElem?_eq_none (by omega)]; rfl
/-- A task that reads. -/
theorem opn_task : Opn 37 (fun w cs => ∃ y : ATask, cs = y.t.l ∧ TaskR (fun _ => 0) w y) := by
  intro H en w base spare held fuel cs x h
  obtain ⟨hl, hf⟩ := opn_fields Tryz.underlying37 h
  have hI : Opn 35 (fun w cs => ∃ (s : Sl) (l : List Int), cs = [vS s] ∧ RL (fun _ => 0) w 0 s l ∧ ∀ y ∈ l, True) := opn_slice Tryz.underlying35 (by kernel_rfl) (fun en w base spare held fuel cs x h => by
    obtain ⟨n, rfl⟩ := opn_int en w base spare held fuel cs x h
    exact ⟨n, rfl, trivial⟩)
  have h0 : ∃ n, (cs.drop 0).take (P.cellsOf 3) = [.int .i64 n] := hf 0 _ _ rfl opn_int
  have h1 : ∃ n, (cs.drop 1).take (P.cellsOf 3) = [.int .i64 n] := hf 1 _ _ rfl opn_int
  have h2 : ∃ (s : Sl) (l : List Int), (cs.drop 2).take (P.cellsOf 35) = [vS s] ∧ RL (fun _ => 0) w 0 s l ∧ ∀ y ∈ l, True := hf 2 _ _ rfl hI
  have h3 : ∃ (s : Sl) (l : List Int), (cs.drop 3).take (P.cellsOf 35) = [vS s] ∧ RL (fun _ => 0) w 0 s l ∧ ∀ y ∈ l, True := hf 3 _ _ rfl hI
  obtain ⟨a0, h0⟩ := h0
  obtain ⟨a1, h1⟩ := h1
  obtain ⟨s2, l2, h2, r2, _⟩ := h2
  obtain ⟨s3, l3, h3, r3, _⟩ := h3
  rw [c3] at h0 h1
  rw [c35] at h2 h3
  have h0 := take1 h0
  have h1 := take1 h1
  have h2 := take1 h2
  have h3 := take1 h3
  refine ⟨⟨⟨a0, a1, s2, s3⟩, l2, l3⟩, List.ext_getElem? fun j => ?_, r2, r3⟩
  have hl : cs.length = 4 := hl.trans (by kernel_rfl)
  match j with
  | 0 => exact h0
  | 1 => exact h1
  | 2 => exact h2
  | 3 => exact h3
  | j + 4 => rw [List.getElem?_eq_none (by omega)]; rfl
/-- A step that reads: as its cells, and its task. -/
theorem opn_step : Opn 39 (fun w cs => ∃ y : ASt, cs = y.st.l ∧ TaskR (fun _ => 0) w y.t) := by
  intro H en w base spare held fuel cs x h
  obtain ⟨hl, hf⟩ := opn_fields Tryz.underlying39 h
  have h0 : ∃ n, (cs.drop 0).take (P.cellsOf 3) = [.int .i64 n] := hf 0 _ _ rfl opn_int
  have h1 : ∃ n, (cs.drop 1).take (P.cellsOf 3) = [.int .i64 n] := hf 1 _ _ rfl opn_int
  have h2 : ∃ n, (cs.drop 2).take (P.cellsOf 3) = [.int .i64 n] := hf 2 _ _ rfl opn_int
  have h3 : ∃ n, (cs.drop 3).take (P.cellsOf 3) = [.int .i64 n] := hf 3 _ _ rfl opn_int
  have h4 : ∃ y : ATask, (cs.drop 4).take (P.cellsOf 37) = y.t.l ∧ TaskR (fun _ => 0) w y := hf 4 _ _ rfl opn_task
  obtain ⟨a0, h0⟩ := h0
  obtain ⟨a1, h1⟩ := h1
  obtain ⟨a2, h2⟩ := h2
  obtain ⟨a3, h3⟩ := h3
  obtain ⟨y, h4, hy⟩ := h4
  rw [c3] at h0 h1 h2 h3
  rw [c37] at h4
  have h0 := take1 h0
  have h1 := take1 h1
  have h2 := take1 h2
  have h3 := take1 h3
  have hl : cs.length = 8 := hl.trans (by kernel_rfl)
  have h4' : ∀ i, i < 4 → cs[4 + i]? = y.t.l[i]? := fun i hi => by rw [← h4, List.getElem?_take_of_lt hi, List.getElem?_drop]
  refine ⟨⟨a0, a1, a2, a3, y⟩, List.ext_getElem? fun j => ?_, hy⟩
  match j with
  | 0 => exact h0
  | 1 => exact h1
  | 2 => exact h2
  | 3 => exact h3
  | 4 => exact h4' 0 (by decide)
  | 5 => exact h4' 1 (by decide)
  | 6 => exact h4' 2 (by decide)
  | 7 => exact h4' 3 (by decide)
  | j + 8 => rw [List.getElem?_eq_none (by omega)]; rfl
/-- A machine that reads. -/
theorem opn_mach : Opn 26 (fun w cs => ∃ m : Mach, cs = m.p.l ∧ MachR (fun _ => 0) w m) := by
  intro H en w base spare held fuel cs x h
  obtain ⟨hl, hf⟩ := opn_fields Tryz.underlying26 h
  have h0 : ∃ (s : Sl) (l : List Level), (cs.drop 0).take (P.cellsOf 22) = [vS s] ∧ RL (fun _ => 0) w 0 s l ∧ ∀ y ∈ l, True := hf 0 _ _ rfl (opn_slice Tryz.underlying22 (by kernel_rfl) opn_level)
  have h1 : ∃ (s : Sl) (l : List Sleep), (cs.drop 1).take (P.cellsOf 23) = [vS s] ∧ RL (fun _ => 0) w 0 s l ∧ ∀ y ∈ l, True := hf 1 _ _ rfl (opn_slice Tryz.underlying23 (by kernel_rfl) opn_sleep)
  have h2 : ∃ (s : Sl) (l : List Device), (cs.drop 2).take (P.cellsOf 24) = [vS s] ∧ RL (fun _ => 0) w 0 s l ∧ ∀ y ∈ l, True := hf 2 _ _ rfl (opn_slice Tryz.underlying24 (by kernel_rfl) opn_device)
  have h3 : ∃ n, (cs.drop 3).take (P.cellsOf 3) = [.int .i64 n] := hf 3 _ _ rfl opn_int
  have h4 : ∃ n, (cs.drop 4).take (P.cellsOf 3) = [.int .i64 n] := hf 4 _ _ rfl opn_int
  have h5 : ∃ n, (cs.drop 5).take (P.cellsOf 3) = [.int .i64 n] := hf 5 _ _ rfl opn_int
  have h6 : ∃ n, (cs.drop 6).take (P.cellsOf 3) = [.int .i64 n] := hf 6 _ _ rfl opn_int
  have h7 : ∃ n, (cs.drop 7).take (P.cellsOf 3) = [.int .i64 n] := hf 7 _ _ rfl opn_int
  have h8 : ∃ n, (cs.drop 8).take (P.cellsOf 3) = [.int .i64 n] := hf 8 _ _ rfl opn_int
  obtain ⟨s0, l0, h0, r0, _⟩ := h0
  obtain ⟨s1, l1, h1, r1, _⟩ := h1
  obtain ⟨s2, l2, h2, r2, _⟩ := h2
  obtain ⟨a3, h3⟩ := h3
  rw [c3] at h3
  have h3 := take1 h3
  obtain ⟨a4, h4⟩ := h4
  rw [c3] at h4
  have h4 := take1 h4
  obtain ⟨a5, h5⟩ := h5
  rw [c3] at h5
  have h5 := take1 h5
  obtain ⟨a6, h6⟩ := h6
  rw [c3] at h6
  have h6 := take1 h6
  obtain ⟨a7, h7⟩ := h7
  rw [c3] at h7
  have h7 := take1 h7
  obtain ⟨a8, h8⟩ := h8
  rw [c3] at h8
  have h8 := take1 h8
  rw [c22] at h0
  rw [c23] at h1
  rw [c24] at h2
  have h0 := take1 h0
  have h1 := take1 h1
  have h2 := take1 h2
  have hl : cs.length = 9 := hl.trans (by kernel_rfl)
  refine ⟨⟨⟨s0, s1, s2, a3, a4, a5, a6, a7, a8⟩, l0, l1, l2⟩, List.ext_getElem? fun j => ?_, r0, r1, r2⟩
  match j with
  | 0 => exact h0
  | 1 => exact h1
  | 2 => exact h2
  | 3 => exact h3
  | 4 => exact h4
  | 5 => exact h5
  | 6 => exact h6
  | 7 => exact h7
  | 8 => exact h8
  | j + 9 => rw [List.getElem?_eq_none (by omega)]; rfl
theorem opn_steps : Opn 27 (fun w cs => ∃ (s : Sl) (l : List ASt), cs = [vS s] ∧ StepsR (fun _ => 0) w s l) := by
  intro H en w base spare held fuel cs x h
  have hS : Opn 27 (fun w cs => ∃ (s : Sl) (l : List Step), cs = [vS s] ∧ RL (fun _ => 0) w 0 s l ∧ ∀ y ∈ l, ∃ z : ASt, y = z.st ∧ TaskR (fun _ => 0) w z.t) := opn_slice Tryz.underlying27 (by kernel_rfl) (fun en w base spare held fuel cs x h => by
    obtain ⟨y, rfl, hy⟩ := opn_step en w base spare held fuel cs x h
    exact ⟨y.st, rfl, y, rfl, hy⟩)
  obtain ⟨s, l, rfl, hr, hall⟩ := hS en w base spare held fuel cs x h
  have key : ∀ l : List Step, (∀ y ∈ l, ∃ z : ASt, y = z.st ∧ TaskR (fun _ => 0) w z.t) → ∃ l' : List ASt, l = l'.map ASt.st ∧ ∀ z ∈ l', TaskR (fun _ => 0) w z.t := by
    intro l
    induction l with
    | nil => exact fun _ => ⟨[], rfl, fun z hz => by cases hz⟩
    | cons y l ih =>
      intro h
      obtain ⟨z, rfl, hz⟩ := h y (.head _)
      obtain ⟨l', rfl, hl'⟩ := ih fun u hu => h u (.tail _ hu)
      refine ⟨z :: l', rfl, fun u hu => ?_⟩
      rcases List.mem_cons.1 hu with rfl | hu
      · exact hz
      · exact hl' u hu
  obtain ⟨l', rfl, hl'⟩ := key l hall
  exact ⟨s, l', rfl, hr, hl'⟩
end Go.Proofs.YtajilfnceoeaiaaGreat.V
/- What the rows of these laws need. -/
namespace Go.Proofs.YtajilfnceoeaiaaGreat.V
open Go Go.RowKit Go.ChangeShapes Go.WideShapes
theorem agg_arg {v : Value} {cs : Array Value} {l : List Value} (hv : v = .agg cs) (h : v.cells.toList = l) : v = .agg l.toArray := by
  subst hv
  simp only [Value.cells] at h
  rw [← h]
theorem one_arg {v v' : Value} {a : Option Addr} {n c : Nat} (hv : v = .slice a n c) (h : v.cells.toList = [v']) : v = v' := by
  subst hv
  simpa [Value.cells] using h
theorem StepsR.still {o : Own} {w : World} {s : Sl} {l : List ASt} (h : StepsR o w s l) : StepsR (still w) w s l := ⟨h.rl.still, fun x hx => (h.each x hx).still⟩
theorem bulk_pos {H : Type} (d : DataW H) : 1 ≤ Rows.uptoBulk d := by
  cases d with
  | lit l => cases l <;> simp [Rows.uptoBulk]
  | nil => simp [Rows.uptoBulk]
  | ptr d => simp [Rows.uptoBulk]
  | slice elems spare => simp [Rows.uptoBulk]
  | agg parts => simp [Rows.uptoBulk]
  | iface t d => simp [Rows.uptoBulk]
  | map entries => simp [Rows.uptoBulk]
  | held h => simp [Rows.uptoBulk]
theorem bulk_length {H : Type} (l : List (DataW H)) : l.length ≤ Rows.uptoBulkAll l := by
  induction l with
  | nil => simp [Rows.uptoBulkAll]
  | cons x r ih => have := bulk_pos x; simp only [Rows.uptoBulkAll, List.length_cons]; omega
theorem slice_bulk {H : Type} {enc : TypeId × Value → H} {P : Program} {w : World} {base : Nat} {spare : Nat → Bool} {held : Bool} {t e : TypeId} {a : Option Addr} {len cap : Nat} {d : DataW H} {ps : List MemPlace}
    (ht : P.underlying t = some (.slice e)) (h : DataW.Trod enc P w base spare held t (.slice a len cap) d ps) : len ≤ Rows.uptoBulk d := by
  obtain ⟨fuel, hf⟩ := h
  rcases Go.Deep.open_slice ht hf with ⟨hcs, _⟩ | ⟨a', len', cap', m, n, D, Pl, hcs, _, _, _, _, hx, _⟩
  · simp [Value.cells] at hcs
    omega
  · simp [Value.cells] at hcs
    obtain ⟨rfl, rfl, rfl⟩ := hcs
    obtain ⟨hx, _⟩ := Prod.mk.inj hx
    subst hx
    have := bulk_length ((List.range len).map D)
    simp only [List.length_map, List.length_range] at this
    simp only [Rows.uptoBulk]
    omega
end Go.Proofs.YtajilfnceoeaiaaGreat.V
