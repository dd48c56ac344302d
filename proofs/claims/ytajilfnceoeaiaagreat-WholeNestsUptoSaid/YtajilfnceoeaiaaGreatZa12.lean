/- Parts of the proof: What the smallest kernel answers: the function. boot, none, Scripts; laws' loops over them, How arguments read: machines, tasks, scripts, What the rows of these laws need. -/
import Derived.Test.YtajilfnceoeaiaaGreatZa11
import Derived.Deep.Slices
import Derived.SizedLaws
import Derived.ChangeArms
import Derived.Test.YtajilfnceoeaiaaGreatRows
import Derived.WalkKit
set_option linter.unusedVariables false
set_option linter.unusedSimpArgs false
/- What the smallest kernel answers: the function. boot, none. -/
namespace Go.Proofs.YtajilfnceoeaiaaGreat.V
open Go Go.RowKit Enc
set_option maxRecDepth 100000
theorem eqEvent (a b c d a' b' c' d' : Int) (w : World) : (do eqGuard .eql 45 (.tmp 62) (.tmp 63) (.agg #[.int .i64 a, .int .i64 b, .int .i64 c, .int .i64 d]) (.agg #[.int .i64 a', .int .i64 b', .int .i64 c', .int .i64 d']); binOp .eql 45 (.agg #[.int .i64 a, .int .i64 b, .int .i64 c, .int .i64 d]) (.agg #[.int .i64 a', .int .i64 b', .int .i64 c', .int .i64 d']) : Sem Value).run P w = .ok (.bool (a == a' && b == b' && c == c' && d == d')) w := by
  have hf : (P.fieldsOf 45).toList = [⟨ "Kind", 3, 0, false, "", "", 0⟩, ⟨ "Task", 3, 1, false, "", "", 8⟩, ⟨ "At", 3, 2, false, "", "", 16⟩, ⟨ "Due", 3, 3, false, "", "", 24⟩] := by kernel_rfl
  have hu : P.underlying 45 = some (.struct (P.fieldsOf 45)) := by kernel_rfl
  have hi : P.underlying 3 = some (.int .i64) := by kernel_rfl
  rw [Sem.run_bind, run_eqGuard_agg w .eql 45 _ _ _ _ (by kernel_rfl), Result.andThen_ok, run_eql_struct, run_equalIn_agg w 9999 45 _ _ hu (by kernel_rfl), hf]
  have p0 : ∀ x y z u : Int, (Go.part 3 #[.int .i64 x, .int .i64 y, .int .i64 z, .int .i64 u] 0).run P w = .ok (.int .i64 x) w := fun x y z u => rfl
  have p1 : ∀ x y z u : Int, (Go.part 3 #[.int .i64 x, .int .i64 y, .int .i64 z, .int .i64 u] 1).run P w = .ok (.int .i64 y) w := fun x y z u => rfl
  have p2 : ∀ x y z u : Int, (Go.part 3 #[.int .i64 x, .int .i64 y, .int .i64 z, .int .i64 u] 2).run P w = .ok (.int .i64 z) w := fun x y z u => rfl
  have p3 : ∀ x y z u : Int, (Go.part 3 #[.int .i64 x, .int .i64 y, .int .i64 z, .int .i64 u] 3).run P w = .ok (.int .i64 u) w := fun x y z u => rfl
  have he : ∀ x y : Int, (Op.equalIn 9999 3 (.int .i64 x) (.int .i64 y)).run P w = .ok (x == y) w := fun x y => run_equalIn_int w 9998 3 .i64 .i64 x y hi
  unfold Op.eqFields Op.eqFields Op.eqFields Op.eqFields Op.eqFields
  simp only [ne_eq, show ("Kind" : String) ≠ "_" from by decide, show ("Task" : String) ≠ "_" from by decide, show ("At" : String) ≠ "_" from by decide, show ("Due" : String) ≠ "_" from by decide, not_false_eq_true, if_true, Sem.run_bind, p0, p1, p2, p3, Result.andThen_ok, he, Sem.run_ite, Sem.run_pure]
  by_cases h0 : a = a' <;> by_cases h1 : b = b' <;> by_cases h2 : c = c' <;> by_cases h3 : d = d' <;> simp [h0, h1, h2, h3]
theorem s0_inv {m : Mach} (t : Tab m) : KInv m 0 20000000 (s0 m) := by
  have hc := t.mok.crit
  have hb : baseW (s0 m) = 0 := rfl
  refine ⟨⟨⟨hc, by simp [s0], by simp [s0], by simp [s0], by simp [s0], by simp [s0], fun x hx => ?_, fun x hx => (by cases hx), by simp [s0], ⟨Int.le_refl _, hc.lo⟩, by simp [s0], by simp [s0]⟩, by simp [s0]⟩, t.mok, fun k x hk => (by cases hk), fun x hx => (by cases hx), fun h => (by cases h), fun k x hk => (by cases hk), fun k x hk => (by cases hk), ⟨Int.le_refl _, by simp [s0]⟩, ⟨Int.le_refl _, by simp [s0]⟩, rfl, fun x hx => ?_, ⟨by simp [s0], fun x hx => (by cases hx)⟩, Nat.le_refl _, ?_, ?_, by decide, by decide⟩
  · rw [List.eq_of_mem_replicate hx]; exact Int.le_refl _
  · rw [List.eq_of_mem_replicate hx]; exact ⟨Nat.zero_le _, Nat.zero_le _, fun h => absurd rfl h⟩
  · show 0 + psi m (s0 m) ≤ 20000000
    rw [psi_awake rfl, hb]
    show 0 + ((17000 - 0 : Int).toNat * 1000 + (0 + 1)) ≤ 20000000
    decide
  · exact Nat.zero_le _
section
variable {o o' : Own} {w w' : World} {m : Mach}
def mLeast (p : Plat) : Mach := ⟨p, [⟨1, 2⟩], [], []⟩
theorem leastTab (p : Plat) (h1 : p.idle = 0) (h2 : p.crit = 0) (h3 : p.switch = 0) (h4 : p.switchE = 0) (h5 : p.sems = 0) (h6 : p.horizon = 50) (_ : True = True) : Tab (mLeast p) := by
  refine ⟨Nat.le_refl 1, (by decide : 1 ≤ 4), (by decide : 0 ≤ 3), (by decide : 0 ≤ 3), ?_, ?_, ?_, ?_, ?_, ?_, fun i x hx => ?_, fun i x y hy hx => ?_, fun i x y hc hy hx => ?_, fun i x hx => (by cases hx), fun i x hx => (by cases hx)⟩
  · show 0 ≤ p.idle ∧ p.idle ≤ 65536
    omega
  · show 0 ≤ p.crit ∧ p.crit < 1
    omega
  · show 0 ≤ p.switch ∧ p.switch ≤ 256
    omega
  · show 0 ≤ p.switchE ∧ p.switchE ≤ 65536
    omega
  · show 0 ≤ p.sems ∧ p.sems ≤ 3
    omega
  · show 1 ≤ p.horizon ∧ p.horizon ≤ 16384
    omega
  · cases i with
    | zero => cases hx; decide
    | succ i => cases hx
  · cases hx
  · cases hx
theorem taskNil (o : Own) (w : World) (a b : Int) : TaskR o w ⟨⟨a, b, ⟨none, 0, 0⟩, ⟨none, 0, 0⟩⟩, [], []⟩ := ⟨RL.nil rfl, RL.nil rfl⟩
theorem answers_spec (o : Own) (w : World) : Call P 15 [] [sB] (fun b w' => b = true ∧ ∃ o', Up kl o w o' w') w := by
  refine f15_of (New_blk o 0 fun b1 o1 w1 k1 u1 _ => ?_)
  have hmL : RL o1 w1 0 ⟨some ⟨b1, 0, none⟩, 1, 1⟩ [(⟨1, 2⟩ : Level)] := k1.rd1 rfl
  let p : Plat := ⟨⟨some ⟨b1, 0, none⟩, 1, 1⟩, ⟨none, 0, 0⟩, ⟨none, 0, 0⟩, 0, 0, 0, 0, 0, 50⟩
  have hm : MachR o1 w1 (mLeast p) := ⟨hmL, RL.nil rfl, RL.nil rfl⟩
  have ht : Tab (mLeast p) := leastTab _ rfl rfl rfl rfl rfl rfl rfl
  have hn := new_spec hm ht
  refine hn.imp2 ?_
  rintro pk e w2 ⟨rfl, a, q, x, y, z, o2, rfl, h, u2⟩
  have hl : Least (pl (mLeast p) x y z) := ⟨rfl, rfl, rfl, rfl, rfl, rfl, rfl, rfl, rfl⟩
  have ht' : Tab (pl (mLeast p) x y z) := ⟨ht.l1, ht.l4, ht.s3, ht.d3, ht.idle, ht.crit, ht.sw, ht.swE, ht.sems, ht.hor, ht.lev, ht.inc, ht.eff, ht.slp, ht.dev⟩
  have iv := s0_inv ht'
  generalize pl (mLeast p) x y z = m at h hl ht' iv
  refine If_f (If_f ?_)
  have hd := do_spec h iv (by decide) (by decide) (x1 ⟨10, 2, ⟨none, 0, 0⟩, ⟨none, 0, 0⟩⟩) (taskNil _ _ _ _)
  refine hd.imp2 ?_
  rintro (n : Int) (e1 : Int) w3 ⟨s1, d1, iv1, q1, o3, h1, u3⟩
  obtain ⟨rfl, a1⟩ := ans1 hl ⟨rfl, rfl, rfl, rfl, rfl, rfl, rfl, rfl, rfl, rfl, rfl, rfl, rfl, rfl, rfl⟩ ⟨rfl, rfl⟩ d1
  have hd := do_spec h1 iv1 (by decide) (by decide) (x2 ⟨0, 0, ⟨none, 0, 0⟩, ⟨none, 0, 0⟩⟩) (taskNil _ _ _ _)
  refine hd.imp2 ?_
  rintro (n : Int) (e2 : Int) w4 ⟨s2, d2, iv2, q2, o4, h2, u4⟩
  obtain ⟨rfl, a2⟩ := ans2 a1 hl d2
  have hd := do_spec h2 iv2 (by decide) (by decide) (x3 ⟨0, 0, ⟨none, 0, 0⟩, ⟨none, 0, 0⟩⟩) (taskNil _ _ _ _)
  refine hd.imp2 ?_
  rintro (n : Int) (e3 : Int) w5 ⟨s3, d3, iv3, q3, o5, h3, u5⟩
  obtain ⟨rfl, g1, g2, g3⟩ := ans3 hl a2 d3
  have he := events_spec h3 iv3.events
  refine he.imp1 ?_
  rintro se w6 ⟨o6, r6, u6⟩
  have h3 := h3.upno u6
  have U : Up kl o w o6 w6 := ((((u1.trans u2).of_no.trans u3).trans u4).trans u5).trans u6.of_no
  rw [g3] at r6
  have hn6 := r6.n
  have hn2 : se.n = 2 := hn6
  refine If_t (If_t (If_t ?_))
  refine If_eq (fun _ => ?_) fun h => absurd (by rw [hn2]; rfl) h
  refine r6.event (i := 1) (k := 1) (x := ⟨2, 0, 2, 10⟩) rfl rfl ?_
  refine ⟨w6, _, eqEvent _ _ _ _ _ _ _ _ _, If_t ?_⟩
  have hme := meter_spec h3
  refine hme.impI4 ?_
  rintro n1 n2 n3 n4 w7 ⟨em, u7⟩
  have hr : n1 = 4 := by
    have := congrArg Meter.run em
    rw [g2] at this
    exact this
  refine If_eq (fun _ => ?_) fun h => absurd hr h
  have hno := now_spec (h3.below u7)
  refine hno.imp1 ?_
  rintro r w8 ⟨rfl, rfl⟩
  rw [g1]
  exact ⟨rfl, o6, U.trans (Up.of_below u7)⟩
theorem answers_below (w : World) : Call P 15 [] [sB] (fun b w' => b = true ∧ Below w.heap.size w w') w := by
  have ha := answers_spec (still w) w
  refine ha.imp1 ?_
  rintro b w1 ⟨rfl, o1, u1⟩
  exact ⟨rfl, u1.quiet (by decide)⟩
/-- A new kernel of a machine that may be; else none. -/
theorem boot_spec (h : MachR o w m) : Call P 11 [m.p.v] [sP] (fun p w' => (Tab m ∧ ∃ a q x y z o', p = some ⟨a, 0, none⟩ ∧ KRep o' w' (pl m x y z) a q (s0 (pl m x y z)) ∧ Up no o w o' w') ∨ (¬ Tab m ∧ p = none ∧ Below w.heap.size w w')) w := by
  refine f11_of _ (New_of fun b1 w1 c1 u1 => c1.ldPlat (x := m.p) ?_)
  have h := h.below u1
  have ht := table_spec h
  refine ht.imp1 ?_
  rintro b w2 ⟨u2, hb⟩
  refine If_not (If_b (fun e => ?_) fun e => ?_)
  · have t := hb.1 e
    have h := h.below u2
    refine (c1.below u2).ldPlat (x := m.p) ?_
    have hn := new_spec h t
    refine hn.imp2 ?_
    rintro pk e w3 ⟨rfl, a, q, x, y, z, o2, rfl, hk, u3⟩
    exact If_f (.inl ⟨t, a, q, x, y, z, o2, rfl, hk, (Up.of_below (u1.on u2)).trans u3⟩)
  · exact .inr ⟨fun t => (by rw [hb.2 t] at e; cases e), rfl, u1.on u2⟩
theorem none_spec (h : MachR o w m) (ht : ¬ Tab m) : Call P 12 [m.p.v] [sB] (fun b w' => b = true ∧ ∃ o', Up kl o w o' w') w := by
  refine f12_of _ (New_blk o 0 fun b1 o1 w1 k1 u1 _ => ?_)
  have h := h.up u1 rfl
  have ha := answers_spec o1 w1
  refine ha.imp1 ?_
  rintro b w2 ⟨rfl, o2, u2⟩
  have h := h.up u2 (by decide)
  have k1 := k1.up u2 (by decide)
  refine If_t (k1.bx.ldPlat (x := m.p) ?_)
  have hb := table_spec h
  refine hb.imp1 ?_
  rintro b w3 ⟨u3, hb⟩
  refine ⟨?_, o2, (u1.of_no.trans u2).trans (Up.of_below u3)⟩
  cases b with
  | false => rfl
  | true => exact absurd (hb.1 rfl) ht
end
end Go.Proofs.YtajilfnceoeaiaaGreat.V
/- Scripts; laws' loops over them. -/
namespace Go.Proofs.YtajilfnceoeaiaaGreat.V
open Go Go.RowKit Enc
set_option maxRecDepth 100000
instance : Enc Step := ⟨Step.l, 8, fun _ => rfl, by decide⟩
/-- A script, in memory. -/
structure StepsR (o : Own) (w : World) (s : Sl) (l : List ASt) : Prop where
  rl : RL o w 0 s (l.map ASt.st)
  each : ∀ x ∈ l, TaskR o w x.t
section
variable {o o' : Own} {w w' : World} {m : Mach} {s : Sl} {l : List ASt} {C : Nat → Bool}
theorem StepsR.up (h : StepsR o w s l) (u : Up C o w o' w') (hC : C 0 = false) : StepsR o' w' s l := ⟨h.rl.up u hC, fun x hx => (h.each x hx).up u hC⟩
theorem StepsR.n (h : StepsR o w s l) : s.n = l.length := by
  have := h.rl.n
  rwa [List.length_map] at this
theorem StepsR.step (h : StepsR o w s l) {i : Int} {k : Nat} {x : ASt} (hi : i = (k : Int)) (hx : l[k]? = some x) {K : Int → Int → Int → Int → Int → Int → Sl → Sl → World → Prop} (hk : K x.st.kind x.st.a x.st.b x.st.c x.st.period x.st.cycles x.st.sec x.st.devs w) :
    ((0 : Int) ≤ i ∧ i < ((s.n : Nat) : Int)) ∧ WithAddr s.a fun a => LdN shStep.cs 0 (a.add (Int.toNat i * 8)) K w :=
  h.rl.ldN hi (x := x.st) (by rw [List.getElem?_map, hx]; rfl) (cs := shStep.cs) (K := K) rfl hk
def kz : Nat → Bool := fun d => kl d
def budB (k : Nat) : Nat := 20000000 + 70000 * k
/-- Behind so many steps of a script. -/
structure LawS (o : Own) (w : World) (m : Mach) (a : Nat) (k : Nat) (o' : Own) (w' : World) (q : KPtr) (s : KS) : Prop where
  h : KRep o' w' m a q s
  iv : KInv m k (budB k) s
  U : Up kl o w o' w'
theorem LawS.doo {o1 : Own} {w1 : World} {a k : Nat} {q : KPtr} {s : KS} (L : LawS o w m a k o1 w1 q s) (hk : k < 1100000) (x : ASt) (hx : TaskR o1 w1 x.t) :
    Call P 13 [vP a, x.st.v] [sI, sI] (fun n e w' => ∃ s', DoR m s x n e s' ∧ ∃ q' o', LawS o w m a (k + 1) o' w' q' s' ∧ Up kl o1 w1 o' w') w1 := by
  have hd := do_spec L.h L.iv (by omega) (by unfold budB bigN; omega) x hx
  refine hd.imp2 ?_
  rintro n e w2 ⟨s', d, iv, q', o', h', u'⟩
  refine ⟨s', d, q', o', ⟨h', ?_, L.U.trans u'⟩, u'⟩
  have : budB (k + 1) = budB k + 70000 := by unfold budB; omega
  rw [this]
  exact iv
theorem LawS.below {o1 : Own} {w1 w2 : World} {a k : Nat} {q : KPtr} {s : KS} (L : LawS o w m a k o1 w1 q s) (u : Below w1.heap.size w1 w2) : LawS o w m a k o1 w2 q s := ⟨L.h.below u, L.iv, L.U.trans (Up.of_below u)⟩
theorem LawS.upno {o1 o2 : Own} {w1 w2 : World} {a k : Nat} {q : KPtr} {s : KS} (L : LawS o w m a k o1 w1 q s) (u : Up no o1 w1 o2 w2) : LawS o w m a k o2 w2 q s := ⟨L.h.upno u, L.iv, L.U.trans u.of_no⟩
theorem LawS.skip {o1 : Own} {w1 : World} {a k : Nat} {q : KPtr} {s : KS} (L : LawS o w m a k o1 w1 q s) (hk : k < 1100000) : LawS o w m a (k + 1) o1 w1 q s := ⟨L.h, L.iv.mono (by omega) (by unfold budB; omega) (by omega) (by unfold budB bigN; omega), L.U⟩
theorem Tab.pl (t : Tab m) (x y z : Sl) : Tab (pl m x y z) := ⟨t.l1, t.l4, t.s3, t.d3, t.idle, t.crit, t.sw, t.swE, t.sems, t.hor, t.lev, t.inc, t.eff, t.slp, t.dev⟩
theorem kl0 : kl 0 = false := by decide
theorem boot_law (h : MachR o w m) : Call P 11 [m.p.v] [sP] (fun p w' => (Tab m ∧ ∃ a q x y z o', p = some ⟨a, 0, none⟩ ∧ LawS o w (V.pl m x y z) a 0 o' w' q (s0 (V.pl m x y z))) ∨ (¬ Tab m ∧ p = none ∧ Below w.heap.size w w')) w := by
  have hb := boot_spec h
  refine hb.imp1 ?_
  rintro p w' (⟨t, a, q, x, y, z, o', rfl, hk, u⟩ | hn)
  · exact .inl ⟨t, a, q, x, y, z, o', rfl, hk, s0_inv (t.pl x y z), u.of_no⟩
  · exact .inr hn
end
end Go.Proofs.YtajilfnceoeaiaaGreat.V
/- How arguments read: machines, tasks, scripts. -/
namespace Go.Proofs.YtajilfnceoeaiaaGreat.V
open Go Go.RowKit Enc Go.ChangeShapes Go.WideShapes
set_option maxRecDepth 100000
/-- What the cells of a type that read as data say. -/
def Opn (t : TypeId) (R : World → List Value → Prop) : Prop :=
  ∀ {H : Type} (en : TypeId × Value → H) (w : World) (base : Nat) (spare : Nat → Bool) (held : Bool) (fuel : Nat) (cs : List Value) (x : DataW H × List MemPlace), DataW.trod en P w base spare held fuel t cs = some x → R w cs
theorem opn_int : Opn 3 (fun _ cs => ∃ n, cs = [.int .i64 n]) := by
  intro H en w base spare held fuel cs x h
  obtain ⟨n, rfl, _⟩ := DataW.trod_int Tryz.underlying3 h
  exact ⟨n, rfl⟩
theorem lists_of {α : Type} {q : Nat → α → Prop} : ∀ (n : Nat), (∀ i, i < n → ∃ y, q i y) → ∃ ys : List α, ys.length = n ∧ ∀ (j : Nat) (p : α), ys[j]? = some p → q j p
  | 0, _ => ⟨[], rfl, fun j p h => by simp at h⟩
  | n + 1, h => by
    obtain ⟨ys, hl, hy⟩ := lists_of n (fun i hi => h i (Nat.lt_succ_of_lt hi))
    obtain ⟨y, hq⟩ := h n (Nat.lt_succ_self n)
    refine ⟨ys ++ [y], by simp [hl], fun j p hp => ?_⟩
    rw [List.getElem?_append] at hp
    split at hp
    · exact hy j p hp
    · have hj := lt_of_get hp
      simp at hj
      have : j = n := by omega
      subst this
      rw [hl, Nat.sub_self] at hp
      cases hp
      exact hq
theorem flat_at {α : Type} [Enc α] : ∀ {l : List α} {j : Nat} {v : Value}, (l.flatMap enc)[j]? = some v → ∃ (k i : Nat) (x : α), j = k * sz α + i ∧ l[k]? = some x ∧ (enc x)[i]? = some v
  | [], j, v, h => by cases h
  | y :: l, j, v, h => by
    rw [List.flatMap_cons, List.getElem?_append, Enc.len] at h
    split at h
    · exact ⟨0, j, y, by omega, rfl, h⟩
    · rename_i hge
      obtain ⟨k, i, x, h1, h2, h3⟩ := flat_at h
      refine ⟨k + 1, i, x, ?_, h2, h3⟩
      rw [Nat.succ_mul]
      have h1' : j - sz α = k * sz α + i := h1
      have hge' : ¬ j < sz α := hge
      generalize k * sz α = kk at h1' ⊢
      generalize sz α = ss at h1' hge' ⊢
      omega
/-- A slice of what reads. -/
theorem opn_slice {α : Type} [Enc α] {t e : TypeId} {G : World → α → Prop} (ht : P.underlying t = some (.slice e)) (hc : P.cellsOf e = sz α) (he : Opn e (fun w cs => ∃ y : α, cs = enc y ∧ G w y)) :
    Opn t (fun w cs => ∃ (s : Sl) (l : List α), cs = [vS s] ∧ RL (fun _ => 0) w 0 s l ∧ ∀ y ∈ l, G w y) := by
  intro H en w base spare held fuel cs x h
  rcases Go.Deep.open_slice ht h with ⟨rfl, rfl⟩ | ⟨a, len, cap, m, n, D, Pl, rfl, _, hlc, hcm, hmm, rfl, hi⟩
  · exact ⟨⟨none, 0, 0⟩, [], rfl, RL.nil rfl, fun y hy => by cases hy⟩
  · have hlm : len ≤ m := by rw [hmm]; split <;> omega
    have hel : ∀ i, i < len → ∃ y : α, G w y ∧ ∀ j u, (enc y)[j]? = some u → w.cell? (a.add (i * sz α + j)) = some u := by
      intro i hil
      obtain ⟨cs', hcs, htr⟩ := hi i (by omega)
      obtain ⟨y, rfl, hG⟩ := he en w base spare held n cs' _ htr
      refine ⟨y, hG, fun j u hj => ?_⟩
      rw [hc] at hcs
      obtain ⟨_, _, hat⟩ := World.cells?_some hcs
      have hjl := lt_of_get hj
      rw [Enc.len] at hjl
      have h1 := hat j hjl
      rw [Go.Deep.add_add] at h1
      exact h1.trans hj
    obtain ⟨ys, hlen, hys⟩ := lists_of (q := fun i y => G w y ∧ ∀ j u, (enc y)[j]? = some u → w.cell? (a.add (i * sz α + j)) = some u) len hel
    refine ⟨⟨some a, len, cap⟩, ys, rfl, ⟨by rw [length_flat, hlen], Nat.le_trans hlc hcm, fun hne => ?_⟩, fun y hy => ?_⟩
    · obtain ⟨y, hy0⟩ : ∃ y, ys[0]? = some y := by
        cases ys with
        | nil => exact absurd rfl hne
        | cons y r => exact ⟨y, rfl⟩
      have hpos := Enc.pos (α := α)
      have hl0 : 0 < (enc y).length := by rw [Enc.len]; exact hpos
      have h0 := (hys 0 y hy0).2 0 _ (List.getElem?_eq_getElem hl0)
      have ha0 : a.add (0 * sz α + 0) = a := by simp [Addr.add]
      rw [ha0] at h0
      obtain ⟨b, off, sp⟩ := a
      have hsp : sp = none ∧ b < w.heap.size := by
        unfold World.cell? at h0
        split at h0
        · rename_i c t' fr hb
          split at h0
          · cases h0
          · rename_i hs
            exact ⟨by simpa using hs, lt_of_heap hb⟩
        · cases h0
      obtain ⟨rfl, hbl⟩ := hsp
      refine ⟨b, off, rfl, rfl, hbl, fun j v hj => ?_⟩
      obtain ⟨k, i, z, rfl, hk, hiz⟩ := flat_at hj
      have := (hys k z hk).2 i v hiz
      rwa [Addr.add_mk] at this
    · obtain ⟨i, hi'⟩ := List.mem_iff_getElem?.1 hy
      exact (hys i y hi').1
theorem take1 {cs : List Value} {i : Nat} {v : Value} (h : (cs.drop i).take 1 = [v]) : cs[i]? = some v := by
  have : ((cs.drop i).take 1)[0]? = some v := by rw [h]; rfl
  rw [List.getElem?_take_of_lt (by decide), List.getElem?_drop] at this
  exact this
/-- The fields of a struct that reads. -/
theorem opn_fields {t : TypeId} {fs : Array Field} (ht : P.underlying t = some (.struct fs)) {H : Type} {en : TypeId × Value → H} {w : World} {base : Nat} {spare : Nat → Bool} {held : Bool} {fuel : Nat} {cs : List Value} {x : DataW H × List MemPlace} (h : DataW.trod en P w base spare held fuel t cs = some x) :
    cs.length = P.cellsOf t ∧ ∀ (i : Nat) (f : Field) (R : World → List Value → Prop), fs[i]? = some f → Opn f.type R → R w ((cs.drop f.offset).take (P.cellsOf f.type)) := by
  obtain ⟨xs, n, _, rfl, hl, hlen, hf⟩ := DataW.trod_struct ht h
  refine ⟨hl, fun i f R hif hR => ?_⟩
  have h1 := hf i f hif
  have hi : i < xs.length := by
    have := (Array.getElem?_eq_some_iff.1 hif).1
    omega
  rw [List.getElem?_eq_getElem hi] at h1
  exact hR en w base spare held n _ _ h1
theorem c3 : P.cellsOf 3 = 1 := by kernel_rfl
theorem c22 : P.cellsOf 22 = 1 := by kernel_rfl
theorem c23 : P.cellsOf 23 = 1 := by kernel_rfl
theorem c24 : P.cellsOf 24 = 1 := by kernel_rfl
theorem c35 : P.cellsOf 35 = 1 := by kernel_rfl
theorem c37 : P.cellsOf 37 = 4 := by kernel_rfl
theorem opn_level : Opn 93 (fun w cs => ∃ y : Level, cs = enc y ∧ True) := by
  intro H en w base spare held fuel cs x h
  obtain ⟨hl, hf⟩ := opn_fields Tryz.underlying93 h
  have h0 : ∃ n, (cs.drop 0).take (P.cellsOf 3) = [.int .i64 n] := hf 0 _ _ rfl opn_int
  obtain ⟨a0, h0⟩ := h0
  rw [c3] at h0
  have h0 := take1 h0
  have h1 : ∃ n, (cs.drop 1).take (P.cellsOf 3) = [.int .i64 n] := hf 1 _ _ rfl opn_int
  obtain ⟨a1, h1⟩ := h1
  rw [c3] at h1
  have h1 := take1 h1
  refine ⟨⟨a0, a1⟩, List.ext_getElem? fun j => ?_, trivial⟩
  have hl : cs.length = 2 := hl.trans (by kernel_rfl)
  match j with
  | 0 => exact h0
  | 1 => exact h1
  | j + 2 => rw [List.getElem?_eq_none (by omega)]; rfl
theorem opn_sleep : Opn 105 (fun w cs => ∃ y : Sleep, cs = enc y ∧ True) := by
  intro H en w base spare held fuel cs x h
  obtain ⟨hl, hf⟩ := opn_fields Tryz.underlying105 h
  have h0 : ∃ n, (cs.drop 0).take (P.cellsOf 3) = [.int .i64 n] := hf 0 _ _ rfl opn_int
  obtain ⟨a0, h0⟩ := h0
  rw [c3] at h0
  have h0 := take1 h0
  have h1 : ∃ n, (cs.drop 1).take (P.cellsOf 3) = [.int .i64 n] := hf 1 _ _ rfl opn_int
  obtain ⟨a1, h1⟩ := h1
  rw [c3] at h1
  have h1 := take1 h1
  have h2 : ∃ n, (cs.drop 2).take (P.cellsOf 3) = [.int .i64 n] := hf 2 _ _ rfl opn_int
  obtain ⟨a2, h2⟩ := h2
  rw [c3] at h2
  have h2 := take1 h2
  have h3 : ∃ n, (cs.drop 3).take (P.cellsOf 3) = [.int .i64 n] := hf 3 _ _ rfl opn_int
  obtain ⟨a3, h3⟩ := h3
  rw [c3] at h3
  have h3 := take1 h3
  have h4 : ∃ n, (cs.drop 4).take (P.cellsOf 3) = [.int .i64 n] := hf 4 _ _ rfl opn_int
  obtain ⟨a4, h4⟩ := h4
  rw [c3] at h4
  have h4 := take1 h4
  have h5 : ∃ n, (cs.drop 5).take (P.cellsOf 3) = [.int .i64 n] := hf 5 _ _ rfl opn_int
  obtain ⟨a5, h5⟩ := h5
  rw [c3] at h5
  have h5 := take1 h5
  refine ⟨⟨a0, a1, a2, a3, a4, a5⟩, List.ext_getElem? fun j => ?_, trivial⟩
  have hl : cs.length = 6 := hl.trans (by kernel_rfl)
  match j with
  | 0 => exact h0
  | 1 => exact h1
  | 2 => exact h2
  | 3 => exact h3
  | 4 => exact h4
  | 5 => exact h5
  | j + 6 => rw [List.getElem?_eq_none (by omega)]; rfl
theorem opn_device : Opn 58 (fun w cs => ∃ y : Device, cs = enc y ∧ True) := by
  intro H en w base spare held fuel cs x h
  obtain ⟨hl, hf⟩ := opn_fields Tryz.underlying58 h
  have h0 : ∃ n, (cs.drop 0).take (P.cellsOf 3) = [.int .i64 n] := hf 0 _ _ rfl opn_int
  obtain ⟨a0, h0⟩ := h0
  rw [c3] at h0
  have h0 := take1 h0
  have h1 : ∃ n, (cs.drop 1).take (P.cellsOf 3) = [.int .i64 n] := hf 1 _ _ rfl opn_int
  obtain ⟨a1, h1⟩ := h1
  rw [c3] at h1
  have h1 := take1 h1
  have h2 : ∃ n, (cs.drop 2).take (P.cellsOf 3) = [.int .i64 n] := hf 2 _ _ rfl opn_int
  obtain ⟨a2, h2⟩ := h2
  rw [c3] at h2
  have h2 := take1 h2
  have h3 : ∃ n, (cs.drop 3).take (P.cellsOf 3) = [.int .i64 n] := hf 3 _ _ rfl opn_int
  obtain ⟨a3, h3⟩ := h3
  rw [c3] at h3
  have h3 := take1 h3
  have h4 : ∃ n, (cs.drop 4).take (P.cellsOf 3) = [.int .i64 n] := hf 4 _ _ rfl opn_int
  obtain ⟨a4, h4⟩ := h4
  rw [c3] at h4
  have h4 := take1 h4
  have h5 : ∃ n, (cs.drop 5).take (P.cellsOf 3) = [.int .i64 n] := hf 5 _ _ rfl opn_int
  obtain ⟨a5, h5⟩ := h5
  rw [c3] at h5
  have h5 := take1 h5
  have h6 : ∃ n, (cs.drop 6).take (P.cellsOf 3) = [.int .i64 n] := hf 6 _ _ rfl opn_int
  obtain ⟨a6, h6⟩ := h6
  rw [c3] at h6
  have h6 := take1 h6
  refine ⟨⟨a0, a1, a2, a3, a4, a5, a6⟩, List.ext_getElem? fun j => ?_, trivial⟩
  have hl : cs.length = 7 := hl.trans (by kernel_rfl)
  match j with
  | 0 => exact h0
  | 1 => exact h1
  | 2 => exact h2
  | 3 => exact h3
  | 4 => exact h4
  | 5 => exact h5
  | 6 => exact h6
  | j + 7 => rw [List.getElem?_eq_none (by omega)]; rfl
/-- A task that reads. -/
theorem opn_task : Opn 37 (fun w cs => ∃ y : ATask, cs = y.t.l ∧ TaskR (fun _ => 0) w y) := by
  intro H en w base spare held fuel cs x h
  obtain ⟨hl, hf⟩ := opn_fields Tryz.underlying37 h
  have hI : Opn 35 (fun w cs => ∃ (s : Sl) (l : List Int), cs = [vS s] ∧ RL (fun _ => 0) w 0 s l ∧ ∀ y ∈ l, True) := opn_slice Tryz.underlying35 (by kernel_rfl) (fun en w base spare held fuel cs x h => by
    obtain ⟨n, rfl⟩ := opn_int en w base spare held fuel cs x h
    exact ⟨n, rfl, trivial⟩)
  have h0 : ∃ n, (cs.drop 0).take (P.cellsOf 3) = [.int .i64 n] := hf 0 _ _ rfl opn_int
  have h1 : ∃ n, (cs.drop 1).take (P.cellsOf 3) = [.int .i64 n] := hf 1 _ _ rfl opn_int
  have h2 : ∃ (s : Sl) (l : List Int), (cs.drop 2).take (P.cellsOf 35) = [vS s] ∧ RL (fun _ => 0) w 0 s l ∧ ∀ y ∈ l, True := hf 2 _ _ rfl hI
  have h3 : ∃ (s : Sl) (l : List Int), (cs.drop 3).take (P.cellsOf 35) = [vS s] ∧ RL (fun _ => 0) w 0 s l ∧ ∀ y ∈ l, True := hf 3 _ _ rfl hI
  obtain ⟨a0, h0⟩ := h0
  obtain ⟨a1, h1⟩ := h1
  obtain ⟨s2, l2, h2, r2, _⟩ := h2
  obtain ⟨s3, l3, h3, r3, _⟩ := h3
  rw [c3] at h0 h1
  rw [c35] at h2 h3
  have h0 := take1 h0
  have h1 := take1 h1
  have h2 := take1 h2
  have h3 := take1 h3
  refine ⟨⟨⟨a0, a1, s2, s3⟩, l2, l3⟩, List.ext_getElem? fun j => ?_, r2, r3⟩
  have hl : cs.length = 4 := hl.trans (by kernel_rfl)
  match j with
  | 0 => exact h0
  | 1 => exact h1
  | 2 => exact h2
  | 3 => exact h3
  | j + 4 => rw [List.getElem?_eq_none (by omega)]; rfl
/-- A step that reads: as its cells, and its task. -/
theorem opn_step : Opn 39 (fun w cs => ∃ y : ASt, cs = y.st.l ∧ TaskR (fun _ => 0) w y.t) := by
  intro H en w base spare held fuel cs x h
  obtain ⟨hl, hf⟩ := opn_fields Tryz.underlying39 h
  have h0 : ∃ n, (cs.drop 0).take (P.cellsOf 3) = [.int .i64 n] := hf 0 _ _ rfl opn_int
  have h1 : ∃ n, (cs.drop 1).take (P.cellsOf 3) = [.int .i64 n] := hf 1 _ _ rfl opn_int
  have h2 : ∃ n, (cs.drop 2).take (P.cellsOf 3) = [.int .i64 n] := hf 2 _ _ rfl opn_int
  have h3 : ∃ n, (cs.drop 3).take (P.cellsOf 3) = [.int .i64 n] := hf 3 _ _ rfl opn_int
  have h4 : ∃ y : ATask, (cs.drop 4).take (P.cellsOf 37) = y.t.l ∧ TaskR (fun _ => 0) w y := hf 4 _ _ rfl opn_task
  obtain ⟨a0, h0⟩ := h0
  obtain ⟨a1, h1⟩ := h1
  obtain ⟨a2, h2⟩ := h2
  obtain ⟨a3, h3⟩ := h3
  obtain ⟨y, h4, hy⟩ := h4
  rw [c3] at h0 h1 h2 h3
  rw [c37] at h4
  have h0 := take1 h0
  have h1 := take1 h1
  have h2 := take1 h2
  have h3 := take1 h3
  have hl : cs.length = 8 := hl.trans (by kernel_rfl)
  have h4' : ∀ i, i < 4 → cs[4 + i]? = y.t.l[i]? := fun i hi => by rw [← h4, List.getElem?_take_of_lt hi, List.getElem?_drop]
  refine ⟨⟨a0, a1, a2, a3, y⟩, List.ext_getElem? fun j => ?_, hy⟩
  match j with
  | 0 => exact h0
  | 1 => exact h1
  | 2 => exact h2
  | 3 => exact h3
  | 4 => exact h4' 0 (by decide)
  | 5 => exact h4' 1 (by decide)
  | 6 => exact h4' 2 (by decide)
  | 7 => exact h4' 3 (by decide)
  | j + 8 => rw [List.getElem?_eq_none (by omega)]; rfl
/-- A machine that reads. -/
theorem opn_mach : Opn 26 (fun w cs => ∃ m : Mach, cs = m.p.l ∧ MachR (fun _ => 0) w m) := by
  intro H en w base spare held fuel cs x h
  obtain ⟨hl, hf⟩ := opn_fields Tryz.underlying26 h
  have h0 : ∃ (s : Sl) (l : List Level), (cs.drop 0).take (P.cellsOf 22) = [vS s] ∧ RL (fun _ => 0) w 0 s l ∧ ∀ y ∈ l, True := hf 0 _ _ rfl (opn_slice Tryz.underlying22 (by kernel_rfl) opn_level)
  have h1 : ∃ (s : Sl) (l : List Sleep), (cs.drop 1).take (P.cellsOf 23) = [vS s] ∧ RL (fun _ => 0) w 0 s l ∧ ∀ y ∈ l, True := hf 1 _ _ rfl (opn_slice Tryz.underlying23 (by kernel_rfl) opn_sleep)
  have h2 : ∃ (s : Sl) (l : List Device), (cs.drop 2).take (P.cellsOf 24) = [vS s] ∧ RL (fun _ => 0) w 0 s l ∧ ∀ y ∈ l, True := hf 2 _ _ rfl (opn_slice Tryz.underlying24 (by kernel_rfl) opn_device)
  have h3 : ∃ n, (cs.drop 3).take (P.cellsOf 3) = [.int .i64 n] := hf 3 _ _ rfl opn_int
  have h4 : ∃ n, (cs.drop 4).take (P.cellsOf 3) = [.int .i64 n] := hf 4 _ _ rfl opn_int
  have h5 : ∃ n, (cs.drop 5).take (P.cellsOf 3) = [.int .i64 n] := hf 5 _ _ rfl opn_int
  have h6 : ∃ n, (cs.drop 6).take (P.cellsOf 3) = [.int .i64 n] := hf 6 _ _ rfl opn_int
  have h7 : ∃ n, (cs.drop 7).take (P.cellsOf 3) = [.int .i64 n] := hf 7 _ _ rfl opn_int
  have h8 : ∃ n, (cs.drop 8).take (P.cellsOf 3) = [.int .i64 n] := hf 8 _ _ rfl opn_int
  obtain ⟨s0, l0, h0, r0, _⟩ := h0
  obtain ⟨s1, l1, h1, r1, _⟩ := h1
  obtain ⟨s2, l2, h2, r2, _⟩ := h2
  obtain ⟨a3, h3⟩ := h3
  rw [c3] at h3
  have h3 := take1 h3
  obtain ⟨a4, h4⟩ := h4
  rw [c3] at h4
  have h4 := take1 h4
  obtain ⟨a5, h5⟩ := h5
  rw [c3] at h5
  have h5 := take1 h5
  obtain ⟨a6, h6⟩ := h6
  rw [c3] at h6
  have h6 := take1 h6
  obtain ⟨a7, h7⟩ := h7
  rw [c3] at h7
  have h7 := take1 h7
  obtain ⟨a8, h8⟩ := h8
  rw [c3] at h8
  have h8 := take1 h8
  rw [c22] at h0
  rw [c23] at h1
  rw [c24] at h2
  have h0 := take1 h0
  have h1 := take1 h1
  have h2 := take1 h2
  have hl : cs.length = 9 := hl.trans (by kernel_rfl)
  refine ⟨⟨⟨s0, s1, s2, a3, a4, a5, a6, a7, a8⟩, l0, l1, l2⟩, List.ext_getElem? fun j => ?_, r0, r1, r2⟩
  match j with
  | 0 => exact h0
  | 1 => exact h1
  | 2 => exact h2
  | 3 => exact h3
  | 4 => exact h4
  | 5 => exact h5
  | 6 => exact h6
  | 7 => exact h7
  | 8 => exact h8
  | j + 9 => rw [List.getElem?_eq_none (by omega)]; rfl
theorem opn_steps : Opn 27 (fun w cs => ∃ (s : Sl) (l : List ASt), cs = [vS s] ∧ StepsR (fun _ => 0) w s l) := by
  intro H en w base spare held fuel cs x h
  have hS : Opn 27 (fun w cs => ∃ (s : Sl) (l : List Step), cs = [vS s] ∧ RL (fun _ => 0) w 0 s l ∧ ∀ y ∈ l, ∃ z : ASt, y = z.st ∧ TaskR (fun _ => 0) w z.t) := opn_slice Tryz.underlying27 (by kernel_rfl) (fun en w base spare held fuel cs x h => by
    obtain ⟨y, rfl, hy⟩ := opn_step en w base spare held fuel cs x h
    exact ⟨y.st, rfl, y, rfl, hy⟩)
  obtain ⟨s, l, rfl, hr, hall⟩ := hS en w base spare held fuel cs x h
  have key : ∀ l : List Step, (∀ y ∈ l, ∃ z : ASt, y = z.st ∧ TaskR (fun _ => 0) w z.t) → ∃ l' : List ASt, l = l'.map ASt.st ∧ ∀ z ∈ l', TaskR (fun _ => 0) w z.t := by
    intro l
    induction l with
    | nil => exact fun _ => ⟨[], rfl, fun z hz => by cases hz⟩
    | cons y l ih =>
      intro h
      obtain ⟨z, rfl, hz⟩ := h y (.head _)
      obtain ⟨l', rfl, hl'⟩ := ih fun u hu => h u (.tail _ hu)
      refine ⟨z :: l', rfl, fun u hu => ?_⟩
      rcases List.mem_cons.1 hu with rfl | hu
      · exact hz
      · exact hl' u hu
  obtain ⟨l', rfl, hl'⟩ := key l hall
  exact ⟨s, l', rfl, hr, hl'⟩
end Go.Proofs.YtajilfnceoeaiaaGreat.V
/- What the rows of these laws need. -/
namespace Go.Proofs.YtajilfnceoeaiaaGreat.V
open Go Go.RowKit Go.ChangeShapes Go.WideShapes
theorem agg_arg {v : Value} {cs : Array Value} {l : List Value} (hv : v = .agg cs) (h : v.cells.toList = l) : v = .agg l.toArray := by
  subst hv
  simp only [Value.cells] at h
  rw [← h]
theorem one_arg {v v' : Value} {a : Option Addr} {n c : Nat} (hv : v = .slice a n c) (h : v.cells.toList = [v']) : v = v' := by
  subst hv
  simpa [Value.cells] using h
theorem StepsR.still {o : Own} {w : World} {s : Sl} {l : List ASt} (h : StepsR o w s l) : StepsR (still w) w s l := ⟨h.rl.still, fun x hx => (h.each x hx).still⟩
theorem bulk_pos {H : Type} (d : DataW H) : 1 ≤ Rows.uptoBulk d := by
  cases d with
  | lit l => cases l <;> simp [Rows.uptoBulk]
  | nil => simp [Rows.uptoBulk]
  | ptr d => simp [Rows.uptoBulk]
  | slice elems spare => simp [Rows.uptoBulk]
  | agg parts => simp [Rows.uptoBulk]
  | iface t d => simp [Rows.uptoBulk]
  | map entries => simp [Rows.uptoBulk]
  | held h => simp [Rows.uptoBulk]
theorem bulk_length {H : Type} (l : List (DataW H)) : l.length ≤ Rows.uptoBulkAll l := by
  induction l with
  | nil => simp [Rows.uptoBulkAll]
  | cons x r ih => have := bulk_pos x; simp only [Rows.uptoBulkAll, List.length_cons]; omega
theorem slice_bulk {H : Type} {enc : TypeId × Value → H} {P : Program} {w : World} {base : Nat} {spare : Nat → Bool} {held : Bool} {t e : TypeId} {a : Option Addr} {len cap : Nat} {d : DataW H} {ps : List MemPlace}
    (ht : P.underlying t = some (.slice e)) (h : DataW.Trod enc P w base spare held t (.slice a len cap) d ps) : len ≤ Rows.uptoBulk d := by
  obtain ⟨fuel, hf⟩ := h
  rcases Go.Deep.open_slice ht hf with ⟨hcs, _⟩ | ⟨a', len', cap', m, n, D, Pl, hcs, _, _, _, _, hx, _⟩
  · simp [Value.cells] at hcs
    omega
  · simp [Value.cells] at hcs
    obtain ⟨rfl, rfl, rfl⟩ := hcs
    obtain ⟨hx, _⟩ := Prod.mk.inj hx
    subst hx
    have := bulk_length ((List.range len).map D)
    simp only [List.length_map, List.length_range] at this
    simp only [Rows.uptoBulk]
    omega
end Go.Proofs.YtajilfnceoeaiaaGreat.V
