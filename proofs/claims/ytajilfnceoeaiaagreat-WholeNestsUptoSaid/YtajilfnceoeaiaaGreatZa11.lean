/- Parts of the proof: What the smallest kernel answers. Plain, What can be looked at, Machines that may be: the two tables agree, Machines that may be: the document's table, Machines that may be: the program's own check lets them, A region that draws its order, by an invariant over what is done, A new kernel: its body, A new kernel, A new kernel: the region that makes its parts, in whatever order, A new kernel, A new k. -/
import Derived.Test.YtajilfnceoeaiaaGreatZa10
set_option linter.unusedVariables false
set_option linter.unusedSimpArgs false
/- What the smallest kernel answers. Plain. -/
namespace Go.Proofs.YtajilfnceoeaiaaGreat.V
open Go Go.RowKit Enc
set_option maxRecDepth 100000
theorem Star.head {R : KS → KS → Prop} {s s' : KS} (h : Star R s s') : s' = s ∨ ∃ s1, R s s1 ∧ Star R s1 s' := by
  induction h with
  | refl => exact .inl rfl
  | tail h1 h2 ih =>
    rcases ih with rfl | ⟨s1, h3, h4⟩
    · exact .inr ⟨_, h2, .refl⟩
    · exact .inr ⟨s1, h3, .tail h4 h2⟩
/-- Nothing waits, no timer is set, there is no device: a boundary changes nothing. -/
theorem BoundR.quiet {m : Mach} {s s' : KS} (h : BoundR m s s') (hl : ∀ k, s.lat k = none) (ht : ∀ k, s.tim k = none) : ∃ D X, s' = { s with devs := D, spent := X } := by
  obtain ⟨s1, s2, h1, _, h2, _, D, X, rfl, _⟩ := h
  have e1 : s1 = s := by
    rcases h1.head with e | ⟨s3, ⟨n, at_, cyc, t, h, _⟩, _⟩
    · exact e
    · rw [hl] at h; cases h
  subst e1
  have e2 : s2 = s1 := by
    rcases h2.head with e | ⟨s3, ⟨n, at_, cyc, h, _⟩, _⟩
    · exact e
    · rw [ht] at h; cases h
  subst e2
  exact ⟨D, X, rfl⟩
/-- The smallest machine. -/
structure Least (m : Mach) : Prop where
  L : m.L = [⟨1, 2⟩]
  S : m.S = []
  D : m.D = []
  idle : m.p.idle = 0
  crit : m.p.crit = 0
  switch : m.p.switch = 0
  switchE : m.p.switchE = 0
  sems : m.p.sems = 0
  horizon : m.p.horizon = 50
structure Ans (s : KS) (now run : Int) (en : Bool) (J : Int → Option Job) (S : List Int) (A : Int → Option (Int × Int)) (E : List Event) (nx : Int) : Prop where
  now : s.now = now
  level : s.level = 0
  naps : s.naps = false
  asleep : s.asleep = false
  held : s.held = []
  T : ∃ z, s.T[0]? = some z ∧ z.t.period = 10 ∧ z.t.cycles = 2
  N : s.N[0]? = some nx
  jobs : s.jobs = J
  stack : s.stack = S
  ended : s.ended = en
  lat : s.lat = A
  tim : ∀ k, s.tim k = none
  run : s.meter.run = run
  events : s.events = E
  lT : s.T.length = 6
  lN : s.N.length = 6
theorem Ans.dx {s : KS} {now run : Int} {en : Bool} {J : Int → Option Job} {S : List Int} {A : Int → Option (Int × Int)} {E : List Event} {nx : Int} (h : Ans s now run en J S A E nx) (D : List Away) (X : List Int) : Ans { s with devs := D, spent := X } now run en J S A E nx :=
  ⟨h.now, h.level, h.naps, h.asleep, h.held, h.T, h.N, h.jobs, h.stack, h.ended, h.lat, h.tim, h.run, h.events, h.lT, h.lN⟩
def noJ : Int → Option Job := fun _ => none
def noA : Int → Option (Int × Int) := fun _ => none
def x1 (t : Task) : ASt := ⟨1, 0, 0, 0, ⟨t, [], []⟩⟩
def x2 (t : Task) : ASt := ⟨3, 0, 0, 2, ⟨t, [], []⟩⟩
def x3 (t : Task) : ASt := ⟨4, 3, 0, 0, ⟨t, [], []⟩⟩
section
variable {m : Mach} {s s' : KS} {n e : Int} {t : Task}
theorem ans1 (hm : Least m) (h0 : s.T = List.replicate 6 noTask ∧ s.N = List.replicate 6 0 ∧ s.now = 0 ∧ s.level = 0 ∧ s.naps = false ∧ s.asleep = false ∧ s.held = [] ∧ s.jobs = noJ ∧ s.stack = [] ∧ s.ended = false ∧ s.lat = noA ∧ s.tim = noA ∧ s.meter.run = 0 ∧ s.events = [] ∧ s.places = 0) (ht : t.period = 10 ∧ t.cycles = 2)
    (h : DoR m s (x1 t) n e s') : e = 0 ∧ Ans s' 0 0 false noJ [] noA [] 0 := by
  obtain ⟨hT, hN, hnow, hlev, hnap, has, hheld, hj, hst, hen, hlat, htim, hrun, hev, hpl⟩ := h0
  have hone : ∀ e s1, OneR m s (x1 t) n e s1 → AdmitR m s ⟨t, [], []⟩ n e s1 := by
    intro e s1 h
    rcases h with ⟨_, h⟩ | ⟨h, _⟩ | ⟨h, _⟩ | ⟨h, _⟩ | ⟨h, _⟩ | ⟨h, _⟩ | ⟨h, _⟩ | ⟨h, _⟩
    · exact h
    all_goals simp [x1] at h
  have hadm : ∀ e s1, AdmitR m s ⟨t, [], []⟩ n e s1 → e = 0 ∧ Ans s1 0 0 false noJ [] noA [] 0 := by
    intro e s1 h
    have hck : checkZ m ⟨t, [], []⟩ = 0 := by
      unfold checkZ
      simp [hm.horizon, ht.1, ht.2, hm.sems, devsZ]
    rcases h with ⟨_, _, h, _⟩ | ⟨_, h⟩
    · exact absurd hck h
    rcases h with ⟨_, _, h, _⟩ | ⟨_, h⟩
    · exact absurd hheld h
    rcases h with ⟨_, _, h, _⟩ | ⟨_, h⟩
    · rw [hpl] at h; exact absurd (by decide) h
    have hload : loadZ m (thereZ s.T ++ [⟨t, [], []⟩]) 0 ≤ 4294967296 := by
      rw [hT]
      have : thereZ (List.replicate 6 noTask) = [] := by decide
      rw [this]
      simp [loadZ, reserveZ, blockZ, longZ, longOne, slowZ, partZ, quantaZ, utilZ, clampZ, hm.L, hm.crit, hm.switch, ht.1, ht.2]
      decide
    rcases h with ⟨_, _, h, _⟩ | ⟨rfl, _, i, y, z, r, s2, rfl, hy, hyp, hfirst, ⟨D, rfl, hc, _, _, _, _, hr⟩, z1, z2, z3, z4, rfl⟩
    · exact absurd hload h
    refine ⟨rfl, ?_⟩
    have hi : i = 0 := by
      rcases Nat.eq_zero_or_pos i with h | h
      · exact h
      · exact absurd (show noTask.t.period = 0 from rfl) (hfirst 0 noTask h (by rw [hT]; rfl))
    subst hi
    have hr := hr has rfl (fun k => by rw [show ({ s with places := s.places + 1 } : KS).jobs = s.jobs from rfl, hj]; rfl)
    rw [show ({ s with places := s.places + 1 } : KS).now = s.now from rfl, hnow, if_neg (by decide)] at hr
    subst hr
    refine ⟨hnow, hlev, hnap, has, hheld, ⟨z, ?_, by rw [z1]; exact ht.1, by rw [z2]; exact ht.2⟩, ?_, hj, hst, hen, hlat, fun k => by rw [show ({ s with places := s.places + 1, devs := D, T := _, N := _, U := _ } : KS).tim = s.tim from rfl, htim]; rfl, hrun, hev, ?_, ?_⟩
    · simp [hT]
    · simp [hN]
    · simp [hT]
    · simp [hN]
  rcases h with ⟨h, _⟩ | ⟨_, h⟩
  · rw [hnow, hm.horizon] at h; exact absurd h (by decide)
  rcases h with ⟨he, h, _⟩ | ⟨rfl, s1, h1, h2⟩
  · exact absurd (hadm e s (hone e s h)).1 he
  · obtain ⟨_, ha⟩ := hadm 0 s1 (hone 0 s1 h1)
    obtain ⟨D, X, rfl⟩ := h2.quiet (fun k => by rw [ha.lat]; rfl) ha.tim
    exact ⟨rfl, ha.dx D X⟩
theorem only_one {jb : Job} {L : List Job} (hL : ListOf (upd noJ 0 (some jb)) L) (hj : jb.task = 0) : ∃ r, L = jb :: r := by
  cases L with
  | nil =>
    have := (hL.iff jb).2 (by rw [hj]; rfl)
    cases this
  | cons x r =>
    have hx := (hL.iff x).1 (.head _)
    unfold upd at hx
    split at hx
    · cases hx; exact ⟨r, rfl⟩
    · cases hx
theorem wz0 : wz 0 = 0 := by decide
theorem relNone {s s' : KS} (h : Star RelOne s s') (hl : ∀ k, s.lat k = none) : s' = s := by
  rcases h.head with e | ⟨s3, ⟨n, at_, cyc, t, h, _⟩, _⟩
  · exact e
  · rw [hl] at h; cases h
theorem expNone {s s' : KS} (h : Star ExpOne s s') (hl : ∀ k, s.tim k = none) : s' = s := by
  rcases h.head with e | ⟨s3, ⟨n, at_, cyc, h, _⟩, _⟩
  · exact e
  · rw [hl] at h; cases h
theorem ans2 (ha : Ans s 0 0 false noJ [] noA [] 0) (hm : Least m) (h : DoR m s (x2 t) n e s') : e = 0 ∧ Ans s' 0 0 false (upd noJ 0 (some ⟨0, 0, 10, 2, 2, false⟩)) [] noA [⟨1, 0, 0, 10⟩] 10 := by
  obtain ⟨z, hz, hz1, hz2⟩ := ha.T
  have hhas : hasZ s 0 := ⟨Int.le_refl _, z, hz, by omega⟩
  have hone : ∀ e s1, OneR m s (x2 t) n e s1 → ArriveR s 0 0 2 e s1 := by
    intro e s1 h
    rcases h with ⟨h, _⟩ | ⟨h, _⟩ | ⟨_, _, h⟩ | ⟨h, _⟩ | ⟨h, _⟩ | ⟨h, _⟩ | ⟨h, _⟩ | ⟨h, _⟩
    · simp [x2] at h
    · simp [x2] at h
    · exact h
    all_goals simp [x2] at h
  have harr : ∀ e s1, ArriveR s 0 0 2 e s1 → e = 0 ∧ s1 = { s with lat := upd s.lat 0 (some (0, 2)), N := s.N.set 0 0 } := by
    intro e s1 h
    have hw : wz (s.now + 0) = 0 := by rw [ha.now]; decide
    rcases h with ⟨h, _⟩ | ⟨_, _, _, _, _, _, _, rfl, rfl⟩
    · rcases h with ⟨h, _⟩ | ⟨_, ⟨h, _⟩ | ⟨h, _⟩ | ⟨h, _⟩ | ⟨h, _⟩⟩
      · exact absurd hhas h
      · exact absurd ⟨by decide, by decide⟩ h
      · exact absurd ⟨by decide, by decide⟩ h
      · rw [ha.lat] at h; cases h
      · rw [hw] at h
        have : s.N.getD (Int.toNat 0) 0 = 0 := by rw [List.getD_eq_getElem?_getD]; show (s.N[0]?).getD 0 = 0; rw [ha.N]; rfl
        rw [this] at h
        exact absurd h (by decide)
    · rw [hw]
      exact ⟨rfl, rfl⟩
  rcases h with ⟨h, _⟩ | ⟨_, h⟩
  · rw [ha.now, hm.horizon] at h; exact absurd h (by decide)
  rcases h with ⟨he, h, _⟩ | ⟨rfl, s1, h1, h2⟩
  · exact absurd (harr e s (hone e s h)).1 he
  · obtain ⟨_, rfl⟩ := harr 0 s1 (hone 0 s1 h1)
    refine ⟨rfl, ?_⟩
    obtain ⟨s2, s3, r1, hend, r2, _, D, X, rfl, _⟩ := h2
    have hl0 : (upd s.lat 0 (some ((0 : Int), (2 : Int)))) 0 = some (0, 2) := rfl
    have h3 : s2 = tellZ { s with lat := upd (upd s.lat 0 (some (0, 2))) 0 none, jobs := upd s.jobs 0 (some ⟨0, 0, 10, 2, 2, false⟩), N := (s.N.set 0 0).set 0 10, U := s.U.set 0 2 } 1 0 0 10 := by
      rcases r1.head with rfl | ⟨s4, ⟨n, at_, cyc, t', hl, _, _, ht', rfl⟩, hst⟩
      · have := hend 0 (0, 2) hl0
        rw [show ({ s with lat := upd s.lat 0 (some (0, 2)), N := s.N.set 0 0 } : KS).now = s.now from rfl, ha.now] at this
        exact absurd this (by decide)
      · have hn : n = 0 := by
          by_cases e : n = 0
          · exact e
          · have hl : upd s.lat 0 (some (0, 2)) n = some (at_, cyc) := hl
            rw [upd, if_neg e, ha.lat] at hl
            cases hl
        subst hn
        rw [show ({ s with lat := upd s.lat 0 (some (0, 2)), N := s.N.set 0 0 } : KS).lat 0 = some (0, 2) from rfl] at hl
        cases hl
        have ht' : s.T[0]? = some t' := ht'
        rw [hz] at ht'
        cases ht'
        have hj : jobNew 0 z.t 0 2 = ⟨0, 0, 10, 2, 2, false⟩ := by
          unfold jobNew
          have : wz (0 + 10) = 10 := by decide
          rw [hz1, hz2, this]
        rw [hj] at hst
        refine relNone hst fun k => ?_
        show upd (upd s.lat 0 (some (0, 2))) 0 none k = none
        unfold upd
        split
        · rfl
        · rw [ha.lat]; rfl
    subst h3
    have h4 := expNone r2 fun k => ha.tim k
    subst h4
    refine ⟨ha.now, ha.level, ha.naps, ha.asleep, ha.held, ⟨z, hz, hz1, hz2⟩, ?_, ?_, ha.stack, ha.ended, ?_, ha.tim, ha.run, ?_, ha.lT, ?_⟩
    · show ((s.N.set 0 0).set 0 10)[0]? = some 10
      rw [List.getElem?_set_self (by rw [List.length_set, ha.lN]; decide)]
    · show upd s.jobs 0 _ = _
      rw [ha.jobs]
    · show upd (upd s.lat 0 (some (0, 2))) 0 none = noA
      rw [ha.lat]
      funext k
      unfold upd
      split <;> rfl
    · show s.events ++ _ = _
      rw [ha.events]; rfl
    · show ((s.N.set 0 0).set 0 10).length = 6
      simpa using ha.lN
theorem whoOne {jb : Job} {S : List Int} {n : Int} {ok : Bool} {L : List Job} (hj : jb.task = 0) (hS : S = [] ∨ S = [0]) (hL : ListOf (upd noJ 0 (some jb)) L) (h : WhoOf L S n ok) : ok = true ∧ n = 0 := by
  obtain ⟨r, rfl⟩ := only_one hL hj
  obtain ⟨h1, h2⟩ := h
  refine ⟨h1, ?_⟩
  rcases h2 with rfl | ⟨_, h2⟩
  · exact hj
  · rcases hS with rfl | rfl
    · cases h2
    · cases h2; rfl
theorem lvl0 (hm : Least m) : lvlP m 0 = 1 := by unfold lvlP; rw [hm.L]; rfl
theorem of1 (hm : Least m) (f l t' : Int) : ofZ m ⟨1, f, l, 0, t', 1⟩ = 2 := by
  unfold ofZ lvlZ
  rw [if_pos rfl]
  dsimp only
  rw [if_neg (by decide), hm.L]
  decide
theorem ans_did (hm : Least m) {now run now' run' : Int} {en : Bool} {J : Int → Option Job} {S : List Int} {A : Int → Option (Int × Int)} {E : List Event} {nx : Int} (ha : Ans s now run en J S A E nx) (h1 : wz (now + 1) = now') (h2 : wz (run + 2) = run') :
    Ans (didZ m s 1 (lvlP m s.level) s.level 0 1) now' run' en J S A E nx := by
  refine ⟨?_, ha.level, ha.naps, ha.asleep, ha.held, ha.T, ha.N, ha.jobs, ha.stack, ha.ended, ha.lat, ha.tim, ?_, ha.events, ha.lT, ha.lN⟩
  · show wz (s.now + lvlP m s.level) = now'
    rw [ha.now, ha.level, lvl0 hm, h1]
  · show (addM m s.meter ⟨1, s.now, lvlP m s.level, s.level, 0, 1⟩).run = run'
    unfold addM
    rw [if_pos rfl, ha.level, of1 hm, ha.run, h2]
theorem ans_tail (hm : Least m) {now run now' run' : Int} {j j' : Job} {E : List Event} {nx : Int} (ha : Ans s now run false (upd noJ 0 (some j)) [0] noA E nx) (hj : j.task = 0) (h1 : wz (now + 1) = now') (h2 : wz (run + 2) = run') :
    (jobHow j = 0 → jobStep j = j' → Ans (runsTailZ m s 0 j) now' run' false (upd noJ 0 (some j')) [0] noA E nx) ∧
    (jobHow j = 2 → Ans (runsTailZ m s 0 j) now' run' true noJ [] noA (E ++ [⟨2, 0, now', j.deadline⟩]) nx) := by
  have hd := ans_did hm ha h1 h2
  refine ⟨fun hh hs => ?_, fun hh => ?_⟩
  · have hz : runsTailZ m s 0 j = { didZ m s 1 (lvlP m s.level) s.level 0 1 with held := (didZ m s 1 (lvlP m s.level) s.level 0 1).held.map (spendZ 0), jobs := upd (didZ m s 1 (lvlP m s.level) s.level 0 1).jobs j.task (some (jobStep j)) } := if_neg (fun h => h hh)
    rw [hz, hs, hj]
    refine ⟨hd.now, hd.level, hd.naps, hd.asleep, ?_, hd.T, hd.N, ?_, hd.stack, hd.ended, hd.lat, hd.tim, hd.run, hd.events, hd.lT, hd.lN⟩
    · show List.map _ _ = []
      rw [hd.held]; rfl
    · show upd _ 0 _ = _
      rw [hd.jobs]
      funext k
      unfold upd
      split <;> rfl
  · have hz : runsTailZ m s 0 j = endZ { didZ m s 1 (lvlP m s.level) s.level 0 1 with held := (didZ m s 1 (lvlP m s.level) s.level 0 1).held.map (spendZ 0) } (jobHow j) (jobStep j) := if_pos (by rw [hh]; decide)
    have ht : (jobStep j).task = 0 := hj
    rw [hz, hh]
    unfold endZ tellZ
    rw [ht]
    refine ⟨hd.now, hd.level, hd.naps, hd.asleep, ?_, hd.T, hd.N, ?_, ?_, rfl, hd.lat, hd.tim, hd.run, ?_, hd.lT, hd.lN⟩
    · dsimp only
      rw [hd.held]; rfl
    · dsimp only
      rw [hd.jobs]
      funext k
      unfold upd noJ
      split <;> rfl
    · dsimp only
      rw [hd.stack]; rfl
    · dsimp only
      rw [hd.events, hd.now]; rfl
theorem tick1 (hm : Least m) (ha : Ans s 0 0 false (upd noJ 0 (some ⟨0, 0, 10, 2, 2, false⟩)) [] noA [⟨1, 0, 0, 10⟩] 10) (h : TickOne m 3 s s') : Ans s' 1 2 false (upd noJ 0 (some ⟨0, 0, 10, 1, 1, true⟩)) [0] noA [⟨1, 0, 0, 10⟩] 10 := by
  obtain ⟨_, s1, h1, h2⟩ := h
  unfold StepR at h1
  rw [ha.asleep, if_neg (by decide)] at h1
  obtain ⟨n, ok, L, hL, _, hw, hr⟩ := h1
  rw [ha.jobs] at hL
  have hw := hw.1
  rw [ha.stack] at hw
  obtain ⟨rfl, rfl⟩ := whoOne rfl (.inl rfl) hL hw
  rw [if_pos rfl] at hr
  unfold RunsR at hr
  rw [ha.held, ha.jobs] at hr
  rw [if_neg (by simp), if_pos (.inl rfl)] at hr
  obtain ⟨b, s2, hch, hr⟩ := hr
  obtain ⟨lv, l0, l1, _, hz⟩ := chooseR_start hch
  rw [hm.crit] at l1
  obtain rfl : lv = 0 := by omega
  rcases hz with ⟨_, rfl, rfl⟩ | ⟨hne, _⟩
  · rw [if_neg (by decide)] at hr
    have hst : Ans (startZ s ((upd noJ 0 (some ⟨0, 0, 10, 2, 2, false⟩) 0).getD noJob)) 0 0 false (upd noJ 0 (some ⟨0, 0, 10, 2, 2, true⟩)) [0] noA [⟨1, 0, 0, 10⟩] 10 := by
      refine ⟨ha.now, ha.level, ha.naps, ha.asleep, ha.held, ha.T, ha.N, ?_, ?_, rfl, ha.lat, ha.tim, ha.run, ha.events, ha.lT, ha.lN⟩
      · show upd s.jobs 0 _ = _
        rw [ha.jobs]
        funext k
        unfold upd
        split <;> rfl
      · show s.stack ++ [0] = [0]
        rw [ha.stack]; rfl
    have hjb : ((startZ s ((upd noJ 0 (some ⟨0, 0, 10, 2, 2, false⟩) 0).getD noJob)).jobs 0).getD noJob = ⟨0, 0, 10, 2, 2, true⟩ := by rw [hst.jobs]; rfl
    rw [hjb] at hr
    subst hr
    have hs1 := (ans_tail hm hst rfl (now' := 1) (run' := 2) (j' := ⟨0, 0, 10, 1, 1, true⟩) (by decide) (by decide)).1 (by decide) rfl
    obtain ⟨D, X, rfl⟩ := h2.quiet (fun k => by rw [hs1.lat]; rfl) hs1.tim
    exact hs1.dx D X
  · exact absurd ha.level.symm hne
theorem tick2 (hm : Least m) (ha : Ans s 1 2 false (upd noJ 0 (some ⟨0, 0, 10, 1, 1, true⟩)) [0] noA [⟨1, 0, 0, 10⟩] 10) (h : TickOne m 3 s s') : Ans s' 2 4 true noJ [] noA [⟨1, 0, 0, 10⟩, ⟨2, 0, 2, 10⟩] 10 := by
  obtain ⟨_, s1, h1, h2⟩ := h
  unfold StepR at h1
  rw [ha.asleep, if_neg (by decide)] at h1
  obtain ⟨n, ok, L, hL, _, hw, hr⟩ := h1
  rw [ha.jobs] at hL
  have hw := hw.1
  rw [ha.stack] at hw
  obtain ⟨rfl, rfl⟩ := whoOne rfl (.inr rfl) hL hw
  rw [if_pos rfl] at hr
  unfold RunsR at hr
  rw [ha.held, ha.jobs, ha.ended] at hr
  rw [if_neg (by simp), if_neg (by simp [upd])] at hr
  have hjb : ((upd noJ 0 (some (⟨0, 0, 10, 1, 1, true⟩ : Job))) 0).getD noJob = ⟨0, 0, 10, 1, 1, true⟩ := rfl
  rw [hjb] at hr
  subst hr
  have hs1 := (ans_tail hm ha rfl (now' := 2) (run' := 4) (j' := noJob) (by decide) (by decide)).2 (by decide)
  obtain ⟨D, X, rfl⟩ := h2.quiet (fun k => by rw [hs1.lat]; rfl) hs1.tim
  exact hs1.dx D X
theorem tick3 (ha : Ans s 2 4 true noJ [] noA [⟨1, 0, 0, 10⟩, ⟨2, 0, 2, 10⟩] 10) (h : TickOne m 3 s s') : s'.now = 3 ∧ s'.meter.run = 4 ∧ s'.events = [⟨1, 0, 0, 10⟩, ⟨2, 0, 2, 10⟩] ∧ (∀ k, s'.lat k = none) ∧ ∀ k, s'.tim k = none := by
  obtain ⟨_, s1, h1, h2⟩ := h
  unfold StepR at h1
  rw [ha.asleep, if_neg (by decide)] at h1
  obtain ⟨n, ok, L, hL, _, hw, hr⟩ := h1
  rw [ha.jobs] at hL
  have hLn : L = [] := by
    cases L with
    | nil => rfl
    | cons x L =>
      have := (hL.iff x).1 (.head _)
      cases this
  subst hLn
  obtain ⟨_, rfl⟩ := hw.1
  rw [if_neg (by decide)] at hr
  rcases hr with rfl | ⟨hn, _⟩
  · obtain ⟨D, X, rfl⟩ := h2.quiet (fun k => by show s.lat k = none; rw [ha.lat]; rfl) ha.tim
    refine ⟨?_, ?_, ha.events, fun k => by show s.lat k = none; rw [ha.lat]; rfl, ha.tim⟩
    · show wz (s.now + 1) = 3
      rw [ha.now]; decide
    · show (addM m s.meter ⟨2, s.now, 1, 0, 0, 0⟩).run = 4
      unfold addM
      rw [if_neg (show ¬ (2 : Int) = 1 by decide), if_pos rfl]
      exact ha.run
  · rw [ha.naps] at hn; cases hn
theorem ans3 (hm : Least m) (ha : Ans s 0 0 false (upd noJ 0 (some ⟨0, 0, 10, 2, 2, false⟩)) [] noA [⟨1, 0, 0, 10⟩] 10) (h : DoR m s (x3 t) n e s') : e = 0 ∧ s'.now = 3 ∧ s'.meter.run = 4 ∧ s'.events = [⟨1, 0, 0, 10⟩, ⟨2, 0, 2, 10⟩] := by
  have hone : ∀ e s1, OneR m s (x3 t) n e s1 → TickR m s 3 e s1 := by
    intro e s1 h
    rcases h with ⟨h, _⟩ | ⟨h, _⟩ | ⟨h, _⟩ | ⟨_, _, h⟩ | ⟨h, _⟩ | ⟨h, _⟩ | ⟨h, _⟩ | ⟨h, _⟩
    · simp [x3] at h
    · simp [x3] at h
    · simp [x3] at h
    · exact h
    all_goals simp [x3] at h
  have hE : endT m s 3 = 3 := by unfold endT; rw [ha.now, hm.horizon]; decide
  have htk : ∀ e s1, TickR m s 3 e s1 → e = 0 ∧ s1.now = 3 ∧ s1.meter.run = 4 ∧ s1.events = [⟨1, 0, 0, 10⟩, ⟨2, 0, 2, 10⟩] ∧ (∀ k, s1.lat k = none) ∧ ∀ k, s1.tim k = none := by
    intro e s1 h
    rcases h with ⟨_, h, _⟩ | ⟨rfl, _, _, hs, hend⟩
    · exact absurd ⟨by decide, by decide⟩ h
    · rw [hE] at hs hend
      refine ⟨rfl, ?_⟩
      rcases hs.head with rfl | ⟨s2, t1, hs⟩
      · rw [ha.now] at hend; exact absurd hend (by decide)
      have h1 := tick1 hm ha t1
      rcases hs.head with rfl | ⟨s3, t2, hs⟩
      · rw [h1.now] at hend; exact absurd hend (by decide)
      have h2 := tick2 hm h1 t2
      rcases hs.head with rfl | ⟨s4, t3, hs⟩
      · rw [h2.now] at hend; exact absurd hend (by decide)
      have h3 := tick3 h2 t3
      rcases hs.head with rfl | ⟨s5, t4, _⟩
      · exact h3
      · have := t4.1
        rw [h3.1] at this
        exact absurd this (by decide)
  rcases h with ⟨h, _⟩ | ⟨_, h⟩
  · rw [ha.now, hm.horizon] at h; exact absurd h (by decide)
  rcases h with ⟨he, h, _⟩ | ⟨rfl, s1, h1, h2⟩
  · exact absurd (htk e s (hone e s h)).1 he
  · obtain ⟨_, g1, g2, g3, g4, g5⟩ := htk 0 s1 (hone 0 s1 h1)
    obtain ⟨D, X, rfl⟩ := h2.quiet g4 g5
    exact ⟨rfl, g1, g2, g3⟩
end
end Go.Proofs.YtajilfnceoeaiaaGreat.V
/- What can be looked at. -/
namespace Go.Proofs.YtajilfnceoeaiaaGreat.V
open Go Go.RowKit Enc
set_option maxRecDepth 100000
/-- The same task, elsewhere. -/
def SameA (x y : ATask) : Prop := x.t.period = y.t.period ∧ x.t.cycles = y.t.cycles ∧ x.sec = y.sec ∧ x.devs = y.devs
section
variable {o o' : Own} {w w' : World} {m : Mach} {q : KPtr} {s : KS} {a : Nat}
theorem now_spec (h : KRep o w m a q s) : Call P 14 [vP a] [sI] (fun r w' => r = s.now ∧ w' = w) w :=
  f14_of _ (If_f (WA (h.b.bx.ld (x := s.now) rfl ⟨rfl, rfl⟩)))
theorem level_spec (h : KRep o w m a q s) : Call P 29 [vP a] [sI] (fun r w' => r = s.level ∧ w' = w) w :=
  f29_of _ (If_f (WA (h.b.bx.ld (x := s.level) rfl ⟨rfl, rfl⟩)))
theorem asleep_spec (h : KRep o w m a q s) : Call P 23 [vP a] [sB] (fun r w' => r = s.asleep ∧ w' = w) w :=
  f23_of _ (If_t (WA (h.b.bx.ld (c := .kb) (x := s.asleep) rfl ⟨rfl, rfl⟩)))
theorem meter_spec (h : KRep o w m a q s) : Call P 25 [vP a] [shMeter] (fun a b c d w' => (⟨a, b, c, d⟩ : Meter) = s.meter ∧ Below w.heap.size w w') w := by
  refine f25_of _ (New_blk o 90 fun b1 o1 w1 k1 u1 hb1 => If_f ?_)
  have h := h.upno u1
  refine WA (h.b.ldM (k1.wr0 (vs := [.int .i64 s.meter.run, .int .i64 s.meter.idle, .int .i64 s.meter.switch, .int .i64 s.meter.sleep]) (by rfl) fun w2 k2 hw => ?_))
  refine (k2.bx : Bx _ _ _ s.meter.l).ldMeter (x := s.meter) ⟨rfl, ?_⟩
  exact (u1.wr hw (by rw [hb1]; exact Nat.le_refl _)).below
theorem jobs_spec (h : KRep o w m a q s) : Call P 17 [vP a] [sS] (fun x w' => ∃ L o', RL o' w' 0 x L ∧ ListOf s.jobs L ∧ L.length ≤ 8 ∧ Up no o w o' w') w := by
  refine f17_of _ (If_f (WA (h.b.bx.ld (x := some ⟨q.set, 0, none⟩) rfl ?_)))
  have hl := list_spec h.p.set
  refine hl.imp1 ?_
  rintro x w1 ⟨L, o1, h1, h2, h3, u⟩
  exact ⟨L, o1, h1, h2, h3, u⟩
theorem events_spec (h : KRep o w m a q s) (hE : s.events.length ≤ bigN) : Call P 16 [vP a] [sS] (fun x w' => ∃ o', RL o' w' 0 x s.events ∧ Up no o w o' w') w := by
  unfold bigN at hE
  refine f16_of _ (If_f (WA (h.b.bx.ld (x := q.es) rfl ?_)))
  have hc := cloneEvent_spec h.p.E.rl (by omega) 0
  refine hc.imp1 ?_
  rintro x w1 ⟨o1, h1, _, hcap, u⟩
  refine (clipEvent_spec h1 hcap).imp1 ?_
  rintro y w2 ⟨rfl, h2⟩
  exact ⟨o1, h2, u⟩
theorem stack_spec (h : KRep o w m a q s) (hS : s.stack.length ≤ 900000000) : Call P 26 [vP a] [sS] (fun x w' => ∃ o', RL o' w' 0 x s.stack ∧ Up no o w o' w') w := by
  refine f26_of _ (If_f (WA (h.b.bx.ld (x := q.ss) rfl ?_)))
  have hc := cloneInt_spec h.p.S.rl (by omega) 0
  refine hc.imp1 ?_
  rintro x w1 ⟨o1, h1, _, hcap, u⟩
  refine (clipInt_spec h1 hcap).imp1 ?_
  rintro y w2 ⟨rfl, h2⟩
  exact ⟨o1, h2, u⟩
theorem heldv_spec (h : KRep o w m a q s) (hH : s.held.length ≤ 1000) : Call P 27 [vP a] [sS] (fun x w' => ∃ o', RL o' w' 0 x s.held ∧ Up no o w o' w') w := by
  refine f27_of _ (If_f (WA (h.b.bx.ld (x := some ⟨q.lk, 0, none⟩) rfl ?_)))
  have hc := locksList_spec h.p.lk hH
  exact hc.imp1 fun x w' h => h
theorem trace_spec (h : KRep o w m a q s) (hT : s.trace.length ≤ bigN) : Call P 24 [vP a] [sS] (fun x w' => ∃ o', RL o' w' 0 x s.trace ∧ Up no o w o' w') w := by
  refine f24_of _ (If_f (WA (h.b.bx.ld (x := some ⟨q.tr, 0, none⟩) rfl ?_)))
  have hc := traceList_spec h.p.tr hT
  exact hc.imp1 fun x w' h => h
def nextZ (s : KS) (n : Int) (r : Int) : Prop := (hasZ s n → s.N[n.toNat]? = some r) ∧ (¬ hasZ s n → r = 0)
theorem next_spec (h : KRep o w m a q s) (hN : s.N.length = s.T.length) (n : Int) : Call P 32 [vP a, .int .i64 n] [sI] (fun r w' => nextZ s n r ∧ w' = w) w := by
  have hh := has_spec h n
  refine f32_of _ _ (If_f (hh.imp1 ?_))
  rintro b w1 ⟨rfl, hb⟩
  refine If_not (If_b (fun e => ?_) fun e => ⟨⟨fun h => (by rw [hb.2 h] at e; cases e), fun _ => rfl⟩, rfl⟩)
  have hz := hb.1 e
  obtain ⟨h0, t, ht, hper⟩ := id hz
  obtain ⟨k, rfl⟩ : ∃ k : Nat, n = k := ⟨n.toNat, by omega⟩
  rw [Int.toNat_natCast] at ht
  have hk : k < s.N.length := by have := lt_of_get ht; omega
  refine WA (h.b.bx.ld (x := q.ns) rfl (h.p.N.rl.int rfl (List.getElem?_eq_getElem hk) ⟨⟨fun _ => ?_, fun h => absurd hz h⟩, rfl⟩))
  rw [Int.toNat_natCast]
  exact List.getElem?_eq_getElem hk
def noAway : Away := ⟨0, 0⟩
theorem device_spec (h : KRep o w m a q s) (d : Nat) (hd : d < s.devs.length) : Call P 43 [vP a, .int .i64 d] [shAway] (fun a b w' => s.devs[d]? = some ⟨a, b⟩ ∧ Below w.heap.size w w') w := by
  have hx : s.devs[d]? = some s.devs[d] := List.getElem?_eq_getElem hd
  have hn := h.p.D.n
  refine f43_of _ _ (New_blk o 90 fun b1 o1 w1 k1 u1 hb1 => If_f (If_d (fun h => (by omega)) fun _ => ?_))
  have h := h.upno u1
  refine WA (h.b.bx.ld (x := q.ds) rfl (If_d (fun h => (by omega)) fun _ => WA (h.b.bx.ld (x := q.ds) rfl (RL.away' h.p.D.rl rfl hx (k1.wr0 (vs := [.int .i64 s.devs[d].from_, .int .i64 s.devs[d].until_]) (by rfl) fun w2 k2 hw => ?_)))))
  refine LdAway (x := s.devs[d]) k2.bx ⟨hx, ?_⟩
  exact (u1.wr hw (by rw [hb1]; exact Nat.le_refl _)).below
theorem spent_spec (h : KRep o w m a q s) (hX : s.spent.length = s.devs.length) (hD : s.devs.length = m.D.length) (d : Nat) (hd : d < s.devs.length) :
    Call P 22 [vP a, .int .i64 d] [sI] (fun r w' => (∃ x p e, m.D[d]? = some e ∧ s.devs[d]? = some x ∧ s.spent[d]? = some p ∧ r = wz (p + energyZ e x s.now)) ∧ Below w.heap.size w w') w := by
  have hx : s.devs[d]? = some s.devs[d] := List.getElem?_eq_getElem hd
  have hp : s.spent[d]? = some (s.spent[d]'(by omega)) := List.getElem?_eq_getElem (by omega)
  have he : m.D[d]? = some (m.D[d]'(by omega)) := List.getElem?_eq_getElem (by omega)
  generalize s.devs[d] = x at hx
  generalize s.spent[d]'(by omega) = p at hp
  generalize m.D[d]'(by omega) = e at he
  have hn := h.p.D.n
  have ud : Up no o w o w.drew := .drew
  refine f22_of _ _ (If_f (If_d (fun h => (by omega)) fun _ => WA (h.b.bx.ld (x := q.ds) rfl (If_d (fun h => (by omega)) fun _ => ?_))))
  have h := h.upno ud
  have hb := h.b.bx
  refine WA (hb.ld (x := q.xs) rfl (h.p.X.rl.at rfl hp fun bx fx hbx => ?_))
  have hadr : (⟨bx, fx, none⟩ : Addr).add (Int.toNat (d : Int) * 1) = ⟨bx, fx + d * 1, none⟩ := by rw [Addr.add_mk, Int.toNat_natCast]
  have hbx : Bx w.drew bx (fx + d * 1) [.int .i64 p] := hbx
  rw [hadr]
  refine Ld_of (x := p) (hbx.cell 0 _ rfl) (WA (hb.ld0 (x := m.p.devices) rfl (h.p.mR.D.device rfl he (WA (hb.ld (x := q.ds) rfl (RL.away' h.p.D.rl rfl hx (WA (hb.ld (x := s.now) rfl ?_))))))))
  have hen := energy_spec e x s.now w.drew
  refine hen.imp1 ?_
  rintro r w2 ⟨u2, rfl⟩
  have h := h.below u2
  have hbx := hbx.below u2
  have hb := h.b.bx
  exact ⟨by (first | (apply Bx.get0f; apply Blk.bx; assumption; rfl) | (apply Bx.get0f; apply Blk.bx; apply KRep.b; assumption; rfl) | (apply Bx.get0f; assumption; rfl) | (apply Bx.get00; apply Blk.bx; apply KRep.b; assumption; rfl) | (apply Bx.get0; apply Blk.bx; apply KRep.b; assumption; rfl) | (apply Bx.get00; apply Blk.bx; assumption; rfl) | (apply Bx.get00; assumption; rfl) | (apply Bx.getAt; assumption; rfl) | (apply Bx.get0; assumption; rfl) | (apply Bx.get; assumption; rfl) | (apply Bx.get0; apply Blk.bx; assumption; rfl) | (apply Bx.get; apply Blk.bx; assumption; rfl)), by (first | (apply Bx.get0f; apply Blk.bx; assumption; rfl) | (apply Bx.get0f; apply Blk.bx; apply KRep.b; assumption; rfl) | (apply Bx.get0f; assumption; rfl) | (apply Bx.get00; apply Blk.bx; apply KRep.b; assumption; rfl) | (apply Bx.get0; apply Blk.bx; apply KRep.b; assumption; rfl) | (apply Bx.get00; apply Blk.bx; assumption; rfl) | (apply Bx.get00; assumption; rfl) | (apply Bx.getAt; assumption; rfl) | (apply Bx.get0; assumption; rfl) | (apply Bx.get; assumption; rfl) | (apply Bx.get0; apply Blk.bx; assumption; rfl) | (apply Bx.get; apply Blk.bx; assumption; rfl)), by (first | (apply Bx.get0f; apply Blk.bx; assumption; rfl) | (apply Bx.get0f; apply Blk.bx; apply KRep.b; assumption; rfl) | (apply Bx.get0f; assumption; rfl) | (apply Bx.get00; apply Blk.bx; apply KRep.b; assumption; rfl) | (apply Bx.get0; apply Blk.bx; apply KRep.b; assumption; rfl) | (apply Bx.get00; apply Blk.bx; assumption; rfl) | (apply Bx.get00; assumption; rfl) | (apply Bx.getAt; assumption; rfl) | (apply Bx.get0; assumption; rfl) | (apply Bx.get; assumption; rfl) | (apply Bx.get0; apply Blk.bx; assumption; rfl) | (apply Bx.get; apply Blk.bx; assumption; rfl)), by (first | (apply Bx.get0f; apply Blk.bx; assumption; rfl) | (apply Bx.get0f; apply Blk.bx; apply KRep.b; assumption; rfl) | (apply Bx.get0f; assumption; rfl) | (apply Bx.get00; apply Blk.bx; apply KRep.b; assumption; rfl) | (apply Bx.get0; apply Blk.bx; apply KRep.b; assumption; rfl) | (apply Bx.get00; apply Blk.bx; assumption; rfl) | (apply Bx.get00; assumption; rfl) | (apply Bx.getAt; assumption; rfl) | (apply Bx.get0; assumption; rfl) | (apply Bx.get; assumption; rfl) | (apply Bx.get0; apply Blk.bx; assumption; rfl) | (apply Bx.get; apply Blk.bx; assumption; rfl)), ⟨x, p, e, he, hx, hp, rfl⟩, ud.below.on u2⟩
theorem tasks_spec (c : Nat) (hc : 60 ≤ c ∧ c < 70) (h : KRep o w m a q s) (hT : s.T.length ≤ 1000) (hs : ∀ x ∈ s.T, x.sec.length ≤ 1000 ∧ x.devs.length ≤ 1000) :
    Call P 19 [vP a] [sS] (fun x w' => ∃ T o', TasksR o' w' c x T ∧ T.length = s.T.length ∧ (∀ (i : Nat) (y z : ATask), T[i]? = some y → s.T[i]? = some z → SameA y z) ∧ Up (only [c]) o w o' w') w := by
  have hn := h.p.T.n
  rw [List.length_map] at hn
  refine f19_of _ (If_f (WA (h.b.bx.ld (x := q.ts) rfl ?_)))
  refine ⟨fun x i w' => ∃ (k : Nat) (o' : Own) (T : List ATask), i = k ∧ k ≤ s.T.length ∧ T.length = k ∧ (∀ (i : Nat) (y z : ATask), T[i]? = some y → s.T[i]? = some z → SameA y z) ∧ RowL o' w' c 37 x (T.map ATask.t) ∧ (∀ y ∈ T, TaskR o' w' y) ∧ Up (only [c]) o w o' w',
    fun _ i _ => s.T.length - i.toNat, ⟨0, o, [], rfl, Nat.zero_le _, rfl, fun i y z hy => (by cases hy), .nil, fun y hy => (by cases hy), .refl⟩, ?_⟩
  rintro x i v ⟨k, o1, T, rfl, hk, hl, hsame, hr, hTR, u⟩ _
  have hc0 : only [c] 0 = false := only_ne (by omega)
  have h := h.up60 (u.l6 hc)
  refine If_d (fun hlt => ?_) fun hlt => ?_
  · have hlt : k < q.ts.n := Int.ofNat_lt.1 hlt
    have hkT : k < s.T.length := by omega
    have hx : (s.T.map ATask.t)[k]? = some s.T[k].t := by simp [hkT]
    have hme : s.T.length - Int.toNat ((k : Int) + 1) < s.T.length - Int.toNat (k : Int) := by omega
    have hsk := hs _ (List.getElem_mem hkT)
    refine h.p.T.rl.task rfl hx (NewSt_of (by rfl) fun b2 w2 c2 u2 => c2.ldTask (x := s.T[k].t) ?_)
    have u2 : Up no o1 v o1 w2 := Up.of_below u2
    have ho := own_spec ((h.p.TR _ (List.getElem_mem hkT)).up u2 rfl) hsk.1 hsk.2
    refine ho.impT ?_
    rintro p1 p2 p3 p4 w3 ⟨rfl, rfl, o3, hz, u3⟩
    refine New_blk o3 91 fun b4 o4 w4 k4 u4 _ => ?_
    have u24 := (u2.trans u3).trans u4
    have hr := hr.up u24 rfl
    have hz := hz.up u4 rfl
    refine RowL.app (x := (⟨s.T[k].t.period, s.T[k].t.cycles, p3, p4⟩ : Task)) etTask 54 hr (k4.rd1 rfl) rfl (by simp; omega) (by unfold maxLen; simp; omega) fun s5 o5 w5 r5 u5 => ?_
    rw [wz_id (x := (k : Int) + 1) (by omega) (by omega)]
    refine ⟨⟨k + 1, o5, T ++ [⟨⟨s.T[k].t.period, s.T[k].t.cycles, p3, p4⟩, s.T[k].sec, s.T[k].devs⟩], by omega, by omega, by simp; omega, fun i y z hy hyz => ?_, by rw [List.map_append]; exact r5, fun y hy => ?_, (u.trans u24.of_no).trans u5⟩, hme⟩
    · rw [List.getElem?_append] at hy
      split at hy
      · exact hsame i y z hy hyz
      · rename_i hge
        have : i = k := by
          have := lt_of_get hy
          simp at this
          omega
        subst this
        rw [hl, Nat.sub_self] at hy
        cases hy
        rw [List.getElem?_eq_getElem hkT] at hyz
        cases hyz
        exact ⟨rfl, rfl, rfl, rfl⟩
    · rcases List.mem_append.1 hy with hy | hy
      · exact ((hTR y hy).up u24 rfl).up u5 hc0
      · rw [List.mem_singleton.1 hy]; exact hz.up u5 hc0
  · have hlt : ¬ k < q.ts.n := fun h => hlt (Int.ofNat_lt.2 h)
    have hkT : k = s.T.length := by omega
    refine (clipTask_spec hr.rl hr.cap).imp1 ?_
    rintro y w2 ⟨rfl, h2⟩
    exact ⟨T, o1, ⟨h2, hTR⟩, by omega, hsame, u⟩
end
end Go.Proofs.YtajilfnceoeaiaaGreat.V
/- Machines that may be: the two tables agree. -/
namespace Go.Proofs.YtajilfnceoeaiaaGreat.V
open Go Go.RowKit Enc
set_option maxRecDepth 100000
theorem mul_in {a b A B : Int} (a0 : 0 ≤ a) (a1 : a ≤ A) (b0 : 0 ≤ b) (b1 : b ≤ B) : 0 ≤ a * b ∧ a * b ≤ A * B :=
  ⟨Int.mul_nonneg a0 b0, Int.mul_le_mul a1 b1 b0 (Int.le_trans a0 a1)⟩
def AwayOk (down up downE upE off on even : Int) : Prop :=
  (0 ≤ down ∧ down ≤ 256) ∧ (0 ≤ up ∧ up ≤ 256) ∧ (0 ≤ downE ∧ downE ≤ 65536) ∧ (0 ≤ upE ∧ upE ≤ 65536) ∧ (0 ≤ on ∧ on ≤ 65536) ∧ (0 ≤ off ∧ off ≤ on) ∧ down + up ≤ even ∧ 1 ≤ even ∧ even ≤ 16384 ∧ downE + upE + off * (even - down - up) ≤ on * even
structure Tab (m : Mach) : Prop where
  l1 : 1 ≤ m.L.length
  l4 : m.L.length ≤ 4
  s3 : m.S.length ≤ 3
  d3 : m.D.length ≤ 3
  idle : 0 ≤ m.p.idle ∧ m.p.idle ≤ 65536
  crit : 0 ≤ m.p.crit ∧ m.p.crit < m.L.length
  sw : 0 ≤ m.p.switch ∧ m.p.switch ≤ 256
  swE : 0 ≤ m.p.switchE ∧ m.p.switchE ≤ 65536
  sems : 0 ≤ m.p.sems ∧ m.p.sems ≤ 3
  hor : 1 ≤ m.p.horizon ∧ m.p.horizon ≤ 16384
  lev : ∀ (i : Nat) (x : Level), m.L[i]? = some x → 1 ≤ x.p ∧ x.p ≤ 256 ∧ 0 ≤ x.e ∧ x.e ≤ 65536
  inc : ∀ (i : Nat) (x y : Level), m.L[i]? = some y → m.L[i + 1]? = some x → y.p < x.p
  eff : ∀ (i : Nat) (x y : Level), ((i + 1 : Nat) : Int) ≤ m.p.crit → m.L[i]? = some y → m.L[i + 1]? = some x → x.e - x.p * m.p.idle ≤ y.e - y.p * m.p.idle
  slp : ∀ (i : Nat) (x : Sleep), m.S[i]? = some x → AwayOk x.enter x.exit x.enterE x.exitE x.power m.p.idle x.even
  dev : ∀ (i : Nat) (x : Device), m.D[i]? = some x → AwayOk x.down x.up x.downE x.upE x.off x.on x.even
theorem Tab.mok {m : Mach} (h : Tab m) : MOk m := by
  refine ⟨?_, h.hor, h.sw, fun i x hx => ⟨(h.lev i x hx).1, (h.lev i x hx).2.1⟩, fun i x hx => ?_, h.d3, h.sems⟩
  · have := h.crit
    have := h.l4
    constructor
    all_goals omega
  · obtain ⟨h1, h2, _, _, _, _, h7, h8, _⟩ := h.slp i x hx
    exact ⟨h1.1, h1.2, h2.1, h2.2, h8, h7⟩
theorem iff_no {p : Prop} (h : ¬ p) : (false = true ↔ p) := ⟨fun h => absurd h (by decide), fun k => absurd k h⟩
theorem iff_yes {p : Prop} (h : p) : (true = true ↔ p) := ⟨fun _ => h, fun _ => rfl⟩
section
variable {o o' : Own} {w w' : World} {m : Mach}
theorem twithin_spec (n low high : Int) (w : World) : Call P 87 [.int .i64 n, .int .i64 low, .int .i64 high] [sB] (fun b w' => w' = w ∧ (b = true ↔ low ≤ n ∧ n ≤ high)) w :=
  f87_of _ _ _ (If_d (fun h => ⟨rfl, by simp; omega⟩) fun h => ⟨rfl, iff_no (by omega)⟩)
theorem power_spec (n : Int) (w : World) : Call P 84 [.int .i64 n] [sB] (fun b w' => w' = w ∧ (b = true ↔ 0 ≤ n ∧ n ≤ 65536)) w :=
  f84_of _ ((twithin_spec n 0 65536 w).imp1 fun _ _ h => h)
theorem latency_spec (n : Int) (w : World) : Call P 86 [.int .i64 n] [sB] (fun b w' => w' = w ∧ (b = true ↔ 0 ≤ n ∧ n ≤ 256)) w :=
  f86_of _ ((twithin_spec n 0 256 w).imp1 fun _ _ h => h)
theorem last_iff {down up downE upE off on even : Int} (hd : 0 ≤ down ∧ down ≤ 256) (hu : 0 ≤ up ∧ up ≤ 256) (hde : 0 ≤ downE ∧ downE ≤ 65536) (hue : 0 ≤ upE ∧ upE ≤ 65536) (hon : 0 ≤ on ∧ on ≤ 65536) (hoff : 0 ≤ off ∧ off ≤ on) (he : down + up ≤ even ∧ even ≤ 16384) :
    (IntKind.wrap .i64 ((IntKind.wrap .i64 (downE + upE)) + (IntKind.wrap .i64 (off * (IntKind.wrap .i64 ((IntKind.wrap .i64 (even - down)) - up))))) ≤ IntKind.wrap .i64 (on * even)) ↔ downE + upE + off * (even - down - up) ≤ on * even := by
  have h1 := mul_in hoff.1 (show off ≤ 65536 by omega) (show 0 ≤ even - down - up by omega) (show even - down - up ≤ 16384 by omega)
  have h2 := mul_in hon.1 hon.2 (show 0 ≤ even by omega) he.2
  rw [wz_id (x := even - down) (by omega) (by omega), wz_id (x := even - down - up) (by omega) (by omega), wz_id (x := off * (even - down - up)) (by omega) (by omega), wz_id (x := downE + upE) (by omega) (by omega), wz_id (x := on * even) (by omega) (by omega), wz_id (x := downE + upE + off * (even - down - up)) (by omega) (by omega)]
theorem raway_spec (down up downE upE off on even : Int) (w : World) : Call P 83 [.int .i64 down, .int .i64 up, .int .i64 downE, .int .i64 upE, .int .i64 off, .int .i64 on, .int .i64 even] [sB] (fun b w' => w' = w ∧ (b = true ↔ AwayOk down up downE upE off on even)) w := by
  have no : ¬ AwayOk down up downE upE off on even → ((w = w) ∧ (false = true ↔ AwayOk down up downE upE off on even)) := fun h => ⟨rfl, iff_no h⟩
  refine f83_of _ _ _ _ _ _ _ (If_d (fun h => no fun k => ?_) fun h1 => If_d (fun h => no fun k => ?_) fun h2 => If_d (fun h => no fun k => ?_) fun h3 => If_d (fun h => no fun k => ?_) fun h4 => If_d (fun h => no fun k => ?_) fun h5 => If_d (fun h => no fun k => ?_) fun h6 => If_d (fun h => no fun k => ?_) fun h7 => If_d (fun h => no fun k => ?_) fun h8 => If_d (fun h => no fun k => ?_) fun h9 => If_d (fun h => no fun k => ?_) fun h10 => If_d (fun h => no fun k => ?_) fun h11 => If_d (fun h => no fun k => ?_) fun h12 => ?_)
  iterate 12 · obtain ⟨k1, k2, k3, k4, k5, k6, k7, k8, k9, _⟩ := k; omega
  rw [wz_id (x := down + up) (by omega) (by omega)]
  refine If_d (fun h13 => If_d (fun h14 => If_d (fun h15 => ⟨rfl, ?_⟩) fun h => no fun k => ?_) fun h => no fun k => ?_) fun h => no fun k => ?_
  · have hl := last_iff (down := down) (up := up) (downE := downE) (upE := upE) (off := off) (on := on) (even := even) (by omega) (by omega) (by omega) (by omega) (by omega) (by omega) (by omega)
    rw [decide_eq_true_eq, hl]
    unfold AwayOk
    constructor
    · exact fun h => ⟨by omega, by omega, by omega, by omega, by omega, by omega, by omega, by omega, by omega, h⟩
    · exact fun h => h.2.2.2.2.2.2.2.2.2
  all_goals obtain ⟨k1, k2, k3, k4, k5, k6, k7, k8, k9, _⟩ := k; omega
theorem taway_spec (down up downE upE off on even : Int) (w : World) (k : AwayOk down up downE upE off on even) : Call P 88 [.int .i64 down, .int .i64 up, .int .i64 downE, .int .i64 upE, .int .i64 off, .int .i64 on, .int .i64 even] [sB] (fun b w' => w' = w ∧ b = true) w := by
  obtain ⟨k1, k2, k3, k4, k5, k6, k7, k8, k9, k10⟩ := k
  refine f88_of _ _ _ _ _ _ _ ((latency_spec down w).imp1 ?_)
  rintro b1 w1 ⟨rfl, h1⟩
  refine If_not (If_b (fun _ => ?_) fun e => by rw [h1.2 k1] at e; cases e)
  refine (latency_spec up w1).imp1 ?_
  rintro b2 w2 ⟨rfl, h2⟩
  refine If_not (If_b (fun _ => ?_) fun e => by rw [h2.2 k2] at e; cases e)
  refine (power_spec downE w2).imp1 ?_
  rintro b3 w3 ⟨rfl, h3⟩
  refine If_not (If_b (fun _ => ?_) fun e => by rw [h3.2 k3] at e; cases e)
  refine (power_spec upE w3).imp1 ?_
  rintro b4 w4 ⟨rfl, h4⟩
  refine If_not (If_b (fun _ => ?_) fun e => by rw [h4.2 k4] at e; cases e)
  refine (power_spec on w4).imp1 ?_
  rintro b5 w5 ⟨rfl, h5⟩
  refine If_not (If_b (fun _ => ?_) fun e => by rw [h5.2 k5] at e; cases e)
  refine (twithin_spec off 0 on w5).imp1 ?_
  rintro b6 w6 ⟨rfl, h6⟩
  refine If_not (If_b (fun _ => ?_) fun e => by rw [h6.2 k6] at e; cases e)
  rw [wz_id (x := down + up) (by omega) (by omega)]
  refine (twithin_spec even (if 1 > down + up then 1 else down + up) 16384 w6).imp1 ?_
  rintro b7 w7 ⟨rfl, h7⟩
  refine If_b (fun _ => ⟨rfl, ?_⟩) fun e => by rw [h7.2 ⟨by split <;> omega, k9⟩] at e; cases e
  rw [decide_eq_true_eq, last_iff k1 k2 k3 k4 k5 k6 ⟨k7, k9⟩]
  exact k10
theorem rsleep_spec (x : Sleep) (idle : Int) (w : World) : Call P 52 [x.v, .int .i64 idle] [sB] (fun b w' => Below w.heap.size w w' ∧ (b = true ↔ AwayOk x.enter x.exit x.enterE x.exitE x.power idle x.even)) w := by
  refine f52_of _ _ (New_of fun b1 w1 c1 u1 => ?_)
  refine c1.ld (x := x.enter) rfl (c1.ld (x := x.exit) rfl (c1.ld (x := x.enterE) rfl (c1.ld (x := x.exitE) rfl (c1.ld (x := x.power) rfl (c1.ld (x := x.even) rfl ?_)))))
  refine (raway_spec x.enter x.exit x.enterE x.exitE x.power idle x.even w1).imp1 ?_
  rintro b w2 ⟨rfl, h⟩
  exact ⟨u1, h⟩
theorem rdevice_spec (x : Device) (w : World) : Call P 53 [x.v] [sB] (fun b w' => Below w.heap.size w w' ∧ (b = true ↔ AwayOk x.down x.up x.downE x.upE x.off x.on x.even)) w := by
  refine f53_of _ (New_of fun b1 w1 c1 u1 => ?_)
  refine c1.ld (x := x.down) rfl (c1.ld (x := x.up) rfl (c1.ld (x := x.downE) rfl (c1.ld (x := x.upE) rfl (c1.ld (x := x.off) rfl (c1.ld (x := x.on) rfl (c1.ld (x := x.even) rfl ?_))))))
  refine (raway_spec x.down x.up x.downE x.upE x.off x.on x.even w1).imp1 ?_
  rintro b w2 ⟨rfl, h⟩
  exact ⟨u1, h⟩
end
end Go.Proofs.YtajilfnceoeaiaaGreat.V
/- Machines that may be: the document's table. -/
namespace Go.Proofs.YtajilfnceoeaiaaGreat.V
open Go Go.RowKit Enc
set_option maxRecDepth 100000
/-- The levels up to one are right. -/
structure LevTo (m : Mach) (k : Nat) : Prop where
  lev : ∀ (i : Nat) (x : Level), i < k → m.L[i]? = some x → 1 ≤ x.p ∧ x.p ≤ 256 ∧ 0 ≤ x.e ∧ x.e ≤ 65536
  inc : ∀ (i : Nat) (x y : Level), i + 1 < k → m.L[i]? = some y → m.L[i + 1]? = some x → y.p < x.p
  eff : ∀ (i : Nat) (x y : Level), i + 1 < k → ((i + 1 : Nat) : Int) ≤ m.p.crit → m.L[i]? = some y → m.L[i + 1]? = some x → x.e - x.p * m.p.idle ≤ y.e - y.p * m.p.idle
theorem LevTo.zero {m : Mach} : LevTo m 0 := ⟨fun _ _ h => absurd h (Nat.not_lt_zero _), fun _ _ _ h => absurd h (Nat.not_lt_zero _), fun _ _ _ h => absurd h (Nat.not_lt_zero _)⟩
theorem LevTo.succ {m : Mach} {k : Nat} {x : Level} (h : LevTo m k) (hx : m.L[k]? = some x) (h1 : 1 ≤ x.p ∧ x.p ≤ 256 ∧ 0 ≤ x.e ∧ x.e ≤ 65536)
    (h2 : ∀ (j : Nat) (y : Level), k = j + 1 → m.L[j]? = some y → y.p < x.p ∧ ((k : Int) ≤ m.p.crit → x.e - x.p * m.p.idle ≤ y.e - y.p * m.p.idle)) : LevTo m (k + 1) := by
  refine ⟨fun i z hi hz => ?_, fun i u v hi hv hu => ?_, fun i u v hi hc hv hu => ?_⟩
  · by_cases e : i = k
    · subst e
      rw [hx] at hz; cases hz
      exact h1
    · exact h.lev i z (by omega) hz
  · by_cases e : i + 1 = k
    · subst e
      rw [hx] at hu; cases hu
      exact (h2 i v rfl hv).1
    · exact h.inc i u v (by omega) hv hu
  · by_cases e : i + 1 = k
    · subst e
      rw [hx] at hu; cases hu
      exact (h2 i v rfl hv).2 hc
    · exact h.eff i u v (by omega) hc hv hu
theorem eff_iff {x y : Level} {idle : Int} (hx : 1 ≤ x.p ∧ x.p ≤ 256 ∧ 0 ≤ x.e ∧ x.e ≤ 65536) (hy : 1 ≤ y.p ∧ y.p ≤ 256 ∧ 0 ≤ y.e ∧ y.e ≤ 65536) (hi : 0 ≤ idle ∧ idle ≤ 65536) :
    ((IntKind.wrap .i64 (x.e - (IntKind.wrap .i64 (x.p * idle)))) > (IntKind.wrap .i64 (y.e - (IntKind.wrap .i64 (y.p * idle))))) ↔ ¬ x.e - x.p * idle ≤ y.e - y.p * idle := by
  have h1 := mul_in (show 0 ≤ x.p by omega) hx.2.1 hi.1 hi.2
  have h2 := mul_in (show 0 ≤ y.p by omega) hy.2.1 hi.1 hi.2
  rw [wz_id (x := x.p * idle) (by omega) (by omega), wz_id (x := y.p * idle) (by omega) (by omega), wz_id (x := x.e - x.p * idle) (by omega) (by omega), wz_id (x := y.e - y.p * idle) (by omega) (by omega)]
  omega
section
variable {o o' : Own} {w w' : World} {m : Mach}
theorem table_spec (hm : MachR o w m) : Call P 34 [m.p.v] [sB] (fun b w' => Below w.heap.size w w' ∧ (b = true ↔ Tab m)) w := by
  have hLn := hm.L.n
  have hSn := hm.S.n
  have hDn := hm.D.n
  refine f34_of _ (New_of fun b1 w1 c1 u1 => ?_)
  have hm := hm.below u1
  have no : ∀ w', Below w.heap.size w w' → ¬ Tab m → (Below w.heap.size w w' ∧ (false = true ↔ Tab m)) := fun w' u h => ⟨u, iff_no h⟩
  refine c1.ld (x := m.p.levels) rfl (If_d (fun h => no _ u1 fun t => (by have := t.l1; omega)) fun g1 => ?_)
  refine c1.ld (x := m.p.levels) rfl (If_d (fun h => no _ u1 fun t => (by have := t.l4; omega)) fun g2 => ?_)
  refine c1.ld (x := m.p.idle) rfl (If_d (c := m.p.idle < 0) (fun h => no _ u1 fun t => (by have := t.idle; omega)) fun g3 => ?_)
  refine c1.ld (x := m.p.idle) rfl (If_d (c := m.p.idle > 65536) (fun h => no _ u1 fun t => (by have := t.idle; omega)) fun g4 => ?_)
  refine c1.ld (x := m.p.crit) rfl (If_d (c := m.p.crit < 0) (fun h => no _ u1 fun t => (by have := t.crit; omega)) fun g5 => ?_)
  refine c1.ld (x := m.p.crit) rfl (c1.ld (x := m.p.levels) rfl (If_d (c := m.p.crit ≥ ((m.p.levels.n : Nat) : Int)) (fun h => no _ u1 fun t => (by have := t.crit; omega)) fun g6 => ?_))
  refine c1.ld (x := m.p.switch) rfl (If_d (c := m.p.switch < 0) (fun h => no _ u1 fun t => (by have := t.sw; omega)) fun g7 => ?_)
  refine c1.ld (x := m.p.switch) rfl (If_d (c := m.p.switch > 256) (fun h => no _ u1 fun t => (by have := t.sw; omega)) fun g8 => ?_)
  refine c1.ld (x := m.p.switchE) rfl (If_d (c := m.p.switchE < 0) (fun h => no _ u1 fun t => (by have := t.swE; omega)) fun g9 => ?_)
  refine c1.ld (x := m.p.switchE) rfl (If_d (c := m.p.switchE > 65536) (fun h => no _ u1 fun t => (by have := t.swE; omega)) fun g10 => ?_)
  refine c1.ld (x := m.p.sleeps) rfl (If_d (fun h => no _ u1 fun t => (by have := t.s3; omega)) fun g11 => ?_)
  refine c1.ld (x := m.p.devices) rfl (If_d (fun h => no _ u1 fun t => (by have := t.d3; omega)) fun g12 => ?_)
  refine c1.ld (x := m.p.sems) rfl (If_d (c := m.p.sems < 0) (fun h => no _ u1 fun t => (by have := t.sems; omega)) fun g13 => ?_)
  refine c1.ld (x := m.p.sems) rfl (If_d (c := m.p.sems > 3) (fun h => no _ u1 fun t => (by have := t.sems; omega)) fun g14 => ?_)
  refine c1.ld (x := m.p.horizon) rfl (If_d (c := m.p.horizon < 1) (fun h => no _ u1 fun t => (by have := t.hor; omega)) fun g15 => ?_)
  refine c1.ld (x := m.p.horizon) rfl (If_d (c := m.p.horizon > 16384) (fun h => no _ u1 fun t => (by have := t.hor; omega)) fun g16 => ?_)
  -- the levels
  refine ⟨fun n w' => ∃ k : Nat, n = k ∧ k ≤ m.L.length ∧ LevTo m k ∧ Below w1.heap.size w1 w', fun n _ => m.L.length - n.toNat, ⟨0, rfl, Nat.zero_le _, .zero, Below.refl _ _⟩, ?_⟩
  rintro n v ⟨k, rfl, hk, hl, u⟩ _
  have c1' := c1.below u
  have hm' := hm.below u
  refine c1'.ld (x := m.p.levels) rfl (If_d (fun hlt => ?_) fun hlt => ?_)
  · have hkl : k < m.L.length := by omega
    have hx : m.L[k]? = some m.L[k] := List.getElem?_eq_getElem hkl
    generalize m.L[k] = x at hx
    have hme : m.L.length - Int.toNat ((k : Int) + 1) < m.L.length - Int.toNat (k : Int) := by omega
    refine c1'.ld (x := m.p.levels) rfl (hm'.L.level rfl hx (NewSt_of (by rfl) fun b2 w2 c2 u2 => ?_))
    have U := (u1.on u).on u2
    have ub : Below w1.heap.size w1 w2.drew := (u.on u2).on bdrew
    have U := U.on bdrew
    have c2 : Bx w2.drew b2 0 x.l := c2.below bdrew
    have c1' := (c1'.below u2).below bdrew
    have hm' := (hm'.below u2).below bdrew
    refine c2.ld (x := x.p) rfl (If_d (c := x.p < 1) (fun h => no _ U fun t => (by have := t.lev k x hx; omega)) fun r1 => ?_)
    refine c2.ld (x := x.p) rfl (If_d (c := x.p > 256) (fun h => no _ U fun t => (by have := t.lev k x hx; omega)) fun r2 => ?_)
    refine c2.ld (x := x.e) rfl (If_d (c := x.e < 0) (fun h => no _ U fun t => (by have := t.lev k x hx; omega)) fun r3 => ?_)
    refine c2.ld (x := x.e) rfl (If_d (c := x.e > 65536) (fun h => no _ U fun t => (by have := t.lev k x hx; omega)) fun r4 => ?_)
    have hxr : 1 ≤ x.p ∧ x.p ≤ 256 ∧ 0 ≤ x.e ∧ x.e ≤ 65536 := by omega
    rw [wz_id (x := (k : Int) + 1) (by omega) (by omega)]
    -- the next one
    have nxt : ∀ w', Below w1.heap.size w1 w' → (∀ (j : Nat) (y : Level), k = j + 1 → m.L[j]? = some y → y.p < x.p ∧ ((k : Int) ≤ m.p.crit → x.e - x.p * m.p.idle ≤ y.e - y.p * m.p.idle)) →
        (∃ k' : Nat, ((k : Int) + 1) = k' ∧ k' ≤ m.L.length ∧ LevTo m k' ∧ Below w1.heap.size w1 w') ∧ m.L.length - Int.toNat ((k : Int) + 1) < m.L.length - Int.toNat (k : Int) :=
      fun w' ub h => ⟨⟨k + 1, by omega, by omega, hl.succ hx hxr h, ub⟩, hme⟩
    refine If_d (c := (k : Int) > 0) (fun k0 => ?_) fun k0 => ?_
    · obtain ⟨j, rfl⟩ : ∃ j, k = j + 1 := ⟨k - 1, by omega⟩
      have hj : (((j + 1 : Nat) : Int) - 1) = (j : Int) := by omega
      rw [hj, wz_id (x := (j : Int)) (by omega) (by omega)]
      obtain ⟨y, hy⟩ : ∃ y, m.L[j]? = some y := ⟨m.L[j]'(by omega), List.getElem?_eq_getElem (by omega)⟩
      have hyr := hl.lev j y (by omega) hy
      refine c2.ld (x := x.p) rfl (c1'.ld (x := m.p.levels) rfl (hm'.L.fld (f := 0) (e := .ki .i64) (y := y.p) rfl hy rfl rfl (If_d (c := x.p ≤ y.p) (fun h => no _ U fun t => (by have := t.inc j x y hy hx; omega)) fun r5 => ?_)))
      have U := U.on bdrew
      have ub := ub.on bdrew
      have c2 := c2.below bdrew
      have c1' := c1'.below bdrew
      have hm' := hm'.below bdrew
      refine If_d (c := ((j + 1 : Nat) : Int) > 0) (fun _ => ?_) fun h => absurd k0 h
      refine c1'.ld (x := m.p.crit) rfl (If_d (c := ((j + 1 : Nat) : Int) ≤ m.p.crit) (fun hc => ?_) fun hc => nxt _ ub fun i z e hz => ?_)
      · refine c2.ld (x := x.e) rfl (c2.ld (x := x.p) rfl (c1'.ld (x := m.p.idle) rfl (c1'.ld (x := m.p.levels) rfl (hm'.L.fld (f := 1) (e := .ki .i64) (y := y.e) rfl hy rfl rfl (c1'.ld (x := m.p.levels) rfl (hm'.L.fld (f := 0) (e := .ki .i64) (y := y.p) rfl hy rfl rfl (c1'.ld (x := m.p.idle) rfl (If_d (fun h => no _ U fun t => ?_) fun h => nxt _ ub fun i z e hz => ?_))))))))
        · exact (eff_iff hxr hyr (by omega)).1 h (t.eff j x y hc hy hx)
        · obtain rfl : i = j := by omega
          rw [hy] at hz; cases hz
          refine ⟨by omega, fun _ => ?_⟩
          by_cases q : x.e - x.p * m.p.idle ≤ y.e - y.p * m.p.idle
          · exact q
          · exact absurd ((eff_iff hxr hyr (by omega)).2 q) h
      · obtain rfl : i = j := by omega
        rw [hy] at hz; cases hz
        exact ⟨by omega, fun h => absurd h hc⟩
    · have U := U.on bdrew
      have ub := ub.on bdrew
      refine If_d (c := (k : Int) > 0) (fun h => absurd h k0) fun _ => nxt _ ub fun i z e hz => by omega
  · have hkl : k = m.L.length := by omega
    subst hkl
    -- the sleeps
    refine ⟨fun n w' => ∃ k : Nat, n = k ∧ k ≤ m.S.length ∧ (∀ (i : Nat) (x : Sleep), i < k → m.S[i]? = some x → AwayOk x.enter x.exit x.enterE x.exitE x.power m.p.idle x.even) ∧ Below w1.heap.size w1 w', fun n _ => m.S.length - n.toNat, ⟨0, rfl, Nat.zero_le _, fun i x h => by omega, u⟩, ?_⟩
    rintro n v ⟨k, rfl, hk, hs, u⟩ _
    have c1' := c1.below u
    have hm' := hm.below u
    refine c1'.ld (x := m.p.sleeps) rfl (If_d (fun hlt => ?_) fun hlt => ?_)
    · have hkl : k < m.S.length := by omega
      have hx : m.S[k]? = some m.S[k] := List.getElem?_eq_getElem hkl
      generalize m.S[k] = x at hx
      have hme : m.S.length - Int.toNat ((k : Int) + 1) < m.S.length - Int.toNat (k : Int) := by omega
      have c1' := c1'.below bdrew
      have hm' := hm'.below bdrew
      have u := u.on bdrew
      refine c1'.ld (x := m.p.sleeps) rfl (hm'.S.sleep rfl hx (c1'.ld (x := m.p.idle) rfl ?_))
      refine (rsleep_spec x m.p.idle v.drew).imp1 ?_
      rintro b3 w3 ⟨u3, h3⟩
      have c1' := c1'.below u3
      have u := u.on u3
      refine ⟨by (first | (apply Bx.get0f; apply Blk.bx; assumption; rfl) | (apply Bx.get0f; apply Blk.bx; apply KRep.b; assumption; rfl) | (apply Bx.get0f; assumption; rfl) | (apply Bx.get00; apply Blk.bx; apply KRep.b; assumption; rfl) | (apply Bx.get0; apply Blk.bx; apply KRep.b; assumption; rfl) | (apply Bx.get00; apply Blk.bx; assumption; rfl) | (apply Bx.get00; assumption; rfl) | (apply Bx.getAt; assumption; rfl) | (apply Bx.get0; assumption; rfl) | (apply Bx.get; assumption; rfl) | (apply Bx.get0; apply Blk.bx; assumption; rfl) | (apply Bx.get; apply Blk.bx; assumption; rfl)), If_not (If_b (fun e => ?_) fun e => no _ (u1.on u) fun t => ?_)⟩
      · rw [wz_id (x := (k : Int) + 1) (by omega) (by omega)]
        refine ⟨⟨k + 1, by omega, by omega, fun i z hi hz => ?_, u⟩, hme⟩
        by_cases q : i = k
        · subst q
          rw [hx] at hz; cases hz
          exact h3.1 e
        · exact hs i z (by omega) hz
      · have := h3.2 (t.slp k x hx)
        rw [e] at this
        cases this
    · have hkl : k = m.S.length := by omega
      subst hkl
      -- the devices
      refine ⟨fun n w' => ∃ k : Nat, n = k ∧ k ≤ m.D.length ∧ (∀ (i : Nat) (x : Device), i < k → m.D[i]? = some x → AwayOk x.down x.up x.downE x.upE x.off x.on x.even) ∧ Below w1.heap.size w1 w', fun n _ => m.D.length - n.toNat, ⟨0, rfl, Nat.zero_le _, fun i x h => by omega, u⟩, ?_⟩
      rintro n v ⟨k, rfl, hk, hd, u⟩ _
      have c1' := c1.below u
      have hm' := hm.below u
      refine c1'.ld (x := m.p.devices) rfl (If_d (fun hlt => ?_) fun hlt => ?_)
      · have hkl : k < m.D.length := by omega
        have hx : m.D[k]? = some m.D[k] := List.getElem?_eq_getElem hkl
        generalize m.D[k] = x at hx
        have hme : m.D.length - Int.toNat ((k : Int) + 1) < m.D.length - Int.toNat (k : Int) := by omega
        refine c1'.ld (x := m.p.devices) rfl (hm'.D.device rfl hx ?_)
        refine (rdevice_spec x v).imp1 ?_
        rintro b3 w3 ⟨u3, h3⟩
        have c1' := c1'.below u3
        have u := u.on u3
        refine If_not (If_b (fun e => ?_) fun e => no _ (u1.on u) fun t => ?_)
        · rw [wz_id (x := (k : Int) + 1) (by omega) (by omega)]
          refine ⟨⟨k + 1, by omega, by omega, fun i z hi hz => ?_, u⟩, hme⟩
          by_cases q : i = k
          · subst q
            rw [hx] at hz; cases hz
            exact h3.1 e
          · exact hd i z (by omega) hz
        · have := h3.2 (t.dev k x hx)
          rw [e] at this
          cases this
      · have hkl : k = m.D.length := by omega
        subst hkl
        refine ⟨u1.on u, iff_yes ⟨by omega, by omega, by omega, by omega, by omega, by omega, by omega, by omega, by omega, by omega, fun i x hx => hl.lev i x (lt_of_get hx) hx, fun i x y hy hx => hl.inc i x y (lt_of_get hx) hy hx, fun i x y hc hy hx => hl.eff i x y (lt_of_get hx) hc hy hx, fun i x hx => hs i x (lt_of_get hx) hx, fun i x hx => hd i x (lt_of_get hx) hx⟩⟩
end
end Go.Proofs.YtajilfnceoeaiaaGreat.V
/- Machines that may be: the program's own check lets them. -/
namespace Go.Proofs.YtajilfnceoeaiaaGreat.V
open Go Go.RowKit Enc
set_option maxRecDepth 100000
section
variable {o o' : Own} {w w' : World} {m : Mach}
theorem of_iff {b : Bool} {p : Prop} (h : b = true ↔ p) (k : p) {x y : Prop} (hx : x) : If b x y := by
  rw [h.2 k]; exact hx
theorem tlevels_spec (hm : MachR o w m) (t : Tab m) : Call P 85 [m.p.v] [sB] (fun b w' => Below w.heap.size w w' ∧ b = true) w := by
  have hLn := hm.L.n
  have hl1 := t.l1
  have hl4 := t.l4
  have hcr := t.crit
  have hid := t.idle
  refine f85_of _ (New_of fun b1 w1 c1 u1 => ?_)
  have hm := hm.below u1
  have hq693 := twithin_spec ((m.p.levels.n : Nat) : Int) 1 4 w1
  refine c1.ld (x := m.p.levels) rfl ?_
  refine hq693.imp1 ?_
  rintro b w2 ⟨rfl, hb⟩
  refine If_not (of_iff hb (by omega) ?_)
  refine c1.ld (x := m.p.crit) rfl (c1.ld (x := m.p.levels) rfl ?_)
  rw [wz_id (x := ((m.p.levels.n : Nat) : Int) - 1) (by omega) (by omega)]
  refine (twithin_spec m.p.crit 0 _ w2).imp1 ?_
  rintro b w3 ⟨rfl, hb⟩
  refine If_not (of_iff hb (by omega) ?_)
  refine c1.ld (x := m.p.levels) rfl ?_
  refine ⟨fun n w' => ∃ k : Nat, n = k ∧ k ≤ m.L.length ∧ Below w3.heap.size w3 w', fun n _ => m.L.length - n.toNat, ⟨0, rfl, Nat.zero_le _, Below.refl _ _⟩, ?_⟩
  rintro n v ⟨k, rfl, hk, u⟩ _
  have c1 := c1.below u
  have hm := hm.below u
  refine If_d (fun hlt => ?_) fun hlt => ⟨u1.on u, rfl⟩
  have hkl : k < m.L.length := by omega
  have hx : m.L[k]? = some m.L[k] := List.getElem?_eq_getElem hkl
  generalize m.L[k] = x at hx
  have hme : m.L.length - Int.toNat ((k : Int) + 1) < m.L.length - Int.toNat (k : Int) := by omega
  have hxr := t.lev k x hx
  rw [wz_id (x := (k : Int) + 1) (by omega) (by omega)]
  have nxt : ∀ w', Below w3.heap.size w3 w' → (∃ k' : Nat, ((k : Int) + 1) = k' ∧ k' ≤ m.L.length ∧ Below w3.heap.size w3 w') ∧ m.L.length - Int.toNat ((k : Int) + 1) < m.L.length - Int.toNat (k : Int) :=
    fun w' ub => ⟨⟨k + 1, by omega, by omega, ub⟩, hme⟩
  refine hm.L.level rfl hx (NewSt_of (by rfl) fun b2 w4 c2 u2 => ?_)
  have c2 : Bx w4 b2 0 x.l := c2
  have c1 := c1.below u2
  have hm := hm.below u2
  have u := u.on u2
  have hq2175 := twithin_spec x.p 1 256 w4
  refine c2.ld (x := x.p) rfl ?_
  refine hq2175.imp1 ?_
  rintro b w5 ⟨rfl, hb⟩
  refine If_not (of_iff hb (by omega) ?_)
  have hq2309 := power_spec x.e w5
  refine c2.ld (x := x.e) rfl ?_
  refine hq2309.imp1 ?_
  rintro b w6 ⟨rfl, hb⟩
  refine If_not (of_iff hb (by omega) ?_)
  refine If_eq (fun k0 => nxt _ u) fun k0 => ?_
  have k0 : (k : Int) ≠ 0 := k0
  obtain ⟨j, rfl⟩ : ∃ j, k = j + 1 := ⟨k - 1, by omega⟩
  have hj : (((j + 1 : Nat) : Int) - 1) = (j : Int) := by omega
  obtain ⟨y, hy⟩ : ∃ y, m.L[j]? = some y := ⟨m.L[j]'(by omega), List.getElem?_eq_getElem (by omega)⟩
  have hyr := t.lev j y hy
  rw [hj, wz_id (x := (j : Int)) (by omega) (by omega)]
  refine c1.ld (x := m.p.levels) rfl (hm.L.level rfl hy (NewSt_of (by rfl) fun b3 w7 c3 u3 => ?_))
  have c3 : Bx w7 b3 0 y.l := c3
  have c1 := c1.below u3
  have c2 := c2.below u3
  have u := u.on u3
  have hinc := t.inc j x y hy hx
  refine c2.ld (x := x.p) rfl (c3.ld (x := y.p) rfl (If_d (c := x.p ≤ y.p) (fun h => by omega) fun _ => ?_))
  refine c1.ld (x := m.p.crit) rfl (If_d (c := ((j + 1 : Nat) : Int) ≤ m.p.crit) (fun hc => ?_) fun _ => nxt _ u)
  refine c2.ld (x := x.e) rfl (c2.ld (x := x.p) rfl (c1.ld (x := m.p.idle) rfl (c3.ld (x := y.e) rfl (c3.ld (x := y.p) rfl (c1.ld (x := m.p.idle) rfl (If_d (fun h => ?_) fun _ => nxt _ u))))))
  exact absurd (t.eff j x y hc hy hx) ((eff_iff hxr hyr hid).1 h)
theorem check54_spec (hm : MachR o w m) (t : Tab m) : Call P 54 [m.p.v] [sI] (fun e w' => Below w.heap.size w w' ∧ e = 0) w := by
  have hSn := hm.S.n
  have hDn := hm.D.n
  have hs3 := t.s3
  have hd3 := t.d3
  refine f54_of _ (New_of fun b1 w1 c1 u1 => ?_)
  have hm := hm.below u1
  have hq3820 := power_spec m.p.idle w1
  refine c1.ld (x := m.p.idle) rfl ?_
  refine hq3820.imp1 ?_
  rintro b w2 ⟨rfl, hb⟩
  refine of_iff hb t.idle (c1.ldPlat (x := m.p) ?_)
  have hlv := tlevels_spec hm t
  refine hlv.imp1 ?_
  rintro b w3 ⟨u3, rfl⟩
  have c1 := c1.below u3
  have hm := hm.below u3
  have u := u1.on u3
  have hq4114 := latency_spec m.p.switch w3
  refine If_t (c1.ld (x := m.p.switch) rfl ?_)
  refine hq4114.imp1 ?_
  rintro b w4 ⟨rfl, hb⟩
  have hq4221 := power_spec m.p.switchE w4
  refine of_iff hb t.sw (c1.ld (x := m.p.switchE) rfl ?_)
  refine hq4221.imp1 ?_
  rintro b w5 ⟨rfl, hb⟩
  refine of_iff hb t.swE (c1.ld (x := m.p.sleeps) rfl (If_d (fun _ => ?_) fun h => absurd (by omega) h))
  refine c1.ld (x := m.p.devices) rfl (If_d (fun _ => ?_) fun h => absurd (by omega) h)
  have hq4531 := twithin_spec m.p.sems 0 3 w5
  refine c1.ld (x := m.p.sems) rfl ?_
  refine hq4531.imp1 ?_
  rintro b w6 ⟨rfl, hb⟩
  have hq4631 := twithin_spec m.p.horizon 1 16384 w6
  refine of_iff hb t.sems (c1.ld (x := m.p.horizon) rfl ?_)
  refine hq4631.imp1 ?_
  rintro b w7 ⟨rfl, hb⟩
  have hbt := hb.2 t.hor
  subst hbt
  refine c1.ld (x := m.p.sleeps) rfl ?_
  refine ⟨fun b n w' => b = true ∧ ∃ k : Nat, n = k ∧ k ≤ m.S.length ∧ Below w7.heap.size w7 w', fun _ n _ => m.S.length - n.toNat, ⟨rfl, 0, rfl, Nat.zero_le _, Below.refl _ _⟩, ?_⟩
  rintro b n v ⟨rfl, k, rfl, hk, uu⟩ _
  have c1' := c1.below uu
  have hm' := hm.below uu
  refine If_d (fun hlt => ?_) fun hlt => ?_
  · have hkl : k < m.S.length := by omega
    have hx : m.S[k]? = some m.S[k] := List.getElem?_eq_getElem hkl
    generalize m.S[k] = x at hx
    have hme : m.S.length - Int.toNat ((k : Int) + 1) < m.S.length - Int.toNat (k : Int) := by omega
    refine hm'.S.sleep rfl hx (NewSt_of (by rfl) fun b2 w8 c2 u2 => ?_)
    have c2 : Bx w8 b2 0 x.l := c2
    have c1' := c1'.below u2
    refine If_t (c2.ld (x := x.enter) rfl (c2.ld (x := x.exit) rfl (c2.ld (x := x.enterE) rfl (c2.ld (x := x.exitE) rfl (c2.ld (x := x.power) rfl (c1'.ld (x := m.p.idle) rfl (c2.ld (x := x.even) rfl ?_)))))))
    refine (taway_spec x.enter x.exit x.enterE x.exitE x.power m.p.idle x.even w8 (t.slp k x hx)).imp1 ?_
    rintro b w9 ⟨rfl, rfl⟩
    rw [wz_id (x := (k : Int) + 1) (by omega) (by omega)]
    exact ⟨⟨rfl, k + 1, by omega, by omega, uu.on u2⟩, hme⟩
  · refine c1'.ld (x := m.p.devices) rfl ?_
    refine ⟨fun b n w' => b = true ∧ ∃ k : Nat, n = k ∧ k ≤ m.D.length ∧ Below w7.heap.size w7 w', fun _ n _ => m.D.length - n.toNat, ⟨rfl, 0, rfl, Nat.zero_le _, uu⟩, ?_⟩
    rintro b n v ⟨rfl, k, rfl, hk, uu⟩ _
    have c1' := c1.below uu
    have hm' := hm.below uu
    refine If_d (fun hlt => ?_) fun hlt => If_not (If_t ⟨u.on uu, rfl⟩)
    have hkl : k < m.D.length := by omega
    have hx : m.D[k]? = some m.D[k] := List.getElem?_eq_getElem hkl
    generalize m.D[k] = x at hx
    have hme : m.D.length - Int.toNat ((k : Int) + 1) < m.D.length - Int.toNat (k : Int) := by omega
    refine hm'.D.device rfl hx (NewSt_of (by rfl) fun b2 w8 c2 u2 => ?_)
    have c2 : Bx w8 b2 0 x.l := c2
    refine If_t (c2.ld (x := x.down) rfl (c2.ld (x := x.up) rfl (c2.ld (x := x.downE) rfl (c2.ld (x := x.upE) rfl (c2.ld (x := x.off) rfl (c2.ld (x := x.on) rfl (c2.ld (x := x.even) rfl ?_)))))))
    refine (taway_spec x.down x.up x.downE x.upE x.off x.on x.even w8 (t.dev k x hx)).imp1 ?_
    rintro b w9 ⟨rfl, rfl⟩
    rw [wz_id (x := (k : Int) + 1) (by omega) (by omega)]
    exact ⟨⟨rfl, k + 1, by omega, by omega, uu.on u2⟩, hme⟩
end
end Go.Proofs.YtajilfnceoeaiaaGreat.V
/- A region that draws its order, by an invariant over what is done. -/
namespace Go.Proofs.YtajilfnceoeaiaaGreat.V
open Go
section
variable {P : Program}
def undone (l : Array Bool) : Nat := (l.toList.filter fun b => !b).length
theorem filter_set_lt : ∀ (l : List Bool) (i : Nat), l[i]? = some false → ((l.set i true).filter fun b => !b).length + 1 = (l.filter fun b => !b).length
  | [], _, h => by cases h
  | a :: l, 0, h => by cases h; simp
  | a :: l, i + 1, h => by
    have := filter_set_lt l i h
    simp only [List.set_cons_succ, List.filter_cons]
    cases a <;> simp <;> omega
theorem undone_set {l : Array Bool} {i : Nat} (h : l.getD i true = false) : undone (l.setIfInBounds i true) + 1 = undone l := by
  have hl : l.toList[i]? = some false := by
    rcases Nat.lt_or_ge i l.size with h' | h'
    · simp [h'] at h ⊢; exact h
    · simp [Array.getElem?_eq_none h'] at h
  have := filter_set_lt l.toList i hl
  simpa [undone] using this
def need (l : Array Bool) : List Go.Edge → Prop → Prop
  | [], X => X
  | e :: r, X => match Region.binds .any e with
    | true => l.getD e.on false = true → need l r X
    | false => need l r X
theorem need_elim {l : Array Bool} {X : Prop} : ∀ {es : List Go.Edge}, need l es X → (∀ e ∈ es, Region.binds .any e = true → l.getD e.on false = true) → X
  | [], h, _ => h
  | e :: r, h, hk => by
    unfold need at h
    split at h
    · rename_i hb
      exact need_elim (h (hk e (by simp) hb)) fun x hx => hk x (by simp [hx])
    · exact need_elim h fun x hx => hk x (by simp [hx])
/-- What one operation of the region has to do. -/
def stepP (P : Program) (ops : List Oper) (J : Array Bool → Env → World → Prop) (i : Nat) : Prop := match ops[i]? with
  | some o => (match o.guard with
    | none => ∀ (l : Array Bool) (e : Env) (w : World), J l e w → need l o.after.toList (opV P (ev e) o (fun v w' => J (l.setIfInBounds i true) (putE e o.dst v) w') w)
    | some _ => False)
  | none => False
def forward (ops : List Oper) : Bool := (List.range ops.length).all fun i => match ops[i]? with
  | some o => o.after.toList.all fun e => !Region.binds .any e || decide (e.on < i)
  | none => true
theorem all_done {ops : Array Oper} (hf : forward ops.toList = true) {l : Array Bool} (hl : l.size = ops.size) (h : Region.ready .any ops l = []) : ∀ i, i < ops.size → l.getD i false = true := by
  intro i
  induction i using Nat.strongRecOn with
  | _ i ih =>
    intro hi
    by_cases hd : l.getD i true = false
    · exfalso
      have hm : i ∈ Region.ready .any ops l := by
        rw [mem_ready]
        refine ⟨hd, ops[i], Array.getElem?_eq_getElem hi, fun e he hb => ?_⟩
        unfold forward at hf
        rw [List.all_eq_true] at hf
        have h1 := hf i (List.mem_range.2 (by simpa using hi))
        rw [Array.getElem?_toList, Array.getElem?_eq_getElem hi] at h1
        simp only [List.all_eq_true] at h1
        have h2 := h1 e (by simpa using he)
        rw [hb] at h2
        have h3 : e.on < i := by simpa using h2
        exact ih e.on h3 (by omega)
      rw [h] at hm
      cases hm
    · have : i < l.size := by omega
      simp [this] at hd ⊢
      exact hd
theorem raw_go {ops : Array Oper} {J : Array Bool → Env → World → Prop} {K : Env → World → Prop} {e₀ : Env} (hJ : ∀ i, i < ops.size → stepP P ops.toList J i)
    (hend : ∀ l e w, J l e w → Region.ready .any ops l = [] → K e w) : ∀ (n : Nat) (l : Array Bool) (e : Env) (w : World), undone l ≤ n → agree (dsts ops.toList) e₀ e → J l e w → wpAny P .any ops (QN (dsts ops.toList) e₀ K) n l (act e) w := by
  intro n
  induction n with
  | zero =>
    intro l e w hn ha hj
    have hr : Region.ready .any ops l = [] := by
      rcases hq : Region.ready .any ops l with _ | ⟨i, r⟩
      · rfl
      · have hm : i ∈ Region.ready .any ops l := by rw [hq]; simp
        have := undone_set (mem_ready.1 hm).1
        omega
    exact ⟨hr, e, rfl, ha, hend _ _ _ hj hr⟩
  | succ n ih =>
    intro l e w hn ha hj
    refine ⟨fun hr => ⟨e, rfl, ha, hend _ _ _ hj hr⟩, fun i hi => ?_⟩
    obtain ⟨hun, o, ho, hall⟩ := mem_ready.1 hi
    have hlt : i < ops.size := (Array.getElem?_eq_some_iff.1 ho).1
    have hs := hJ i hlt
    unfold stepP at hs
    have ho' : ops.toList[i]? = some o := by simpa using ho
    rw [ho'] at hs
    dsimp only at hs
    split at hs
    · rename_i hg
      have h1 := need_elim (hs l e w hj) fun x hx hb => hall x (by simpa using hx) hb
      unfold wpOp
      rw [ho]
      have hw : Region.wanted o (yielded ops (act e).tmps) = true := by simp [Region.wanted, hg]
      simp only [hw, if_true]
      refine .inl (wp_of_ok (opV_ok h1) fun v w' hk => ?_)
      have := undone_set hun
      exact ih _ _ _ (by omega) (ha.trans (agree.put v (mem_dsts (List.mem_of_getElem? ho')))) hk
    · exact hs.elim
theorem raw_inv (hm : P.follows .mixedOrders = true) {id : Nat} {ops : Array Oper} {K : Env → World → Prop} {e : Env} {w : World} (J : Array Bool → Env → World → Prop) (h0 : J (Array.replicate ops.size false) e w.drew)
    (hJ : ∀ i, i < ops.size → stepP P ops.toList J i) (hend : ∀ l e w, J l e w → Region.ready .any ops l = [] → K e w) : RawR P id ops K e w := by
  refine wp_region_any hm ?_
  refine raw_go hJ hend ops.size _ e w.drew ?_ (agree.refl _ _) h0
  unfold undone
  refine Nat.le_trans (List.length_filter_le _ _) ?_
  simp
/-- The operations of a body's region. -/
def regOf (id : Nat) : Code → Array Oper
  | .region i ops _ => match i == id with
    | true => ops
    | false => #[]
  | .seq a b => match (regOf id a).size with
    | 0 => regOf id b
    | _ => regOf id a
  | .block _ c => regOf id c
  | .loop c => regOf id c
  | .scope c => regOf id c
  | .cond _ a b => match (regOf id a).size with
    | 0 => regOf id b
    | _ => regOf id a
  | _ => #[]
end
end Go.Proofs.YtajilfnceoeaiaaGreat.V
/- A new kernel: its body. -/
namespace Go.Proofs.YtajilfnceoeaiaaGreat.V
open Go Go.RowKit Enc
set_option maxRecDepth 100000
noncomputable def body35 : Code := match Tryz.f35.body with
  | some c => c
  | none => .skip
noncomputable def ops35 : Array Oper := regOf 4 body35
def env35 (p : Plat) (a1 : Addr) (s4 s5 s6 : Sl) (n7 n8 n9 n10 n11 n12 n : Int) : Env :=
  [p.v, .pointer (some a1), .pointer none, .int .i64 0, .int .i64 n, .agg #[.slice s4.a s4.n s4.c, .slice s5.a s5.n s5.c, .slice s6.a s6.n s6.c, .int .i64 n7, .int .i64 n8, .int .i64 n9, .int .i64 n10, .int .i64 n11, .int .i64 n12], .int .i64 n, .int .i64 n, .bool (n != 0),
   undef, undef, undef, undef, undef, undef, undef, undef, undef, undef, undef, undef, undef, undef, undef, undef, undef, undef, undef, undef, undef, undef]
theorem f35_of (p : Plat) {K : Option Addr → Int → World → Prop} {w : World} (vc :
  New [.slice p.levels.a p.levels.n p.levels.c, .slice p.sleeps.a p.sleeps.n p.sleeps.c, .slice p.devices.a p.devices.n p.devices.c, .int .i64 p.idle, .int .i64 p.crit, .int .i64 p.switch, .int .i64 p.switchE, .int .i64 p.sems, .int .i64 p.horizon] 26 (fun a1 w =>
  LdN shPlat.cs 0 a1 (fun s4 s5 s6 n7 n8 n9 n10 n11 n12 w =>
  Call P 54 [.agg #[.slice s4.a s4.n s4.c, .slice s5.a s5.n s5.c, .slice s6.a s6.n s6.c, .int .i64 n7, .int .i64 n8, .int .i64 n9, .int .i64 n10, .int .i64 n11, .int .i64 n12]] [sI] (fun n w =>
  If (n != 0) (K none n w) (
  RawR P 4 ops35 (fun e w => match shOk [sP, sI] [e.getD 2 undef, e.getD 3 undef] with
    | true => apl (fun _ => False) [.kp, .ki .i64] K (flatV [e.getD 2 undef, e.getD 3 undef]) w
    | false => False) (env35 p a1 s4 s5 s6 n7 n8 n9 n10 n11 n12 n) w)) w) w) w) : Call P 35 [p.v] [sP, sI] K w :=
  call_of (H := ⟨[], [], [], []⟩) Tryz.func35 (by kernel_rfl) (by kernel_rfl) vc
end Go.Proofs.YtajilfnceoeaiaaGreat.V
/- A new kernel. -/
namespace Go.Proofs.YtajilfnceoeaiaaGreat.V
open Go Go.RowKit Enc
set_option maxRecDepth 100000
def noMeter : Meter := ⟨0, 0, 0, 0⟩
/-- A kernel at the beginning. -/
def s0 (m : Mach) : KS := { now := 0, level := 0, policy := 0, naps := false, places := 0, T := List.replicate 6 noTask, N := List.replicate 6 0, U := List.replicate 6 0, jobs := fun _ => none, stack := [], ended := false, held := [], lat := fun _ => none, tim := fun _ => none, devs := List.replicate m.D.length noAway, spent := List.replicate m.D.length 0, asleep := false, state := 0, wake := 0, trace := [], meter := noMeter, events := [] }
/-- The same machine, elsewhere. -/
def pl (m : Mach) (x y z : Sl) : Mach := { m with p := { m.p with levels := x, sleeps := y, devices := z } }
theorem zTask : ZeroIs 37 noTask.t := by unfold ZeroIs; kernel_rfl
theorem zAway : ZeroIs 97 noAway := by unfold ZeroIs; kernel_rfl
section
variable {o o' : Own} {w w' : World} {m : Mach}
theorem own55_spec (h : MachR o w m) (t : Tab m) : Call P 55 [m.p.v] [shPlat] (fun a b c d e f g i j w' => (d = m.p.idle ∧ e = m.p.crit ∧ f = m.p.switch ∧ g = m.p.switchE ∧ i = m.p.sems ∧ j = m.p.horizon) ∧ ∃ o', MachR o' w' (pl m a b c) ∧ Up no o w o' w') w := by
  have hl := t.l4
  have hs := t.s3
  have hd := t.d3
  refine f55_of _ (New_blk o 90 fun b1 o1 w1 k1 u1 hb1 => New_blk o1 91 fun b2 o2 w2 k2 u2 hb2 => ?_)
  have ud : Up no o1 w1 o2 w2.drew := u2.trans .drew
  have U := u1.trans ud
  have h := h.up U rfl
  have k1 := k1.up ud rfl
  have k2 := k2.up (C := no) (o' := o2) (w' := w2.drew) .drew rfl
  refine k1.bx.ld (x := m.p.levels) rfl (k1.bx.ld (x := m.p.sleeps) rfl (k1.bx.ld (x := m.p.devices) rfl ?_))
  have hc := cloneLevel_spec h.L (by omega) 0
  refine hc.imp1 ?_
  rintro s5 w3 ⟨o3, r5, _, _, u3⟩
  have h := h.up u3 rfl
  have k1 := k1.up u3 rfl
  have k2 := k2.up u3 rfl
  have U := U.trans u3
  refine ⟨by (first | (apply Bx.get0f; apply Blk.bx; assumption; rfl) | (apply Bx.get0f; apply Blk.bx; apply KRep.b; assumption; rfl) | (apply Bx.get0f; assumption; rfl) | (apply Bx.get00; apply Blk.bx; apply KRep.b; assumption; rfl) | (apply Bx.get0; apply Blk.bx; apply KRep.b; assumption; rfl) | (apply Bx.get00; apply Blk.bx; assumption; rfl) | (apply Bx.get00; assumption; rfl) | (apply Bx.getAt; assumption; rfl) | (apply Bx.get0; assumption; rfl) | (apply Bx.get; assumption; rfl) | (apply Bx.get0; apply Blk.bx; assumption; rfl) | (apply Bx.get; apply Blk.bx; assumption; rfl)), by (first | (apply Bx.get0f; apply Blk.bx; assumption; rfl) | (apply Bx.get0f; apply Blk.bx; apply KRep.b; assumption; rfl) | (apply Bx.get0f; assumption; rfl) | (apply Bx.get00; apply Blk.bx; apply KRep.b; assumption; rfl) | (apply Bx.get0; apply Blk.bx; apply KRep.b; assumption; rfl) | (apply Bx.get00; apply Blk.bx; assumption; rfl) | (apply Bx.get00; assumption; rfl) | (apply Bx.getAt; assumption; rfl) | (apply Bx.get0; assumption; rfl) | (apply Bx.get; assumption; rfl) | (apply Bx.get0; apply Blk.bx; assumption; rfl) | (apply Bx.get; apply Blk.bx; assumption; rfl)), ?_⟩
  have hc := cloneSleep_spec h.S (by omega) 0
  refine hc.imp1 ?_
  rintro s6 w4 ⟨o4, r6, _, _, u4⟩
  have h := h.up u4 rfl
  have k1 := k1.up u4 rfl
  have k2 := k2.up u4 rfl
  have r5 := RL.up r5 u4 rfl
  have U := U.trans u4
  refine ⟨by (first | (apply Bx.get0f; apply Blk.bx; assumption; rfl) | (apply Bx.get0f; apply Blk.bx; apply KRep.b; assumption; rfl) | (apply Bx.get0f; assumption; rfl) | (apply Bx.get00; apply Blk.bx; apply KRep.b; assumption; rfl) | (apply Bx.get0; apply Blk.bx; apply KRep.b; assumption; rfl) | (apply Bx.get00; apply Blk.bx; assumption; rfl) | (apply Bx.get00; assumption; rfl) | (apply Bx.getAt; assumption; rfl) | (apply Bx.get0; assumption; rfl) | (apply Bx.get; assumption; rfl) | (apply Bx.get0; apply Blk.bx; assumption; rfl) | (apply Bx.get; apply Blk.bx; assumption; rfl)), by (first | (apply Bx.get0f; apply Blk.bx; assumption; rfl) | (apply Bx.get0f; apply Blk.bx; apply KRep.b; assumption; rfl) | (apply Bx.get0f; assumption; rfl) | (apply Bx.get00; apply Blk.bx; apply KRep.b; assumption; rfl) | (apply Bx.get0; apply Blk.bx; apply KRep.b; assumption; rfl) | (apply Bx.get00; apply Blk.bx; assumption; rfl) | (apply Bx.get00; assumption; rfl) | (apply Bx.getAt; assumption; rfl) | (apply Bx.get0; assumption; rfl) | (apply Bx.get; assumption; rfl) | (apply Bx.get0; apply Blk.bx; assumption; rfl) | (apply Bx.get; apply Blk.bx; assumption; rfl)), ?_⟩
  have hc := cloneDevice_spec h.D (by omega) 0
  refine hc.imp1 ?_
  rintro s7 w5 ⟨o5, r7, _, _, u5⟩
  have k1 := k1.up u5 rfl
  have k2 := k2.up u5 rfl
  have r5 := RL.up r5 u5 rfl
  have r6 := RL.up r6 u5 rfl
  have U := U.trans u5
  refine ⟨by (first | (apply Bx.get0f; apply Blk.bx; assumption; rfl) | (apply Bx.get0f; apply Blk.bx; apply KRep.b; assumption; rfl) | (apply Bx.get0f; assumption; rfl) | (apply Bx.get00; apply Blk.bx; apply KRep.b; assumption; rfl) | (apply Bx.get0; apply Blk.bx; apply KRep.b; assumption; rfl) | (apply Bx.get00; apply Blk.bx; assumption; rfl) | (apply Bx.get00; assumption; rfl) | (apply Bx.getAt; assumption; rfl) | (apply Bx.get0; assumption; rfl) | (apply Bx.get; assumption; rfl) | (apply Bx.get0; apply Blk.bx; assumption; rfl) | (apply Bx.get; apply Blk.bx; assumption; rfl)), by (first | (apply Bx.get0f; apply Blk.bx; assumption; rfl) | (apply Bx.get0f; apply Blk.bx; apply KRep.b; assumption; rfl) | (apply Bx.get0f; assumption; rfl) | (apply Bx.get00; apply Blk.bx; apply KRep.b; assumption; rfl) | (apply Bx.get0; apply Blk.bx; apply KRep.b; assumption; rfl) | (apply Bx.get00; apply Blk.bx; assumption; rfl) | (apply Bx.get00; assumption; rfl) | (apply Bx.getAt; assumption; rfl) | (apply Bx.get0; assumption; rfl) | (apply Bx.get; assumption; rfl) | (apply Bx.get0; apply Blk.bx; assumption; rfl) | (apply Bx.get; apply Blk.bx; assumption; rfl)), ?_⟩
  have hs1 : w.heap.size ≤ b1 := by rw [hb1]; exact Nat.le_refl _
  have hs2 : w.heap.size ≤ b2 := by rw [hb2]; exact u1.size
  refine k1.wr (f := 0) (vs := [vS s5]) (by simp) fun w6 k1 hw6 => ?_
  have v6 := hw6.up k1.own
  have k2 := k2.up v6 rfl
  have r5 := RL.up r5 v6 rfl
  have r6 := RL.up r6 v6 rfl
  have r7 := RL.up r7 v6 rfl
  have U := U.wr hw6 hs1
  refine k1.wr (f := 1) (vs := [vS s6]) (by simp [splice]) fun w7 k1 hw7 => ?_
  have v7 := hw7.up k1.own
  have k2 := k2.up v7 rfl
  have r5 := RL.up r5 v7 rfl
  have r6 := RL.up r6 v7 rfl
  have r7 := RL.up r7 v7 rfl
  have U := U.wr hw7 hs1
  refine k1.wr (f := 2) (vs := [vS s7]) (by simp [splice]) fun w8 k1 hw8 => ?_
  have v8 := hw8.up k1.own
  have k2 := k2.up v8 rfl
  have r5 := RL.up r5 v8 rfl
  have r6 := RL.up r6 v8 rfl
  have r7 := RL.up r7 v8 rfl
  have U := U.wr hw8 hs1
  have k1 : Blk o5 w8 90 b1 (.cells (pl m s5 s6 s7).p.l.toArray 26 (0, 0)) := k1
  refine k1.bx.ldPlat (x := (pl m s5 s6 s7).p) (k2.wr0 (vs := (pl m s5 s6 s7).p.l) (by rfl) fun w9 k2 hw9 => ?_)
  have v9 := hw9.up k2.own
  have r5 := RL.up r5 v9 rfl
  have r6 := RL.up r6 v9 rfl
  have r7 := RL.up r7 v9 rfl
  have U := U.wr hw9 hs2
  refine k2.bx.ldPlat (x := (pl m s5 s6 s7).p) ⟨⟨rfl, rfl, rfl, rfl, rfl, rfl⟩, o5, ⟨r5, r6, r7⟩, U⟩
theorem uChan : P.underlying 83 = some (.chan .both 153) := by kernel_rfl
theorem iChan : (P.info? 153).map (·.bytes) = some 0 := by kernel_rfl
theorem makeChan_of (o : Own) {K : Option Nat → World → Prop} (hk : ∀ b o' w', ChanR o' w' b 0 → Up no o w o' w' → K (some b) w') : Sm P (Instr.makeChan 83 (.int .i64 6)) [sC] K w := by
  obtain ⟨i, hi, hb⟩ := Option.map_eq_some_iff.1 iChan
  refine ⟨_, some w.heap.size, ?_, hk _ (setO o w.heap.size 9) (w.alloc (.chan 6 #[] false 0 0 false)) ⟨#[], 0, 0, Blk.new _ _, rfl⟩ (Up.alloc _ _)⟩
  simp [Instr.makeChan, asInt, run_underlying uChan, typeInfo, hi, hb, run_newObj_alloc, Result.andThen, IntKind.max, IntKind.bits, IntKind.signed]
  rfl
end
end Go.Proofs.YtajilfnceoeaiaaGreat.V
/- A new kernel: the region that makes its parts, in whatever order. -/
namespace Go.Proofs.YtajilfnceoeaiaaGreat.V
open Go Go.RowKit Enc
set_option maxRecDepth 100000
noncomputable def op35 (i : Nat) : Oper := (ops35.toList[i]?).getD ⟨none, .nilCheck (.tmp 0), 0, "", #[], none⟩
theorem opV_pv {P : Program} {ρ : Operand → Value} {o : Oper} {K : Value → World → Prop} {w : World} {v : Value} (h : pv P ρ o = some v) (k : K v w) : opV P ρ o K w := by
  unfold opV
  rw [h]
  exact k
theorem op0 (e : Env) (K : Value → World → Prop) (w : World) (a : Addr) (h : e.getD 1 undef = .pointer (some a)) (k : LdN shPlat.cs 0 a (fun s4 s5 s6 n7 n8 n9 n10 n11 n12 w => K (.agg #[.slice s4.a s4.n s4.c, .slice s5.a s5.n s5.c, .slice s6.a s6.n s6.c, .int .i64 n7, .int .i64 n8, .int .i64 n9, .int .i64 n10, .int .i64 n11, .int .i64 n12]) w) w) : opV P (ev e) (op35 0) K w := by
  have hop : (op35 0).op = .load 26 (.tmp 1) := by kernel_rfl
  have hp : pv P (ev e) (op35 0) = none := by unfold pv; rw [hop]
  have hq : ev e (.tmp 1) = .pointer (some a) := h
  have h1 : isAggT P 26 = some true := by kernel_rfl
  have h2 : shOf P 26 = shPlat := by kernel_rfl
  have h3 : (sizeT P 26 == some shPlat.cs.length) = true := by kernel_rfl
  unfold opV
  rw [hp, hop]
  simp only [hq, h1, h2, h3]
  exact k
theorem op1 (e : Env) (K : Value → World → Prop) (w : World) : opV P (ev e) (op35 1) K w = Call P 55 [e.getD 10 undef] [shPlat] (fun s4 s5 s6 n7 n8 n9 n10 n11 n12 w => K (.agg #[.slice s4.a s4.n s4.c, .slice s5.a s5.n s5.c, .slice s6.a s6.n s6.c, .int .i64 n7, .int .i64 n8, .int .i64 n9, .int .i64 n10, .int .i64 n11, .int .i64 n12]) w) w := by kernel_rfl
theorem op2 (e : Env) (K : Value → World → Prop) (w : World) : opV P (ev e) (op35 2) K w = Sm P (Instr.makeChan 83 (.int .i64 6)) [sC] (fun c w => K (.chan c) w) w := by kernel_rfl
theorem op3 (e : Env) (K : Value → World → Prop) (w : World) : opV P (ev e) (op35 3) K w = Sm P (Instr.makeSlice 54 (.int .i64 6) (.int .i64 6)) [sS] (fun s w => K (vS s) w) w := by kernel_rfl
theorem op4 (e : Env) (K : Value → World → Prop) (w : World) : opV P (ev e) (op35 4) K w = Sm P (Instr.makeSlice 35 (.int .i64 6) (.int .i64 6)) [sS] (fun s w => K (vS s) w) w := by kernel_rfl
theorem op5 (e : Env) (K : Value → World → Prop) (w : World) : opV P (ev e) (op35 5) K w = Sm P (Instr.makeSlice 35 (.int .i64 6) (.int .i64 6)) [sS] (fun s w => K (vS s) w) w := by kernel_rfl
theorem op6 (e : Env) (K : Value → World → Prop) (w : World) : opV P (ev e) (op35 6) K w = Call P 56 [] [sP] (fun p w => K (.pointer p) w) w := by kernel_rfl
theorem op7 (e : Env) (K : Value → World → Prop) (w : World) : opV P (ev e) (op35 7) K w = Call P 57 [] [sP] (fun p w => K (.pointer p) w) w := by kernel_rfl
theorem op8 (e : Env) (K : Value → World → Prop) (w : World) : opV P (ev e) (op35 8) K w = Call P 58 [] [sP] (fun p w => K (.pointer p) w) w := by kernel_rfl
theorem op9 (e : Env) (K : Value → World → Prop) (w : World) : opV P (ev e) (op35 9) K w = Call P 59 [] [sP] (fun p w => K (.pointer p) w) w := by kernel_rfl
theorem op18 (e : Env) (K : Value → World → Prop) (w : World) : opV P (ev e) (op35 18) K w = Call P 60 [] [sP] (fun p w => K (.pointer p) w) w := by kernel_rfl
theorem opFA {i : Nat} {x : Nat} (hop : (op35 i).op = .fieldAddr 26 (.tmp x) 2) (e : Env) (K : Value → World → Prop) (w : World) (a : Addr) (h : e.getD x undef = .pointer (some a)) (k : K (.pointer (some (a.add 2))) w) : opV P (ev e) (op35 i) K w := by
  have hp : pv P (ev e) (op35 i) = none := by unfold pv; rw [hop]
  have hq : ev e (.tmp x) = .pointer (some a) := h
  have h1 : fieldOff P 26 2 = some (24, 2) := by kernel_rfl
  have h2 : sizeT P 24 = some 1 := by kernel_rfl
  unfold opV
  rw [hp, hop]
  simp only [hq, h1, h2]
  exact k
theorem opLS {i : Nat} {x : Nat} (hop : (op35 i).op = .load 24 (.tmp x)) (e : Env) (K : Value → World → Prop) (w : World) (a : Addr) (s : Sl) (h : e.getD x undef = .pointer (some a)) (hs : w.cell? a = some (vS s)) (k : K (vS s) w) : opV P (ev e) (op35 i) K w := by
  have hp : pv P (ev e) (op35 i) = none := by unfold pv; rw [hop]
  have hq : ev e (.tmp x) = .pointer (some a) := h
  have h1 : isAggT P 24 = some false := by kernel_rfl
  have h2 : shOf P 24 = sS := by kernel_rfl
  unfold opV
  rw [hp, hop]
  simp only [hq, h1, h2, sS]
  exact ⟨s, hs, k⟩
theorem opLen {i : Nat} {x : Nat} (hop : (op35 i).op = .call { callee := .builtin .len, args := #[.tmp x], argTypes := #[24] }) (e : Env) (K : Value → World → Prop) (w : World) (s : Sl) (h : e.getD x undef = vS s) (k : K (.int .i64 s.n) w) : opV P (ev e) (op35 i) K w := by
  refine opV_pv (v := .int .i64 s.n) ?_ k
  have hq : ev e (.tmp x) = vS s := h
  have hu : P.underlying 24 = some (.slice 58) := by kernel_rfl
  unfold pv
  rw [hop]
  simp only [hq, hu]
theorem op13 (e : Env) (K : Value → World → Prop) (w : World) : opV P (ev e) (op35 13) K w = Sm P (Instr.makeSlice 88 (e.getD 22 undef) (e.getD 22 undef)) [sS] (fun s w => K (vS s) w) w := by kernel_rfl
theorem op17 (e : Env) (K : Value → World → Prop) (w : World) : opV P (ev e) (op35 17) K w = Sm P (Instr.makeSlice 35 (e.getD 26 undef) (e.getD 26 undef)) [sS] (fun s w => K (vS s) w) w := by kernel_rfl
theorem op20 (e : Env) (K : Value → World → Prop) (w : World) : opV P (ev e) (op35 20) K w = New (e.getD 29 undef).cells.toList 91 (fun a => K (.pointer (some a))) w := by kernel_rfl
theorem op21 (e : Env) (K : Value → World → Prop) (w : World) : opV P (ev e) (op35 21) K w = K (e.getD 30 undef) w := by kernel_rfl
theorem op22 (e : Env) (K : Value → World → Prop) (w : World) : opV P (ev e) (op35 22) K w = K (.int .i64 0) w := by kernel_rfl
theorem op19 (e : Env) (K : Value → World → Prop) (w : World) (p : Plat) (c : Nat) (ts ns us ds xs : Sl) (st lk la ti tr : Nat) (h1 : e.getD 11 undef = p.v) (h2 : e.getD 12 undef = .chan (some c)) (h3 : e.getD 13 undef = vS ts) (h4 : e.getD 14 undef = vS ns) (h5 : e.getD 15 undef = vS us)
    (h6 : e.getD 16 undef = vP st) (h7 : e.getD 17 undef = vP lk) (h8 : e.getD 18 undef = vP la) (h9 : e.getD 19 undef = vP ti) (h13 : e.getD 23 undef = vS ds) (h17 : e.getD 27 undef = vS xs) (h18 : e.getD 28 undef = vP tr)
    (k : K (.agg (kcells p ⟨ts, ns, us, ⟨none, 0, 0⟩, ds, xs, ⟨none, 0, 0⟩, c, st, lk, la, ti, tr⟩ (s0 ⟨p, [], [], []⟩)).toArray) w) : opV P (ev e) (op35 19) K w := by
  refine opV_pv (v := .agg (kcells p ⟨ts, ns, us, ⟨none, 0, 0⟩, ds, xs, ⟨none, 0, 0⟩, c, st, lk, la, ti, tr⟩ (s0 ⟨p, [], [], []⟩)).toArray) ?_ k
  have hop : (op35 19).op = .build 91 #[(0, .tmp 11), (5, .tmp 12), (6, .tmp 13), (7, .tmp 14), (8, .tmp 15), (9, .tmp 16), (12, .tmp 17), (13, .tmp 18), (14, .tmp 19), (15, .tmp 23), (16, .tmp 27), (20, .tmp 28)] := by kernel_rfl
  have hb : (P.built 91 [(0, p.v), (5, .chan (some c)), (6, vS ts), (7, vS ns), (8, vS us), (9, vP st), (12, vP lk), (13, vP la), (14, vP ti), (15, vS ds), (16, vS xs), (20, vP tr)]).map Value.agg = some (.agg (kcells p ⟨ts, ns, us, ⟨none, 0, 0⟩, ds, xs, ⟨none, 0, 0⟩, c, st, lk, la, ti, tr⟩ (s0 ⟨p, [], [], []⟩)).toArray) := by kernel_rfl
  unfold pv
  rw [hop]
  simp only [List.map_cons, List.map_nil]
  rw [show ev e (.tmp 11) = p.v from h1, show ev e (.tmp 12) = _ from h2, show ev e (.tmp 13) = _ from h3, show ev e (.tmp 14) = _ from h4, show ev e (.tmp 15) = _ from h5, show ev e (.tmp 16) = _ from h6, show ev e (.tmp 17) = _ from h7, show ev e (.tmp 18) = _ from h8, show ev e (.tmp 19) = _ from h9, show ev e (.tmp 23) = _ from h13, show ev e (.tmp 27) = _ from h17, show ev e (.tmp 28) = _ from h18]
  exact hb
end Go.Proofs.YtajilfnceoeaiaaGreat.V
/- A new kernel. -/
namespace Go.Proofs.YtajilfnceoeaiaaGreat.V
open Go Go.RowKit Enc
set_option maxRecDepth 100000
/-- What each operation of the region leaves. -/
def PR (m : Mach) (a : Addr) (o : Own) (w : World) (v : Value) : Nat → Prop
  | 0 => v = m.p.v
  | 1 => ∃ x y z, v = (pl m x y z).p.v ∧ MachR o w (pl m x y z)
  | 2 => ∃ c, v = .chan (some c) ∧ ChanR o w c 0
  | 3 => ∃ s, v = vS s ∧ RowL o w 2 37 s (List.replicate 6 noTask.t)
  | 4 => ∃ s : Sl, v = vS s ∧ RowL o w 3 3 s (List.replicate 6 (0 : Int))
  | 5 => ∃ s : Sl, v = vS s ∧ RowL o w 4 3 s (List.replicate 6 (0 : Int))
  | 6 => ∃ b, v = vP b ∧ SetR o w 20 b (fun _ => none)
  | 7 => ∃ b, v = vP b ∧ LocksR o w b []
  | 8 => ∃ b, v = vP b ∧ LatchR o w 30 b (fun _ => none)
  | 9 => ∃ b, v = vP b ∧ TimersR o w 40 b (fun _ => none)
  | 10 => v = .pointer (some (a.add 2))
  | 11 => v = vS m.p.devices
  | 12 => v = .int .i64 m.p.devices.n
  | 13 => ∃ s, v = vS s ∧ RowL o w 6 97 s (List.replicate m.D.length noAway)
  | 14 => v = .pointer (some (a.add 2))
  | 15 => v = vS m.p.devices
  | 16 => v = .int .i64 m.p.devices.n
  | 17 => ∃ s : Sl, v = vS s ∧ RowL o w 7 3 s (List.replicate m.D.length (0 : Int))
  | 18 => ∃ b, v = vP b ∧ TraceR o w b []
  | 19 => ∃ x y z q, v = .agg (kcells (pl m x y z).p q (s0 (pl m x y z))).toArray ∧ KParts o w (pl m x y z) q (s0 (pl m x y z))
  | 20 => ∃ x y z q b, v = vP b ∧ KRep o w (pl m x y z) b q (s0 (pl m x y z))
  | 21 => ∃ x y z q b, v = vP b ∧ KRep o w (pl m x y z) b q (s0 (pl m x y z))
  | 22 => v = .int .i64 0
  | _ => True
def dst35 : Nat → Nat
  | 21 => 2
  | 22 => 3
  | i => 10 + i
theorem dst35_inj {i j : Nat} (hi : i < 23) (hj : j < 23) (h : dst35 i = dst35 j) : i = j := by
  have h1 : ∀ k, k < 23 → k = 21 ∧ dst35 k = 2 ∨ k = 22 ∧ dst35 k = 3 ∨ (k < 21 ∧ dst35 k = 10 + k) := fun k hk => by
    unfold dst35
    split
    · exact .inl ⟨rfl, rfl⟩
    · exact .inr (.inl ⟨rfl, rfl⟩)
    · rename_i h1 h2
      refine .inr (.inr ⟨?_, rfl⟩)
      have a1 : k ≠ 21 := h1
      have a2 : k ≠ 22 := h2
      omega
  have := h1 i hi
  have := h1 j hj
  omega
theorem dst35_ne1 (i : Nat) : dst35 i ≠ 1 := by
  unfold dst35
  split <;> omega
theorem dst35_lt {i : Nat} (h : i < 23) : dst35 i < 31 := by
  unfold dst35
  split
  · decide
  · decide
  · rename_i h1 h2
    have a1 : i ≠ 21 := h1
    have a2 : i ≠ 22 := h2
    omega
section
variable {o o' : Own} {w w' : World} {m : Mach} {a : Addr} {v : Value}
theorem PR.up {i : Nat} (hi : i < 23) (h : PR m a o w v i) (u : Up no o w o' w') : PR m a o' w' v i := by
  have : i = 0 ∨ i = 1 ∨ i = 2 ∨ i = 3 ∨ i = 4 ∨ i = 5 ∨ i = 6 ∨ i = 7 ∨ i = 8 ∨ i = 9 ∨ i = 10 ∨ i = 11 ∨ i = 12 ∨ i = 13 ∨ i = 14 ∨ i = 15 ∨ i = 16 ∨ i = 17 ∨ i = 18 ∨ i = 19 ∨ i = 20 ∨ i = 21 ∨ i = 22 := by omega
  rcases this with rfl | rfl | rfl | rfl | rfl | rfl | rfl | rfl | rfl | rfl | rfl | rfl | rfl | rfl | rfl | rfl | rfl | rfl | rfl | rfl | rfl | rfl | rfl
  · exact h
  · obtain ⟨x, y, z, h1, h2⟩ := h; exact ⟨x, y, z, h1, h2.up u rfl⟩
  · obtain ⟨x, h1, h2⟩ := h; exact ⟨x, h1, h2.up u rfl⟩
  · obtain ⟨x, h1, h2⟩ := h; exact ⟨x, h1, h2.up u rfl⟩
  · obtain ⟨x, h1, h2⟩ := h; exact ⟨x, h1, h2.up u rfl⟩
  · obtain ⟨x, h1, h2⟩ := h; exact ⟨x, h1, h2.up u rfl⟩
  · obtain ⟨x, h1, h2⟩ := h; exact ⟨x, h1, h2.up u fun _ _ _ => rfl⟩
  · obtain ⟨x, h1, h2⟩ := h; exact ⟨x, h1, h2.upno u⟩
  · obtain ⟨x, h1, h2⟩ := h; exact ⟨x, h1, PairR.up h2 u fun _ _ _ => rfl⟩
  · obtain ⟨x, h1, h2⟩ := h; exact ⟨x, h1, PairR.up h2 u fun _ _ _ => rfl⟩
  · exact h
  · exact h
  · exact h
  · obtain ⟨x, h1, h2⟩ := h; exact ⟨x, h1, h2.up u rfl⟩
  · exact h
  · exact h
  · exact h
  · obtain ⟨x, h1, h2⟩ := h; exact ⟨x, h1, h2.up u rfl⟩
  · obtain ⟨x, h1, h2⟩ := h; exact ⟨x, h1, h2.upno u⟩
  · obtain ⟨x, y, z, q, h1, h2⟩ := h; exact ⟨x, y, z, q, h1, h2.upno u⟩
  · obtain ⟨x, y, z, q, b, h1, h2⟩ := h; exact ⟨x, y, z, q, b, h1, h2.upno u⟩
  · obtain ⟨x, y, z, q, b, h1, h2⟩ := h; exact ⟨x, y, z, q, b, h1, h2.upno u⟩
  · exact h
/-- What holds in the region, of whatever is done. -/
structure J35 (m : Mach) (b1 : Nat) (o0 : Own) (w0 : World) (l : Array Bool) (e : Env) (w : World) (o : Own) : Prop where
  le : e.length = 31
  ll : l.size = 23
  e1 : e.getD 1 undef = .pointer (some ⟨b1, 0, none⟩)
  u : Up no o0 w0 o w
  k1 : Blk o w 90 b1 (.cells m.p.l.toArray 26 (0, 0))
  mR : MachR o w m
  each : ∀ i, i < 23 → l.getD i false = true → PR m ⟨b1, 0, none⟩ o w (e.getD (dst35 i) undef) i
theorem J35.step {b1 : Nat} {o0 : Own} {w0 : World} {l : Array Bool} {e : Env} {i : Nat} (h : J35 m b1 o0 w0 l e w o) (hi : i < 23) (u : Up no o w o' w') (hv : PR m ⟨b1, 0, none⟩ o' w' v i) :
    J35 m b1 o0 w0 (l.setIfInBounds i true) (e.set (dst35 i) v) w' o' := by
  have hlt := dst35_lt hi
  refine ⟨by simpa using h.le, by simpa using h.ll, ?_, h.u.trans u, h.k1.up u rfl, h.mR.up u rfl, fun j hj hd => ?_⟩
  · have := h.e1
    rw [List.getD_eq_getElem?_getD] at this ⊢
    rw [List.getElem?_set_ne (dst35_ne1 i)]
    exact this
  · by_cases e' : i = j
    · subst e'
      have : (e.set (dst35 i) v).getD (dst35 i) undef = v := by
        rw [List.getD_eq_getElem?_getD, List.getElem?_set_self (by rw [h.le]; exact hlt)]
        rfl
      rw [this]
      exact hv
    · have hne : dst35 i ≠ dst35 j := fun h => e' (dst35_inj hi hj h)
      have h1 : (e.set (dst35 i) v).getD (dst35 j) undef = e.getD (dst35 j) undef := by
        rw [List.getD_eq_getElem?_getD, List.getElem?_set_ne hne, List.getD_eq_getElem?_getD]
      rw [h1]
      refine (h.each j hj ?_).up hj u
      rwa [getD_set_ne false e'] at hd
end
theorem stepP_of {J : Array Bool → Env → World → Prop} {i : Nat} (ho : ops35.toList[i]? = some (op35 i)) (hg : (op35 i).guard = none) (h : ∀ l e w, J l e w → need l (op35 i).after.toList (opV P (ev e) (op35 i) (fun v w' => J (l.setIfInBounds i true) (putE e (op35 i).dst v) w') w)) : stepP P ops35.toList J i := by
  unfold stepP
  rw [ho]
  simp only [hg]
  exact h
end Go.Proofs.YtajilfnceoeaiaaGreat.V
/- A new kernel. -/
namespace Go.Proofs.YtajilfnceoeaiaaGreat.V
open Go Go.RowKit Enc
set_option maxRecDepth 100000
def depsOf : List Go.Edge → List Nat
  | [] => []
  | e :: r => match Region.binds .any e with
    | true => e.on :: depsOf r
    | false => depsOf r
theorem need_intro {l : Array Bool} {X : Prop} : ∀ {es : List Go.Edge}, ((∀ i ∈ depsOf es, l.getD i false = true) → X) → need l es X
  | [], h => h fun i hi => by cases hi
  | e :: r, h => by
    unfold need
    unfold depsOf at h
    split
    · rename_i hb
      rw [hb] at h
      intro h1
      exact need_intro fun h2 => h fun i hi => by
        rcases List.mem_cons.1 hi with rfl | hi
        · exact h1
        · exact h2 i hi
    · rename_i hb
      rw [hb] at h
      exact need_intro h
section
variable {m : Mach} {b1 : Nat} {o0 : Own} {w0 : World}
def JJ (m : Mach) (b1 : Nat) (o0 : Own) (w0 : World) (l : Array Bool) (e : Env) (w : World) : Prop := ∃ o, J35 m b1 o0 w0 l e w o
theorem go35 {i : Nat} (hi : i < 23) (ho : ops35.toList[i]? = some (op35 i)) (hg : (op35 i).guard = none) (hd : (op35 i).dst = some (dst35 i)) (ds : List Nat) (hds : depsOf (op35 i).after.toList = ds)
    (h : ∀ (l : Array Bool) (e : Env) (w : World) (o : Own), J35 m b1 o0 w0 l e w o → (∀ j ∈ ds, l.getD j false = true) → ∀ K : Value → World → Prop, (∀ v w' o', Up no o w o' w' → PR m ⟨b1, 0, none⟩ o' w' v i → K v w') → opV P (ev e) (op35 i) K w) : stepP P ops35.toList (JJ m b1 o0 w0) i := by
  refine stepP_of ho hg fun l e w ⟨o, hj⟩ => need_intro fun hn => ?_
  rw [hds] at hn
  rw [hd]
  exact h l e w o hj hn _ fun v w' o' u hv => ⟨o', hj.step hi u hv⟩
variable {l : Array Bool} {e : Env} {w : World} {o : Own}
theorem steps35 (t : Tab m) : ∀ i, i < ops35.size → stepP P ops35.toList (JJ m b1 o0 w0) i := by
  have hsz : ops35.size = 23 := by kernel_rfl
  intro i hi
  rw [hsz] at hi
  have hd3 := t.d3
  have : i = 0 ∨ i = 1 ∨ i = 2 ∨ i = 3 ∨ i = 4 ∨ i = 5 ∨ i = 6 ∨ i = 7 ∨ i = 8 ∨ i = 9 ∨ i = 10 ∨ i = 11 ∨ i = 12 ∨ i = 13 ∨ i = 14 ∨ i = 15 ∨ i = 16 ∨ i = 17 ∨ i = 18 ∨ i = 19 ∨ i = 20 ∨ i = 21 ∨ i = 22 := by omega
  rcases this with rfl | rfl | rfl | rfl | rfl | rfl | rfl | rfl | rfl | rfl | rfl | rfl | rfl | rfl | rfl | rfl | rfl | rfl | rfl | rfl | rfl | rfl | rfl
  · refine go35 hi (by kernel_rfl) (by kernel_rfl) (by kernel_rfl) [] (by kernel_rfl) fun l e w o h hn K k => ?_
    exact op0 e K w _ h.e1 (h.k1.bx.ldPlat (x := m.p) (k _ _ o .refl rfl))
  · refine go35 hi (by kernel_rfl) (by kernel_rfl) (by kernel_rfl) [0] (by kernel_rfl) fun l e w o h hn K k => ?_
    rw [op1]
    have h0 := h.each 0 (by decide) (hn 0 (by decide))
    have h0 : e.getD 10 undef = m.p.v := h0
    rw [h0]
    have hc := own55_spec h.mR t
    refine Calls.mono hc ?_
    rintro x w' ⟨a, b, c, d, e2, f, g, i, j, he, ⟨⟨rfl, rfl, rfl, rfl, rfl, rfl⟩, o', h1, u⟩⟩
    exact ⟨a, b, c, _, _, _, _, _, _, he, k _ w' o' u ⟨a, b, c, rfl, h1⟩⟩
  · refine go35 hi (by kernel_rfl) (by kernel_rfl) (by kernel_rfl) [] (by kernel_rfl) fun l e w o h hn K k => ?_
    rw [op2]
    exact makeChan_of o fun b o' w' h1 u => k _ w' o' u ⟨b, rfl, h1⟩
  · refine go35 hi (by kernel_rfl) (by kernel_rfl) (by kernel_rfl) [] (by kernel_rfl) fun l e w o h hn K k => ?_
    rw [op3]
    exact makeN_of (n := 6) etTask zTask o 2 rfl rfl (by decide) (by decide) fun s o' w' h1 u => k _ w' o' u ⟨s, rfl, h1⟩
  · refine go35 hi (by kernel_rfl) (by kernel_rfl) (by kernel_rfl) [] (by kernel_rfl) fun l e w o h hn K k => ?_
    rw [op4]
    exact makeN_of (n := 6) etInt zInt o 3 rfl rfl (by decide) (by decide) fun s o' w' h1 u => k _ w' o' u ⟨s, rfl, h1⟩
  · refine go35 hi (by kernel_rfl) (by kernel_rfl) (by kernel_rfl) [] (by kernel_rfl) fun l e w o h hn K k => ?_
    rw [op5]
    exact makeN_of (n := 6) etInt zInt o 4 rfl rfl (by decide) (by decide) fun s o' w' h1 u => k _ w' o' u ⟨s, rfl, h1⟩
  · refine go35 hi (by kernel_rfl) (by kernel_rfl) (by kernel_rfl) [1] (by kernel_rfl) fun l e w o h hn K k => ?_
    rw [op6]
    have hc := setNew_spec w o 20
    refine hc.imp1 ?_
    rintro p w' ⟨b, o', rfl, h1, u⟩
    exact k _ w' o' u ⟨b, rfl, h1⟩
  · refine go35 hi (by kernel_rfl) (by kernel_rfl) (by kernel_rfl) [6] (by kernel_rfl) fun l e w o h hn K k => ?_
    rw [op7]
    have hc := locksNew_spec w o
    refine hc.imp1 ?_
    rintro p w' ⟨b, o', rfl, h1, u⟩
    exact k _ w' o' u ⟨b, rfl, h1⟩
  · refine go35 hi (by kernel_rfl) (by kernel_rfl) (by kernel_rfl) [7] (by kernel_rfl) fun l e w o h hn K k => ?_
    rw [op8]
    have hc := latchNew_spec w o 30
    refine hc.imp1 ?_
    rintro p w' ⟨b, o', rfl, h1, u⟩
    exact k _ w' o' u ⟨b, rfl, h1⟩
  · refine go35 hi (by kernel_rfl) (by kernel_rfl) (by kernel_rfl) [8] (by kernel_rfl) fun l e w o h hn K k => ?_
    rw [op9]
    have hc := timersNew_spec w o 40
    refine hc.imp1 ?_
    rintro p w' ⟨b, o', rfl, h1, u⟩
    exact k _ w' o' u ⟨b, rfl, h1⟩
  · refine go35 hi (by kernel_rfl) (by kernel_rfl) (by kernel_rfl) [] (by kernel_rfl) fun l e w o h hn K k => ?_
    exact opFA (by kernel_rfl) e K w _ h.e1 (k _ _ o .refl rfl)
  · refine go35 hi (by kernel_rfl) (by kernel_rfl) (by kernel_rfl) [10] (by kernel_rfl) fun l e w o h hn K k => ?_
    have h0 := h.each 10 (by decide) (hn 10 (by decide))
    exact opLS (by kernel_rfl) e K w _ m.p.devices h0 (h.k1.bx.get rfl) (k _ _ o .refl rfl)
  · refine go35 hi (by kernel_rfl) (by kernel_rfl) (by kernel_rfl) [11] (by kernel_rfl) fun l e w o h hn K k => ?_
    have h0 := h.each 11 (by decide) (hn 11 (by decide))
    exact opLen (by kernel_rfl) e K w m.p.devices h0 (k _ _ o .refl rfl)
  · refine go35 hi (by kernel_rfl) (by kernel_rfl) (by kernel_rfl) [12, 12] (by kernel_rfl) fun l e w o h hn K k => ?_
    have h0 := h.each 12 (by decide) (hn 12 (by decide))
    have h0 : e.getD 22 undef = .int .i64 m.p.devices.n := h0
    rw [op13, h0]
    have hn := h.mR.D.n
    exact makeN_of (n := m.D.length) etAway zAway o 6 (by rw [hn]) (by rw [hn]) (by omega) (by unfold maxLen; omega) fun s o' w' h1 u => k _ w' o' u ⟨s, rfl, h1⟩
  · refine go35 hi (by kernel_rfl) (by kernel_rfl) (by kernel_rfl) [] (by kernel_rfl) fun l e w o h hn K k => ?_
    exact opFA (by kernel_rfl) e K w _ h.e1 (k _ _ o .refl rfl)
  · refine go35 hi (by kernel_rfl) (by kernel_rfl) (by kernel_rfl) [14] (by kernel_rfl) fun l e w o h hn K k => ?_
    have h0 := h.each 14 (by decide) (hn 14 (by decide))
    exact opLS (by kernel_rfl) e K w _ m.p.devices h0 (h.k1.bx.get rfl) (k _ _ o .refl rfl)
  · refine go35 hi (by kernel_rfl) (by kernel_rfl) (by kernel_rfl) [15] (by kernel_rfl) fun l e w o h hn K k => ?_
    have h0 := h.each 15 (by decide) (hn 15 (by decide))
    exact opLen (by kernel_rfl) e K w m.p.devices h0 (k _ _ o .refl rfl)
  · refine go35 hi (by kernel_rfl) (by kernel_rfl) (by kernel_rfl) [16, 16] (by kernel_rfl) fun l e w o h hn K k => ?_
    have h0 := h.each 16 (by decide) (hn 16 (by decide))
    have h0 : e.getD 26 undef = .int .i64 m.p.devices.n := h0
    rw [op17, h0]
    have hn := h.mR.D.n
    exact makeN_of (n := m.D.length) etInt zInt o 7 (by rw [hn]) (by rw [hn]) (by omega) (by unfold maxLen; omega) fun s o' w' h1 u => k _ w' o' u ⟨s, rfl, h1⟩
  · refine go35 hi (by kernel_rfl) (by kernel_rfl) (by kernel_rfl) [9] (by kernel_rfl) fun l e w o h hn K k => ?_
    rw [op18]
    have hc := traceNew_spec w o
    refine hc.imp1 ?_
    rintro p w' ⟨b, o', rfl, h1, u⟩
    exact k _ w' o' u ⟨b, rfl, h1⟩
  · refine go35 hi (by kernel_rfl) (by kernel_rfl) (by kernel_rfl) [1, 2, 3, 4, 5, 6, 7, 8, 9, 13, 17, 18] (by kernel_rfl) fun l e w o h hn K k => ?_
    obtain ⟨x, y, z, p1, q1⟩ := h.each 1 (by decide) (hn 1 (by decide))
    obtain ⟨c, p2, q2⟩ := h.each 2 (by decide) (hn 2 (by decide))
    obtain ⟨ts, p3, q3⟩ := h.each 3 (by decide) (hn 3 (by decide))
    obtain ⟨ns, p4, q4⟩ := h.each 4 (by decide) (hn 4 (by decide))
    obtain ⟨us, p5, q5⟩ := h.each 5 (by decide) (hn 5 (by decide))
    obtain ⟨st, p6, q6⟩ := h.each 6 (by decide) (hn 6 (by decide))
    obtain ⟨lk, p7, q7⟩ := h.each 7 (by decide) (hn 7 (by decide))
    obtain ⟨la, p8, q8⟩ := h.each 8 (by decide) (hn 8 (by decide))
    obtain ⟨ti, p9, q9⟩ := h.each 9 (by decide) (hn 9 (by decide))
    obtain ⟨ds, p13, q13⟩ := h.each 13 (by decide) (hn 13 (by decide))
    obtain ⟨xs, p17, q17⟩ := h.each 17 (by decide) (hn 17 (by decide))
    obtain ⟨tr, p18, q18⟩ := h.each 18 (by decide) (hn 18 (by decide))
    refine op19 e K w (pl m x y z).p c ts ns us ds xs st lk la ti tr p1 p2 p3 p4 p5 p6 p7 p8 p9 p13 p17 p18 (k _ _ o .refl ⟨x, y, z, ⟨ts, ns, us, ⟨none, 0, 0⟩, ds, xs, ⟨none, 0, 0⟩, c, st, lk, la, ti, tr⟩, rfl, ?_⟩)
    exact ⟨q1, by simpa [s0] using q3, fun u hu => by rw [List.eq_of_mem_replicate hu]; exact noTaskR, q4, q5, .nil, q13, q17, .nil, q2, q6, q7, q8, q9, q18⟩
  · refine go35 hi (by kernel_rfl) (by kernel_rfl) (by kernel_rfl) [19] (by kernel_rfl) fun l e w o h hn K k => ?_
    obtain ⟨x, y, z, q, p1, q1⟩ := h.each 19 (by decide) (hn 19 (by decide))
    have p1 : e.getD 29 undef = _ := p1
    rw [op20, p1]
    refine New_blk o 1 fun b o' w' k1 u _ => k _ w' o' u ⟨x, y, z, q, b, rfl, k1, q1.upno u⟩
  · refine go35 hi (by kernel_rfl) (by kernel_rfl) (by kernel_rfl) [20, 18, 0, 1, 2, 3, 4, 5, 6, 7, 8, 9, 10, 11, 12, 13, 14, 15, 16, 17, 18, 19, 20] (by kernel_rfl) fun l e w o h hn K k => ?_
    rw [op21]
    exact k _ _ o .refl (h.each 20 (by decide) (hn 20 (by decide)))
  · refine go35 hi (by kernel_rfl) (by kernel_rfl) (by kernel_rfl) [21, 0, 1, 2, 3, 4, 5, 6, 7, 8, 9, 10, 11, 12, 13, 14, 15, 16, 17, 18, 19, 20, 21] (by kernel_rfl) fun l e w o h hn K k => ?_
    rw [op22]
    exact k _ _ o .refl rfl
end
end Go.Proofs.YtajilfnceoeaiaaGreat.V
/- A new kernel; boot. -/
namespace Go.Proofs.YtajilfnceoeaiaaGreat.V
open Go Go.RowKit Enc
set_option maxRecDepth 100000
section
variable {o o' : Own} {w w' : World} {m : Mach}
theorem new_spec (h : MachR o w m) (t : Tab m) : Call P 35 [m.p.v] [sP, sI] (fun p e w' => e = 0 ∧ ∃ a q x y z o', p = some ⟨a, 0, none⟩ ∧ KRep o' w' (pl m x y z) a q (s0 (pl m x y z)) ∧ Up no o w o' w') w := by
  refine f35_of _ (New_blk o 90 fun b1 o1 w1 k1 u1 hb1 => ?_)
  have h := h.up u1 rfl
  refine k1.bx.ldPlat (x := m.p) ?_
  have hc := check54_spec h t
  refine hc.imp1 ?_
  rintro e w2 ⟨u2, rfl⟩
  refine If_ne (fun e => absurd rfl e) fun _ => ?_
  have u2' : Up no o1 w1 o1 w2.drew := (Up.of_below u2).trans .drew
  have h := h.up u2' rfl
  have k1 := k1.up u2' rfl
  refine raw_inv mixed (JJ m b1 o1 w2.drew) ⟨o1, rfl, ?_, rfl, .refl, k1, h, fun i hi hd => ?_⟩ (steps35 t) fun l e w' hj hr => ?_
  · have hsz : ops35.size = 23 := by kernel_rfl
    rw [hsz]
    exact Array.size_replicate
  · have hsz : ops35.size = 23 := by kernel_rfl
    rw [hsz] at hd
    have : (Array.replicate 23 false).getD i false = false := by simp [Array.getD, hi]
    rw [this] at hd
    cases hd
  · obtain ⟨o3, hj⟩ := hj
    have hsz : ops35.size = 23 := by kernel_rfl
    have hf : forward ops35.toList = true := by kernel_rfl
    have hall := all_done hf (by rw [hj.ll, hsz]) hr
    rw [hsz] at hall
    obtain ⟨x, y, z, q, b, h1, h2⟩ := hj.each 21 (by decide) (hall 21 (by decide))
    have h3 : e.getD 3 undef = .int .i64 0 := hj.each 22 (by decide) (hall 22 (by decide))
    have h1 : e.getD 2 undef = vP b := h1
    rw [h1, h3]
    exact ⟨rfl, b, q, x, y, z, o3, rfl, h2, (u1.trans u2').trans hj.u⟩
end
end Go.Proofs.YtajilfnceoeaiaaGreat.V
