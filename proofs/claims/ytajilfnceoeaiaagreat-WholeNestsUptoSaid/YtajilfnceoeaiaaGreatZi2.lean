/- Parts of the proof: The scheduler's invariant: a boundary, a step of a script. Plain, WholeMeets: the function returns true, WholeNests: the function returns true. -/
import Derived.Test.YtajilfnceoeaiaaGreatZi1
set_option linter.unusedVariables false
set_option linter.unusedSimpArgs false
/- The scheduler's invariant: a boundary, a step of a script. Plain. -/
namespace Go.Proofs.YtajilfnceoeaiaaGreat.V
open Go Go.RowKit Enc
set_option maxRecDepth 100000
section
variable {m : Mach} {A B : Nat} {s s' : KS} {R x y d d' e e' : Int} {L : List Job}
theorem Mt.mono (h : Mt m e s) (he : e ≤ e') : Mt m e' s := ⟨h.sch.mono he, h.lft, h.evs⟩
theorem Star.keepI {R : KS → KS → Prop} {I : KS → Prop} (h : ∀ s s', R s s' → I s → I s') {s s' : KS} (hs : Star R s s') (hi : I s) : I s' := by
  induction hs with
  | refl => exact hi
  | tail _ h2 ih => exact h _ _ h2 ih
/-- Who comes has no job. -/
theorem Mt.rel_none (c : Mc m) (iv : KInv m A B s) (h : Mt m e s) {n a cc : Int} (hlat : s.lat n = some (a, cc)) (hd : a ≤ s.now) : s.jobs n = none := by
  cases hj : s.jobs n with
  | none => rfl
  | some j =>
    have h1 := (h.sch.due c iv h.lft hj).1
    have h2 := (h.sch.tms.job n j hj).2.2.2.2.1
    have h3 := (h.sch.tms.lat n a cc hlat).2
    omega
theorem Mt.rel (c : Mc m) (iv : KInv m A B s) (h : Mt m e s) (hr : RelOne s s') : Mt m e s' := by
  obtain ⟨h1, h2⟩ := h.sch.rel c iv h.lft hr
  obtain ⟨n, a, cc, t, hlat, hd, _, ht, rfl⟩ := hr
  have hn := h.rel_none c iv hlat hd
  obtain ⟨n0, n6⟩ := iv.lat n _ hlat
  have hw := wsum_upd one1 s.jobs n0 (by omega) (some (jobNew n t.t a cc))
  rw [hn] at hw
  have e1 : ow one1 (some (jobNew n t.t a cc)) = 1 := rfl
  have e0 : ow one1 (none : Option Job) = 0 := rfl
  refine ⟨h1, h2, fun u hu hk => ?_, ?_⟩
  · rcases List.mem_append.1 hu with hu | hu
    · exact h.evs.ok u hu hk
    · rw [List.mem_singleton.1 hu] at hk
      rcases hk with hk | hk
      · exact absurd hk (show ¬ (1 : Int) = 2 by decide)
      · exact absurd hk (show ¬ (1 : Int) = 3 by decide)
  · have hc := h.evs.cnt
    show List.countP _ (s.events ++ [_]) = List.countP _ (s.events ++ [_]) + wsum one1 (upd s.jobs n _)
    rw [List.countP_append, List.countP_append]
    simp [List.countP_cons]
    omega
theorem Mt.exp (h : Mt m e s) (hr : ExpOne s s') : Mt m e s' := by
  obtain ⟨id, a, ev, _, _, _, rfl⟩ := hr
  refine ⟨h.sch.same rfl rfl rfl rfl rfl rfl rfl rfl rfl rfl rfl rfl h.sch.tms.dev, h.lft, fun u hu hk => ?_, ?_⟩
  · rcases List.mem_append.1 hu with hu | hu
    · exact h.evs.ok u hu hk
    · rw [List.mem_singleton.1 hu] at hk
      rcases hk with hk | hk
      · exact absurd hk (show ¬ (4 : Int) = 2 by decide)
      · exact absurd hk (show ¬ (4 : Int) = 3 by decide)
  · have hc := h.evs.cnt
    show List.countP _ (s.events ++ [_]) = List.countP _ (s.events ++ [_]) + wsum one1 s.jobs
    rw [List.countP_append, List.countP_append]
    simp [List.countP_cons]
    omega
theorem Mt.away (iv : KInv m A B s) (h : Mt m e s) (hr : AwayR m s s') : Mt m e s' := by
  obtain ⟨D, X, rfl, hDl, hXl, hall⟩ := hr
  have b := h.sch.bnd iv
  have hNb : ∀ z ∈ s.N, z ≤ 40000 := fun z hz => by
    obtain ⟨k, hk⟩ := List.mem_iff_getElem?.1 hz
    have hkl := lt_of_get hk
    have hN := iv.N
    have := (b.N k (by omega)).2
    rw [List.getD_eq_getElem?_getD, hk] at this
    exact this
  have hnow := iv.now
  refine ⟨h.sch.same rfl rfl rfl rfl rfl rfl rfl rfl rfl rfl rfl rfl fun y hy => ?_, h.lft, h.evs.same rfl rfl⟩
  have hy : y ∈ D := hy
  obtain ⟨k, hk⟩ := List.mem_iff_getElem?.1 hy
  have hkl := lt_of_get hk
  have hDm := iv.D
  have hXm := iv.X
  obtain ⟨x0, hx0⟩ : ∃ x0, s.devs[k]? = some x0 := ⟨s.devs[k]'(by omega), List.getElem?_eq_getElem (by omega)⟩
  obtain ⟨p0, hp0⟩ : ∃ p0, s.spent[k]? = some p0 := ⟨s.spent[k]'(by omega), List.getElem?_eq_getElem (by omega)⟩
  obtain ⟨d, hd⟩ : ∃ d, m.D[k]? = some d := ⟨m.D[k]'(by omega), List.getElem?_eq_getElem (by omega)⟩
  obtain ⟨x', p', g1, g2, ⟨u, _, _, g3⟩, g4⟩ := hall k d x0 p0 hd hx0 hp0
  rw [hk] at g1
  cases g1
  have hdx := h.sch.tms.dev x0 (List.mem_of_getElem? hx0)
  refine ⟨g4 40000 (by omega) hNb hdx.1, ?_⟩
  rcases g3 with ⟨_, rfl, _⟩ | ⟨_, rfl, _⟩
  · exact hdx.2
  · exact ⟨hnow.1, hnow.2⟩
/-- A boundary. -/
theorem Mt.bound (c : Mc m) (iv : KInv m A B s) (h : Mt m e s) (hr : BoundR m s s') : Mt m e s' ∧ Bh s' ∧ s'.now = s.now := by
  have hnow := (hr.inv iv).2.2
  obtain ⟨s1, s2, h1, hb, h2, _, h3⟩ := hr
  have i1 := Star.keepI (I := fun s => KInv m A B s ∧ Mt m e s) (fun _ _ r i => ⟨(r.inv i.1).1, i.2.rel c i.1 r⟩) h1 ⟨iv, h⟩
  have i2 := Star.keepI (I := fun s => (KInv m A B s ∧ Mt m e s) ∧ Bh s) (fun _ _ r i => ⟨⟨(r.inv i.1.1).1, i.1.2.exp r⟩, by
    obtain ⟨id, a, ev, _, _, _, rfl⟩ := r
    exact i.2⟩) h2 ⟨i1, hb⟩
  refine ⟨i2.1.2.away i2.1.1 h3, ?_, hnow⟩
  obtain ⟨D, X, rfl, _⟩ := h3
  exact i2.2
/-- Time goes by. -/
theorem Mt.tick (c : Mc m) (iv : KInv m A B s) (h : Mt m s.now s) (hb : Bh s) {a er : Int} (hr : TickR m s a er s') : Mt m s'.now s' := by
  rcases hr with ⟨_, _, rfl⟩ | ⟨_, _, _, hs, hend⟩
  · exact h
  · by_cases hlt : s.now < endT m s a
    · have hE := endT_le iv.mok s a
      have := Star.keepI (I := fun s1 => (KInv m A B s1 ∧ Mt m (endT m s a) s1) ∧ Bh s1) (fun s1 s2 r i => ?_) hs ⟨⟨iv, h.mono (by omega)⟩, hb⟩
      · exact this.1.2.mono hend
      · obtain ⟨hl, s3, r1, r2⟩ := r
        have j1 := (stepR_inv i.1.1 (by omega) r1).1
        have k1 := i.1.2.step c i.1.1 (by omega) hl i.2 r1
        obtain ⟨k2, k3, _⟩ := k1.bound c j1 r2
        exact ⟨⟨(r2.inv j1).1, k2⟩, k3⟩
    · have : s' = s := Star.keepI (I := fun s1 => s1 = s) (fun s1 s2 r i => by
        subst i
        exact absurd r.1 hlt) hs rfl
      rw [this]
      exact h
/-- A step of a script, ahead of its boundary. -/
theorem Mt.one (c : Mc m) (iv : KInv m A B s) (h : Mt m s.now s) (hb : Bh s) {v : ASt} {n er : Int} (hr : OneR m s v n er s') : Mt m s'.now s' := by
  rcases hr with ⟨_, hr⟩ | ⟨_, _, hr⟩ | ⟨_, _, hr⟩ | ⟨_, _, hr⟩ | ⟨_, _, hr⟩ | ⟨_, _, hr⟩ | ⟨_, _, hr⟩ | ⟨_, _, _, rfl⟩
  · have hk : s'.now = s.now ∧ s'.events = s.events ∧ s'.jobs = s.jobs := by
      rcases hr with ⟨_, _, _, rfl⟩ | ⟨_, ⟨_, _, _, rfl⟩ | ⟨_, ⟨_, _, _, rfl⟩ | ⟨_, ⟨_, _, _, rfl⟩ | ⟨_, _, i, y, z, r, s1, _, _, _, _, ⟨D, rfl, _⟩, _, _, _, _, rfl⟩⟩⟩⟩ <;> exact ⟨rfl, rfl, rfl⟩
    obtain ⟨h1, h2⟩ := h.sch.admit c iv h.lft hb hr
    rw [hk.1]
    exact ⟨h1, h2, h.evs.same hk.2.1 (by rw [hk.2.2])⟩
  · have hk : s'.now = s.now ∧ s'.events = s.events ∧ s'.jobs = s.jobs := by
      rcases hr with ⟨rfl, _⟩ | ⟨_, _, _, _, _, rfl⟩ <;> exact ⟨rfl, rfl, rfl⟩
    obtain ⟨h1, h2⟩ := h.sch.remove iv h.lft hr
    rw [hk.1]
    exact ⟨h1, h2, h.evs.same hk.2.1 (by rw [hk.2.2])⟩
  · have hk : s'.events = s.events ∧ s'.jobs = s.jobs := by
      rcases hr with ⟨_, rfl⟩ | ⟨_, _, _, _, _, _, _, _, rfl⟩ <;> exact ⟨rfl, rfl⟩
    obtain ⟨h1, h2⟩ := h.sch.arrive c iv h.lft hr
    exact ⟨h1, h2, h.evs.same hk.1 (by rw [hk.2])⟩
  · exact h.tick c iv hb hr
  · have hk : s'.now = s.now ∧ s'.events = s.events ∧ s'.jobs = s.jobs := by
      rcases hr with ⟨rfl, _⟩ | ⟨_, n, L, _, _, _, _, t, _, _, _, ⟨_, i, _, rfl⟩ | ⟨_, _, q, _, rfl⟩⟩ <;> exact ⟨rfl, rfl, rfl⟩
    obtain ⟨h1, h2⟩ := h.sch.lock c iv h.lft hb hr
    rw [hk.1]
    exact ⟨h1, h2, h.evs.same hk.2.1 (by rw [hk.2.2])⟩
  · rcases hr with ⟨_, _, rfl⟩ | ⟨_, _, _, _, _, rfl⟩
    · exact h
    · exact ⟨h.sch.same rfl rfl rfl rfl rfl rfl rfl rfl rfl rfl rfl rfl h.sch.tms.dev, h.lft, h.evs.same rfl rfl⟩
  · unfold TimerR at hr
    split at hr
    · rcases hr with ⟨_, _, rfl⟩ | ⟨_, _, rfl⟩
      · exact ⟨h.sch.same rfl rfl rfl rfl rfl rfl rfl rfl rfl rfl rfl rfl h.sch.tms.dev, h.lft, h.evs.same rfl rfl⟩
      · exact h
    · rcases hr with ⟨_, _, rfl⟩ | ⟨_, _, _, _, _, _, _, rfl⟩
      · exact h
      · exact ⟨h.sch.same rfl rfl rfl rfl rfl rfl rfl rfl rfl rfl rfl rfl h.sch.tms.dev, h.lft, h.evs.same rfl rfl⟩
  · exact h
/-- A step of a script. -/
theorem Mt.do (c : Mc m) (iv : KInv m A B s) (hA : A + 1 ≤ 800000000) (hB : B + 70000 ≤ bigN) (h : Mt m s.now s) (hb : Bh s) {v : ASt} {n er : Int} (hr : DoR m s v n er s') : Mt m s'.now s' ∧ Bh s' := by
  rcases hr with ⟨_, _, _, rfl⟩ | ⟨_, ⟨_, _, rfl⟩ | ⟨_, s1, h1, h2⟩⟩
  · exact ⟨h, hb⟩
  · exact ⟨h, hb⟩
  · obtain ⟨k1, k2, k3⟩ := (h.one c iv hb h1).bound c (h1.inv iv hA hB).1 h2
    exact ⟨by rw [k3]; exact k1, k2⟩
/-- At the beginning. -/
theorem Mt.zero (m : Mach) : Mt m (s0 m).now (s0 m) ∧ Bh (s0 m) := by
  have hp : ∀ k, perN (s0 m).T k = 0 := fun k => by
    unfold perN tk
    show (((List.replicate 6 noTask)[k]?).getD zT).t.period = 0
    rw [List.getElem?_replicate]
    split <;> rfl
  have hU : ∀ k, UZ m (s0 m).T k = 0 := fun k => if_neg (by rw [hp]; decide)
  have hmom : ∀ x, ¬ MomZ (s0 m) x := fun x ⟨i, _, h, _⟩ => by
    rw [hp] at h
    omega
  refine ⟨⟨⟨⟨0, Int.le_refl _, fun k _ => by rw [hU]; decide, ?_, fun k _ h => by rw [hp] at h; omega, fun k _ h => by rw [hp] at h; omega, fun k l sem _ _ h => by rw [hp] at h; omega⟩,
    ⟨List.nodup_nil, fun n h => (by cases h), fun n j h => (by cases h), List.Pairwise.nil, fun u h => (by cases h), List.Pairwise.nil, fun u h => (by cases h)⟩,
    ⟨fun k j h => (by cases h), fun k a c h => (by cases h), fun k a c n j h => (by cases h), fun n j h => (by cases h), fun k n x y h => (by cases h), fun k hk => ?_, fun y hy => ?_, fun x hx _ => ?_⟩, fun x hx => absurd hx (hmom x), fun _ n j h => (by cases h), fun h => (by cases h), fun h => (by cases h)⟩, fun k j h => (by cases h), fun v h => (by cases h), rfl⟩, fun k z h => (by cases h)⟩
  · have : sum6 (UZ m (s0 m).T) = 0 := by
      unfold sum6
      rw [hU, hU, hU, hU, hU, hU]
      rfl
    omega
  · show 0 ≤ (List.replicate 6 (0 : Int)).getD k 0 ∧ (List.replicate 6 (0 : Int)).getD k 0 ≤ 40000
    rw [List.getD_eq_getElem?_getD, List.getElem?_replicate]
    split <;> decide
  · have hy : y ∈ List.replicate m.D.length noAway := hy
    rw [(List.mem_replicate.1 hy).2]
    exact ⟨.inr (by decide), by decide, by decide⟩
  · have hx : x ∈ List.replicate 6 noTask := hx
    rw [(List.mem_replicate.1 hx).2]
    rfl
end
end Go.Proofs.YtajilfnceoeaiaaGreat.V
/- WholeMeets: the function returns true. -/
namespace Go.Proofs.YtajilfnceoeaiaaGreat.V
open Go Go.RowKit Enc
set_option maxRecDepth 100000
theorem lev_mono {m : Mach} (t : Tab m) : ∀ (d i : Nat) (x y : Level), m.L[i]? = some x → m.L[i + d]? = some y → x.p ≤ y.p
  | 0, i, x, y, hx, hy => by
    rw [Nat.add_zero, hx] at hy
    cases hy
    exact Int.le_refl _
  | d + 1, i, x, y, hx, hy => by
    have hl := lt_of_get hy
    obtain ⟨z, hz⟩ : ∃ z, m.L[i + d]? = some z := ⟨m.L[i + d]'(by omega), List.getElem?_eq_getElem (by omega)⟩
    have h1 := lev_mono t d i x z hx hz
    have h2 := t.inc (i + d) y z hz hy
    omega
/-- Numbers of a machine that passes. -/
theorem Tab.mc {m : Mach} (t : Tab m) : Mc m := by
  obtain ⟨c0, c1⟩ := t.crit
  have hl1 := t.l1
  obtain ⟨k, hk⟩ : ∃ k : Nat, m.p.crit = k := ⟨m.p.crit.toNat, by omega⟩
  obtain ⟨x0, h0⟩ : ∃ x, m.L[0]? = some x := ⟨m.L[0]'(by omega), List.getElem?_eq_getElem (by omega)⟩
  obtain ⟨xc, hc⟩ : ∃ x, m.L[k]? = some x := ⟨m.L[k]'(by omega), List.getElem?_eq_getElem (by omega)⟩
  have e0 : lev0 m = x0.p := by unfold lev0; rw [List.getD_eq_getElem?_getD, h0]; rfl
  have ec : slowZ m = xc.p := by unfold slowZ; rw [hk, Int.toNat_natCast, List.getD_eq_getElem?_getD, hc]; rfl
  have g0 := t.lev 0 x0 h0
  have gc := t.lev k xc hc
  refine ⟨⟨by omega, t.sw⟩, by omega, by omega, fun n n0 n1 => ?_, fun i d hd => ?_⟩
  · obtain ⟨i, rfl⟩ : ∃ i : Nat, n = i := ⟨n.toNat, by omega⟩
    obtain ⟨x, hx⟩ : ∃ x, m.L[i]? = some x := ⟨m.L[i]'(by omega), List.getElem?_eq_getElem (by omega)⟩
    have ei : lvlP m i = x.p := by unfold lvlP; rw [Int.toNat_natCast, hx]; rfl
    rw [e0, ec, ei]
    exact ⟨lev_mono t i 0 x0 x h0 (by rw [Nat.zero_add]; exact hx), lev_mono t (k - i) i x xc hx (by rw [show i + (k - i) = k by omega]; exact hc)⟩
  · obtain ⟨a1, a2, _, _, _, _, _, a3, a4, _⟩ := t.dev i d hd
    exact ⟨a1, a2, a3, a4⟩
/-- How many jobs there are. -/
theorem listOf_count {m : Mach} {A B : Nat} {s : KS} {L : List Job} (iv : KInv m A B s) (hL : ListOf s.jobs L) : L.length = wsum one1 s.jobs := by
  have hnd : L.Nodup := by
    rw [List.Nodup, List.pairwise_iff_getElem]
    intro p q hp hq hpq he
    have hlt := hL.sorted p q L[p] L[q] hpq (List.getElem?_eq_getElem hp) (List.getElem?_eq_getElem hq)
    rw [he] at hlt
    exact lt_asymm hlt hlt
  have one : ∀ k : Nat, sumL (fun _ => 1) (L.filter fun x => x.task == (k : Int)) = (ow one1 (s.jobs k) : Nat) := fun k => by
    have all : ∀ x ∈ L.filter fun x => x.task == (k : Int), s.jobs k = some x := fun x hx => by
      obtain ⟨h1, h2⟩ := List.mem_filter.1 hx
      have h3 : x.task = k := by simpa using h2
      rw [← h3]
      exact (hL.iff x).1 h1
    have hnf : (L.filter fun x => x.task == (k : Int)).Nodup := hnd.filter _
    cases hf : L.filter fun x => x.task == (k : Int) with
    | nil =>
      cases hj : s.jobs (k : Int) with
      | none => rfl
      | some j =>
        have ht := (iv.jobs _ j hj).1
        have : j ∈ L.filter fun x => x.task == (k : Int) := List.mem_filter.2 ⟨(hL.iff j).2 (by rw [ht]; exact hj), by simp [ht]⟩
        rw [hf] at this
        cases this
    | cons a r =>
      rw [hf] at all hnf
      have ha := all a (.head _)
      cases r with
      | nil => rw [ha]; rfl
      | cons b r =>
        have hb := all b (.tail _ (.head _))
        rw [ha] at hb
        cases hb
        have := (List.nodup_cons.1 hnf).1
        exact absurd (.head _) this
  have hs : sumL (fun _ => 1) L = (L.length : Int) := by
    have : ∀ l : List Job, sumL (fun _ => 1) l = (l.length : Int) := by
      intro l
      induction l with
      | nil => rfl
      | cons x l ih =>
        rw [sumL_cons, ih, List.length_cons]
        omega
    exact this L
  have h6 : ∀ k : Int, 6 ≤ k → s.jobs k = none := fun k hk => by
    cases hj : s.jobs k with
    | none => rfl
    | some j =>
      have := (iv.jobs k j hj).2
      omega
  have hp := sumL_parts (fun _ => 1) L fun x hx => (iv.jobs _ _ ((hL.iff x).1 hx)).2
  rw [hs] at hp
  have e : (fun k : Nat => sumL (fun _ => 1) (L.filter fun x => x.task == (k : Int))) = fun k : Nat => ((ow one1 (s.jobs k) : Nat) : Int) := funext one
  rw [e] at hp
  have e0 : ow one1 (none : Option Job) = 0 := rfl
  unfold wsum
  rw [h6 6 (by decide), h6 7 (by decide), e0]
  have hp : (L.length : Int) = ((ow one1 (s.jobs 0) : Nat) : Int) + ((ow one1 (s.jobs 1) : Nat) : Int) + ((ow one1 (s.jobs 2) : Nat) : Int) + ((ow one1 (s.jobs 3) : Nat) : Int) + ((ow one1 (s.jobs 4) : Nat) : Int) + ((ow one1 (s.jobs 5) : Nat) : Int) := hp
  omega
/-- Behind so many steps of a script. -/
structure MtL (o : Own) (w : World) (m : Mach) (a : Nat) (st : Sl) (l : List ASt) (k : Nat) (o' : Own) (w' : World) (q : KPtr) (s : KS) : Prop where
  L : LawS o w m a k o' w' q s
  mt : Mt m s.now s
  bh : Bh s
  hs : StepsR o' w' st l
theorem MtL.upno {o o1 o2 : Own} {w w1 w2 : World} {m : Mach} {a k : Nat} {st : Sl} {l : List ASt} {q : KPtr} {s : KS} (L : MtL o w m a st l k o1 w1 q s) (u : Up no o1 w1 o2 w2) : MtL o w m a st l k o2 w2 q s := ⟨L.L.upno u, L.mt, L.bh, L.hs.up u rfl⟩
theorem MtL.doo {o o1 : Own} {w w1 : World} {m : Mach} {a k : Nat} {st : Sl} {l : List ASt} {q : KPtr} {s : KS} (L : MtL o w m a st l k o1 w1 q s) (c : Mc m) (hk : k < 1100000) (x : ASt) (hx : TaskR o1 w1 x.t) :
    Call P 13 [vP a, x.st.v] [sI, sI] (fun _ _ w' => ∃ s' q' o', MtL o w m a st l (k + 1) o' w' q' s' ∧ Up kl o1 w1 o' w') w1 := by
  have hd := L.L.doo hk x hx
  refine hd.imp2 ?_
  rintro n e w5 ⟨s5, d5, q5, o5, L5, u5⟩
  obtain ⟨g1, g2⟩ := L.mt.do c L.L.iv (by omega) (by unfold budB bigN; omega) L.bh d5
  exact ⟨s5, q5, o5, ⟨L5, g1, g2, L.hs.up u5 kl0⟩, u5⟩
theorem meets_spec {o : Own} {w : World} {m : Mach} {st : Sl} {l : List ASt} (hm : MachR o w m) (hs : StepsR o w st l) (hl : l.length ≤ 1048576) : Call P 4 [m.p.v, vS st] [sB] (fun b w' => b = true ∧ ∃ o', Up kl o w o' w') w := by
  refine f4_of _ _ (New_blk o 0 fun b1 o1 w1 k1 u1 _ => k1.bx.ldPlat (x := m.p) ?_)
  have hm := hm.up u1 rfl
  have hs := hs.up u1 rfl
  have hb := boot_law hm
  refine hb.imp1 ?_
  rintro pk w2 (⟨t, a, q, x, y, z, o2, rfl, L⟩ | ⟨nt, rfl, u2⟩)
  rotate_left
  · refine If_t ((k1.bx.below u2).ldPlat (x := m.p) ?_)
    have hno := none_spec (hm.below u2) nt
    refine hno.imp1 ?_
    rintro b w3 ⟨rfl, o3, u3⟩
    exact ⟨rfl, o3, (u1.of_no.trans (Up.of_below u2)).trans u3⟩
  have hs := hs.up L.U kl0
  have c := (t.pl x y z).mc
  generalize V.pl m x y z = m' at L c
  have M0 : MtL o1 w1 m' a st l 0 o2 w2 q (s0 m') := ⟨L, (Mt.zero m').1, (Mt.zero m').2, hs⟩
  refine If_f ⟨fun n w' => ∃ k : Nat, n = k ∧ k ≤ l.length ∧ ∃ o' q' s, MtL o1 w1 m' a st l k o' w' q' s, fun n _ => l.length - n.toNat, ⟨0, rfl, Nat.zero_le _, o2, q, _, M0⟩, ?_⟩
  rintro n v ⟨k, rfl, hk, o3, q3, s, L⟩ _
  have hn := L.hs.n
  refine If_d (fun hlt => ?_) fun hlt => ?_
  · have hkl : k < l.length := by omega
    have hx : l[k]? = some l[k] := List.getElem?_eq_getElem hkl
    have htx := L.hs.each _ (List.getElem_mem hkl)
    generalize l[k] = x at hx htx
    have hme : l.length - Int.toNat ((k : Int) + 1) < l.length - Int.toNat (k : Int) := by omega
    refine L.hs.step rfl hx ?_
    have hd := L.doo c (by omega) x htx
    refine hd.imp2 ?_
    rintro _ _ w5 ⟨s5, q5, o5, L5, _⟩
    have hj := jobs_spec L5.L.h
    refine hj.imp1 ?_
    rintro sj w6 ⟨J, o6, rJ, hJ, hJl, u6⟩
    have L6 := L5.upno u6
    have hJn := rJ.n
    refine ⟨fun i w' => ∃ j : Nat, i = j ∧ j ≤ J.length ∧ MtL o1 w1 m' a st l (k + 1) o6 w' q5 s5 ∧ RL o6 w' 0 sj J, fun i _ => J.length - i.toNat, ⟨0, rfl, Nat.zero_le _, L6, rJ⟩, ?_⟩
    rintro i v6 ⟨j, rfl, hj, L6, rJ⟩ _
    refine If_d (fun hlt => ?_) fun hlt => ?_
    · have hjl : j < J.length := by omega
      have hy : J[j]? = some J[j] := List.getElem?_eq_getElem hjl
      generalize J[j] = y at hy
      have hyj := (hJ.iff y).1 (List.mem_of_getElem? hy)
      have hdue := (L6.mt.sch.due c L6.L.iv L6.mt.lft hyj).1
      have hme : J.length - Int.toNat ((j : Int) + 1) < J.length - Int.toNat (j : Int) := by omega
      have ud : Up no o6 v6 o6 v6.drew := .drew
      have L6 := L6.upno ud
      have rJ := rJ.up ud rfl
      refine RL.at' rJ rfl hy fun bx fx _ hbx => ?_
      have hadr : (⟨bx, fx, none⟩ : Addr).add (Int.toNat (j : Int) * 6) = ⟨bx, fx + j * 6, none⟩ := by rw [Addr.add_mk, Int.toNat_natCast]
      have hbx : Bx v6.drew bx (fx + j * 6) y.l := hbx
      rw [hadr]
      have hno := now_spec L6.L.h
      refine Ld_of (x := y.deadline) (hbx.getAt rfl) (hno.imp1 ?_)
      rintro nw w7 ⟨rfl, rfl⟩
      rw [wz_id (x := (j : Int) + 1) (by omega) (by omega)]
      refine ⟨?_, If_d (fun e => ?_) fun _ => ⟨⟨j + 1, by omega, by omega, L6, rJ⟩, hme⟩⟩
      · rw [Addr.add_mk, Addr.add_mk]
        exact hbx.cell 2 _ rfl
      · have e : y.deadline ≤ s5.now := e
        omega
    · rw [wz_id (x := (k : Int) + 1) (by omega) (by omega)]
      exact ⟨⟨k + 1, by omega, by omega, o6, q5, s5, L6⟩, hme⟩
  · have he := events_spec L.L.h L.L.iv.events
    refine he.imp1 ?_
    rintro se w6 ⟨o6, rE, u6⟩
    have L := L.upno u6
    have hEn := rE.n
    have hEl := L.L.iv.events
    unfold bigN at hEl
    refine ⟨fun r g i w' => ∃ j : Nat, i = j ∧ j ≤ s.events.length ∧ r = (((s.events.take j).countP fun v => v.kind == 1 : Nat) : Int) ∧ g = (((s.events.take j).countP fun v => v.kind == 2 || v.kind == 3 : Nat) : Int) ∧ MtL o1 w1 m' a st l k o6 w' q3 s ∧ RL o6 w' 0 se s.events, fun _ _ i _ => s.events.length - i.toNat, ⟨0, rfl, Nat.zero_le _, rfl, rfl, L, rE⟩, ?_⟩
    rintro r g i v6 ⟨j, rfl, hj, rfl, rfl, L, rE⟩ _
    refine If_d (fun hlt => ?_) fun hlt => ?_
    · have hjl : j < s.events.length := by omega
      have hy : s.events[j]? = some s.events[j] := List.getElem?_eq_getElem hjl
      have hok := L.mt.evs.ok _ (List.getElem_mem hjl)
      generalize s.events[j] = y at hy hok
      have hme : s.events.length - Int.toNat ((j : Int) + 1) < s.events.length - Int.toNat (j : Int) := by omega
      have hw1 : IntKind.wrap .i64 ((j : Int) + 1) = (j : Int) + 1 := wz_id (by omega) (by omega)
      have htk := take_succ_get hy
      have c1 := List.countP_le_length (p := fun v : Event => v.kind == 1) (l := s.events.take j)
      have c2 := List.countP_le_length (p := fun v : Event => v.kind == 2 || v.kind == 3) (l := s.events.take j)
      rw [List.length_take] at c1 c2
      have hr1 : IntKind.wrap .i64 ((((s.events.take j).countP fun v => v.kind == 1 : Nat) : Int) + 1) = (((s.events.take j).countP fun v => v.kind == 1 : Nat) : Int) + 1 := wz_id (by omega) (by omega)
      have hg1 : IntKind.wrap .i64 ((((s.events.take j).countP fun v => v.kind == 2 || v.kind == 3 : Nat) : Int) + 1) = (((s.events.take j).countP fun v => v.kind == 2 || v.kind == 3 : Nat) : Int) + 1 := wz_id (by omega) (by omega)
      have k1 : (s.events.take (j + 1)).countP (fun v => v.kind == 1) = (s.events.take j).countP (fun v => v.kind == 1) + (if y.kind = 1 then 1 else 0) := by
        rw [htk, List.countP_append]
        by_cases e : y.kind = 1 <;> simp [e]
      have k2 : (s.events.take (j + 1)).countP (fun v => v.kind == 2 || v.kind == 3) = (s.events.take j).countP (fun v => v.kind == 2 || v.kind == 3) + (if y.kind = 2 ∨ y.kind = 3 then 1 else 0) := by
        rw [htk, List.countP_append]
        by_cases e : y.kind = 2 ∨ y.kind = 3
        · rcases e with e | e <;> simp [e]
        · have e' := not_or.1 e
          simp [e'.1, e'.2]
      have ud : Up no o6 v6 o6 v6.drew := .drew
      have Ld := L.upno ud
      have rEd := rE.up ud rfl
      have kd : ∀ {w : World}, RL o6 w 0 se s.events → ∀ {K : Int → World → Prop}, K y.kind w → ((0 : Int) ≤ (j : Int) ∧ (j : Int) < ((se.n : Nat) : Int)) ∧ WithAddr se.a fun a => Go.Proofs.YtajilfnceoeaiaaGreat.V.Ld (.ki .i64) ((a.add (Int.toNat (j : Int) * 4)).add 0) K w := by
        intro w0 rr K hk
        exact rr.fld (f := 0) (e := .ki .i64) (y := y.kind) rfl hy rfl rfl hk
      rw [hw1, hr1, hg1]
      generalize hc1 : (s.events.take j).countP (fun v => v.kind == 1) = n1 at *
      generalize hc2 : (s.events.take j).countP (fun v => v.kind == 2 || v.kind == 3) = n2 at *
      refine kd rE (If_eq (fun e1 => ?_) fun e1 => ?_)
      · have e1 : y.kind = 1 := e1
        refine kd rE (If_eq (fun e2 => ?_) fun _ => ?_)
        · have e2 : y.kind = 2 := e2
          omega
        · refine kd rE (If_eq (fun e3 => ?_) fun _ => ?_)
          · have e3 : y.kind = 3 := e3
            omega
          · rw [if_pos e1] at k1
            rw [if_neg (by omega)] at k2
            exact ⟨⟨j + 1, by omega, by omega, by omega, by omega, L, rE⟩, hme⟩
      · have e1 : ¬ y.kind = 1 := e1
        rw [if_neg e1] at k1
        refine kd rE (If_eq (fun e2 => ?_) fun e2 => ?_)
        · have e2 : y.kind = 2 := e2
          rw [if_pos (.inl e2)] at k2
          have hle := hok (.inl e2)
          refine rEd.fld (f := 2) (e := .ki .i64) (y := y.at_) rfl hy rfl rfl (rEd.fld (f := 3) (e := .ki .i64) (y := y.due) rfl hy rfl rfl (If_d (fun e => ?_) fun _ => ⟨⟨j + 1, by omega, by omega, by omega, by omega, Ld, rEd⟩, hme⟩))
          have e : y.at_ > y.due := e
          omega
        · have e2 : ¬ y.kind = 2 := e2
          refine kd rE (If_eq (fun e3 => ?_) fun e3 => ?_)
          · have e3 : y.kind = 3 := e3
            rw [if_pos (.inr e3)] at k2
            have hle := hok (.inr e3)
            refine rEd.fld (f := 2) (e := .ki .i64) (y := y.at_) rfl hy rfl rfl (rEd.fld (f := 3) (e := .ki .i64) (y := y.due) rfl hy rfl rfl (If_d (fun e => ?_) fun _ => ⟨⟨j + 1, by omega, by omega, by omega, by omega, Ld, rEd⟩, hme⟩))
            have e : y.at_ > y.due := e
            omega
          · have e3 : ¬ y.kind = 3 := e3
            rw [if_neg (by omega)] at k2
            exact ⟨⟨j + 1, by omega, by omega, by omega, by omega, L, rE⟩, hme⟩
    · have hje : j = s.events.length := by omega
      subst hje
      rw [List.take_length]
      have hans := answers_below v6
      refine hans.imp1 ?_
      rintro b w7 ⟨rfl, u7⟩
      have L := L.upno (Up.of_below u7)
      refine If_t ?_
      have hj := jobs_spec L.L.h
      refine hj.imp1 ?_
      rintro sj w8 ⟨J, o8, rJ, hJ, hJl, u8⟩
      have L := L.upno u8
      have hJn := rJ.n
      have hcount := listOf_count L.L.iv hJ
      have hcnt := L.mt.evs.cnt
      have c2 := List.countP_le_length (p := fun v : Event => v.kind == 2 || v.kind == 3) (l := s.events)
      refine ⟨?_, o8, u1.of_no.trans L.L.U⟩
      generalize s.events.countP (fun v => v.kind == 1) = n1 at *
      generalize s.events.countP (fun v => v.kind == 2 || v.kind == 3) = n2 at *
      have e : (n1 : Int) = IntKind.wrap .i64 ((n2 : Int) + ((sj.n : Nat) : Int)) := by
        rw [wz_id (x := (n2 : Int) + ((sj.n : Nat) : Int)) (by omega) (by omega)]
        omega
      exact beq_iff_eq.2 e
end Go.Proofs.YtajilfnceoeaiaaGreat.V
/- WholeNests: the function returns true. -/
namespace Go.Proofs.YtajilfnceoeaiaaGreat.V
open Go Go.RowKit Enc
set_option maxRecDepth 100000
/-- The job of a task that has one. -/
theorem jobof_spec {o : Own} {w : World} {sl : Sl} {J : List Job} (hJ : RL o w 0 sl J) (hJl : J.length ≤ 8) {n : Int} {x : Job} (hx : x ∈ J) (ht : x.task = n) (hu : ∀ y ∈ J, y.task = n → y = x) :
    Call P 28 [vS sl, .int .i64 n] [shJob, sB] (fun a b c d e f g w' => (⟨a, b, c, d, e, f⟩ : Job) = x ∧ g = true ∧ ∃ o', Up no o w o' w') w := by
  refine f28_of _ _ (New_blk o 90 fun b1 o1 w1 k1 u1 hb1 => ?_)
  have hJ := hJ.up u1 rfl
  have hn := hJ.n
  refine ⟨fun i w' => ∃ j : Nat, i = j ∧ j ≤ J.length ∧ (∀ (p : Nat) (y : Job), p < j → J[p]? = some y → y.task ≠ n) ∧ w' = w1, fun i _ => J.length - i.toNat, ⟨0, rfl, Nat.zero_le _, fun p y hp => by omega, rfl⟩, ?_⟩
  rintro i v ⟨j, rfl, hj, hno, rfl⟩ _
  refine If_d (fun hlt => ?_) fun hlt => ?_
  · have hjl : j < J.length := by omega
    have hy : J[j]? = some J[j] := List.getElem?_eq_getElem hjl
    generalize J[j] = y at hy
    refine hJ.fld (f := 0) (e := .ki .i64) (y := y.task) rfl hy rfl rfl (If_eq (fun e => ?_) fun e => ?_)
    · have e : y.task = n := e
      have hyx := hu y (List.mem_of_getElem? hy) e
      refine hJ.job rfl hy (k1.wr0 (by rfl) fun w2 k2 hw => ?_)
      have k2 : Blk o1 w2 90 b1 (.cells y.l.toArray 50 (0, 0)) := k2
      exact k2.bx.ldJob (x := y) ⟨hyx, rfl, o1, u1.wr hw (by omega)⟩
    · rw [wz_id (x := (j : Int) + 1) (by omega) (by omega)]
      refine ⟨⟨j + 1, by omega, by omega, fun p z hp hz => ?_, rfl⟩, by show J.length - Int.toNat ((j : Int) + 1) < J.length - Int.toNat (j : Int); omega⟩
      by_cases g : p = j
      · rw [g, hy] at hz
        cases hz
        exact e
      · exact hno p z (by omega) hz
  · exfalso
    obtain ⟨p, hp⟩ := List.mem_iff_getElem?.1 hx
    have := lt_of_get hp
    exact hno p x (by omega) hp ht
/-- The started jobs are those of the stack. -/
theorem Nst.count {m : Mach} {A B : Nat} {s : KS} {J : List Job} (h : Nst s) (iv : KInv m A B s) (hJ : ListOf s.jobs J) : J.countP (fun j => j.started) = s.stack.length := by
  have hnd : (J.map fun j => j.task).Nodup := by
    rw [List.Nodup, List.pairwise_map, List.pairwise_iff_getElem]
    intro p q hp hq hpq he
    have hlt := hJ.sorted p q J[p] J[q] hpq (List.getElem?_eq_getElem hp) (List.getElem?_eq_getElem hq)
    have g1 := (hJ.iff J[p]).1 (List.getElem_mem hp)
    have g2 := (hJ.iff J[q]).1 (List.getElem_mem hq)
    rw [he, g2] at g1
    rw [Option.some.inj g1] at hlt
    exact lt_asymm hlt hlt
  have hp : ((J.filter fun j => j.started).map fun j => j.task).Perm s.stack := by
    refine (List.perm_ext_iff_of_nodup ((List.filter_sublist.map _).nodup hnd) h.nod).2 fun a => ⟨fun ha => ?_, fun ha => ?_⟩
    · obtain ⟨j, hj, rfl⟩ := List.mem_map.1 ha
      obtain ⟨h1, h2⟩ := List.mem_filter.1 hj
      exact h.of _ j ((hJ.iff j).1 h1) h2
    · obtain ⟨j, hj, hs⟩ := h.on a ha
      have ht := (iv.jobs a j hj).1
      exact List.mem_map.2 ⟨j, List.mem_filter.2 ⟨(hJ.iff j).2 (by rw [ht]; exact hj), hs⟩, ht⟩
  have := hp.length_eq
  rw [List.length_map] at this
  rw [List.countP_eq_length_filter]
  exact this
theorem MtL.below {o o1 : Own} {w w1 w2 : World} {m : Mach} {a k : Nat} {st : Sl} {l : List ASt} {q : KPtr} {s : KS} (L : MtL o w m a st l k o1 w1 q s) (u : Below w1.heap.size w1 w2) : MtL o w m a st l k o1 w2 q s := L.upno (Up.of_below u)
def zeroJob : Job := ⟨0, 0, 0, 0, 0, false⟩
theorem nests_spec {o : Own} {w : World} {m : Mach} {st : Sl} {l : List ASt} (hm : MachR o w m) (hs : StepsR o w st l) (hl : l.length ≤ 1048576) : Call P 8 [m.p.v, vS st] [sB] (fun b w' => b = true ∧ ∃ o', Up kl o w o' w') w := by
  refine f8_of _ _ (New_blk o 0 fun b1 o1 w1 k1 u1 _ => k1.bx.ldPlat (x := m.p) ?_)
  have hm := hm.up u1 rfl
  have hs := hs.up u1 rfl
  have hb := boot_law hm
  refine hb.imp1 ?_
  rintro pk w2 (⟨t, a, q, x, y, z, o2, rfl, L⟩ | ⟨nt, rfl, u2⟩)
  rotate_left
  · refine If_t ((k1.bx.below u2).ldPlat (x := m.p) ?_)
    have hno := none_spec (hm.below u2) nt
    refine hno.imp1 ?_
    rintro b w3 ⟨rfl, o3, u3⟩
    exact ⟨rfl, o3, (u1.of_no.trans (Up.of_below u2)).trans u3⟩
  have hs := hs.up L.U kl0
  have c := (t.pl x y z).mc
  generalize V.pl m x y z = m' at L c
  have M0 : MtL o1 w1 m' a st l 0 o2 w2 q (s0 m') := ⟨L, (Mt.zero m').1, (Mt.zero m').2, hs⟩
  refine If_f ⟨fun n w' => ∃ k : Nat, n = k ∧ k ≤ l.length ∧ ∃ o' q' s, MtL o1 w1 m' a st l k o' w' q' s, fun n _ => l.length - n.toNat, ⟨0, rfl, Nat.zero_le _, o2, q, _, M0⟩, ?_⟩
  rintro n v ⟨k, rfl, hk, o3, q3, s, L⟩ _
  have hn := L.hs.n
  refine If_d (fun hlt => ?_) fun hlt => ?_
  rotate_left
  · have hans := answers_below v
    refine hans.imp1 ?_
    rintro b w7 ⟨rfl, u7⟩
    have L := L.below u7
    exact ⟨rfl, o3, u1.of_no.trans L.L.U⟩
  have hkl : k < l.length := by omega
  have hx : l[k]? = some l[k] := List.getElem?_eq_getElem hkl
  have htx := L.hs.each _ (List.getElem_mem hkl)
  generalize l[k] = x at hx htx
  have hme : l.length - Int.toNat ((k : Int) + 1) < l.length - Int.toNat (k : Int) := by omega
  refine L.hs.step rfl hx ?_
  have hd := L.doo c (by omega) x htx
  refine hd.imp2 ?_
  rintro _ _ w5 ⟨s5, q5, o5, L5, _⟩
  have iv := L5.L.iv
  have hnst := L5.mt.sch.nst
  have hj := jobs_spec L5.L.h
  refine hj.imp1 ?_
  rintro sj w6 ⟨J, o6, rJ, hJ, hJl, u6⟩
  have L6 := L5.upno u6
  have hst := stack_spec L6.L.h (by have := iv.stkl; omega)
  refine hst.imp1 ?_
  rintro ss w7 ⟨o7, rS, u7⟩
  have L7 := L6.upno u7
  have rJ := rJ.up u7 rfl
  have hhd := heldv_spec L7.L.h iv.heldl
  refine hhd.imp1 ?_
  rintro sh w8 ⟨o8, rH, u8⟩
  have L8 := L7.upno u8
  have rJ := rJ.up u8 rfl
  have rS := rS.up u8 rfl
  have hJn := rJ.n
  have hSn := rS.n
  have hHn := rH.n
  have hSl := iv.stkl
  have hHl := iv.heldl
  have hcount := hnst.count iv hJ
  -- the job of one of the stack
  have find : ∀ a, a ∈ s5.stack → ∃ y, s5.jobs a = some y ∧ y.started = true ∧ ∀ {o' : Own} {w' : World}, Up no o8 w8 o' w' → Call P 28 [vS sj, .int .i64 a] [shJob, sB] (fun a b c d e f g w'' => (⟨a, b, c, d, e, f⟩ : Job) = y ∧ g = true ∧ ∃ o'', Up no o' w' o'' w'') w' := fun a ha => by
    obtain ⟨y, hy, hys⟩ := hnst.on a ha
    have ht := (iv.jobs a y hy).1
    refine ⟨y, hy, hys, fun {o' w'} u => jobof_spec (rJ.up u rfl) hJl ((hJ.iff y).2 (by rw [ht]; exact hy)) ht fun z hz hzt => ?_⟩
    have := (hJ.iff z).1 hz
    rw [hzt, hy] at this
    exact (Option.some.inj this).symm
  refine ⟨fun g i w' => ∃ j : Nat, i = j ∧ j ≤ J.length ∧ g = (((J.take j).countP fun y => y.started : Nat) : Int) ∧ w' = w8, fun _ i _ => J.length - i.toNat, ⟨0, rfl, Nat.zero_le _, rfl, rfl⟩, ?_⟩
  rintro g i v8 ⟨j, rfl, hj, rfl, rfl⟩ _
  refine If_d (fun hlt => ?_) fun hlt => ?_
  · have hjl : j < J.length := by omega
    have hy : J[j]? = some J[j] := List.getElem?_eq_getElem hjl
    generalize J[j] = y at hy
    have htk := take_succ_get hy
    have c1 := List.countP_le_length (p := fun y : Job => y.started) (l := J.take j)
    rw [List.length_take] at c1
    have k1 : (J.take (j + 1)).countP (fun y => y.started) = (J.take j).countP (fun y => y.started) + (if y.started = true then 1 else 0) := by
      rw [htk, List.countP_append]
      by_cases e : y.started = true <;> simp [e]
    have hme2 : J.length - Int.toNat ((j : Int) + 1) < J.length - Int.toNat (j : Int) := by omega
    generalize (J.take j).countP (fun y => y.started) = n1 at *
    rw [wz_id (x := (j : Int) + 1) (by omega) (by omega), wz_id (x := (n1 : Int) + 1) (by omega) (by omega)]
    refine rJ.fld (f := 5) (e := .kb) (y := y.started) rfl hy rfl rfl (If_b (fun e => ?_) fun e => ?_)
    · rw [if_pos e] at k1
      exact ⟨⟨j + 1, by omega, by omega, by omega, rfl⟩, hme2⟩
    · rw [if_neg (by rw [e]; decide)] at k1
      exact ⟨⟨j + 1, by omega, by omega, by omega, rfl⟩, hme2⟩
  · have hje : j = J.length := by omega
    subst hje
    rw [List.take_length, hcount]
    refine New_blk o8 90 fun b47 o9 w9 k47 u9 hb47 => k47.wr0 (by rfl) fun w10 k10 hw10 => ?_
    have k10 : Blk o9 w10 90 b47 (.cells zeroJob.l.toArray 50 (0, 0)) := k10
    have U10 : Up no o8 v8 o9 w10 := u9.wr hw10 (by omega)
    refine ⟨fun i w' => ∃ (j : Nat) (last : Job) (o' : Own), i = j ∧ j ≤ s5.stack.length ∧ (0 < j → ∃ b, s5.stack[j - 1]? = some b ∧ s5.jobs b = some last) ∧ Up no o8 v8 o' w' ∧ Blk o' w' 90 b47 (.cells last.l.toArray 50 (0, 0)), fun i _ => s5.stack.length - i.toNat, ⟨0, zeroJob, o9, rfl, Nat.zero_le _, fun h => absurd h (by decide), U10, k10⟩, ?_⟩
    rintro i v ⟨j, last, o11, rfl, hj, hlast, U, k47⟩ _
    refine If_d (fun hlt => ?_) fun hlt => ?_
    · have hjl : j < s5.stack.length := by omega
      have hb : s5.stack[j]? = some s5.stack[j] := List.getElem?_eq_getElem hjl
      generalize s5.stack[j] = b at hb
      obtain ⟨y, hy, hys, hcall⟩ := find b (List.mem_of_getElem? hb)
      have hme2 : s5.stack.length - Int.toNat ((j : Int) + 1) < s5.stack.length - Int.toNat (j : Int) := by omega
      refine (rS.up U rfl).int rfl hb ?_
      have hc := hcall U
      refine hc.impJb ?_
      rintro n1 n2 n3 n4 n5 b6 b7 w12 ⟨ey, rfl, o12, u12⟩
      have U := U.trans u12
      have k47 := k47.up u12 rfl
      refine NewSt_blk o12 91 (by rfl) fun b61 o13 w13 k61 u13 hb61 => ?_
      have k61 : Blk o13 w13 91 b61 (.cells (⟨n1, n2, n3, n4, n5, b6⟩ : Job).l.toArray 50 (0, 0)) := k61
      rw [ey] at k61
      have U := U.trans u13
      have k47 := k47.up u13 rfl
      have cp : ∀ {K : World → Prop}, (∀ w', Up no o8 v8 o13 w' → Blk o13 w' 90 b47 (.cells y.l.toArray 50 (0, 0)) → K w') → LdN shJob.cs 0 ⟨b61, 0, none⟩ (fun n69 n70 n71 n72 n73 b74 w => StN [.int .i64 n69, .int .i64 n70, .int .i64 n71, .int .i64 n72, .int .i64 n73, .bool b74] 0 ⟨b47, 0, none⟩ K w) w13 := by
        intro K hK
        refine k61.bx.ldJob (x := y) (k47.wr0 (by rfl) fun w' k' hw => hK w' (U.wr hw (by omega)) ?_)
        exact k'
      rw [wz_id (x := (j : Int) + 1) (by omega) (by omega)]
      have fin : ∀ w', Up no o8 v8 o13 w' → Blk o13 w' 90 b47 (.cells y.l.toArray 50 (0, 0)) → (∃ (j' : Nat) (last : Job) (o' : Own), (j : Int) + 1 = j' ∧ j' ≤ s5.stack.length ∧ (0 < j' → ∃ b, s5.stack[j' - 1]? = some b ∧ s5.jobs b = some last) ∧ Up no o8 v8 o' w' ∧ Blk o' w' 90 b47 (.cells last.l.toArray 50 (0, 0))) ∧ s5.stack.length - Int.toNat ((j : Int) + 1) < s5.stack.length - Int.toNat (j : Int) := fun w' U' k' =>
        ⟨⟨j + 1, y, o13, by omega, by omega, fun _ => ⟨b, hb, hy⟩, U', k'⟩, hme2⟩
      refine If_not (If_t ?_)
      refine k61.bx.ld (c := .kb) (x := y.started) rfl (If_not ?_)
      rw [hys]
      refine If_t (If_d (fun hpos => ?_) fun _ => cp fin)
      have hpos : 0 < j := by
        have : (j : Int) > 0 := hpos
        omega
      obtain ⟨b0, hb0, hl0⟩ := hlast hpos
      have hlt : y.lt last := by
        have h1 := List.pairwise_iff_getElem.1 hnst.ord (j - 1) j (by omega) (by omega) (by omega)
        rw [List.getElem?_eq_getElem (by omega)] at hb hb0
        rw [Option.some.inj hb, Option.some.inj hb0] at h1
        exact h1 last y hl0 hy
      simp only [Job.lt] at hlt
      refine k61.bx.ld (x := y.deadline) rfl (k47.bx.ld (x := last.deadline) rfl (If_d (fun e => ?_) fun _ => ?_))
      · have e : y.deadline > last.deadline := e
        omega
      refine k61.bx.ld (x := y.deadline) rfl (k47.bx.ld (x := last.deadline) rfl (If_eq (fun e => ?_) fun _ => cp fin))
      have e : y.deadline = last.deadline := e
      refine k61.bx.ld (x := y.task) rfl (k47.bx.ld (x := last.task) rfl (If_d (fun e2 => ?_) fun _ => cp fin))
      have e2 : y.task > last.task := e2
      omega
    · refine ⟨fun i w' => ∃ (j : Nat) (o' : Own), i = j ∧ j ≤ s5.held.length ∧ Up no o8 v8 o' w', fun i _ => s5.held.length - i.toNat, ⟨0, o11, rfl, Nat.zero_le _, U⟩, ?_⟩
      rintro i v ⟨j, o11, rfl, hj, U⟩ _
      refine If_d (fun hlt => ?_) fun hlt => ?_
      · have hjl : j < s5.held.length := by omega
        have hb : s5.held[j]? = some s5.held[j] := List.getElem?_eq_getElem hjl
        generalize s5.held[j] = u at hb
        obtain ⟨y, hy, hys, hcall⟩ := find u.task (hnst.own u (List.mem_of_getElem? hb))
        have hme2 : s5.held.length - Int.toNat ((j : Int) + 1) < s5.held.length - Int.toNat (j : Int) := by omega
        refine (rH.up U rfl).fld (f := 0) (e := .ki .i64) (y := u.task) rfl hb rfl rfl ?_
        have hc := hcall U
        refine hc.impJb ?_
        rintro n1 n2 n3 n4 n5 b6 b7 w12 ⟨ey, rfl, o12, u12⟩
        have U := U.trans u12
        refine NewSt_blk o12 91 (by rfl) fun b61 o13 w13 k61 u13 hb61 => ?_
        have k61 : Blk o13 w13 91 b61 (.cells (⟨n1, n2, n3, n4, n5, b6⟩ : Job).l.toArray 50 (0, 0)) := k61
        rw [ey] at k61
        have U := U.trans u13
        rw [wz_id (x := (j : Int) + 1) (by omega) (by omega)]
        refine If_not (If_t ?_)
        refine k61.bx.ld (c := .kb) (x := y.started) rfl (If_not ?_)
        rw [hys]
        exact If_t ⟨⟨j + 1, o13, by omega, by omega, U⟩, hme2⟩
      · refine If_ne (fun e => ?_) fun _ => ?_
        · have e : ((s5.stack.length : Nat) : Int) ≠ ((ss.n : Nat) : Int) := e
          omega
        · rw [wz_id (x := (k : Int) + 1) (by omega) (by omega)]
          exact ⟨⟨k + 1, by omega, by omega, o11, q5, s5, L8.upno U⟩, hme⟩
end Go.Proofs.YtajilfnceoeaiaaGreat.V
