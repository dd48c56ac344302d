/- Parts of the proof: A timer is told for each of its moments, in order, at the first boundary from it on. Plain, Jobs of one task come no closer than its period; each at just the moment that was told, with its deadline a period later. Plain, WholeAdmits, plain: the load of the same tasks in whatever order; who is there; what an admission answers, WholeAdmits: the function returns true. -/
import Derived.Test.YtajilfnceoeaiaaGreatZg0
set_option linter.unusedVariables false
set_option linter.unusedSimpArgs false
/- A timer is told for each of its moments, in order, at the first boundary from it on. Plain. -/
namespace Go.Proofs.YtajilfnceoeaiaaGreat.V
open Go Go.RowKit Enc
set_option maxRecDepth 100000
/-- The moment that is next, whether there is none any more, and whether all is right so far. -/
structure Tm where
  want : Int
  over : Bool
  ok : Bool
def tmOne (n every : Int) (x : Tm) (e : Event) : Tm :=
  if e.kind = 4 ∧ e.task = n then ⟨x.want + every, every == 0, x.ok && (!x.over && ((e.due == x.want) && (decide (x.want ≤ e.at_) && decide (e.at_ - x.want < 256))))⟩ else x
def tmAll (n every want : Int) (E : List Event) : Tm := E.foldl (tmOne n every) ⟨want, false, true⟩
theorem tmAll_snoc (n every want : Int) (E : List Event) (e : Event) : tmAll n every want (E ++ [e]) = tmOne n every (tmAll n every want E) e := by
  unfold tmAll
  rw [List.foldl_append]
  rfl
theorem tmOne_other {n every : Int} {x : Tm} {e : Event} (h : ¬ (e.kind = 4 ∧ e.task = n)) : tmOne n every x e = x := if_neg h
/-- What holds of one timer, behind so many events; it may be late by less than so much. -/
structure TmI (n every want : Int) (k0 : Nat) (late : Int) (s : KS) : Prop where
  len : k0 ≤ s.events.length
  ok : (tmAll n every want (s.events.drop k0)).ok = true
  off : (tmAll n every want (s.events.drop k0)).over = true → every = 0 ∧ s.tim n = none
  on : (tmAll n every want (s.events.drop k0)).over = false → s.tim n = some ((tmAll n every want (s.events.drop k0)).want, every) ∧ s.now < (tmAll n every want (s.events.drop k0)).want + late
  hi : (tmAll n every want (s.events.drop k0)).want ≤ 1000000
section
variable {m : Mach} {A B : Nat} {s s' : KS} {n every want late late' : Int} {k0 : Nat}
theorem TmI.mono (h : TmI n every want k0 late s) (hl : late ≤ late') : TmI n every want k0 late' s := ⟨h.len, h.ok, h.off, fun e => ⟨(h.on e).1, by have := (h.on e).2; omega⟩, h.hi⟩
theorem TmI.eq (h : TmI n every want k0 late s) (e1 : s'.events = s.events) (e2 : s'.tim n = s.tim n) (e3 : s'.now - s.now ≤ late' - late) : TmI n every want k0 late' s' := by
  refine ⟨by rw [e1]; exact h.len, by rw [e1]; exact h.ok, ?_, ?_, by rw [e1]; exact h.hi⟩
  · rw [e1, e2]; exact h.off
  · rw [e1, e2]
    intro e
    have := h.on e
    exact ⟨this.1, by omega⟩
theorem TmI.tell (h : TmI n every want k0 late s) {e : Event} (he : s'.events = s.events ++ [e]) (hne : ¬ (e.kind = 4 ∧ e.task = n)) (e2 : s'.tim n = s.tim n) (e3 : s'.now - s.now ≤ late' - late) : TmI n every want k0 late' s' := by
  have hd : tmAll n every want (s'.events.drop k0) = tmAll n every want (s.events.drop k0) := by
    rw [he, List.drop_append_of_le_length h.len, tmAll_snoc, tmOne_other hne]
  refine ⟨by rw [he, List.length_append]; exact Nat.le_trans h.len (Nat.le_add_right _ _), by rw [hd]; exact h.ok, ?_, ?_, by rw [hd]; exact h.hi⟩
  · rw [hd, e2]; exact h.off
  · rw [hd, e2]
    intro e
    have := h.on e
    exact ⟨this.1, by omega⟩
/-- What a step of the machine tells: at most that a job has ended. -/
theorem StepR.tells (iv : KInv m A B s) (hr : StepR m s s') : s'.events = s.events ∨ ∃ e, s'.events = s.events ++ [e] ∧ (e.kind = 2 ∨ e.kind = 3) := by
  have tail : ∀ (s1 : KS) (n : Int) (j : Job), (runsTailZ m s1 n j).events = s1.events ∨ ∃ e, (runsTailZ m s1 n j).events = s1.events ++ [e] ∧ (e.kind = 2 ∨ e.kind = 3) := by
    intro s1 n j
    unfold runsTailZ
    dsimp only
    split
    · rename_i hh
      refine .inr ⟨_, rfl, ?_⟩
      show jobHow j = 2 ∨ jobHow j = 3
      revert hh
      unfold jobHow
      split
      · exact fun _ => .inl rfl
      · split
        · exact fun _ => .inr rfl
        · exact fun h => absurd rfl h
    · exact .inl rfl
  have hst : ∀ (j : Job), (startZ s j).events = s.events := fun j => by unfold startZ; split <;> rfl
  unfold StepR at hr
  by_cases ha : s.asleep = true
  · rw [if_pos ha] at hr
    rw [hr]
    unfold sleepingZ
    dsimp only
    split <;> exact .inl rfl
  · rw [if_neg ha] at hr
    obtain ⟨n, ok, L, hL, _, hw, hr⟩ := hr
    cases ok with
    | true =>
      rw [if_pos rfl] at hr
      unfold RunsR at hr
      dsimp only at hr
      split at hr
      · rw [hr]
        exact .inr ⟨_, rfl, .inr rfl⟩
      · split at hr
        · obtain ⟨b, s1, hch, hb⟩ := hr
          obtain ⟨lv, l0, l1, _, hz⟩ := chooseR_start hch
          rcases hz with ⟨_, rfl, rfl⟩ | ⟨hne, rfl, rfl⟩
          · rw [if_neg (by decide)] at hb
            rw [hb]
            have := tail (startZ s ((s.jobs n).getD noJob)) n (((startZ s ((s.jobs n).getD noJob)).jobs n).getD noJob)
            rwa [hst] at this
          · rw [if_pos rfl] at hb
            rw [hb]
            exact .inl (hst _)
        · rw [hr]; exact tail s n _
    | false =>
      rw [if_neg (by decide)] at hr
      rcases hr with rfl | ⟨_, k, x, t, hx, _, _, _, rfl⟩
      · exact .inl rfl
      · exact .inl rfl
theorem TmI.step (iv : KInv m A B s) (hn : s.now < 16384) (h : TmI n every want k0 0 s) (hr : StepR m s s') : TmI n every want k0 256 s' := by
  have hf := StepR.frame iv hn hr
  have hfar := hf.far
  have ht : s'.tim n = s.tim n := by rw [hf.tim]
  rcases StepR.tells iv hr with he | ⟨e, he, hk⟩
  · exact h.eq he ht (by omega)
  · exact h.tell he (fun h => by omega) ht (by omega)
theorem TmI.rel (h : TmI n every want k0 256 s) (hr : RelOne s s') : TmI n every want k0 256 s' := by
  obtain ⟨k, at_, cyc, t, _, _, _, _, rfl⟩ := hr
  exact h.tell (e := ⟨1, k, at_, _⟩) rfl (fun h => absurd h.1 (show ¬ (1 : Int) = 4 by decide)) rfl (by show s.now - s.now ≤ _; omega)
theorem TmI.exp (iv : KInv m A B s) (he : 0 ≤ every ∧ every ≤ 16384) (h : TmI n every want k0 256 s) (hr : ExpOne s s') : TmI n every want k0 256 s' := by
  obtain ⟨id, at_, ev, hl, hd, hm, rfl⟩ := hr
  have hnow := iv.now
  by_cases hid : id = n
  · subst hid
    cases hov : (tmAll id every want (s.events.drop k0)).over with
    | true => have := (h.off hov).2; rw [this] at hl; cases hl
    | false =>
      obtain ⟨h1, h2⟩ := h.on hov
      rw [h1] at hl
      simp only [Option.some.injEq, Prod.mk.injEq] at hl
      obtain ⟨hw, rfl⟩ := hl
      have hrg := iv.tim id _ h1
      dsimp only at hrg
      have hnew : tmAll id every want ((s.events ++ [(⟨4, id, s.now, at_⟩ : Event)]).drop k0) = ⟨at_ + every, every == 0, true⟩ := by
        rw [List.drop_append_of_le_length h.len, tmAll_snoc]
        unfold tmOne
        rw [if_pos ⟨rfl, rfl⟩, h.ok, hov, hw]
        have : decide (at_ ≤ s.now) = true := decide_eq_true hd
        have h3 : decide (s.now - at_ < 256) = true := decide_eq_true (by omega)
        simp [this, h3]
      have hev : (tellZ { s with tim := if every > 0 then upd s.tim id (some (laterZ at_ every, every)) else upd s.tim id none } 4 id s.now at_).events = s.events ++ [⟨4, id, s.now, at_⟩] := rfl
      refine ⟨by rw [hev, List.length_append]; exact Nat.le_trans h.len (Nat.le_add_right _ _), by rw [hev, hnew], ?_, ?_, by rw [hev, hnew]; dsimp only; omega⟩
      · rw [hev, hnew]
        intro e0
        have e0 : every = 0 := by simpa using e0
        refine ⟨e0, ?_⟩
        show (if every > 0 then upd s.tim id (some (laterZ at_ every, every)) else upd s.tim id none) id = none
        rw [if_neg (by omega), upd, if_pos rfl]
      · rw [hev, hnew]
        intro e0
        have e0 : every ≠ 0 := by simpa using e0
        refine ⟨?_, ?_⟩
        · show (if every > 0 then upd s.tim id (some (laterZ at_ every, every)) else upd s.tim id none) id = some (at_ + every, every)
          rw [if_pos (by omega), upd, if_pos rfl, laterZ_in (by omega) (by omega) (by omega) he.2]
        · show s.now < at_ + every + 256
          omega
  · refine h.tell (e := ⟨4, id, s.now, at_⟩) rfl (fun h => hid h.2) ?_ (by show s.now - s.now ≤ _; omega)
    show (if ev > 0 then upd s.tim id (some (laterZ at_ ev, ev)) else upd s.tim id none) n = s.tim n
    split <;> rw [upd, if_neg (Ne.symm hid)]
theorem TmI.bound (iv : KInv m A B s) (he : 0 ≤ every ∧ every ≤ 16384) (h : TmI n every want k0 256 s) (hr : BoundR m s s') : TmI n every want k0 0 s' := by
  obtain ⟨s1, s2, h1, _, h2, hend, D, X, rfl, _⟩ := hr
  have i1 := Star.keep (I := TmI n every want k0 256) (fun _ _ r i => i.rel r) h1 h
  obtain ⟨j1, _, _⟩ := h1.relInv iv
  have i2 := (Star.keep (I := fun s => KInv m A B s ∧ TmI n every want k0 256 s) (fun _ _ r i => ⟨(r.inv i.1).1, i.2.exp i.1 he r⟩) h2 ⟨j1, i1⟩).2
  refine ⟨i2.len, i2.ok, i2.off, fun e => ?_, i2.hi⟩
  have := i2.on e
  have hlt := hend n _ this.1
  exact ⟨this.1, by dsimp only at hlt ⊢; omega⟩
theorem TmI.tick (he : 0 ≤ every ∧ every ≤ 16384) (iv : KInv m A B s) (h : TmI n every want k0 0 s) {a e : Int} (hr : TickR m s a e s') : TmI n every want k0 0 s' := by
  rcases hr with ⟨_, _, rfl⟩ | ⟨_, _, _, hs, _⟩
  · exact h
  · have hE := endT_le iv.mok s a
    refine (Star.keep (I := fun s => KInv m A B s ∧ TmI n every want k0 0 s) (fun s1 s2 r i => ?_) hs ⟨iv, h⟩).2
    obtain ⟨hlt, s3, h1, h2⟩ := r
    have j1 := stepR_inv i.1 (by omega) h1
    exact ⟨(h2.inv j1.1).1, (i.2.step i.1 (by omega) h1).bound j1.1 he h2⟩
/-- Steps that set no such timer leave it as it is. -/
theorem OneR.tim {x : ASt} {a e : Int} (hr : OneR m s x a e s') (hx : x.a ≠ n ∨ (x.kind ≠ 8 ∧ x.kind ≠ 9)) : x.kind = 4 ∨ s'.tim n = s.tim n := by
  rcases hr with ⟨_, hr⟩ | ⟨_, _, hr⟩ | ⟨_, _, hr⟩ | ⟨hk, _, hr⟩ | ⟨_, _, hr⟩ | ⟨hk, _, hr⟩ | ⟨hk, _, hr⟩ | ⟨_, _, _, rfl⟩
  · refine .inr ?_
    rcases hr with ⟨_, _, _, rfl⟩ | ⟨_, ⟨_, _, _, rfl⟩ | ⟨_, ⟨_, _, _, rfl⟩ | ⟨_, ⟨_, _, _, rfl⟩ | ⟨_, _, i, y, z, r, s1, _, _, _, _, ⟨D, rfl, _⟩, _, _, _, _, rfl⟩⟩⟩⟩ <;> rfl
  · refine .inr ?_
    rcases hr with ⟨rfl, _⟩ | ⟨_, _, _, _, _, rfl⟩ <;> rfl
  · refine .inr ?_
    rcases hr with ⟨_, rfl⟩ | ⟨_, _, _, _, _, _, _, _, rfl⟩ <;> rfl
  · exact .inl hk
  · refine .inr ?_
    rcases hr with ⟨rfl, _⟩ | ⟨_, n, L, _, _, _, _, t, _, _, _, hr⟩
    · rfl
    · rcases hr with ⟨_, i, _, rfl⟩ | ⟨_, _, c, _, rfl⟩ <;> rfl
  · refine .inr ?_
    rcases hr with ⟨_, _, rfl⟩ | ⟨_, _, _, h0, h1, rfl⟩ <;> rfl
  · have hne : n ≠ x.a := fun h => (by rcases hx with hx | hx <;> omega)
    refine .inr ?_
    unfold TimerR at hr
    have hst : x.st.a = x.a := rfl
    split at hr
    · rcases hr with ⟨_, _, rfl⟩ | ⟨_, _, rfl⟩
      · show upd s.tim x.st.a none n = s.tim n
        rw [hst, upd, if_neg hne]
      · rfl
    · rcases hr with ⟨_, _, rfl⟩ | ⟨_, _, _, _, _, _, _, rfl⟩
      · rfl
      · show upd s.tim x.st.a _ n = s.tim n
        rw [hst, upd, if_neg hne]
  · exact .inr rfl
theorem TmI.doR (he : 0 ≤ every ∧ every ≤ 16384) (h : TmI n every want k0 0 s) {x : ASt} {a e : Int} (hx : x.a ≠ n ∨ (x.kind ≠ 8 ∧ x.kind ≠ 9)) (iv : KInv m A B s) (hA : A + 1 ≤ 800000000) (hB : B + 70000 ≤ bigN) (hr : DoR m s x a e s') : TmI n every want k0 0 s' := by
  rcases hr with ⟨_, _, _, rfl⟩ | ⟨_, ⟨_, _, rfl⟩ | ⟨_, s1, h1, h2⟩⟩
  · exact h
  · exact h
  · have iv1 := (h1.inv iv hA hB).1
    refine TmI.bound iv1 he ?_ h2
    by_cases hk : x.kind = 4
    · rcases h1 with ⟨hk', _⟩ | ⟨hk', _⟩ | ⟨hk', _⟩ | ⟨_, _, ht⟩ | ⟨hk', _⟩ | ⟨hk', _⟩ | ⟨hk', _⟩ | ⟨hk', _⟩
      · omega
      · omega
      · omega
      · exact (h.tick he iv ht).mono (by omega)
      all_goals omega
    · have ht := (h1.tim hx).resolve_left hk
      rcases h1.calm with ⟨hk4, _⟩ | c
      · exact absurd hk4 hk
      · exact h.eq c.events ht (by rw [c.now]; omega)
/-- A timer is set. -/
theorem TmI.set {x : ASt} {a e : Int} (hk : x.kind = 8) (ha : x.a = n) (hn : 0 ≤ n ∧ n ≤ 3) (hb : 0 ≤ x.b ∧ x.b ≤ 2000) (hc : x.c = every) (he : 0 ≤ every ∧ every ≤ 2000) (hw : want = s.now + x.b) (hlt : s.now < m.p.horizon) (iv : KInv m A B s) (hA : A + 1 ≤ 800000000) (hB : B + 70000 ≤ bigN) (hr : DoR m s x a e s') :
    e = 0 ∧ TmI n every want s.events.length 0 s' := by
  have hnow := iv.now
  have hone : ∀ e s1, OneR m s x a e s1 → TimerR s x.st e s1 := by
    intro e s1 h
    rcases h with ⟨h, _⟩ | ⟨h, _⟩ | ⟨h, _⟩ | ⟨h, _⟩ | ⟨h, _⟩ | ⟨h, _⟩ | ⟨_, _, h⟩ | ⟨h, _⟩
    · omega
    · omega
    · omega
    · omega
    · omega
    · omega
    · exact h
    · omega
  have hset : ∀ e s1, TimerR s x.st e s1 → e = 0 ∧ s1 = { s with tim := upd s.tim n (some (want, every)) } := by
    intro e s1 h
    unfold TimerR at h
    rw [if_neg (show ¬ x.st.kind = 9 by show ¬ x.kind = 9; omega)] at h
    have e1 : x.st.a = n := ha
    have e2 : x.st.b = x.b := rfl
    have e3 : x.st.c = every := hc
    rw [e1, e2, e3] at h
    rcases h with ⟨_, hne, _⟩ | ⟨rfl, _, _, _, _, _, _, rfl⟩
    · exact absurd ⟨hn.1, hn.2, hb.1, by omega, he.1, by omega⟩ hne
    · have hwz : wz (s.now + x.b) = want := by rw [hw]; exact wz_id (by omega) (by omega)
      rw [hwz, if_neg (by omega)]
      exact ⟨rfl, rfl⟩
  rcases hr with ⟨h, _⟩ | ⟨_, ⟨hne, h, _⟩ | ⟨rfl, s1, h1, h2⟩⟩
  · omega
  · exact absurd (hset e s (hone e s h)).1 hne
  · refine ⟨rfl, ?_⟩
    have iv1 := (h1.inv iv hA hB).1
    obtain ⟨_, rfl⟩ := hset 0 s1 (hone 0 s1 h1)
    refine TmI.bound iv1 (by omega) ?_ h2
    have hd : tmAll n every want (s.events.drop s.events.length) = ⟨want, false, true⟩ := by rw [List.drop_length]; rfl
    refine ⟨Nat.le_refl _, ?_, ?_, ?_, ?_⟩
    · show (tmAll n every want (s.events.drop s.events.length)).ok = true
      rw [hd]
    · show (tmAll n every want (s.events.drop s.events.length)).over = true → _
      rw [hd]
      exact fun h => by cases h
    · show (tmAll n every want (s.events.drop s.events.length)).over = false → upd s.tim n (some (want, every)) n = some ((tmAll n every want (s.events.drop s.events.length)).want, every) ∧ s.now < (tmAll n every want (s.events.drop s.events.length)).want + 256
      rw [hd]
      intro _
      refine ⟨by rw [upd, if_pos rfl], by dsimp only; omega⟩
    · show (tmAll n every want (s.events.drop s.events.length)).want ≤ 1000000
      rw [hd]
      dsimp only
      omega
end
end Go.Proofs.YtajilfnceoeaiaaGreat.V
/- Jobs of one task come no closer than its period; each at just the moment that was told, with its deadline a period later. Plain. -/
namespace Go.Proofs.YtajilfnceoeaiaaGreat.V
open Go Go.RowKit Enc
set_option maxRecDepth 100000
def perZ (T : List ATask) (n : Int) : Int := ((T[n.toNat]?).map fun x => x.t.period).getD 0
/-- When the last job of each task was due, and whether all is right so far. -/
structure Ap where
  D : Int → Int
  ok : Bool
def apOne (A per : Int → Int) (x : Ap) (e : Event) : Ap :=
  if e.kind = 1 then ⟨upd x.D e.task e.due, x.ok && ((decide (0 ≤ e.task) && decide (e.task < 6)) && ((decide (0 ≤ e.at_) && decide (e.at_ ≤ 17000)) && (decide (x.D e.task ≤ e.at_) && ((e.at_ == A e.task) && (e.due == e.at_ + per e.task)))))⟩ else x
def apAll (A per D : Int → Int) (E : List Event) : Ap := E.foldl (apOne A per) ⟨D, true⟩
theorem apAll_snoc (A per D : Int → Int) (E : List Event) (e : Event) : apAll A per D (E ++ [e]) = apOne A per (apAll A per D E) e := by
  unfold apAll
  rw [List.foldl_append]
  rfl
/-- What holds of tasks: what was asked, and when the last one was due. -/
structure ApS (A D : Int → Int) (s : KS) : Prop where
  tb : ∀ x ∈ s.T, x.t.period ≤ 16384
  has : ∀ n, hasZ s n → 0 ≤ D n ∧ D n ≤ s.N.getD n.toNat 0
  lat : ∀ n a c, s.lat n = some (a, c) → hasZ s n ∧ a = A n ∧ D n ≤ a
  non : ∀ n, ¬ hasZ s n → D n = 0
structure ApW (A per D : Int → Int) (k0 : Nat) (s : KS) : Prop where
  len : k0 ≤ s.events.length
  ok : (apAll A per D (s.events.drop k0)).ok = true
  st : ApS A (apAll A per D (s.events.drop k0)).D s
  per : perZ s.T = per
section
variable {m : Mach} {A B : Nat} {s s' : KS} {F per D : Int → Int} {k0 : Nat}
theorem ApS.eq (h : ApS F D s) (e1 : s'.T = s.T) (e2 : s'.N = s.N) (e3 : s'.lat = s.lat) : ApS F D s' := by
  have hh : ∀ n, hasZ s' n ↔ hasZ s n := fun n => by unfold hasZ; rw [e1]
  exact ⟨by rw [e1]; exact h.tb, fun n hn => by rw [e2]; exact h.has n ((hh n).1 hn), fun n a c hl => by rw [e3] at hl; obtain ⟨h1, h2⟩ := h.lat n a c hl; exact ⟨(hh n).2 h1, h2⟩, fun n hn => h.non n fun h => hn ((hh n).2 h)⟩
theorem ApW.eq (h : ApW F per D k0 s) (e0 : s'.events = s.events) (e1 : s'.T = s.T) (e2 : s'.N = s.N) (e3 : s'.lat = s.lat) : ApW F per D k0 s' :=
  ⟨by rw [e0]; exact h.len, by rw [e0]; exact h.ok, by rw [e0]; exact h.st.eq e1 e2 e3, by rw [e1]; exact h.per⟩
theorem ApW.tell (h : ApW F per D k0 s) {e : Event} (he : s'.events = s.events ++ [e]) (hk : e.kind ≠ 1) (e1 : s'.T = s.T) (e2 : s'.N = s.N) (e3 : s'.lat = s.lat) : ApW F per D k0 s' := by
  have hd : apAll F per D (s'.events.drop k0) = apAll F per D (s.events.drop k0) := by
    rw [he, List.drop_append_of_le_length h.len, apAll_snoc]
    unfold apOne
    rw [if_neg hk]
  exact ⟨by rw [he, List.length_append]; exact Nat.le_trans h.len (Nat.le_add_right _ _), by rw [hd]; exact h.ok, by rw [hd]; exact h.st.eq e1 e2 e3, by rw [e1]; exact h.per⟩
theorem ApW.step (iv : KInv m A B s) (hn : s.now < 16384) (h : ApW F per D k0 s) (hr : StepR m s s') : ApW F per D k0 s' := by
  have hf := StepR.frame iv hn hr
  rcases StepR.tells iv hr with he | ⟨e, he, hk⟩
  · exact h.eq he hf.T hf.N hf.lat
  · exact h.tell he (by omega) hf.T hf.N hf.lat
theorem ApW.exp (h : ApW F per D k0 s) (hr : ExpOne s s') : ApW F per D k0 s' := by
  obtain ⟨id, at_, ev, _, _, _, rfl⟩ := hr
  exact h.tell (e := ⟨4, id, s.now, at_⟩) rfl (show ¬ (4 : Int) = 1 by decide) rfl rfl rfl
theorem ApW.rel (iv : KInv m A B s) (h : ApW F per D k0 s) (hr : RelOne s s') : ApW F per D k0 s' := by
  obtain ⟨n, at_, cyc, t, hl, hd, hm, ht, rfl⟩ := hr
  obtain ⟨hz, hA, hD⟩ := h.st.lat n at_ cyc hl
  obtain ⟨h0, h6⟩ := iv.lat n _ hl
  have hD0 := (h.st.has n hz).1
  have hnow := iv.now
  have hN := iv.N
  obtain ⟨_, t', ht', hper⟩ := id hz
  rw [ht] at ht'
  cases ht'
  have htb := h.st.tb t (List.mem_of_getElem? ht)
  have hpz : per n = t.t.period := by rw [← h.per]; unfold perZ; rw [ht]; rfl
  have hj : (jobNew n t.t at_ cyc).deadline = at_ + t.t.period := wz_id (by omega) (by omega)
  have hnew : apAll F per D ((s.events ++ [(⟨1, n, at_, at_ + t.t.period⟩ : Event)]).drop k0) = ⟨upd (apAll F per D (s.events.drop k0)).D n (at_ + t.t.period), true⟩ := by
    rw [List.drop_append_of_le_length h.len, apAll_snoc]
    unfold apOne
    rw [if_pos rfl, h.ok]
    have hp0 : 0 ≤ at_ := by omega
    have hp1 : at_ ≤ 17000 := by omega
    simp [h0, h6, hA, hpz]
    refine ⟨⟨?_, ?_⟩, ?_⟩ <;> omega
  rw [hj]
  have hev : (tellZ { s with lat := upd s.lat n none, jobs := upd s.jobs n (some (jobNew n t.t at_ cyc)), N := s.N.set n.toNat (at_ + t.t.period), U := s.U.set n.toNat (jobNew n t.t at_ cyc).left } 1 n at_ (at_ + t.t.period)).events = s.events ++ [⟨1, n, at_, at_ + t.t.period⟩] := rfl
  refine ⟨by rw [hev, List.length_append]; exact Nat.le_trans h.len (Nat.le_add_right _ _), by rw [hev, hnew], ?_, h.per⟩
  rw [hev, hnew]
  refine ⟨h.st.tb, fun k hk => ?_, fun k a c hk => ?_, fun k hk => ?_⟩
  · show 0 ≤ upd _ n _ k ∧ upd _ n _ k ≤ (s.N.set n.toNat (at_ + t.t.period)).getD k.toNat 0
    by_cases e : k = n
    · subst e
      rw [upd, if_pos rfl, List.getD_eq_getElem?_getD, List.getElem?_set_self (by omega)]
      exact ⟨by omega, Int.le_refl _⟩
    · obtain ⟨g0, _⟩ := id hk
      rw [upd, if_neg e, List.getD_eq_getElem?_getD, List.getElem?_set_ne (by omega), ← List.getD_eq_getElem?_getD]
      exact h.st.has k hk
  · have hk : upd s.lat n none k = some (a, c) := hk
    by_cases e : k = n
    · rw [upd, if_pos e] at hk; cases hk
    · rw [upd, if_neg e] at hk
      obtain ⟨g1, g2, g3⟩ := h.st.lat k a c hk
      refine ⟨g1, g2, ?_⟩
      show upd _ n _ k ≤ a
      rw [upd, if_neg e]
      exact g3
  · have hne : k ≠ n := fun e => hk (by rw [e]; exact hz)
    show upd _ n _ k = 0
    rw [upd, if_neg hne]
    exact h.st.non k hk
theorem ApW.bound (iv : KInv m A B s) (h : ApW F per D k0 s) (hr : BoundR m s s') : ApW F per D k0 s' := by
  obtain ⟨s1, s2, h1, _, h2, _, D', X, rfl, _⟩ := hr
  have i1 := (Star.keep (I := fun s => KInv m A B s ∧ ApW F per D k0 s) (fun _ _ r i => ⟨(r.inv i.1).1, i.2.rel i.1 r⟩) h1 ⟨iv, h⟩).2
  have i2 := Star.keep (I := ApW F per D k0) (fun _ _ r i => i.exp r) h2 i1
  exact i2.eq rfl rfl rfl rfl
theorem ApW.tick (iv : KInv m A B s) (h : ApW F per D k0 s) {a e : Int} (hr : TickR m s a e s') : ApW F per D k0 s' :=
  hr.keep (fun _ _ iv hn r i => i.step iv hn r) (fun _ _ iv r i => i.bound iv r) iv h
theorem hasZ_set {T : List ATask} {s s' : KS} {i : Nat} {z : ATask} (e : s.T = T) (e' : s'.T = T.set i z) (hi : i < T.length) (n : Int) (hn : 0 ≤ n) : hasZ s' n ↔ (if n.toNat = i then z.t.period > 0 else hasZ s n) := by
  unfold hasZ
  rw [e, e', List.getElem?_set]
  by_cases h : i = n.toNat
  · subst h
    rw [if_pos rfl, if_pos rfl, if_pos hi]
    simp [hn]
  · rw [if_neg h, if_neg (Ne.symm h)]
/-- What was asked, behind a step. -/
def askedZ (F : Int → Int) (s : KS) (x : ASt) (e : Int) : Int → Int := if x.kind = 3 ∧ e = 0 then upd F x.a (s.now + x.b) else F
theorem ApS.one (iv : KInv m A B s) (h : ApS F D s) {x : ASt} {n e : Int} (hk2 : x.kind ≠ 2) (hk4 : x.kind ≠ 4) (hr : OneR m s x n e s') : ApS (askedZ F s x e) D s' ∧ (x.kind = 3 ∧ e = 0 → 0 ≤ x.a ∧ x.a < 6) := by
  have hnow := iv.now
  have hT := iv.T
  have hN := iv.N
  have hor := iv.mok.hor
  have same : x.kind ≠ 3 → askedZ F s x e = F := fun h => if_neg fun g => h g.1
  rcases hr with ⟨hk, hr⟩ | ⟨hk, _, hr⟩ | ⟨hk, _, hr⟩ | ⟨hk, _, hr⟩ | ⟨hk, _, hr⟩ | ⟨hk, _, hr⟩ | ⟨hk, _, hr⟩ | ⟨hk, _, _, rfl⟩
  · rw [same (by omega)]
    refine ⟨?_, fun g => by omega⟩
    rcases hr with ⟨_, _, _, rfl⟩ | ⟨hck, ⟨_, _, _, rfl⟩ | ⟨_, ⟨_, _, _, rfl⟩ | ⟨_, ⟨_, _, _, rfl⟩ | ⟨_, _, i, y, z, r, s1, _, hy, hy0, _, ⟨D1, rfl, _, hr0, _⟩, z1, z2, z3, z4, rfl⟩⟩⟩⟩
    · exact h
    · exact h
    · exact h
    · exact h
    · obtain ⟨c1, c2, _⟩ := checkZ_zero hck
      have hi := lt_of_get hy
      have hi6 : i < 6 := by omega
      have hr0 : s.now ≤ r := hr0
      have hnot : ∀ n : Int, 0 ≤ n → n.toNat = i → ¬ hasZ s n := by
        rintro n h0 hni ⟨_, t, ht, hp⟩
        rw [hni, hy] at ht
        cases ht
        omega
      have hz := fun (n : Int) (h0 : 0 ≤ n) => hasZ_set (s := s) (s' := { s with places := s.places + 1, devs := D1, T := s.T.set i z, N := s.N.set i r, U := s.U.set i x.t.t.cycles }) (z := z) rfl rfl hi n h0
      refine ⟨fun u hu => ?_, fun n hn => ?_, fun n a c hl => ?_, fun n hn => ?_⟩
      · rcases List.mem_or_eq_of_mem_set hu with hu | rfl
        · exact h.tb u hu
        · omega
      · have h0 : 0 ≤ n := hn.1
        have hn' := (hz n h0).1 hn
        show 0 ≤ D n ∧ D n ≤ (s.N.set i r).getD n.toNat 0
        by_cases e : n.toNat = i
        · rw [h.non n (hnot n h0 e), e, List.getD_eq_getElem?_getD, List.getElem?_set_self (by omega)]
          exact ⟨Int.le_refl _, by show (0 : Int) ≤ r; omega⟩
        · rw [if_neg e] at hn'
          rw [List.getD_eq_getElem?_getD, List.getElem?_set_ne (Ne.symm e), ← List.getD_eq_getElem?_getD]
          exact h.has n hn'
      · obtain ⟨g1, g2, g3⟩ := h.lat n a c hl
        refine ⟨(hz n g1.1).2 ?_, g2, g3⟩
        by_cases e : n.toNat = i
        · exact absurd g1 (hnot n g1.1 e)
        · rw [if_neg e]; exact g1
      · by_cases h0 : 0 ≤ n
        · by_cases e : n.toNat = i
          · exact h.non n (hnot n h0 e)
          · refine h.non n fun g => hn ((hz n h0).2 ?_)
            rw [if_neg e]; exact g
        · exact h.non n fun g => h0 g.1
  · exact absurd hk hk2
  · rcases hr with ⟨herr, es⟩ | ⟨hz, a0, a1, _, _, hl, hNn, rfl, rfl⟩
    · have he : e ≠ 0 := by rcases herr with ⟨_, rfl⟩ | ⟨_, ⟨_, rfl⟩ | ⟨_, rfl⟩ | ⟨_, rfl⟩ | ⟨_, rfl⟩⟩ <;> decide
      have : askedZ F s x e = F := if_neg fun g => he g.2
      rw [this, es]
      exact ⟨h, fun g => absurd g.2 he⟩
    · have hw : wz (s.now + x.b) = s.now + x.b := wz_id (by omega) (by omega)
      rw [hw] at hNn ⊢
      have hF : askedZ F s x 0 = upd F x.a (s.now + x.b) := if_pos ⟨hk, rfl⟩
      rw [hF]
      have hx6 : x.a < 6 := by
        obtain ⟨g0, t, ht, _⟩ := id hz
        have := lt_of_get ht
        omega
      have hx0 := hz.1
      refine ⟨⟨h.tb, fun n hn => ?_, fun n a c hl => ?_, h.non⟩, fun _ => ⟨hx0, hx6⟩⟩
      · have hn' : hasZ s n := hn
        have h1 := h.has n hn'
        refine ⟨h1.1, ?_⟩
        show D n ≤ (s.N.set x.a.toNat (s.now + x.b)).getD n.toNat 0
        by_cases e : n = x.a
        · subst e
          rw [List.getD_eq_getElem?_getD, List.getElem?_set_self (by omega)]
          exact Int.le_trans h1.2 hNn
        · have := hn.1
          rw [List.getD_eq_getElem?_getD, List.getElem?_set_ne (by omega), ← List.getD_eq_getElem?_getD]
          exact h1.2
      · have hl : upd s.lat x.a (some (s.now + x.b, x.c)) n = some (a, c) := hl
        by_cases e : n = x.a
        · subst e
          rw [upd, if_pos rfl] at hl
          simp only [Option.some.injEq, Prod.mk.injEq] at hl
          obtain ⟨rfl, rfl⟩ := hl
          exact ⟨hz, by rw [upd, if_pos rfl], Int.le_trans (h.has _ hz).2 hNn⟩
        · rw [upd, if_neg e] at hl
          obtain ⟨g1, g2, g3⟩ := h.lat n a c hl
          exact ⟨g1, by rw [upd, if_neg e]; exact g2, g3⟩
  · exact absurd hk hk4
  · rw [same (by omega)]
    refine ⟨?_, fun g => by omega⟩
    rcases hr with ⟨rfl, _⟩ | ⟨_, n, L, _, _, _, _, t, _, _, _, hr⟩
    · exact h
    · rcases hr with ⟨_, i, _, rfl⟩ | ⟨_, _, c, _, rfl⟩ <;> exact h.eq rfl rfl rfl
  · rw [same (by omega)]
    refine ⟨?_, fun g => by omega⟩
    rcases hr with ⟨_, _, rfl⟩ | ⟨_, _, _, h0, h1, rfl⟩
    · exact h
    · exact h.eq rfl rfl rfl
  · rw [same (by omega)]
    refine ⟨?_, fun g => by omega⟩
    unfold TimerR at hr
    split at hr
    · rcases hr with ⟨_, _, rfl⟩ | ⟨_, _, rfl⟩
      · exact h.eq rfl rfl rfl
      · exact h
    · rcases hr with ⟨_, _, rfl⟩ | ⟨_, _, _, _, _, _, _, rfl⟩
      · exact h
      · exact h.eq rfl rfl rfl
  · rw [same (by omega)]
    exact ⟨h, fun g => by omega⟩
/-- Behind a step of a script that is no removal. -/
theorem ApS.doR (h : ApS F D s) {x : ASt} {n e : Int} (hk2 : x.kind ≠ 2) (iv : KInv m A B s) (hA : A + 1 ≤ 800000000) (hB : B + 70000 ≤ bigN) (hr : DoR m s x n e s') :
    ApW (askedZ F s x e) (perZ s'.T) D s.events.length s' ∧ (x.kind = 3 ∧ e = 0 → 0 ≤ x.a ∧ x.a < 6) := by
  have start : ∀ (G : Int → Int) (s1 : KS), s1.events = s.events → ApS G D s1 → ApW G (perZ s1.T) D s.events.length s1 := by
    intro G s1 he h1
    have hd : apAll G (perZ s1.T) D (s1.events.drop s.events.length) = ⟨D, true⟩ := by rw [he, List.drop_length]; rfl
    exact ⟨by rw [he]; exact Nat.le_refl _, by rw [hd], by rw [hd]; exact h1, rfl⟩
  have stay : e ≠ 0 → s' = s → ApW (askedZ F s x e) (perZ s'.T) D s.events.length s' ∧ (x.kind = 3 ∧ e = 0 → 0 ≤ x.a ∧ x.a < 6) := by
    intro he es
    have : askedZ F s x e = F := if_neg fun g => he g.2
    rw [this, es]
    exact ⟨start F s rfl h, fun g => absurd g.2 he⟩
  rcases hr with ⟨_, _, rfl, e1⟩ | ⟨_, ⟨he, _, e1⟩ | ⟨rfl, s1, h1, h2⟩⟩
  · exact stay (by decide) e1
  · exact stay he e1
  · have iv1 := (h1.inv iv hA hB).1
    by_cases hk : x.kind = 4
    · have hF : askedZ F s x 0 = F := if_neg fun g => by omega
      rw [hF]
      refine ⟨?_, fun g => by omega⟩
      have ht : TickR m s x.a 0 s1 := by
        rcases h1 with ⟨hk', _⟩ | ⟨hk', _⟩ | ⟨hk', _⟩ | ⟨_, _, ht⟩ | ⟨hk', _⟩ | ⟨hk', _⟩ | ⟨hk', _⟩ | ⟨hk', _⟩
        · omega
        · omega
        · omega
        · exact ht
        all_goals omega
      have w1 := (start F s rfl h).tick iv ht
      have w2 := w1.bound iv1 h2
      rw [w2.per]
      exact w2
    · obtain ⟨g1, g2⟩ := h.one iv hk2 hk h1
      have hev : s1.events = s.events := by
        rcases h1.calm with ⟨hk4, _⟩ | c
        · exact absurd hk4 hk
        · exact c.events
      have w1 := (start _ s1 hev g1).bound iv1 h2
      refine ⟨?_, g2⟩
      rw [w1.per]
      exact w1
theorem ApS.s0 (m : Mach) : ApS (fun _ => 0) (fun _ => 0) (s0 m) := by
  have hno : ∀ n, ¬ hasZ (V.s0 m) n := by
    rintro n ⟨_, t, ht, hp⟩
    have := List.eq_of_mem_replicate (List.mem_of_getElem? ht)
    subst this
    exact absurd hp (by decide)
  refine ⟨fun x hx => ?_, fun n hn => absurd hn (hno n), fun n a c hl => (by cases hl), fun _ _ => rfl⟩
  rw [List.eq_of_mem_replicate hx]
  decide
end
end Go.Proofs.YtajilfnceoeaiaaGreat.V
/- WholeAdmits, plain: the load of the same tasks in whatever order; who is there; what an admission answers. -/
namespace Go.Proofs.YtajilfnceoeaiaaGreat.V
open Go Go.RowKit Enc
set_option maxRecDepth 100000
/-! ### the load -/
def normA (x : ATask) : ATask := ⟨⟨x.t.period, x.t.cycles, ⟨none, 0, 0⟩, ⟨none, 0, 0⟩⟩, x.sec, x.devs⟩
theorem normA_same {x y : ATask} (h : SameA x y) : normA x = normA y := by
  obtain ⟨h1, h2, h3, h4⟩ := h
  unfold normA
  rw [h1, h2, h3, h4]
theorem ceilZ_norm (l : List ATask) : ceilZ (l.map normA) = ceilZ l := by
  funext s
  unfold ceilZ
  rw [List.foldl_map]
  rfl
theorem longOne_norm (l : List ATask) (p : Int) (x : ATask) (a : Int) (n : Nat) : longOne (l.map normA) p (normA x) a n = longOne l p x a n := by
  unfold longOne
  rw [ceilZ_norm]
  rfl
theorem longZ_norm (l : List ATask) (p : Int) : longZ (l.map normA) p = longZ l p := by
  unfold longZ
  rw [List.foldl_map]
  simp only [longOne_norm]
  rfl
theorem blockZ_norm (m : Mach) (l : List ATask) (p : Int) : blockZ m (l.map normA) p = blockZ m l p := by
  unfold blockZ
  rw [longZ_norm]
theorem reserveZ_norm (m : Mach) (l : List ATask) : reserveZ m (l.map normA) = reserveZ m l := by
  unfold reserveZ
  rw [List.foldl_map]
  simp only [blockZ_norm]
  rfl
theorem loadZ_norm (m : Mach) (l : List ATask) (n : Int) : loadZ m (l.map normA) n = loadZ m l n := by
  unfold loadZ
  rw [List.foldl_map, reserveZ_norm]
  rfl
def mxx (a v : Int) : Int := if v > a then v else a
theorem mxx_comm (a u v : Int) : mxx (mxx a u) v = mxx (mxx a v) u := by
  unfold mxx
  by_cases h1 : u > a <;> by_cases h2 : v > a <;> by_cases h3 : v > u <;> by_cases h4 : u > v <;> simp [h1, h2, h3, h4] <;> omega
def mnn (a v : Int) : Int := if v < a then v else a
theorem mnn_comm (a u v : Int) : mnn (mnn a u) v = mnn (mnn a v) u := by
  unfold mnn
  by_cases h1 : u < a <;> by_cases h2 : v < a <;> by_cases h3 : v < u <;> by_cases h4 : u < v <;> simp [h1, h2, h3, h4] <;> omega
theorem ceilZ_perm {l l' : List ATask} (h : l.Perm l') : ceilZ l = ceilZ l' := by
  funext s
  unfold ceilZ
  refine h.foldl_eq' (fun x _ y _ z => ?_) _
  show (if usesZ y s then mnn (if usesZ x s then mnn z x.t.period else z) y.t.period else (if usesZ x s then mnn z x.t.period else z)) = (if usesZ x s then mnn (if usesZ y s then mnn z y.t.period else z) x.t.period else (if usesZ y s then mnn z y.t.period else z))
  cases usesZ x s <;> cases usesZ y s <;> simp [mnn_comm]
theorem longOne_perm {l l' : List ATask} (h : l.Perm l') (p : Int) (x : ATask) (a : Int) (n : Nat) : longOne l p x a n = longOne l' p x a n := by
  unfold longOne
  rw [ceilZ_perm h]
theorem fold_comm {f : Int → Nat → Int} {g : Int → Int} (h : ∀ a s, f (g a) s = g (f a s)) : ∀ (L : List Nat) (a : Int), L.foldl f (g a) = g (L.foldl f a)
  | [], _ => rfl
  | s :: L, a => by
    rw [List.foldl_cons, List.foldl_cons, h, fold_comm h L]
def longStep (l : List ATask) (period : Int) (x : ATask) (a : Int) (s : Nat) : Int := if x.t.period > period ∧ usesZ x s = true ∧ ceilZ l s ≤ period then mxx a (x.sec.getD s 0) else a
theorem longStep_comm (l : List ATask) (p : Int) (x y : ATask) (a : Int) (s t : Nat) : longStep l p x (longStep l p y a t) s = longStep l p y (longStep l p x a s) t := by
  unfold longStep
  by_cases h1 : x.t.period > p ∧ usesZ x s = true ∧ ceilZ l s ≤ p
  · rw [if_pos h1, if_pos h1]
    by_cases h2 : y.t.period > p ∧ usesZ y t = true ∧ ceilZ l t ≤ p
    · rw [if_pos h2, if_pos h2]
      exact mxx_comm _ _ _
    · rw [if_neg h2, if_neg h2]
  · rw [if_neg h1, if_neg h1]
theorem longOne_comm (l : List ATask) (p : Int) (x y : ATask) (a : Int) (n k : Nat) : longOne l p x (longOne l p y a k) n = longOne l p y (longOne l p x a n) k := by
  have e : ∀ (x : ATask) (a : Int) (n : Nat), longOne l p x a n = (List.range n).foldl (longStep l p x) a := fun _ _ _ => rfl
  simp only [e]
  exact fold_comm (f := longStep l p x) (g := fun a => (List.range k).foldl (longStep l p y) a) (fun a s => (fold_comm (f := longStep l p y) (g := fun a => longStep l p x a s) (fun a t => longStep_comm l p y x a t s) (List.range k) a).symm) (List.range n) a
theorem longZ_perm {l l' : List ATask} (h : l.Perm l') (p : Int) : longZ l p = longZ l' p := by
  have e : longZ l' p = l'.foldl (fun a x => longOne l p x a x.sec.length) 0 := by
    unfold longZ
    simp only [longOne_perm h]
  rw [e]
  exact h.foldl_eq' (fun x _ y _ z => longOne_comm l p y x z _ _) _
theorem blockZ_perm {l l' : List ATask} (m : Mach) (h : l.Perm l') (p : Int) : blockZ m l p = blockZ m l' p := by
  unfold blockZ
  rw [longZ_perm h]
theorem reserveZ_perm {l l' : List ATask} (m : Mach) (h : l.Perm l') : reserveZ m l = reserveZ m l' := by
  unfold reserveZ
  simp only [blockZ_perm m h]
  exact h.foldl_eq' (fun x _ y _ z => mxx_comm z _ _) _
theorem wz_add (a b : Int) : wz (wz a + b) = wz (a + b) := by
  simp only [IntKind.wrap, IntKind.bits, IntKind.signed]
  first | omega | (simp; omega)
theorem loadZ_perm {l l' : List ATask} (m : Mach) (h : l.Perm l') (n : Int) : loadZ m l n = loadZ m l' n := by
  unfold loadZ
  rw [reserveZ_perm m h]
  refine h.foldl_eq' (fun x _ y _ z => ?_) _
  show wz (wz (z + partZ m x n) + partZ m y n) = wz (wz (z + partZ m y n) + partZ m x n)
  rw [wz_add, wz_add]
  congr 1
  omega
theorem loadZ_same {l l' : List ATask} (m : Mach) (n : Int) (h : (l.map normA).Perm (l'.map normA)) : loadZ m l n = loadZ m l' n := by
  rw [← loadZ_norm m l, ← loadZ_norm m l', loadZ_perm m h]
theorem norm_same {T T' : List ATask} (hl : T'.length = T.length) (h : ∀ (i : Nat) (y z : ATask), T'[i]? = some y → T[i]? = some z → SameA y z) : T'.map normA = T.map normA := by
  refine List.ext_getElem? fun i => ?_
  rw [List.getElem?_map, List.getElem?_map]
  by_cases hi : i < T.length
  · rw [List.getElem?_eq_getElem hi, List.getElem?_eq_getElem (by omega : i < T'.length)]
    show some _ = some _
    rw [normA_same (h i _ _ (List.getElem?_eq_getElem (by omega)) (List.getElem?_eq_getElem hi))]
  · rw [List.getElem?_eq_none (by omega), List.getElem?_eq_none (by omega)]
theorem there_norm (T : List ATask) : (thereZ T).map normA = thereZ (T.map normA) := by
  unfold thereZ
  rw [List.filter_map]
  rfl
theorem there_same {T T' : List ATask} (h : T'.map normA = T.map normA) : (thereZ T').map normA = (thereZ T).map normA := by
  rw [there_norm, there_norm, h]
/-! ### who is there -/
/-- Who has something to come is there. -/
def LatI (s : KS) : Prop := ∀ n x, s.lat n = some x → hasZ s n
section
variable {m : Mach} {A B : Nat} {s s' : KS}
theorem LatI.eq (h : LatI s) (eT : s'.T = s.T) (el : ∀ n x, s'.lat n = some x → s.lat n = some x) : LatI s' := fun n x hx => by
  have := h n x (el n x hx)
  unfold hasZ at this ⊢
  rw [eT]
  exact this
/-- What a boundary leaves. -/
def Stays (s s' : KS) : Prop := s'.T = s.T ∧ (∀ n x, s'.lat n = some x → s.lat n = some x) ∧ ∀ k : Nat, s.lat k = none → s'.N[k]? = s.N[k]?
theorem Stays.refl : Stays s s := ⟨rfl, fun _ _ h => h, fun _ _ => rfl⟩
theorem Stays.rel {s0 : KS} (iv : KInv m A B s) (h : Stays s0 s) (hr : RelOne s s') : Stays s0 s' := by
  obtain ⟨n, at_, cyc, t, hl, _, _, _, rfl⟩ := hr
  obtain ⟨h1, h2, h3⟩ := h
  obtain ⟨n0, n6⟩ := iv.lat n _ hl
  refine ⟨h1, fun k x hk => ?_, fun k hk => ?_⟩
  · have hk : upd s.lat n none k = some x := hk
    by_cases e : k = n
    · subst e
      rw [upd, if_pos rfl] at hk
      cases hk
    · rw [upd, if_neg e] at hk
      exact h2 k x hk
  · have hne : n.toNat ≠ k := fun e => by
      have hnk : n = (k : Int) := by omega
      have := h2 n _ hl
      rw [hnk, hk] at this
      cases this
    show (s.N.set n.toNat _)[k]? = _
    rw [List.getElem?_set_ne hne]
    exact h3 k hk
theorem Stays.exp {s0 : KS} (h : Stays s0 s) (hr : ExpOne s s') : Stays s0 s' := by
  obtain ⟨id, at_, ev, _, _, _, rfl⟩ := hr
  exact h
theorem BoundR.kept (iv : KInv m A B s) (hr : BoundR m s s') : Stays s s' := by
  obtain ⟨s1, s2, h1, _, h2, _, D', X, rfl, _⟩ := hr
  have i1 := (Star.keep (I := fun s1 => KInv m A B s1 ∧ Stays s s1) (fun _ _ r i => ⟨(r.inv i.1).1, i.2.rel i.1 r⟩) h1 ⟨iv, .refl⟩).2
  have i2 := Star.keep (I := Stays s) (fun _ _ r i => i.exp r) h2 i1
  exact i2
theorem LatI.bound (iv : KInv m A B s) (h : LatI s) (hr : BoundR m s s') : LatI s' := by
  obtain ⟨h1, h2, _⟩ := hr.kept iv
  exact h.eq h1 h2
theorem LatI.step (iv : KInv m A B s) (hn : s.now < 16384) (h : LatI s) (hr : StepR m s s') : LatI s' := by
  have hf := StepR.frame iv hn hr
  exact h.eq hf.T fun n x hx => by rw [← hf.lat]; exact hx
theorem LatI.tick (iv : KInv m A B s) (h : LatI s) {a e : Int} (hr : TickR m s a e s') : LatI s' :=
  hr.keep (fun _ _ iv hn r i => i.step iv hn r) (fun _ _ iv r i => i.bound iv r) iv h
theorem free_not {i : Nat} {y : ATask} (hy : s.T[i]? = some y) (hy0 : y.t.period = 0) (n : Int) (hni : n.toNat = i) : ¬ hasZ s n := by
  rintro ⟨_, t, ht, hp⟩
  rw [hni, hy] at ht
  cases ht
  omega
theorem LatI.one (iv : KInv m A B s) (h : LatI s) {x : ASt} {n e : Int} (hr : OneR m s x n e s') : LatI s' := by
  rcases hr with ⟨hk, hr⟩ | ⟨hk, _, hr⟩ | ⟨hk, _, hr⟩ | ⟨hk, _, hr⟩ | ⟨hk, _, hr⟩ | ⟨hk, _, hr⟩ | ⟨hk, _, hr⟩ | ⟨hk, _, _, rfl⟩
  · rcases hr with ⟨_, _, _, rfl⟩ | ⟨hck, ⟨_, _, _, rfl⟩ | ⟨_, ⟨_, _, _, rfl⟩ | ⟨_, ⟨_, _, _, rfl⟩ | ⟨_, _, i, y, z, r, s1, _, hy, hy0, _, ⟨D1, rfl, _, hr0, _⟩, z1, z2, z3, z4, rfl⟩⟩⟩⟩
    · exact h
    · exact h
    · exact h
    · exact h
    · intro n c hl
      have hz := h n c hl
      have hni : n.toNat ≠ i := fun e => free_not hy hy0 n e hz
      obtain ⟨h0, t, ht, hp⟩ := hz
      refine ⟨h0, t, ?_, hp⟩
      show (s.T.set i z)[n.toNat]? = some t
      rw [List.getElem?_set_ne (Ne.symm hni)]
      exact ht
  · rcases hr with ⟨rfl, _⟩ | ⟨hz, _, hl, _, _, rfl⟩
    · exact h
    · intro k c hlk
      have hzk := h k c hlk
      have hne : k ≠ x.a := fun e => by
        have hlk : s.lat k = some c := hlk
        rw [e, hl] at hlk
        cases hlk
      obtain ⟨h0, t, ht, hp⟩ := hzk
      have hx0 := hz.1
      refine ⟨h0, t, ?_, hp⟩
      show (s.T.set x.a.toNat noTask)[k.toNat]? = some t
      rw [List.getElem?_set_ne (by omega)]
      exact ht
  · rcases hr with ⟨_, rfl⟩ | ⟨hz, _, _, _, _, _, _, _, rfl⟩
    · exact h
    · intro k c hlk
      by_cases e : k = x.a
      · subst e; exact hz
      · have hlk : upd s.lat x.a _ k = some c := hlk
        rw [upd, if_neg e] at hlk
        exact h k c hlk
  · exact h.tick iv hr
  · rcases hr with ⟨rfl, _⟩ | ⟨_, n, L, _, _, _, _, t, _, _, _, hr⟩
    · exact h
    · rcases hr with ⟨_, i, _, rfl⟩ | ⟨_, _, c, _, rfl⟩ <;> exact h
  · rcases hr with ⟨_, _, rfl⟩ | ⟨_, _, _, h0, h1, rfl⟩ <;> exact h
  · unfold TimerR at hr
    split at hr
    · rcases hr with ⟨_, _, rfl⟩ | ⟨_, _, rfl⟩ <;> exact h
    · rcases hr with ⟨_, _, rfl⟩ | ⟨_, _, _, _, _, _, _, rfl⟩ <;> exact h
  · exact h
theorem LatI.doR (h : LatI s) {x : ASt} {n e : Int} (iv : KInv m A B s) (hA : A + 1 ≤ 800000000) (hB : B + 70000 ≤ bigN) (hr : DoR m s x n e s') : LatI s' := by
  rcases hr with ⟨_, _, _, rfl⟩ | ⟨_, ⟨_, _, rfl⟩ | ⟨_, s1, h1, h2⟩⟩
  · exact h
  · exact h
  · exact (h.one iv h1).bound (h1.inv iv hA hB).1 h2
theorem LatI.s0 (m : Mach) : LatI (s0 m) := fun n x h => by cases h
/-! ### the answer -/
def admCode (m : Mach) (s : KS) (x : ATask) : Int :=
  if s.now ≥ m.p.horizon then 11 else if checkZ m x ≠ 0 then 3 else if s.held ≠ [] then 8 else if ¬ s.places < 6 then 4 else if loadZ m (thereZ s.T ++ [x]) 0 > 4294967296 then 5 else 0
theorem checkZ_or (m : Mach) (x : ATask) : checkZ m x = 0 ∨ checkZ m x = 3 := by
  unfold checkZ
  split
  · exact .inr rfl
  · exact .inl rfl
structure AdmR (s : KS) (x : ATask) (n : Int) (s' : KS) (i : Nat) (r : Int) : Prop where
  num : n = i
  free : ∃ y, s.T[i]? = some y ∧ y.t.period = 0
  least : ∀ (j : Nat) (u : ATask), j < i → s.T[j]? = some u → u.t.period ≠ 0
  has : hasZ s' n
  same : ∃ z, s'.T[i]? = some z ∧ SameA z x
  next : s'.N[i]? = some r
  now : s.now ≤ r
  dead : ∀ k y, s.jobs k = some y → y.deadline ≤ r
theorem DoR.adm (h : LatI s) {x : ASt} {n e : Int} (hk : x.kind = 1) (iv : KInv m A B s) (hA : A + 1 ≤ 800000000) (hB : B + 70000 ≤ bigN) (hr : DoR m s x n e s') :
    e = admCode m s x.t ∧ ((e ≠ 0 ∧ n = 0) ∨ (e = 0 ∧ ∃ i r, AdmR s x.t n s' i r)) := by
  have one : ∀ {n e : Int} {s1 : KS}, OneR m s x n e s1 → AdmitR m s x.t n e s1 := by
    intro n e s1 h1
    rcases h1 with ⟨_, h1⟩ | ⟨hk', _⟩ | ⟨hk', _⟩ | ⟨hk', _⟩ | ⟨hk', _⟩ | ⟨hk', _⟩ | ⟨hk', _⟩ | ⟨hk', _⟩
    · exact h1
    all_goals omega
  rcases hr with ⟨h1, rfl, rfl, rfl⟩ | ⟨hlt, ⟨he, h1, rfl⟩ | ⟨rfl, s1, h1, h2⟩⟩
  · exact ⟨by rw [admCode, if_pos h1], .inl ⟨by decide, rfl⟩⟩
  · have hnl : ¬ s'.now ≥ m.p.horizon := by omega
    rcases one h1 with ⟨rfl, rfl, hc, _⟩ | ⟨hck, ⟨rfl, rfl, hh, _⟩ | ⟨hh, ⟨rfl, rfl, hp, _⟩ | ⟨hp, ⟨rfl, rfl, hl, _⟩ | ⟨e0, _⟩⟩⟩⟩
    · refine ⟨?_, .inl ⟨he, rfl⟩⟩
      rw [admCode, if_neg hnl, if_pos hc]
      exact (checkZ_or m x.t).resolve_left hc
    · refine ⟨?_, .inl ⟨he, rfl⟩⟩
      rw [admCode, if_neg hnl, if_neg (fun h => h hck), if_pos hh]
    · refine ⟨?_, .inl ⟨he, rfl⟩⟩
      rw [admCode, if_neg hnl, if_neg (fun h => h hck), if_neg (fun h => h hh), if_pos hp]
    · refine ⟨?_, .inl ⟨he, rfl⟩⟩
      rw [admCode, if_neg hnl, if_neg (fun h => h hck), if_neg (fun h => h hh), if_neg (fun h => h hp), if_pos (by omega)]
    · exact absurd e0 he
  · have hnl : ¬ s.now ≥ m.p.horizon := by omega
    rcases one h1 with ⟨_, e0, hc, _⟩ | ⟨hck, ⟨_, e0, _⟩ | ⟨hh, ⟨_, e0, _⟩ | ⟨hp, ⟨_, e0, _⟩ | ⟨_, hl, i, y, z, r, s2, hn, hy, hy0, hle, ⟨D1, rfl, _, hr0, hrd, _⟩, z1, z2, z3, z4, rfl⟩⟩⟩⟩
    · exact absurd e0.symm hc
    · cases e0
    · cases e0
    · cases e0
    · refine ⟨?_, .inr ⟨rfl, i, r, ?_⟩⟩
      · rw [admCode, if_neg hnl, if_neg (fun h => h hck), if_neg (fun h => h hh), if_neg (fun h => h hp), if_neg (by omega)]
      · have hi := lt_of_get hy
        have hN := iv.N
        have hT6 := iv.T
        obtain ⟨k1, _, k3⟩ := h2.kept (h1.inv iv hA hB).1
        have hli : s.lat (i : Int) = none := by
          cases hl : s.lat (i : Int) with
          | none => rfl
          | some c => exact absurd (h _ _ hl) (free_not hy hy0 _ (Int.toNat_natCast i))
        have hTi : s'.T[i]? = some z := by
          rw [k1]
          show (s.T.set i z)[i]? = some z
          rw [List.getElem?_set_self hi]
        have hNi : s'.N[i]? = some r := by
          rw [k3 i hli]
          show (s.N.set i r)[i]? = some r
          rw [List.getElem?_set_self (by omega)]
        have hper := (checkZ_zero hck).1
        refine ⟨hn, ⟨y, hy, hy0⟩, hle, ⟨by omega, z, ?_, by omega⟩, ⟨z, hTi, z1, z2, z3, z4⟩, hNi, hr0, hrd⟩
        rw [hn, Int.toNat_natCast]
        exact hTi
end
end Go.Proofs.YtajilfnceoeaiaaGreat.V
/- WholeAdmits: the function returns true. -/
namespace Go.Proofs.YtajilfnceoeaiaaGreat.V
open Go Go.RowKit Enc
set_option maxRecDepth 100000
/-- The least free number, from one on. -/
def Free (T : List ATask) (j : Nat) (n : Int) : Prop := ∀ (i : Nat) (y : ATask), T[i]? = some y → y.t.period = 0 → j ≤ i → (∀ (k : Nat) (u : ATask), j ≤ k → k < i → T[k]? = some u → u.t.period ≠ 0) → n = i
def admTail (p12 : Option Addr) (a2 : Addr) (n57 n58 : Int) (s59 s60 : Sl) (s39 : Sl) (n40 n42 code : Int) (K : Bool → World → Prop) (w : World) : Prop :=
 Call P 13 [.pointer p12, .agg #[.int .i64 1, .int .i64 0, .int .i64 0, .int .i64 0, .int .i64 n57, .int .i64 n58, .slice s59.a s59.n s59.c, .slice s60.a s60.n s60.c]] [sI, sI] (fun n61 n62 w =>
 If (n62 != code) (
 Call P 15 [] [sB] (fun b63 w =>
 If b63 (
 If (n62 == code) (
 K (n61 == 0) w) (
 K false w)) (
 K false w)) w) (
 If (n62 != 0) (
 Call P 15 [] [sB] (fun b64 w =>
 If b64 (
 If (n62 == code) (
 K (n61 == 0) w) (
 K false w)) (
 K false w)) w) (
 ∃ (I66 : Int → World → Prop) (M67 : Int → World → Nat), I66 0 w ∧ ∀ (n65 : Int) (v68 : World), I66 n65 v68 → ∀ _ : Nat → Value,
 (fun w : World =>
 If (decide (n65 < ((s39.n : Nat) : Int))) (
 (fun w : World =>
 ((0 : Int) ≤ n65 ∧ n65 < ((s39.n : Nat) : Int)) ∧ WithAddr s39.a fun a69 =>
 Ld (.ki .i64) ((a69.add (Int.toNat n65 * 6)).add 2) (fun n70 w =>
 Call P 32 [.pointer p12, .int .i64 n61] [sI] (fun n71 w =>
 (w.cell? (((a69.add (Int.toNat n65 * 6)).add 2).add 0) = some (.int .i64 n70)) ∧ If (decide (n71 < n70)) (
 K false w) (
 I66 (IntKind.wrap .i64 (n65 + 1)) w ∧ M67 (IntKind.wrap .i64 (n65 + 1)) w < M67 n65 v68)) w) w) w.drew) (
 Call P 19 [.pointer p12] [sS] (fun s72 w =>
 (fun w : World =>
 Call P 15 [] [sB] (fun b73 w =>
 If b73 (
 If (n61 == n42) (
 Call P 32 [.pointer p12, .int .i64 n61] [sI] (fun n74 w =>
 If (decide (n74 ≥ n40)) (
 If (decide (n61 < ((s72.n : Nat) : Int))) (
 ((0 : Int) ≤ n61 ∧ n61 < ((s72.n : Nat) : Int)) ∧ WithAddr s72.a fun a75 =>
 LdN shTask.cs 0 (a75.add (Int.toNat n61 * 4)) (fun n76 n77 s78 s79 w =>
 LdN shTask.cs 0 a2 (fun n80 n81 s82 s83 w =>
 Call P 33 [.agg #[.int .i64 n76, .int .i64 n77, .slice s78.a s78.n s78.c, .slice s79.a s79.n s79.c], .agg #[.int .i64 n80, .int .i64 n81, .slice s82.a s82.n s82.c, .slice s83.a s83.n s83.c]] [sB] (fun b84 w =>
 K b84 w) w) w) w) (
 K false w)) (
 K false w)) w) (
 K false w)) (
 K false w)) w) w.drew) w)) v68))) w
section
variable {o : Own} {w : World} {m : Mach} {a : Nat} {q : KPtr} {s : KS} {A B : Nat}
theorem admTail_of (h : KRep o w m a q s) (iv : KInv m A B s) (hA : A + 1 ≤ 800000000) (hB : B + 70000 ≤ bigN) (li : LatI s) {x : ATask} (hx : TaskR o w x) {b2 : Nat} (k2 : Blk o w 0 b2 (.cells x.t.l.toArray 37 (0, 0)))
    {sj : Sl} {L : List Job} (hj : RL o w 0 sj L) (hL : ListOf s.jobs L) {free code : Int} (hf : Free s.T 0 free) (hc : code = admCode m s x) {K : Bool → World → Prop} (hK : ∀ w', (∃ o', Up kl o w o' w') → K true w') :
    admTail (some ⟨a, 0, none⟩) ⟨b2, 0, none⟩ x.t.period x.t.cycles x.t.sec x.t.devs sj s.now free code K w := by
  have hd := do_spec h iv hA hB ⟨1, 0, 0, 0, x⟩ hx
  refine hd.imp2 ?_
  rintro n e w1 ⟨s1, d1, iv1, q1, o1, h1, u1⟩
  obtain ⟨he, hcase⟩ := d1.adm li rfl iv hA hB
  have he : e = code := by rw [hc]; exact he
  have hx := hx.up u1 kl0
  have k2 := k2.up u1 kl0
  have hj := hj.up u1 kl0
  refine If_ne (fun hne => absurd he hne) fun _ => ?_
  refine If_ne (fun hne => ?_) fun h0 => ?_
  · have hn0 : n = 0 := by
      rcases hcase with ⟨_, hn⟩ | ⟨h0, _⟩
      · exact hn
      · exact absurd h0 hne
    have ha := answers_below w1
    refine ha.imp1 ?_
    rintro b w2 ⟨rfl, u2⟩
    refine If_t (If_eq (fun _ => ?_) fun h => absurd he h)
    rw [hn0]
    exact hK w2 ⟨o1, u1.trans (Up.of_below u2)⟩
  · obtain ⟨i, r, ad⟩ : ∃ i r, AdmR s x n s1 i r := by
      rcases hcase with ⟨hne, _⟩ | ⟨_, h⟩
      · exact absurd h0 hne
      · exact h
    have hsn := hj.n
    have hNT : s1.N.length = s1.T.length := by rw [iv1.N, iv1.T]
    have hnext : ∀ r', nextZ s1 n r' → r' = r := fun r' h => by
      have := h.1 ad.has
      rw [ad.num, Int.toNat_natCast, ad.next] at this
      exact (Option.some.inj this).symm
    refine ⟨fun j w' => ∃ (k : Nat) (o' : Own), j = k ∧ k ≤ L.length ∧ KRep o' w' m a q1 s1 ∧ RL o' w' 0 sj L ∧ TaskR o' w' x ∧ Blk o' w' 0 b2 (.cells x.t.l.toArray 37 (0, 0)) ∧ Up kl o w o' w', fun j _ => L.length - j.toNat, ⟨0, o1, rfl, Nat.zero_le _, h1, hj, hx, k2, u1⟩, ?_⟩
    rintro _ v ⟨k, o2, rfl, hk, h2, hj, hx, k2, U⟩ _
    refine If_d (fun hlt => ?_) fun hlt => ?_
    · have hkl : k < L.length := by omega
      obtain ⟨y, hy⟩ : ∃ y, L[k]? = some y := ⟨_, List.getElem?_eq_getElem hkl⟩
      have hyj := (hL.iff y).1 (List.mem_of_getElem? hy)
      have ud : Up no o2 v o2 v.drew := .drew
      have h2 := h2.upno ud
      have hj := hj.up ud rfl
      have hx := hx.up ud rfl
      have k2 := k2.up ud rfl
      have U := U.trans ud.of_no
      have hlm := hj.max
      refine RL.at' hj (k := k) (x := y) rfl hy fun bd fd had hbd => ?_
      have hadr : (⟨bd, fd, none⟩ : Addr).add (Int.toNat (k : Int) * 6) = ⟨bd, fd + k * 6, none⟩ := by rw [Addr.add_mk, Int.toNat_natCast]
      have hbd : Bx v.drew bd (fd + k * 6) (enc y) := hbd
      rw [hadr]
      refine hbd.ldo (f := 2) (c := .ki .i64) (x := y.deadline) rfl ?_
      have hne := next_spec h2 hNT n
      refine hne.imp1 ?_
      rintro r' w3 ⟨hr', rfl⟩
      have hr' := hnext r' hr'
      subst hr'
      have hdd := ad.dead _ _ hyj
      refine ⟨hbd.geto0 (f := 2) rfl, If_d (fun hlt => absurd hdd (Int.not_le.2 hlt)) fun _ => ?_⟩
      rw [wz1 hkl (hsn ▸ hlm)]
      exact ⟨⟨k + 1, o2, rfl, hkl, h2, hj, hx, k2, U⟩, by simp; omega⟩
    · have hts := tasks_spec 64 (by decide) h2 (by rw [iv1.T]; decide) (fun x hx => by have := iv1.sec x hx; omega)
      refine hts.imp1 ?_
      rintro sT w3 ⟨T, o3, hT, hTl, hsame, u3⟩
      have h3 := h2.up60 (u3.l6 (by decide))
      have hx := hx.up u3 rfl
      have k2 := k2.up u3 rfl
      have U := U.trans ((u3.l6 (by decide)).mono fun d hd => by simp [kl] at hd; exact hd.2)
      have ud : Up no o3 w3 o3 w3.drew := .drew
      have h3 := h3.upno ud
      have hx := hx.up ud rfl
      have k2 := k2.up ud rfl
      have hT := hT.up ud rfl rfl
      have U := U.trans ud.of_no
      have ha := answers_below w3.drew
      refine ha.imp1 ?_
      rintro b w4 ⟨rfl, u4⟩
      have u4 : Up no o3 w3.drew o3 w4 := Up.of_below u4
      have h3 := h3.upno u4
      have hx := hx.up u4 rfl
      have k2 := k2.up u4 rfl
      have hT := hT.up u4 rfl rfl
      have U := U.trans u4.of_no
      obtain ⟨y, hy, hy0⟩ := ad.free
      have hfree : free = i := hf i y hy hy0 (Nat.zero_le _) fun k u _ hk hu => ad.least k u hk hu
      refine If_t (If_eq (fun _ => ?_) fun hne => absurd (by rw [hfree]; exact ad.num) hne)
      have hne := next_spec h3 hNT n
      refine hne.imp1 ?_
      rintro r' w5 ⟨hr', rfl⟩
      have hr' := hnext r' hr'
      subst hr'
      obtain ⟨z, hz, hzx⟩ := ad.same
      have hi := lt_of_get hz
      have hTn := hT.rl.n
      rw [List.length_map] at hTn
      have hnum := ad.num
      refine If_d (fun _ => ?_) fun hlt => absurd ad.now hlt
      have hnlt : n < ((sT.n : Nat) : Int) := by rw [hnum, hTn, hTl]; exact Int.ofNat_lt.2 hi
      refine If_d (fun _ => ?_) fun hlt => absurd hnlt hlt
      have hiT : i < T.length := by omega
      obtain ⟨y', hy'⟩ : ∃ y', T[i]? = some y' := ⟨_, List.getElem?_eq_getElem hiT⟩
      have hsy := hsame i y' z hy' hz
      refine hT.rl.task (x := y'.t) hnum (by rw [List.getElem?_map, hy']; rfl) ?_
      refine k2.bx.ldTask (x := x.t) ?_
      have hrs := rsame_spec y' x (hT.each _ (List.mem_of_getElem? hy')) hx ⟨hsy.1.trans hzx.1, hsy.2.1.trans hzx.2.1, hsy.2.2.1.trans hzx.2.2.1, hsy.2.2.2.trans hzx.2.2.2⟩
      refine hrs.imp1 ?_
      rintro b w6 ⟨u6, rfl⟩
      exact hK w6 ⟨o3, U.trans (Up.of_below u6)⟩
end
theorem Free.end_ {T : List ATask} {n : Int} : Free T T.length n := fun i y hy _ hj => by
  have := lt_of_get hy
  omega
theorem Free.busy {T : List ATask} {j : Nat} {n : Int} {y : ATask} (h : Free T (j + 1) n) (hy : T[j]? = some y) (hp : y.t.period ≠ 0) : Free T j n := fun i z hz hz0 hji hle => by
  have hne : i ≠ j := fun e => by
    subst e
    rw [hy] at hz
    cases hz
    exact hp hz0
  exact h i z hz hz0 (by omega) fun k u hk hki hu => hle k u (by omega) hki hu
theorem Free.free {T : List ATask} {j : Nat} {y : ATask} (hy : T[j]? = some y) (hp : y.t.period = 0) : Free T j j := fun i z hz hz0 hji hle => by
  by_cases e : i = j
  · rw [e]
  · exact absurd hp (hle j y (Nat.le_refl _) (by omega) hy)
theorem Free.same {T T' : List ATask} (hl : T'.length = T.length) (hs : ∀ (i : Nat) (y z : ATask), T'[i]? = some y → T[i]? = some z → SameA y z) {n : Int} (h : Free T' 0 n) : Free T 0 n := fun i z hz hz0 h0 hle => by
  have hi := lt_of_get hz
  obtain ⟨y, hy⟩ : ∃ y, T'[i]? = some y := ⟨_, List.getElem?_eq_getElem (by omega)⟩
  have hyz := hs i y z hy hz
  refine h i y hy (hyz.1.trans hz0) h0 fun k u hk hki hu => ?_
  obtain ⟨v, hv⟩ : ∃ v, T[k]? = some v := ⟨_, List.getElem?_eq_getElem (by omega)⟩
  have huv := hs k u v hu hv
  rw [huv.1]
  exact hle k v hk hki hv
theorem there_cons {T : List ATask} {j : Nat} {y : ATask} (hy : T[j]? = some y) : thereZ (T.drop j) = if y.t.period = 0 then thereZ (T.drop (j + 1)) else y :: thereZ (T.drop (j + 1)) := by
  have hj := lt_of_get hy
  rw [List.drop_eq_getElem_cons hj]
  have : T[j] = y := by rw [List.getElem?_eq_getElem hj] at hy; exact Option.some.inj hy
  rw [this]
  unfold thereZ
  rw [List.filter_cons]
  by_cases h : y.t.period = 0
  · simp [h]
  · simp [h]
/-- Behind the script: what is looked at. -/
structure AdL (o0 : Own) (w0 : World) (m m' : Mach) (a : Nat) (q : KPtr) (s : KS) (x : ATask) (b1 b2 : Nat) (sj sT : Sl) (L : List Job) (T : List ATask) (o : Own) (w : World) : Prop where
  h : KRep o w m' a q s
  hm : MachR o w m
  hx : TaskR o w x
  k1 : Blk o w 0 b1 (.cells m.p.l.toArray 26 (0, 0))
  k2 : Blk o w 0 b2 (.cells x.t.l.toArray 37 (0, 0))
  hj : RL o w 0 sj L
  hT : TasksR o w 63 sT T
  U : Up kl o0 w0 o w
section
variable {o o' o0 : Own} {w w' w0 : World} {m m' : Mach} {a : Nat} {q : KPtr} {s : KS} {x : ATask} {b1 b2 : Nat} {sj sT : Sl} {L : List Job} {T : List ATask}
theorem AdL.upno (h : AdL o0 w0 m m' a q s x b1 b2 sj sT L T o w) (u : Up no o w o' w') : AdL o0 w0 m m' a q s x b1 b2 sj sT L T o' w' :=
  ⟨h.h.upno u, h.hm.up u rfl, h.hx.up u rfl, h.k1.up u rfl, h.k2.up u rfl, h.hj.up u rfl, h.hT.up u rfl rfl, h.U.trans u.of_no⟩
theorem AdL.up62 (h : AdL o0 w0 m m' a q s x b1 b2 sj sT L T o w) (u : Up (only [62]) o w o' w') : AdL o0 w0 m m' a q s x b1 b2 sj sT L T o' w' :=
  ⟨h.h.up60 (u.l6 (by decide)), h.hm.up u rfl, h.hx.up u rfl, h.k1.up u rfl, h.k2.up u rfl, h.hj.up u rfl, h.hT.up u rfl rfl, h.U.trans ((u.l6 (by decide)).mono fun d hd => by simp [kl] at hd; exact hd.2)⟩
end
theorem admits_spec {o : Own} {w : World} {m : Mach} {st : Sl} {l : List ASt} {x : ATask} (hm : MachR o w m) (hs : StepsR o w st l) (hx : TaskR o w x) (hl : l.length ≤ 1048576) : Call P 10 [m.p.v, vS st, x.t.v] [sB] (fun b w' => b = true ∧ ∃ o', Up kl o w o' w') w := by
  have hn := hs.n
  refine f10_of _ _ _ (New_blk o 0 fun b1 o1 w1 k1 u1 _ => New_blk o1 0 fun b2 o2 w2 k2 u2 _ => ?_)
  have u1 : Up no o w o2 w2 := u1.trans u2
  have k1 := k1.up u2 rfl
  refine k1.bx.ldPlat (x := m.p) ?_
  have hm := hm.up u1 rfl
  have hs := hs.up u1 rfl
  have hx := hx.up u1 rfl
  have hbt := boot_law hm
  refine hbt.imp1 ?_
  rintro pk w3 (⟨t, a, q, x1, y1, z1, o3, rfl, L⟩ | ⟨nt, rfl, u3⟩)
  rotate_left
  · refine If_t ((k1.bx.below u3).ldPlat (x := m.p) ?_)
    have hno := none_spec (hm.below u3) nt
    refine hno.imp1 ?_
    rintro b w4 ⟨rfl, o4, u4⟩
    exact ⟨rfl, o4, (u1.of_no.trans (Up.of_below u3)).trans u4⟩
  have hs := hs.up L.U kl0
  have hm := hm.up L.U kl0
  have hx := hx.up L.U kl0
  have k1 := k1.up L.U kl0
  have k2 := k2.up L.U kl0
  have hcz : ∀ y, checkZ (V.pl m x1 y1 z1) y = checkZ m y := fun _ => rfl
  have hlz : ∀ l n, loadZ (V.pl m x1 y1 z1) l n = loadZ m l n := fun _ _ => rfl
  have hhz : (V.pl m x1 y1 z1).p.horizon = m.p.horizon := rfl
  have hcr : CritOk m := ⟨L.iv.crit.lo, L.iv.crit.hi⟩
  generalize V.pl m x1 y1 z1 = m' at L hcz hlz hhz
  refine If_f ⟨fun n w' => ∃ k : Nat, n = k ∧ k ≤ l.length ∧ ∃ o' q' s, LawS o2 w2 m' a k o' w' q' s ∧ LatI s ∧ StepsR o' w' st l ∧ Blk o' w' 0 b1 (.cells m.p.l.toArray 26 (0, 0)) ∧ Blk o' w' 0 b2 (.cells x.t.l.toArray 37 (0, 0)) ∧ MachR o' w' m ∧ TaskR o' w' x, fun n _ => l.length - n.toNat, ⟨0, rfl, Nat.zero_le _, o3, q, _, L, LatI.s0 m', hs, k1, k2, hm, hx⟩, ?_⟩
  rintro n v ⟨kc, rfl, hk, o4, q4, s, L, li, hs, k1, k2, hm, hx⟩ _
  refine If_d (fun hlt => ?_) fun hlt => ?_
  · have hkl : kc < l.length := by omega
    have hxk : l[kc]? = some l[kc] := List.getElem?_eq_getElem hkl
    have htx := hs.each _ (List.getElem_mem hkl)
    generalize l[kc] = y at hxk htx
    have hme : l.length - Int.toNat ((kc : Int) + 1) < l.length - Int.toNat (kc : Int) := by omega
    rw [wz_id (x := (kc : Int) + 1) (by omega) (by omega)]
    refine hs.step rfl hxk ?_
    have hd := L.doo (by omega) y htx
    refine hd.imp2 ?_
    rintro n e w5 ⟨s5, d5, q5, o5, L5, u5⟩
    have li := li.doR L.iv (by omega) (by unfold budB bigN; omega) d5
    exact ⟨⟨kc + 1, by omega, by omega, o5, q5, s5, L5, li, hs.up u5 kl0, k1.up u5 kl0, k2.up u5 kl0, hm.up u5 kl0, hx.up u5 kl0⟩, hme⟩
  have iv := L.iv
  have hT6 := iv.T
  have hts := tasks_spec 63 (by decide) L.h (by rw [hT6]; decide) (fun x hx => by have := iv.sec x hx; omega)
  refine hts.imp1 ?_
  rintro sT w5 ⟨T, o5, hT, hTl, hsame, u5⟩
  have h5 := L.h.up60 (u5.l6 (by decide))
  have hm := hm.up u5 rfl
  have hx := hx.up u5 rfl
  have k1 := k1.up u5 rfl
  have k2 := k2.up u5 rfl
  have U := (u1.of_no.trans L.U).trans ((u5.l6 (by decide)).mono fun d hd => by simp [kl] at hd; exact hd.2)
  have hjs := jobs_spec h5
  refine hjs.imp1 ?_
  rintro sj w6 ⟨J, o6, hj, hJ, hJl, u6⟩
  have D : AdL o w m m' a q4 s x b1 b2 sj sT J T o6 w6 := ⟨h5.upno u6, hm.up u6 rfl, hx.up u6 rfl, k1.up u6 rfl, k2.up u6 rfl, hj, hT.up u6 rfl rfl, U.trans u6.of_no⟩
  have hno := now_spec D.h
  refine hno.imp1 ?_
  rintro r w7 ⟨rfl, rfl⟩
  have hTn := D.hT.rl.n
  rw [List.length_map] at hTn
  have hT6' : T.length = 6 := by omega
  have hwn : IntKind.wrap .i64 ((sT.n : Int) - 1) = 5 := by rw [hTn, hT6']; rfl
  rw [hwn]
  refine ⟨fun sl fr j w' => ∃ (k : Nat) (o' : Own), j = (k : Int) - 1 ∧ k ≤ 6 ∧ AdL o w m m' a q4 s x b1 b2 sj sT J T o' w' ∧ RowL o' w' 62 37 sl ((thereZ (T.drop k)).reverse.map ATask.t) ∧ (∀ y ∈ thereZ (T.drop k), TaskR o' w' y) ∧ Free T k fr, fun _ _ j _ => (j + 1).toNat, ⟨6, o6, rfl, Nat.le_refl _, D, ?_, ?_, ?_⟩, ?_⟩
  · rw [List.drop_eq_nil_of_le (by omega)]
    exact RowL.nil
  · rw [List.drop_eq_nil_of_le (by omega)]
    intro y hy
    cases hy
  · rw [← hT6']
    exact Free.end_
  rintro sl fr _ v ⟨k, o7, rfl, hk6, D, hr, htr, hfr⟩ _
  refine If_d (fun hge => ?_) fun hlt => ?_
  · obtain ⟨j, rfl⟩ : ∃ j, k = j + 1 := ⟨k - 1, by omega⟩
    have hij : ((j + 1 : Nat) : Int) - 1 = (j : Int) := by omega
    rw [hij]
    obtain ⟨y, hy⟩ : ∃ y, T[j]? = some y := ⟨_, List.getElem?_eq_getElem (by omega)⟩
    obtain ⟨z, hz⟩ : ∃ z, s.T[j]? = some z := ⟨_, List.getElem?_eq_getElem (by omega)⟩
    have hyz := hsame j y z hy hz
    have hper := iv.per z (List.mem_of_getElem? hz)
    have hyt : (T.map ATask.t)[j]? = some y.t := by rw [List.getElem?_map, hy]; rfl
    have hwj : IntKind.wrap .i64 ((j : Int) - 1) = (j : Int) - 1 := wz_id (by omega) (by omega)
    rw [hwj]
    have hme : Int.toNat ((j : Int) - 1 + 1) < Int.toNat ((j : Int) + 1) := by omega
    have htc := there_cons hy
    refine D.hT.rl.fld (f := 0) (e := .ki .i64) (y := y.t.period) rfl hyt rfl rfl ?_
    refine If_d (fun hp => ?_) fun hp => ?_
    · have hp0 : y.t.period ≠ 0 := by have hp : y.t.period > 0 := hp; omega
      rw [if_neg hp0] at htc
      refine D.hT.rl.task rfl hyt ?_
      refine New_blk o7 91 fun b8 o8 w8 k8 u8 _ => ?_
      have hlen : (thereZ (T.drop (j + 1))).length ≤ 6 := by unfold thereZ; exact Nat.le_trans (List.length_filter_le _ _) (by rw [List.length_drop]; omega)
      have hr := hr.up u8 rfl
      refine RowL.app (x := y.t) etTask 54 hr (k8.rd1 rfl) rfl (by simp; omega) (by unfold maxLen; simp; omega) fun s9 o9 w9 r9 u9 => ?_
      refine ⟨⟨j, o9, rfl, by omega, (D.upno u8).up62 u9, ?_, ?_, hfr.busy hy hp0⟩, hme⟩
      · rw [htc, List.reverse_cons, List.map_append]
        exact r9
      · rw [htc]
        intro u hu
        rcases List.mem_cons.1 hu with rfl | hu
        · exact ((D.hT.each _ (List.mem_of_getElem? hy)).up u8 rfl).up u9 rfl
        · exact ((htr u hu).up u8 rfl).up u9 rfl
    · have hp0 : y.t.period = 0 := by
        have hp : ¬ y.t.period > 0 := hp
        have := hyz.1
        omega
      rw [if_pos hp0] at htc
      rw [← htc] at hr htr
      exact ⟨⟨j, o7, rfl, by omega, D, hr, htr, Free.free hy hp0⟩, hme⟩
  have hk0 : k = 0 := by omega
  subst hk0
  rw [List.drop_zero] at hr htr
  have hf := hfr.same hTl hsame
  have hnT := norm_same hTl hsame
  have hth := there_same hnT
  have hlen : (thereZ T).length = s.places := by
    rw [iv.places, busy]
    have := congrArg List.length hth
    rwa [List.length_map, List.length_map] at this
  have hle6 : s.places ≤ 6 := by
    rw [iv.places, busy]
    unfold thereZ
    exact Nat.le_trans (List.length_filter_le _ _) (by omega)
  have tl : ∀ (o8 : Own) (w8 : World) (code : Int), AdL o w m m' a q4 s x b1 b2 sj sT J T o8 w8 → code = admCode m' s x → admTail (some ⟨a, 0, none⟩) ⟨b2, 0, none⟩ x.t.period x.t.cycles x.t.sec x.t.devs sj s.now fr code (fun b w' => b = true ∧ ∃ o', Up kl o w o' w') w8 :=
    fun o8 w8 code D hc => admTail_of D.h iv (by omega) (by unfold budB bigN; omega) li D.hx D.k2 D.hj hJ hf hc fun w' ⟨o', u⟩ => ⟨rfl, o', D.U.trans u⟩
  refine D.k1.bx.ld (x := m.p.horizon) rfl ?_
  refine If_d (fun hge => ?_) fun hlt' => ?_
  · refine D.k2.bx.ldTask (x := x.t) ?_
    exact tl o7 v 11 D (by rw [admCode, if_pos (by rw [hhz]; exact hge)])
  have hnl : ¬ s.now ≥ m'.p.horizon := by rw [hhz]; exact hlt'
  refine D.k1.bx.ldPlat (x := m.p) (D.k2.bx.ldTask (x := x.t) ?_)
  have hrt := rtask_spec m x D.hm D.hx
  refine hrt.imp1 ?_
  rintro b w8 ⟨u8, hb⟩
  have u8' : Up no o7 v o7 w8 := Up.of_below u8
  have D := D.upno u8'
  have hr := hr.up u8' rfl
  have htr := fun y hy => (htr y hy).up u8' rfl
  refine If_not (If_b (fun e => ?_) fun e => ?_)
  rotate_left
  · refine D.k2.bx.ldTask (x := x.t) ?_
    refine tl o7 w8 3 D ?_
    rw [admCode, if_neg hnl, if_pos (by rw [hcz]; intro h0; rw [hb.2 h0] at e; cases e)]
  have hck : checkZ m' x = 0 := by rw [hcz]; exact hb.1 e
  have hhe := heldv_spec D.h iv.heldl
  refine hhe.imp1 ?_
  rintro sH w9 ⟨o9, rH, u9⟩
  have D := D.upno u9
  have hr := hr.up u9 rfl
  have htr := fun y hy => (htr y hy).up u9 rfl
  have hHn := rH.n
  refine If_d (fun hgt => ?_) fun hgt => ?_
  · refine D.k2.bx.ldTask (x := x.t) ?_
    refine tl o9 w9 8 D ?_
    have hne : s.held ≠ [] := fun h => by
      have hgt : ((sH.n : Nat) : Int) > 0 := hgt
      rw [hHn, h] at hgt
      exact absurd hgt (by decide)
    rw [admCode, if_neg hnl, if_neg (fun h => h hck), if_pos hne]
  have hnil : ¬ s.held ≠ [] := fun h => by
    have hgt : ¬ ((sH.n : Nat) : Int) > 0 := hgt
    exact h (List.eq_nil_of_length_eq_zero (by omega))
  have hrn := hr.n
  rw [List.length_map, List.length_reverse, hlen] at hrn
  refine If_eq (fun e6 => ?_) fun e6 => ?_
  · refine D.k2.bx.ldTask (x := x.t) ?_
    refine tl o9 w9 4 D ?_
    have e6 : ((sl.n : Nat) : Int) = 6 := e6
    rw [admCode, if_neg hnl, if_neg (fun h => h hck), if_neg hnil, if_pos (by omega)]
  have e6 : ¬ ((sl.n : Nat) : Int) = 6 := e6
  have hpl : s.places < 6 := by omega
  have ud : Up no o9 w9 o9 w9.drew := .drew
  have D := D.upno ud
  have hr := hr.up ud rfl
  have htr := fun y hy => (htr y hy).up ud rfl
  refine D.k1.bx.ldPlat (x := m.p) (D.k2.bx.ldTask (x := x.t) ?_)
  refine New_blk o9 91 fun b10 o10 w10 k10 u10 _ => ?_
  have D := D.upno u10
  have hr := hr.up u10 rfl
  have htr := fun y hy => (htr y hy).up u10 rfl
  have k1 := D.k1
  refine ⟨by (repeat' (first | (apply Bx.get0f; apply Blk.bx; assumption; rfl) | (apply Bx.get0f; apply Blk.bx; apply KRep.b; assumption; rfl) | (apply Bx.get0f; assumption; rfl) | (apply Bx.get00; apply Blk.bx; apply KRep.b; assumption; rfl) | (apply Bx.get0; apply Blk.bx; apply KRep.b; assumption; rfl) | (apply Bx.get00; apply Blk.bx; assumption; rfl) | (apply Bx.get00; assumption; rfl) | (apply Bx.getAt; assumption; rfl) | (apply Bx.get0; assumption; rfl) | (apply Bx.get; assumption; rfl) | (apply Bx.get0; apply Blk.bx; assumption; rfl) | (apply Bx.get; apply Blk.bx; assumption; rfl) | apply And.intro)), RowL.app (x := x.t) etTask 54 hr (k10.rd1 rfl) rfl (by simp; omega) (by unfold maxLen; simp; omega) fun s11 o11 w11 r11 u11 => ?_⟩
  have D := D.up62 u11
  have htr := fun y hy => (htr y hy).up u11 rfl
  have k1 := D.k1
  have k2 := D.k2
  refine ⟨by (repeat' (first | (apply Bx.get0f; apply Blk.bx; assumption; rfl) | (apply Bx.get0f; apply Blk.bx; apply KRep.b; assumption; rfl) | (apply Bx.get0f; assumption; rfl) | (apply Bx.get00; apply Blk.bx; apply KRep.b; assumption; rfl) | (apply Bx.get0; apply Blk.bx; apply KRep.b; assumption; rfl) | (apply Bx.get00; apply Blk.bx; assumption; rfl) | (apply Bx.get00; assumption; rfl) | (apply Bx.getAt; assumption; rfl) | (apply Bx.get0; assumption; rfl) | (apply Bx.get; assumption; rfl) | (apply Bx.get0; apply Blk.bx; assumption; rfl) | (apply Bx.get; apply Blk.bx; assumption; rfl) | apply And.intro)), by (repeat' (first | (apply Bx.get0f; apply Blk.bx; assumption; rfl) | (apply Bx.get0f; apply Blk.bx; apply KRep.b; assumption; rfl) | (apply Bx.get0f; assumption; rfl) | (apply Bx.get00; apply Blk.bx; apply KRep.b; assumption; rfl) | (apply Bx.get0; apply Blk.bx; apply KRep.b; assumption; rfl) | (apply Bx.get00; apply Blk.bx; assumption; rfl) | (apply Bx.get00; assumption; rfl) | (apply Bx.getAt; assumption; rfl) | (apply Bx.get0; assumption; rfl) | (apply Bx.get; assumption; rfl) | (apply Bx.get0; apply Blk.bx; assumption; rfl) | (apply Bx.get; apply Blk.bx; assumption; rfl) | apply And.intro)), ?_⟩
  have hR : TasksR o11 w11 62 s11 ((thereZ T).reverse ++ [x]) := by
    refine ⟨?_, fun y hy => ?_⟩
    · have := r11.rl
      rwa [show ((thereZ T).reverse ++ [x]).map ATask.t = (thereZ T).reverse.map ATask.t ++ [x.t] by simp]
    · rcases List.mem_append.1 hy with hy | hy
      · exact htr y (List.mem_reverse.1 hy)
      · rw [List.mem_singleton.1 hy]; exact D.hx
  have hload : loadZ m' (thereZ s.T ++ [x]) 0 = loadZ m ((thereZ T).reverse ++ [x]) 0 := by
    rw [hlz]
    refine loadZ_same m 0 ?_
    rw [List.map_append, List.map_append, List.map_reverse, hth]
    exact (List.reverse_perm _).symm.append_right _
  have hrl := rload_spec m s11 _ 0 D.hm hcr hR
  refine hrl.imp1 ?_
  rintro r w12 ⟨u12, hrz⟩
  rw [← hload] at hrz
  have u12' : Up no o11 w11 o11 w12 := Up.of_below u12
  have D := D.upno u12'
  have k2 := D.k2
  refine ⟨by (repeat' (first | (apply Bx.get0f; apply Blk.bx; assumption; rfl) | (apply Bx.get0f; apply Blk.bx; apply KRep.b; assumption; rfl) | (apply Bx.get0f; assumption; rfl) | (apply Bx.get00; apply Blk.bx; apply KRep.b; assumption; rfl) | (apply Bx.get0; apply Blk.bx; apply KRep.b; assumption; rfl) | (apply Bx.get00; apply Blk.bx; assumption; rfl) | (apply Bx.get00; assumption; rfl) | (apply Bx.getAt; assumption; rfl) | (apply Bx.get0; assumption; rfl) | (apply Bx.get; assumption; rfl) | (apply Bx.get0; apply Blk.bx; assumption; rfl) | (apply Bx.get; apply Blk.bx; assumption; rfl) | apply And.intro)), If_d (fun hgt => ?_) fun hgt => ?_⟩
  · refine D.k2.bx.ldTask (x := x.t) ?_
    refine tl o11 w12 5 D ?_
    have hgt : r > 4294967296 := hgt
    rw [hrz] at hgt
    rw [admCode, if_neg hnl, if_neg (fun h => h hck), if_neg hnil, if_neg (fun h => h hpl), if_pos hgt]
  · refine D.k2.bx.ldTask (x := x.t) ?_
    refine tl o11 w12 0 D ?_
    have hgt : ¬ r > 4294967296 := hgt
    rw [hrz] at hgt
    rw [admCode, if_neg hnl, if_neg (fun h => h hck), if_neg hnil, if_neg (fun h => h hpl), if_neg hgt]
end Go.Proofs.YtajilfnceoeaiaaGreat.V
