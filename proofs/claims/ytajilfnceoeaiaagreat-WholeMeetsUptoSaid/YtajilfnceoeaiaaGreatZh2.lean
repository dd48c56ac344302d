/- Parts of the proof: WholeMeets: the function returns true. -/
import Derived.Test.YtajilfnceoeaiaaGreatZh1
set_option linter.unusedVariables false
set_option linter.unusedSimpArgs false
/- WholeMeets: the function returns true. -/
namespace Go.Proofs.YtajilfnceoeaiaaGreat.V
open Go Go.RowKit Enc
set_option maxRecDepth 100000
theorem lev_mono {m : Mach} (t : Tab m) : ∀ (d i : Nat) (x y : Level), m.L[i]? = some x → m.L[i + d]? = some y → x.p ≤ y.p
  | 0, i, x, y, hx, hy => by
    rw [Nat.add_zero, hx] at hy
    cases hy
    exact Int.le_refl _
  | d + 1, i, x, y, hx, hy => by
    have hl := lt_of_get hy
    obtain ⟨z, hz⟩ : ∃ z, m.L[i + d]? = some z := ⟨m.L[i + d]'(by omega), List.getElem?_eq_getElem (by omega)⟩
    have h1 := lev_mono t d i x z hx hz
    have h2 := t.inc (i + d) y z hz hy
    omega
/-- Numbers of a machine that passes. -/
theorem Tab.mc {m : Mach} (t : Tab m) : Mc m := by
  obtain ⟨c0, c1⟩ := t.crit
  have hl1 := t.l1
  obtain ⟨k, hk⟩ : ∃ k : Nat, m.p.crit = k := ⟨m.p.crit.toNat, by omega⟩
  obtain ⟨x0, h0⟩ : ∃ x, m.L[0]? = some x := ⟨m.L[0]'(by omega), List.getElem?_eq_getElem (by omega)⟩
  obtain ⟨xc, hc⟩ : ∃ x, m.L[k]? = some x := ⟨m.L[k]'(by omega), List.getElem?_eq_getElem (by omega)⟩
  have e0 : lev0 m = x0.p := by unfold lev0; rw [List.getD_eq_getElem?_getD, h0]; rfl
  have ec : slowZ m = xc.p := by unfold slowZ; rw [hk, Int.toNat_natCast, List.getD_eq_getElem?_getD, hc]; rfl
  have g0 := t.lev 0 x0 h0
  have gc := t.lev k xc hc
  refine ⟨⟨by omega, t.sw⟩, by omega, by omega, fun n n0 n1 => ?_, fun i d hd => ?_⟩
  · obtain ⟨i, rfl⟩ : ∃ i : Nat, n = i := ⟨n.toNat, by omega⟩
    obtain ⟨x, hx⟩ : ∃ x, m.L[i]? = some x := ⟨m.L[i]'(by omega), List.getElem?_eq_getElem (by omega)⟩
    have ei : lvlP m i = x.p := by unfold lvlP; rw [Int.toNat_natCast, hx]; rfl
    rw [e0, ec, ei]
    exact ⟨lev_mono t i 0 x0 x h0 (by rw [Nat.zero_add]; exact hx), lev_mono t (k - i) i x xc hx (by rw [show i + (k - i) = k by omega]; exact hc)⟩
  · obtain ⟨a1, a2, _, _, _, _, _, a3, a4, _⟩ := t.dev i d hd
    exact ⟨a1, a2, a3, a4⟩
/-- How many jobs there are. -/
theorem listOf_count {m : Mach} {A B : Nat} {s : KS} {L : List Job} (iv : KInv m A B s) (hL : ListOf s.jobs L) : L.length = wsum one1 s.jobs := by
  have hnd : L.Nodup := by
    rw [List.Nodup, List.pairwise_iff_getElem]
    intro p q hp hq hpq he
    have hlt := hL.sorted p q L[p] L[q] hpq (List.getElem?_eq_getElem hp) (List.getElem?_eq_getElem hq)
    rw [he] at hlt
    exact lt_asymm hlt hlt
  have one : ∀ k : Nat, sumL (fun _ => 1) (L.filter fun x => x.task == (k : Int)) = (ow one1 (s.jobs k) : Nat) := fun k => by
    have all : ∀ x ∈ L.filter fun x => x.task == (k : Int), s.jobs k = some x := fun x hx => by
      obtain ⟨h1, h2⟩ := List.mem_filter.1 hx
      have h3 : x.task = k := by simpa using h2
      rw [← h3]
      exact (hL.iff x).1 h1
    have hnf : (L.filter fun x => x.task == (k : Int)).Nodup := hnd.filter _
    cases hf : L.filter fun x => x.task == (k : Int) with
    | nil =>
      cases hj : s.jobs (k : Int) with
      | none => rfl
      | some j =>
        have ht := (iv.jobs _ j hj).1
        have : j ∈ L.filter fun x => x.task == (k : Int) := List.mem_filter.2 ⟨(hL.iff j).2 (by rw [ht]; exact hj), by simp [ht]⟩
        rw [hf] at this
        cases this
    | cons a r =>
      rw [hf] at all hnf
      have ha := all a (.head _)
      cases r with
      | nil => rw [ha]; rfl
      | cons b r =>
        have hb := all b (.tail _ (.head _))
        rw [ha] at hb
        cases hb
        have := (List.nodup_cons.1 hnf).1
        exact absurd (.head _) this
  have hs : sumL (fun _ => 1) L = (L.length : Int) := by
    have : ∀ l : List Job, sumL (fun _ => 1) l = (l.length : Int) := by
      intro l
      induction l with
      | nil => rfl
      | cons x l ih =>
        rw [sumL_cons, ih, List.length_cons]
        omega
    exact this L
  have h6 : ∀ k : Int, 6 ≤ k → s.jobs k = none := fun k hk => by
    cases hj : s.jobs k with
    | none => rfl
    | some j =>
      have := (iv.jobs k j hj).2
      omega
  have hp := sumL_parts (fun _ => 1) L fun x hx => (iv.jobs _ _ ((hL.iff x).1 hx)).2
  rw [hs] at hp
  have e : (fun k : Nat => sumL (fun _ => 1) (L.filter fun x => x.task == (k : Int))) = fun k : Nat => ((ow one1 (s.jobs k) : Nat) : Int) := funext one
  rw [e] at hp
  have e0 : ow one1 (none : Option Job) = 0 := rfl
  unfold wsum
  rw [h6 6 (by decide), h6 7 (by decide), e0]
  have hp : (L.length : Int) = ((ow one1 (s.jobs 0) : Nat) : Int) + ((ow one1 (s.jobs 1) : Nat) : Int) + ((ow one1 (s.jobs 2) : Nat) : Int) + ((ow one1 (s.jobs 3) : Nat) : Int) + ((ow one1 (s.jobs 4) : Nat) : Int) + ((ow one1 (s.jobs 5) : Nat) : Int) := hp
  omega
/-- Behind so many steps of a script. -/
structure MtL (o : Own) (w : World) (m : Mach) (a : Nat) (st : Sl) (l : List ASt) (k : Nat) (o' : Own) (w' : World) (q : KPtr) (s : KS) : Prop where
  L : LawS o w m a k o' w' q s
  mt : Mt m s.now s
  bh : Bh s
  hs : StepsR o' w' st l
theorem MtL.upno {o o1 o2 : Own} {w w1 w2 : World} {m : Mach} {a k : Nat} {st : Sl} {l : List ASt} {q : KPtr} {s : KS} (L : MtL o w m a st l k o1 w1 q s) (u : Up no o1 w1 o2 w2) : MtL o w m a st l k o2 w2 q s := ⟨L.L.upno u, L.mt, L.bh, L.hs.up u rfl⟩
theorem MtL.doo {o o1 : Own} {w w1 : World} {m : Mach} {a k : Nat} {st : Sl} {l : List ASt} {q : KPtr} {s : KS} (L : MtL o w m a st l k o1 w1 q s) (c : Mc m) (hk : k < 1100000) (x : ASt) (hx : TaskR o1 w1 x.t) :
    Call P 13 [vP a, x.st.v] [sI, sI] (fun _ _ w' => ∃ s' q' o', MtL o w m a st l (k + 1) o' w' q' s' ∧ Up kl o1 w1 o' w') w1 := by
  have hd := L.L.doo hk x hx
  refine hd.imp2 ?_
  rintro n e w5 ⟨s5, d5, q5, o5, L5, u5⟩
  obtain ⟨g1, g2⟩ := L.mt.do c L.L.iv (by omega) (by unfold budB bigN; omega) L.bh d5
  exact ⟨s5, q5, o5, ⟨L5, g1, g2, L.hs.up u5 kl0⟩, u5⟩
theorem meets_spec {o : Own} {w : World} {m : Mach} {st : Sl} {l : List ASt} (hm : MachR o w m) (hs : StepsR o w st l) (hl : l.length ≤ 1048576) : Call P 4 [m.p.v, vS st] [sB] (fun b w' => b = true ∧ ∃ o', Up kl o w o' w') w := by
  refine f4_of _ _ (New_blk o 0 fun b1 o1 w1 k1 u1 _ => k1.bx.ldPlat (x := m.p) ?_)
  have hm := hm.up u1 rfl
  have hs := hs.up u1 rfl
  have hb := boot_law hm
  refine hb.imp1 ?_
  rintro pk w2 (⟨t, a, q, x, y, z, o2, rfl, L⟩ | ⟨nt, rfl, u2⟩)
  rotate_left
  · refine If_t ((k1.bx.below u2).ldPlat (x := m.p) ?_)
    have hno := none_spec (hm.below u2) nt
    refine hno.imp1 ?_
    rintro b w3 ⟨rfl, o3, u3⟩
    exact ⟨rfl, o3, (u1.of_no.trans (Up.of_below u2)).trans u3⟩
  have hs := hs.up L.U kl0
  have c := (t.pl x y z).mc
  generalize V.pl m x y z = m' at L c
  have M0 : MtL o1 w1 m' a st l 0 o2 w2 q (s0 m') := ⟨L, (Mt.zero m').1, (Mt.zero m').2, hs⟩
  refine If_f ⟨fun n w' => ∃ k : Nat, n = k ∧ k ≤ l.length ∧ ∃ o' q' s, MtL o1 w1 m' a st l k o' w' q' s, fun n _ => l.length - n.toNat, ⟨0, rfl, Nat.zero_le _, o2, q, _, M0⟩, ?_⟩
  rintro n v ⟨k, rfl, hk, o3, q3, s, L⟩ _
  have hn := L.hs.n
  refine If_d (fun hlt => ?_) fun hlt => ?_
  · have hkl : k < l.length := by omega
    have hx : l[k]? = some l[k] := List.getElem?_eq_getElem hkl
    have htx := L.hs.each _ (List.getElem_mem hkl)
    generalize l[k] = x at hx htx
    have hme : l.length - Int.toNat ((k : Int) + 1) < l.length - Int.toNat (k : Int) := by omega
    refine L.hs.step rfl hx ?_
    have hd := L.doo c (by omega) x htx
    refine hd.imp2 ?_
    rintro _ _ w5 ⟨s5, q5, o5, L5, _⟩
    have hj := jobs_spec L5.L.h
    refine hj.imp1 ?_
    rintro sj w6 ⟨J, o6, rJ, hJ, hJl, u6⟩
    have L6 := L5.upno u6
    have hJn := rJ.n
    refine ⟨fun i w' => ∃ j : Nat, i = j ∧ j ≤ J.length ∧ MtL o1 w1 m' a st l (k + 1) o6 w' q5 s5 ∧ RL o6 w' 0 sj J, fun i _ => J.length - i.toNat, ⟨0, rfl, Nat.zero_le _, L6, rJ⟩, ?_⟩
    rintro i v6 ⟨j, rfl, hj, L6, rJ⟩ _
    refine If_d (fun hlt => ?_) fun hlt => ?_
    · have hjl : j < J.length := by omega
      have hy : J[j]? = some J[j] := List.getElem?_eq_getElem hjl
      generalize J[j] = y at hy
      have hyj := (hJ.iff y).1 (List.mem_of_getElem? hy)
      have hdue := (L6.mt.sch.due c L6.L.iv L6.mt.lft hyj).1
      have hme : J.length - Int.toNat ((j : Int) + 1) < J.length - Int.toNat (j : Int) := by omega
      have ud : Up no o6 v6 o6 v6.drew := .drew
      have L6 := L6.upno ud
      have rJ := rJ.up ud rfl
      refine RL.at' rJ rfl hy fun bx fx _ hbx => ?_
      have hadr : (⟨bx, fx, none⟩ : Addr).add (Int.toNat (j : Int) * 6) = ⟨bx, fx + j * 6, none⟩ := by rw [Addr.add_mk, Int.toNat_natCast]
      have hbx : Bx v6.drew bx (fx + j * 6) y.l := hbx
      rw [hadr]
      have hno := now_spec L6.L.h
      refine Ld_of (x := y.deadline) (hbx.getAt rfl) (hno.imp1 ?_)
      rintro nw w7 ⟨rfl, rfl⟩
      rw [wz_id (x := (j : Int) + 1) (by omega) (by omega)]
      refine ⟨?_, If_d (fun e => ?_) fun _ => ⟨⟨j + 1, by omega, by omega, L6, rJ⟩, hme⟩⟩
      · rw [Addr.add_mk, Addr.add_mk]
        exact hbx.cell 2 _ rfl
      · have e : y.deadline ≤ s5.now := e
        omega
    · rw [wz_id (x := (k : Int) + 1) (by omega) (by omega)]
      exact ⟨⟨k + 1, by omega, by omega, o6, q5, s5, L6⟩, hme⟩
  · have he := events_spec L.L.h L.L.iv.events
    refine he.imp1 ?_
    rintro se w6 ⟨o6, rE, u6⟩
    have L := L.upno u6
    have hEn := rE.n
    have hEl := L.L.iv.events
    unfold bigN at hEl
    refine ⟨fun r g i w' => ∃ j : Nat, i = j ∧ j ≤ s.events.length ∧ r = (((s.events.take j).countP fun v => v.kind == 1 : Nat) : Int) ∧ g = (((s.events.take j).countP fun v => v.kind == 2 || v.kind == 3 : Nat) : Int) ∧ MtL o1 w1 m' a st l k o6 w' q3 s ∧ RL o6 w' 0 se s.events, fun _ _ i _ => s.events.length - i.toNat, ⟨0, rfl, Nat.zero_le _, rfl, rfl, L, rE⟩, ?_⟩
    rintro r g i v6 ⟨j, rfl, hj, rfl, rfl, L, rE⟩ _
    refine If_d (fun hlt => ?_) fun hlt => ?_
    · have hjl : j < s.events.length := by omega
      have hy : s.events[j]? = some s.events[j] := List.getElem?_eq_getElem hjl
      have hok := L.mt.evs.ok _ (List.getElem_mem hjl)
      generalize s.events[j] = y at hy hok
      have hme : s.events.length - Int.toNat ((j : Int) + 1) < s.events.length - Int.toNat (j : Int) := by omega
      have hw1 : IntKind.wrap .i64 ((j : Int) + 1) = (j : Int) + 1 := wz_id (by omega) (by omega)
      have htk := take_succ_get hy
      have c1 := List.countP_le_length (p := fun v : Event => v.kind == 1) (l := s.events.take j)
      have c2 := List.countP_le_length (p := fun v : Event => v.kind == 2 || v.kind == 3) (l := s.events.take j)
      rw [List.length_take] at c1 c2
      have hr1 : IntKind.wrap .i64 ((((s.events.take j).countP fun v => v.kind == 1 : Nat) : Int) + 1) = (((s.events.take j).countP fun v => v.kind == 1 : Nat) : Int) + 1 := wz_id (by omega) (by omega)
      have hg1 : IntKind.wrap .i64 ((((s.events.take j).countP fun v => v.kind == 2 || v.kind == 3 : Nat) : Int) + 1) = (((s.events.take j).countP fun v => v.kind == 2 || v.kind == 3 : Nat) : Int) + 1 := wz_id (by omega) (by omega)
      have k1 : (s.events.take (j + 1)).countP (fun v => v.kind == 1) = (s.events.take j).countP (fun v => v.kind == 1) + (if y.kind = 1 then 1 else 0) := by
        rw [htk, List.countP_append]
        by_cases e : y.kind = 1 <;> simp [e]
      have k2 : (s.events.take (j + 1)).countP (fun v => v.kind == 2 || v.kind == 3) = (s.events.take j).countP (fun v => v.kind == 2 || v.kind == 3) + (if y.kind = 2 ∨ y.kind = 3 then 1 else 0) := by
        rw [htk, List.countP_append]
        by_cases e : y.kind = 2 ∨ y.kind = 3
        · rcases e with e | e <;> simp [e]
        · have e' := not_or.1 e
          simp [e'.1, e'.2]
      have ud : Up no o6 v6 o6 v6.drew := .drew
      have Ld := L.upno ud
      have rEd := rE.up ud rfl
      have kd : ∀ {w : World}, RL o6 w 0 se s.events → ∀ {K : Int → World → Prop}, K y.kind w → ((0 : Int) ≤ (j : Int) ∧ (j : Int) < ((se.n : Nat) : Int)) ∧ WithAddr se.a fun a => Go.Proofs.YtajilfnceoeaiaaGreat.V.Ld (.ki .i64) ((a.add (Int.toNat (j : Int) * 4)).add 0) K w := by
        intro w0 rr K hk
        exact rr.fld (f := 0) (e := .ki .i64) (y := y.kind) rfl hy rfl rfl hk
      rw [hw1, hr1, hg1]
      generalize hc1 : (s.events.take j).countP (fun v => v.kind == 1) = n1 at *
      generalize hc2 : (s.events.take j).countP (fun v => v.kind == 2 || v.kind == 3) = n2 at *
      refine kd rE (If_eq (fun e1 => ?_) fun e1 => ?_)
      · have e1 : y.kind = 1 := e1
        refine kd rE (If_eq (fun e2 => ?_) fun _ => ?_)
        · have e2 : y.kind = 2 := e2
          omega
        · refine kd rE (If_eq (fun e3 => ?_) fun _ => ?_)
          · have e3 : y.kind = 3 := e3
            omega
          · rw [if_pos e1] at k1
            rw [if_neg (by omega)] at k2
            exact ⟨⟨j + 1, by omega, by omega, by omega, by omega, L, rE⟩, hme⟩
      · have e1 : ¬ y.kind = 1 := e1
        rw [if_neg e1] at k1
        refine kd rE (If_eq (fun e2 => ?_) fun e2 => ?_)
        · have e2 : y.kind = 2 := e2
          rw [if_pos (.inl e2)] at k2
          have hle := hok (.inl e2)
          refine rEd.fld (f := 2) (e := .ki .i64) (y := y.at_) rfl hy rfl rfl (rEd.fld (f := 3) (e := .ki .i64) (y := y.due) rfl hy rfl rfl (If_d (fun e => ?_) fun _ => ⟨⟨j + 1, by omega, by omega, by omega, by omega, Ld, rEd⟩, hme⟩))
          have e : y.at_ > y.due := e
          omega
        · have e2 : ¬ y.kind = 2 := e2
          refine kd rE (If_eq (fun e3 => ?_) fun e3 => ?_)
          · have e3 : y.kind = 3 := e3
            rw [if_pos (.inr e3)] at k2
            have hle := hok (.inr e3)
            refine rEd.fld (f := 2) (e := .ki .i64) (y := y.at_) rfl hy rfl rfl (rEd.fld (f := 3) (e := .ki .i64) (y := y.due) rfl hy rfl rfl (If_d (fun e => ?_) fun _ => ⟨⟨j + 1, by omega, by omega, by omega, by omega, Ld, rEd⟩, hme⟩))
            have e : y.at_ > y.due := e
            omega
          · have e3 : ¬ y.kind = 3 := e3
            rw [if_neg (by omega)] at k2
            exact ⟨⟨j + 1, by omega, by omega, by omega, by omega, L, rE⟩, hme⟩
    · have hje : j = s.events.length := by omega
      subst hje
      rw [List.take_length]
      have hans := answers_below v6
      refine hans.imp1 ?_
      rintro b w7 ⟨rfl, u7⟩
      have L := L.upno (Up.of_below u7)
      refine If_t ?_
      have hj := jobs_spec L.L.h
      refine hj.imp1 ?_
      rintro sj w8 ⟨J, o8, rJ, hJ, hJl, u8⟩
      have L := L.upno u8
      have hJn := rJ.n
      have hcount := listOf_count L.L.iv hJ
      have hcnt := L.mt.evs.cnt
      have c2 := List.countP_le_length (p := fun v : Event => v.kind == 2 || v.kind == 3) (l := s.events)
      refine ⟨?_, o8, u1.of_no.trans L.L.U⟩
      generalize s.events.countP (fun v => v.kind == 1) = n1 at *
      generalize s.events.countP (fun v => v.kind == 2 || v.kind == 3) = n2 at *
      have e : (n1 : Int) = IntKind.wrap .i64 ((n2 : Int) + ((sj.n : Nat) : Int)) := by
        rw [wz_id (x := (n2 : Int) + ((sj.n : Nat) : Int)) (by omega) (by omega)]
        omega
      exact beq_iff_eq.2 e
end Go.Proofs.YtajilfnceoeaiaaGreat.V
