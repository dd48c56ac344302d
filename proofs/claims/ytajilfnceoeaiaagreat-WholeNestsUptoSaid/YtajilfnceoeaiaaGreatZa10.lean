/- Parts of the proof: The kernel's functions: has, arrive, timer, policy, The kernel's functions: lock, tick, The kernel's functions: tick, The kernel's functions: take, remove, start, The kernel's functions: start, A task of its own memory; the kernel's function admit, The kernel's function admit, The kernel's functions: one, Do, Steps of a script keep what holds. Plain. -/
import Derived.Test.YtajilfnceoeaiaaGreatZa9
set_option linter.unusedVariables false
set_option linter.unusedSimpArgs false
/- The kernel's functions: has, arrive, timer, policy. -/
namespace Go.Proofs.YtajilfnceoeaiaaGreat.V
open Go Go.RowKit Enc
set_option maxRecDepth 100000
section
variable {o o' : Own} {w w' : World} {m : Mach} {q : KPtr} {s : KS} {a : Nat} {C : Nat → Bool}
theorem within_spec (n low high : Int) (w : World) : Call P 102 [.int .i64 n, .int .i64 low, .int .i64 high] [sB] (fun b w' => w' = w ∧ (b = true ↔ low ≤ n ∧ n ≤ high)) w := by
  refine f102_of _ _ _ (If_d (fun h => ⟨rfl, ?_⟩) fun h => ⟨rfl, ?_⟩)
  · simp
    omega
  · simp
    omega
/-- Is there such a task? -/
def hasZ (s : KS) (n : Int) : Prop := 0 ≤ n ∧ ∃ t, s.T[n.toNat]? = some t ∧ t.t.period > 0
theorem has_spec (h : KRep o w m a q s) (n : Int) : Call P 51 [vP a, .int .i64 n] [sB] (fun b w' => w' = w ∧ (b = true ↔ hasZ s n)) w := by
  have hn := h.p.T.n
  rw [List.length_map] at hn
  refine f51_of _ _ (If_d (fun h0 => WA (h.b.bx.ld (x := q.ts) rfl (If_d (fun h1 => WA (h.b.bx.ld (x := q.ts) rfl ?_)) fun h1 => ⟨rfl, ?_⟩))) fun h0 => ⟨rfl, ?_⟩)
  · obtain ⟨k, rfl⟩ : ∃ k : Nat, n = k := ⟨n.toNat, by omega⟩
    have h1 : k < s.T.length := by rw [← hn]; exact Int.ofNat_lt.1 h1
    have ht : s.T[k]? = some s.T[k] := List.getElem?_eq_getElem h1
    have hx : (s.T.map ATask.t)[k]? = some s.T[k].t := by rw [List.getElem?_map, ht]; rfl
    refine h.p.T.rl.fld (f := 0) (e := .ki .i64) (y := s.T[k].t.period) rfl hx rfl rfl ⟨rfl, ?_⟩
    unfold hasZ
    rw [Int.toNat_natCast, ht]
    simp
  · refine ⟨fun h => absurd h (by decide), fun h => ?_⟩
    obtain ⟨g0, t, g1, _⟩ := h
    have := lt_of_get g1
    exact absurd (show n < (q.ts.n : Int) by omega) h1
  · exact ⟨fun h => absurd h (by decide), fun h => absurd h.1 h0⟩
def arriveErr (s : KS) (n after cycles : Int) (e : Int) : Prop :=
  (¬ hasZ s n ∧ e = 6) ∨ (hasZ s n ∧ ((¬ (0 ≤ after ∧ after ≤ 16384) ∧ e = 1) ∨ (¬ (1 ≤ cycles ∧ cycles ≤ 16384) ∧ e = 1) ∨ ((s.lat n).isSome = true ∧ e = 8) ∨ (wz (s.now + after) < s.N.getD n.toNat 0 ∧ e = 7)))
def ArriveR (s : KS) (n after cycles e : Int) (s' : KS) : Prop :=
  (arriveErr s n after cycles e ∧ s' = s) ∨
  (hasZ s n ∧ 0 ≤ after ∧ after ≤ 16384 ∧ 1 ≤ cycles ∧ cycles ≤ 16384 ∧ s.lat n = none ∧ s.N.getD n.toNat 0 ≤ wz (s.now + after) ∧ e = 0 ∧ s' = { s with lat := upd s.lat n (some (wz (s.now + after), cycles)), N := s.N.set n.toNat (wz (s.now + after)) })
theorem arrive_spec (h : KRep o w m a q s) {A B : Nat} (iv : KInv m A B s) (n after cycles : Int) : Call P 63 [vP a, .int .i64 n, .int .i64 after, .int .i64 cycles] [sI] (fun e w' => ∃ s', ArriveR s n after cycles e s' ∧ KA o w m a s' w') w := by
  have hh := has_spec h n
  refine f63_of _ _ _ _ (hh.imp1 ?_)
  rintro b w1 ⟨rfl, hb⟩
  have back : ∀ w2, KRep o w2 m a q s → Up kl o w1 o w2 → KA o w1 m a s w2 := fun w2 h u => ⟨q, o, h, u⟩
  refine If_not (If_b (fun e1 => ?_) fun e1 => ?_)
  · have hz := hb.1 e1
    refine (within_spec after 0 16384 w1).imp1 ?_
    rintro b2 w2 ⟨rfl, hb2⟩
    refine If_not (If_b (fun e2 => ?_) fun e2 => ?_)
    · refine (within_spec cycles 1 16384 w2).imp1 ?_
      rintro b3 w3 ⟨rfl, hb3⟩
      refine If_not (If_b (fun e3 => ?_) fun e3 => ?_)
      · refine WA (h.b.bx.ld (x := some ⟨q.la, 0, none⟩) rfl ?_)
        have hw := waits_spec h.p.la n
        refine hw.imp1 ?_
        rintro b4 w4 ⟨rfl, rfl⟩
        refine If_b (fun e4 => ?_) fun e4 => ?_
        · exact ⟨s, .inl ⟨.inr ⟨hz, .inr (.inr (.inl ⟨e4, rfl⟩))⟩, rfl⟩, back _ h .refl⟩
        · have ud : Up no o w4 o w4.drew := .drew
          have h := h.upno ud
          obtain ⟨g0, t, ht, hper⟩ := hz
          obtain ⟨i, hi⟩ : ∃ i : Nat, n = i := ⟨n.toNat, by omega⟩
          have hi6 : i < 6 := by
            have := lt_of_get ht
            rw [iv.T] at this
            omega
          have hN := iv.N
          obtain ⟨y, hNi⟩ : ∃ y, s.N[i]? = some y := ⟨s.N[i]'(by omega), List.getElem?_eq_getElem (by omega)⟩
          have hNd : s.N.getD n.toNat 0 = y := by rw [show n.toNat = i by omega, List.getD_eq_getElem?_getD, hNi]; rfl
          refine WA (h.b.bx.ld (x := s.now) rfl (WA (h.b.bx.ld (x := q.ns) rfl (h.p.N.rl.int hi hNi (If_d (fun e5 => ?_) fun e5 => ?_)))))
          · exact ⟨s, .inl ⟨.inr ⟨⟨g0, t, ht, hper⟩, .inr (.inr (.inr ⟨by rw [hNd]; exact e5, rfl⟩))⟩, rfl⟩, back _ h ud.of_no⟩
          · have ud2 : Up no o w4.drew o w4.drew.drew := .drew
            have h := h.upno ud2
            refine WA (h.b.bx.ld (x := some ⟨q.la, 0, none⟩) rfl (WA (h.b.bx.ld (x := s.now) rfl ?_)))
            have hlat : s.lat n = none := by
              cases hl : s.lat n with
              | none => rfl
              | some x => rw [hl] at e4; cases e4
            have hput := latchPut_spec h.p.la (at_ := wz (s.now + after)) (cycles := cycles) g0 (by omega) hlat
            refine hput.imp1 ?_
            rintro r w5 ⟨o5, la5, u5⟩
            have hb := h.b.up u5 rfl
            have hp := h.p.chL la5 u5 fun d hd => rng_no hd
            have U := ((ud.trans ud2).of_no).trans (u5.krng (by omega))
            refine ⟨by (first | (apply Bx.get0f; apply Blk.bx; assumption; rfl) | (apply Bx.get0f; apply Blk.bx; apply KRep.b; assumption; rfl) | (apply Bx.get0f; assumption; rfl) | (apply Bx.get00; apply Blk.bx; apply KRep.b; assumption; rfl) | (apply Bx.get0; apply Blk.bx; apply KRep.b; assumption; rfl) | (apply Bx.get00; apply Blk.bx; assumption; rfl) | (apply Bx.get00; assumption; rfl) | (apply Bx.getAt; assumption; rfl) | (apply Bx.get0; assumption; rfl) | (apply Bx.get; assumption; rfl) | (apply Bx.get0; apply Blk.bx; assumption; rfl) | (apply Bx.get; apply Blk.bx; assumption; rfl)), ?_⟩
            have ud6 : Up no o5 w5 o5 w5.drew := .drew
            have hb := hb.up ud6 rfl
            have hp := hp.upno ud6
            refine WA (hb.bx.ld (x := q.ns) rfl (WA (hb.bx.ld (x := s.now) rfl ?_)))
            refine RowL.st (y := wz (s.now + after)) hp.N hi hNi rfl fun w7 r7 u7 => ?_
            have hb := hb.up u7 rfl
            have hp := hp.chN r7 u7 fun d hd => one_no hd
            refine ⟨{ s with lat := upd s.lat n (some (wz (s.now + after), cycles)), N := s.N.set n.toNat (wz (s.now + after)) }, .inr ⟨⟨g0, t, ht, hper⟩, (hb2.1 e2).1, (hb2.1 e2).2, (hb3.1 e3).1, (hb3.1 e3).2, hlat, by rw [hNd]; exact Int.not_lt.1 e5, rfl, rfl⟩, q, o5, ?_, (((U.trans ud6.of_no).trans (u7.k1 (by omega)))).kkl⟩
            have e2 : n.toNat = i := by rw [hi, Int.toNat_natCast]
            rw [e2]
            exact ⟨hb, hp⟩
      · exact ⟨s, .inl ⟨.inr ⟨hz, .inr (.inl ⟨fun h => (by rw [hb3.2 h] at e3; cases e3), rfl⟩)⟩, rfl⟩, back _ h .refl⟩
    · exact ⟨s, .inl ⟨.inr ⟨hz, .inl ⟨fun h => (by rw [hb2.2 h] at e2; cases e2), rfl⟩⟩, rfl⟩, back _ h .refl⟩
  · exact ⟨s, .inl ⟨.inl ⟨fun h => (by rw [hb.2 h] at e1; cases e1), rfl⟩, rfl⟩, back _ h .refl⟩
def PolicyR (s : KS) (policy naps e : Int) (s' : KS) : Prop :=
  (e = 1 ∧ ¬ (0 ≤ policy ∧ policy ≤ 3 ∧ 0 ≤ naps ∧ naps ≤ 1) ∧ s' = s) ∨ (e = 0 ∧ 0 ≤ policy ∧ policy ≤ 3 ∧ 0 ≤ naps ∧ naps ≤ 1 ∧ s' = { s with policy := policy, naps := naps == 1 })
theorem policy_spec (h : KRep o w m a q s) (policy naps : Int) : Call P 66 [vP a, .int .i64 policy, .int .i64 naps] [sI] (fun e w' => ∃ s', PolicyR s policy naps e s' ∧ KA o w m a s' w') w := by
  refine f66_of _ _ _ ((within_spec policy 0 3 w).imp1 ?_)
  rintro b w1 ⟨rfl, hb⟩
  refine If_not (If_b (fun e1 => ?_) fun e1 => ?_)
  · refine (within_spec naps 0 1 w1).imp1 ?_
    rintro b2 w2 ⟨rfl, hb2⟩
    refine If_not (If_b (fun e2 => ?_) fun e2 => ?_)
    · refine WA (h.b.st (f := 11) (vs := [.int .i64 policy]) (show 11 + 1 ≤ 34 by decide) fun w3 hb3 u3 => ?_)
      refine WA (hb3.st (f := 12) (vs := [.bool (naps == 1)]) (show 12 + 1 ≤ 34 by decide) fun w4 hb4 u4 => ?_)
      have hp := (h.p.up1 u3).up1 u4
      have h4 : KRep o w4 m a q { s with policy := policy, naps := naps == 1 } := ⟨hb4, ⟨hp.mR, hp.T, hp.TR, hp.N, hp.U, hp.S, hp.D, hp.X, hp.E, hp.C, hp.set, hp.lk, hp.la, hp.ti, hp.tr⟩⟩
      exact ⟨_, .inr ⟨rfl, (hb.1 e1).1, (hb.1 e1).2, (hb2.1 e2).1, (hb2.1 e2).2, rfl⟩, q, o, h4, ((u3.k1 (by omega)).trans (u4.k1 (by omega))).kkl⟩
    · exact ⟨s, .inl ⟨rfl, fun h => (by rw [hb2.2 h.2.2] at e2; cases e2), rfl⟩, q, o, h, .refl⟩
  · exact ⟨s, .inl ⟨rfl, fun h => (by rw [hb.2 ⟨h.1, h.2.1⟩] at e1; cases e1), rfl⟩, q, o, h, .refl⟩
def TimerR (s : KS) (x : Step) (e : Int) (s' : KS) : Prop :=
  if x.kind = 9 then ((s.tim x.a).isSome = true ∧ e = 0 ∧ s' = { s with tim := upd s.tim x.a none }) ∨ (s.tim x.a = none ∧ e = 6 ∧ s' = s)
  else (e = 1 ∧ ¬ (0 ≤ x.a ∧ x.a ≤ 3 ∧ 0 ≤ x.b ∧ x.b ≤ 16384 ∧ 0 ≤ x.c ∧ x.c ≤ 16384) ∧ s' = s) ∨
    (e = 0 ∧ 0 ≤ x.a ∧ x.a ≤ 3 ∧ 0 ≤ x.b ∧ x.b ≤ 16384 ∧ 0 ≤ x.c ∧ x.c ≤ 16384 ∧ s' = { s with tim := upd s.tim x.a (some (if 1099511627776 < wz (s.now + x.b) then 1099511627776 else wz (s.now + x.b), x.c)) })
def timerThen (k : Option Addr) (a1 : Addr) (K : Int → World → Prop) (w : World) : Prop :=
 Ld (.ki .i64) (a1.add 1) (fun n22 w =>
 Call P 102 [.int .i64 n22, .int .i64 0, .int .i64 3] [sB] (fun b23 w =>
 If (!b23) (
 K 1 w) (
 Ld (.ki .i64) (a1.add 2) (fun n24 w =>
 Call P 102 [.int .i64 n24, .int .i64 0, .int .i64 16384] [sB] (fun b25 w =>
 If (!b25) (
 K 1 w) (
 Ld (.ki .i64) (a1.add 3) (fun n26 w =>
 Call P 102 [.int .i64 n26, .int .i64 0, .int .i64 16384] [sB] (fun b27 w =>
 If (!b27) (
 K 1 w) (
 (fun w : World =>
 WithAddr k fun a28 =>
 Ld (.kp) (a28.add 22) (fun p29 w =>
 Ld (.ki .i64) (a1.add 1) (fun n30 w =>
 WithAddr k fun a31 =>
 Ld (.ki .i64) (a31.add 9) (fun n32 w =>
 Ld (.ki .i64) (a1.add 2) (fun n33 w =>
 Ld (.ki .i64) (a1.add 3) (fun n34 w =>
 Call P 110 [.pointer p29, .int .i64 n30, .int .i64 (IntKind.wrap .i64 (n32 + n33)), .int .i64 n34] [] (fun w =>
 (w.cell? ((a1.add 2).add 0) = some (.int .i64 n33)) ∧ (w.cell? ((a31.add 9).add 0) = some (.int .i64 n32)) ∧ K 0 w) w) w) w) w) w) w) w.drew)) w) w)) w) w)) w) w
theorem timerThen_of (h : KRep o w m a q s) {b1 : Nat} {x : Step} (c1 : Blk o w 90 b1 (.cells x.l.toArray 39 (0, 0))) (hk : x.kind ≠ 9) {K : Int → World → Prop} (hK : ∀ e w', (∃ s', TimerR s x e s' ∧ KA o w m a s' w') → K e w') : timerThen (some ⟨a, 0, none⟩) ⟨b1, 0, none⟩ K w := by
  have bad : ¬ (0 ≤ x.a ∧ x.a ≤ 3 ∧ 0 ≤ x.b ∧ x.b ≤ 16384 ∧ 0 ≤ x.c ∧ x.c ≤ 16384) → K 1 w := fun hn => hK 1 w ⟨s, by rw [TimerR, if_neg hk]; exact .inl ⟨rfl, hn, rfl⟩, q, o, h, .refl⟩
  refine c1.bx.ld (c := .ki .i64) (x := x.a) rfl ((within_spec x.a 0 3 w).imp1 ?_)
  rintro b w1 ⟨rfl, hb⟩
  refine If_not (If_b (fun e1 => ?_) fun e1 => bad fun h => by rw [hb.2 ⟨h.1, h.2.1⟩] at e1; cases e1)
  refine c1.bx.ld (c := .ki .i64) (x := x.b) rfl ((within_spec x.b 0 16384 w1).imp1 ?_)
  rintro b2 w2 ⟨rfl, hb2⟩
  refine If_not (If_b (fun e2 => ?_) fun e2 => bad fun h => by rw [hb2.2 ⟨h.2.2.1, h.2.2.2.1⟩] at e2; cases e2)
  refine c1.bx.ld (c := .ki .i64) (x := x.c) rfl ((within_spec x.c 0 16384 w2).imp1 ?_)
  rintro b3 w3 ⟨rfl, hb3⟩
  refine If_not (If_b (fun e3 => ?_) fun e3 => bad fun h => by rw [hb3.2 h.2.2.2.2] at e3; cases e3)
  have ud : Up no o w3 o w3.drew := .drew
  have h := h.upno ud
  have c1 := c1.up ud rfl
  refine WA (h.b.bx.ld (x := some ⟨q.ti, 0, none⟩) rfl (c1.bx.ld (c := .ki .i64) (x := x.a) rfl (WA (h.b.bx.ld (x := s.now) rfl (c1.bx.ld (c := .ki .i64) (x := x.b) rfl (c1.bx.ld (c := .ki .i64) (x := x.c) rfl ?_))))))
  have h1 := hb.1 e1
  have h2 := hb2.1 e2
  have h3 := hb3.1 e3
  have hs := set_spec h.p.ti (wz (s.now + x.b)) x.c h1.1 (show x.a < 8 by omega)
  refine hs.imp0 ?_
  rintro w4 ⟨o4, ti4, u4⟩
  have hb := h.b.up u4 rfl
  have hp := h.p.chM ti4 u4 fun d hd => rng_no hd
  have c1 := c1.up u4 rfl
  refine ⟨by (repeat' (first | (apply Bx.get0f; apply Blk.bx; assumption; rfl) | (apply Bx.get0f; apply Blk.bx; apply KRep.b; assumption; rfl) | (apply Bx.get0f; assumption; rfl) | (apply Bx.get00; apply Blk.bx; apply KRep.b; assumption; rfl) | (apply Bx.get0; apply Blk.bx; apply KRep.b; assumption; rfl) | (apply Bx.get00; apply Blk.bx; assumption; rfl) | (apply Bx.get00; assumption; rfl) | (apply Bx.getAt; assumption; rfl) | (apply Bx.get0; assumption; rfl) | (apply Bx.get; assumption; rfl) | (apply Bx.get0; apply Blk.bx; assumption; rfl) | (apply Bx.get; apply Blk.bx; assumption; rfl) | apply And.intro)), by (repeat' (first | (apply Bx.get0f; apply Blk.bx; assumption; rfl) | (apply Bx.get0f; apply Blk.bx; apply KRep.b; assumption; rfl) | (apply Bx.get0f; assumption; rfl) | (apply Bx.get00; apply Blk.bx; apply KRep.b; assumption; rfl) | (apply Bx.get0; apply Blk.bx; apply KRep.b; assumption; rfl) | (apply Bx.get00; apply Blk.bx; assumption; rfl) | (apply Bx.get00; assumption; rfl) | (apply Bx.getAt; assumption; rfl) | (apply Bx.get0; assumption; rfl) | (apply Bx.get; assumption; rfl) | (apply Bx.get0; apply Blk.bx; assumption; rfl) | (apply Bx.get; apply Blk.bx; assumption; rfl) | apply And.intro)), hK 0 w4 ⟨{ s with tim := upd s.tim x.a (some (if 1099511627776 < wz (s.now + x.b) then 1099511627776 else wz (s.now + x.b), x.c)) }, ?_, q, o4, ⟨hb, hp⟩, (ud.of_no.trans (u4.krng (by omega))).kkl⟩⟩
  rw [TimerR, if_neg hk]
  exact .inr ⟨rfl, h1.1, h1.2, h2.1, h2.2, h3.1, h3.2, rfl⟩
theorem timer_spec (h : KRep o w m a q s) (x : Step) : Call P 67 [vP a, x.v] [sI] (fun e w' => ∃ s', TimerR s x e s' ∧ KA o w m a s' w') w := by
  refine f67_of _ _ (New_blk o 90 fun b1 o1 w1 k1 u1 _ => ?_)
  have ud : Up no o w o1 w1.drew := u1.trans .drew
  have h := h.upno ud
  have k1 := k1.up (C := no) (o' := o1) (w' := w1.drew) .drew rfl
  have U : Up kl o w o1 w1.drew := ud.of_no
  refine k1.bx.ld (c := .ki .i64) (x := x.kind) rfl (If_eq (fun e => ?_) fun e => ?_)
  · refine WA (h.b.bx.ld (x := some ⟨q.ti, 0, none⟩) rfl (k1.bx.ld (c := .ki .i64) (x := x.a) rfl ?_))
    have hc := cancel_spec h.p.ti x.a
    refine hc.imp1 ?_
    rintro r w2 ⟨rfl, ti2, u2⟩
    have hb := h.b.up u2 rfl
    have hp := h.p.chM ti2 u2 fun d hd => rng_no hd
    have k1 := k1.up u2 rfl
    have U := U.trans (u2.krng (by omega)).kkl
    refine ⟨by (repeat' (first | (apply Bx.get0f; apply Blk.bx; assumption; rfl) | (apply Bx.get0f; apply Blk.bx; apply KRep.b; assumption; rfl) | (apply Bx.get0f; assumption; rfl) | (apply Bx.get00; apply Blk.bx; apply KRep.b; assumption; rfl) | (apply Bx.get0; apply Blk.bx; apply KRep.b; assumption; rfl) | (apply Bx.get00; apply Blk.bx; assumption; rfl) | (apply Bx.get00; assumption; rfl) | (apply Bx.getAt; assumption; rfl) | (apply Bx.get0; assumption; rfl) | (apply Bx.get; assumption; rfl) | (apply Bx.get0; apply Blk.bx; assumption; rfl) | (apply Bx.get; apply Blk.bx; assumption; rfl) | apply And.intro)), If_b (fun e2 => ?_) fun e2 => k1.bx.ld (c := .ki .i64) (x := x.kind) rfl (If_eq (fun _ => ?_) fun h => absurd e h)⟩
    · refine ⟨{ s with tim := upd s.tim x.a none }, ?_, q, o1, ⟨hb, hp⟩, U⟩
      rw [TimerR, if_pos e]
      exact .inl ⟨e2, rfl, rfl⟩
    · have hn : s.tim x.a = none := by
        cases hl : s.tim x.a with
        | none => rfl
        | some y => rw [hl] at e2; cases e2
      have hu : upd s.tim x.a none = s.tim := by
        funext z
        simp only [upd]
        by_cases ez : z = x.a
        · rw [if_pos ez, ez, hn]
        · rw [if_neg ez]
      have hti := hp.ti
      rw [show ({ s with tim := upd s.tim x.a none } : KS).tim = s.tim from hu] at hti
      refine ⟨s, ?_, q, o1, ⟨hb, ⟨hp.mR, hp.T, hp.TR, hp.N, hp.U, hp.S, hp.D, hp.X, hp.E, hp.C, hp.set, hp.lk, hp.la, hti, hp.tr⟩⟩, U⟩
      rw [TimerR, if_pos e]
      exact .inr ⟨hn, rfl, rfl⟩
  · refine k1.bx.ld (c := .ki .i64) (x := x.kind) rfl (If_eq (fun h => absurd h e) fun _ => ?_)
    exact timerThen_of h k1 e (K := fun e w' => ∃ s', TimerR s x e s' ∧ KA o w m a s' w') fun e w' ⟨s', h1, h2⟩ => ⟨s', h1, KA.trans U h2⟩
end
end Go.Proofs.YtajilfnceoeaiaaGreat.V
/- The kernel's functions: lock, tick. -/
namespace Go.Proofs.YtajilfnceoeaiaaGreat.V
open Go Go.RowKit Enc
set_option maxRecDepth 100000
theorem RL.at' {α : Type} [Enc α] {o : Own} {w : World} {c : Nat} {s : Sl} {l : List α} (h : RL o w c s l) {i : Int} {k : Nat} {x : α} (hi : i = (k : Int)) (hx : l[k]? = some x) {F : Addr → Prop} (hF : ∀ b off, s.a = some ⟨b, off, none⟩ → Bx w b (off + k * sz α) (enc x) → F ⟨b, off, none⟩) :
    ((0 : Int) ≤ i ∧ i < ((s.n : Nat) : Int)) ∧ WithAddr s.a fun a => F a := by
  obtain ⟨b, off, h1, h2⟩ := h.bx hx
  have := (List.getElem?_eq_some_iff.1 hx).1
  rw [← h.n] at this
  refine ⟨⟨by omega, by omega⟩, ?_⟩
  have hf := hF b off h1 h2
  rw [h1]
  exact hf
theorem RL.bx' {α : Type} [Enc α] {o : Own} {w : World} {c : Nat} {s : Sl} {l : List α} (h : RL o w c s l) {k : Nat} {x : α} (hx : l[k]? = some x) {b off : Nat} (ha : s.a = some ⟨b, off, none⟩) : Bx w b (off + k * sz α) (enc x) := by
  obtain ⟨b2, off2, h1, h2⟩ := h.bx hx
  rw [ha] at h1
  simp only [Option.some.injEq, Addr.mk.injEq, and_true] at h1
  obtain ⟨rfl, rfl⟩ := h1
  exact h2
section
variable {o o' : Own} {w w' : World} {m : Mach} {q : KPtr} {s : KS} {a : Nat} {C : Nat → Bool}
def LockR (s : KS) (sem : Int) (give : Bool) (e : Int) (s' : KS) : Prop :=
  (s' = s ∧ (e = 9 ∨ e = 10)) ∨
  (s.asleep = false ∧ ∃ n L, ListOf s.jobs L ∧ L.length ≤ 8 ∧ WhoS s L n true ∧ ((s.jobs n).getD noJob).started = true ∧ ∃ t, s.T[n.toNat]? = some t ∧ usesZ t sem = true ∧ e = 0 ∧
    ((give = true ∧ ∃ i, LastOf s.held n i ∧ s' = { s with held := s.held.eraseIdx i }) ∨
     (give = false ∧ s.held.any (fun x => x.sem == sem) = false ∧ ∃ c, t.sec[sem.toNat]? = some c ∧ s' = { s with held := s.held ++ [⟨n, sem, c⟩] })))
theorem lock_spec (h : KRep o w m a q s) {A B : Nat} (iv : KInv m A B s) (sem : Int) (give : Bool) : Call P 65 [vP a, .int .i64 sem, .bool give] [sI] (fun e w' => ∃ s', LockR s sem give e s' ∧ KA o w m a s' w') w := by
  refine f65_of _ _ _ (WA (h.b.bx.ld (c := .kb) (x := s.asleep) rfl (If_b (fun e => ⟨s, .inl ⟨rfl, .inl rfl⟩, q, o, h, .refl⟩) fun ea => ?_)))
  have hw := who_spec h iv.heldl (by rw [iv.T]; decide)
  refine hw.imp2 ?_
  rintro (n : Int) ok w1 ⟨⟨L, hL, hl8, hwho⟩, u1⟩
  have h := h.below u1
  have U : Up kl o w o w1 := Up.of_below u1
  refine WA (h.b.bx.ld (x := some ⟨q.set, 0, none⟩) rfl ?_)
  have hg := get_spec h.p.set n
  refine hg.impJb ?_
  rintro n1 n2 n3 n4 n5 b6 b7 w2 ⟨u2, ej, _⟩
  have h := h.below u2
  have U := U.trans (Up.of_below u2)
  refine NewSt_blk o 90 (by rfl) fun b1 o3 w3 k3 u3 _ => ?_
  have k3 : Blk o3 w3 90 b1 (.cells (⟨n1, n2, n3, n4, n5, b6⟩ : Job).l.toArray 50 (0, 0)) := k3
  rw [ej] at k3
  generalize hj : (s.jobs n).getD noJob = j at k3
  have h := h.upno u3
  have U := U.trans u3.of_no
  refine If_not (If_b (fun eo => ?_) fun _ => ⟨s, .inl ⟨rfl, .inl rfl⟩, q, o3, h, U⟩)
  subst eo
  refine k3.bx.ld (c := .kb) (x := j.started) rfl (If_not (If_b (fun es => ?_) fun _ => ⟨s, .inl ⟨rfl, .inl rfl⟩, q, o3, h, U⟩))
  obtain ⟨⟨h0, h6⟩, hx⟩ := whoOf_job iv hL hwho
  obtain ⟨i, hi⟩ : ∃ i : Nat, n = i := ⟨n.toNat, by omega⟩
  have hT := iv.T
  obtain ⟨t, ht⟩ : ∃ t, s.T[i]? = some t := ⟨s.T[i]'(by omega), List.getElem?_eq_getElem (by omega)⟩
  have hxt : (s.T.map ATask.t)[i]? = some t.t := by rw [List.getElem?_map, ht]; rfl
  have htn : s.T[n.toNat]? = some t := by rw [show n.toNat = i by omega]; exact ht
  refine WA (h.b.bx.ld (x := q.ts) rfl (h.p.T.rl.task hi hxt ?_))
  have hu := uses_spec t sem (h.p.TR t (List.mem_of_getElem? ht))
  refine hu.imp1 ?_
  rintro b w4 ⟨u4, rfl⟩
  have h := h.below u4
  have U := U.trans (Up.of_below u4)
  refine If_not (If_b (fun eu => ?_) fun _ => ⟨s, .inl ⟨rfl, .inr rfl⟩, q, o3, h, U⟩)
  refine If_b (fun eg => ?_) fun eg => ?_
  · refine WA (h.b.bx.ld (x := some ⟨q.lk, 0, none⟩) rfl ?_)
    have hv := give_spec h.p.lk iv.heldl n sem
    refine hv.imp1 ?_
    rintro r w5 ⟨o5, H', lk5, u5, hr⟩
    have hb := h.b.up u5 rfl
    have hp := h.p.chH lk5 u5 fun d hd => lk_no hd
    have U := U.trans u5.klk.kkl
    rcases hr with ⟨rfl, rfl⟩ | ⟨rfl, k, hk, rfl⟩
    · exact ⟨s, .inl ⟨rfl, .inr rfl⟩, q, o5, ⟨hb, hp⟩, U⟩
    · exact ⟨{ s with held := s.held.eraseIdx k }, .inr ⟨ea, n, L, hL, hl8, hwho, by rw [hj]; exact es, t, htn, eu, rfl, .inl ⟨eg, k, hk, rfl⟩⟩, q, o5, ⟨hb, hp⟩, U⟩
  · have ud : Up no o3 w4 o3 w4.drew := .drew
    have h := h.upno ud
    have U := U.trans ud.of_no
    have hsec : 0 ≤ sem ∧ ∃ c, t.sec[sem.toNat]? = some c := by
      simp only [usesZ, Bool.and_eq_true, decide_eq_true_eq] at eu
      exact ⟨eu.1.1, _, List.getElem?_eq_getElem (by omega)⟩
    obtain ⟨hs0, c, hc⟩ := hsec
    have hTR := h.p.TR t (List.mem_of_getElem? ht)
    refine WA (h.b.bx.ld (x := some ⟨q.lk, 0, none⟩) rfl (WA (h.b.bx.ld (x := q.ts) rfl (RL.at' h.p.T.rl hi hxt fun bt ft hta hbt => ?_))))
    have hadr : (⟨bt, ft, none⟩ : Addr).add (Int.toNat n * 4) = ⟨bt, ft + i * 4, none⟩ := by rw [hi, Addr.add_mk, Int.toNat_natCast]
    have hbt : Bx w4.drew bt (ft + i * 4) t.t.l := hbt
    rw [hadr]
    refine Ld_of (x := t.t.sec) (hbt.getAt rfl) ?_
    obtain ⟨k, hk⟩ : ∃ k : Nat, sem = k := ⟨sem.toNat, by omega⟩
    have hc' : t.sec[k]? = some c := by rw [← hc, hk, Int.toNat_natCast]
    refine hTR.sec.at hk hc' fun bs fs hbs => ?_
    have hads : (⟨bs, fs, none⟩ : Addr).add (Int.toNat sem * 1) = ⟨bs, fs + k * 1, none⟩ := by rw [hk, Addr.add_mk, Int.toNat_natCast]
    have hbs : Bx w4.drew bs (fs + k * 1) [.int .i64 c] := hbs
    rw [hads]
    refine Ld_of (x := c) (hbs.cell 0 _ rfl) ?_
    have hv := take_spec h.p.lk iv.heldl n sem c
    refine hv.imp1 ?_
    rintro r w5 ⟨hr, hr0, o5, lk5, u5⟩
    have hb := h.b.up u5 rfl
    have hp := h.p.chH lk5 u5 fun d hd => lk_no hd
    have U := U.trans u5.klk.kkl
    have hbt5 : Bx w5 bt (ft + i * 4) t.t.l := RL.bx' hp.T.rl hxt hta
    refine ⟨?_, by (first | (apply Bx.get0f; apply Blk.bx; assumption; rfl) | (apply Bx.get0f; apply Blk.bx; apply KRep.b; assumption; rfl) | (apply Bx.get0f; assumption; rfl) | (apply Bx.get00; apply Blk.bx; apply KRep.b; assumption; rfl) | (apply Bx.get0; apply Blk.bx; apply KRep.b; assumption; rfl) | (apply Bx.get00; apply Blk.bx; assumption; rfl) | (apply Bx.get00; assumption; rfl) | (apply Bx.getAt; assumption; rfl) | (apply Bx.get0; assumption; rfl) | (apply Bx.get; assumption; rfl) | (apply Bx.get0; apply Blk.bx; assumption; rfl) | (apply Bx.get; apply Blk.bx; assumption; rfl)), ?_⟩
    · rw [Addr.add_mk, Addr.add_mk]
      exact hbt5.cell 2 _ rfl
    · by_cases e0 : r = 0
      · rw [if_pos e0] at lk5 hp
        exact ⟨{ s with held := s.held ++ [⟨n, sem, c⟩] }, .inr ⟨ea, n, L, hL, hl8, hwho, by rw [hj]; exact es, t, htn, eu, e0, .inr ⟨eg, hr0.1 e0, c, hc, rfl⟩⟩, q, o5, ⟨hb, hp⟩, U⟩
      · rw [if_neg e0] at lk5 hp
        exact ⟨s, .inl ⟨rfl, .inr (hr.resolve_left e0)⟩, q, o5, ⟨hb, hp⟩, U⟩
end
end Go.Proofs.YtajilfnceoeaiaaGreat.V
/- The kernel's functions: tick. -/
namespace Go.Proofs.YtajilfnceoeaiaaGreat.V
open Go Go.RowKit Enc
set_option maxRecDepth 100000
section
variable {o o' : Own} {w w' : World} {m : Mach} {q : KPtr} {s : KS} {a : Nat} {C : Nat → Bool}
def TickOne (m : Mach) (E : Int) (s s' : KS) : Prop := s.now < E ∧ ∃ s1, StepR m s s1 ∧ BoundR m s1 s'
def endT (m : Mach) (s : KS) (n : Int) : Int := if m.p.horizon < s.now + n then m.p.horizon else s.now + n
def TickR (m : Mach) (s : KS) (n e : Int) (s' : KS) : Prop :=
  (e = 1 ∧ ¬ (0 ≤ n ∧ n ≤ 16384) ∧ s' = s) ∨ (e = 0 ∧ 0 ≤ n ∧ n ≤ 16384 ∧ Star (TickOne m (endT m s n)) s s' ∧ endT m s n ≤ s'.now)
theorem tickOne_inv {A B : Nat} {E : Int} {s s' : KS} (hE : E ≤ 16384) (h : TickOne m E s s') (iv : KInv m A B s) : KInv m A B s' ∧ psi m s' < psi m s := by
  obtain ⟨hn, s1, h1, h2⟩ := h
  obtain ⟨i1, p1⟩ := stepR_inv iv (by omega) h1
  obtain ⟨i2, p2, _⟩ := h2.inv i1
  exact ⟨i2, Nat.lt_of_le_of_lt p2 p1⟩
theorem tick_spec (h : KRep o w m a q s) {A B : Nat} (iv : KInv m A B s) (n : Int) : Call P 64 [vP a, .int .i64 n] [sI] (fun e w' => ∃ s', TickR m s n e s' ∧ KInv m A B s' ∧ KA o w m a s' w') w := by
  refine f64_of _ _ ((within_spec n 0 16384 w).imp1 ?_)
  rintro b w1 ⟨rfl, hb⟩
  refine If_not (If_b (fun e1 => ?_) fun e1 => ?_)
  · have hn := hb.1 e1
    have hnow := iv.now
    have hhor := iv.mok.hor
    have ud : Up no o w1 o w1.drew := .drew
    have h := h.upno ud
    refine WA (h.b.bx.ld (x := s.now) rfl (WA (h.b.bx.ld0 (c := .ki .i64) (x := m.p.horizon) rfl ?_)))
    have hE : (if m.p.horizon < IntKind.wrap .i64 (s.now + n) then m.p.horizon else IntKind.wrap .i64 (s.now + n)) = endT m s n := by
      rw [wz_id (by omega) (by omega)]
      rfl
    have hE6 : endT m s n ≤ 16384 := by unfold endT; split <;> omega
    let R : KS → World → Prop := fun s1 w' => Star (TickOne m (endT m s n)) s s1 ∧ KInv m A B s1 ∧ ∃ q' o', KRep o' w' m a q' s1 ∧ Up kl o w1 o' w'
    refine ⟨fun w' => ∃ s1, R s1 w', gM R (psi m), ⟨s, .refl, iv, q, o, h, ud.of_no⟩, ?_⟩
    intro v hv _
    obtain ⟨s1, ⟨st, iv1, q1, o1, h, U⟩, hmin⟩ := gM_min (μ := psi m) hv
    refine WA (h.b.bx.ld (x := s1.now) rfl ?_)
    rw [hE]
    refine If_d (fun hlt => ?_) fun hlt => ?_
    · have hlt : s1.now < endT m s n := hlt
      have hs := step_spec h iv1
      refine hs.imp0 ?_
      rintro w2 ⟨s2, hs2, q2, o2, h2, u2⟩
      obtain ⟨iv2, p2⟩ := stepR_inv iv1 (by omega) hs2
      have hbd := boundary_spec h2 iv2
      refine hbd.imp0 ?_
      rintro w3 ⟨s3, hs3, q3, o3, h3, u3⟩
      obtain ⟨iv3, p3, _⟩ := hs3.inv iv2
      have hR : R s3 w3 := ⟨.tail st ⟨hlt, s2, hs2, hs3⟩, iv3, q3, o3, h3, (U.trans u2).trans u3⟩
      refine ⟨⟨s3, hR⟩, ?_⟩
      have := gM_le (μ := psi m) hR
      rw [← hmin]
      omega
    · exact ⟨s1, .inr ⟨rfl, hn.1, hn.2, st, Int.not_lt.1 hlt⟩, iv1, q1, o1, h, U⟩
  · exact ⟨s, .inl ⟨rfl, fun h => (by rw [hb.2 h] at e1; cases e1), rfl⟩, iv, q, o, h, .refl⟩
end
end Go.Proofs.YtajilfnceoeaiaaGreat.V
/- The kernel's functions: take, remove, start. -/
namespace Go.Proofs.YtajilfnceoeaiaaGreat.V
open Go Go.RowKit Enc
set_option maxRecDepth 100000
section
variable {o o' : Own} {w w' : World} {m : Mach} {q : KPtr} {s : KS} {a : Nat} {C : Nat → Bool}
theorem setChan_up {b : Nat} {x : Obj} (h : Blk o w 9 b x) (cap : Nat) (buf : Array Value) (s n : Nat) : Blk o (w.setChan b cap buf false s n false) 9 b (.chan cap buf false s n false) ∧ Up (only [9]) o w o (w.setChan b cap buf false s n false) := by
  have h2 := up_set (y := .chan cap buf false s n false) h (.chan cap buf false s n false)
  exact h2
theorem sel_of {b k : Nat} {v : Value} {K L : World → Prop} (h : ChanR o w b k) (hK : k < 6 → ∀ w', ChanR o w' b (k + 1) → Up (only [9]) o w o w' → K w') (hL : 6 ≤ k → L w) : Sel (some b) v K L w := by
  obtain ⟨buf, sent, rcv, h1, h2⟩ := h
  refine ⟨b, 6, buf, sent, rcv, rfl, h1.heap, fun hlt => ?_, fun hle => hL (by omega)⟩
  obtain ⟨b1, u1⟩ := setChan_up h1 6 (buf.push v) (sent + 1) rcv
  exact hK (by omega) _ ⟨_, _, _, b1, by simp [h2]⟩ u1
theorem rv_of {b k : Nat} {K : Value → World → Prop} (h : ChanR o w b (k + 1)) (hK : ∀ v w', ChanR o w' b k → Up (only [9]) o w o w' → K v w') : Rv (some b) K w := by
  obtain ⟨buf, sent, rcv, h1, h2⟩ := h
  obtain ⟨b1, u1⟩ := setChan_up h1 6 (buf.extract 1 buf.size) sent (rcv + 1)
  exact ⟨b, 6, buf, sent, rcv, rfl, h1.heap, by omega, hK _ _ ⟨_, _, _, b1, by simp; omega⟩ u1⟩
theorem take_spec' (h : KRep o w m a q s) : Call P 94 [vP a] [sB] (fun b w' => (b = true ↔ s.places < 6) ∧ ∃ s', s' = (if b then { s with places := s.places + 1 } else s) ∧ KRep o w' m a q s' ∧ Up kc o w o w') w := by
  refine f94_of _ (WA (h.b.bx.ld (c := .kc) (x := some q.ch) rfl ?_))
  refine sel_of h.p.C (fun hlt w1 c1 u1 => ?_) fun hle => ?_
  · refine If_t ⟨⟨fun _ => hlt, fun _ => rfl⟩, _, rfl, ?_, u1.k1 (by omega)⟩
    rw [if_pos rfl]
    exact ⟨h.b.up u1 rfl, h.p.chC c1 u1 fun d hd => one_no hd⟩
  · refine If_f ⟨⟨fun h => absurd h (by decide), fun h => by omega⟩, s, by rw [if_neg (by decide)], h, .refl⟩
def noTask : ATask := ⟨⟨0, 0, ⟨none, 0, 0⟩, ⟨none, 0, 0⟩⟩, [], []⟩
theorem noTaskR : TaskR o w noTask := ⟨RL.nil rfl, RL.nil rfl⟩
theorem busy_pos {T : List ATask} {n : Nat} {t : ATask} (ht : T[n]? = some t) (hp : t.t.period > 0) : 0 < busy T := by
  unfold busy thereZ
  refine List.length_pos_of_mem (a := t) (List.mem_filter.2 ⟨List.mem_of_getElem? ht, ?_⟩)
  simp
  omega
def RemoveR (s : KS) (n e : Int) (s' : KS) : Prop :=
  (s' = s ∧ ((¬ hasZ s n ∧ e = 6) ∨ (hasZ s n ∧ ((s.jobs n).isSome = true ∨ (s.lat n).isSome = true ∨ s.held ≠ []) ∧ e = 8))) ∨
  (hasZ s n ∧ s.jobs n = none ∧ s.lat n = none ∧ s.held = [] ∧ e = 0 ∧ s' = { s with T := s.T.set n.toNat noTask, N := s.N.set n.toNat 0, U := s.U.set n.toNat 0, places := s.places - 1 })
theorem remove_spec (h : KRep o w m a q s) {A B : Nat} (iv : KInv m A B s) (n : Int) : Call P 62 [vP a, .int .i64 n] [sI] (fun e w' => ∃ s', RemoveR s n e s' ∧ KA o w m a s' w') w := by
  have hh := has_spec h n
  refine f62_of _ _ (hh.imp1 ?_)
  rintro b w1 ⟨rfl, hb⟩
  refine If_not (If_b (fun e1 => ?_) fun e1 => ⟨s, .inl ⟨rfl, .inl ⟨fun h => (by rw [hb.2 h] at e1; cases e1), rfl⟩⟩, q, o, h, .refl⟩)
  have hz := hb.1 e1
  refine WA (h.b.bx.ld (x := some ⟨q.set, 0, none⟩) rfl ?_)
  have hg := get_spec h.p.set n
  refine hg.impJb ?_
  rintro n1 n2 n3 n4 n5 b6 b7 w2 ⟨u2, _, rfl⟩
  have h := h.below u2
  refine NewSt_blk o 90 (by rfl) fun b1 o3 w3 k3 u3 _ => ?_
  have h := h.upno u3
  have U : Up kl o w1 o3 w3 := (Up.of_below u2).trans u3.of_no
  refine If_b (fun e => ⟨s, .inl ⟨rfl, .inr ⟨hz, .inl e, rfl⟩⟩, q, o3, h, U⟩) fun ej => ?_
  refine WA (h.b.bx.ld (x := some ⟨q.la, 0, none⟩) rfl ?_)
  have hw := waits_spec h.p.la n
  refine hw.imp1 ?_
  rintro b4 w4 ⟨rfl, rfl⟩
  refine If_b (fun e => ⟨s, .inl ⟨rfl, .inr ⟨hz, .inr (.inl e), rfl⟩⟩, q, o3, h, U⟩) fun el => ?_
  refine WA (h.b.bx.ld (x := some ⟨q.lk, 0, none⟩) rfl ?_)
  have hl := locksList_spec h.p.lk iv.heldl
  refine hl.imp1 ?_
  rintro sH w5 ⟨o5, rH, u5⟩
  have h := h.upno u5
  have U := U.trans u5.of_no
  have hHn := rH.n
  refine If_d (fun e => ⟨s, .inl ⟨rfl, .inr ⟨hz, .inr (.inr fun h0 => ?_), rfl⟩⟩, q, o5, h, U⟩) fun eh => ?_
  · rw [h0] at hHn
    have e : 0 < (sH.n : Int) := e
    rw [hHn] at e
    exact absurd e (by decide)
  · have hnil : s.held = [] := by
      have : ¬ 0 < (sH.n : Int) := eh
      exact List.eq_nil_of_length_eq_zero (by omega)
    have hjn : s.jobs n = none := by
      cases hl : s.jobs n with
      | none => rfl
      | some x => rw [hl] at ej; cases ej
    have hln : s.lat n = none := by
      cases hl : s.lat n with
      | none => rfl
      | some x => rw [hl] at el; cases el
    have ud : Up no o5 w5 o5 w5.drew := .drew
    have h := h.upno ud
    have U := U.trans ud.of_no
    obtain ⟨g0, t, ht, hper⟩ := hz
    obtain ⟨i, hi⟩ : ∃ i : Nat, n = i := ⟨n.toNat, by omega⟩
    have hni : n.toNat = i := by omega
    rw [hni] at ht
    have hT := iv.T
    have hN := iv.N
    have hU := iv.U
    have hi6 : i < 6 := by have := lt_of_get ht; omega
    have hxt : (s.T.map ATask.t)[i]? = some t.t := by rw [List.getElem?_map, ht]; rfl
    refine WA (h.b.bx.ld (x := q.ts) rfl (WA (h.b.bx.ld (x := q.ns) rfl (WA (h.b.bx.ld (x := q.us) rfl ?_)))))
    refine RowL.st (y := noTask.t) h.p.T hi hxt rfl fun w6 r6 u6 => ?_
    have hb := h.b.up u6 rfl
    have r6' : RowL o5 w6 2 37 q.ts ((s.T.set i noTask).map ATask.t) := by rw [List.map_set]; exact r6
    have hp := h.p.chT r6' (fun y hy => by
      rcases List.mem_or_eq_of_mem_set hy with hy | rfl
      · exact (h.p.TR y hy).up u6 rfl
      · exact noTaskR) u6 fun d hd => one_no hd
    have U := U.trans (u6.k1 (by omega)).kkl
    refine RowL.st (y := (0 : Int)) hp.N hi (List.getElem?_eq_getElem (show i < s.N.length by omega)) rfl fun w7 r7 u7 => ?_
    have hb := hb.up u7 rfl
    have hp := hp.chN r7 u7 fun d hd => one_no hd
    have U := U.trans (u7.k1 (by omega)).kkl
    refine RowL.st (y := (0 : Int)) hp.U hi (List.getElem?_eq_getElem (show i < s.U.length by omega)) rfl fun w8 r8 u8 => ?_
    have hb := hb.up u8 rfl
    have hp := hp.chU r8 u8 fun d hd => one_no hd
    have U := U.trans (u8.k1 (by omega)).kkl
    refine WA (hb.bx.ld (c := .kc) (x := some q.ch) rfl ?_)
    have hpl := iv.places
    have hbp := busy_pos ht hper
    have hc := hp.C
    obtain ⟨k, hk⟩ : ∃ k, s.places = k + 1 := ⟨s.places - 1, by omega⟩
    rw [show ({ s with T := s.T.set i noTask, N := s.N.set i 0, U := s.U.set i 0 } : KS).places = k + 1 from hk] at hc
    refine rv_of hc fun v w9 c9 u9 => ?_
    refine ⟨{ s with T := s.T.set n.toNat noTask, N := s.N.set n.toNat 0, U := s.U.set n.toNat 0, places := s.places - 1 }, .inr ⟨⟨g0, t, by rw [hni]; exact ht, hper⟩, hjn, hln, hnil, rfl, rfl⟩, q, o5, ?_, U.trans (u9.k1 (by omega)).kkl⟩
    rw [hni, show s.places - 1 = k by omega]
    exact ⟨hb.up u9 rfl, hp.chC c9 u9 fun d hd => one_no hd⟩
end
end Go.Proofs.YtajilfnceoeaiaaGreat.V
/- The kernel's functions: start. -/
namespace Go.Proofs.YtajilfnceoeaiaaGreat.V
open Go Go.RowKit Enc
set_option maxRecDepth 100000
section
variable {o o' : Own} {w w' : World} {m : Mach} {q : KPtr} {s : KS} {a : Nat} {C : Nat → Bool}
/-- Called, so many times. -/
def CallsR (m : Mach) (now : Int) (D D' : List Away) : Prop :=
  D'.length = D.length ∧ ∀ (i : Nat) (x : Away) (d : Device), m.D[i]? = some d → D[i]? = some x → ∃ (y : Away) (n : Nat), D'[i]? = some y ∧ y = Nat.repeat (fun z => callZ d z now) n x
theorem CallsR.refl {now : Int} {D : List Away} : CallsR m now D D := ⟨rfl, fun _ x _ _ hx => ⟨x, 0, hx, rfl⟩⟩
theorem CallsR.call {now : Int} {D D' : List Away} (h : CallsR m now D D') {i : Nat} {d : Device} {y : Away} (hd : m.D[i]? = some d) (hy : D'[i]? = some y) : CallsR m now D (D'.set i (callZ d y now)) := by
  refine ⟨by simpa using h.1, fun j x e he hx => ?_⟩
  obtain ⟨z, n, h1, h2⟩ := h.2 j x e he hx
  by_cases hj : i = j
  · subst hj
    rw [hd] at he; cases he
    rw [hy] at h1; cases h1
    exact ⟨callZ d y now, n + 1, by rw [List.getElem?_set, if_pos rfl, if_pos (lt_of_get hy)], by rw [h2]; rfl⟩
  · exact ⟨z, n, by rw [List.getElem?_set, if_neg hj]; exact h1, h2⟩
/-- A bound of the moments at which called devices come. -/
def CallB (m : Mach) (now : Int) (D : List Away) (b : Int) : Prop := ∀ (i n : Nat) (x : Away) (d : Device), m.D[i]? = some d → D[i]? = some x → (Nat.repeat (fun z => callZ d z now) (n + 1) x).until_ ≤ b
def startLoop (k : Option Addr) (s77 : Sl) (I0 : Int) (K : Int → World → Prop) (w : World) : Prop :=
 ∃ (I80 : Int → Int → World → Prop) (M81 : Int → Int → World → Nat), I80 I0 0 w ∧ ∀ (n78 : Int) (n79 : Int) (v82 : World), I80 n78 n79 v82 → ∀ _ : Nat → Value,
 (fun w : World =>
 If (decide (n79 < ((s77.n : Nat) : Int))) (
 ((0 : Int) ≤ n79 ∧ n79 < ((s77.n : Nat) : Int)) ∧ WithAddr s77.a fun a83 =>
 Ld (.ki .i64) (a83.add (Int.toNat n79 * 1)) (fun n84 w =>
 (fun w : World =>
 WithAddr k fun a85 =>
 Ld (.ks) (a85.add 23) (fun s86 w =>
 WithAddr k fun a87 =>
 Ld (.ks) ((a87.add 0).add 2) (fun s88 w =>
 ((0 : Int) ≤ n84 ∧ n84 < ((s88.n : Nat) : Int)) ∧ WithAddr s88.a fun a89 =>
 LdN shDevice.cs 0 (a89.add (Int.toNat n84 * 7)) (fun n90 n91 n92 n93 n94 n95 n96 w =>
 WithAddr k fun a97 =>
 Ld (.ks) (a97.add 23) (fun s98 w =>
 ((0 : Int) ≤ n84 ∧ n84 < ((s98.n : Nat) : Int)) ∧ WithAddr s98.a fun a99 =>
 LdN shItem.cs 0 (a99.add (Int.toNat n84 * 2)) (fun n100 n101 w =>
 WithAddr k fun a102 =>
 Ld (.ki .i64) (a102.add 9) (fun n103 w =>
 Call P 131 [.agg #[.int .i64 n90, .int .i64 n91, .int .i64 n92, .int .i64 n93, .int .i64 n94, .int .i64 n95, .int .i64 n96], .agg #[.int .i64 n100, .int .i64 n101], .int .i64 n103] [shAway] (fun n104 n105 w =>
 (w.cell? ((a97.add 23).add 0) = some (.slice s98.a s98.n s98.c)) ∧ (w.cell? (((a87.add 0).add 2).add 0) = some (.slice s88.a s88.n s88.c)) ∧ (w.cell? ((a85.add 23).add 0) = some (.slice s86.a s86.n s86.c)) ∧ ((0 : Int) ≤ n84 ∧ n84 < ((s86.n : Nat) : Int)) ∧ WithAddr s86.a fun a106 =>
 StN [.int .i64 n104, .int .i64 n105] 0 (a106.add (Int.toNat n84 * 2)) (fun w =>
 (fun w : World =>
 WithAddr k fun a107 =>
 Ld (.ks) ((a107.add 0).add 2) (fun s108 w =>
 ((0 : Int) ≤ n84 ∧ n84 < ((s108.n : Nat) : Int)) ∧ WithAddr s108.a fun a109 =>
 LdN shDevice.cs 0 (a109.add (Int.toNat n84 * 7)) (fun n110 n111 n112 n113 n114 n115 n116 w =>
 WithAddr k fun a117 =>
 Ld (.ks) (a117.add 23) (fun s118 w =>
 ((0 : Int) ≤ n84 ∧ n84 < ((s118.n : Nat) : Int)) ∧ WithAddr s118.a fun a119 =>
 LdN shItem.cs 0 (a119.add (Int.toNat n84 * 2)) (fun n120 n121 w =>
 WithAddr k fun a122 =>
 Ld (.ki .i64) (a122.add 9) (fun n123 w =>
 Call P 132 [.agg #[.int .i64 n110, .int .i64 n111, .int .i64 n112, .int .i64 n113, .int .i64 n114, .int .i64 n115, .int .i64 n116], .agg #[.int .i64 n120, .int .i64 n121], .int .i64 n123] [sI] (fun n124 w =>
 (w.cell? ((a117.add 23).add 0) = some (.slice s118.a s118.n s118.c)) ∧ (w.cell? (((a107.add 0).add 2).add 0) = some (.slice s108.a s108.n s108.c)) ∧ If (n124 != 1) (
 WithAddr k fun a125 =>
 Ld (.ks) (a125.add 23) (fun s126 w =>
 ((0 : Int) ≤ n84 ∧ n84 < ((s126.n : Nat) : Int)) ∧ WithAddr s126.a fun a127 =>
 Ld (.ki .i64) ((a127.add (Int.toNat n84 * 2)).add 1) (fun n128 w =>
 I80 (if n128 > n78 then n128 else n78) (IntKind.wrap .i64 (n79 + 1)) w ∧ M81 (if n128 > n78 then n128 else n78) (IntKind.wrap .i64 (n79 + 1)) w < M81 n78 n79 v82) w) w) (
 I80 n78 (IntKind.wrap .i64 (n79 + 1)) w ∧ M81 n78 (IntKind.wrap .i64 (n79 + 1)) w < M81 n78 n79 v82)) w) w) w) w) w) w) w.drew) w) w) w) w) w) w) w) w) w.drew) w) (
 K n78 w)) v82
theorem startLoop_of (h : KRep o w m a q s) (hD : s.devs.length = m.D.length) {sl : Sl} {V : List Int} (hV : RL o w 0 sl V) (hVd : ∀ d ∈ V, 0 ≤ d ∧ d < m.D.length) (hVl : V.length ≤ 1000) (I0 : Int) {K : Int → World → Prop}
    (hK : ∀ r D w', CallsR m s.now s.devs D → I0 ≤ r → (V = [] → r = I0) → (∀ b, I0 ≤ b → CallB m s.now s.devs b → r ≤ b) → (∃ o', KRep o' w' m a q { s with devs := D } ∧ Up kc o w o' w') → K r w') : startLoop (some ⟨a, 0, none⟩) sl I0 K w := by
  have hn := hV.n
  refine ⟨fun r i w' => ∃ (k : Nat) (D : List Away), i = k ∧ k ≤ V.length ∧ I0 ≤ r ∧ ((V = [] → r = I0) ∧ ∀ b, I0 ≤ b → CallB m s.now s.devs b → r ≤ b) ∧ CallsR m s.now s.devs D ∧ KRep o w' m a q { s with devs := D } ∧ RL o w' 0 sl V ∧ Up kc o w o w', fun _ i _ => V.length - i.toNat, ⟨0, s.devs, rfl, Nat.zero_le _, Int.le_refl _, ⟨fun _ => rfl, fun _ h _ => h⟩, .refl, h, hV, .refl⟩, ?_⟩
  rintro (r : Int) i v ⟨k, D, rfl, hk, hr, hr0, hc, h, hV, U⟩ _
  refine If_d (fun hlt => ?_) fun hlt => hK r D v hc hr hr0.1 hr0.2 ⟨o, h, U⟩
  have hlt : k < sl.n := Int.ofNat_lt.1 hlt
  have hme : V.length - Int.toNat ((k : Int) + 1) < V.length - Int.toNat (k : Int) := by omega
  obtain ⟨dv, hdv⟩ : ∃ dv, V[k]? = some dv := ⟨V[k]'(by omega), List.getElem?_eq_getElem (by omega)⟩
  obtain ⟨g0, g1⟩ := hVd dv (List.mem_of_getElem? hdv)
  obtain ⟨j, rfl⟩ : ∃ j : Nat, dv = j := ⟨dv.toNat, by omega⟩
  obtain ⟨d, hd⟩ : ∃ d, m.D[j]? = some d := ⟨m.D[j]'(by omega), List.getElem?_eq_getElem (by omega)⟩
  have hDl := hc.1
  obtain ⟨x, hx⟩ : ∃ x, D[j]? = some x := ⟨D[j]'(by omega), List.getElem?_eq_getElem (by omega)⟩
  refine hV.int rfl hdv ?_
  have ud : Up no o v o v.drew := .drew
  have h := h.upno ud
  have hV := hV.up ud rfl
  have U := U.trans ud.of_no
  refine WA (h.b.bx.ld (x := q.ds) rfl (WA (h.b.bx.ld0 (x := m.p.devices) rfl (h.p.mR.D.device rfl hd (WA (h.b.bx.ld (x := q.ds) rfl (RL.away' h.p.D.rl rfl hx (WA (h.b.bx.ld (x := s.now) rfl ?_)))))))))
  have hcl := dcall_spec d x s.now v.drew
  refine hcl.impI2 ?_
  rintro n1 n2 w2 ⟨u2, e⟩
  have u2' : Up no o v.drew o w2 := Up.of_below u2
  have h := h.upno u2'
  have hV := hV.up u2' rfl
  have U := U.trans u2'.of_no
  refine ⟨by (first | (apply Bx.get0f; apply Blk.bx; assumption; rfl) | (apply Bx.get0f; apply Blk.bx; apply KRep.b; assumption; rfl) | (apply Bx.get0f; assumption; rfl) | (apply Bx.get00; apply Blk.bx; apply KRep.b; assumption; rfl) | (apply Bx.get0; apply Blk.bx; apply KRep.b; assumption; rfl) | (apply Bx.get00; apply Blk.bx; assumption; rfl) | (apply Bx.get00; assumption; rfl) | (apply Bx.getAt; assumption; rfl) | (apply Bx.get0; assumption; rfl) | (apply Bx.get; assumption; rfl) | (apply Bx.get0; apply Blk.bx; assumption; rfl) | (apply Bx.get; apply Blk.bx; assumption; rfl)), by (first | (apply Bx.get0f; apply Blk.bx; assumption; rfl) | (apply Bx.get0f; apply Blk.bx; apply KRep.b; assumption; rfl) | (apply Bx.get0f; assumption; rfl) | (apply Bx.get00; apply Blk.bx; apply KRep.b; assumption; rfl) | (apply Bx.get0; apply Blk.bx; apply KRep.b; assumption; rfl) | (apply Bx.get00; apply Blk.bx; assumption; rfl) | (apply Bx.get00; assumption; rfl) | (apply Bx.getAt; assumption; rfl) | (apply Bx.get0; assumption; rfl) | (apply Bx.get; assumption; rfl) | (apply Bx.get0; apply Blk.bx; assumption; rfl) | (apply Bx.get; apply Blk.bx; assumption; rfl)), by (first | (apply Bx.get0f; apply Blk.bx; assumption; rfl) | (apply Bx.get0f; apply Blk.bx; apply KRep.b; assumption; rfl) | (apply Bx.get0f; assumption; rfl) | (apply Bx.get00; apply Blk.bx; apply KRep.b; assumption; rfl) | (apply Bx.get0; apply Blk.bx; apply KRep.b; assumption; rfl) | (apply Bx.get00; apply Blk.bx; assumption; rfl) | (apply Bx.get00; assumption; rfl) | (apply Bx.getAt; assumption; rfl) | (apply Bx.get0; assumption; rfl) | (apply Bx.get; assumption; rfl) | (apply Bx.get0; apply Blk.bx; assumption; rfl) | (apply Bx.get; apply Blk.bx; assumption; rfl)), RowL.st (y := (⟨n1, n2⟩ : Away)) h.p.D rfl hx rfl fun w3 r3 u3 => ?_⟩
  have ud3 : Up no o w3 o w3.drew := .drew
  have hb := (h.b.up u3 rfl).up ud3 rfl
  have hp := (h.p.chD r3 u3 fun d hd => one_no hd).upno ud3
  have hV := (hV.up u3 rfl).up ud3 rfl
  have U := (U.trans (u3.k1 (by omega))).trans ud3.of_no
  rw [e] at hp
  have hc2 := hc.call hd hx
  have h : KRep o w3.drew m a q { s with devs := D.set j (callZ d x s.now) } := ⟨hb, hp⟩
  have hx2 : (D.set j (callZ d x s.now))[j]? = some (callZ d x s.now) := by rw [List.getElem?_set, if_pos rfl, if_pos (lt_of_get hx)]
  refine WA (h.b.bx.ld0 (x := m.p.devices) rfl (h.p.mR.D.device rfl hd (WA (h.b.bx.ld (x := q.ds) rfl (RL.away' h.p.D.rl rfl hx2 (WA (h.b.bx.ld (x := s.now) rfl ?_)))))))
  have hst := state_spec d (callZ d x s.now) s.now w3.drew
  refine hst.imp1 ?_
  rintro st w4 ⟨u4, _⟩
  have u4' : Up no o w3.drew o w4 := Up.of_below u4
  have h := h.upno u4'
  have hV := hV.up u4' rfl
  have U := U.trans u4'.of_no
  rw [wz_id (x := (k : Int) + 1) (by omega) (by omega)]
  refine ⟨by (first | (apply Bx.get0f; apply Blk.bx; assumption; rfl) | (apply Bx.get0f; apply Blk.bx; apply KRep.b; assumption; rfl) | (apply Bx.get0f; assumption; rfl) | (apply Bx.get00; apply Blk.bx; apply KRep.b; assumption; rfl) | (apply Bx.get0; apply Blk.bx; apply KRep.b; assumption; rfl) | (apply Bx.get00; apply Blk.bx; assumption; rfl) | (apply Bx.get00; assumption; rfl) | (apply Bx.getAt; assumption; rfl) | (apply Bx.get0; assumption; rfl) | (apply Bx.get; assumption; rfl) | (apply Bx.get0; apply Blk.bx; assumption; rfl) | (apply Bx.get; apply Blk.bx; assumption; rfl)), by (first | (apply Bx.get0f; apply Blk.bx; assumption; rfl) | (apply Bx.get0f; apply Blk.bx; apply KRep.b; assumption; rfl) | (apply Bx.get0f; assumption; rfl) | (apply Bx.get00; apply Blk.bx; apply KRep.b; assumption; rfl) | (apply Bx.get0; apply Blk.bx; apply KRep.b; assumption; rfl) | (apply Bx.get00; apply Blk.bx; assumption; rfl) | (apply Bx.get00; assumption; rfl) | (apply Bx.getAt; assumption; rfl) | (apply Bx.get0; assumption; rfl) | (apply Bx.get; assumption; rfl) | (apply Bx.get0; apply Blk.bx; assumption; rfl) | (apply Bx.get; apply Blk.bx; assumption; rfl)), If_ne (fun _ => ?_) fun _ => ⟨⟨k + 1, _, by omega, by omega, hr, hr0, hc2, h, hV, U⟩, hme⟩⟩
  refine WA (h.b.bx.ld (x := q.ds) rfl (h.p.D.rl.fld (f := 1) (e := .ki .i64) (y := (callZ d x s.now).until_) rfl hx2 rfl rfl ⟨⟨k + 1, _, by omega, by omega, ?_, ⟨fun h0 => (by rw [h0] at hdv; cases hdv), fun b hb hcb => ?_⟩, hc2, h, hV, U⟩, hme⟩))
  have hmx : ∀ u : Int, I0 ≤ (if u > r then u else r) := fun u => by split <;> omega
  · exact hmx _
  · have hrb := hr0.2 b hb hcb
    obtain ⟨x0, hx0⟩ : ∃ x0, s.devs[j]? = some x0 := ⟨s.devs[j]'(by omega), List.getElem?_eq_getElem (by omega)⟩
    obtain ⟨y, n, hy, he⟩ := hc.2 j x0 d hd hx0
    rw [hx] at hy
    cases hy
    have hcall := hcb j n x0 d hd hx0
    have hrep : Nat.repeat (fun z => callZ d z s.now) (n + 1) x0 = callZ d x s.now := by rw [he]; rfl
    rw [hrep] at hcall
    show (if (callZ d x s.now).until_ > r then (callZ d x s.now).until_ else r) ≤ b
    split
    · exact hcall
    · exact hrb
theorem last_le {f : Int → Option Job} {L : List Job} (hL : ListOf f L) (hf : ∀ k x, f k = some x → x.task = k) {n : Int} (hn : n = (match L.getLast? with | some x => x.deadline | none => 0)) : ∀ k x, f k = some x → x.deadline ≤ n := by
  intro k x hk
  have hm : x ∈ L := (hL.iff x).2 (by rw [hf k x hk]; exact hk)
  obtain ⟨i, hi⟩ := List.mem_iff_getElem?.1 hm
  have hlt := lt_of_get hi
  rw [List.getLast?_eq_getElem?, List.getElem?_eq_getElem (by omega)] at hn
  dsimp only at hn
  by_cases e : i = L.length - 1
  · subst e
    rw [List.getElem?_eq_getElem (by omega)] at hi
    rw [hn, Option.some.inj hi]
    exact Int.le_refl _
  · have := hL.sorted i (L.length - 1) x _ (by omega) hi (List.getElem?_eq_getElem (by omega))
    rw [hn]
    simp only [Job.lt] at this
    omega
/-- The longest period. -/
def longZ1 (T : List ATask) : Int := T.foldl (fun a x => if x.t.period > a then x.t.period else a) 0
theorem longZ1_ge (T : List ATask) : ∀ x ∈ T, x.t.period ≤ longZ1 T := by
  have key : ∀ (l : List ATask) (a : Int), a ≤ l.foldl (fun a x => if x.t.period > a then x.t.period else a) a ∧ ∀ x ∈ l, x.t.period ≤ l.foldl (fun a x => if x.t.period > a then x.t.period else a) a := by
    intro l
    induction l with
    | nil => exact fun a => ⟨Int.le_refl _, fun x hx => by cases hx⟩
    | cons y l ih =>
      intro a
      obtain ⟨h1, h2⟩ := ih (if y.t.period > a then y.t.period else a)
      have h3 : a ≤ (if y.t.period > a then y.t.period else a) ∧ y.t.period ≤ (if y.t.period > a then y.t.period else a) := by split <;> omega
      refine ⟨Int.le_trans h3.1 h1, fun x hx => ?_⟩
      rcases List.mem_cons.1 hx with rfl | hx
      · exact Int.le_trans h3.2 h1
      · exact h2 x hx
  exact (key T 0).2
/-- From when on a new task's jobs may come. -/
def StartR (m : Mach) (s : KS) (t : ATask) (r : Int) (s' : KS) : Prop := ∃ D, s' = { s with devs := D } ∧ CallsR m s.now s.devs D ∧ s.now ≤ r ∧ (∀ k x, s.jobs k = some x → x.deadline ≤ r) ∧ (s.asleep = true → wz (s.wake + longZ1 s.T) ≤ r) ∧
  (∀ b, 0 ≤ b → s.now ≤ b → (∀ k x, s.jobs k = some x → x.deadline ≤ b) → (s.asleep = true → wz (s.wake + longZ1 s.T) ≤ b) → CallB m s.now s.devs b → r ≤ b) ∧
  (s.asleep = false → t.devs = [] → (∀ k, s.jobs k = none) → r = if 0 > s.now then 0 else s.now)
theorem start_spec (h : KRep o w m a q s) (hjb : ∀ k x, s.jobs k = some x → x.task = k) (hDl : s.devs.length = m.D.length) (hT : s.T.length = 6) {t : ATask} (ht : TaskR o w t) (htd : ∀ d ∈ t.devs, 0 ≤ d ∧ d < m.D.length) (htl : t.devs.length ≤ 1000) : Call P 99 [vP a, t.t.v] [sI] (fun r w' => ∃ s', StartR m s t r s' ∧ KA o w m a s' w') w := by
  refine f99_of _ _ (New_blk o 90 fun b1 o1 w1 k1 u1 _ => ?_)
  have ud : Up no o w o1 w1.drew := u1.trans .drew
  have h := h.upno ud
  have k1 := k1.up (C := no) (o' := o1) (w' := w1.drew) .drew rfl
  have ht := ht.up ud rfl
  have U : Up kl o w o1 w1.drew := ud.of_no
  refine WA (h.b.bx.ld (x := s.now) rfl (WA (h.b.bx.ld (x := some ⟨q.set, 0, none⟩) rfl ?_)))
  have hla := last_spec h.p.set
  refine hla.imp1 ?_
  rintro (n : Int) w2 ⟨⟨L, hL, _, hn⟩, u2⟩
  have u2' : Up no o1 w1.drew o1 w2 := Up.of_below u2
  have h := h.upno u2'
  have k1 := k1.up u2' rfl
  have ht := ht.up u2' rfl
  have U := U.trans u2'.of_no
  have hle := last_le hL hjb hn
  have hn0 : (∀ k, s.jobs k = none) → n = 0 := fun hj => by
    have : L = [] := by
      cases L with
      | nil => rfl
      | cons x L =>
        have := (hL.iff x).1 (.head _)
        rw [hj] at this
        cases this
    rw [this] at hn
    exact hn
  have hnB : ∀ b : Int, 0 ≤ b → (∀ k x, s.jobs k = some x → x.deadline ≤ b) → n ≤ b := fun b h0 hb => by
    rw [hn]
    cases hl : L.getLast? with
    | none => exact h0
    | some x => exact hb _ x ((hL.iff x).1 (List.mem_of_getLast? hl))
  have fin : ∀ (o3 : Own) (w3 : World) (I0 : Int), KRep o3 w3 m a q s → TaskR o3 w3 t → Up kl o w o3 w3 → (if n > s.now then n else s.now) ≤ I0 → (s.asleep = true → wz (s.wake + longZ1 s.T) ≤ I0) → (s.asleep = false → I0 = (if n > s.now then n else s.now)) → (∀ b, (if n > s.now then n else s.now) ≤ b → (s.asleep = true → wz (s.wake + longZ1 s.T) ≤ b) → I0 ≤ b) → ∀ K : Int → World → Prop, (∀ r w', (∃ s', StartR m s t r s' ∧ KA o w m a s' w') → K r w') → startLoop (some ⟨a, 0, none⟩) t.t.devs I0 K w3 := by
    intro o3 w3 I0 h ht U hI hA hB hZ K hK
    refine startLoop_of h hDl ht.devs htd htl I0 fun r D w' hc hr hr0 hrb ⟨o', h', u'⟩ => hK r w' ⟨_, ⟨D, rfl, hc, ?_, fun k x hk => ?_, fun ha => Int.le_trans (hA ha) hr, fun b hb0 hbn hbj hba hbc => hrb b (hZ b ?_ hba) hbc, fun ha hd hj => ?_⟩, q, o', h', U.trans u'.kkl⟩
    · have : s.now ≤ (if n > s.now then n else s.now) := by split <;> omega
      omega
    · have h1 := hle k x hk
      have : n ≤ (if n > s.now then n else s.now) := by split <;> omega
      omega
    · have hnb := hnB b hb0 hbj
      split
      · exact hnb
      · exact hbn
    · rw [hr0 hd, hB ha, hn0 hj]
  refine ⟨by (first | (apply Bx.get0f; apply Blk.bx; assumption; rfl) | (apply Bx.get0f; apply Blk.bx; apply KRep.b; assumption; rfl) | (apply Bx.get0f; assumption; rfl) | (apply Bx.get00; apply Blk.bx; apply KRep.b; assumption; rfl) | (apply Bx.get0; apply Blk.bx; apply KRep.b; assumption; rfl) | (apply Bx.get00; apply Blk.bx; assumption; rfl) | (apply Bx.get00; assumption; rfl) | (apply Bx.getAt; assumption; rfl) | (apply Bx.get0; assumption; rfl) | (apply Bx.get; assumption; rfl) | (apply Bx.get0; apply Blk.bx; assumption; rfl) | (apply Bx.get; apply Blk.bx; assumption; rfl)), WA (h.b.bx.ld (c := .kb) (x := s.asleep) rfl (If_b (fun ea => ?_) fun ea => ?_))⟩
  · refine WA (h.b.bx.ld (x := q.ts) rfl ?_)
    have hTn := h.p.T.n
    rw [List.length_map] at hTn
    refine ⟨fun l i w' => ∃ k : Nat, i = k ∧ k ≤ s.T.length ∧ l = longZ1 (s.T.take k) ∧ Up no o1 w2 o1 w', fun _ i _ => s.T.length - i.toNat, ⟨0, rfl, Nat.zero_le _, rfl, .refl⟩, ?_⟩
    rintro (l : Int) i v ⟨k, rfl, hk, rfl, u⟩ _
    have h := h.upno u
    have k1 := k1.up u rfl
    have ht := ht.up u rfl
    have U := U.trans u.of_no
    refine If_d (fun hlt => ?_) fun hlt => ?_
    · have hlt : k < q.ts.n := Int.ofNat_lt.1 hlt
      have hkT : k < s.T.length := by omega
      have hx : (s.T.map ATask.t)[k]? = some s.T[k].t := by simp [hkT]
      refine h.p.T.rl.task rfl hx (NewSt_of (by rfl) fun b2 w3 c3 u3 => c3.ld (x := s.T[k].t.period) rfl ?_)
      rw [wz_id (x := (k : Int) + 1) (by omega) (by omega)]
      refine ⟨⟨k + 1, by omega, by omega, ?_, u.trans (Up.of_below u3)⟩, by show s.T.length - Int.toNat ((k : Int) + 1) < s.T.length - Int.toNat (k : Int); omega⟩
      rw [take_succ_get (List.getElem?_eq_getElem hkT)]
      unfold longZ1
      rw [List.foldl_append]
      rfl
    · have hkT : k = s.T.length := by
        have hlt : ¬ k < q.ts.n := fun h => hlt (Int.ofNat_lt.2 h)
        omega
      refine WA (h.b.bx.ld (c := .ki .i64) (x := s.wake) rfl (k1.bx.ld (x := t.t.devs) rfl ?_))
      have hmx : ∀ u b : Int, b ≤ (if u > b then u else b) ∧ u ≤ (if u > b then u else b) := fun u b => by split <;> omega
      refine fin o1 v _ h ht U (hmx _ _).1 (fun _ => ?_) (fun he => (by rw [ea] at he; cases he)) (fun b hb1 hb2 => ?_) _ fun r w' h' => h'
      · have := (hmx (wz (s.wake + longZ1 s.T)) (if n > s.now then n else s.now)).2
        rw [hkT, List.take_length]
        exact this
      · have hb2 := hb2 ea
        rw [hkT, List.take_length]
        show (if wz (s.wake + longZ1 s.T) > (if n > s.now then n else s.now) then wz (s.wake + longZ1 s.T) else (if n > s.now then n else s.now)) ≤ b
        generalize (if n > s.now then n else s.now) = z at hb1
        split <;> omega
  · refine k1.bx.ld (x := t.t.devs) rfl ?_
    exact fin o1 w2 _ h ht U (Int.le_refl _) (fun he => (by rw [ea] at he; cases he)) (fun _ => rfl) (fun _ h _ => h) _ fun r w' h' => h'
end
end Go.Proofs.YtajilfnceoeaiaaGreat.V
/- A task of its own memory; the kernel's function admit. -/
namespace Go.Proofs.YtajilfnceoeaiaaGreat.V
open Go Go.RowKit Enc
set_option maxRecDepth 100000
theorem Call.impT {w : World} {P : Program} {f : FuncId} {args : List Value} {K K' : Int → Int → Sl → Sl → World → Prop} (h : Call P f args [shTask] K w) (hk : ∀ a b c d w', K a b c d w' → K' a b c d w') : Call P f args [shTask] K' w :=
  Calls.mono h fun _ w' ⟨a, b, c, d, h1, h2⟩ => ⟨a, b, c, d, h1, hk _ _ _ _ w' h2⟩
section
variable {o o' : Own} {w w' : World} {m : Mach} {q : KPtr} {s : KS} {a : Nat} {C : Nat → Bool}
theorem own_spec {x : ATask} (h : TaskR o w x) (h1 : x.sec.length ≤ 1000) (h2 : x.devs.length ≤ 1000) :
    Call P 41 [x.t.v] [shTask] (fun a b c d w' => a = x.t.period ∧ b = x.t.cycles ∧ ∃ o', TaskR o' w' ⟨⟨a, b, c, d⟩, x.sec, x.devs⟩ ∧ Up no o w o' w') w := by
  refine f41_of _ (New_blk o 90 fun b1 o1 w1 k1 u1 hb1 => New_blk o1 91 fun b2 o2 w2 k2 u2 hb2 => ?_)
  have ud : Up no o1 w1 o2 w2.drew := u2.trans .drew
  have U := u1.trans ud
  have h := h.up U rfl
  have k1 := k1.up ud rfl
  have k2 := k2.up (C := no) (o' := o2) (w' := w2.drew) .drew rfl
  refine k1.bx.ld (x := x.t.sec) rfl (k1.bx.ld (x := x.t.devs) rfl ?_)
  have hc := cloneInt_spec h.sec (by omega) 0
  refine hc.imp1 ?_
  rintro s5 w3 ⟨o3, r5, _, c5, u3⟩
  have h := h.up u3 rfl
  have k1 := k1.up u3 rfl
  have k2 := k2.up u3 rfl
  have U := U.trans u3
  refine ⟨by (first | (apply Bx.get0f; apply Blk.bx; assumption; rfl) | (apply Bx.get0f; apply Blk.bx; apply KRep.b; assumption; rfl) | (apply Bx.get0f; assumption; rfl) | (apply Bx.get00; apply Blk.bx; apply KRep.b; assumption; rfl) | (apply Bx.get0; apply Blk.bx; apply KRep.b; assumption; rfl) | (apply Bx.get00; apply Blk.bx; assumption; rfl) | (apply Bx.get00; assumption; rfl) | (apply Bx.getAt; assumption; rfl) | (apply Bx.get0; assumption; rfl) | (apply Bx.get; assumption; rfl) | (apply Bx.get0; apply Blk.bx; assumption; rfl) | (apply Bx.get; apply Blk.bx; assumption; rfl)), ?_⟩
  have hp := clipInt_spec r5 c5
  refine hp.imp1 ?_
  rintro s6 w3' ⟨rfl, r6⟩
  refine ⟨by (first | (apply Bx.get0f; apply Blk.bx; assumption; rfl) | (apply Bx.get0f; apply Blk.bx; apply KRep.b; assumption; rfl) | (apply Bx.get0f; assumption; rfl) | (apply Bx.get00; apply Blk.bx; apply KRep.b; assumption; rfl) | (apply Bx.get0; apply Blk.bx; apply KRep.b; assumption; rfl) | (apply Bx.get00; apply Blk.bx; assumption; rfl) | (apply Bx.get00; assumption; rfl) | (apply Bx.getAt; assumption; rfl) | (apply Bx.get0; assumption; rfl) | (apply Bx.get; assumption; rfl) | (apply Bx.get0; apply Blk.bx; assumption; rfl) | (apply Bx.get; apply Blk.bx; assumption; rfl)), by (first | (apply Bx.get0f; apply Blk.bx; assumption; rfl) | (apply Bx.get0f; apply Blk.bx; apply KRep.b; assumption; rfl) | (apply Bx.get0f; assumption; rfl) | (apply Bx.get00; apply Blk.bx; apply KRep.b; assumption; rfl) | (apply Bx.get0; apply Blk.bx; apply KRep.b; assumption; rfl) | (apply Bx.get00; apply Blk.bx; assumption; rfl) | (apply Bx.get00; assumption; rfl) | (apply Bx.getAt; assumption; rfl) | (apply Bx.get0; assumption; rfl) | (apply Bx.get; assumption; rfl) | (apply Bx.get0; apply Blk.bx; assumption; rfl) | (apply Bx.get; apply Blk.bx; assumption; rfl)), ?_⟩
  have hc := cloneInt_spec h.devs (by omega) 0
  refine hc.imp1 ?_
  rintro s7 w4 ⟨o4, r7, _, c7, u4⟩
  have k1 := k1.up u4 rfl
  have k2 := k2.up u4 rfl
  have r6 := RL.up r6 u4 rfl
  have U := U.trans u4
  refine ⟨by (first | (apply Bx.get0f; apply Blk.bx; assumption; rfl) | (apply Bx.get0f; apply Blk.bx; apply KRep.b; assumption; rfl) | (apply Bx.get0f; assumption; rfl) | (apply Bx.get00; apply Blk.bx; apply KRep.b; assumption; rfl) | (apply Bx.get0; apply Blk.bx; apply KRep.b; assumption; rfl) | (apply Bx.get00; apply Blk.bx; assumption; rfl) | (apply Bx.get00; assumption; rfl) | (apply Bx.getAt; assumption; rfl) | (apply Bx.get0; assumption; rfl) | (apply Bx.get; assumption; rfl) | (apply Bx.get0; apply Blk.bx; assumption; rfl) | (apply Bx.get; apply Blk.bx; assumption; rfl)), ?_⟩
  have hp := clipInt_spec r7 c7
  refine hp.imp1 ?_
  rintro s8 w4' ⟨rfl, r8⟩
  refine ⟨by (first | (apply Bx.get0f; apply Blk.bx; assumption; rfl) | (apply Bx.get0f; apply Blk.bx; apply KRep.b; assumption; rfl) | (apply Bx.get0f; assumption; rfl) | (apply Bx.get00; apply Blk.bx; apply KRep.b; assumption; rfl) | (apply Bx.get0; apply Blk.bx; apply KRep.b; assumption; rfl) | (apply Bx.get00; apply Blk.bx; assumption; rfl) | (apply Bx.get00; assumption; rfl) | (apply Bx.getAt; assumption; rfl) | (apply Bx.get0; assumption; rfl) | (apply Bx.get; assumption; rfl) | (apply Bx.get0; apply Blk.bx; assumption; rfl) | (apply Bx.get; apply Blk.bx; assumption; rfl)), by (first | (apply Bx.get0f; apply Blk.bx; assumption; rfl) | (apply Bx.get0f; apply Blk.bx; apply KRep.b; assumption; rfl) | (apply Bx.get0f; assumption; rfl) | (apply Bx.get00; apply Blk.bx; apply KRep.b; assumption; rfl) | (apply Bx.get0; apply Blk.bx; apply KRep.b; assumption; rfl) | (apply Bx.get00; apply Blk.bx; assumption; rfl) | (apply Bx.get00; assumption; rfl) | (apply Bx.getAt; assumption; rfl) | (apply Bx.get0; assumption; rfl) | (apply Bx.get; assumption; rfl) | (apply Bx.get0; apply Blk.bx; assumption; rfl) | (apply Bx.get; apply Blk.bx; assumption; rfl)), ?_⟩
  have hs1 : w.heap.size ≤ b1 := by rw [hb1]; exact Nat.le_refl _
  have hs2 : w.heap.size ≤ b2 := by rw [hb2]; exact u1.size
  refine k1.wr (f := 2) (vs := [vS s6]) (by simp) fun w5 k1' hw5 => ?_
  have u5 := hw5.up k1.own
  have k2 := k2.up u5 rfl
  have r6 := RL.up r6 u5 rfl
  have r8 := RL.up r8 u5 rfl
  have U := U.wr hw5 hs1
  refine k1'.wr (f := 3) (vs := [vS s8]) (by simp [splice]) fun w6 k1'' hw6 => ?_
  have u6 := hw6.up k1'.own
  have k2 := k2.up u6 rfl
  have r6 := RL.up r6 u6 rfl
  have r8 := RL.up r8 u6 rfl
  have U := U.wr hw6 hs1
  have k1 : Blk o4 w6 90 b1 (.cells (⟨x.t.period, x.t.cycles, s6, s8⟩ : Task).l.toArray 37 (0, 0)) := k1''
  refine k1.bx.ldTask (x := ⟨x.t.period, x.t.cycles, s6, s8⟩) (k2.wr0 (by rfl) fun w7 k2' hw7 => ?_)
  have u7 := hw7.up k2.own
  have r6 := RL.up r6 u7 rfl
  have r8 := RL.up r8 u7 rfl
  have U := U.wr hw7 hs2
  have k2' : Blk o4 w7 91 b2 (.cells (⟨x.t.period, x.t.cycles, s6, s8⟩ : Task).l.toArray 37 (0, 0)) := k2'
  exact k2'.bx.ldTask (x := ⟨x.t.period, x.t.cycles, s6, s8⟩) ⟨rfl, rfl, o4, ⟨r6, r8⟩, U⟩
/-- What happens to a task that may come. -/
def AdmitTailR (m : Mach) (s : KS) (x : ATask) (n e : Int) (s' : KS) : Prop :=
  (n = 0 ∧ e = 5 ∧ ¬ loadZ m (thereZ s.T ++ [x]) 0 ≤ 4294967296 ∧ s' = s) ∨
  (e = 0 ∧ loadZ m (thereZ s.T ++ [x]) 0 ≤ 4294967296 ∧ ∃ (i : Nat) (y z : ATask) (r : Int) (s1 : KS), n = i ∧ s.T[i]? = some y ∧ y.t.period = 0 ∧ (∀ (j : Nat) (u : ATask), j < i → s.T[j]? = some u → u.t.period ≠ 0) ∧ StartR m { s with places := s.places + 1 } x r s1 ∧
    z.t.period = x.t.period ∧ z.t.cycles = x.t.cycles ∧ z.sec = x.sec ∧ z.devs = x.devs ∧ s' = { s1 with T := s1.T.set i z, N := s1.N.set i r, U := s1.U.set i x.t.cycles })
def admitTail (k : Option Addr) (a1 : Addr) (b38 : Bool) (K : Int → Int → World → Prop) (w : World) : Prop :=
 If (!b38) (
 WithAddr k fun a39 =>
 Ld (.kc) (a39.add 13) (fun c40 w =>
 Rv c40 (fun v w =>
 K 0 5 w) w) w) (
 WithAddr k fun a41 =>
 Ld (.ks) (a41.add 14) (fun s42 w =>
 Call P 97 [.slice s42.a s42.n s42.c, .func (.func 98) #[] #[]] [sI] (fun n43 w =>
 LdN shTask.cs 0 a1 (fun n44 n45 s46 s47 w =>
 Call P 99 [.pointer k, .agg #[.int .i64 n44, .int .i64 n45, .slice s46.a s46.n s46.c, .slice s47.a s47.n s47.c]] [sI] (fun n48 w =>
 (fun w : World =>
 WithAddr k fun a49 =>
 Ld (.ks) (a49.add 14) (fun s50 w =>
 WithAddr k fun a51 =>
 Ld (.ks) (a51.add 15) (fun s52 w =>
 WithAddr k fun a53 =>
 Ld (.ks) (a53.add 16) (fun s54 w =>
 LdN shTask.cs 0 a1 (fun n55 n56 s57 s58 w =>
 Ld (.ki .i64) (a1.add 1) (fun n59 w =>
 Call P 41 [.agg #[.int .i64 n55, .int .i64 n56, .slice s57.a s57.n s57.c, .slice s58.a s58.n s58.c]] [shTask] (fun n60 n61 s62 s63 w =>
 (w.cell? ((a1.add 1).add 0) = some (.int .i64 n59)) ∧ (w.cell? ((a53.add 16).add 0) = some (.slice s54.a s54.n s54.c)) ∧ (w.cell? ((a51.add 15).add 0) = some (.slice s52.a s52.n s52.c)) ∧ (w.cell? ((a49.add 14).add 0) = some (.slice s50.a s50.n s50.c)) ∧ ((0 : Int) ≤ n43 ∧ n43 < ((s50.n : Nat) : Int)) ∧ WithAddr s50.a fun a64 =>
 StN [.int .i64 n60, .int .i64 n61, .slice s62.a s62.n s62.c, .slice s63.a s63.n s63.c] 0 (a64.add (Int.toNat n43 * 4)) (fun w =>
 (w.cell? ((a1.add 1).add 0) = some (.int .i64 n59)) ∧ ((0 : Int) ≤ n43 ∧ n43 < ((s52.n : Nat) : Int)) ∧ WithAddr s52.a fun a65 =>
 StN [.int .i64 n48] 0 (a65.add (Int.toNat n43 * 1)) (fun w =>
 (w.cell? ((a1.add 1).add 0) = some (.int .i64 n59)) ∧ ((0 : Int) ≤ n43 ∧ n43 < ((s54.n : Nat) : Int)) ∧ WithAddr s54.a fun a66 =>
 StN [.int .i64 n59] 0 (a66.add (Int.toNat n43 * 1)) (fun w =>
 K n43 0 w) w) w) w) w) w) w) w) w) w) w.drew) w) w) w) w)
theorem admitTail_of (h : KRep o w m a q { s with places := s.places + 1 }) {A B : Nat} (iv : KInv m A B s) (hpl : s.places < 6) {x : ATask} {b1 : Nat} (k1 : Blk o w 90 b1 (.cells x.t.l.toArray 37 (0, 0))) (hx : TaskR o w x) (htd : ∀ d ∈ x.devs, 0 ≤ d ∧ d < m.D.length) (htl : x.devs.length ≤ 1000) (hsl : x.sec.length ≤ 1000) {b : Bool} (hb : b = decide (loadZ m (thereZ s.T ++ [x]) 0 ≤ 4294967296))
    {K : Int → Int → World → Prop} (hK : ∀ n e w', (∃ s', AdmitTailR m s x n e s' ∧ KA o w m a s' w') → K n e w') : admitTail (some ⟨a, 0, none⟩) ⟨b1, 0, none⟩ b K w := by
  refine If_not (If_b (fun e => ?_) fun e => ?_)
  · have hload : loadZ m (thereZ s.T ++ [x]) 0 ≤ 4294967296 := by rw [hb] at e; simpa using e
    refine WA (h.b.bx.ld (x := q.ts) rfl ?_)
    have hi := idxTask2_spec h.p.T.rl
    refine hi.imp1 ?_
    rintro (n : Int) w2 ⟨u2, hf⟩
    have u2' : Up no o w o w2 := Up.of_below u2
    have h := h.upno u2'
    have k1 := k1.up u2' rfl
    have hx := hx.up u2' rfl
    have hfree : ∃ (i : Nat) (y : ATask), n = i ∧ s.T[i]? = some y ∧ y.t.period = 0 ∧ ∀ (j : Nat) (u : ATask), j < i → s.T[j]? = some u → u.t.period ≠ 0 := by
      rcases hf with ⟨_, hall⟩ | ⟨i, y, hn, hy, hp, hbe⟩
      · exfalso
        have : thereZ s.T = s.T := List.filter_eq_self.2 fun y hy => nf (hall y.t (List.mem_map.2 ⟨y, hy, rfl⟩))
        have h1 := iv.places
        rw [busy, this, iv.T] at h1
        omega
      · have hy' : (s.T.map ATask.t)[i]? = some y := hy
        rw [List.getElem?_map] at hy'
        obtain ⟨z, hz, rfl⟩ := Option.map_eq_some_iff.1 hy'
        refine ⟨i, z, hn, hz, by simpa using hp, fun j u hj hu => ?_⟩
        have := hbe j u.t hj (by show (s.T.map ATask.t)[j]? = _; rw [List.getElem?_map, hu]; rfl)
        simpa using this
    obtain ⟨i, y, rfl, hy, hyp, hfirst⟩ := hfree
    refine k1.bx.ldTask (x := x.t) ?_
    have hs := start_spec h (fun k x hk => (iv.jobs k x hk).1) iv.D iv.T hx htd htl
    refine hs.imp1 ?_
    rintro (r : Int) w3 ⟨s1, hst, q3, o3, h3, u3⟩
    have k1 := k1.up u3 rfl
    have hx := hx.up u3 rfl
    obtain ⟨D, hs1, _⟩ := id hst
    have ud : Up no o3 w3 o3 w3.drew := .drew
    have h3 := h3.upno ud
    have k1 := k1.up ud rfl
    have hx := hx.up ud rfl
    have U : Up kl o w o3 w3.drew := (u2'.of_no.trans u3).trans ud.of_no
    refine WA (h3.b.bx.ld (x := q3.ts) rfl (WA (h3.b.bx.ld (x := q3.ns) rfl (WA (h3.b.bx.ld (x := q3.us) rfl (k1.bx.ldTask (x := x.t) (k1.bx.ld (x := x.t.cycles) rfl ?_)))))))
    have ho := own_spec hx hsl htl
    refine ho.impT ?_
    rintro p1 p2 p3 p4 w4 ⟨rfl, rfl, o4, hz, u4⟩
    have h4 := h3.upno u4
    have k1 := k1.up u4 rfl
    have U := U.trans u4.of_no
    have hT1 : s1.T = s.T := by rw [hs1]
    have hN1 : s1.N = s.N := by rw [hs1]
    have hU1 : s1.U = s.U := by rw [hs1]
    have hi6 : i < 6 := by have := lt_of_get hy; rw [iv.T] at this; exact this
    have hxt : (s1.T.map ATask.t)[i]? = some y.t := by rw [hT1, List.getElem?_map, hy]; rfl
    refine ⟨by (first | (apply Bx.get0f; apply Blk.bx; assumption; rfl) | (apply Bx.get0f; apply Blk.bx; apply KRep.b; assumption; rfl) | (apply Bx.get0f; assumption; rfl) | (apply Bx.get00; apply Blk.bx; apply KRep.b; assumption; rfl) | (apply Bx.get0; apply Blk.bx; apply KRep.b; assumption; rfl) | (apply Bx.get00; apply Blk.bx; assumption; rfl) | (apply Bx.get00; assumption; rfl) | (apply Bx.getAt; assumption; rfl) | (apply Bx.get0; assumption; rfl) | (apply Bx.get; assumption; rfl) | (apply Bx.get0; apply Blk.bx; assumption; rfl) | (apply Bx.get; apply Blk.bx; assumption; rfl)), by (first | (apply Bx.get0f; apply Blk.bx; assumption; rfl) | (apply Bx.get0f; apply Blk.bx; apply KRep.b; assumption; rfl) | (apply Bx.get0f; assumption; rfl) | (apply Bx.get00; apply Blk.bx; apply KRep.b; assumption; rfl) | (apply Bx.get0; apply Blk.bx; apply KRep.b; assumption; rfl) | (apply Bx.get00; apply Blk.bx; assumption; rfl) | (apply Bx.get00; assumption; rfl) | (apply Bx.getAt; assumption; rfl) | (apply Bx.get0; assumption; rfl) | (apply Bx.get; assumption; rfl) | (apply Bx.get0; apply Blk.bx; assumption; rfl) | (apply Bx.get; apply Blk.bx; assumption; rfl)), by (first | (apply Bx.get0f; apply Blk.bx; assumption; rfl) | (apply Bx.get0f; apply Blk.bx; apply KRep.b; assumption; rfl) | (apply Bx.get0f; assumption; rfl) | (apply Bx.get00; apply Blk.bx; apply KRep.b; assumption; rfl) | (apply Bx.get0; apply Blk.bx; apply KRep.b; assumption; rfl) | (apply Bx.get00; apply Blk.bx; assumption; rfl) | (apply Bx.get00; assumption; rfl) | (apply Bx.getAt; assumption; rfl) | (apply Bx.get0; assumption; rfl) | (apply Bx.get; assumption; rfl) | (apply Bx.get0; apply Blk.bx; assumption; rfl) | (apply Bx.get; apply Blk.bx; assumption; rfl)), by (first | (apply Bx.get0f; apply Blk.bx; assumption; rfl) | (apply Bx.get0f; apply Blk.bx; apply KRep.b; assumption; rfl) | (apply Bx.get0f; assumption; rfl) | (apply Bx.get00; apply Blk.bx; apply KRep.b; assumption; rfl) | (apply Bx.get0; apply Blk.bx; apply KRep.b; assumption; rfl) | (apply Bx.get00; apply Blk.bx; assumption; rfl) | (apply Bx.get00; assumption; rfl) | (apply Bx.getAt; assumption; rfl) | (apply Bx.get0; assumption; rfl) | (apply Bx.get; assumption; rfl) | (apply Bx.get0; apply Blk.bx; assumption; rfl) | (apply Bx.get; apply Blk.bx; assumption; rfl)), ?_⟩
    refine RowL.st (y := (⟨x.t.period, x.t.cycles, p3, p4⟩ : Task)) h4.p.T rfl hxt rfl fun w6 r6 u6 => ?_
    have hb := h4.b.up u6 rfl
    have k1 := k1.up u6 rfl
    have r6' : RowL o4 w6 2 37 q3.ts ((s1.T.set i ⟨⟨x.t.period, x.t.cycles, p3, p4⟩, x.sec, x.devs⟩).map ATask.t) := by rw [List.map_set]; exact r6
    have hp := h4.p.chT r6' (fun y hy => by
      rcases List.mem_or_eq_of_mem_set hy with hy | rfl
      · exact (h4.p.TR y hy).up u6 rfl
      · exact hz.up u6 rfl) u6 fun d hd => one_no hd
    have U := U.trans (u6.k1 (by omega)).kkl
    refine ⟨by (first | (apply Bx.get0f; apply Blk.bx; assumption; rfl) | (apply Bx.get0f; apply Blk.bx; apply KRep.b; assumption; rfl) | (apply Bx.get0f; assumption; rfl) | (apply Bx.get00; apply Blk.bx; apply KRep.b; assumption; rfl) | (apply Bx.get0; apply Blk.bx; apply KRep.b; assumption; rfl) | (apply Bx.get00; apply Blk.bx; assumption; rfl) | (apply Bx.get00; assumption; rfl) | (apply Bx.getAt; assumption; rfl) | (apply Bx.get0; assumption; rfl) | (apply Bx.get; assumption; rfl) | (apply Bx.get0; apply Blk.bx; assumption; rfl) | (apply Bx.get; apply Blk.bx; assumption; rfl)), ?_⟩
    refine RowL.st (y := r) hp.N rfl (List.getElem?_eq_getElem (show i < s1.N.length by rw [hN1, iv.N]; exact hi6)) rfl fun w7 r7 u7 => ?_
    have hb := hb.up u7 rfl
    have k1 := k1.up u7 rfl
    have hp := hp.chN r7 u7 fun d hd => one_no hd
    have U := U.trans (u7.k1 (by omega)).kkl
    refine ⟨by (first | (apply Bx.get0f; apply Blk.bx; assumption; rfl) | (apply Bx.get0f; apply Blk.bx; apply KRep.b; assumption; rfl) | (apply Bx.get0f; assumption; rfl) | (apply Bx.get00; apply Blk.bx; apply KRep.b; assumption; rfl) | (apply Bx.get0; apply Blk.bx; apply KRep.b; assumption; rfl) | (apply Bx.get00; apply Blk.bx; assumption; rfl) | (apply Bx.get00; assumption; rfl) | (apply Bx.getAt; assumption; rfl) | (apply Bx.get0; assumption; rfl) | (apply Bx.get; assumption; rfl) | (apply Bx.get0; apply Blk.bx; assumption; rfl) | (apply Bx.get; apply Blk.bx; assumption; rfl)), ?_⟩
    refine RowL.st (y := x.t.cycles) hp.U rfl (List.getElem?_eq_getElem (show i < s1.U.length by rw [hU1, iv.U]; exact hi6)) rfl fun w8 r8 u8 => ?_
    have hb := hb.up u8 rfl
    have hp := hp.chU r8 u8 fun d hd => one_no hd
    have U := U.trans (u8.k1 (by omega)).kkl
    exact hK i 0 w8 ⟨{ s1 with T := s1.T.set i ⟨⟨x.t.period, x.t.cycles, p3, p4⟩, x.sec, x.devs⟩, N := s1.N.set i r, U := s1.U.set i x.t.cycles }, .inr ⟨rfl, hload, i, y, ⟨⟨x.t.period, x.t.cycles, p3, p4⟩, x.sec, x.devs⟩, r, s1, rfl, hy, hyp, hfirst, hst, rfl, rfl, rfl, rfl, rfl⟩, q3, o4, ⟨hb, hp⟩, U⟩
  · have hload : ¬ loadZ m (thereZ s.T ++ [x]) 0 ≤ 4294967296 := by rw [hb] at e; simpa using e
    refine WA (h.b.bx.ld (c := .kc) (x := some q.ch) rfl (rv_of h.p.C fun v w2 c2 u2 => hK 0 5 w2 ⟨s, .inl ⟨rfl, rfl, hload, rfl⟩, q, o, ⟨h.b.up u2 rfl, ?_⟩, (u2.k1 (by omega)).kkl⟩))
    have hp := h.p.chC c2 u2 fun d hd => one_no hd
    exact ⟨hp.mR, hp.T, hp.TR, hp.N, hp.U, hp.S, hp.D, hp.X, hp.E, hp.C, hp.set, hp.lk, hp.la, hp.ti, hp.tr⟩
end
end Go.Proofs.YtajilfnceoeaiaaGreat.V
/- The kernel's function admit. -/
namespace Go.Proofs.YtajilfnceoeaiaaGreat.V
open Go Go.RowKit Enc
set_option maxRecDepth 100000
theorem devsZ_all {m : Mach} {l : List Int} (h : devsZ m l = true) : (∀ d ∈ l, 0 ≤ d ∧ d < m.D.length) ∧ l.length ≤ m.D.length := by
  unfold devsZ at h
  rw [List.all_eq_true] at h
  have hk : ∀ k, k < l.length → 0 ≤ l.getD k 0 ∧ l.getD k 0 < m.D.length ∧ (k = 0 ∨ l.getD (k - 1) 0 < l.getD k 0) := fun k hk => by
    have := h k (List.mem_range.2 hk)
    simpa [and_assoc] using this
  have hge : ∀ k, k < l.length → (k : Int) ≤ l.getD k 0 := by
    intro k
    induction k with
    | zero => intro hk0; exact (hk 0 hk0).1
    | succ k ih =>
      intro hk1
      have h1 := ih (by omega)
      have h2 := (hk (k + 1) hk1).2.2
      rcases h2 with h2 | h2
      · omega
      · rw [Nat.add_sub_cancel] at h2
        omega
  refine ⟨fun d hd => ?_, ?_⟩
  · obtain ⟨i, hi⟩ := List.mem_iff_getElem?.1 hd
    have hlt := lt_of_get hi
    have := hk i hlt
    rw [List.getD_eq_getElem?_getD, hi] at this
    exact ⟨this.1, this.2.1⟩
  · rcases Nat.eq_zero_or_pos l.length with h0 | h0
    · omega
    · have h1 := hge (l.length - 1) (by omega)
      have h2 := (hk (l.length - 1) (by omega)).2.1
      omega
def AdmitR (m : Mach) (s : KS) (x : ATask) (n e : Int) (s' : KS) : Prop :=
  (n = 0 ∧ e = checkZ m x ∧ checkZ m x ≠ 0 ∧ s' = s) ∨ (checkZ m x = 0 ∧ ((n = 0 ∧ e = 8 ∧ s.held ≠ [] ∧ s' = s) ∨ (s.held = [] ∧ ((n = 0 ∧ e = 4 ∧ ¬ s.places < 6 ∧ s' = s) ∨ (s.places < 6 ∧ AdmitTailR m s x n e s')))))
section
variable {o o' : Own} {w w' : World} {m : Mach} {q : KPtr} {s : KS} {a : Nat} {C : Nat → Bool}
theorem admit_spec (h : KRep o w m a q s) {A B : Nat} (iv : KInv m A B s) {x : ATask} (hx : TaskR o w x) : Call P 61 [vP a, x.t.v] [sI, sI] (fun n e w' => ∃ s', AdmitR m s x n e s' ∧ KA o w m a s' w') w := by
  refine f61_of _ _ (New_blk o 90 fun b1 o1 w1 k1 u1 _ => ?_)
  have ud : Up no o w o1 w1.drew := u1.trans .drew
  have h := h.upno ud
  have hx := hx.up ud rfl
  have k1 := k1.up (C := no) (o' := o1) (w' := w1.drew) .drew rfl
  have U : Up kl o w o1 w1.drew := ud.of_no
  refine WA (h.b.ldP (k1.bx.ldTask (x := x.t) ?_))
  have hc := check_spec m x h.p.mR hx
  refine hc.imp1 ?_
  rintro r w2 ⟨u2, rfl⟩
  have u2' : Up no o1 w1.drew o1 w2 := Up.of_below u2
  have h := h.upno u2'
  have hx := hx.up u2' rfl
  have k1 := k1.up u2' rfl
  have U := U.trans u2'.of_no
  refine If_ne (fun e => ⟨s, .inl ⟨rfl, rfl, e, rfl⟩, q, o1, h, U⟩) fun e0 => ?_
  have hchk : checkZ m x = 0 := e0
  refine WA (h.b.bx.ld (x := some ⟨q.lk, 0, none⟩) rfl ?_)
  have hl := locksList_spec h.p.lk iv.heldl
  refine hl.imp1 ?_
  rintro sH w3 ⟨o3, rH, u3⟩
  have h := h.upno u3
  have hx := hx.up u3 rfl
  have k1 := k1.up u3 rfl
  have U := U.trans u3.of_no
  have hHn := rH.n
  refine If_d (fun e => ⟨s, .inr ⟨hchk, .inl ⟨rfl, rfl, fun h0 => ?_, rfl⟩⟩, q, o3, h, U⟩) fun eh => ?_
  · rw [h0] at hHn
    have e : (sH.n : Int) > 0 := e
    rw [hHn] at e
    exact absurd e (by decide)
  have hnil : s.held = [] := by
    have : ¬ (sH.n : Int) > 0 := eh
    exact List.eq_nil_of_length_eq_zero (by omega)
  have ht := take_spec' h
  refine ht.imp1 ?_
  rintro b w4 ⟨hb, s4, hs4, h4, u4⟩
  have hx := hx.up u4 rfl
  have k1 := k1.up u4 rfl
  have U := U.trans u4.kkl
  refine If_not (If_b (fun et => ?_) fun et => ?_)
  · subst et
    rw [if_pos rfl] at hs4
    subst hs4
    have hpl : s.places < 6 := hb.1 rfl
    have ud4 : Up no o3 w4 o3 w4.drew := .drew
    have h := h4.upno ud4
    have hx := hx.up ud4 rfl
    have k1 := k1.up ud4 rfl
    have U := U.trans ud4.of_no
    refine WA (h.b.ldP (k1.bx.ldTask (x := x.t) ?_))
    have hz0 := hchk
    have hdv : devsZ m x.devs = true ∧ (x.sec.length : Int) ≤ m.p.sems := by
      unfold checkZ at hz0
      split at hz0
      · cases hz0
      · rename_i hn
        simp only [not_or] at hn
        exact ⟨by simpa using hn.2.2.2.2.2.2, by have := hn.2.2.2.2.1; omega⟩
    obtain ⟨hd1, hd2⟩ := devsZ_all hdv.1
    have hdl := iv.mok.dev
    have hsm := iv.mok.sems
    have hT6 := iv.T
    have hle : (thereZ s.T).length ≤ 6 := by unfold thereZ; exact Nat.le_trans (List.length_filter_le _ _) (by omega)
    -- behind the list and the box, in whatever order
    have fin : ∀ (o5 : Own) (w5 : World) (s7 : Sl) (b : Bool), KRep o5 w5 m a q { s with places := s.places + 1 } → TaskR o5 w5 x → Blk o5 w5 90 b1 (.cells x.t.l.toArray 37 (0, 0)) → RowL o5 w5 61 37 s7 ((thereZ s.T).map ATask.t ++ [x.t]) → Up kl o w o5 w5 →
        b = decide (loadZ m (thereZ s.T ++ [x]) 0 ≤ 4294967296) → admitTail (some ⟨a, 0, none⟩) ⟨b1, 0, none⟩ b (fun n e w' => ∃ s', AdmitR m s x n e s' ∧ KA o w m a s' w') w5 := by
      intro o5 w5 s7 b h hx k1 r7 U hb
      exact admitTail_of h iv hpl k1 hx hd1 (by omega) (by omega) hb fun n e w' ⟨s', h1, h2⟩ => ⟨s', .inr ⟨hchk, .inr ⟨hnil, .inr ⟨hpl, h1⟩⟩⟩, KA.trans U h2⟩
    have hTR : ∀ (o5 : Own) (w5 : World) (s7 : Sl), KRep o5 w5 m a q { s with places := s.places + 1 } → TaskR o5 w5 x → RowL o5 w5 61 37 s7 ((thereZ s.T).map ATask.t ++ [x.t]) → TasksR o5 w5 61 s7 (thereZ s.T ++ [x]) := by
      intro o5 w5 s7 h hx r7
      refine ⟨?_, fun y hy => ?_⟩
      · have := r7.rl
        rwa [show (thereZ s.T ++ [x]).map ATask.t = (thereZ s.T).map ATask.t ++ [x.t] by simp]
      · rcases List.mem_append.1 hy with hy | hy
        · exact h.p.TR y (List.mem_filter.1 hy).1
        · rw [List.mem_singleton.1 hy]; exact hx
    -- the list of those that there are, and the new one behind
    refine ⟨?_, ?_⟩
    · have hth := there_spec h (by dsimp only; omega) (by dsimp only; omega)
      refine hth.imp1 ?_
      rintro sT w5 ⟨o5, r5, u5⟩
      have u5' := u5.l6 (by omega)
      have h := h.up60 u5'
      have hx := hx.up u5 rfl
      have k1 := k1.up u5 rfl
      have U := U.trans (u5'.mono fun d hd => by simp [kl] at hd; exact hd.2)
      refine ⟨by (repeat' (first | (apply Bx.get0f; apply Blk.bx; assumption; rfl) | (apply Bx.get0f; apply Blk.bx; apply KRep.b; assumption; rfl) | (apply Bx.get0f; assumption; rfl) | (apply Bx.get00; apply Blk.bx; apply KRep.b; assumption; rfl) | (apply Bx.get0; apply Blk.bx; apply KRep.b; assumption; rfl) | (apply Bx.get00; apply Blk.bx; assumption; rfl) | (apply Bx.get00; assumption; rfl) | (apply Bx.getAt; assumption; rfl) | (apply Bx.get0; assumption; rfl) | (apply Bx.get; assumption; rfl) | (apply Bx.get0; apply Blk.bx; assumption; rfl) | (apply Bx.get; apply Blk.bx; assumption; rfl) | apply And.intro)), by (repeat' (first | (apply Bx.get0f; apply Blk.bx; assumption; rfl) | (apply Bx.get0f; apply Blk.bx; apply KRep.b; assumption; rfl) | (apply Bx.get0f; assumption; rfl) | (apply Bx.get00; apply Blk.bx; apply KRep.b; assumption; rfl) | (apply Bx.get0; apply Blk.bx; apply KRep.b; assumption; rfl) | (apply Bx.get00; apply Blk.bx; assumption; rfl) | (apply Bx.get00; assumption; rfl) | (apply Bx.getAt; assumption; rfl) | (apply Bx.get0; assumption; rfl) | (apply Bx.get; assumption; rfl) | (apply Bx.get0; apply Blk.bx; assumption; rfl) | (apply Bx.get; apply Blk.bx; assumption; rfl) | apply And.intro)), New_blk o5 91 fun b6 o6 w6 k6 u6 _ => ?_⟩
      have h := h.upno u6
      have hx := hx.up u6 rfl
      have k1 := k1.up u6 rfl
      have r5 := r5.up u6 rfl
      have U := U.trans u6.of_no
      refine ⟨by (repeat' (first | (apply Bx.get0f; apply Blk.bx; assumption; rfl) | (apply Bx.get0f; apply Blk.bx; apply KRep.b; assumption; rfl) | (apply Bx.get0f; assumption; rfl) | (apply Bx.get00; apply Blk.bx; apply KRep.b; assumption; rfl) | (apply Bx.get0; apply Blk.bx; apply KRep.b; assumption; rfl) | (apply Bx.get00; apply Blk.bx; assumption; rfl) | (apply Bx.get00; assumption; rfl) | (apply Bx.getAt; assumption; rfl) | (apply Bx.get0; assumption; rfl) | (apply Bx.get; assumption; rfl) | (apply Bx.get0; apply Blk.bx; assumption; rfl) | (apply Bx.get; apply Blk.bx; assumption; rfl) | apply And.intro)), RowL.app (x := x.t) etTask 54 r5 (k6.rd1 rfl) rfl (by simp; omega) (by unfold maxLen; simp; omega) fun s7 o7 w7 r7 u7 => ?_⟩
      have u7' := u7.l6 (by omega)
      have h := h.up60 u7'
      have hx := hx.up u7 rfl
      have k1 := k1.up u7 rfl
      have U := U.trans (u7'.mono fun d hd => by simp [kl] at hd; exact hd.2)
      refine ⟨by (repeat' (first | (apply Bx.get0f; apply Blk.bx; assumption; rfl) | (apply Bx.get0f; apply Blk.bx; apply KRep.b; assumption; rfl) | (apply Bx.get0f; assumption; rfl) | (apply Bx.get00; apply Blk.bx; apply KRep.b; assumption; rfl) | (apply Bx.get0; apply Blk.bx; apply KRep.b; assumption; rfl) | (apply Bx.get00; apply Blk.bx; assumption; rfl) | (apply Bx.get00; assumption; rfl) | (apply Bx.getAt; assumption; rfl) | (apply Bx.get0; assumption; rfl) | (apply Bx.get; assumption; rfl) | (apply Bx.get0; apply Blk.bx; assumption; rfl) | (apply Bx.get; apply Blk.bx; assumption; rfl) | apply And.intro)), by (repeat' (first | (apply Bx.get0f; apply Blk.bx; assumption; rfl) | (apply Bx.get0f; apply Blk.bx; apply KRep.b; assumption; rfl) | (apply Bx.get0f; assumption; rfl) | (apply Bx.get00; apply Blk.bx; apply KRep.b; assumption; rfl) | (apply Bx.get0; apply Blk.bx; apply KRep.b; assumption; rfl) | (apply Bx.get00; apply Blk.bx; assumption; rfl) | (apply Bx.get00; assumption; rfl) | (apply Bx.getAt; assumption; rfl) | (apply Bx.get0; assumption; rfl) | (apply Bx.get; assumption; rfl) | (apply Bx.get0; apply Blk.bx; assumption; rfl) | (apply Bx.get; apply Blk.bx; assumption; rfl) | apply And.intro)), ?_⟩
      have hf := fits_spec m s7 (thereZ s.T ++ [x]) h.p.mR iv.crit (hTR _ _ _ h hx r7)
      refine hf.imp1 ?_
      rintro b w8 ⟨u8, hb8⟩
      have u8' : Up no o7 w7 o7 w8 := Up.of_below u8
      have h := h.upno u8'
      have hx := hx.up u8' rfl
      have k1 := k1.up u8' rfl
      have r7 := r7.up u8' rfl
      refine ⟨by (repeat' (first | (apply Bx.get0f; apply Blk.bx; assumption; rfl) | (apply Bx.get0f; apply Blk.bx; apply KRep.b; assumption; rfl) | (apply Bx.get0f; assumption; rfl) | (apply Bx.get00; apply Blk.bx; apply KRep.b; assumption; rfl) | (apply Bx.get0; apply Blk.bx; apply KRep.b; assumption; rfl) | (apply Bx.get00; apply Blk.bx; assumption; rfl) | (apply Bx.get00; assumption; rfl) | (apply Bx.getAt; assumption; rfl) | (apply Bx.get0; assumption; rfl) | (apply Bx.get; assumption; rfl) | (apply Bx.get0; apply Blk.bx; assumption; rfl) | (apply Bx.get; apply Blk.bx; assumption; rfl) | apply And.intro)), ?_⟩
      exact fin o7 w8 s7 b h hx k1 r7 (U.trans u8'.of_no) hb8
    · refine New_blk o3 91 fun b6 o6 w6 k6 u6 _ => ?_
      have h := h.upno u6
      have hx := hx.up u6 rfl
      have k1 := k1.up u6 rfl
      have U := U.trans u6.of_no
      have hth := there_spec h (by dsimp only; omega) (by dsimp only; omega)
      refine ⟨by (repeat' (first | (apply Bx.get0f; apply Blk.bx; assumption; rfl) | (apply Bx.get0f; apply Blk.bx; apply KRep.b; assumption; rfl) | (apply Bx.get0f; assumption; rfl) | (apply Bx.get00; apply Blk.bx; apply KRep.b; assumption; rfl) | (apply Bx.get0; apply Blk.bx; apply KRep.b; assumption; rfl) | (apply Bx.get00; apply Blk.bx; assumption; rfl) | (apply Bx.get00; assumption; rfl) | (apply Bx.getAt; assumption; rfl) | (apply Bx.get0; assumption; rfl) | (apply Bx.get; assumption; rfl) | (apply Bx.get0; apply Blk.bx; assumption; rfl) | (apply Bx.get; apply Blk.bx; assumption; rfl) | apply And.intro)), ?_⟩
      refine hth.imp1 ?_
      rintro sT w5 ⟨o5, r5, u5⟩
      have u5' := u5.l6 (by omega)
      have h := h.up60 u5'
      have hx := hx.up u5 rfl
      have k1 := k1.up u5 rfl
      have k6 := k6.up u5 rfl
      have U := U.trans (u5'.mono fun d hd => by simp [kl] at hd; exact hd.2)
      refine ⟨by (repeat' (first | (apply Bx.get0f; apply Blk.bx; assumption; rfl) | (apply Bx.get0f; apply Blk.bx; apply KRep.b; assumption; rfl) | (apply Bx.get0f; assumption; rfl) | (apply Bx.get00; apply Blk.bx; apply KRep.b; assumption; rfl) | (apply Bx.get0; apply Blk.bx; apply KRep.b; assumption; rfl) | (apply Bx.get00; apply Blk.bx; assumption; rfl) | (apply Bx.get00; assumption; rfl) | (apply Bx.getAt; assumption; rfl) | (apply Bx.get0; assumption; rfl) | (apply Bx.get; assumption; rfl) | (apply Bx.get0; apply Blk.bx; assumption; rfl) | (apply Bx.get; apply Blk.bx; assumption; rfl) | apply And.intro)), by (repeat' (first | (apply Bx.get0f; apply Blk.bx; assumption; rfl) | (apply Bx.get0f; apply Blk.bx; apply KRep.b; assumption; rfl) | (apply Bx.get0f; assumption; rfl) | (apply Bx.get00; apply Blk.bx; apply KRep.b; assumption; rfl) | (apply Bx.get0; apply Blk.bx; apply KRep.b; assumption; rfl) | (apply Bx.get00; apply Blk.bx; assumption; rfl) | (apply Bx.get00; assumption; rfl) | (apply Bx.getAt; assumption; rfl) | (apply Bx.get0; assumption; rfl) | (apply Bx.get; assumption; rfl) | (apply Bx.get0; apply Blk.bx; assumption; rfl) | (apply Bx.get; apply Blk.bx; assumption; rfl) | apply And.intro)), RowL.app (x := x.t) etTask 54 r5 (k6.rd1 rfl) rfl (by simp; omega) (by unfold maxLen; simp; omega) fun s7 o7 w7 r7 u7 => ?_⟩
      have u7' := u7.l6 (by omega)
      have h := h.up60 u7'
      have hx := hx.up u7 rfl
      have k1 := k1.up u7 rfl
      have U := U.trans (u7'.mono fun d hd => by simp [kl] at hd; exact hd.2)
      refine ⟨by (repeat' (first | (apply Bx.get0f; apply Blk.bx; assumption; rfl) | (apply Bx.get0f; apply Blk.bx; apply KRep.b; assumption; rfl) | (apply Bx.get0f; assumption; rfl) | (apply Bx.get00; apply Blk.bx; apply KRep.b; assumption; rfl) | (apply Bx.get0; apply Blk.bx; apply KRep.b; assumption; rfl) | (apply Bx.get00; apply Blk.bx; assumption; rfl) | (apply Bx.get00; assumption; rfl) | (apply Bx.getAt; assumption; rfl) | (apply Bx.get0; assumption; rfl) | (apply Bx.get; assumption; rfl) | (apply Bx.get0; apply Blk.bx; assumption; rfl) | (apply Bx.get; apply Blk.bx; assumption; rfl) | apply And.intro)), by (repeat' (first | (apply Bx.get0f; apply Blk.bx; assumption; rfl) | (apply Bx.get0f; apply Blk.bx; apply KRep.b; assumption; rfl) | (apply Bx.get0f; assumption; rfl) | (apply Bx.get00; apply Blk.bx; apply KRep.b; assumption; rfl) | (apply Bx.get0; apply Blk.bx; apply KRep.b; assumption; rfl) | (apply Bx.get00; apply Blk.bx; assumption; rfl) | (apply Bx.get00; assumption; rfl) | (apply Bx.getAt; assumption; rfl) | (apply Bx.get0; assumption; rfl) | (apply Bx.get; assumption; rfl) | (apply Bx.get0; apply Blk.bx; assumption; rfl) | (apply Bx.get; apply Blk.bx; assumption; rfl) | apply And.intro)), ?_⟩
      have hf := fits_spec m s7 (thereZ s.T ++ [x]) h.p.mR iv.crit (hTR _ _ _ h hx r7)
      refine hf.imp1 ?_
      rintro b w8 ⟨u8, hb8⟩
      have u8' : Up no o7 w7 o7 w8 := Up.of_below u8
      have h := h.upno u8'
      have hx := hx.up u8' rfl
      have k1 := k1.up u8' rfl
      have r7 := r7.up u8' rfl
      refine ⟨by (repeat' (first | (apply Bx.get0f; apply Blk.bx; assumption; rfl) | (apply Bx.get0f; apply Blk.bx; apply KRep.b; assumption; rfl) | (apply Bx.get0f; assumption; rfl) | (apply Bx.get00; apply Blk.bx; apply KRep.b; assumption; rfl) | (apply Bx.get0; apply Blk.bx; apply KRep.b; assumption; rfl) | (apply Bx.get00; apply Blk.bx; assumption; rfl) | (apply Bx.get00; assumption; rfl) | (apply Bx.getAt; assumption; rfl) | (apply Bx.get0; assumption; rfl) | (apply Bx.get; assumption; rfl) | (apply Bx.get0; apply Blk.bx; assumption; rfl) | (apply Bx.get; apply Blk.bx; assumption; rfl) | apply And.intro)), ?_⟩
      exact fin o7 w8 s7 b h hx k1 r7 (U.trans u8'.of_no) hb8
  · subst et
    rw [if_neg (by decide)] at hs4
    subst hs4
    exact ⟨s4, .inr ⟨hchk, .inr ⟨hnil, .inl ⟨rfl, rfl, fun h => (by have := hb.2 h; cases this), rfl⟩⟩⟩, q, o3, h4, U⟩
end
end Go.Proofs.YtajilfnceoeaiaaGreat.V
/- The kernel's functions: one, Do. -/
namespace Go.Proofs.YtajilfnceoeaiaaGreat.V
open Go Go.RowKit Enc
set_option maxRecDepth 100000
/-- A step of a script. -/
structure ASt where
  kind : Int
  a : Int
  b : Int
  c : Int
  t : ATask
def ASt.st (x : ASt) : Step := ⟨x.kind, x.a, x.b, x.c, x.t.t.period, x.t.t.cycles, x.t.t.sec, x.t.t.devs⟩
/-- A step, without the boundary behind it. -/
def OneR (m : Mach) (s : KS) (x : ASt) (n e : Int) (s' : KS) : Prop :=
  (x.kind = 1 ∧ AdmitR m s x.t n e s') ∨ (x.kind = 2 ∧ n = 0 ∧ RemoveR s x.a e s') ∨ (x.kind = 3 ∧ n = 0 ∧ ArriveR s x.a x.b x.c e s') ∨ (x.kind = 4 ∧ n = 0 ∧ TickR m s x.a e s') ∨
  ((x.kind = 5 ∨ x.kind = 6) ∧ n = 0 ∧ LockR s x.a (x.kind == 6) e s') ∨ (x.kind = 7 ∧ n = 0 ∧ PolicyR s x.a x.b e s') ∨ ((x.kind = 8 ∨ x.kind = 9) ∧ n = 0 ∧ TimerR s x.st e s') ∨
  (¬ (1 ≤ x.kind ∧ x.kind ≤ 9) ∧ n = 0 ∧ e = 1 ∧ s' = s)
section
variable {o o' : Own} {w w' : World} {m : Mach} {q : KPtr} {s : KS} {a : Nat} {C : Nat → Bool}
theorem one_spec (h : KRep o w m a q s) {A B : Nat} (iv : KInv m A B s) (x : ASt) (hx : TaskR o w x.t) : Call P 36 [vP a, x.st.v] [sI, sI] (fun n e w' => ∃ s', OneR m s x n e s' ∧ KA o w m a s' w') w := by
  refine f36_of _ _ (New_blk o 90 fun b1 o1 w1 k1 u1 _ => ?_)
  have h := h.upno u1
  have hx := hx.up u1 rfl
  have U : Up kl o w o1 w1 := u1.of_no
  let K : Int → Int → World → Prop := fun n e w' => ∃ s', OneR m s x n e s' ∧ KA o w m a s' w'
  have leaf : ∀ n e w', (∃ s', OneR m s x n e s' ∧ KA o1 w1 m a s' w') → K n e w' := fun n e w' ⟨s', h1, h2⟩ => ⟨s', h1, KA.trans U h2⟩
  have lock : (x.kind = 5 ∨ x.kind = 6) → Ld (.ki .i64) ((⟨b1, 0, none⟩ : Addr).add 1) (fun n17 w => Ld (.ki .i64) ((⟨b1, 0, none⟩ : Addr).add 0) (fun n18 w => Call P 65 [vP a, .int .i64 n17, .bool (n18 == 6)] [sI] (fun n19 w => K 0 n19 w) w) w) w1 := by
    intro hk
    refine k1.bx.ld (c := .ki .i64) (x := x.a) rfl (k1.bx.ld (c := .ki .i64) (x := x.kind) rfl ?_)
    have hl := lock_spec h iv x.a (x.kind == 6)
    exact hl.imp1 fun e w2 ⟨s', h1, h2⟩ => leaf 0 e w2 ⟨s', .inr (.inr (.inr (.inr (.inl ⟨hk, rfl, h1⟩)))), h2⟩
  have pol : x.kind = 7 → Ld (.ki .i64) ((⟨b1, 0, none⟩ : Addr).add 1) (fun n20 w => Ld (.ki .i64) ((⟨b1, 0, none⟩ : Addr).add 2) (fun n21 w => Call P 66 [vP a, .int .i64 n20, .int .i64 n21] [sI] (fun n22 w => K 0 n22 w) w) w) w1 := by
    intro hk
    refine k1.bx.ld (c := .ki .i64) (x := x.a) rfl (k1.bx.ld (c := .ki .i64) (x := x.b) rfl ?_)
    have hl := policy_spec h x.a x.b
    exact hl.imp1 fun e w2 ⟨s', h1, h2⟩ => leaf 0 e w2 ⟨s', .inr (.inr (.inr (.inr (.inr (.inl ⟨hk, rfl, h1⟩))))), h2⟩
  have tmr : (x.kind = 8 ∨ x.kind = 9) → LdN shStep.cs 0 (⟨b1, 0, none⟩ : Addr) (fun n23 n24 n25 n26 n27 n28 s29 s30 w => Call P 67 [vP a, .agg #[.int .i64 n23, .int .i64 n24, .int .i64 n25, .int .i64 n26, .int .i64 n27, .int .i64 n28, .slice s29.a s29.n s29.c, .slice s30.a s30.n s30.c]] [sI] (fun n31 w => K 0 n31 w) w) w1 := by
    intro hk
    refine k1.bx.ldStep (x := x.st) ?_
    have hl := timer_spec h x.st
    exact hl.imp1 fun e w2 ⟨s', h1, h2⟩ => leaf 0 e w2 ⟨s', .inr (.inr (.inr (.inr (.inr (.inr (.inl ⟨hk, rfl, h1⟩)))))), h2⟩
  have els : ¬ (1 ≤ x.kind ∧ x.kind ≤ 9) → K 0 1 w1 := fun hk => leaf 0 1 w1 ⟨s, .inr (.inr (.inr (.inr (.inr (.inr (.inr ⟨hk, rfl, rfl, rfl⟩)))))), q, o1, h, .refl⟩
  refine k1.bx.ld (c := .ki .i64) (x := x.kind) rfl (If_eq (fun e1 => ?_) fun e1 => If_eq (fun e2 => ?_) fun e2 => If_eq (fun e3 => ?_) fun e3 => If_eq (fun e4 => ?_) fun e4 => If_eq (fun e5 => If_eq (fun _ => lock (.inl e5)) fun h => absurd e5 h) fun e5 => If_eq (fun e6 => lock (.inr e6)) fun e6 => If_eq (fun e7 => pol e7) fun e7 => If_eq (fun e8 => If_eq (fun _ => tmr (.inl e8)) fun h => absurd e8 h) fun e8 => If_eq (fun e9 => tmr (.inr e9)) fun e9 => els (by omega))
  · refine k1.ldNf (f := 4) (vs := x.t.t.l) rfl ?_
    have hl := admit_spec h iv hx
    exact hl.imp2 fun n e w2 ⟨s', h1, h2⟩ => leaf n e w2 ⟨s', .inl ⟨e1, h1⟩, h2⟩
  · refine k1.bx.ld (c := .ki .i64) (x := x.a) rfl ?_
    have hl := remove_spec h iv x.a
    exact hl.imp1 fun e w2 ⟨s', h1, h2⟩ => leaf 0 e w2 ⟨s', .inr (.inl ⟨e2, rfl, h1⟩), h2⟩
  · refine k1.bx.ld (c := .ki .i64) (x := x.a) rfl (k1.bx.ld (c := .ki .i64) (x := x.b) rfl (k1.bx.ld (c := .ki .i64) (x := x.c) rfl ?_))
    have hl := arrive_spec h iv x.a x.b x.c
    exact hl.imp1 fun e w2 ⟨s', h1, h2⟩ => leaf 0 e w2 ⟨s', .inr (.inr (.inl ⟨e3, rfl, h1⟩)), h2⟩
  · refine k1.bx.ld (c := .ki .i64) (x := x.a) rfl ?_
    have hl := tick_spec h iv x.a
    exact hl.imp1 fun e w2 ⟨s', h1, _, h2⟩ => leaf 0 e w2 ⟨s', .inr (.inr (.inr (.inl ⟨e4, rfl, h1⟩))), h2⟩
end
end Go.Proofs.YtajilfnceoeaiaaGreat.V
/- Steps of a script keep what holds. Plain. -/
namespace Go.Proofs.YtajilfnceoeaiaaGreat.V
open Go Go.RowKit Enc
set_option maxRecDepth 100000
section
variable {m : Mach} {A B A' B' : Nat} {s s' s1 : KS}
theorem KInv.mono (iv : KInv m A B s) (h1 : A ≤ A') (h2 : B ≤ B') (h3 : A' ≤ 800000000) (h4 : B' ≤ bigN) : KInv m A' B' s :=
  ⟨iv.toKOk, iv.mok, iv.jobs, iv.stk, iv.slp, iv.lat, iv.tim, iv.now, iv.wake, iv.places, iv.sec, iv.sems, Nat.le_trans iv.bs h1, Nat.le_trans iv.bt h2, Nat.le_trans iv.be h2, h3, h4⟩
theorem filter_set_len {α : Type} (p : α → Bool) : ∀ (l : List α) (i : Nat) (x y : α), l[i]? = some x → ((l.set i y).filter p).length + (if p x then 1 else 0) = (l.filter p).length + (if p y then 1 else 0)
  | [], i, x, y, h => by cases h
  | a :: l, 0, x, y, h => by
    cases h
    simp only [List.set_cons_zero, List.filter_cons]
    cases p a <;> cases p y <;> simp
  | a :: l, i + 1, x, y, h => by
    have := filter_set_len p l i x y h
    simp only [List.set_cons_succ, List.filter_cons]
    cases p a <;> simp <;> omega
theorem busy_add {T : List ATask} {i : Nat} {y z : ATask} (h : T[i]? = some y) (hy : y.t.period = 0) (hz : z.t.period ≠ 0) : busy (T.set i z) = busy T + 1 := by
  have := filter_set_len (fun x : ATask => !(x.t.period == 0)) T i y z h
  rw [if_neg (by simp [hy]), if_pos (by simpa using hz)] at this
  exact this
theorem busy_sub {T : List ATask} {i : Nat} {y z : ATask} (h : T[i]? = some y) (hy : y.t.period ≠ 0) (hz : z.t.period = 0) : busy (T.set i z) + 1 = busy T := by
  have := filter_set_len (fun x : ATask => !(x.t.period == 0)) T i y z h
  rw [if_pos (by simpa using hy), if_neg (by simp [hz])] at this
  exact this
theorem checkZ_zero {x : ATask} (h : checkZ m x = 0) : 1 ≤ x.t.period ∧ x.t.period ≤ m.p.horizon ∧ 1 ≤ x.t.cycles ∧ x.t.cycles ≤ 4096 ∧ (x.sec.length : Int) ≤ m.p.sems ∧ devsZ m x.devs = true := by
  unfold checkZ at h
  split at h
  · cases h
  · rename_i hn
    simp only [not_or] at hn
    refine ⟨by omega, by omega, by omega, by omega, by omega, by simpa using hn.2.2.2.2.2.2⟩
theorem AdmitR.inv {x : ATask} {n e : Int} (h : AdmitR m s x n e s') (iv : KInv m A B s) : KInv m A B s' ∧ (e ≠ 0 → s' = s) := by
  rcases h with ⟨_, rfl, h0, rfl⟩ | ⟨hc, h⟩
  · exact ⟨iv, fun _ => rfl⟩
  rcases h with ⟨_, rfl, _, rfl⟩ | ⟨hh, h⟩
  · exact ⟨iv, fun _ => rfl⟩
  rcases h with ⟨_, rfl, _, rfl⟩ | ⟨hp, h⟩
  · exact ⟨iv, fun _ => rfl⟩
  rcases h with ⟨_, rfl, _, rfl⟩ | ⟨rfl, _, i, y, z, r, s1, rfl, hy, hyp, _, ⟨D, rfl, hD, hr, _⟩, z1, z2, z3, z4, rfl⟩
  · exact ⟨iv, fun _ => rfl⟩
  obtain ⟨c1, c2, c3, c4, c5, c6⟩ := checkZ_zero hc
  have hs := iv.mok.sems
  refine ⟨⟨⟨⟨iv.crit, by simpa using iv.T, by simpa using iv.N, by simpa using iv.U, by rw [← iv.D]; exact hD.1, iv.X, fun u hu => ?_, iv.held, iv.heldl, iv.lev, iv.trace, iv.events⟩, iv.stack⟩, iv.mok, iv.jobs, iv.stk, iv.slp, iv.lat, iv.tim, iv.now, iv.wake, ?_, fun u hu => ?_, iv.sems, iv.bs, iv.bt, iv.be, iv.hA, iv.hB⟩, fun h => absurd rfl h⟩
  · rcases List.mem_or_eq_of_mem_set hu with hu | rfl
    · exact iv.per u hu
    · omega
  · have hpl := iv.places
    show s.places + 1 = busy (s.T.set i z)
    rw [busy_add hy hyp (by omega), hpl]
  · rcases List.mem_or_eq_of_mem_set hu with hu | rfl
    · exact iv.sec u hu
    · have hdl := (devsZ_all c6).2
      have hmd := iv.mok.dev
      refine ⟨by rw [z3]; omega, by rw [z4]; omega, fun _ => ?_⟩
      rw [← hc]
      unfold checkZ
      rw [z1, z2, z3, z4]
theorem RemoveR.inv {n e : Int} (h : RemoveR s n e s') (iv : KInv m A B s) : KInv m A B s' ∧ (e ≠ 0 → s' = s) := by
  rcases h with ⟨rfl, _⟩ | ⟨⟨h0, t, ht, hper⟩, hj, hl, hh, rfl, rfl⟩
  · exact ⟨iv, fun _ => rfl⟩
  refine ⟨⟨⟨⟨iv.crit, by simpa using iv.T, by simpa using iv.N, by simpa using iv.U, iv.D, iv.X, fun u hu => ?_, iv.held, iv.heldl, iv.lev, iv.trace, iv.events⟩, iv.stack⟩, iv.mok, iv.jobs, iv.stk, iv.slp, iv.lat, iv.tim, iv.now, iv.wake, ?_, fun u hu => ?_, iv.sems, iv.bs, iv.bt, iv.be, iv.hA, iv.hB⟩, fun h => absurd rfl h⟩
  · rcases List.mem_or_eq_of_mem_set hu with hu | rfl
    · exact iv.per u hu
    · exact Int.le_refl _
  · have hpl := iv.places
    have := busy_sub ht (by omega) (show noTask.t.period = 0 from rfl)
    show s.places - 1 = busy (s.T.set n.toNat noTask)
    omega
  · rcases List.mem_or_eq_of_mem_set hu with hu | rfl
    · exact iv.sec u hu
    · exact ⟨Nat.zero_le _, Nat.zero_le _, fun h => absurd rfl h⟩
theorem ArriveR.inv {n after cycles e : Int} (h : ArriveR s n after cycles e s') (iv : KInv m A B s) (hA : A + 1 ≤ 800000000) (hB : B + 70000 ≤ bigN) : KInv m (A + 1) (B + 70000) s' ∧ (e ≠ 0 → s' = s) := by
  have iw := iv.mono (A' := A + 1) (B' := B + 70000) (by omega) (by omega) hA hB
  rcases h with ⟨_, rfl⟩ | ⟨⟨h0, t, ht, hper⟩, a0, a1, c0, c1, hl, hN, rfl, rfl⟩
  · exact ⟨iw, fun _ => rfl⟩
  have h6 : n < 6 := by have := lt_of_get ht; rw [iv.T] at this; omega
  have w1 := wsum_upd one1 s.lat h0 (by omega) (some (wz (s.now + after), cycles))
  rw [hl] at w1
  have e1 : ow one1 (some (wz (s.now + after), cycles)) = 1 := rfl
  have e2 : ow one1 (none : Option (Int × Int)) = 0 := rfl
  have hbs := iv.bs
  have hbt := iv.bt
  have hbe := iv.be
  refine ⟨⟨⟨⟨iv.crit, iv.T, by simpa using iv.N, iv.U, iv.D, iv.X, iv.per, iv.held, iv.heldl, iv.lev, iv.trace, iv.events⟩, iv.stack⟩, iv.mok, iv.jobs, iv.stk, iv.slp, fun k x hk => ?_, iv.tim, iv.now, iv.wake, iv.places, iv.sec, iv.sems, ?_, ?_, ?_, hA, hB⟩, fun h => absurd rfl h⟩
  · simp only [upd] at hk
    by_cases e : k = n
    · exact ⟨by omega, by omega⟩
    · rw [if_neg e] at hk
      exact iv.lat k x hk
  · dsimp only
    omega
  · have hb : baseW { s with lat := upd s.lat n (some (wz (s.now + after), cycles)), N := s.N.set n.toNat (wz (s.now + after)) } = baseW s + 5 := by
      rw [baseW_eq, baseW_eq]
      dsimp only
      omega
    have hp : psi m { s with lat := upd s.lat n (some (wz (s.now + after), cycles)), N := s.N.set n.toNat (wz (s.now + after)) } ≤ psi m s + 5 := by
      rw [psi_def, psi_def, hb]
      show (17000 - s.now).toNat * 1000 + (if s.asleep then (if s.now ≥ s.wake - exitZ m s ∧ exitZ m s ≤ 0 then baseW s + 5 + 2 else 0) else baseW s + 5 + 1) ≤ _
      split
      · split <;> omega
      · omega
    show s.trace.length + _ ≤ _
    omega
  · dsimp only
    omega
theorem psi_same (h1 : s'.now = s.now) (h2 : s'.asleep = s.asleep) (h3 : s'.wake = s.wake) (h4 : s'.state = s.state) (h5 : s'.jobs = s.jobs) (h6 : s'.lat = s.lat) (h7 : s'.ended = s.ended) : psi m s' = psi m s := by
  unfold psi exitZ baseW
  rw [h1, h2, h3, h4, h5, h6, h7]
theorem held3 {H : List Held} (h : (H.map (·.sem)).Nodup) (hr : ∀ x ∈ H, 0 ≤ x.sem ∧ x.sem < 3) : H.length ≤ 3 := by
  have hn : ((H.map (·.sem)).map Int.toNat).Nodup := by
    rw [List.Nodup, List.pairwise_map]
    refine List.Pairwise.imp_of_mem (fun {a b} ha hb hab e => ?_) h
    obtain ⟨x, hx, rfl⟩ := List.mem_map.1 ha
    obtain ⟨y, hy, rfl⟩ := List.mem_map.1 hb
    have := hr x hx
    have := hr y hy
    exact hab (by omega)
  have := nodup_le 3 _ hn fun x hx => by
    obtain ⟨z, hz, rfl⟩ := List.mem_map.1 hx
    obtain ⟨y, hy, rfl⟩ := List.mem_map.1 hz
    have := hr y hy
    omega
  simpa using this
theorem LockR.inv {sem : Int} {give : Bool} {e : Int} (h : LockR s sem give e s') (iv : KInv m A B s) : KInv m A B s' ∧ (e ≠ 0 → s' = s) := by
  rcases h with ⟨rfl, _⟩ | ⟨ha, n, L, hL, hl8, hw, hst, t, ht, hu, rfl, h⟩
  · exact ⟨iv, fun _ => rfl⟩
  refine ⟨?_, fun h => absurd rfl h⟩
  rcases h with ⟨_, i, hi, rfl⟩ | ⟨_, hany, c, hc, rfl⟩
  · have hsub := List.eraseIdx_sublist s.held i
    have hmem : ∀ x ∈ s.held.eraseIdx i, x ∈ s.held := fun x hx => hsub.subset hx
    exact ⟨⟨⟨iv.crit, iv.T, iv.N, iv.U, iv.D, iv.X, iv.per, fun x hx => iv.held x (hmem x hx), Nat.le_trans hsub.length_le iv.heldl, iv.lev, iv.trace, iv.events⟩, iv.stack⟩, iv.mok, iv.jobs, iv.stk, iv.slp, iv.lat, iv.tim, iv.now, iv.wake, iv.places, iv.sec, ⟨(hsub.map _).nodup iv.sems.1, fun x hx => iv.sems.2 x (hmem x hx)⟩, iv.bs, iv.bt, iv.be, iv.hA, iv.hB⟩
  · obtain ⟨hn, _⟩ := whoOf_job iv hL hw
    have hs3 : 0 ≤ sem ∧ sem < 3 := by
      have h3 := (iv.sec t (List.mem_of_getElem? ht)).1
      simp only [usesZ, Bool.and_eq_true, decide_eq_true_eq] at hu
      exact ⟨hu.1.1, by omega⟩
    have hnod : ((s.held ++ [(⟨n, sem, c⟩ : Held)]).map (·.sem)).Nodup := by
      rw [List.map_append, List.nodup_append]
      refine ⟨iv.sems.1, by simp, fun a ha b hb => ?_⟩
      obtain ⟨x, hx, rfl⟩ := List.mem_map.1 ha
      have : b = sem := by simpa using hb
      subst this
      rw [List.any_eq_false] at hany
      simpa using hany x hx
    have hrng : ∀ x ∈ s.held ++ [(⟨n, sem, c⟩ : Held)], 0 ≤ x.sem ∧ x.sem < 3 := fun x hx => by
      rcases List.mem_append.1 hx with hx | hx
      · exact iv.sems.2 x hx
      · rw [List.mem_singleton.1 hx]; exact hs3
    have h3 := held3 hnod hrng
    exact ⟨⟨⟨iv.crit, iv.T, iv.N, iv.U, iv.D, iv.X, iv.per, fun x hx => by
      rcases List.mem_append.1 hx with hx | hx
      · exact iv.held x hx
      · rw [List.mem_singleton.1 hx]; exact hn, Nat.le_trans h3 (by decide), iv.lev, iv.trace, iv.events⟩, iv.stack⟩, iv.mok, iv.jobs, iv.stk, iv.slp, iv.lat, iv.tim, iv.now, iv.wake, iv.places, iv.sec, ⟨hnod, hrng⟩, iv.bs, iv.bt, iv.be, iv.hA, iv.hB⟩
theorem PolicyR.inv {policy naps e : Int} (h : PolicyR s policy naps e s') (iv : KInv m A B s) : KInv m A B s' ∧ (e ≠ 0 → s' = s) := by
  rcases h with ⟨_, _, rfl⟩ | ⟨rfl, _, _, _, _, rfl⟩
  · exact ⟨iv, fun _ => rfl⟩
  exact ⟨⟨⟨⟨iv.crit, iv.T, iv.N, iv.U, iv.D, iv.X, iv.per, iv.held, iv.heldl, iv.lev, iv.trace, iv.events⟩, iv.stack⟩, iv.mok, iv.jobs, iv.stk, iv.slp, iv.lat, iv.tim, iv.now, iv.wake, iv.places, iv.sec, iv.sems, iv.bs, iv.bt, iv.be, iv.hA, iv.hB⟩, fun h => absurd rfl h⟩
theorem timW_le (x : Int × Int) (h : 0 ≤ x.1) : timW x ≤ 65537 := by unfold timW; omega
theorem wsum_upd_le {α : Type} (g : α → Nat) (f : Int → Option α) (k : Int) (v : Option α) : wsum g (upd f k v) ≤ wsum g f + ow g v := by
  by_cases h : 0 ≤ k ∧ k < 8
  · have := wsum_upd g f h.1 h.2 v
    omega
  · have : ∀ j : Int, 0 ≤ j → j < 8 → upd f k v j = f j := fun j h0 h8 => by
      rw [upd, if_neg (by omega)]
    unfold wsum
    rw [this 0 (by decide) (by decide), this 1 (by decide) (by decide), this 2 (by decide) (by decide), this 3 (by decide) (by decide), this 4 (by decide) (by decide), this 5 (by decide) (by decide), this 6 (by decide) (by decide), this 7 (by decide) (by decide)]
    exact Nat.le_add_right _ _
theorem TimerR.inv {x : Step} {e : Int} (h : TimerR s x e s') (iv : KInv m A B s) (hB : B + 70000 ≤ bigN) : KInv m A (B + 70000) s' ∧ (e ≠ 0 → s' = s) := by
  have iw := iv.mono (A' := A) (B' := B + 70000) (by omega) (by omega) iv.hA hB
  have hnow := iv.now
  have hbe := iv.be
  unfold TimerR at h
  split at h
  · rcases h with ⟨_, rfl, rfl⟩ | ⟨_, _, rfl⟩
    · refine ⟨⟨⟨⟨iw.crit, iv.T, iv.N, iv.U, iv.D, iv.X, iv.per, iv.held, iv.heldl, iv.lev, iv.trace, iv.events⟩, iv.stack⟩, iv.mok, iv.jobs, iv.stk, iv.slp, iv.lat, fun k y hk => ?_, iv.now, iv.wake, iv.places, iv.sec, iv.sems, iw.bs, iw.bt, ?_, iw.hA, iw.hB⟩, fun h => absurd rfl h⟩
      · simp only [upd] at hk
        by_cases e : k = x.a
        · rw [if_pos e] at hk; cases hk
        · rw [if_neg e] at hk
          exact iv.tim k y hk
      · have := wsum_upd_le timW s.tim x.a none
        have e1 : ow timW (none : Option (Int × Int)) = 0 := rfl
        dsimp only
        omega
    · exact ⟨iw, fun _ => rfl⟩
  · rcases h with ⟨_, _, rfl⟩ | ⟨rfl, h0, h3, b0, b1, c0, c1, rfl⟩
    · exact ⟨iw, fun _ => rfl⟩
    · have hw : wz (s.now + x.b) = s.now + x.b := wz_id (by omega) (by omega)
      rw [hw, if_neg (by omega)]
      refine ⟨⟨⟨⟨iw.crit, iv.T, iv.N, iv.U, iv.D, iv.X, iv.per, iv.held, iv.heldl, iv.lev, iv.trace, iv.events⟩, iv.stack⟩, iv.mok, iv.jobs, iv.stk, iv.slp, iv.lat, fun k y hk => ?_, iv.now, iv.wake, iv.places, iv.sec, iv.sems, iw.bs, iw.bt, ?_, iw.hA, iw.hB⟩, fun h => absurd rfl h⟩
      · simp only [upd] at hk
        by_cases e : k = x.a
        · rw [if_pos e] at hk; cases hk
          exact ⟨by omega, by omega, by dsimp only; omega, by dsimp only; omega, c0, c1⟩
        · rw [if_neg e] at hk
          exact iv.tim k y hk
      · have := wsum_upd_le timW s.tim x.a (some (s.now + x.b, x.c))
        have e1 : ow timW (some (s.now + x.b, x.c)) = timW (s.now + x.b, x.c) := rfl
        have e2 := timW_le (s.now + x.b, x.c) (by dsimp only; omega)
        dsimp only
        omega
theorem tickStar_inv {E : Int} (hE : E ≤ 16384) (h : Star (TickOne m E) s s') : KInv m A B s → KInv m A B s' := by
  intro iv
  induction h with
  | refl => exact iv
  | tail _ h2 ih => exact (tickOne_inv hE h2 ih).1
theorem endT_le (hm : MOk m) (s : KS) (n : Int) : endT m s n ≤ 16384 := by
  have := hm.hor
  unfold endT
  split <;> omega
theorem TickR.inv {n e : Int} (h : TickR m s n e s') (iv : KInv m A B s) : KInv m A B s' ∧ (e ≠ 0 → s' = s) := by
  rcases h with ⟨_, _, rfl⟩ | ⟨rfl, _, _, hs, _⟩
  · exact ⟨iv, fun _ => rfl⟩
  · exact ⟨tickStar_inv (endT_le iv.mok s n) hs iv, fun h => absurd rfl h⟩
theorem OneR.inv {x : ASt} {n e : Int} (h : OneR m s x n e s') (iv : KInv m A B s) (hA : A + 1 ≤ 800000000) (hB : B + 70000 ≤ bigN) : KInv m (A + 1) (B + 70000) s' ∧ (e ≠ 0 → s' = s) := by
  have up : ∀ {s'}, KInv m A B s' → KInv m (A + 1) (B + 70000) s' := fun h => h.mono (by omega) (by omega) hA hB
  rcases h with ⟨_, h⟩ | ⟨_, _, h⟩ | ⟨_, _, h⟩ | ⟨_, _, h⟩ | ⟨_, _, h⟩ | ⟨_, _, h⟩ | ⟨_, _, h⟩ | ⟨_, _, rfl, rfl⟩
  · exact ⟨up (h.inv iv).1, (h.inv iv).2⟩
  · exact ⟨up (h.inv iv).1, (h.inv iv).2⟩
  · exact h.inv iv hA hB
  · exact ⟨up (h.inv iv).1, (h.inv iv).2⟩
  · exact ⟨up (h.inv iv).1, (h.inv iv).2⟩
  · exact ⟨up (h.inv iv).1, (h.inv iv).2⟩
  · exact ⟨(h.inv iv hB).1.mono (by omega) (by omega) hA hB, (h.inv iv hB).2⟩
  · exact ⟨up iv, fun _ => rfl⟩
/-- A step of a script. -/
def DoR (m : Mach) (s : KS) (x : ASt) (n e : Int) (s' : KS) : Prop :=
  (s.now ≥ m.p.horizon ∧ n = 0 ∧ e = 11 ∧ s' = s) ∨ (s.now < m.p.horizon ∧ ((e ≠ 0 ∧ OneR m s x n e s ∧ s' = s) ∨ (e = 0 ∧ ∃ s1, OneR m s x n 0 s1 ∧ BoundR m s1 s')))
theorem DoR.inv {x : ASt} {n e : Int} (h : DoR m s x n e s') (iv : KInv m A B s) (hA : A + 1 ≤ 800000000) (hB : B + 70000 ≤ bigN) : KInv m (A + 1) (B + 70000) s' := by
  have iw := iv.mono (A' := A + 1) (B' := B + 70000) (by omega) (by omega) hA hB
  rcases h with ⟨_, _, _, rfl⟩ | ⟨_, ⟨_, _, rfl⟩ | ⟨rfl, s1, h1, h2⟩⟩
  · exact iw
  · exact iw
  · exact (h2.inv (h1.inv iv hA hB).1).1
end
section
variable {o o' : Own} {w w' : World} {m : Mach} {q : KPtr} {s : KS} {a : Nat}
theorem do_spec (h : KRep o w m a q s) {A B : Nat} (iv : KInv m A B s) (hA : A + 1 ≤ 800000000) (hB : B + 70000 ≤ bigN) (x : ASt) (hx : TaskR o w x.t) :
    Call P 13 [vP a, x.st.v] [sI, sI] (fun n e w' => ∃ s', DoR m s x n e s' ∧ KInv m (A + 1) (B + 70000) s' ∧ KA o w m a s' w') w := by
  refine f13_of _ _ (New_blk o 90 fun b1 o1 w1 k1 u1 _ => If_f ?_)
  have ud : Up no o w o1 w1.drew := u1.trans .drew
  have h := h.upno ud
  have hx := hx.up ud rfl
  have k1 := k1.up (C := no) (o' := o1) (w' := w1.drew) .drew rfl
  have U : Up kl o w o1 w1.drew := ud.of_no
  have iw := iv.mono (A' := A + 1) (B' := B + 70000) (by omega) (by omega) hA hB
  refine WA (h.b.bx.ld (x := s.now) rfl (WA (h.b.bx.ld0 (c := .ki .i64) (x := m.p.horizon) rfl (If_d (fun hge => ?_) fun hge => ?_))))
  · exact ⟨s, .inl ⟨hge, rfl, rfl, rfl⟩, iw, q, o1, h, U⟩
  · have hlt : s.now < m.p.horizon := by
      have : ¬ s.now ≥ m.p.horizon := hge
      omega
    refine k1.bx.ldStep (x := x.st) ?_
    have ho := one_spec h iv x hx
    refine ho.imp2 ?_
    rintro (n : Int) (e : Int) w2 ⟨s1, h1, q2, o2, h2, u2⟩
    obtain ⟨iv1, hs1⟩ := h1.inv iv hA hB
    refine If_eq (fun e0 => ?_) fun e0 => ?_
    · have hb := boundary_spec h2 iv1
      refine hb.imp0 ?_
      rintro w3 ⟨s', hs', hk⟩
      have e0 : e = 0 := e0
      subst e0
      have hd : DoR m s x n 0 s' := .inr ⟨hlt, .inr ⟨rfl, s1, h1, hs'⟩⟩
      exact ⟨s', hd, (hs'.inv iv1).1, KA.trans (U.trans u2) hk⟩
    · have hss := hs1 e0
      subst hss
      exact ⟨s1, .inr ⟨hlt, .inl ⟨e0, h1, rfl⟩⟩, iv1, q2, o2, h2, U.trans u2⟩
end
end Go.Proofs.YtajilfnceoeaiaaGreat.V
