/- Parts of the proof: Who runs, and why nobody else does. Plain, The scheduler's invariant: a job is announced, a task goes, a semaphore is taken or given. Plain, The scheduler's invariant: a semaphore is taken or given. Plain, The scheduler's invariant: a task comes. Plain, The scheduler's invariant: a job ends, or is started. Plain, The scheduler's invariant: a level is chosen; a cycle. Plain, The scheduler's invaria. -/
import Derived.Test.YtajilfnceoeaiaaGreatZi0
set_option linter.unusedVariables false
set_option linter.unusedSimpArgs false
/- Who runs, and why nobody else does. Plain. -/
namespace Go.Proofs.YtajilfnceoeaiaaGreat.V
open Go Go.RowKit Enc
set_option maxRecDepth 100000
section
variable {m : Mach} {A B : Nat} {s s' : KS} {R x y d d' e e' : Int} {L : List Job}
theorem ceilH_fold (T : List ATask) : ∀ (H : List Held) (a : Int), (H.foldl (ceilOne T) a ≤ a ∧ ∀ h ∈ H, H.foldl (ceilOne T) a ≤ ceilZ T h.sem) ∧ (H.foldl (ceilOne T) a = a ∨ ∃ h ∈ H, H.foldl (ceilOne T) a = ceilZ T h.sem)
  | [], a => ⟨⟨Int.le_refl _, fun x hx => (by cases hx)⟩, .inl rfl⟩
  | y :: H, a => by
    obtain ⟨⟨h1, h2⟩, h3⟩ := ceilH_fold T H (ceilOne T a y)
    rw [List.foldl_cons]
    have g : ceilOne T a y ≤ a ∧ ceilOne T a y ≤ ceilZ T y.sem ∧ (ceilOne T a y = a ∨ ceilOne T a y = ceilZ T y.sem) := by
      unfold ceilOne
      by_cases h : ceilZ T y.sem < a
      · rw [if_pos h]; omega
      · rw [if_neg h]; omega
    refine ⟨⟨Int.le_trans h1 g.1, fun h hh => ?_⟩, ?_⟩
    · rcases List.mem_cons.1 hh with rfl | hh
      · exact Int.le_trans h1 g.2.1
      · exact h2 h hh
    · rcases h3 with h3 | ⟨h, hh, he⟩
      · rw [h3]
        rcases g.2.2 with g2 | g2
        · exact .inl g2
        · exact .inr ⟨y, .head _, g2⟩
      · exact .inr ⟨h, .tail _ hh, he⟩
theorem perT_eq (T : List ATask) (n : Int) : perT (T.map ATask.t) n = perN T n.toNat := by
  unfold perT perN tk
  rw [List.getElem?_map]
  cases T[n.toNat]? with
  | none => rfl
  | some x => rfl
/-- Of two on the stack the upper one comes first. -/
theorem pair_last {α : Type} {Q : α → α → Prop} {l : List α} (h : l.Pairwise Q) {a b : α} (hb : l.getLast? = some b) (ha : a ∈ l) (hne : a ≠ b) : Q a b := by
  obtain ⟨l', rfl⟩ : ∃ l', l = l' ++ [b] := by
    have := List.getLast?_eq_some_iff.1 hb
    exact this
  rcases List.mem_append.1 ha with ha | ha
  · exact (List.pairwise_append.1 h).2.2 a ha b (List.mem_singleton.2 rfl)
  · exact absurd (List.mem_singleton.1 ha) hne
theorem last_mem {α : Type} {l : List α} (h : l ≠ []) : ∃ b, l.getLast? = some b := by
  cases hl : l.getLast? with
  | some b => exact ⟨b, rfl⟩
  | none => exact absurd (List.getLast?_eq_none_iff.1 hl) h
theorem lt_asymm {a b : Job} (h : a.lt b) : ¬ b.lt a := fun g => by
  simp only [Job.lt] at h g
  omega
theorem first_lt {f : Int → Option Job} {x : Job} {r : List Job} (hL : ListOf f (x :: r)) {y : Job} (hy : y ∈ x :: r) (hne : y ≠ x) : x.lt y := by
  obtain ⟨i, hi⟩ := List.mem_iff_getElem?.1 hy
  cases i with
  | zero => cases hi; exact absurd rfl hne
  | succ i => exact hL.sorted 0 (i + 1) x y (by omega) rfl hi
/-- One that is blocked. -/
def Blocked (s : KS) (n x : Int) : Prop := ∃ (F : Nat) (jF : Job) (p : Nat) (h : Held), F < 6 ∧ s.jobs F = some jF ∧ jF.started = false ∧ jF.deadline ≤ x ∧ 0 < perN s.T F ∧ perN s.T F < perN s.T n.toNat ∧ s.held[p]? = some h ∧ h.task = n ∧ ceilZ s.T h.sem ≤ perN s.T F
def NoneDue (s : KS) (x : Int) : Prop := ∀ k : Nat, k < 6 → ∀ j, s.jobs k = some j → x < j.deadline
/-- Whose job is started runs: it is the last one of the stack; who is ahead of it is blocked by what it holds itself. -/
theorem Sch.who (h : Sch m e s) (iv : KInv m A B s) (hL : ListOf s.jobs L) {n : Int} (hw : WhoS s L n true) {j : Job} (hj : s.jobs n = some j) (hst : j.started = true) :
    s.stack.getLast? = some n ∧ ∀ x, x < j.deadline → NoneDue s x ∨ Blocked s n x := by
  obtain ⟨hw1, hw2⟩ := hw
  cases L with
  | nil => exact absurd hw1.2 (by decide)
  | cons f r =>
    have hf := (hL.iff f).1 (.head _)
    obtain ⟨_, f0, f6⟩ := iv.jobs _ _ hf
    obtain ⟨jt, n0, n6⟩ := iv.jobs _ _ hj
    have hjm : j ∈ f :: r := (hL.iff j).2 (by rw [jt]; exact hj)
    have hn : n ∈ s.stack := h.nst.of n j hj hst
    have hne : s.stack ≠ [] := fun e => by rw [e] at hn; cases hn
    have all : ∀ x, x < f.deadline → NoneDue s x := fun x hx k hk jk hjk => by
      obtain ⟨kt, _⟩ := iv.jobs _ _ hjk
      have hm : jk ∈ f :: r := (hL.iff jk).2 (by rw [kt]; exact hjk)
      by_cases g : jk = f
      · rw [g]; exact hx
      · have := first_lt hL hm g
        simp only [Job.lt] at this
        omega
    obtain ⟨M, hM⟩ := last_mem hne
    rcases hw2 f r rfl f0 with ⟨hnf, _⟩ | ⟨hfs, hce, hlast⟩
    · have hjf : j = f := by
        rw [hnf, hf] at hj
        cases hj
        rfl
      refine ⟨?_, fun x hx => .inl (all x (by rw [← hjf]; exact hx))⟩
      by_cases g : n = M
      · rw [g]; exact hM
      · exfalso
        obtain ⟨jM, hjM, _⟩ := h.nst.on M (List.mem_of_getLast? hM)
        have h1 := pair_last h.nst.ord hM hn g j jM hj hjM
        obtain ⟨Mt, _⟩ := iv.jobs _ _ hjM
        have hm : jM ∈ f :: r := (hL.iff jM).2 (by rw [Mt]; exact hjM)
        have h2 := first_lt hL hm fun e2 => g (by rw [← Mt, e2, ← hnf])
        rw [← hjf] at h2
        exact lt_asymm h1 h2
    · refine ⟨hlast, fun x hx => ?_⟩
      by_cases hdx : f.deadline ≤ x
      · right
        obtain ⟨F, hF⟩ : ∃ F : Nat, f.task = F := ⟨f.task.toNat, by omega⟩
        rw [perT_eq, hF, Int.toNat_natCast] at hce
        have hfj : f ≠ j := fun e => by rw [e, hst] at hfs; cases hfs
        have hlt := h.tms.nst f.task n f j hf hj hfs hst (first_lt hL hjm (Ne.symm hfj))
        rw [hF, Int.toNat_natCast] at hlt
        have hper := (h.bnd iv).per F (by omega)
        have hper0 := (h.tms.job _ _ hf).1
        rw [hF, Int.toNat_natCast] at hper0
        rcases (ceilH_fold s.T s.held 1099511627776).2 with h3 | ⟨u, hu, h3⟩
        · have h3 : ceilH s.T s.held = 1099511627776 := h3
          omega
        · have h3 : ceilH s.T s.held = ceilZ s.T u.sem := h3
          obtain ⟨p, hp⟩ := List.mem_iff_getElem?.1 hu
          refine ⟨F, f, p, u, by omega, by rw [← hF]; exact hf, hfs, hdx, hper0, hlt, hp, ?_, by omega⟩
          by_cases g : u.task = n
          · exact g
          · have := pair_last h.nst.cel hlast (h.nst.own u hu) g u hu rfl
            omega
      · exact .inl (all x (by omega))
/-- Whose job is not started runs: it is the first of all, below all ceilings. -/
theorem Sch.whoNew (h : Sch m e s) (iv : KInv m A B s) (hL : ListOf s.jobs L) {n : Int} (hw : WhoS s L n true) {j : Job} (hj : s.jobs n = some j) (hst : j.started = false) :
    (∀ k jk, s.jobs k = some jk → k ≠ n → j.lt jk) ∧ ∀ u ∈ s.held, perN s.T n.toNat < ceilZ s.T u.sem := by
  obtain ⟨hw1, hw2⟩ := hw
  cases L with
  | nil => exact absurd hw1.2 (by decide)
  | cons f r =>
    have hf := (hL.iff f).1 (.head _)
    obtain ⟨_, f0, f6⟩ := iv.jobs _ _ hf
    rcases hw2 f r rfl f0 with ⟨hnf, hwhy⟩ | ⟨_, _, hlast⟩
    · have hjf : j = f := by
        rw [hnf, hf] at hj
        cases hj
        rfl
      refine ⟨fun k jk hjk hk => ?_, fun u hu => ?_⟩
      · obtain ⟨kt, _⟩ := iv.jobs _ _ hjk
        have hm : jk ∈ f :: r := (hL.iff jk).2 (by rw [kt]; exact hjk)
        rw [hjf]
        exact first_lt hL hm fun e2 => hk (by rw [← kt, e2, ← hnf])
      · rcases hwhy with h1 | h1 | h1
        · rw [← hjf, hst] at h1; cases h1
        · rw [perT_eq, ← hnf] at h1
          have := (ceilH_fold s.T s.held 1099511627776).1.2 u hu
          have h2 : ceilH s.T s.held ≤ ceilZ s.T u.sem := this
          omega
        · have := h.nst.own u hu
          rw [h1] at this
          cases this
    · obtain ⟨jM, hjM, hs⟩ := h.nst.on n (List.mem_of_getLast? hlast)
      rw [hj] at hjM
      cases hjM
      rw [hst] at hs
      cases hs
theorem whoOf_none (iv : KInv m A B s) {n : Int} (hw : WhoS s L n false) (hL : ListOf s.jobs L) (k : Int) : s.jobs k = none := by
  obtain ⟨hw1, _⟩ := hw
  cases L with
  | nil =>
    cases hk : s.jobs k with
    | none => rfl
    | some j =>
      have := (hL.iff j).2 (by rw [(iv.jobs k j hk).1]; exact hk)
      cases this
  | cons f r => exact absurd hw1.1 (by decide)
end
end Go.Proofs.YtajilfnceoeaiaaGreat.V
/- The scheduler's invariant: a job is announced, a task goes, a semaphore is taken or given. Plain. -/
namespace Go.Proofs.YtajilfnceoeaiaaGreat.V
open Go Go.RowKit Enc
set_option maxRecDepth 100000
section
variable {m : Mach} {A B : Nat} {s s' : KS} {R x y d d' e : Int} {L : List Job}
/-- A job is announced. -/
theorem Sch.arrive (c : Mc m) (iv : KInv m A B s) (h : Sch m s.now s) (hl : Lft s) {n after cyc er : Int} (hr : ArriveR s n after cyc er s') : Sch m s'.now s' ∧ Lft s' := by
  rcases hr with ⟨_, rfl⟩ | ⟨⟨n0, t, ht, hper⟩, a0, a1, _, _, hnl, hN, _, rfl⟩
  · exact ⟨h, hl⟩
  have b := h.bnd iv
  obtain ⟨i, rfl⟩ : ∃ i : Nat, n = i := ⟨n.toNat, by omega⟩
  rw [Int.toNat_natCast] at ht hN
  have hT := iv.T
  have hNl := iv.N
  have hi6 : i < 6 := by have := lt_of_get ht; omega
  have hnow := b.now
  have hw : wz (s.now + after) = s.now + after := wze (by omega) (by omega)
  rw [hw] at hN
  rw [Int.toNat_natCast, hw]
  have htk : tk s.T i = t := tk_some ht
  have hpt : perN s.T i = t.t.period := by unfold perN; rw [htk]
  generalize hs' : ({ s with lat := upd s.lat (i : Int) (some (s.now + after, cyc)), N := s.N.set i (s.now + after) } : KS) = s'
  have eT : s'.T = s.T := by rw [← hs']
  have eN : s'.N = s.N.set i (s.now + after) := by rw [← hs']
  have ej : s'.jobs = s.jobs := by rw [← hs']
  have el : s'.lat = upd s.lat (i : Int) (some (s.now + after, cyc)) := by rw [← hs']
  have en : s'.now = s.now := by rw [← hs']
  have est : s'.stack = s.stack := by rw [← hs']
  have ehd : s'.held = s.held := by rw [← hs']
  have lne : ∀ k : Int, k ≠ i → s'.lat k = s.lat k := fun k hk => by rw [el]; exact upd_other _ _ hk
  have lself : s'.lat i = some (s.now + after, cyc) := by rw [el]; exact upd_self _ _ _
  have Nne : ∀ k : Nat, k ≠ i → s'.N.getD k 0 = s.N.getD k 0 := fun k hk => by rw [eN]; exact getD_set_ne (Ne.symm hk) _
  have Nself : s'.N.getD i 0 = s.now + after := by rw [eN]; exact getD_set_self (by omega) _
  have hf : ∀ k, k < 6 → fZ s k ≤ fZ s' k := fun k hk => by
    by_cases e : k = i
    · subst e
      unfold fZ
      rw [lself, hnl, Nself]
      show fromZ s.N s.now k ≤ s.now + after
      unfold fromZ
      split <;> omega
    · have : ((k : Nat) : Int) ≠ i := by omega
      unfold fZ fromZ
      rw [lne k this, Nne k e, en]
      exact Int.le_refl _
  have hm : ∀ x k, k < 6 → mayP s' k x → mayP s k x := fun x k hk hk' => by
    unfold mayP at hk' ⊢
    rw [eT, ej] at hk'
    have := hf k hk
    refine ⟨hk'.1, hk'.2.imp id fun h2 => by omega⟩
  obtain ⟨R, Bd⟩ := h.bud
  have hD : ∀ x, DZ m s x ≤ DZ m s' x := fun x => by
    have := DZ_adv (m := m) (s := s) (s' := s') (fun k hk => (Bd.u0 k hk).1) eT hf x (n := 0) (by decide) (c := 0) (fun k _ _ => by rw [ej]) (by rw [ej]; omega)
    rw [en] at this
    omega
  obtain ⟨hDn, htop, hfin⟩ := h.carry (s' := s') c eT est (by rw [← hs']) (by rw [← hs']) en ehd (fun k _ => by rw [ej]) (fun k j hj hn => by rw [ej, hn] at hj; cases hj)
    (fun k a cc hk => by
      by_cases e : k = i
      · rw [e, lself] at hk
        cases hk
        exact .inr (by omega)
      · exact .inl (by rw [← lne k e]; exact hk))
    (fun k j r tt hj hn _ _ => by rw [ej, hn] at hj; cases hj) hm hD
  rw [en]
  refine ⟨⟨⟨R, by rw [eT]; exact Bd⟩, ⟨by rw [est]; exact h.nst.nod, by rw [est, ej]; exact h.nst.on, by rw [est, ej]; exact h.nst.of, by rw [est, ej]; exact h.nst.ord, by rw [ehd, est]; exact h.nst.own, by rw [ehd, est, eT]; exact h.nst.cel, by rw [ehd, eT]; exact h.nst.sec⟩,
    ⟨fun k j hj => ?_, fun k a cc hk => ?_, fun k a cc k2 j hk hj hs => ?_, by rw [ej]; exact h.tms.rel, by rw [ej, eT]; exact h.tms.nst, fun k hk => ?_, by rw [← hs']; exact h.tms.dev, by rw [eT]; exact h.tms.sec0⟩, hDn, htop, hfin, fun ha => ?_⟩, by unfold Lft; rw [ej]; exact hl⟩
  · rw [eT, en]
    rw [ej] at hj
    obtain ⟨g1, g2, g3, g4, g5, g6⟩ := h.tms.job k j hj
    refine ⟨g1, g2, g3, g4, ?_, g6⟩
    by_cases e : k = i
    · subst e
      rw [Int.toNat_natCast] at g5 ⊢
      rw [Nself]
      omega
    · have := (iv.jobs k j hj).2
      rw [Nne k.toNat (by omega)]
      exact g5
  · rw [eT]
    by_cases e : k = i
    · subst e
      rw [lself] at hk
      cases hk
      rw [Int.toNat_natCast, Nself, hpt]
      exact ⟨hper, rfl⟩
    · rw [lne k e] at hk
      have := iv.lat k _ hk
      rw [Nne k.toNat (by omega)]
      exact h.tms.lat k a cc hk
  · rw [ej] at hj
    by_cases e : k = i
    · rw [e, lself] at hk
      cases hk
      have := h.tms.rel k2 j hj hs
      omega
    · rw [lne k e] at hk
      exact h.tms.aft k a cc k2 j hk hj hs
  · by_cases e : k = i
    · rw [e, Nself]; omega
    · rw [Nne k e]; exact h.tms.N k hk
  · have ha' : s.asleep = true := by rw [← hs'] at ha; exact ha
    have hs := h.slp ha'
    refine ⟨by rw [est]; exact hs.stack, fun x hx => ?_, by rw [← hs']; exact hs.wake⟩
    obtain ⟨k, hk, h1⟩ := hx
    have h2 := hs.time x ⟨k, hk, hm x k hk h1⟩
    have h3 := hD x
    have ew : s'.wake = s.wake := by rw [← hs']
    rw [ew, en]
    omega
/-- A task goes. -/
theorem Sch.remove (iv : KInv m A B s) (h : Sch m e s) (hl : Lft s) {n er : Int} (hr : RemoveR s n er s') : Sch m e s' ∧ Lft s' := by
  rcases hr with ⟨rfl, _⟩ | ⟨⟨n0, t, ht, hper⟩, hj0, hl0, hh0, _, rfl⟩
  · exact ⟨h, hl⟩
  obtain ⟨i, rfl⟩ : ∃ i : Nat, n = i := ⟨n.toNat, by omega⟩
  rw [Int.toNat_natCast] at ht
  have hT := iv.T
  have hNl := iv.N
  have hiT := lt_of_get ht
  have hi6 : i < 6 := by omega
  rw [Int.toNat_natCast]
  generalize hs' : ({ s with T := s.T.set i noTask, N := s.N.set i 0, U := s.U.set i 0, places := s.places - 1 } : KS) = s'
  have eT : s'.T = s.T.set i noTask := by rw [← hs']
  have eN : s'.N = s.N.set i 0 := by rw [← hs']
  have ej : s'.jobs = s.jobs := by rw [← hs']
  have el : s'.lat = s.lat := by rw [← hs']
  have en : s'.now = s.now := by rw [← hs']
  have est : s'.stack = s.stack := by rw [← hs']
  have ehd : s'.held = [] := by rw [← hs']; exact hh0
  have Nne : ∀ k : Nat, k ≠ i → s'.N.getD k 0 = s.N.getD k 0 := fun k hk => by rw [eN]; exact getD_set_ne (Ne.symm hk) _
  have Nself : s'.N.getD i 0 = 0 := by rw [eN]; exact getD_set_self (by omega) _
  have Pne : ∀ k : Nat, k ≠ i → perN s'.T k = perN s.T k := fun k hk => by rw [eT, perN_set hiT, if_neg hk]
  have Pself : perN s'.T i = 0 := by rw [eT, perN_set hiT, if_pos rfl]; rfl
  have jne : ∀ k j, s.jobs k = some j → k.toNat ≠ i := fun k j hj e => by
    have := (iv.jobs k j hj).2
    have : k = i := by omega
    rw [this, hj0] at hj
    cases hj
  have lne : ∀ k z, s.lat k = some z → k.toNat ≠ i := fun k z hk e => by
    have := iv.lat k z hk
    have : k = i := by omega
    rw [this, hl0] at hk
    cases hk
  have hf : ∀ k, k ≠ i → fZ s' k = fZ s k := fun k hk => by
    unfold fZ fromZ
    rw [el, Nne k hk, en]
  have hm : ∀ x k, k < 6 → mayP s' k x → mayP s k x := fun x k hk hk' => by
    have hki : k ≠ i := fun e => by
      have := hk'.1
      rw [e, Pself] at this
      omega
    unfold mayP at hk' ⊢
    rw [Pne k hki, ej, hf k hki] at hk'
    exact hk'
  have hmom : ∀ x, MomZ s' x → MomZ s x := fun x ⟨k, hk, h1⟩ => ⟨k, hk, hm x k hk h1⟩
  obtain ⟨R, Bd⟩ := h.bud
  have Bd' : Bud m s'.T R := by rw [eT]; exact Bud.remove hT Bd hi6 Bd
  have hD : ∀ x, DZ m s x ≤ DZ m s' x := fun x => by
    have : sum6 (demZ m s' x) ≤ sum6 (demZ m s x) := by
      refine sum6_le fun k hk => ?_
      unfold demZ
      rw [ej]
      by_cases e : k = i
      · subst e
        have e1 : UZ m s'.T k = 0 := by unfold UZ; rw [Pself]; exact if_neg (by decide)
        rw [hj0, e1, Int.zero_mul]
        have := Int.mul_nonneg (Bd.u0 k hk).1 (pos_ge (x - fZ s k))
        omega
      · have e1 : UZ m s'.T k = UZ m s.T k := by
          unfold UZ
          rw [Pne k e, eT, tk_set hiT, if_neg e]
        rw [hf k e, e1]
        exact Int.le_refl _
    unfold DZ
    rw [en]
    omega
  refine ⟨⟨⟨R, Bd'⟩, ⟨by rw [est]; exact h.nst.nod, by rw [est, ej]; exact h.nst.on, by rw [est, ej]; exact h.nst.of, by rw [est, ej]; exact h.nst.ord, by rw [ehd]; exact fun _ h => (by cases h), by rw [ehd, est]; exact h.nst.ord.imp fun _ _ h => (by cases h), by rw [ehd]; exact fun _ h => (by cases h)⟩,
    ⟨fun k j hj => ?_, fun k a cc hk => ?_, by rw [el, ej]; exact h.tms.aft, by rw [ej]; exact h.tms.rel, fun k k2 u v hu hv => ?_, fun k hk => ?_, by rw [← hs']; exact h.tms.dev, fun u hu => ?_⟩, fun x hx => .non ehd ?_, fun hen k j hk hj x hx => .non ehd ?_, fun hen hne => ?_, fun ha => ?_⟩, by unfold Lft; rw [ej]; exact hl⟩
  · rw [ej] at hj
    rw [Pne _ (jne k j hj), Nne _ (jne k j hj), en]
    exact h.tms.job k j hj
  · rw [el] at hk
    rw [Pne _ (lne k _ hk), Nne _ (lne k _ hk)]
    exact h.tms.lat k a cc hk
  · rw [ej] at hu hv
    rw [Pne _ (jne k u hu), Pne _ (jne k2 v hv)]
    exact h.tms.nst k k2 u v hu hv
  · by_cases e : k = i
    · rw [e, Nself]; omega
    · rw [Nne k e]; exact h.tms.N k hk
  · rw [eT] at hu
    rcases List.mem_or_eq_of_mem_set hu with hu | rfl
    · exact h.tms.sec0 u hu
    · exact fun _ => rfl
  · have := (h.D x (hmom x hx)).1
    have := hD x
    omega
  · have e1 : s'.ended = s.ended := by rw [← hs']
    have e2 : s'.level = s.level := by rw [← hs']
    rw [est] at hk
    rw [ej] at hj
    have := (h.top (by rw [← e1]; exact hen) k j hk hj x hx).1
    have := hD x
    rw [e2]
    omega
  · have e1 : s'.ended = s.ended := by rw [← hs']
    obtain ⟨E, g1, g2, g3⟩ := h.fin (by rw [← e1]; exact hen) (by rw [← est]; exact hne)
    refine ⟨E, fun x hx hmx => .non ehd ?_, by rw [est, ej]; exact g2, ?_⟩
    · have := (g1 x hx (hmom x hmx)).1
      have := hD x
      omega
    · rcases g3 with g3 | ⟨r, t, k1, k2, k3, k4, k5⟩
      · exact .inl (by rw [en]; exact g3)
      · refine .inr ⟨r, t, k1, k2, by rw [ehd]; exact fun _ h => (by cases h), fun k j hj hst hd => ?_, by rw [el]; exact k5⟩
        rw [ej] at hj
        rw [Pne _ (jne k j hj)]
        exact k4 k j hj hst hd
  · have ha' : s.asleep = true := by rw [← hs'] at ha; exact ha
    have hs := h.slp ha'
    refine ⟨by rw [est]; exact hs.stack, fun x hx => ?_, by rw [← hs']; exact hs.wake⟩
    have h2 := hs.time x (hmom x hx)
    have h3 := hD x
    have ew : s'.wake = s.wake := by rw [← hs']
    rw [ew, en]
    omega
end
end Go.Proofs.YtajilfnceoeaiaaGreat.V
/- The scheduler's invariant: a semaphore is taken or given. Plain. -/
namespace Go.Proofs.YtajilfnceoeaiaaGreat.V
open Go Go.RowKit Enc
set_option maxRecDepth 100000
section
variable {m : Mach} {A B : Nat} {s s' : KS} {R x y d d' e : Int} {L : List Job}
theorem last_pw {α : Type} {l : List α} (h : l.Nodup) {n : α} (hn : l.getLast? = some n) : l.Pairwise fun a _ => a ≠ n := by
  obtain ⟨l', rfl⟩ := List.getLast?_eq_some_iff.1 hn
  obtain ⟨h1, _, h3⟩ := List.pairwise_append.1 h
  have h4 : ∀ a ∈ l', a ≠ n := fun a ha => h3 a ha n (List.mem_singleton.2 rfl)
  exact List.pairwise_append.2 ⟨h1.imp_of_mem fun ha _ _ => h4 _ ha, List.pairwise_singleton _ _, fun a ha _ _ => h4 a ha⟩
/-- A semaphore is given. -/
theorem Sch.give (c : Mc m) (h : Sch m e s) {n : Int} {i : Nat} (hi : LastOf s.held n i) : Sch m e { s with held := s.held.eraseIdx i } := by
  have hs0 : 0 ≤ slowZ m := by have := c.slow; omega
  have hsub : ∀ u ∈ s.held.eraseIdx i, u ∈ s.held := fun u hu => (List.eraseIdx_sublist s.held i).subset hu
  have ok : ∀ x d, Ok m s x d → Ok m { s with held := s.held.eraseIdx i } x d := fun x d ho =>
    ho.to (s := s) (s' := { s with held := s.held.eraseIdx i }) hs0 rfl (fun n j' hj' hx _ => ⟨j', hj', hx⟩) (fun _ _ h => h) (HeldTo.erase hi) (Int.le_refl _)
  refine ⟨h.bud, ⟨h.nst.nod, h.nst.on, h.nst.of, h.nst.ord, fun u hu => h.nst.own u (hsub u hu), h.nst.cel.imp fun {_ _} g u hu => g u (hsub u hu), fun u hu => h.nst.sec u (hsub u hu)⟩,
    ⟨h.tms.job, h.tms.lat, h.tms.aft, h.tms.rel, h.tms.nst, h.tms.N, h.tms.dev, h.tms.sec0⟩, fun x hx => ok x _ (h.D x hx), fun hen n j hn hj x hx => ok x _ (h.top hen n j hn hj x hx), fun hen hne => ?_, fun ha => ⟨(h.slp ha).stack, (h.slp ha).time, (h.slp ha).wake⟩⟩
  obtain ⟨E, g1, g2, g3⟩ := h.fin hen hne
  refine ⟨E, fun x hx hm => ok x _ (g1 x hx hm), g2, ?_⟩
  rcases g3 with g3 | ⟨r, t, k1, k2, k3, k4, k5⟩
  · exact .inl g3
  · exact .inr ⟨r, t, k1, k2, fun u hu => k3 u (hsub u hu), k4, k5⟩
/-- A semaphore is taken: there is time for that. -/
theorem Sch.take_ok (c : Mc m) (h : Sch m e s) (iv : KInv m A B s) (hb : Bh s) {n sem : Int} {j : Job} (hj : s.jobs n = some j) {q : Int} (hu : usesZ (tk s.T n.toNat) sem = true) (hq : q = (tk s.T n.toNat).sec.getD sem.toNat 0)
    (hblk : x < j.deadline → NoneDue s x ∨ Blocked s n x) {cost : Int} (hc : cost ≤ mxS m) (hok : MomZ s x → ¬ (x < j.deadline ∧ NoneDue s x) → Ok m s x (DZ m s x - cost * 4294967296)) (hmom : MomZ s x) : Ok m { s with held := s.held ++ [⟨n, sem, q⟩] } x (DZ m s x - cost * 4294967296) := by
  obtain ⟨_, n0, n6⟩ := iv.jobs n j hj
  by_cases hnd : x < j.deadline ∧ NoneDue s x
  · refine h.none_ok (s' := { s with held := s.held ++ [⟨n, sem, q⟩] }) c hb hnd.2 hc rfl (fun _ _ h => h) hmom (fun u hu' => ?_) (Int.le_refl _)
    rcases List.mem_append.1 hu' with hu' | hu'
    · exact ⟨iv.held u hu', h.nst.sec u hu'⟩
    · rw [List.mem_singleton.1 hu']
      exact ⟨⟨n0, n6⟩, hu, by rw [hq]; exact Int.le_refl _⟩
  · have ho := hok hmom hnd
    refine ⟨ho.1, fun p u j' i hp hj' hx hi hlt hce hmay => ?_⟩
    have hp : (s.held ++ [(⟨n, sem, q⟩ : Held)])[p]? = some u := hp
    have back : ∀ p0 u', p0 ≤ p → s.held[p0]? = some u' → u'.task = u.task → u'.left * slowZ m * 4294967296 ≤ DZ m s x - cost * 4294967296 → ∃ q' h', q' ≤ p ∧ (s.held ++ [(⟨n, sem, q⟩ : Held)])[q']? = some h' ∧ h'.task = u.task ∧ h'.left * slowZ m * 4294967296 ≤ DZ m s x - cost * 4294967296 := fun p0 u' h1 h2 h3 h4 =>
      ⟨p0, u', h1, by rw [List.getElem?_append_left (lt_of_get h2)]; exact h2, h3, h4⟩
    by_cases hpl : p < s.held.length
    · rw [List.getElem?_append_left hpl] at hp
      obtain ⟨p0, u', h1, h2, h3, h4⟩ := ho.2 p u j' i hp hj' hx hi hlt hce hmay
      exact back p0 u' h1 h2 h3 h4
    · rw [List.getElem?_append_right (by omega)] at hp
      have hp0 : p - s.held.length = 0 := by
        have := lt_of_get hp
        simp only [List.length_singleton] at this
        omega
      rw [hp0] at hp
      cases hp
      have hj' : s.jobs n = some j' := hj'
      rw [hj] at hj'
      cases hj'
      rcases hblk hx with hnone | ⟨F, jF, p0, u, f1, f2, f3, f4, f5, f6, f7, f8, f9⟩
      · exact absurd ⟨hx, hnone⟩ hnd
      · obtain ⟨p1, u', h1, h2, h3, h4⟩ := ho.2 p0 u j F f7 (by rw [f8]; exact hj) hx f1 (by rw [f8]; exact f6) f9 ⟨f5, .inl ⟨jF, f2, f4⟩⟩
        have := lt_of_get f7
        exact back p1 u' (by omega) h2 (by rw [h3, f8]) h4
/-- A semaphore is taken, or given. -/
theorem Sch.lock (c : Mc m) (iv : KInv m A B s) (h : Sch m e s) (hl : Lft s) (hb : Bh s) {sem er : Int} {give : Bool} (hr : LockR s sem give er s') : Sch m e s' ∧ Lft s' := by
  rcases hr with ⟨rfl, _⟩ | ⟨_, n, L, hL, _, hw, hst, t, ht, hu, _, hr⟩
  · exact ⟨h, hl⟩
  rcases hr with ⟨_, i, hi, rfl⟩ | ⟨_, _, q, hq, rfl⟩
  · exact ⟨h.give c hi, hl⟩
  refine ⟨?_, hl⟩
  obtain ⟨⟨n0, n6⟩, j, hj⟩ := whoOf_job iv hL hw
  rw [hj] at hst
  have hst : j.started = true := hst
  obtain ⟨hlast, hblk⟩ := h.who iv hL hw hj hst
  have htk : tk s.T n.toNat = t := tk_some ht
  have hu' : usesZ (tk s.T n.toNat) sem = true := by rw [htk]; exact hu
  have hq' : q = (tk s.T n.toNat).sec.getD sem.toNat 0 := by
    rw [htk, List.getD_eq_getElem?_getD, hq]
    rfl
  have hdue := (h.due c iv hl hj).1
  have hw0 := mxS_in c
  have hsl := c.slow
  have take := fun (x : Int) (cost : Int) (hc : cost ≤ mxS m) => h.take_ok (x := x) c iv hb hj hu' hq' (hblk x) hc
  have nj : ∀ u ∈ s.held ++ [(⟨n, sem, q⟩ : Held)], u ∈ s.held ∨ u = ⟨n, sem, q⟩ := fun u hu => (List.mem_append.1 hu).imp id fun h => List.mem_singleton.1 h
  have nM : n ∈ s.stack := List.mem_of_getLast? hlast
  refine ⟨h.bud, ⟨h.nst.nod, h.nst.on, h.nst.of, h.nst.ord, fun u hu => ?_, ?_, fun u hu => ?_⟩,
    ⟨h.tms.job, h.tms.lat, h.tms.aft, h.tms.rel, h.tms.nst, h.tms.N, h.tms.dev, h.tms.sec0⟩, fun x hx => ?_, fun hen n2 j2 hn2 hj2 x hx => ?_, fun hen hne => ?_, fun ha => ⟨(h.slp ha).stack, (h.slp ha).time, (h.slp ha).wake⟩⟩
  · rcases nj u hu with hu | rfl
    · exact h.nst.own u hu
    · exact nM
  · refine List.Pairwise.imp ?_ (List.Pairwise.and h.nst.cel (last_pw h.nst.nod hlast))
    rintro a b ⟨g, hab⟩ u hu hua
    rcases nj u hu with hu | rfl
    · exact g u hu hua
    · exact absurd hua.symm hab
  · rcases nj u hu with hu | rfl
    · exact h.nst.sec u hu
    · exact ⟨hu', by rw [hq']; exact Int.le_refl _⟩
  · have := take x 0 (by omega) (fun hm _ => by rw [Int.zero_mul, Int.sub_zero]; exact h.D x hm) hx
    rw [Int.zero_mul, Int.sub_zero] at this
    exact this
  · have hn2 : s.stack.getLast? = some n2 := hn2
    rw [hlast] at hn2
    cases hn2
    have hj2 : s.jobs n = some j2 := hj2
    rw [hj] at hj2
    cases hj2
    have ho := h.top hen n j hlast hj x hx
    refine ⟨ho.1, fun p u j' i hp hj' hx' hi hlt hce hmay => ?_⟩
    have hp : (s.held ++ [(⟨n, sem, q⟩ : Held)])[p]? = some u := hp
    by_cases hpl : p < s.held.length
    · rw [List.getElem?_append_left hpl] at hp
      obtain ⟨p0, u', h1, h2, h3, h4⟩ := ho.2 p u j' i hp hj' hx' hi hlt hce hmay
      exact ⟨p0, u', h1, by show (s.held ++ [(⟨n, sem, q⟩ : Held)])[p0]? = some u'; rw [List.getElem?_append_left (lt_of_get h2)]; exact h2, h3, h4⟩
    · rw [List.getElem?_append_right (by omega)] at hp
      have hp0 : p - s.held.length = 0 := by
        have := lt_of_get hp
        simp only [List.length_singleton] at this
        omega
      rw [hp0] at hp
      cases hp
      · have hj' : s.jobs n = some j' := hj'
        rw [hj] at hj'
        cases hj'
        omega
  · obtain ⟨E, g1, g2, g3⟩ := h.fin hen hne
    refine ⟨s.now, fun x hx hm => take x m.p.switch hw0.1 (fun hm hnd => ?_) hm, fun n2 j2 _ hj2 => by have := (h.due c iv hl hj2).1; omega, .inl (Int.le_refl _)⟩
    refine g1 x ?_ hm
    by_cases hxd : x < j.deadline
    · rcases hblk x hxd with hnone | ⟨F, jF, p0, u, f1, f2, f3, f4, f5, f6, f7, f8, f9⟩
      · exact absurd ⟨hxd, hnone⟩ hnd
      · have hdF := (h.due c iv hl f2).1
        rcases g3 with g3 | ⟨r, t, k1, k2, k3, k4, k5⟩
        · omega
        · have h1 := k3 u (List.mem_of_getElem? f7)
          by_cases g : jF.deadline < E
          · have h2 := k4 F jF f2 f3 g
            rw [Int.toNat_natCast] at h2
            omega
          · omega
    · have := g2 n j hlast hj
      omega
end
end Go.Proofs.YtajilfnceoeaiaaGreat.V
/- The scheduler's invariant: a task comes. Plain. -/
namespace Go.Proofs.YtajilfnceoeaiaaGreat.V
open Go Go.RowKit Enc
set_option maxRecDepth 100000
section
variable {m : Mach} {A B : Nat} {s s' : KS} {R x y d d' e : Int} {L : List Job}
theorem longZ1_le {T : List ATask} {b : Int} (h0 : 0 ≤ b) (h : ∀ x ∈ T, x.t.period ≤ b) : longZ1 T ≤ b := by
  have key : ∀ (l : List ATask) (a : Int), a ≤ b → (∀ x ∈ l, x.t.period ≤ b) → l.foldl (fun a x => if x.t.period > a then x.t.period else a) a ≤ b := by
    intro l
    induction l with
    | nil => exact fun a ha _ => ha
    | cons y l ih =>
      intro a ha hx
      refine ih _ ?_ fun x h => hx x (.tail _ h)
      have := hx y (.head _)
      show (if y.t.period > a then y.t.period else a) ≤ b
      split
      · exact this
      · exact ha
  exact key T 0 h0 h
theorem mxZ_le {a b c : Int} (h1 : a ≤ c) (h2 : b ≤ c) : mxZ a b ≤ c := by
  unfold mxZ
  split <;> assumption
/-- A device that is called. -/
theorem DevB.call (c : Mc m) {i : Nat} {d : Device} (hd : m.D[i]? = some d) {now : Int} (hn : 0 ≤ now ∧ now ≤ 17000) {y : Away} (h : DevB y) : DevB (callZ d y now) ∧ (callZ d y now).until_ ≤ 40000 := by
  obtain ⟨h1, h2, h3⟩ := h
  obtain ⟨g1, g2, g3⟩ := c.dev i d hd
  unfold callZ
  by_cases e : y.until_ = 1099511627776
  · rw [if_pos e]
    have e1 : wz (y.from_ + d.even) = y.from_ + d.even := wze (by omega) (by omega)
    have e2 : wz (now + d.up) = now + d.up := wze (by omega) (by omega)
    have e3 : wz (y.from_ + d.down) = y.from_ + d.down := wze (by omega) (by omega)
    have e4 : wz (y.from_ + d.down + d.up) = y.from_ + d.down + d.up := wze (by omega) (by omega)
    rw [e1, e2, e3, e4]
    have : mxZ (mxZ (y.from_ + d.even) (now + d.up)) (y.from_ + d.down + d.up) ≤ 40000 := mxZ_le (mxZ_le (by omega) (by omega)) (by omega)
    exact ⟨⟨.inr this, h2, h3⟩, this⟩
  · rw [if_neg e]
    exact ⟨⟨h1, h2, h3⟩, by rcases h1 with h1 | h1; exact absurd h1 e; exact h1⟩
theorem DevB.calls (c : Mc m) {i : Nat} {d : Device} (hd : m.D[i]? = some d) {now : Int} (hn : 0 ≤ now ∧ now ≤ 17000) {y : Away} (h : DevB y) : ∀ n : Nat, DevB (Nat.repeat (fun z => callZ d z now) n y)
  | 0 => h
  | n + 1 => (DevB.call c hd hn (DevB.calls c hd hn h n)).1
theorem callB_of (c : Mc m) {now : Int} (hn : 0 ≤ now ∧ now ≤ 17000) {D : List Away} (h : ∀ y ∈ D, DevB y) : CallB m now D 40000 := fun _ n x _ hd hx =>
  (DevB.call c hd hn (DevB.calls c hd hn (h x (List.mem_of_getElem? hx)) n)).2
/-- A task comes. -/
theorem Sch.admit (c : Mc m) (iv : KInv m A B s) (h : Sch m e s) (hl : Lft s) (hb : Bh s) {u : ATask} {n er : Int} (hr : AdmitR m s u n er s') : Sch m e s' ∧ Lft s' := by
  rcases hr with ⟨_, _, _, rfl⟩ | ⟨hck, ⟨_, _, _, rfl⟩ | ⟨hh0, ⟨_, _, _, rfl⟩ | ⟨_, ⟨_, _, _, rfl⟩ | ⟨_, hload, i, y, z, r, s1, _, hy, hy0, _, ⟨D1, rfl, hcalls, hrn, hrj, hrw, hrb, _⟩, z1, z2, z3, _, rfl⟩⟩⟩⟩
  · exact ⟨h, hl⟩
  · exact ⟨h, hl⟩
  · exact ⟨h, hl⟩
  · exact ⟨h, hl⟩
  have b := h.bnd iv
  have hT := iv.T
  have hNl := iv.N
  have hiT := lt_of_get hy
  have hi6 : i < 6 := by omega
  have hnow := b.now
  have hwake := iv.wake
  obtain ⟨p1, p2, _⟩ := checkZ_zero hck
  have hor := iv.mok.hor
  have hrn : s.now ≤ r := hrn
  have hrj : ∀ k x, s.jobs k = some x → x.deadline ≤ r := hrj
  have hperT : ∀ x ∈ s.T, x.t.period ≤ 16384 := fun x hx => by
    obtain ⟨k, hk⟩ := List.mem_iff_getElem?.1 hx
    have := (b.per k (by have := lt_of_get hk; omega)).2
    unfold perN at this
    rw [tk_some hk] at this
    exact this
  have hl0 := longZ1_le (by decide) hperT
  have hl1 : 0 ≤ longZ1 s.T := by
    have := longZ1_ge s.T y (List.mem_of_getElem? hy)
    omega
  have hww : wz (s.wake + longZ1 s.T) = s.wake + longZ1 s.T := wze (by omega) (by omega)
  have hrw : s.asleep = true → s.wake + longZ1 s.T ≤ r := fun ha => by
    have := hrw ha
    rw [← hww]
    exact this
  have hr4 : r ≤ 40000 := hrb 40000 (by decide) (by show s.now ≤ 40000; omega) (fun k x hk => (b.job k x hk).2.1) (fun _ => by show wz (s.wake + longZ1 s.T) ≤ 40000; omega) (callB_of c hnow h.tms.dev)
  have hPi : perN s.T i = 0 := by unfold perN; rw [tk_some hy]; exact hy0
  have hzp : z.t.period = u.t.period := z1
  have hni : ∀ k j, s.jobs k = some j → k.toNat ≠ i := fun k j hj e => by
    have := (h.tms.job k j hj).1
    rw [e, hPi] at this
    omega
  have hnl : ∀ k v, s.lat k = some v → k.toNat ≠ i := fun k v hk e => by
    have := (h.tms.lat k v.1 v.2 hk).1
    rw [e, hPi] at this
    omega
  have hji : s.jobs i = none := by
    cases hj : s.jobs (i : Int) with
    | none => rfl
    | some j => exact absurd (Int.toNat_natCast i) (hni i j hj)
  have hli : s.lat i = none := by
    cases hj : s.lat (i : Int) with
    | none => rfl
    | some j => exact absurd (Int.toNat_natCast i) (hnl i j hj)
  obtain ⟨R', Bd'⟩ := Bud.admit c hT iv.per h.tms.sec0 (fun x hx => (iv.sec x hx).2.2) hck hload hy hy0 z1 z2 z3
  obtain ⟨R, Bd⟩ := h.bud
  generalize hs' : ({ s with places := s.places + 1, devs := D1, T := s.T.set i z, N := s.N.set i r, U := s.U.set i u.t.cycles } : KS) = s'
  have eT : s'.T = s.T.set i z := by rw [← hs']
  have eN : s'.N = s.N.set i r := by rw [← hs']
  have ej : s'.jobs = s.jobs := by rw [← hs']
  have el : s'.lat = s.lat := by rw [← hs']
  have en : s'.now = s.now := by rw [← hs']
  have est : s'.stack = s.stack := by rw [← hs']
  have ehd : s'.held = [] := by rw [← hs']; exact hh0
  have Nne : ∀ k : Nat, k ≠ i → s'.N.getD k 0 = s.N.getD k 0 := fun k hk => by rw [eN]; exact getD_set_ne (Ne.symm hk) _
  have Nself : s'.N.getD i 0 = r := by rw [eN]; exact getD_set_self (by omega) _
  have Pne : ∀ k : Nat, k ≠ i → perN s'.T k = perN s.T k := fun k hk => by rw [eT, perN_set hiT, if_neg hk]
  have Pself : perN s'.T i = u.t.period := by rw [eT, perN_set hiT, if_pos rfl, z1]
  have hf : ∀ k, k ≠ i → fZ s' k = fZ s k := fun k hk => by
    unfold fZ fromZ
    rw [el, Nne k hk, en]
  have hfi : fZ s' i = r := by
    unfold fZ fromZ
    rw [el, hli, Nself, en]
    show (if r > s.now then r else s.now) = r
    split <;> omega
  have hm : ∀ x k, k < 6 → x ≤ r → mayP s' k x → mayP s k x := fun x k hk hx hk' => by
    by_cases e : k = i
    · exfalso
      subst e
      rcases hk'.2 with ⟨j, hj, _⟩ | h2
      · rw [ej, hji] at hj; cases hj
      · rw [hfi, Pself] at h2
        omega
    · unfold mayP at hk' ⊢
      rw [Pne k e, ej, hf k e] at hk'
      exact hk'
  have hmom : ∀ x, x ≤ r → MomZ s' x → MomZ s x := fun x hx ⟨k, hk, h1⟩ => ⟨k, hk, hm x k hk hx h1⟩
  rw [← eT] at Bd'
  have hD : ∀ x, x ≤ r → DZ m s x ≤ DZ m s' x := fun x hx => by
    have : sum6 (demZ m s' x) ≤ sum6 (demZ m s x) := by
      refine sum6_le fun k hk => ?_
      unfold demZ
      rw [ej]
      by_cases e : k = i
      · subst e
        rw [hji, hfi, pos_zero (x := x - r) (by omega), Int.mul_zero]
        have := Int.mul_nonneg (Bd.u0 k hk).1 (pos_ge (x - fZ s k))
        omega
      · have e1 : UZ m s'.T k = UZ m s.T k := by
          unfold UZ
          rw [Pne k e, eT, tk_set hiT, if_neg e]
        rw [hf k e, e1]
        exact Int.le_refl _
    unfold DZ
    rw [en]
    omega
  have hDr : ∀ x, r ≤ x → DZ m s r ≤ DZ m s' x := fun x hx => by
    have h1 := DZ_grow (m := m) (s := s') (x := r) (y := x) Bd' hx fun k hk j hj _ => by
      rw [ej] at hj
      exact hrj _ j hj
    exact Int.le_trans (hD r (Int.le_refl _)) h1
  have hfb := fun k : Nat => fZ_ge hb h.tms.latN k
  have hr0 : 0 ≤ DZ m s r := by
    by_cases hmr : MomZ s r
    · exact (h.D r hmr).1
    · have h1 := idle_ge (x := r) Bd (fun k _ => hfb k) hrn fun k hk j hj => by
        refine Int.not_le.1 fun hd => hmr ⟨k, hk, ?_, .inl ⟨j, hj, hd⟩⟩
        have := (h.tms.job k j hj).1
        rw [Int.toNat_natCast] at this
        exact this
      have := Int.mul_nonneg Bd.r0 (show 0 ≤ r - s.now by omega)
      omega
  have e1 : s'.ended = s.ended := by rw [← hs']
  have e2 : s'.level = s.level := by rw [← hs']
  have jm : ∀ k j, s.jobs k = some j → MomZ s r := fun k j hj => by
    obtain ⟨_, k0, k6⟩ := iv.jobs k j hj
    have hp := (h.tms.job k j hj).1
    refine ⟨k.toNat, by omega, hp, .inl ⟨j, ?_, hrj k j hj⟩⟩
    rw [Int.toNat_of_nonneg k0]
    exact hj
  refine ⟨⟨⟨R', Bd'⟩, ⟨by rw [est]; exact h.nst.nod, by rw [est, ej]; exact h.nst.on, by rw [est, ej]; exact h.nst.of, by rw [est, ej]; exact h.nst.ord, by rw [ehd]; exact fun _ h => (by cases h), by rw [ehd, est]; exact h.nst.ord.imp fun _ _ h => (by cases h), by rw [ehd]; exact fun _ h => (by cases h)⟩,
    ⟨fun k j hj => ?_, fun k a cc hk => ?_, by rw [el, ej]; exact h.tms.aft, by rw [ej]; exact h.tms.rel, fun k k2 v w hv hw => ?_, fun k hk => ?_, fun v hv => ?_, fun v hv => ?_⟩, fun x hx => .non ehd ?_, fun hen k j hk hj x hx => .non ehd ?_, fun hen hne => ?_, fun ha => ?_⟩, by unfold Lft; rw [ej]; exact hl⟩
  · rw [ej] at hj
    rw [Pne _ (hni k j hj), Nne _ (hni k j hj), en]
    exact h.tms.job k j hj
  · rw [el] at hk
    rw [Pne _ (hnl k _ hk), Nne _ (hnl k _ hk)]
    exact h.tms.lat k a cc hk
  · rw [ej] at hv hw
    rw [Pne _ (hni k v hv), Pne _ (hni k2 w hw)]
    exact h.tms.nst k k2 v w hv hw
  · by_cases e : k = i
    · rw [e, Nself]; omega
    · rw [Nne k e]; exact h.tms.N k hk
  · have hv : v ∈ D1 := by rw [← hs'] at hv; exact hv
    obtain ⟨k, hk⟩ := List.mem_iff_getElem?.1 hv
    have hkl := lt_of_get hk
    obtain ⟨hlen, hall⟩ := hcalls
    have hlen : D1.length = s.devs.length := hlen
    have hDm := iv.D
    obtain ⟨x0, hx0⟩ : ∃ x0, s.devs[k]? = some x0 := ⟨s.devs[k]'(by omega), List.getElem?_eq_getElem (by omega)⟩
    obtain ⟨d, hd⟩ : ∃ d, m.D[k]? = some d := ⟨m.D[k]'(by omega), List.getElem?_eq_getElem (by omega)⟩
    obtain ⟨y', nn, g1, g2⟩ := hall k x0 d hd hx0
    rw [hk] at g1
    cases g1
    rw [g2]
    exact DevB.calls c hd hnow (h.tms.dev x0 (List.mem_of_getElem? hx0)) nn
  · rw [eT] at hv
    rcases List.mem_or_eq_of_mem_set hv with hv | rfl
    · exact h.tms.sec0 v hv
    · exact fun hv0 => by omega
  · by_cases hxr : x ≤ r
    · have := (h.D x (hmom x hxr hx)).1
      have := hD x hxr
      omega
    · have := hDr x (by omega)
      omega
  · rw [est] at hk
    rw [ej] at hj
    rw [e2]
    by_cases hxr : x ≤ r
    · have := (h.top (by rw [← e1]; exact hen) k j hk hj x hx).1
      have := hD x hxr
      omega
    · have := (h.top (by rw [← e1]; exact hen) k j hk hj r (hrj k j hj)).1
      have := hDr x (by omega)
      omega
  · have hne' : s.stack ≠ [] := by rw [← est]; exact hne
    obtain ⟨E, g1, g2, g3⟩ := h.fin (by rw [← e1]; exact hen) hne'
    obtain ⟨M, hM⟩ := last_mem hne'
    obtain ⟨jM, hjM, _⟩ := h.nst.on M (List.mem_of_getLast? hM)
    have hEr : E ≤ r := Int.le_trans (g2 M jM hM hjM) (hrj M jM hjM)
    refine ⟨E, fun x hx hmx => .non ehd ?_, by rw [est, ej]; exact g2, ?_⟩
    · by_cases hxr : x ≤ r
      · have := (g1 x hx (hmom x hxr hmx)).1
        have := hD x hxr
        omega
      · have := (g1 r hEr (jm M jM hjM)).1
        have := hDr x (by omega)
        omega
    · rcases g3 with g3 | ⟨rr, t, k1, k2, k3, k4, k5⟩
      · exact .inl (by rw [en]; exact g3)
      · refine .inr ⟨rr, t, k1, k2, by rw [ehd]; exact fun _ h => (by cases h), fun k j hj hst hd => ?_, by rw [el]; exact k5⟩
        rw [ej] at hj
        rw [Pne _ (hni k j hj)]
        exact k4 k j hj hst hd
  · have ha' : s.asleep = true := by rw [← hs'] at ha; exact ha
    have hs := h.slp ha'
    have ew : s'.wake = s.wake := by rw [← hs']
    refine ⟨by rw [est]; exact hs.stack, fun x hx => ?_, by rw [← hs']; exact hs.wake⟩
    rw [ew, en]
    by_cases hxr : x ≤ r
    · have h2 := hs.time x (hmom x hxr hx)
      have h3 := hD x hxr
      omega
    · have h3 := hDr x (by omega)
      refine Int.le_trans ?_ h3
      by_cases hmr : MomZ s r
      · exact hs.time r hmr
      · have hrw := hrw ha'
        have hnj : ∀ k : Nat, k < 6 → s.jobs k = none := fun k _ => by
          cases hj : s.jobs (k : Int) with
          | none => rfl
          | some j => exact absurd (jm k j hj) hmr
        have h4 := DZ_grow (m := m) (s := s) (x := s.wake) (y := r) Bd (by omega) fun k hk j hj _ => by rw [hnj k hk] at hj; cases hj
        refine Int.le_trans ?_ h4
        have h5 : sum6 (demZ m s s.wake) ≤ sum6 fun _ => 0 := sum6_le fun k hk => by
          unfold demZ
          rw [hnj k hk]
          have e0 : demJ m s.wake (none : Option Job) = 0 := rfl
          rw [e0, Int.zero_mul, Int.zero_add]
          by_cases hp : 0 < perN s.T k
          · have h6 : ¬ fZ s k + perN s.T k ≤ r := fun g => hmr ⟨k, hk, hp, .inr g⟩
            have h7 := longZ1_ge s.T (tk s.T k) (perN_tk (by omega))
            have h8 : perN s.T k = (tk s.T k).t.period := rfl
            rw [pos_zero (x := s.wake - fZ s k) (by omega), Int.mul_zero]
            exact Int.le_refl _
          · have : UZ m s.T k = 0 := if_neg hp
            rw [this, Int.zero_mul]
            exact Int.le_refl _
        have h6 : sum6 (fun _ => (0 : Int)) = 0 := rfl
        unfold DZ
        omega
end
end Go.Proofs.YtajilfnceoeaiaaGreat.V
/- The scheduler's invariant: a job ends, or is started. Plain. -/
namespace Go.Proofs.YtajilfnceoeaiaaGreat.V
open Go Go.RowKit Enc
set_option maxRecDepth 100000
section
variable {m : Mach} {A B : Nat} {s s' : KS} {R x y d d' e : Int} {L : List Job}
/-- Tasks, and what comes, stay. -/
structure Stay (s s' : KS) : Prop where
  T : s'.T = s.T
  N : s'.N = s.N
  lat : s'.lat = s.lat
  devs : s'.devs = s.devs
theorem Stay.f (st : Stay s s') (hn : s.now ≤ s'.now) (k : Nat) : fZ s k ≤ fZ s' k := fZ_mono st.N st.lat hn k
/-- A job ends. -/
theorem Sch.endJ (c : Mc m) (h : Sch m e s) (ha : s'.asleep = false) {n : Int} {j : Job} (hn06 : 0 ≤ n ∧ n < 6) (hlast : s.stack.getLast? = some n) (hj : s.jobs n = some j) (st : Stay s s') (en : s'.now = s.now) (ej : s'.jobs = upd s.jobs n none) (est : s'.stack = s.stack.filter fun x => !(x == n))
    (ehd : s'.held = s.held.filter fun x => !(x.task == n)) (een : s'.ended = true) : Sch m e s' := by
  have hs0 : 0 ≤ slowZ m := by have := c.slow; omega
  obtain ⟨n0, n6⟩ := hn06
  obtain ⟨i, hni⟩ : ∃ i : Nat, n = i := ⟨n.toNat, by omega⟩
  have hi6 : i < 6 := by omega
  obtain ⟨R, Bd⟩ := h.bud
  have hnM : n ∈ s.stack := List.mem_of_getLast? hlast
  have hjst : j.started = true := by
    obtain ⟨j', hj', hst⟩ := h.nst.on n hnM
    rw [hj] at hj'
    cases hj'
    exact hst
  have jne : ∀ k : Int, k ≠ n → s'.jobs k = s.jobs k := fun k hk => by rw [ej]; exact upd_other _ _ hk
  have jself : s'.jobs n = none := by rw [ej]; exact upd_self _ _ _
  have jo : ∀ k v, s'.jobs k = some v → k ≠ n ∧ s.jobs k = some v := fun k v hv => by
    have hk : k ≠ n := fun e => by rw [e, jself] at hv; cases hv
    exact ⟨hk, by rw [← jne k hk]; exact hv⟩
  have hf := fun k => st.f (by rw [en]; exact Int.le_refl _) k
  have hm : ∀ x k, k < 6 → mayP s' k x → mayP s k x := fun x k hk hk' => by
    unfold mayP at hk' ⊢
    rw [st.T] at hk'
    have := hf k
    refine ⟨hk'.1, ?_⟩
    rcases hk'.2 with ⟨v, hv, hd⟩ | h2
    · exact .inl ⟨v, (jo _ v hv).2, hd⟩
    · exact .inr (by omega)
  have hmom : ∀ x, MomZ s' x → MomZ s x := fun x ⟨k, hk, h1⟩ => ⟨k, hk, hm x k hk h1⟩
  have hq := (h.tms.job n j hj)
  have hQ : m.p.switch ≤ QZ m j ∧ 0 ≤ QZ m j := by
    have hp := c.b.p0
    have hw := c.b.sw
    have h1 : 0 ≤ pos j.left * lev0 m := Int.mul_nonneg (pos_ge _) (by omega)
    unfold QZ
    split <;> omega
  have hD : ∀ x, DZ m s x + demJ m x (some j) * 4294967296 ≤ DZ m s' x := fun x => by
    have := DZ_adv (m := m) (s := s) (s' := s') (fun k hk => (Bd.u0 k hk).1) st.T (fun k _ => hf k) x hi6 (c := demJ m x (some j)) (fun k _ hk => jne k (by omega)) (by rw [← hni, jself, hj]; show 0 + _ ≤ _; omega)
    rw [en] at this
    omega
  have hJ0 : ∀ x, 0 ≤ demJ m x (some j) := fun x => by
    show 0 ≤ if j.deadline ≤ x then QZ m j else 0
    split
    · exact hQ.2
    · exact Int.le_refl _
  have ok : ∀ x d d', d ≤ d' → Ok m s x d → Ok m s' x d' := fun x d d' hd ho =>
    ho.to (s := s) (s' := s') hs0 st.T (fun k v hv hx _ => ⟨v, (jo k v hv).2, hx⟩) (hm x) (by rw [ehd]; exact .filter _ _) hd
  have hsub : ∀ u ∈ s'.held, u ∈ s.held ∧ u.task ≠ n := fun u hu => by
    rw [ehd] at hu
    obtain ⟨h1, h2⟩ := List.mem_filter.1 hu
    exact ⟨h1, by simpa using h2⟩
  have hstk : ∀ a ∈ s'.stack, a ∈ s.stack ∧ a ≠ n := fun a ha => by
    rw [est] at ha
    obtain ⟨h1, h2⟩ := List.mem_filter.1 ha
    exact ⟨h1, by simpa using h2⟩
  have hstk' : ∀ a, a ∈ s.stack → a ≠ n → a ∈ s'.stack := fun a ha hne => by
    rw [est]
    exact List.mem_filter.2 ⟨ha, by simpa using hne⟩
  have pw : ∀ {Q : Int → Int → Prop}, s.stack.Pairwise Q → s'.stack.Pairwise Q := fun hQ => by
    rw [est]
    exact hQ.filter _
  refine ⟨⟨R, by rw [st.T]; exact Bd⟩, ⟨pw h.nst.nod, fun a ha => ?_, fun a v hv hvs => ?_, ?_, fun u hu => ?_, ?_, fun u hu => ?_⟩,
    ⟨fun k v hv => ?_, by rw [st.lat, st.T, st.N]; exact h.tms.lat, fun k a cc k2 v hk hv hvs => ?_, fun k v hv hvs => h.tms.rel k v (jo k v hv).2 hvs, fun k k2 u v hu hv => ?_, by rw [st.N]; exact h.tms.N, by rw [st.devs]; exact h.tms.dev, by rw [st.T]; exact h.tms.sec0⟩,
    fun x hx => ?_, fun hen => ?_, fun _ _ => ⟨j.deadline, fun x hx hmx => ?_, fun k v hk hv => ?_, .inr ⟨j.release, perN s.T n.toNat, hq.2.2.2.1, h.tms.rel n j hj hjst, fun u hu => ?_, fun k v hv hvs hd => ?_, fun k a cc hk => ?_⟩⟩, fun ha' => ?_⟩
  · obtain ⟨h1, h2⟩ := hstk a ha
    rw [jne a h2]
    exact h.nst.on a h1
  · obtain ⟨h1, h2⟩ := jo a v hv
    exact hstk' a (h.nst.of a v h2 hvs) h1
  · refine (pw h.nst.ord).imp fun {a b} g u v hu hv => g u v (jo a u hu).2 (jo b v hv).2
  · obtain ⟨h1, h2⟩ := hsub u hu
    exact hstk' _ (h.nst.own u h1) h2
  · rw [st.T]
    exact (pw h.nst.cel).imp fun {a b} g u hu => g u (hsub u hu).1
  · rw [st.T]
    exact h.nst.sec u (hsub u hu).1
  · rw [st.T, st.N, en]
    exact h.tms.job k v (jo k v hv).2
  · rw [st.lat] at hk
    exact h.tms.aft k a cc k2 v hk (jo k2 v hv).2 hvs
  · rw [st.T]
    exact h.tms.nst k k2 u v (jo k u hu).2 (jo k2 v hv).2
  · have h1 := hD x
    have h2 := hJ0 x
    exact ok x _ _ (by omega) (h.D x (hmom x hx))
  · rw [een] at hen; cases hen
  · have h1 := hD x
    have h2 : demJ m x (some j) = QZ m j := if_pos hx
    rw [h2] at h1
    exact ok x _ _ (by omega) (h.D x (hmom x hmx))
  · obtain ⟨h1, h2⟩ := hstk k (List.mem_of_getLast? hk)
    have h3 := pair_last h.nst.ord hlast h1 h2 v j (jo k v hv).2 hj
    simp only [Job.lt] at h3
    omega
  · rw [st.T]
    obtain ⟨h1, h2⟩ := hsub u hu
    exact pair_last h.nst.cel hlast (h.nst.own u h1) h2 u h1 rfl
  · rw [st.T]
    exact h.tms.nst k n v j (jo k v hv).2 hj hvs hjst (.inl hd)
  · rw [st.lat] at hk
    exact h.tms.aft k a cc n j hk hj hjst
  · rw [ha] at ha'; cases ha'
/-- A job is started: as if one had ended that was due then. -/
theorem Sch.startJ (c : Mc m) (iv : KInv m A B s) (h : Sch m e s) (hb : Bh s) (hne : s.now < e) (ha : s'.asleep = false) {n : Int} {j : Job} (hj : s.jobs n = some j) (hst : j.started = false) (hfirst : ∀ k jk, s.jobs k = some jk → k ≠ n → j.lt jk) (hceil : ∀ u ∈ s.held, perN s.T n.toNat < ceilZ s.T u.sem)
    (st : Stay s s') (en : s'.now = s.now) (ej : s'.jobs = upd s.jobs n (some { j with started := true })) (est : s'.stack = s.stack ++ [n]) (ehd : s'.held = s.held) (een : s'.ended = true) : Sch m e s' := by
  have hs0 : 0 ≤ slowZ m := by have := c.slow; omega
  obtain ⟨_, n0, n6⟩ := iv.jobs n j hj
  obtain ⟨i, hni⟩ : ∃ i : Nat, n = i := ⟨n.toNat, by omega⟩
  have hi6 : i < 6 := by omega
  obtain ⟨R, Bd⟩ := h.bud
  have jne : ∀ k : Int, k ≠ n → s'.jobs k = s.jobs k := fun k hk => by rw [ej]; exact upd_other _ _ hk
  have jself : s'.jobs n = some { j with started := true } := by rw [ej]; exact upd_self _ _ _
  -- a job behind is a job ahead, but for its start
  have jo : ∀ k v, s'.jobs k = some v → ∃ u, s.jobs k = some u ∧ v.task = u.task ∧ v.release = u.release ∧ v.deadline = u.deadline ∧ v.left = u.left ∧ (k ≠ n → v = u) ∧ (v.started = false → v = u) := fun k v hv => by
    by_cases hk : k = n
    · subst hk
      rw [jself] at hv
      cases hv
      exact ⟨j, hj, rfl, rfl, rfl, rfl, fun g => absurd rfl g, fun g => (by cases g)⟩
    · rw [jne k hk] at hv
      exact ⟨v, hv, rfl, rfl, rfl, rfl, fun _ => rfl, fun _ => rfl⟩
  have hnot : ∀ a ∈ s.stack, a ≠ n := fun a ha hne => by
    obtain ⟨v, hv, hvs⟩ := h.nst.on a ha
    rw [hne, hj] at hv
    cases hv
    rw [hst] at hvs
    cases hvs
  have hf := fun k => st.f (by rw [en]; exact Int.le_refl _) k
  have hm : ∀ x k, k < 6 → mayP s' k x → mayP s k x := fun x k hk hk' => by
    unfold mayP at hk' ⊢
    rw [st.T] at hk'
    have := hf k
    refine ⟨hk'.1, ?_⟩
    rcases hk'.2 with ⟨v, hv, hd⟩ | h2
    · obtain ⟨u, hu, _, _, e3, _⟩ := jo _ v hv
      exact .inl ⟨u, hu, by omega⟩
    · exact .inr (by omega)
  have hmom : ∀ x, MomZ s' x → MomZ s x := fun x ⟨k, hk, h1⟩ => ⟨k, hk, hm x k hk h1⟩
  have hq := (h.tms.job n j hj)
  have hQ : QZ m { j with started := true } + m.p.switch = QZ m j := by
    unfold QZ
    rw [hst]
    simp only [Bool.false_eq_true, if_false, if_true]
    omega
  have hw := c.b.sw
  have hD : ∀ x, DZ m s x + (if j.deadline ≤ x then m.p.switch else 0) * 4294967296 ≤ DZ m s' x := fun x => by
    have := DZ_adv (m := m) (s := s) (s' := s') (fun k hk => (Bd.u0 k hk).1) st.T (fun k _ => hf k) x hi6 (c := if j.deadline ≤ x then m.p.switch else 0) (fun k _ hk => jne k (by omega)) (by
      rw [← hni, jself, hj]
      show (if j.deadline ≤ x then QZ m { j with started := true } else 0) + _ ≤ if j.deadline ≤ x then QZ m j else 0
      split <;> omega)
    rw [en] at this
    omega
  have ok : ∀ x d d', d ≤ d' → Ok m s x d → Ok m s' x d' := fun x d d' hd ho =>
    ho.to (s := s) (s' := s') hs0 st.T (fun k v hv hx _ => by obtain ⟨u, hu, _, _, e3, _⟩ := jo k v hv; exact ⟨u, hu, by omega⟩) (hm x) (by rw [ehd]; exact .refl _) hd
  have stp : ∀ a, a ∈ s'.stack ↔ a ∈ s.stack ∨ a = n := fun a => by
    rw [est, List.mem_append, List.mem_singleton]
  have hlast : s'.stack.getLast? = some n := by rw [est]; exact List.getLast?_concat
  refine ⟨⟨R, by rw [st.T]; exact Bd⟩, ⟨?_, fun a ha => ?_, fun a v hv hvs => ?_, ?_, fun u hu => ?_, ?_, by rw [ehd, st.T]; exact h.nst.sec⟩,
    ⟨fun k v hv => ?_, by rw [st.lat, st.T, st.N]; exact h.tms.lat, fun k a cc k2 v hk hv hvs => ?_, fun k v hv hvs => ?_, fun k k2 u v hu hv hus hvs hlt => ?_, by rw [st.N]; exact h.tms.N, by rw [st.devs]; exact h.tms.dev, by rw [st.T]; exact h.tms.sec0⟩,
    fun x hx => ?_, fun hen => ?_, fun _ _ => ⟨j.deadline, fun x hx hmx => ?_, fun k v hk hv => ?_, .inr ⟨j.release, perN s.T n.toNat, hq.2.2.2.1, by omega, fun u hu => ?_, fun k v hv hvs hd => ?_, fun k a cc hk => ?_⟩⟩, fun ha' => ?_⟩
  · rw [est]
    exact List.nodup_append.2 ⟨h.nst.nod, List.nodup_cons.2 ⟨fun h => (by cases h), List.nodup_nil⟩, fun a ha b hb => by rw [List.mem_singleton.1 hb]; exact hnot a ha⟩
  · rcases (stp a).1 ha with h1 | rfl
    · rw [jne a (hnot a h1)]
      exact h.nst.on a h1
    · exact ⟨_, jself, rfl⟩
  · refine (stp a).2 ?_
    by_cases hk : a = n
    · exact .inr hk
    · rw [jne a hk] at hv
      exact .inl (h.nst.of a v hv hvs)
  · rw [est]
    refine List.pairwise_append.2 ⟨h.nst.ord.imp fun {a b} g u v hu hv => ?_, List.pairwise_singleton _ _, fun a ha b hb u v hu hv => ?_⟩
    · obtain ⟨u', hu', e1, _, e3, _⟩ := jo a u hu
      obtain ⟨v', hv', f1, _, f3, _⟩ := jo b v hv
      have := g u' v' hu' hv'
      simp only [Job.lt] at this ⊢
      omega
    · rw [List.mem_singleton.1 hb, jself] at hv
      cases hv
      rw [jne a (hnot a ha)] at hu
      have := hfirst a u hu (hnot a ha)
      exact this
  · rw [ehd] at hu
    exact (stp _).2 (.inl (h.nst.own u hu))
  · rw [est, st.T, ehd]
    refine List.pairwise_append.2 ⟨h.nst.cel, List.pairwise_singleton _ _, fun a _ b hb u hu _ => ?_⟩
    rw [List.mem_singleton.1 hb]
    exact hceil u hu
  · obtain ⟨u, hu, e1, e2, e3, e4, _⟩ := jo k v hv
    rw [st.T, st.N, en, e2, e3, e4]
    exact h.tms.job k u hu
  · rw [st.lat] at hk
    by_cases hk2 : k2 = n
    · subst hk2
      rw [jself] at hv
      cases hv
      have := hb k _ hk
      show j.release < a
      have h2 := hq.2.2.1
      dsimp only at this
      omega
    · rw [jne k2 hk2] at hv
      exact h.tms.aft k a cc k2 v hk hv hvs
  · by_cases hk2 : k = n
    · subst hk2
      rw [jself] at hv
      cases hv
      have h2 := hq.2.2.1
      show j.release < e
      omega
    · rw [jne k hk2] at hv
      exact h.tms.rel k v hv hvs
  · rw [st.T]
    obtain ⟨u', hu', _, _, _, _, _, hg⟩ := jo k u hu
    have hgu := hg hus
    subst hgu
    by_cases hk2 : k2 = n
    · subst hk2
      rw [jself] at hv
      cases hv
      have hkn : k ≠ k2 := fun e => by
        rw [e, jself] at hu
        cases hu
        cases hus
      have := hfirst k u hu' hkn
      exact absurd this (lt_asymm hlt)
    · rw [jne k2 hk2] at hv
      exact h.tms.nst k k2 u v hu' hv hus hvs hlt
  · have h1 := hD x
    have h2 : 0 ≤ (if j.deadline ≤ x then m.p.switch else 0) := by split <;> omega
    exact ok x _ _ (by omega) (h.D x (hmom x hx))
  · rw [een] at hen; cases hen
  · have h1 := hD x
    rw [if_pos hx] at h1
    exact ok x _ _ (by omega) (h.D x (hmom x hmx))
  · rw [hlast] at hk
    cases hk
    rw [jself] at hv
    cases hv
    exact Int.le_refl _
  · rw [ehd] at hu
    rw [st.T]
    exact hceil u hu
  · exfalso
    obtain ⟨u', hu', _, _, _, _, _, hg⟩ := jo k v hv
    have hgu := hg hvs
    subst hgu
    have hkn : k ≠ n := fun e => by
      rw [e, jself] at hv
      cases hv
      cases hvs
    have := hfirst k v hu' hkn
    simp only [Job.lt] at this
    omega
  · rw [st.lat] at hk
    have := hb k _ hk
    dsimp only at this
    omega
  · rw [ha] at ha'; cases ha'
end
end Go.Proofs.YtajilfnceoeaiaaGreat.V
/- The scheduler's invariant: a level is chosen; a cycle. Plain. -/
namespace Go.Proofs.YtajilfnceoeaiaaGreat.V
open Go Go.RowKit Enc
set_option maxRecDepth 100000
section
variable {m : Mach} {A B : Nat} {s s' : KS} {R x y d d' e : Int} {L : List Job}
theorem lvlP_zero (m : Mach) : lvlP m 0 = lev0 m := by
  unfold lvlP lev0
  rw [List.getD_eq_getElem?_getD]
  rfl
theorem needZ_eq (c : Mc m) (hsw : 0 ≤ m.p.switch ∧ m.p.switch ≤ 256) {left level r : Int} (hl : 0 ≤ left ∧ left ≤ 4096) (h0 : 0 ≤ r) (h1 : r ≤ m.p.crit) : wholeZ (needZ m left level r) = (left * (lvlP m r - lev0 m) + (if r ≠ level then m.p.switch else 0)) * 4294967296 ∧ 0 ≤ left * (lvlP m r - lev0 m) := by
  obtain ⟨g1, g2⟩ := c.lev r h0 h1
  have hp := c.b.p0
  have hs := c.slow
  have e0 : (m.L.getD r.toNat ⟨0, 0⟩).p = lvlP m r := by
    unfold lvlP
    rw [List.getD_eq_getElem?_getD]
  have e1 : wz (lvlP m r - lev0 m) = lvlP m r - lev0 m := wze (by omega) (by omega)
  have h2 : 0 ≤ left * (lvlP m r - lev0 m) := Int.mul_nonneg hl.1 (by omega)
  have h3 : left * (lvlP m r - lev0 m) ≤ 4096 * 256 := Int.mul_le_mul hl.2 (by omega) (by omega) (by decide)
  refine ⟨?_, h2⟩
  unfold needZ
  rw [e0, e1]
  generalize left * (lvlP m r - lev0 m) = z at *
  have e2 : wz z = z := wze (by omega) (by omega)
  rw [e2]
  by_cases h : r ≠ level
  · rw [if_pos h, if_pos h]
    have e3 : wz (z + m.p.switch) = z + m.p.switch := wze (by omega) (by omega)
    rw [e3, wholeZ_eq (by omega) (by omega)]
  · rw [if_neg h, if_neg h, wholeZ_eq (by omega) (by omega), Int.add_zero]
/-- Behind the end that is told of. -/
theorem Sch.end_le (c : Mc m) (iv : KInv m A B s) (h : Sch m e s) (hl : Lft s) {n : Int} {j : Job} {E : Int} (hlast : s.stack.getLast? = some n) (hj : s.jobs n = some j)
    (g2 : ∀ n j, s.stack.getLast? = some n → s.jobs n = some j → E ≤ j.deadline) (g3 : E ≤ s.now ∨ ∃ r t, E = r + t ∧ r < e ∧ (∀ h ∈ s.held, t < ceilZ s.T h.sem) ∧ (∀ k j, s.jobs k = some j → j.started = false → j.deadline < E → perN s.T k.toNat < t) ∧ ∀ k a c, s.lat k = some (a, c) → r < a)
    (hblk : x < j.deadline → NoneDue s x ∨ Blocked s n x) (hnd : ¬ (x < j.deadline ∧ NoneDue s x)) : E ≤ x := by
  by_cases hxd : x < j.deadline
  · rcases hblk hxd with hnone | ⟨F, jF, p0, u, f1, f2, f3, f4, f5, f6, f7, f8, f9⟩
    · exact absurd ⟨hxd, hnone⟩ hnd
    · have hdF := (h.due c iv hl f2).1
      rcases g3 with g3 | ⟨r, t, k1, k2, k3, k4, k5⟩
      · omega
      · have h1 := k3 u (List.mem_of_getElem? f7)
        by_cases g : jF.deadline < E
        · have h2 := k4 F jF f2 f3 g
          rw [Int.toNat_natCast] at h2
          omega
        · omega
  · have := g2 n j hlast hj
    omega
/-- A level is chosen. -/
theorem Sch.chosen (c : Mc m) (iv : KInv m A B s) (h : Sch m e s) (hl : Lft s) (hb : Bh s) (ha : s'.asleep = false) {n : Int} {j : Job} (hlast : s.stack.getLast? = some n) (hj : s.jobs n = some j) (hen : s.ended = true) (hblk : ∀ x, x < j.deadline → NoneDue s x ∨ Blocked s n x)
    {lv : Int} (h0 : 0 ≤ lv) (h1 : lv ≤ m.p.crit) (hT : TimeOk m s j lv) (hLl : ∀ L, ListOf s.jobs L → L.length ≤ 8) (st : Stay s s') (ej : s'.jobs = s.jobs) (est : s'.stack = s.stack) (ehd : s'.held = s.held) (een : s'.ended = false) (elv : s'.level = lv) (enow : s'.now = s.now + (if lv ≠ s.level then m.p.switch else 0)) : Sch m e s' := by
  have hs0 : 0 ≤ slowZ m := by have := c.slow; omega
  have hw := c.b.sw
  have hmx := mxS_in c
  have hsl := c.slow
  have hne : s.stack ≠ [] := fun e => by rw [e] at hlast; cases hlast
  obtain ⟨E, g1, g2, g3⟩ := h.fin hen hne
  obtain ⟨_, n0, n6⟩ := iv.jobs n j hj
  obtain ⟨R, Bd⟩ := h.bud
  have hq := h.tms.job n j hj
  generalize hdl : (if lv ≠ s.level then m.p.switch else 0) = dl at enow
  have hdl0 : 0 ≤ dl ∧ dl ≤ m.p.switch := by rw [← hdl]; split <;> omega
  have hf := fun k => st.f (by omega) k
  have hm : ∀ x k, k < 6 → mayP s' k x → mayP s k x := fun x k hk hk' => by
    unfold mayP at hk' ⊢
    rw [st.T, ej] at hk'
    have := hf k
    exact ⟨hk'.1, hk'.2.imp id fun h2 => by omega⟩
  have hmom : ∀ x, MomZ s' x → MomZ s x := fun x ⟨k, hk, h1⟩ => ⟨k, hk, hm x k hk h1⟩
  have hD : ∀ x, DZ m s x - dl * 4294967296 ≤ DZ m s' x := fun x => by
    have := DZ_adv (m := m) (s := s) (s' := s') (fun k hk => (Bd.u0 k hk).1) st.T (fun k _ => hf k) x (n := 0) (by decide) (c := 0) (fun k _ _ => by rw [ej]) (by rw [ej]; omega)
    rw [enow] at this
    have e1 : s.now + dl - s.now = dl := by omega
    rw [e1] at this
    omega
  have ok : ∀ x d d', d ≤ d' → Ok m s x d → Ok m s' x d' := fun x d d' hd ho =>
    ho.to (s := s) (s' := s') hs0 st.T (fun k v hv hx _ => ⟨v, by rw [← ej]; exact hv, hx⟩) (hm x) (by rw [ehd]; exact .refl _) hd
  have hDn : ∀ x, MomZ s' x → Ok m s' x (DZ m s' x) := fun x hx => by
    by_cases hnd : x < j.deadline ∧ NoneDue s x
    · refine h.none_ok c hb hnd.2 (cost := dl) (by omega) st.T (hm x) hx (fun u hu => ?_) (hD x)
      rw [ehd] at hu
      exact ⟨iv.held u hu, h.nst.sec u hu⟩
    · have hEx := h.end_le c iv hl hlast hj g2 g3 (hblk x) hnd
      refine ok x _ _ ?_ (g1 x hEx (hmom x hx))
      have := hD x
      have h3 : dl * 4294967296 ≤ m.p.switch * 4294967296 := Int.mul_le_mul_of_nonneg_right hdl0.2 (by decide)
      omega
  have mom : ∀ x, j.deadline ≤ x → MomZ s' x := fun x hx => by
    refine ⟨n.toNat, by omega, by rw [st.T]; exact hq.1, .inl ⟨j, ?_, hx⟩⟩
    rw [Int.toNat_of_nonneg n0, ej]
    exact hj
  refine ⟨⟨R, by rw [st.T]; exact Bd⟩, ⟨by rw [est]; exact h.nst.nod, by rw [est, ej]; exact h.nst.on, by rw [est, ej]; exact h.nst.of, by rw [est, ej]; exact h.nst.ord, by rw [est, ehd]; exact h.nst.own, by rw [est, ehd, st.T]; exact h.nst.cel, by rw [ehd, st.T]; exact h.nst.sec⟩,
    ⟨fun k v hv => ?_, by rw [st.lat, st.T, st.N]; exact h.tms.lat, by rw [st.lat, ej]; exact h.tms.aft, by rw [ej]; exact h.tms.rel, by rw [ej, st.T]; exact h.tms.nst, by rw [st.N]; exact h.tms.N, by rw [st.devs]; exact h.tms.dev, by rw [st.T]; exact h.tms.sec0⟩,
    hDn, fun _ n2 j2 hn2 hj2 x hx => ?_, fun hen' => ?_, fun ha' => ?_⟩
  · rw [ej] at hv
    rw [st.T, st.N]
    obtain ⟨k1, k2, k3, k4⟩ := h.tms.job k v hv
    exact ⟨k1, k2, by omega, k4⟩
  · rw [est, hlast] at hn2
    cases hn2
    rw [ej, hj] at hj2
    cases hj2
    rw [elv]
    by_cases hz : 0 < lv
    · obtain ⟨L, r, hL, hr, hall⟩ := hT hz
      obtain ⟨e1, e2⟩ := needZ_eq (left := j.left) (level := s.level) c hw ⟨hq.2.2.2.2.2.1, hq.2.2.2.2.2.2⟩ h0 h1
      rw [e1, hdl] at hr
      have hd : MomE s j.deadline := by
        refine ⟨n.toNat, by omega, .inl ⟨j, ?_, rfl⟩⟩
        rw [Int.toNat_of_nonneg n0]
        exact hj
      have h2 := least_ok c Bd (h.bnd iv) hb h.tms.latN hL (hLl L hL) hd hall hx
      refine ok x _ _ ?_ h2
      have := hD x
      generalize j.left * (lvlP m lv - lev0 m) = z at *
      omega
    · have hz0 : lv = 0 := by omega
      rw [hz0, lvlP_zero, Int.sub_self, Int.mul_zero, Int.zero_mul, Int.sub_zero]
      exact hDn x (mom x hx)
  · rw [een] at hen'; cases hen'
  · rw [ha] at ha'; cases ha'
/-- A cycle. -/
theorem Sch.cycle (c : Mc m) (iv : KInv m A B s) (h : Sch m e s) (hb : Bh s) (ha : s'.asleep = false) {n : Int} {j j' : Job} (hlast : s.stack.getLast? = some n) (hj : s.jobs n = some j) (hen : s.ended = false) (hblk : ∀ x, x < j.deadline → NoneDue s x ∨ Blocked s n x)
    (hleft : 1 ≤ j.left) (hover : ∀ u ∈ s.held, u.task = n → 1 ≤ u.left) (st : Stay s s') (ej : s'.jobs = upd s.jobs n (some j')) (est : s'.stack = s.stack) (ehd : s'.held = s.held.map (spendZ n)) (een : s'.ended = false) (elv : s'.level = s.level) (enow : s'.now = s.now + lvlP m s.level)
    (f1 : j'.task = j.task) (f2 : j'.release = j.release) (f3 : j'.deadline = j.deadline) (f4 : j'.left = j.left - 1) (f5 : j'.started = j.started) : Sch m e s' := by
  have hsl := c.slow
  have hs0 : 0 ≤ slowZ m := by omega
  have hw := c.b.sw
  have hp0 := c.b.p0
  have hmx := mxS_in c
  have hlev := iv.lev
  obtain ⟨lv1, lv2⟩ := c.lev s.level hlev.1 hlev.2
  obtain ⟨_, n0, n6⟩ := iv.jobs n j hj
  obtain ⟨i, hni⟩ : ∃ i : Nat, n = i := ⟨n.toNat, by omega⟩
  have hi6 : i < 6 := by omega
  obtain ⟨R, Bd⟩ := h.bud
  have hq := h.tms.job n j hj
  have b := h.bnd iv
  have hnM : n ∈ s.stack := List.mem_of_getLast? hlast
  have hjst : j.started = true := by
    obtain ⟨j', hj', hst⟩ := h.nst.on n hnM
    rw [hj] at hj'
    cases hj'
    exact hst
  generalize hP : lvlP m s.level = P at *
  have jne : ∀ k : Int, k ≠ n → s'.jobs k = s.jobs k := fun k hk => by rw [ej]; exact upd_other _ _ hk
  have jself : s'.jobs n = some j' := by rw [ej]; exact upd_self _ _ _
  have jo : ∀ k v, s'.jobs k = some v → ∃ u, s.jobs k = some u ∧ v.task = u.task ∧ v.release = u.release ∧ v.deadline = u.deadline ∧ v.started = u.started ∧ (v.left = u.left ∨ v.left = u.left - 1 ∧ k = n) := fun k v hv => by
    by_cases hk : k = n
    · subst hk
      rw [jself] at hv
      cases hv
      exact ⟨j, hj, f1, f2, f3, f5, .inr ⟨f4, rfl⟩⟩
    · rw [jne k hk] at hv
      exact ⟨v, hv, rfl, rfl, rfl, rfl, .inl rfl⟩
  have hf := fun k => st.f (by omega) k
  have hm : ∀ x k, k < 6 → mayP s' k x → mayP s k x := fun x k hk hk' => by
    unfold mayP at hk' ⊢
    rw [st.T] at hk'
    have := hf k
    refine ⟨hk'.1, ?_⟩
    rcases hk'.2 with ⟨v, hv, hd⟩ | h2
    · obtain ⟨u, hu, _, _, e3, _⟩ := jo _ v hv
      exact .inl ⟨u, hu, by omega⟩
    · exact .inr (by omega)
  have hmom : ∀ x, MomZ s' x → MomZ s x := fun x ⟨k, hk, h1⟩ => ⟨k, hk, hm x k hk h1⟩
  have hQ : QZ m j' + lev0 m = QZ m j := by
    unfold QZ
    rw [f4, f5, pos_of (x := j.left) (by omega), pos_of (x := j.left - 1) (by omega), Int.sub_mul, Int.one_mul]
    omega
  have hD : ∀ x, DZ m s x - P * 4294967296 + (if j.deadline ≤ x then lev0 m else 0) * 4294967296 ≤ DZ m s' x := fun x => by
    have := DZ_adv (m := m) (s := s) (s' := s') (fun k hk => (Bd.u0 k hk).1) st.T (fun k _ => hf k) x hi6 (c := if j.deadline ≤ x then lev0 m else 0) (fun k _ hk => jne k (by omega)) (by
      rw [← hni, jself, hj]
      show (if j'.deadline ≤ x then QZ m j' else 0) + _ ≤ if j.deadline ≤ x then QZ m j else 0
      rw [f3]
      split <;> omega)
    have e1 : s'.now - s.now = P := by omega
    rw [e1] at this
    exact this
  have hhl : ∀ u ∈ s.held, (spendZ n u).task = u.task ∧ (spendZ n u).sem = u.sem ∧ (spendZ n u).left = (if u.task = n then u.left - 1 else u.left) := fun u hu => by
    by_cases g : u.task = n
    · have h1 := hover u hu g
      have h2 := (b.held u hu).2.2
      exact spendZ_left (by omega) h2
    · unfold spendZ
      rw [if_neg g, if_neg g]
      exact ⟨rfl, rfl, rfl⟩
  have hht : HeldTo s.held s'.held := fun p v hp => by
    rw [ehd, List.getElem?_map] at hp
    cases hu : s.held[p]? with
    | none => rw [hu] at hp; cases hp
    | some u =>
      rw [hu] at hp
      have hp : spendZ n u = v := by simpa using hp
      obtain ⟨e1, e2, _⟩ := hhl u (List.mem_of_getElem? hu)
      refine ⟨p, u, hu, by rw [← hp, e1], by rw [← hp, e2], fun q w hq' hw' _ => ⟨q, spendZ n w, hq', by rw [ehd, List.getElem?_map, hw']; rfl, ?_⟩⟩
      obtain ⟨g1, g2, g3⟩ := hhl w (List.mem_of_getElem? hw')
      refine ⟨g1, ?_⟩
      rw [g3]
      split <;> omega
  have ok : ∀ x d d', d ≤ d' → Ok m s x d → Ok m s' x d' := fun x d d' hd ho =>
    ho.to (s := s) (s' := s') hs0 st.T (fun k v hv hx _ => by obtain ⟨u, hu, _, _, e3, _⟩ := jo k v hv; exact ⟨u, hu, by omega⟩) (hm x) hht hd
  have hmem : ∀ v ∈ s'.held, ∃ u ∈ s.held, v = spendZ n u := fun v hv => by
    rw [ehd] at hv
    obtain ⟨u, hu, e1⟩ := List.mem_map.1 hv
    exact ⟨u, hu, e1.symm⟩
  have hdiff : 0 ≤ (j.left - 1) * (P - lev0 m) := Int.mul_nonneg (by omega) (by omega)
  have hsplit : j.left * (P - lev0 m) = (j.left - 1) * (P - lev0 m) + (P - lev0 m) := by
    rw [Int.sub_mul j.left, Int.one_mul]
    omega
  have htop : ∀ x, j.deadline ≤ x → Ok m s' x (DZ m s' x - (j.left - 1) * (P - lev0 m) * 4294967296) := fun x hx => by
    have h1 := h.top hen n j hlast hj x hx
    rw [hP] at h1
    have h2 := hD x
    rw [if_pos hx] at h2
    rw [hsplit] at h1
    refine ok x _ _ ?_ h1
    generalize (j.left - 1) * (P - lev0 m) = z at *
    omega
  have hDn : ∀ x, MomZ s' x → Ok m s' x (DZ m s' x) := fun x hx => by
    by_cases hxd : x < j.deadline
    · rcases hblk x hxd with hnone | ⟨F, jF, p0, u, k1, k2, k3, k4, k5, k6, k7, k8, k9⟩
      · refine h.none_ok c hb hnone (cost := P) (by omega) st.T (hm x) hx (fun v hv => ?_) (by have := hD x; rw [if_neg (by omega)] at this; omega)
        obtain ⟨u, hu, rfl⟩ := hmem v hv
        obtain ⟨e1, e2, e3⟩ := hhl u hu
        obtain ⟨e4, e5⟩ := h.nst.sec u hu
        rw [e1, e2]
        refine ⟨iv.held u hu, e4, ?_⟩
        rw [e3]
        split <;> omega
      · have hDx := h.D x (hmom x hx)
        have h2 := hD x
        rw [if_neg (by omega)] at h2
        have hslw : P * 4294967296 ≤ slowZ m * 4294967296 := Int.mul_le_mul_of_nonneg_right lv2 (by decide)
        -- what it holds itself: a cycle less
        have less : ∀ v : Held, v.left * slowZ m * 4294967296 ≤ DZ m s x → (v.left - 1) * slowZ m * 4294967296 ≤ DZ m s' x := fun v hv => by
          rw [Int.sub_mul, Int.one_mul, Int.sub_mul]
          generalize v.left * slowZ m = z at *
          omega
        refine ⟨?_, fun p v' jv i' hp hjv hxv hi' hlt hce hmay => ?_⟩
        · obtain ⟨q, w, _, q2, q3, q4⟩ := hDx.2 p0 u j F k7 (by rw [k8]; exact hj) hxd k1 (by rw [k8]; exact k6) k9 ⟨k5, .inl ⟨jF, k2, k4⟩⟩
          have h3 := less w q4
          have h4 := hover w (List.mem_of_getElem? q2) (by rw [q3, k8])
          have h5 : 0 ≤ (w.left - 1) * slowZ m := Int.mul_nonneg (by omega) (by omega)
          have h6 : 0 ≤ (w.left - 1) * slowZ m * 4294967296 := Int.mul_nonneg h5 (by decide)
          omega
        · rw [ehd, List.getElem?_map] at hp
          cases hv : s.held[p]? with
          | none => rw [hv] at hp; cases hp
          | some v =>
            rw [hv] at hp
            have hp : spendZ n v = v' := by simpa using hp
            obtain ⟨e1, e2, e3⟩ := hhl v (List.mem_of_getElem? hv)
            rw [← hp] at hjv hlt hce ⊢
            rw [e1] at hjv hlt ⊢
            rw [e2] at hce
            rw [st.T] at hlt hce
            obtain ⟨jv0, hjv0, _, _, e6, _⟩ := jo _ jv hjv
            have hmay0 := hm x i' hi' hmay
            by_cases hvn : v.task = n
            · obtain ⟨q, w, q1, q2, q3, q4⟩ := hDx.2 p v jv0 i' hv hjv0 (by omega) hi' hlt hce hmay0
              obtain ⟨w1, w2, w3⟩ := hhl w (List.mem_of_getElem? q2)
              refine ⟨q, spendZ n w, q1, by rw [ehd, List.getElem?_map, q2]; rfl, by rw [w1, q3], ?_⟩
              rw [w3, if_pos (by rw [q3, hvn])]
              exact less w q4
            · exfalso
              have hcl := pair_last h.nst.cel hlast (h.nst.own v (List.mem_of_getElem? hv)) hvn v (List.mem_of_getElem? hv) rfl
              rcases hmay0.2 with ⟨y, hy, hyd⟩ | h7
              · have hyn : ((i' : Nat) : Int) ≠ n := fun e => by
                  rw [e, hj] at hy
                  cases hy
                  omega
                cases hys : y.started with
                | true =>
                  have := pair_last h.nst.ord hlast (h.nst.of _ y hy hys) hyn y j hy hj
                  simp only [Job.lt] at this
                  omega
                | false =>
                  have := h.tms.nst i' n y j hy hj hys hjst (.inl (by omega))
                  rw [Int.toNat_natCast] at this
                  omega
              · have := fZ_ge hb h.tms.latN i'
                omega
    · have h1 := htop x (by omega)
      exact h1.mono (by
        have : 0 ≤ (j.left - 1) * (P - lev0 m) * 4294967296 := Int.mul_nonneg hdiff (by decide)
        omega)
  refine ⟨⟨R, by rw [st.T]; exact Bd⟩, ⟨by rw [est]; exact h.nst.nod, fun a ha => ?_, fun a v hv hvs => ?_, ?_, fun v hv => ?_, ?_, fun v hv => ?_⟩,
    ⟨fun k v hv => ?_, by rw [st.lat, st.T, st.N]; exact h.tms.lat, fun k a cc k2 v hk hv hvs => ?_, fun k v hv hvs => ?_, fun k k2 u v hu hv hus hvs hlt => ?_, by rw [st.N]; exact h.tms.N, by rw [st.devs]; exact h.tms.dev, by rw [st.T]; exact h.tms.sec0⟩,
    hDn, fun _ n2 j2 hn2 hj2 x hx => ?_, fun hen' => ?_, fun ha' => ?_⟩
  · rw [est] at ha
    by_cases hk : a = n
    · rw [hk]
      exact ⟨j', jself, by rw [f5]; exact hjst⟩
    · rw [jne a hk]
      exact h.nst.on a ha
  · obtain ⟨u, hu, _, _, _, e5, _⟩ := jo a v hv
    rw [est]
    exact h.nst.of a u hu (by rw [← e5]; exact hvs)
  · rw [est]
    refine h.nst.ord.imp fun {a b} g u v hu hv => ?_
    obtain ⟨u', hu', e1, _, e3, _⟩ := jo a u hu
    obtain ⟨v', hv', g1, _, g3, _⟩ := jo b v hv
    have := g u' v' hu' hv'
    simp only [Job.lt] at this ⊢
    omega
  · obtain ⟨u, hu, rfl⟩ := hmem v hv
    rw [est, (hhl u hu).1]
    exact h.nst.own u hu
  · rw [est, st.T]
    refine h.nst.cel.imp fun {a b} g v hv hva => ?_
    obtain ⟨u, hu, rfl⟩ := hmem v hv
    rw [(hhl u hu).1] at hva
    rw [(hhl u hu).2.1]
    exact g u hu hva
  · obtain ⟨u, hu, rfl⟩ := hmem v hv
    obtain ⟨e1, e2, e3⟩ := hhl u hu
    obtain ⟨e4, e5⟩ := h.nst.sec u hu
    rw [st.T, e1, e2]
    refine ⟨e4, ?_⟩
    rw [e3]
    split <;> omega
  · obtain ⟨u, hu, e1, e2, e3, _, e4⟩ := jo k v hv
    obtain ⟨k1, k2, k3, k4, k5, k6, k7⟩ := h.tms.job k u hu
    rw [st.T, st.N]
    refine ⟨k1, by omega, by omega, by omega, by omega, ?_⟩
    rcases e4 with e4 | ⟨e4, e8⟩
    · omega
    · subst e8
      rw [hj] at hu
      cases hu
      omega
  · rw [st.lat] at hk
    obtain ⟨u, hu, _, e2, _, e5, _⟩ := jo k2 v hv
    rw [e2]
    exact h.tms.aft k a cc k2 u hk hu (by rw [← e5]; exact hvs)
  · obtain ⟨u, hu, _, e2, _, e5, _⟩ := jo k v hv
    rw [e2]
    exact h.tms.rel k u hu (by rw [← e5]; exact hvs)
  · rw [st.T]
    obtain ⟨u', hu', e1, _, e3, e5, _⟩ := jo k u hu
    obtain ⟨v', hv', g1, _, g3, g5, _⟩ := jo k2 v hv
    refine h.tms.nst k k2 u' v' hu' hv' (by rw [← e5]; exact hus) (by rw [← g5]; exact hvs) ?_
    simp only [Job.lt] at hlt ⊢
    omega
  · rw [est, hlast] at hn2
    cases hn2
    rw [jself] at hj2
    cases hj2
    rw [elv, hP, f4]
    exact htop x (by omega)
  · rw [een] at hen'; cases hen'
  · rw [ha] at ha'; cases ha'
end
end Go.Proofs.YtajilfnceoeaiaaGreat.V
/- The scheduler's invariant: a step of the machine. Plain. -/
namespace Go.Proofs.YtajilfnceoeaiaaGreat.V
open Go Go.RowKit Enc
set_option maxRecDepth 100000
/-- What happened is right: each job that came ended in time, or is there. -/
structure Evs (s : KS) : Prop where
  ok : ∀ v ∈ s.events, v.kind = 2 ∨ v.kind = 3 → v.at_ ≤ v.due
  cnt : s.events.countP (fun v => v.kind == 1) = s.events.countP (fun v => v.kind == 2 || v.kind == 3) + wsum one1 s.jobs
structure Mt (m : Mach) (e : Int) (s : KS) : Prop where
  sch : Sch m e s
  lft : Lft s
  evs : Evs s
section
variable {m : Mach} {A B : Nat} {s s' : KS} {R x y d d' e : Int} {L : List Job}
theorem DZ_le (c : Mc m) (h : Sch m e s) (x : Int) : DZ m s x ≤ (x - s.now) * 4294967296 := by
  obtain ⟨R, Bd⟩ := h.bud
  have hn : ∀ k, k < 6 → 0 ≤ demZ m s x k := fun k hk => by
    unfold demZ
    have h1 : 0 ≤ demJ m x (s.jobs k) := by
      cases hjk : s.jobs (k : Int) with
      | none => exact Int.le_refl _
      | some y =>
        show 0 ≤ if y.deadline ≤ x then QZ m y else 0
        have := (QZ_in c.b (h.tms.job k y hjk).2.2.2.2.2.2).2.2.1
        split
        · exact this
        · exact Int.le_refl _
    have h2 : 0 ≤ UZ m s.T k * pos (x - fZ s k) := Int.mul_nonneg (Bd.u0 k hk).1 (pos_ge _)
    omega
  have h1 := sum6_le (f := fun _ => 0) hn
  have h2 : sum6 (fun _ => (0 : Int)) = 0 := rfl
  unfold DZ
  omega
theorem one1_upd {f : Int → Option Job} {k : Int} (h0 : 0 ≤ k) (h6 : k < 6) {j : Job} (hj : f k = some j) : (∀ j', wsum one1 (upd f k (some j')) = wsum one1 f) ∧ wsum one1 (upd f k none) + 1 = wsum one1 f := by
  have e1 : ow one1 (some j) = 1 := rfl
  have e0 : ow one1 (none : Option Job) = 0 := rfl
  refine ⟨fun j' => ?_, ?_⟩
  · have := wsum_upd one1 f h0 (by omega) (some j')
    have e2 : ow one1 (some j') = 1 := rfl
    rw [hj] at this
    omega
  · have := wsum_upd one1 f h0 (by omega) none
    rw [hj] at this
    omega
theorem Evs.same (h : Evs s) (e1 : s'.events = s.events) (e2 : wsum one1 s'.jobs = wsum one1 s.jobs) : Evs s' :=
  ⟨by rw [e1]; exact h.ok, by rw [e1, e2]; exact h.cnt⟩
theorem Evs.fin (h : Evs s) {v : Event} (e1 : s'.events = s.events ++ [v]) (hk : v.kind = 2 ∨ v.kind = 3) (hd : v.at_ ≤ v.due) (e2 : wsum one1 s'.jobs + 1 = wsum one1 s.jobs) : Evs s' := by
  refine ⟨fun u hu hk => ?_, ?_⟩
  · rw [e1] at hu
    rcases List.mem_append.1 hu with hu | hu
    · exact h.ok u hu hk
    · rw [List.mem_singleton.1 hu]; exact hd
  · have hc := h.cnt
    rw [e1, List.countP_append, List.countP_append]
    rcases hk with hk | hk
    · simp [List.countP_cons, hk]
      omega
    · simp [List.countP_cons, hk]
      omega
/-- A step without jobs. -/
theorem Sch.alone (c : Mc m) (h : Sch m e s) (hst : s.stack = []) (st : Stay s s') (ej : s'.jobs = s.jobs) (est : s'.stack = s.stack) (ehd : s'.held = s.held) (enow : s.now ≤ s'.now) (hD : ∀ x, MomZ s x → (s'.now - s.now) * 4294967296 ≤ DZ m s x)
    (hslp : s'.asleep = true → s'.now + exitZ m s' ≤ s'.wake ∧ ∀ x, MomZ s x → (s'.wake - s.now) * 4294967296 ≤ DZ m s x) : Sch m e s' := by
  obtain ⟨R, Bd⟩ := h.bud
  have hh : s.held = [] := by
    cases hs : s.held with
    | nil => rfl
    | cons u l =>
      have := h.nst.own u (by rw [hs]; exact .head _)
      rw [hst] at this
      cases this
  have hf := fun k => st.f enow k
  have hm : ∀ x k, k < 6 → mayP s' k x → mayP s k x := fun x k hk hk' => by
    unfold mayP at hk' ⊢
    rw [st.T, ej] at hk'
    have := hf k
    exact ⟨hk'.1, hk'.2.imp id fun h2 => by omega⟩
  have hmom : ∀ x, MomZ s' x → MomZ s x := fun x ⟨k, hk, h1⟩ => ⟨k, hk, hm x k hk h1⟩
  have hDD : ∀ x, DZ m s x - (s'.now - s.now) * 4294967296 ≤ DZ m s' x := fun x => by
    have := DZ_adv (m := m) (s := s) (s' := s') (fun k hk => (Bd.u0 k hk).1) st.T (fun k _ => hf k) x (n := 0) (by decide) (c := 0) (fun k _ _ => by rw [ej]) (by rw [ej]; omega)
    omega
  refine ⟨⟨R, by rw [st.T]; exact Bd⟩, ⟨by rw [est]; exact h.nst.nod, by rw [est, ej]; exact h.nst.on, by rw [est, ej]; exact h.nst.of, by rw [est, ej]; exact h.nst.ord, by rw [est, ehd]; exact h.nst.own, by rw [est, ehd, st.T]; exact h.nst.cel, by rw [ehd, st.T]; exact h.nst.sec⟩,
    ⟨fun k v hv => ?_, by rw [st.lat, st.T, st.N]; exact h.tms.lat, by rw [st.lat, ej]; exact h.tms.aft, by rw [ej]; exact h.tms.rel, by rw [ej, st.T]; exact h.tms.nst, by rw [st.N]; exact h.tms.N, by rw [st.devs]; exact h.tms.dev, by rw [st.T]; exact h.tms.sec0⟩,
    fun x hx => .non (by rw [ehd]; exact hh) ?_, fun _ n j hn => ?_, fun _ hne => ?_, fun ha => ?_⟩
  · rw [ej] at hv
    rw [st.T, st.N]
    obtain ⟨k1, k2, k3, k4⟩ := h.tms.job k v hv
    exact ⟨k1, k2, by omega, k4⟩
  · have h1 := hD x (hmom x hx)
    have h2 := hDD x
    omega
  · rw [est, hst] at hn
    cases hn
  · exact absurd (est.trans hst) hne
  · obtain ⟨h1, h2⟩ := hslp ha
    refine ⟨by rw [est]; exact hst, fun x hx => ?_, h1⟩
    have h3 := h2 x (hmom x hx)
    have h4 := hDD x
    omega
theorem stack_none (h : Sch m e s) (hj : ∀ k, s.jobs k = none) : s.stack = [] := by
  cases hs : s.stack with
  | nil => rfl
  | cons a l =>
    obtain ⟨j, hj', _⟩ := h.nst.on a (by rw [hs]; exact .head _)
    rw [hj] at hj'
    cases hj'
/-- Asleep. -/
theorem Sch.sleeping (c : Mc m) (iv : KInv m A B s) (hn : s.now < 16384) (h : Sch m e s) (ha : s.asleep = true) : Sch m e (sleepingZ m s) := by
  obtain ⟨h0, h1⟩ := iv.slp ha
  have hnow := iv.now
  have hwake := iv.wake
  obtain ⟨k, hk⟩ : ∃ k : Nat, s.state = k := ⟨s.state.toNat, by omega⟩
  obtain ⟨v, hv⟩ : ∃ x, m.S[k]? = some x := ⟨m.S[k]'(by omega), List.getElem?_eq_getElem (by omega)⟩
  obtain ⟨g1, g2, g3, g4, g5, g6⟩ := iv.mok.slp k v hv
  have hex : exitZ m s = v.exit := by unfold exitZ; rw [hk, Int.toNat_natCast, hv]; rfl
  have hz : sleepingZ m s = if s.now ≥ wz (s.wake - v.exit) then didZ m { s with asleep := false } 6 v.exit s.state 0 0 else didZ m s 5 1 s.state 0 0 := by
    unfold sleepingZ
    rw [hk, Int.toNat_natCast, hv]
    rfl
  have hw : wz (s.wake - v.exit) = s.wake - v.exit := wze (by omega) (by omega)
  obtain ⟨hst, htime, hwk⟩ := h.slp ha
  rw [hex] at hwk
  rw [hz, hw]
  by_cases hge : s.now ≥ s.wake - v.exit
  · rw [if_pos hge]
    have hw2 : wz (s.now + v.exit) = s.now + v.exit := wze (by omega) (by omega)
    refine h.alone (s' := didZ m { s with asleep := false } 6 v.exit s.state 0 0) c hst ⟨rfl, rfl, rfl, rfl⟩ rfl rfl rfl ?_ (fun x hx => ?_) fun ha' => (by cases ha')
    · show s.now ≤ wz (s.now + v.exit)
      omega
    · show (wz (s.now + v.exit) - s.now) * 4294967296 ≤ _
      rw [hw2]
      have := htime x hx
      omega
  · rw [if_neg hge]
    have hw2 : wz (s.now + 1) = s.now + 1 := wze (by omega) (by omega)
    refine h.alone (s' := didZ m s 5 1 s.state 0 0) c hst ⟨rfl, rfl, rfl, rfl⟩ rfl rfl rfl ?_ (fun x hx => ?_) fun _ => ⟨?_, htime⟩
    · show s.now ≤ wz (s.now + 1)
      omega
    · show (wz (s.now + 1) - s.now) * 4294967296 ≤ _
      rw [hw2]
      have := htime x hx
      omega
    · show wz (s.now + 1) + exitZ m s ≤ s.wake
      omega
/-- Nobody is there. -/
theorem Sch.nobody (c : Mc m) (iv : KInv m A B s) (hn : s.now < 16384) (h : Sch m e s) (hb : Bh s) (ha : s.asleep = false) (hj : ∀ k, s.jobs k = none) (hr : NobodyR m s s') : Sch m e s' := by
  have hst := stack_none h hj
  have hnow := iv.now
  have hmx := mxS_in c
  have hsl := c.slow
  have hh : s.held = [] := by
    cases hs : s.held with
    | nil => rfl
    | cons u l =>
      have := h.nst.own u (by rw [hs]; exact .head _)
      rw [hst] at this
      cases this
  rcases hr with rfl | ⟨_, k, v, t, hv, ht0, ht1, ⟨hev, hnap⟩, rfl⟩
  · have hw2 : wz (s.now + 1) = s.now + 1 := wze (by omega) (by omega)
    refine h.alone (s' := didZ m { s with ended := false } 2 1 0 0 0) c hst ⟨rfl, rfl, rfl, rfl⟩ rfl rfl rfl ?_ (fun x hx => ?_) fun ha' => ?_
    · show s.now ≤ wz (s.now + 1)
      omega
    · obtain ⟨i, hi, hmi⟩ := hx
      have h1 := (h.none_due c hb hi hmi fun k _ j hjk => by rw [hj] at hjk; cases hjk).2.1
      show (wz (s.now + 1) - s.now) * 4294967296 ≤ _
      rw [hw2]
      omega
    · have ha' : s.asleep = true := ha'
      rw [ha] at ha'
      cases ha'
  · obtain ⟨g1, g2, g3, g4, g5, g6⟩ := iv.mok.slp k v hv
    have hw1 : wz (s.now + t) = s.now + t := wze (by omega) (by omega)
    have hw3 : wz (s.now + t - s.now) = t := by rw [show s.now + t - s.now = t by omega]; exact wze (by omega) (by omega)
    have hw2 : wz (s.now + v.enter) = s.now + v.enter := wze (by omega) (by omega)
    rw [hw1, hw3] at hev
    rw [hw1]
    have hL : ListOf s.jobs [] := ⟨fun x => ⟨fun h => (by cases h), fun h => by rw [hj] at h; cases h⟩, fun p q x y _ hx => (by cases hx)⟩
    obtain ⟨R, Bd⟩ := h.bud
    have htime : ∀ x, MomZ s x → t * 4294967296 ≤ DZ m s x := fun x hx => by
      obtain ⟨i, hi, hmi⟩ := hx
      have h1 : fZ s i + perN s.T i ≤ x := by
        rcases hmi.2 with ⟨j, hjj, _⟩ | h2
        · rw [hj] at hjj; cases hjj
        · exact h2
      have h2 := fZ_ge hb h.tms.latN i
      have h3 := least_ok (r := t * 4294967296) (d := fZ s i + perN s.T i) (x := x) c Bd (h.bnd iv) hb h.tms.latN hL (Nat.zero_le _) ⟨i, hi, .inr ⟨hmi.1, rfl⟩⟩ (fun y hy hyd => by
        have h5 := hmi.1
        have := hnap (by omega) y hy (by omega)
        rw [hh]
        exact this) h1
      have := h3.1
      omega
    refine h.alone (s' := didZ m { s with ended := false, asleep := true, state := (k : Int), wake := s.now + t } 4 v.enter k 0 0) c hst ⟨rfl, rfl, rfl, rfl⟩ rfl rfl rfl ?_ (fun x hx => ?_) fun _ => ⟨?_, fun x hx => ?_⟩
    · show s.now ≤ wz (s.now + v.enter)
      omega
    · have := htime x hx
      show (wz (s.now + v.enter) - s.now) * 4294967296 ≤ _
      rw [hw2]
      omega
    · show wz (s.now + v.enter) + ((m.S[((k : Int)).toNat]?).getD ⟨0, 0, 0, 0, 0, 0⟩).exit ≤ s.now + t
      rw [Int.toNat_natCast, hv, hw2]
      show s.now + v.enter + v.exit ≤ s.now + t
      omega
    · show (s.now + t - s.now) * 4294967296 ≤ _
      have := htime x hx
      omega
end
end Go.Proofs.YtajilfnceoeaiaaGreat.V
/- The scheduler's invariant: a step of the machine, whatever it is. Plain. -/
namespace Go.Proofs.YtajilfnceoeaiaaGreat.V
open Go Go.RowKit Enc
set_option maxRecDepth 100000
section
variable {m : Mach} {A B : Nat} {s s' : KS} {R x y d d' e : Int} {L : List Job}
/-- A job ends, with all that is told. -/
theorem Mt.ended (c : Mc m) (h : Sch m e s) {n : Int} (hl : ∀ k v, s.jobs k = some v → k ≠ n → 1 ≤ v.left) (hv : Evs s) (ha : s.asleep = false) {j j0 : Job} (hn06 : 0 ≤ n ∧ n < 6) (hlast : s.stack.getLast? = some n) (hj : s.jobs n = some j) (ht : j0.task = n) (hd : s.now ≤ j0.deadline) {kind : Int} (hk : kind = 2 ∨ kind = 3) : Mt m e (endZ s kind j0) := by
  subst ht
  refine ⟨h.endJ (s' := endZ s kind j0) c ha hn06 hlast hj ⟨rfl, rfl, rfl, rfl⟩ rfl rfl rfl rfl rfl, fun k v hkv => ?_, hv.fin (s' := endZ s kind j0) (v := ⟨kind, j0.task, s.now, j0.deadline⟩) rfl hk hd (one1_upd hn06.1 hn06.2 hj).2⟩
  have hkv : upd s.jobs j0.task none k = some v := hkv
  by_cases e : k = j0.task
  · rw [e, upd_self] at hkv; cases hkv
  · rw [upd_other _ _ e] at hkv
    exact hl k v hkv e
theorem jobStep_is (b : Bnd m s) {n : Int} {j : Job} (hj : s.jobs n = some j) : (jobStep j).task = j.task ∧ (jobStep j).release = j.release ∧ (jobStep j).deadline = j.deadline ∧ (jobStep j).left = j.left - 1 ∧ (jobStep j).started = j.started := by
  have := b.job n j hj
  exact ⟨rfl, rfl, rfl, wze (by omega) (by omega), rfl⟩
/-- A cycle, and what comes of it. -/
theorem Mt.tail (c : Mc m) (iv : KInv m A B s) (hn : s.now < 16384) (h : Mt m e s) (hb : Bh s) (ha : s.asleep = false) {n : Int} {j : Job} (hlast : s.stack.getLast? = some n) (hj : s.jobs n = some j) (hen : s.ended = false) (hblk : ∀ x, x < j.deadline → NoneDue s x ∨ Blocked s n x)
    (hover : ∀ u ∈ s.held, u.task = n → 1 ≤ u.left) : Mt m e (runsTailZ m s n j) := by
  have b := h.sch.bnd iv
  obtain ⟨hjt, n0, n6⟩ := iv.jobs n j hj
  have hleft := h.lft n j hj
  obtain ⟨f1, f2, f3, f4, f5⟩ := jobStep_is b hj
  have hlev := iv.lev
  obtain ⟨lv1, lv2⟩ := c.lev s.level hlev.1 hlev.2
  have hp0 := c.b.p0
  have hsl := c.slow
  have hnow := iv.now
  have hw : wz (s.now + lvlP m s.level) = s.now + lvlP m s.level := wze (by omega) (by omega)
  -- behind the cycle, the job still there
  generalize hs2 : ({ didZ m s 1 (lvlP m s.level) s.level n 1 with held := (didZ m s 1 (lvlP m s.level) s.level n 1).held.map (spendZ n) } : KS) = s2
  have hS : Sch m e { s2 with jobs := upd s2.jobs n (some (jobStep j)) } := by
    subst hs2
    exact h.sch.cycle (s' := { ({ didZ m s 1 (lvlP m s.level) s.level n 1 with held := (didZ m s 1 (lvlP m s.level) s.level n 1).held.map (spendZ n) } : KS) with jobs := upd s.jobs n (some (jobStep j)) }) c iv hb ha hlast hj hen hblk hleft hover ⟨rfl, rfl, rfl, rfl⟩ rfl rfl rfl hen rfl hw f1 f2 f3 f4 f5
  have ej : s2.jobs = s.jobs := by subst hs2; rfl
  have eev : s2.events = s.events := by subst hs2; rfl
  have ea : s2.asleep = false := by subst hs2; exact ha
  have est : s2.stack = s.stack := by subst hs2; rfl
  have hw1 := one1_upd n0 n6 hj
  have hE : Evs { s2 with jobs := upd s2.jobs n (some (jobStep j)) } := h.evs.same eev (by show wsum one1 (upd s2.jobs n _) = _; rw [ej]; exact hw1.1 _)
  have hself : upd s2.jobs n (some (jobStep j)) n = some (jobStep j) := upd_self _ _ _
  have hdl : s2.now ≤ (jobStep j).deadline := by
    have h1 := DZ_le c hS (jobStep j).deadline
    have hper := (hS.tms.job n _ hself).1
    have h2 := (hS.D (jobStep j).deadline ⟨n.toNat, by omega, hper, .inl ⟨jobStep j, by rw [Int.toNat_of_nonneg n0]; exact hself, Int.le_refl _⟩⟩).1
    have h1 : DZ m { s2 with jobs := upd s2.jobs n (some (jobStep j)) } (jobStep j).deadline ≤ ((jobStep j).deadline - s2.now) * 4294967296 := h1
    omega
  have hrt : runsTailZ m s n j = if jobHow j ≠ 0 then endZ s2 (jobHow j) (jobStep j) else { s2 with jobs := upd s2.jobs j.task (some (jobStep j)) } := by
    subst hs2
    rfl
  rw [hrt, hjt]
  by_cases hh : jobHow j ≠ 0
  · rw [if_pos hh]
    have hk : jobHow j = 2 ∨ jobHow j = 3 := by
      unfold jobHow at hh ⊢
      by_cases g1 : wz (j.real - 1) ≤ 0
      · rw [if_pos g1]; exact .inl rfl
      · rw [if_neg g1] at hh ⊢
        by_cases g2 : wz (j.left - 1) ≤ 0
        · rw [if_pos g2]; exact .inr rfl
        · rw [if_neg g2] at hh; exact absurd rfl hh
    have e : endZ s2 (jobHow j) (jobStep j) = endZ { s2 with jobs := upd s2.jobs n (some (jobStep j)) } (jobHow j) (jobStep j) := by
      have : upd s2.jobs (jobStep j).task none = upd (upd s2.jobs n (some (jobStep j))) (jobStep j).task none := by
        funext q
        unfold upd
        by_cases g : q = (jobStep j).task
        · rw [if_pos g, if_pos g]
        · rw [if_neg g, if_neg g, if_neg (by rw [f1, hjt] at g; exact g)]
      unfold endZ tellZ
      dsimp only
      rw [this]
    rw [e]
    exact Mt.ended c hS (fun k v hkv hkn => by
      have hkv : upd s2.jobs n (some (jobStep j)) k = some v := hkv
      rw [upd_other _ _ hkn, ej] at hkv
      exact h.lft k v hkv) hE ea ⟨n0, n6⟩ (by rw [← est] at hlast; exact hlast) hself (by rw [f1, hjt]) hdl hk
  · rw [if_neg hh]
    refine ⟨hS, fun k v hkv => ?_, hE⟩
    have hkv : upd s2.jobs n (some (jobStep j)) k = some v := hkv
    by_cases g : k = n
    · rw [g, upd_self] at hkv
      cases hkv
      unfold jobHow at hh
      by_cases g1 : wz (j.real - 1) ≤ 0
      · rw [if_pos g1] at hh; exact absurd (by decide) hh
      · rw [if_neg g1] at hh
        by_cases g2 : wz (j.left - 1) ≤ 0
        · rw [if_pos g2] at hh; exact absurd (by decide) hh
        · show 1 ≤ wz (j.left - 1)
          omega
    · rw [upd_other _ _ g, ej] at hkv
      exact h.lft k v hkv
/-- A kernel whose job is started, ahead of its choice. -/
theorem KInv.begun (iv : KInv m A B s) {j : Job} (hj : s.jobs j.task = some j) (ha : s.asleep = false) (hst : j.started = false) : KInv m A B { startZ s j with ended := true } := by
  obtain ⟨i1, p1, pn, hsz, _, htr, _⟩ := startZ_inv iv hj ha (.inl hst)
  have e1 := psi_awake (m := m) ha
  have e2 : psi m { startZ s j with ended := true } = (17000 - (startZ s j).now).toNat * 1000 + (baseW { startZ s j with ended := true } + 1) := psi_awake (m := m) (s := { startZ s j with ended := true }) hsz
  have e3 : baseW { startZ s j with ended := true } ≤ baseW (startZ s j) + 1 := by
    rw [baseW_eq, baseW_eq]
    show wsum jobW (startZ s j).jobs + 5 * wsum one1 (startZ s j).lat + 1 ≤ _
    omega
  have hbt := iv.bt
  rw [pn] at e2
  refine ⟨⟨⟨i1.crit, i1.T, i1.N, i1.U, i1.D, i1.X, i1.per, i1.held, i1.heldl, i1.lev, i1.trace, i1.events⟩, i1.stack⟩, i1.mok, i1.jobs, i1.stk, i1.slp, i1.lat, i1.tim, i1.now, i1.wake, i1.places, i1.sec, i1.sems, i1.bs, ?_, i1.be, i1.hA, i1.hB⟩
  have hlen : (startZ s j).trace.length = s.trace.length := by rw [htr]
  show (startZ s j).trace.length + psi m { startZ s j with ended := true } ≤ B
  omega
theorem listOf_len (iv : KInv m A B s) (hL : ListOf s.jobs L) : L.length ≤ 8 := by
  have h1 : (L.map fun j => j.task.toNat).Nodup := by
    rw [List.Nodup, List.pairwise_map, List.pairwise_iff_getElem]
    intro p q hp hq hpq he
    have hlt := hL.sorted p q L[p] L[q] hpq (List.getElem?_eq_getElem hp) (List.getElem?_eq_getElem hq)
    have g1 := (hL.iff L[p]).1 (List.getElem_mem hp)
    have g2 := (hL.iff L[q]).1 (List.getElem_mem hq)
    obtain ⟨_, k1, k2⟩ := iv.jobs _ _ g1
    obtain ⟨_, k3, k4⟩ := iv.jobs _ _ g2
    have ht : L[p].task = L[q].task := by omega
    rw [ht, g2] at g1
    have := Option.some.inj g1
    rw [this] at hlt
    exact lt_asymm hlt hlt
  have h2 := nodup_le 6 _ h1 fun x hx => by
    obtain ⟨j, hj, rfl⟩ := List.mem_map.1 hx
    have := (iv.jobs _ _ ((hL.iff j).1 hj)).2
    omega
  rw [List.length_map] at h2
  omega
/-- A level is chosen, and what comes of it. -/
theorem Mt.choose (c : Mc m) (iv : KInv m A B s) (hn : s.now < 16384) (h : Mt m e s) (hb : Bh s) (ha : s.asleep = false) {n : Int} {j : Job} (hlast : s.stack.getLast? = some n) (hj : s.jobs n = some j) (hen : s.ended = true) (hblk : ∀ x, x < j.deadline → NoneDue s x ∨ Blocked s n x)
    (hover : ∀ u ∈ s.held, u.task = n → 1 ≤ u.left) {lv : Int} (h0 : 0 ≤ lv) (h1 : lv ≤ m.p.crit) (hT : TimeOk m s j lv) {s1 : KS} (hs1 : (lv = s.level ∧ s1 = { s with ended := false }) ∨ (lv ≠ s.level ∧ s1 = didZ m { s with ended := false, level := lv } 3 m.p.switch lv 0 0)) :
    Mt m e s1 ∧ (lv = s.level → KInv m A B s1 → Mt m e (runsTailZ m s1 n j)) := by
  have hnow := iv.now
  have hsw := c.b.sw
  have hw : wz (s.now + m.p.switch) = s.now + m.p.switch := wze (by omega) (by omega)
  have hLl : ∀ L, ListOf s.jobs L → L.length ≤ 8 := fun L hL => listOf_len iv hL
  rcases hs1 with ⟨hlv, rfl⟩ | ⟨hlv, rfl⟩
  · have hS : Mt m e { s with ended := false } := ⟨h.sch.chosen (s' := { s with ended := false }) c iv h.lft hb ha hlast hj hen hblk h0 h1 hT hLl ⟨rfl, rfl, rfl, rfl⟩ rfl rfl rfl rfl hlv.symm (by rw [if_neg (fun g => g hlv)]; show s.now = s.now + 0; omega), h.lft, h.evs.same rfl rfl⟩
    exact ⟨hS, fun _ iv1 => hS.tail c iv1 hn hb ha hlast hj rfl hblk hover⟩
  · exact ⟨⟨h.sch.chosen (s' := didZ m { s with ended := false, level := lv } 3 m.p.switch lv 0 0) c iv h.lft hb ha hlast hj hen hblk h0 h1 hT hLl ⟨rfl, rfl, rfl, rfl⟩ rfl rfl rfl rfl rfl (by rw [if_pos hlv]; exact hw), h.lft, h.evs.same rfl rfl⟩, fun g => absurd g hlv⟩
/-- A step of the machine. -/
theorem Mt.step (c : Mc m) (iv : KInv m A B s) (hn : s.now < 16384) (hne : s.now < e) (h : Mt m e s) (hb : Bh s) (hr : StepR m s s') : Mt m e s' := by
  have hnow := iv.now
  unfold StepR at hr
  by_cases ha : s.asleep = true
  · rw [if_pos ha] at hr
    rw [hr]
    refine ⟨h.sch.sleeping c iv hn ha, ?_, h.evs.same ?_ ?_⟩
    · unfold sleepingZ
      dsimp only
      split <;> exact h.lft
    · unfold sleepingZ
      dsimp only
      split <;> rfl
    · unfold sleepingZ
      dsimp only
      split <;> rfl
  · have ha : s.asleep = false := by simpa using ha
    rw [if_neg (by rw [ha]; decide)] at hr
    obtain ⟨n, ok, L, hL, hl8, hw, hr⟩ := hr
    cases ok with
    | false =>
      have hj := whoOf_none iv hw hL
      have hr : NobodyR m s s' := hr
      refine ⟨h.sch.nobody c iv hn hb ha hj hr, ?_, ?_⟩
      · rcases hr with rfl | ⟨_, k, v, t, _, _, _, _, rfl⟩
        · exact h.lft
        · exact h.lft
      · rcases hr with rfl | ⟨_, k, v, t, _, _, _, _, rfl⟩
        · exact h.evs.same rfl rfl
        · exact h.evs.same rfl rfl
    | true =>
      have hr : RunsR m s n s' := hr
      obtain ⟨⟨n0, n6⟩, j, hj⟩ := whoOf_job iv hL hw
      obtain ⟨hjt, _⟩ := iv.jobs n j hj
      have hjg : (s.jobs n).getD noJob = j := by rw [hj]; rfl
      unfold RunsR at hr
      rw [hjg] at hr
      dsimp only at hr
      have hdue := (h.sch.due c iv h.lft hj).1
      by_cases hov : s.held.any (fun x => x.task == n && decide (x.left ≤ 0)) = true
      · rw [if_pos hov] at hr
        rw [hr]
        obtain ⟨u, hu, hu2⟩ := List.any_eq_true.1 hov
        have hun : u.task = n := by
          simp only [Bool.and_eq_true, beq_iff_eq] at hu2
          exact hu2.1
        obtain ⟨j', hj', hst⟩ := h.sch.nst.on n (by rw [← hun]; exact h.sch.nst.own u hu)
        rw [hj] at hj'
        cases hj'
        exact Mt.ended c h.sch (fun k v hk _ => h.lft k v hk) h.evs ha ⟨n0, n6⟩ (h.sch.who iv hL hw hj hst).1 hj hjt (by omega) (.inr rfl)
      · rw [if_neg hov] at hr
        have hover : ∀ u ∈ s.held, u.task = n → 1 ≤ u.left := fun u hu hun => by
          refine Int.not_lt.1 fun hlt => hov (List.any_eq_true.2 ⟨u, hu, ?_⟩)
          simp only [Bool.and_eq_true, beq_iff_eq, decide_eq_true_eq]
          exact ⟨hun, by omega⟩
        by_cases hc : j.started = false ∨ s.ended = true
        · rw [if_pos hc] at hr
          obtain ⟨b, s1, ⟨lv, h0, h1, ⟨_, hT⟩, hs1⟩, hb2⟩ := hr
          cases hst : j.started with
          | true =>
            have hen : s.ended = true := by
              rcases hc with hc | hc
              · rw [hst] at hc; cases hc
              · exact hc
            obtain ⟨hlast, hblk⟩ := h.sch.who iv hL hw hj hst
            have e0 : startS s j = s := by unfold startS; rw [if_pos hst]
            rw [e0] at hT
            have hT : TimeOk m s j lv := hT
            dsimp only at hs1
            rw [if_pos hst] at hs1
            have iv1 : lv = s.level → KInv m A B { s with ended := false } := fun _ => by
              have := (startZ_inv iv (by rw [hjt]; exact hj) ha hc).1
              unfold startZ at this
              rw [if_pos hst] at this
              exact this
            rcases hs1 with ⟨hlv, rfl, rfl⟩ | ⟨hlv, rfl, rfl⟩
            · obtain ⟨_, g2⟩ := h.choose c iv hn hb ha hlast hj hen hblk hover h0 h1 hT (.inl ⟨hlv, rfl⟩)
              rw [if_neg (by decide)] at hb2
              have hb2 : s' = runsTailZ m { s with ended := false } n ((s.jobs n).getD noJob) := hb2
              rw [hjg] at hb2
              rw [hb2]
              exact g2 hlv (iv1 hlv)
            · obtain ⟨g1, _⟩ := h.choose c iv hn hb ha hlast hj hen hblk hover h0 h1 hT (.inr ⟨hlv, rfl⟩)
              rw [if_pos rfl] at hb2
              rw [hb2]
              exact g1
          | false =>
            obtain ⟨hfirst, hceil⟩ := h.sch.whoNew iv hL hw hj hst
            have hns : ¬ j.started = true := by rw [hst]; decide
            have hself : upd s.jobs n (some { j with started := true }) n = some { j with started := true } := upd_self _ _ _
            subst hjt
            have iv0 : KInv m A B { s with jobs := upd s.jobs j.task (some { j with started := true }), stack := s.stack ++ [j.task], ended := true } := by
              have := iv.begun hj ha hst
              unfold startZ at this
              rw [if_neg hns] at this
              exact this
            have e0 : startS s j = { s with jobs := upd s.jobs j.task (some { j with started := true }), stack := s.stack ++ [j.task] } := by unfold startS; rw [if_neg hns]
            rw [e0] at hT
            dsimp only at hs1
            rw [if_neg hns] at hs1
            have hS0 := h.sch.startJ (s' := { s with jobs := upd s.jobs j.task (some { j with started := true }), stack := s.stack ++ [j.task], ended := true }) c iv hb hne ha hj hst hfirst hceil ⟨rfl, rfl, rfl, rfl⟩ rfl rfl rfl rfl rfl
            have hw1 := one1_upd n0 n6 hj
            have hM0 : Mt m e { s with jobs := upd s.jobs j.task (some { j with started := true }), stack := s.stack ++ [j.task], ended := true } := by
              refine ⟨hS0, fun k v hk => ?_, h.evs.same rfl (hw1.1 _)⟩
              have hk : upd s.jobs j.task (some { j with started := true }) k = some v := hk
              by_cases g : k = j.task
              · rw [g, upd_self] at hk
                cases hk
                exact h.lft _ j hj
              · rw [upd_other _ _ g] at hk
                exact h.lft k v hk
            have hblk : ∀ x, x < ({ j with started := true } : Job).deadline → NoneDue { s with jobs := upd s.jobs j.task (some { j with started := true }), stack := s.stack ++ [j.task], ended := true } x ∨ Blocked { s with jobs := upd s.jobs j.task (some { j with started := true }), stack := s.stack ++ [j.task], ended := true } j.task x := fun x hx => by
              refine .inl fun k hk v hv => ?_
              have hv : upd s.jobs j.task (some { j with started := true }) k = some v := hv
              by_cases g : (k : Int) = j.task
              · rw [g, upd_self] at hv
                cases hv
                exact hx
              · rw [upd_other _ _ g] at hv
                have := hfirst k v hv g
                simp only [Job.lt] at this
                have hx : x < j.deadline := hx
                omega
            have hT0 : TimeOk m { s with jobs := upd s.jobs j.task (some { j with started := true }), stack := s.stack ++ [j.task], ended := true } { j with started := true } lv := hT
            have iv1 : KInv m A B { s with jobs := upd s.jobs j.task (some { j with started := true }), stack := s.stack ++ [j.task], ended := false } := by
              have := (startZ_inv iv hj ha hc).1
              unfold startZ at this
              rw [if_neg hns] at this
              exact this
            rcases hs1 with ⟨hlv, rfl, rfl⟩ | ⟨hlv, rfl, rfl⟩
            · obtain ⟨_, g2⟩ := hM0.choose (j := { j with started := true }) c iv0 hn hb ha List.getLast?_concat hself rfl hblk hover h0 h1 hT0 (.inl ⟨hlv, rfl⟩)
              rw [if_neg (by decide)] at hb2
              have hb2 : s' = runsTailZ m { s with jobs := upd s.jobs j.task (some { j with started := true }), stack := s.stack ++ [j.task], ended := false } j.task ((upd s.jobs j.task (some { j with started := true }) j.task).getD noJob) := hb2
              rw [hself] at hb2
              rw [hb2]
              exact g2 hlv iv1
            · obtain ⟨g1, _⟩ := hM0.choose (j := { j with started := true }) c iv0 hn hb ha List.getLast?_concat hself rfl hblk hover h0 h1 hT0 (.inr ⟨hlv, rfl⟩)
              rw [if_pos rfl] at hb2
              rw [hb2]
              exact g1
        · rw [if_neg hc] at hr
          rw [hr]
          have hst : j.started = true := by
            cases hs : j.started with
            | true => rfl
            | false => exact absurd (.inl hs) hc
          have hen : s.ended = false := by
            cases hs : s.ended with
            | false => rfl
            | true => exact absurd (.inr hs) hc
          obtain ⟨hlast, hblk⟩ := h.sch.who iv hL hw hj hst
          exact h.tail c iv hn hb ha hlast hj hen hblk hover
end
end Go.Proofs.YtajilfnceoeaiaaGreat.V
