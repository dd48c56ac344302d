/- Plain laws of answers that come after some number of rounds ('Wp g Q': from some number of rounds on, g answers, with an answer of which Q holds), and of the numbers of 64 bits. -/
import Derived.Test.YtfimgecceneagaaWWords
namespace Go.Proofs.Ytfimgecceneagaa.Wp
open Go.RowKit Go.Proofs.YtfimgecceneagaaW.PrintWords

def Wp {α : Type} (g : Nat → Option α) (Q : α → Prop) : Prop := ∃ r, Q r ∧ ∃ K, ∀ k, K ≤ k → g k = some r

theorem Wp.now {α : Type} {r : α} {Q : α → Prop} (h : Q r) : Wp (fun _ => some r) Q := ⟨r, h, 0, fun _ _ => rfl⟩
theorem Wp.imp {α : Type} {g : Nat → Option α} {P Q : α → Prop} (h : Wp g P) (k : ∀ r, P r → Q r) : Wp g Q := by
  obtain ⟨r, hp, hK⟩ := h
  exact ⟨r, k r hp, hK⟩
theorem Wp.bind {α β : Type} {g : Nat → Option α} {f : Nat → α → Option β} {P : α → Prop} {Q : β → Prop} (h : Wp g P) (k : ∀ a, P a → Wp (fun n => f n a) Q) : Wp (fun n => (g n).bind (f n)) Q := by
  obtain ⟨a, hp, K, hK⟩ := h
  obtain ⟨r, hq, K', hK'⟩ := k a hp
  refine ⟨r, hq, max K K', fun n hn => ?_⟩
  have h1 := hK n (by omega)
  have h2 := hK' n (by omega)
  simp only [h1, Option.bind_some]
  exact h2
theorem Wp.succ {α : Type} {g : Nat → Option α} {Q : α → Prop} (h : Wp (fun k => g (k + 1)) Q) : Wp g Q := by
  obtain ⟨r, hq, K, hK⟩ := h
  refine ⟨r, hq, K + 1, fun n hn => ?_⟩
  obtain ⟨m, rfl⟩ : ∃ m, n = m + 1 := ⟨n - 1, by omega⟩
  exact hK m (by omega)
theorem Wp.ite {α : Type} {c : Prop} [Decidable c] {a b : Nat → Option α} {Q : α → Prop} (h : c → Wp a Q) (k : ¬ c → Wp b Q) : Wp (fun n => if c then a n else b n) Q := by
  by_cases hc : c
  · simp only [if_pos hc]; exact h hc
  · simp only [if_neg hc]; exact k hc
theorem Wp.yes {α : Type} {c : Prop} [Decidable c] {a b : Nat → Option α} {Q : α → Prop} (hc : c) (h : Wp a Q) : Wp (fun n => if c then a n else b n) Q := by simp only [if_pos hc]; exact h
theorem Wp.no {α : Type} {c : Prop} [Decidable c] {a b : Nat → Option α} {Q : α → Prop} (hc : ¬ c) (h : Wp b Q) : Wp (fun n => if c then a n else b n) Q := by simp only [if_neg hc]; exact h
/-- A bounded test, whose failing would be a panic. -/
theorem Wp.inside {α : Type} {c d : Prop} [Decidable c] [Decidable d] {a : Nat → Option α} {Q : α → Prop} (hc : c) (hd : d) (h : Wp a Q) : Wp (fun n => if c then (if d then a n else none) else none) Q := by simp only [if_pos hc, if_pos hd]; exact h
theorem Wp.of {α : Type} {g : Nat → Option α} (hg : ∀ k, LeO (g k) (g (k + 1))) {k : Nat} {r : α} {Q : α → Prop} (h : g k = some r) (hq : Q r) : Wp g Q := ⟨r, hq, k, fun _ hk => at_rounds hg hk h⟩
theorem Wp.rounds {α : Type} {g : Nat → Option α} {r : α} (h : Wp g (fun x => x = r)) : ∃ k, g k = some r := by
  obtain ⟨_, rfl, K, h⟩ := h
  exact ⟨K, h K (Nat.le_refl _)⟩
theorem Wp.congr {α : Type} {g f : Nat → Option α} {Q : α → Prop} (h : ∀ k, g k = f k) (k : Wp f Q) : Wp g Q := by
  have : g = f := funext h
  rw [this]; exact k
/-- What answers without rounds. -/
theorem Wp.is {α : Type} {o : Option α} {r : α} {Q : α → Prop} (h : o = some r) (hq : Q r) : Wp (fun _ => o) Q := ⟨r, hq, 0, fun _ _ => h⟩
theorem Wp.bindIs {α β : Type} {o : Option α} {a : α} {f : Nat → α → Option β} {Q : β → Prop} (h : o = some a) (k : Wp (fun n => f n a) Q) : Wp (fun n => o.bind (f n)) Q := by
  subst h; exact k
/-- A loop: an invariant, a measure. -/
theorem Wp.loop {σ ρ : Type} (l : Nat → σ → Option ρ) (Inv : σ → Prop) (m : σ → Nat) (Q : ρ → Prop)
    (step : ∀ s, Inv s → (∀ s', Inv s' → m s' < m s → Wp (fun k => l k s') Q) → Wp (fun k => l (k + 1) s) Q) : ∀ s, Inv s → Wp (fun k => l k s) Q := by
  have key : ∀ (n : Nat) (s : σ), m s < n → Inv s → Wp (fun k => l k s) Q := by
    intro n
    induction n with
    | zero => intro s hs; omega
    | succ n ih => intro s hs hi; exact Wp.succ (step s hi (fun s' hi' hm => ih s' (by omega) hi'))
  intro s hi
  exact key (m s + 1) s (by omega) hi

theorem wrap_id {x : Int} (h0 : -9223372036854775808 ≤ x) (h1 : x ≤ 9223372036854775807) : wrap64 x = x := by unfold wrap64; omega
theorem wrap_lo (x : Int) : -9223372036854775808 ≤ wrap64 x := by unfold wrap64; omega
theorem wrap_hi (x : Int) : wrap64 x ≤ 9223372036854775807 := by unfold wrap64; omega
theorem wf_i64 {x : Int} (h : (Lit.int .i64 x).wf = true) : -9223372036854775808 ≤ x ∧ x ≤ 9223372036854775807 := by
  simp only [Lit.wf, Bool.and_eq_true, decide_eq_true_eq] at h
  have h1 : IntKind.min .i64 = -9223372036854775808 := by decide
  have h2 : IntKind.max .i64 = 9223372036854775807 := by decide
  rw [h1, h2] at h; exact h
theorem mul_bounds {a b A B : Int} (ha0 : 0 ≤ a) (ha : a ≤ A) (hb0 : 0 ≤ b) (hb : b ≤ B) : 0 ≤ a * b ∧ a * b ≤ A * B := ⟨Int.mul_nonneg ha0 hb0, Int.mul_le_mul ha hb hb0 (by omega)⟩
end Go.Proofs.Ytfimgecceneagaa.Wp
