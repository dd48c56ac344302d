/- What near of chapter 26's statements answers. -/
import Derived.Test.YtfimgecceneagaaWp
import Derived.Test.YtfimgecceneagaaPAllf20
namespace Go.Proofs.Ytfimgecceneagaa.Wp
open Go.RowKit Go.Proofs.YtfimgecceneagaaW.PrintWords Go.Proofs.Ytfimgecceneagaa.PAll
theorem near26_l1 (l : List S28) (es : List S63) (hes : es.length ≤ 9223372036854775000) : ∀ i : Int, (0 ≤ i ∧ i ≤ es.length) → Wp (fun k => dormouselaw26_near.l1 k l es i) (fun b => b = true → l.length ≤ 4096 ∧ es.length ≤ 4096) := by
  refine Wp.loop (fun k (i : Int) => dormouselaw26_near.l1 k l es i) _ (fun i => ((es.length : Int) - i).toNat) _ ?_
  rintro i ⟨h0, h1⟩ ih
  simp only [dormouselaw26_near.l1]
  refine Wp.ite (fun hi => Wp.yes h0 (Wp.ite (fun _ => Wp.now (fun h => by cases h)) (fun _ => Wp.ite (fun _ => Wp.now (fun h => by cases h)) (fun _ => Wp.ite (fun _ => Wp.now (fun h => by cases h)) (fun _ => Wp.ite (fun _ => Wp.now (fun h => by cases h)) (fun _ => ?_)))))) (fun _ => ?_)
  · rw [wrap_id (x := i + 1) (by omega) (by omega)]
    exact ih (i + 1) ⟨by omega, by omega⟩ (by omega)
  · exact Wp.ite (fun h => Wp.now (fun g => ⟨by omega, by have := of_decide_eq_true g; omega⟩)) (fun _ => Wp.now (fun h => by cases h))
theorem near26_l0 (l : List S28) (es : List S63) (hl : l.length ≤ 9223372036854775000) (hes : es.length ≤ 9223372036854775000) : ∀ i : Int, (0 ≤ i ∧ i ≤ l.length) → Wp (fun k => dormouselaw26_near.l0 k l es i) (fun b => b = true → l.length ≤ 4096 ∧ es.length ≤ 4096) := by
  refine Wp.loop (fun k (i : Int) => dormouselaw26_near.l0 k l es i) _ (fun i => ((l.length : Int) - i).toNat) _ ?_
  rintro i ⟨h0, h1⟩ ih
  simp only [dormouselaw26_near.l0]
  refine Wp.ite (fun hi => Wp.yes h0 (Wp.ite (fun _ => Wp.now (fun h => by cases h)) (fun _ => Wp.ite (fun _ => Wp.now (fun h => by cases h)) (fun _ => Wp.ite (fun _ => Wp.now (fun h => by cases h)) (fun _ => Wp.ite (fun _ => Wp.now (fun h => by cases h)) (fun _ => ?_)))))) (fun _ => near26_l1 l es hes 0 ⟨by omega, by omega⟩)
  rw [wrap_id (x := i + 1) (by omega) (by omega)]
  exact ih (i + 1) ⟨by omega, by omega⟩ (by omega)
theorem near26 (l : List S28) (es : List S63) (hl : l.length ≤ 9223372036854775000) (hes : es.length ≤ 9223372036854775000) : Wp (fun k => dormouselaw26_near.f k l es) (fun b => b = true → l.length ≤ 4096 ∧ es.length ≤ 4096) := by
  simp only [dormouselaw26_near.f]
  exact near26_l0 l es hl hes 0 ⟨by omega, by omega⟩
end Go.Proofs.Ytfimgecceneagaa.Wp
