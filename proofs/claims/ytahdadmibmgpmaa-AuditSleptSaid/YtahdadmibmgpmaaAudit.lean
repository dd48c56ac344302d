/- What answers() and near() of chapter 22's statements answer. -/
import Derived.Test.YtahdadmibmgpmaaTab
import Derived.Test.YtahdadmibmgpmaaPAllf10
import Derived.Test.YtahdadmibmgpmaaPAllf11
namespace Go.Proofs.Ytahdadmibmgpmaa.Wp
open Go.RowKit Go.Proofs.YtahdadmibmgpmaaW.PrintWords Go.Proofs.Ytahdadmibmgpmaa.PAll

theorem ans22 : Wp (fun k => dormouselaw22_answers.f k) (fun b => b = true) := Wp.of dormouselaw22_answers.mono (k := 12) (r := true) (by decide +kernel) rfl
theorem ans22b : Wp (fun k => (dormouselaw22_answers.f k).bind fun t => some t) (fun b => b = true) := Wp.bind ans22 (fun _ h => Wp.now h)
theorem near22 (l : List S33) (m : Int) (hl : l.length ≤ 9223372036854775000) : Wp (fun k => dormouselaw22_near.f k l m) (fun _ => True) := by
  simp only [dormouselaw22_near.f]
  have key : ∀ i : Int, (0 ≤ i ∧ i ≤ l.length) → Wp (fun k => dormouselaw22_near.l0 k l m i) (fun _ => True) := by
    refine Wp.loop (fun k i => dormouselaw22_near.l0 k l m i) _ (fun i => (l.length - i).toNat) _ ?_
    rintro i ⟨i0, i1⟩ ih
    simp only [dormouselaw22_near.l0]
    refine Wp.ite (fun hi => Wp.yes i0 ?_) (fun hi => Wp.now trivial)
    rw [wrap_id (x := i + 1) (by omega) (by omega)]
    exact Wp.ite (fun _ => Wp.now trivial) (fun _ => Wp.ite (fun _ => Wp.now trivial) (fun _ => Wp.ite (fun _ => Wp.now trivial) (fun _ => Wp.ite (fun _ => Wp.now trivial) (fun _ => Wp.ite (fun _ => Wp.now trivial) (fun _ => Wp.ite (fun _ => Wp.now trivial) (fun _ => ih (i + 1) ⟨by omega, by omega⟩ (by omega)))))))
  exact key 0 ⟨by simp, by simp⟩
end Go.Proofs.Ytahdadmibmgpmaa.Wp
