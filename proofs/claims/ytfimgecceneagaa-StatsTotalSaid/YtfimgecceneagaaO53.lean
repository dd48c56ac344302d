/- How the cells of type 53 read. -/
import Derived.Test.YtfimgecceneagaaOpens
import Derived.Test.YtfimgecceneagaaS53
namespace Go.Proofs.Ytfimgecceneagaa.Opens
open Go.RowKit Go.ChangeShapes Go.WideShapes Go.Proofs.YtfimgecceneagaaW.PrintWords Go.Proofs.Ytfimgecceneagaa.PAll
def G53 (x : S53) : Prop := ((Lit.int .i64 x.f0).wf = true) ∧ ((Lit.int .i64 x.f1).wf = true) ∧ ((Lit.int .i64 x.f2).wf = true) ∧ ((Lit.int .i64 x.f3).wf = true) ∧ ((Lit.int .i64 x.f4).wf = true) ∧ ((Lit.int .i64 x.f5).wf = true)
theorem opens53 : Opens Try.prog 53 k53 G53 :=
  opens_imp (opens_iso (fun x : S53 => (x.f0, x.f1, x.f2, x.f3, x.f4, x.f5)) (fun a => ⟨a.1, a.2.1, a.2.2.1, a.2.2.2.1, a.2.2.2.2.1, a.2.2.2.2.2⟩) (fun _ => rfl) (opens_struct Try.underlying53 (by kernel_rfl) (opensF_cons rfl (by kernel_rfl) (opens_int Try.underlying3) (opensF_cons rfl (by kernel_rfl) (opens_int Try.underlying3) (opensF_cons rfl (by kernel_rfl) (opens_int Try.underlying3) (opensF_cons rfl (by kernel_rfl) (opens_int Try.underlying3) (opensF_cons rfl (by kernel_rfl) (opens_int Try.underlying3) (opensF_one rfl (by kernel_rfl) (opens_int Try.underlying3))))))))) (fun _ h => h)
end Go.Proofs.Ytfimgecceneagaa.Opens
