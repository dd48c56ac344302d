/- DevOrder, over the printed functions: at every device and moments the law answers true. No condition. -/
import Derived.Test.YtmalhnmiaccgpaaQDevOrder
import Derived.Test.YtmalhnmiaccgpaaDev
namespace Go.Proofs.Ytmalhnmiaccgpaa.Pure
open Go.RowKit Go.Proofs.YtmalhnmiaccgpaaW.PrintWords Go.Proofs.YtmalhnmiaccgpaaW.PrintMore Go.Proofs.Ytmalhnmiaccgpaa.PAll Go.Proofs.Ytmalhnmiaccgpaa.Opens Go.Proofs.Ytmalhnmiaccgpaa.Wp

theorem wf_u16 {x : Int} (h : (Lit.int .u16 x).wf = true) : 0 ≤ x ∧ x ≤ 65535 := by
  simp only [Lit.wf, Bool.and_eq_true, decide_eq_true_eq] at h
  have h1 : IntKind.min .u16 = 0 := by decide
  have h2 : IntKind.max .u16 = 65535 := by decide
  omega

/-- Between the beginning and the end: how far each count is. -/
structure Inv (down up m fr : Int) (s : Int × Int × Int × Int × Int × Int × Int) : Prop where
  lo : fr ≤ s.2.1
  hi : s.2.1 ≤ fr + down + m + up
  z0 : s.2.2.1 = 0
  z4 : s.2.2.2.2.2.2 = 0
  one : s.2.1 ≤ fr + down → s.2.2.2.1 = s.2.1 - fr ∧ s.2.2.2.2.1 = 0 ∧ s.2.2.2.2.2.1 = 0 ∧ s.1 ≤ 1
  two : fr + down ≤ s.2.1 → s.2.1 ≤ fr + down + m → s.2.2.2.1 = down ∧ s.2.2.2.2.1 = s.2.1 - fr - down ∧ s.2.2.2.2.2.1 = 0 ∧ s.1 ≤ 2
  three : fr + down + m ≤ s.2.1 → s.2.2.2.1 = down ∧ s.2.2.2.2.1 = m ∧ s.2.2.2.2.2.1 = s.2.1 - fr - down - m ∧ s.1 ≤ 3

theorem order_loop (on off down up downE upE even more fr un m : Int) (d0 : 0 ≤ down) (d1 : down ≤ 256) (u0 : 0 ≤ up) (u1 : up ≤ 256) (f0 : 1 ≤ fr) (f1 : fr ≤ 65536) (m0 : 0 ≤ m) (m1 : m ≤ 299) (hu : un = fr + down + up + m) (hm : wrap64 (Int.tmod more 300) = m) :
    ∀ s : Int × Int × Int × Int × Int × Int × Int, Inv down up m fr s → Wp (fun k => dormouselaw07_DevOrder.l0 k more s.1 s.2.1 on off down up downE upE even fr un s.2.2.1 s.2.2.2.1 s.2.2.2.2.1 s.2.2.2.2.2.1 s.2.2.2.2.2.2) (fun x => x = true) := by
  refine Wp.loop (fun k (s : Int × Int × Int × Int × Int × Int × Int) => dormouselaw07_DevOrder.l0 k more s.1 s.2.1 on off down up downE upE even fr un s.2.2.1 s.2.2.2.1 s.2.2.2.2.1 s.2.2.2.2.2.1 s.2.2.2.2.2.2) _ (fun s => (un - s.2.1).toNat) _ ?_
  rintro ⟨last, at_, n0, n1, n2, n3, n4⟩ hI ih
  dsimp only at ih ⊢
  have lo : fr ≤ at_ := hI.lo
  have hi : at_ ≤ fr + down + m + up := hI.hi
  have z0 : n0 = 0 := hI.z0
  have z4 : n4 = 0 := hI.z4
  have one : at_ ≤ fr + down → n1 = at_ - fr ∧ n2 = 0 ∧ n3 = 0 ∧ last ≤ 1 := hI.one
  have two : fr + down ≤ at_ → at_ ≤ fr + down + m → n1 = down ∧ n2 = at_ - fr - down ∧ n3 = 0 ∧ last ≤ 2 := hI.two
  have three : fr + down + m ≤ at_ → n1 = down ∧ n2 = m ∧ n3 = at_ - fr - down - m ∧ last ≤ 3 := hI.three
  clear hI
  simp only [dormouselaw07_DevOrder.l0]
  refine Wp.ite (fun hlt => ?_) (fun hge => ?_)
  · refine Wp.bind (state_is (now := at_) d0 d1 u0 u1 (by omega) (by omega) (by omega) (by omega)) (fun p hp => ?_)
    have next : wrap64 (at_ + 1) = at_ + 1 := wrap_id (by omega) (by omega)
    rw [next]
    have nv : ¬ ((fr = 0 ∧ un = 0) ∨ at_ < fr ∨ un ≤ at_) := by omega
    unfold stt at hp
    rw [if_neg nv] at hp
    by_cases a : at_ < fr + down
    · rw [if_pos a] at hp
      refine Wp.yes hp (Wp.no (by omega) (Wp.no (by omega) ?_))
      rw [wrap_id (x := n1 + 1) (by omega) (by omega)]
      exact ih (1, at_ + 1, n0, n1 + 1, n2, n3, n4) ⟨by dsimp only; omega, by dsimp only; omega, z0, z4, by dsimp only; omega, by dsimp only; omega, by dsimp only; omega⟩ (by dsimp only; omega)
    · rw [if_neg a] at hp
      by_cases b : at_ < un - up
      · rw [if_pos b] at hp
        refine Wp.no (by omega) (Wp.yes hp (Wp.no (by omega) (Wp.no (by omega) ?_)))
        rw [wrap_id (x := n2 + 1) (by omega) (by omega)]
        exact ih (2, at_ + 1, n0, n1, n2 + 1, n3, n4) ⟨by dsimp only; omega, by dsimp only; omega, z0, z4, by dsimp only; omega, by dsimp only; omega, by dsimp only; omega⟩ (by dsimp only; omega)
      · rw [if_neg b] at hp
        refine Wp.no (by omega) (Wp.no (by omega) (Wp.yes hp (Wp.no (by omega) (Wp.no (by omega) ?_))))
        rw [wrap_id (x := n3 + 1) (by omega) (by omega)]
        exact ih (3, at_ + 1, n0, n1, n2, n3 + 1, n4) ⟨by dsimp only; omega, by dsimp only; omega, z0, z4, by dsimp only; omega, by dsimp only; omega, by dsimp only; omega⟩ (by dsimp only; omega)
  · refine Wp.bind (ans07 (Q := fun b => b = true) rfl) (fun t ht => Wp.yes ht (Wp.yes (by omega) (Wp.yes (by rw [hm]; omega) (Wp.yes (by omega) ?_))))
    rw [wrap_id (x := fr - 1) (by omega) (by omega)]
    refine Wp.bind (state_is (now := fr - 1) d0 d1 u0 u1 (by omega) (by omega) (by omega) (by omega)) (fun p hp => ?_)
    have p1 : p = 1 := by rw [hp]; unfold stt; rw [if_pos (by omega)]
    refine Wp.yes p1 (Wp.bind (state_is (now := un) d0 d1 u0 u1 (by omega) (by omega) (by omega) (by omega)) (fun q hq => Wp.now ?_))
    have q1 : q = 1 := by rw [hq]; unfold stt; rw [if_pos (by omega)]
    rw [q1]; rfl

theorem DevOrder : QDevOrder.Pure := by
  intro on off down up downE upE even start more _ gs gm
  have ws := wf_u16 gs
  have wm := wf_u16 gm
  refine Wp.rounds ?_
  simp only [dormouselaw07_DevOrder.f]
  obtain ⟨b, hb, hd⟩ := device_tells on off down up downE upE even
  refine Wp.bindIs hb (Wp.ite (fun g => ?_) (fun _ => ans07b))
  have hk := hd g
  have d0 := hk.down0
  have d1 := hk.down1
  have u0 := hk.up0
  have u1 := hk.up1
  have hm : Int.tmod more 300 = more % 300 := Int.tmod_eq_emod_of_nonneg wm.1
  have m0 : 0 ≤ more % 300 := by omega
  have m1 : more % 300 ≤ 299 := by omega
  have hw : wrap64 (Int.tmod more 300) = more % 300 := by rw [hm]; exact wrap_id (by omega) (by omega)
  rw [hw, wrap_id (x := start) (by omega) (by omega), wrap_id (x := start + 1) (by omega) (by omega), wrap_id (x := start + 1 + down) (by omega) (by omega), wrap_id (x := start + 1 + down + up) (by omega) (by omega), wrap_id (x := start + 1 + down + up + more % 300) (by omega) (by omega)]
  exact order_loop on off down up downE upE even more (start + 1) (start + 1 + down + up + more % 300) (more % 300) d0 d1 u0 u1 (by omega) (by omega) m0 m1 rfl hw (0, start + 1, 0, 0, 0, 0, 0)
    ⟨by dsimp only; omega, by dsimp only; omega, rfl, rfl, by dsimp only; omega, by dsimp only; omega, by dsimp only; omega⟩

end Go.Proofs.Ytmalhnmiaccgpaa.Pure
