/- Parts of the proof: What the quiet functions answer: admit, govern, nap, rest, pick, plan, The kernel in memory, The kernel's functions: tell, did, who, end, The kernel's functions: sleeping, nobody, there, static, choose, The kernel's functions: there, static, choose. -/
import Derived.Test.YtajilfnceoeaiaaGreatZa7
set_option linter.unusedVariables false
set_option linter.unusedSimpArgs false
/- What the quiet functions answer: admit, govern, nap, rest, pick, plan. -/
namespace Go.Proofs.YtajilfnceoeaiaaGreat.V
open Go Go.RowKit Enc
set_option maxRecDepth 100000
section
variable {o : Own} {w : World} {m : Mach} {c d : Nat}
theorem slowest_spec {ts : Sl} {T : List ATask} (hm : MachR o w m) (hc : CritOk m) (h : TasksR o w c ts T) : Call P 207 [m.p.v, .slice ts.a ts.n ts.c] [sI] (fun r w' => Below w.heap.size w w' ∧ 0 ≤ r ∧ r ≤ m.p.crit) w := by
  have hL := hm.L.max
  have hn := hm.L.n
  unfold maxLen at hL
  have h1 := hc.lo
  have h2 := hc.hi
  refine f207_of _ _ (New_of fun b1 w1 c1 u1 => ?_)
  refine ⟨fun a i w' => Below w1.heap.size w1 w' ∧ 0 ≤ a ∧ a ≤ m.p.crit ∧ 1 ≤ i ∧ i ≤ m.p.crit + 1, fun _ i _ => (m.p.crit + 1 - i).toNat, ⟨Below.refl _ _, by omega, by omega, by omega, by omega⟩, ?_⟩
  rintro a i v ⟨u, ha0, ha1, hi0, hi1⟩ _
  have c1 := c1.below u
  refine c1.ld (x := m.p.crit) rfl (If_d (fun h3 => ?_) fun h3 => ⟨u1.on u, ha0, ha1⟩)
  refine c1.ldPlat (x := m.p) ?_
  have h3 : i ≤ m.p.crit := h3
  have hl := load_spec m ts T i ((hm.below u1).below u) hc ((h.below u1).below u)
  refine hl.imp1 ?_
  rintro r w2 ⟨u2, _⟩
  rw [wz_id (by omega) (by omega)]
  have hme : (m.p.crit + 1 - (i + 1)).toNat < (m.p.crit + 1 - i).toNat := by omega
  exact If_d (fun _ => ⟨⟨u.on u2, by omega, by omega, by omega, by omega⟩, hme⟩) fun _ => ⟨⟨u.on u2, ha0, ha1, by omega, by omega⟩, hme⟩
theorem spare_spec {ts us : Sl} {T : List ATask} {U : List Int} (hm : MachR o w m) (hc : CritOk m) (h : TasksR o w c ts T) (hu : RL o w d us U) (hlen : U.length = T.length) : Call P 208 [m.p.v, .slice ts.a ts.n ts.c, .slice us.a us.n us.c] [sI] (fun r w' => Below w.heap.size w w' ∧ 0 ≤ r ∧ r ≤ m.p.crit) w := by
  have hL := hm.L.max
  have hn := hm.L.n
  have hTm := h.rl.max
  have hTn := h.rl.n
  rw [List.length_map] at hTn
  unfold maxLen at hL hTm
  have h1 := hc.lo
  have h2 := hc.hi
  refine f208_of _ _ _ (New_of fun b1 w1 c1 u1 => ?_)
  refine ⟨fun a i w' => Below w1.heap.size w1 w' ∧ 0 ≤ a ∧ a ≤ m.p.crit ∧ 1 ≤ i ∧ i ≤ m.p.crit + 1, fun _ i _ => (m.p.crit + 1 - i).toNat, ⟨Below.refl _ _, by omega, by omega, by omega, by omega⟩, ?_⟩
  rintro a i v ⟨u, ha0, ha1, hi0, hi1⟩ _
  have c1 := c1.below u
  refine c1.ld (x := m.p.crit) rfl (If_d (fun h3 => ?_) fun h3 => ⟨u1.on u, ha0, ha1⟩)
  refine c1.ldPlat (x := m.p) ?_
  have h3 : i ≤ m.p.crit := h3
  have hl := reserve_spec m ts T ((hm.below u1).below u) hc ((h.below u1).below u)
  refine hl.imp1 ?_
  rintro r w2 ⟨u2, _⟩
  have c1 := c1.below u2
  have u := u.on u2
  have hme : (m.p.crit + 1 - (i + 1)).toNat < (m.p.crit + 1 - i).toNat := by omega
  refine ⟨fun _ k w' => ∃ q : Nat, k = q ∧ q ≤ T.length ∧ Below w1.heap.size w1 w' ∧ Below w2.heap.size w2 w', fun _ k _ => T.length - k.toNat, ⟨0, rfl, Nat.zero_le _, u, Below.refl _ _⟩, ?_⟩
  rintro s k v2 ⟨q, rfl, hq, u3, u4⟩ _
  have c1 := c1.below u4
  refine If_d (fun hlt => ?_) fun hlt => ?_
  · have hlt : q < ts.n := Int.ofNat_lt.1 hlt
    have hqT : q < T.length := by omega
    have hx : (T.map ATask.t)[q]? = some T[q].t := by simp [hqT]
    have hu3 := u1.on u3
    refine (h.rl.below hu3).task rfl hx (NewSt_of (by rfl) fun b3 w3 c3 u5 => ?_)
    have u6 := (hu3.on u5).drew
    have c3 := c3.drew
    have c1 := (c1.below u5).drew
    have hUq : U[q]? = some (U[q]'(by omega)) := List.getElem?_eq_getElem (by omega)
    refine (hu.below u6).at rfl hUq fun bu fu hbu => ?_
    have ha : (⟨bu, fu, none⟩ : Addr).add (Int.toNat (q : Int) * 1) = ⟨bu, fu + q * 1, none⟩ := by rw [Addr.add_mk, Int.toNat_natCast]
    have hbu : Bx w3.drew bu (fu + q * 1) [.int .i64 (U[q]'(by omega))] := hbu
    rw [ha]
    refine Ld_of (x := (U[q]'(by omega))) (hbu.cell 0 _ rfl) ?_
    refine c1.ld (x := m.p.levels) rfl ?_
    obtain ⟨j, rfl⟩ : ∃ j : Nat, i = j := ⟨i.toNat, by omega⟩
    have hLj : m.L[j]? = some (m.L[j]'(by omega)) := List.getElem?_eq_getElem (by omega)
    refine (hm.below u6).L.at rfl hLj fun bl fl hbl => ?_
    have hb2 : (⟨bl, fl, none⟩ : Addr).add (Int.toNat (j : Int) * 2) = ⟨bl, fl + j * 2, none⟩ := by rw [Addr.add_mk, Int.toNat_natCast]
    have hbl : Bx w3.drew bl (fl + j * 2) (m.L[j]'(by omega)).l := hbl
    rw [hb2]
    refine Ld_of (x := (m.L[j]'(by omega)).p) (hbl.getAt rfl) ?_
    refine c1.ld (x := m.p.switch) rfl (c3.ld (x := T[q].t.period) rfl ?_)
    have hut := util_spec (wz (wz (U[q]'(by omega) * (m.L[j]'(by omega)).p) + wz (2 * m.p.switch))) T[q].t.period w3.drew
    refine hut.imp1 ?_
    rintro r w4 ⟨u7, _⟩
    have c1 := c1.below u7
    have c3 := c3.below u7
    have hbu := hbu.below u7
    have hbl := hbl.below u7
    have hfin : Below w1.heap.size w1 w4 ∧ Below w2.heap.size w2 w4 := ⟨((u3.on u5).drew).on u7, ((u4.on u5).drew).on u7⟩
    refine ⟨by (first | (apply Bx.getAt; assumption; rfl) | (apply Bx.get0; assumption; rfl) | (apply Bx.get; assumption; rfl) | (apply Bx.get0; apply Blk.bx; assumption; rfl) | (apply Bx.get; apply Blk.bx; assumption; rfl)), ?_, by (first | (apply Bx.getAt; assumption; rfl) | (apply Bx.get0; assumption; rfl) | (apply Bx.get; assumption; rfl) | (apply Bx.get0; apply Blk.bx; assumption; rfl) | (apply Bx.get; apply Blk.bx; assumption; rfl)), hbu.getAt rfl, ?_⟩
    · rw [Addr.add_mk, Addr.add_mk]; exact hbl.cell 0 _ rfl
    rw [wz_id (x := (q : Int) + 1) (by omega) (by omega)]
    exact ⟨⟨q + 1, by omega, by omega, hfin⟩, by show T.length - Int.toNat ((q : Int) + 1) < T.length - Int.toNat (q : Int); omega⟩
  · rw [wz_id (by omega) (by omega)]
    exact If_d (fun _ => ⟨⟨u3, by omega, by omega, by omega, by omega⟩, hme⟩) fun _ => ⟨⟨u3, ha0, ha1, by omega, by omega⟩, hme⟩
def limitZ (m : Mach) (policy static : Int) : Int :=
  if policy = 1 ∨ policy = 3 then (if m.p.crit < (if 0 > static then 0 else static) then m.p.crit else (if 0 > static then 0 else static)) else if policy = 2 then m.p.crit else 0
theorem limit_spec (m : Mach) (policy static : Int) (w : World) : Call P 205 [m.p.v, .int .i64 policy, .int .i64 static] [sI] (fun r w' => Below w.heap.size w w' ∧ r = limitZ m policy static) w := by
  refine f205_of _ _ _ (New_of fun b1 w1 c1 u1 => If_eq (fun e => If_eq (fun _ => c1.ld (x := m.p.crit) rfl ⟨u1, (if_pos (.inl e)).symm⟩) fun h => absurd e h) fun e => If_eq (fun e2 => c1.ld (x := m.p.crit) rfl ⟨u1, (if_pos (.inr e2)).symm⟩) fun e2 => If_eq (fun e3 => c1.ld (x := m.p.crit) rfl ⟨u1, ?_⟩) fun e3 => ⟨u1, ?_⟩)
  · rw [limitZ, if_neg (fun h => h.elim e e2), if_pos e3]
  · rw [limitZ, if_neg (fun h => h.elim e e2), if_neg e3]
/-- What a level would take beyond the first one. -/
def needZ (m : Mach) (left level r : Int) : Int := if r ≠ level then wz (wz (left * wz ((m.L.getD r.toNat ⟨0, 0⟩).p - lev0 m)) + m.p.switch) else wz (left * wz ((m.L.getD r.toNat ⟨0, 0⟩).p - lev0 m))
theorem gchoose_spec (hm : MachR o w m) (hc : CritOk m) (policy static left slack level : Int) : Call P 192 [m.p.v, .int .i64 policy, .int .i64 static, .int .i64 left, .int .i64 slack, .int .i64 level] [sI] (fun r w' => Below w.heap.size w w' ∧ 0 ≤ r ∧ r ≤ m.p.crit ∧ (policy = 0 → r = 0) ∧ (0 < r → wholeZ (needZ m left level r) ≤ slack)) w := by
  have hL := hm.L.max
  have hn := hm.L.n
  unfold maxLen at hL
  have h1 := hc.lo
  have h2 := hc.hi
  refine f192_of _ _ _ _ _ _ (New_of fun b1 w1 c1 u1 => c1.ldPlat (x := m.p) ?_)
  have hl := limit_spec m policy static w1
  refine hl.imp1 ?_
  rintro r w2 ⟨u2, rfl⟩
  have hlim : 0 ≤ limitZ m policy static ∧ limitZ m policy static ≤ m.p.crit ∧ (policy = 0 → limitZ m policy static = 0) := by
    unfold limitZ
    refine ⟨?_, ?_, fun h => ?_⟩
    · repeat' split
      all_goals omega
    · repeat' split
      all_goals omega
    · subst h; rfl
  have c1 := c1.below u2
  refine ⟨fun i w' => Below w2.heap.size w2 w' ∧ 0 ≤ i ∧ i ≤ m.p.crit ∧ (policy = 0 → i = 0), fun i _ => i.toNat, ⟨Below.refl _ _, hlim⟩, ?_⟩
  rintro i v ⟨u3, hi0, hi1, hi2⟩ _
  have u := (u1.on u2).on u3
  refine If_d (fun h0 => ?_) fun h0 => ⟨u, Int.le_refl 0, hc.lo, fun _ => rfl, fun h => absurd h (by decide)⟩
  have h0 : i > 0 := h0
  obtain ⟨j, rfl⟩ : ∃ j : Nat, i = j := ⟨i.toNat, by omega⟩
  have c1 := (c1.below u3).drew
  have hLj : m.L[j]? = some (m.L[j]'(by omega)) := List.getElem?_eq_getElem (by omega)
  have hL0 : m.L[0]? = some (m.L[0]'(by omega)) := List.getElem?_eq_getElem (by omega)
  have hmL := (hm.below u.drew).L
  have hme : (IntKind.wrap .i64 ((j : Int) - 1)).toNat < Int.toNat (j : Int) := by rw [wz_id (by omega) (by omega)]; omega
  refine c1.ld (x := m.p.levels) rfl (hmL.fld (f := 0) (e := .ki .i64) (y := (m.L[j]'(by omega)).p) rfl hLj rfl rfl (c1.ld (x := m.p.levels) rfl (hmL.fld (f := 0) (k := 0) (e := .ki .i64) (y := (m.L[0]'(by omega)).p) rfl hL0 rfl rfl ?_)))
  have hLd : (m.L.getD (j : Int).toNat ⟨0, 0⟩).p = (m.L[j]'(by omega)).p := by rw [Int.toNat_natCast, List.getD_eq_getElem?_getD, hLj]; rfl
  have hL0d : lev0 m = (m.L[0]'(by omega)).p := by rw [lev0, List.getD_eq_getElem?_getD, hL0]; rfl
  have stop : ∀ w4, Below v.drew.heap.size v.drew w4 → wholeZ (needZ m left level j) ≤ slack → Below w.heap.size w w4 ∧ 0 ≤ (j : Int) ∧ (j : Int) ≤ m.p.crit ∧ (policy = 0 → (j : Int) = 0) ∧ (0 < (j : Int) → wholeZ (needZ m left level j) ≤ slack) := fun w4 u4 hs => ⟨u.drew.on u4, hi0, hi1, hi2, fun _ => hs⟩
  have go : ∀ w4, Below v.drew.heap.size v.drew w4 → Below w2.heap.size w2 w4 ∧ 0 ≤ IntKind.wrap .i64 ((j : Int) - 1) ∧ IntKind.wrap .i64 ((j : Int) - 1) ≤ m.p.crit ∧ (policy = 0 → IntKind.wrap .i64 ((j : Int) - 1) = 0) := fun w4 u4 => by
    rw [wz_id (by omega) (by omega)]
    exact ⟨u3.drew.on u4, by omega, by omega, fun h => by have := hi2 h; omega⟩
  refine If_ne (fun hne => c1.ld (x := m.p.switch) rfl ?_) fun hne => ?_
  · have hw := whole_spec (wz (wz (left * wz ((m.L[j]'(by omega)).p - (m.L[0]'(by omega)).p)) + m.p.switch)) v.drew
    refine hw.imp1 ?_
    rintro n w4 ⟨u4, rfl⟩
    refine If_d (fun hs => stop w4 u4 ?_) fun _ => ⟨go w4 u4, hme⟩
    rw [needZ, if_pos hne, hLd, hL0d]
    exact hs
  · have hw := whole_spec (wz (left * wz ((m.L[j]'(by omega)).p - (m.L[0]'(by omega)).p))) v.drew
    refine hw.imp1 ?_
    rintro n w4 ⟨u4, rfl⟩
    refine If_d (fun hs => stop w4 u4 ?_) fun _ => ⟨go w4 u4, hme⟩
    have hne : (j : Int) = level := hne
    rw [needZ, if_neg (fun h => h hne), hLd, hL0d]
    exact hs
theorem cost_spec (s : Sleep) (stay : Int) (w : World) : Call P 195 [s.v, .int .i64 stay] [sI] (fun _ w' => Below w.heap.size w w') w :=
  f195_of _ _ (New_of fun b1 w1 c1 u1 => c1.ld (x := s.enterE) rfl (c1.ld (x := s.exitE) rfl (c1.ld (x := s.power) rfl (c1.ld (x := s.enter) rfl (c1.ld (x := s.exit) rfl u1)))))
theorem best_spec (hm : MachR o w m) (stay : Int) : Call P 169 [m.p.v, .int .i64 stay] [sI, sB] (fun r ok w' => Below w.heap.size w w' ∧ (ok = true → ∃ k x, r = (k : Nat) ∧ m.S[k]? = some x ∧ x.even ≤ stay)) w := by
  have hS := hm.S.max
  have hn := hm.S.n
  unfold maxLen at hS
  refine f169_of _ _ (New_of fun b1 w1 c1 u1 => c1.ld (x := m.p.sleeps) rfl ?_)
  refine ⟨fun a ok i w' => ∃ q : Nat, i = q ∧ q ≤ m.S.length ∧ Below w1.heap.size w1 w' ∧ (ok = true → ∃ k x, a = (k : Nat) ∧ m.S[k]? = some x ∧ x.even ≤ stay), fun _ _ i _ => m.S.length - i.toNat, ⟨0, rfl, Nat.zero_le _, Below.refl _ _, fun h => by cases h⟩, ?_⟩
  rintro a ok i v ⟨q, rfl, hq, u, hok⟩ _
  have hm' := (hm.below u1).below u
  refine If_d (fun hlt => ?_) fun hlt => ⟨u1.on u, hok⟩
  have hlt : q < m.p.sleeps.n := Int.ofNat_lt.1 hlt
  have hx : m.S[q]? = some (m.S[q]'(by omega)) := List.getElem?_eq_getElem (by omega)
  have hme : m.S.length - Int.toNat ((q : Int) + 1) < m.S.length - Int.toNat (q : Int) := by omega
  refine hm'.S.sleep rfl hx (NewSt_of (by rfl) fun b3 w3 c3 u3 => ?_)
  have u4 := (u.on u3).drew
  have c1 := ((c1.below u).below u3).drew
  have c3 := c3.drew
  have hm' := (hm'.below u3).below bdrew
  refine c3.ld (x := (m.S[q]'(by omega)).even) rfl ?_
  rw [wz_id (x := (q : Int) + 1) (by omega) (by omega)]
  refine If_d (fun he => ?_) fun he => ⟨⟨q + 1, by omega, by omega, u4, hok⟩, hme⟩
  have hq' : ∃ k x, (q : Int) = (k : Nat) ∧ m.S[k]? = some x ∧ x.even ≤ stay := ⟨q, _, rfl, hx, he⟩
  refine If_not (If_b (fun hok1 => ?_) fun hok1 => ⟨⟨q + 1, by omega, by omega, u4, fun _ => hq'⟩, hme⟩)
  obtain ⟨k, x, rfl, hk, _⟩ := hok hok1
  refine c3.ldSleep (x := (m.S[q]'(by omega))) (c1.ld (x := m.p.sleeps) rfl (hm'.S.at rfl hk fun bk fk hbk => ?_))
  have hak : (⟨bk, fk, none⟩ : Addr).add (Int.toNat (k : Int) * 6) = ⟨bk, fk + k * 6, none⟩ := by rw [Addr.add_mk, Int.toNat_natCast]
  have hbk : Bx w3.drew bk (fk + k * 6) x.l := hbk
  rw [hak]
  refine hbk.ldSleep (x := x) ?_
  have h1 := cost_spec (m.S[q]'(by omega)) stay w3.drew
  refine h1.imp1 ?_
  rintro r1 w5 u5
  have c1 := c1.below u5
  have c3 := c3.below u5
  have hbk := hbk.below u5
  refine ⟨by (repeat' (first | (apply Bx.getAt; assumption; rfl) | (apply Bx.get0; assumption; rfl) | (apply Bx.get; assumption; rfl) | (apply Bx.get0; apply Blk.bx; assumption; rfl) | (apply Bx.get; apply Blk.bx; assumption; rfl) | apply And.intro)), by (repeat' (first | (apply Bx.getAt; assumption; rfl) | (apply Bx.get0; assumption; rfl) | (apply Bx.get; assumption; rfl) | (apply Bx.get0; apply Blk.bx; assumption; rfl) | (apply Bx.get; apply Blk.bx; assumption; rfl) | apply And.intro)), by (repeat' (first | (apply Bx.getAt; assumption; rfl) | (apply Bx.get0; assumption; rfl) | (apply Bx.get; assumption; rfl) | (apply Bx.get0; apply Blk.bx; assumption; rfl) | (apply Bx.get; apply Blk.bx; assumption; rfl) | apply And.intro)), ?_⟩
  have h2 := cost_spec x stay w5
  refine h2.imp1 ?_
  rintro r2 w6 u6
  have c1 := c1.below u6
  have c3 := c3.below u6
  have hbk := hbk.below u6
  refine ⟨by (repeat' (first | (apply Bx.getAt; assumption; rfl) | (apply Bx.get0; assumption; rfl) | (apply Bx.get; assumption; rfl) | (apply Bx.get0; apply Blk.bx; assumption; rfl) | (apply Bx.get; apply Blk.bx; assumption; rfl) | apply And.intro)), by (repeat' (first | (apply Bx.getAt; assumption; rfl) | (apply Bx.get0; assumption; rfl) | (apply Bx.get; assumption; rfl) | (apply Bx.get0; apply Blk.bx; assumption; rfl) | (apply Bx.get; apply Blk.bx; assumption; rfl) | apply And.intro)), by (repeat' (first | (apply Bx.getAt; assumption; rfl) | (apply Bx.get0; assumption; rfl) | (apply Bx.get; assumption; rfl) | (apply Bx.get0; apply Blk.bx; assumption; rfl) | (apply Bx.get; apply Blk.bx; assumption; rfl) | apply And.intro)), ?_⟩
  have u7 := (u4.on u5).on u6
  exact If_d (fun _ => ⟨⟨q + 1, by omega, by omega, u7, fun _ => hq'⟩, hme⟩) fun _ => ⟨⟨q + 1, by omega, by omega, u7, hok⟩, hme⟩
theorem nap_le (y : Int) (h : 0 < (if 1024 < (if 0 > y then 0 else y) then 1024 else (if 0 > y then 0 else y))) : (if 1024 < (if 0 > y then 0 else y) then 1024 else (if 0 > y then 0 else y)) ≤ y := by
  by_cases g1 : 0 > y
  · rw [if_pos g1] at h
    exact absurd h (by decide)
  · rw [if_neg g1]
    by_cases g2 : 1024 < y
    · rw [if_pos g2]; omega
    · rw [if_neg g2]; omega
theorem nap_mul {z x a : Int} (h : z ≤ x / 4294967296) (h1 : x ≤ a) : z * 4294967296 ≤ a := by omega
theorem ready_spec {ts ns : Sl} {T : List ATask} {N : List Int} (hm : MachR o w m) (hc : CritOk m) (TR : TasksR o w c ts T) (NR : RL o w d ns N) (hlen : N.length = T.length) (hT : T.length ≤ 1000) (now : Int) :
    Call P 168 [m.p.v, .slice ts.a ts.n ts.c, .slice ns.a ns.n ns.c, .int .i64 now] [sI] (fun r w' => Below w.heap.size w w' ∧ ∃ x, 0 ≤ x ∧ x ≤ 1024 ∧ r = wz (now + x) ∧ (0 < x → ∀ t, InMom T N [] now t → t ≥ now → x * 4294967296 ≤ atZ m T N [] [] now t)) w := by
  refine f168_of _ _ _ _ (New_of fun b1 w1 c1 u1 => c1.ldPlat (x := m.p) ?_)
  have hl := sleast_spec (js := ⟨none, 0, 0⟩) (hs := ⟨none, 0, 0⟩) (J := []) (H := []) (now := now) now (hm.below u1) hc (TR.below u1) (NR.below u1) (RL.nil rfl) (RL.nil rfl) hlen (fun h hh => by cases hh) (by simp; omega)
  refine hl.imp1 ?_
  rintro x w2 ⟨u2, hx⟩
  refine (floor_spec x w2).imp1 ?_
  rintro y w3 ⟨u3, rfl⟩
  have hz : ∀ z : Int, 0 ≤ (if 1024 < (if 0 > z then 0 else z) then 1024 else (if 0 > z then 0 else z)) ∧ (if 1024 < (if 0 > z then 0 else z) then 1024 else (if 0 > z then 0 else z)) ≤ 1024 := by
    intro z
    constructor
    · repeat' split
      all_goals omega
    · repeat' split
      all_goals omega
  refine ⟨(u1.on u2).on u3, _, (hz _).1, (hz _).2, rfl, fun hpos t ht hge => ?_⟩
  have h1 := hx t ht hge
  have hp : (2 : Int) ^ 32 = 4294967296 := by decide
  rw [hp] at hpos ⊢
  have hd : Int.fdiv x 4294967296 = x / 4294967296 := Int.fdiv_eq_ediv_of_nonneg _ (by decide)
  rw [hd] at hpos ⊢
  exact nap_mul (nap_le _ hpos) h1
def perT (T : List Task) (n : Int) : Int := ((T[n.toNat]?).map fun t => t.period).getD 0
theorem period_spec {ts : Sl} {T : List Task} (h : RL o w c ts T) (n : Int) : Call P 170 [.slice ts.a ts.n ts.c, .int .i64 n] [sI] (fun r w' => w' = w ∧ (0 ≤ n → r = perT T n)) w := by
  have hn := h.n
  refine f170_of _ _ (If_d (fun h => ⟨rfl, fun h0 => absurd h (Int.not_lt.2 h0)⟩) fun h0 => If_d (fun h1 => ⟨rfl, fun _ => ?_⟩) fun h1 => ?_)
  · have h1 : n ≥ ((ts.n : Nat) : Int) := h1
    rw [perT, List.getElem?_eq_none (by omega)]
    rfl
  obtain ⟨k, rfl⟩ : ∃ k : Nat, n = k := ⟨n.toNat, by omega⟩
  have h1 : k < T.length := by rw [← hn]; exact Nat.lt_of_not_le fun h => h1 (Int.ofNat_le.2 h)
  refine h.fld (f := 0) (e := .ki .i64) (y := (T[k]'h1).period) rfl (List.getElem?_eq_getElem h1) rfl rfl ⟨rfl, fun _ => ?_⟩
  rw [perT, Int.toNat_natCast, List.getElem?_eq_getElem h1]
  rfl
/-- Whose job runs. -/
def WhoOf (L : List Job) (S : List Int) (n : Int) (ok : Bool) : Prop :=
  match L with
  | [] => n = 0 ∧ ok = false
  | x :: _ => ok = true ∧ (n = x.task ∨ (x.started = false ∧ S.getLast? = some n))
/-- Why he runs. -/
def PickOf (T : List Task) (ceiling : Int) (L : List Job) (S : List Int) (n : Int) : Prop :=
  ∀ x r, L = x :: r → 0 ≤ x.task → (n = x.task ∧ (x.started = true ∨ perT T x.task < ceiling ∨ S = [])) ∨ (x.started = false ∧ ceiling ≤ perT T x.task ∧ S.getLast? = some n)
theorem pick_spec {ts js ss : Sl} {T : List Task} {J : List Job} {S : List Int} {d' d'' : Nat} (hT : RL o w c ts T) (hJ : RL o w d' js J) (hS : RL o w d'' ss S) (ceiling : Int) :
    Call P 137 [.slice ts.a ts.n ts.c, .slice js.a js.n js.c, .slice ss.a ss.n ss.c, .int .i64 ceiling] [sI, sB] (fun n ok w' => Below w.heap.size w w' ∧ WhoOf J S n ok ∧ PickOf T ceiling J S n) w := by
  have hn := hJ.n
  have hsn := hS.n
  have hsm := hS.max
  unfold maxLen at hsm
  refine f137_of _ _ _ _ (If_eq (fun e => ⟨Below.refl _ _, ?_⟩) fun e => ?_)
  · have : J = [] := List.eq_nil_of_length_eq_zero (by omega)
    subst this
    exact ⟨⟨rfl, rfl⟩, fun x r h => by cases h⟩
  · cases J with
    | nil => exact absurd (by rw [hn]; rfl) e
    | cons x J =>
      refine hJ.job (k := 0) rfl rfl (NewSt_of (by rfl) fun b2 w2 c2 u2 => c2.ld (c := .kb) (x := x.started) rfl (If_b (fun hs => c2.ld (x := x.task) rfl ⟨u2, ⟨rfl, .inl rfl⟩, fun y r h _ => by cases h; exact .inl ⟨rfl, .inl hs⟩⟩) fun hs => c2.ld (x := x.task) rfl ?_))
      have hp := period_spec (hT.below u2) x.task
      refine hp.imp1 ?_
      rintro r w3 ⟨rfl, hr⟩
      refine If_d (fun hlt => c2.ld (x := x.task) rfl ⟨u2, ⟨rfl, .inl rfl⟩, fun y r h h0 => by cases h; exact .inl ⟨rfl, .inr (.inl (by rw [← hr h0]; exact hlt))⟩⟩) fun hge => If_eq (fun e0 => c2.ld (x := x.task) rfl ⟨u2, ⟨rfl, .inl rfl⟩, fun y r h _ => by cases h; exact .inl ⟨rfl, .inr (.inr (List.eq_nil_of_length_eq_zero (by have e0 : ((ss.n : Nat) : Int) = 0 := e0; omega)))⟩⟩) fun h0 => ?_
      have hge : ¬ r < ceiling := hge
      have hl : 0 < S.length := by
        rcases Nat.eq_zero_or_pos S.length with h | h
        · exact absurd (by rw [hsn, h]; rfl) h0
        · exact h
      have hx : S[S.length - 1]? = some (S[S.length - 1]'(by omega)) := List.getElem?_eq_getElem (by omega)
      refine (hS.below u2).int (k := S.length - 1) (by rw [wz_id (by omega) (by omega)]; omega) hx ?_
      have hgl : S.getLast? = some (S[S.length - 1]'(by omega)) := by rw [List.getLast?_eq_getElem?, hx]
      exact ⟨u2, ⟨rfl, .inr ⟨hs, hgl⟩⟩, fun y r' h hp0 => by cases h; exact .inr ⟨hs, by rw [← hr hp0]; exact Int.not_lt.1 hge, hgl⟩⟩
theorem index_spec {s : Sl} {l : List Int} (h : RL o w c s l) (v : Int) : Call P 196 [.slice s.a s.n s.c, .int .i64 v] [sI] (fun _ w' => w' = w) w := by
  have hn := h.n
  have hm := h.max
  unfold maxLen at hm
  refine f196_of _ _ ⟨fun i w' => ∃ k : Nat, i = k ∧ k ≤ l.length ∧ w' = w, fun i _ => l.length - i.toNat, ⟨0, rfl, Nat.zero_le _, rfl⟩, ?_⟩
  rintro i w1 ⟨k, rfl, hk, rfl⟩ _
  refine If_d (fun hlt => ?_) fun _ => rfl
  have hlt : k < s.n := Int.ofNat_lt.1 hlt
  refine h.int rfl (List.getElem?_eq_getElem (show k < l.length by omega)) (If_eq (fun _ => rfl) fun _ => ?_)
  rw [wz_id (by omega) (by omega)]
  exact ⟨⟨k + 1, by omega, by omega, rfl⟩, by show l.length - Int.toNat ((k : Int) + 1) < l.length - Int.toNat (k : Int); omega⟩
theorem needs_spec {x : ATask} (h : TaskR o w x) (v : Int) : Call P 146 [x.t.v, .int .i64 v] [sB] (fun _ w' => Below w.heap.size w w') w := by
  refine f146_of _ _ (New_of fun b1 w1 c1 u1 => c1.ld (x := x.t.devs) rfl ?_)
  have hi := index_spec (h.devs.below u1) v
  refine f175_of _ _ (hi.imp1 ?_)
  rintro r w2 rfl
  exact u1
theorem untilZ_in {x now a : Int} (h0 : now ≤ a) (h1 : a ≤ 1099511627776) : now ≤ (if (if x > now then x else now) < a then (if x > now then x else now) else a) ∧ (if (if x > now then x else now) < a then (if x > now then x else now) else a) ≤ 1099511627776 := by
  constructor
  · repeat' split
    all_goals omega
  · repeat' split
    all_goals omega
/-- No later than what is known. -/
def UntilOk (N : List Int) (now r : Int) : Prop := ∀ b, now ≤ b → (∀ x ∈ N, x ≤ b) → r = 1099511627776 ∨ r ≤ b
theorem UntilOk.step {N : List Int} {now a x : Int} (h : UntilOk N now a) (hx : x ∈ N) : UntilOk N now (if (if x > now then x else now) < a then (if x > now then x else now) else a) := fun b h0 hb => by
  have h1 := h b h0 hb
  have h2 := hb x hx
  by_cases c : x > now
  · rw [if_pos c]
    by_cases d : x < a
    · rw [if_pos d]; exact .inr h2
    · rw [if_neg d]; exact h1
  · rw [if_neg c]
    by_cases d : now < a
    · rw [if_pos d]; exact .inr h0
    · rw [if_neg d]; exact h1
theorem until_spec {ts ns js : Sl} {T : List ATask} {N : List Int} {J : List Job} {d' : Nat} (TR : TasksR o w c ts T) (NR : RL o w d ns N) (JR : RL o w d' js J) (hlen : N.length = T.length) (hT : T.length ≤ 1000) (hJ : J.length ≤ 1000) (hj : ∀ x ∈ J, 0 ≤ x.task ∧ x.task < T.length) (dv now : Int) (hnow : now ≤ 1099511627776) :
    Call P 116 [.slice ts.a ts.n ts.c, .slice ns.a ns.n ns.c, .slice js.a js.n js.c, .int .i64 dv, .int .i64 now] [sI] (fun r w' => Below w.heap.size w w' ∧ now ≤ r ∧ r ≤ 1099511627776 ∧ UntilOk N now r) w := by
  have hTn := TR.rl.n
  rw [List.length_map] at hTn
  have hJn := JR.n
  refine f116_of _ _ _ _ _ ⟨fun a i w' => ∃ k : Nat, i = k ∧ k ≤ T.length ∧ Below w.heap.size w w' ∧ now ≤ a ∧ a ≤ 1099511627776 ∧ UntilOk N now a, fun _ i _ => T.length - i.toNat, ⟨0, rfl, Nat.zero_le _, Below.refl _ _, hnow, Int.le_refl _, fun _ _ _ => .inl rfl⟩, ?_⟩
  rintro a i v ⟨k, rfl, hk, u, ha0, ha1, hau⟩ _
  refine If_d (fun hlt => ?_) fun hlt => ?_
  · have hlt : k < ts.n := Int.ofNat_lt.1 hlt
    have hkT : k < T.length := by omega
    have hx : (T.map ATask.t)[k]? = some T[k].t := by simp [hkT]
    have hme : T.length - Int.toNat ((k : Int) + 1) < T.length - Int.toNat (k : Int) := by omega
    refine (TR.below u).rl.task rfl hx (NewSt_of (by rfl) fun b2 w2 c2 u2 => c2.ld (x := T[k].t.period) rfl ?_)
    have u2 := u.on u2
    rw [wz_id (x := (k : Int) + 1) (by omega) (by omega)]
    refine If_d (fun _ => c2.ldTask (x := T[k].t) ?_) fun _ => ⟨⟨k + 1, by omega, by omega, u2, ha0, ha1, hau⟩, hme⟩
    have hn := needs_spec ((TR.below u2).each T[k] (List.getElem_mem hkT)) dv
    refine hn.imp1 ?_
    rintro r w3 u3
    have u3 := u2.on u3
    refine If_b (fun _ => ?_) fun _ => ⟨⟨k + 1, by omega, by omega, u3, ha0, ha1, hau⟩, hme⟩
    refine (NR.below u3).int rfl (List.getElem?_eq_getElem (show k < N.length by omega)) ?_
    exact ⟨⟨k + 1, by omega, by omega, u3, (untilZ_in ha0 ha1).1, (untilZ_in ha0 ha1).2, hau.step (List.getElem_mem _)⟩, hme⟩
  · refine ⟨fun i w' => ∃ q : Nat, i = q ∧ q ≤ J.length ∧ Below w.heap.size w w', fun i _ => J.length - i.toNat, ⟨0, rfl, Nat.zero_le _, u⟩, ?_⟩
    rintro i v2 ⟨q, rfl, hq, u2⟩ _
    refine If_d (fun hlt => ?_) fun _ => ⟨u2, ha0, ha1, hau⟩
    have hlt : q < js.n := Int.ofNat_lt.1 hlt
    have hqJ : q < J.length := by omega
    have hme : J.length - Int.toNat ((q : Int) + 1) < J.length - Int.toNat (q : Int) := by omega
    refine (JR.below u2).job rfl (List.getElem?_eq_getElem hqJ) (NewSt_of (by rfl) fun b3 w3 c3 u3 => c3.ld (x := J[q].task) rfl ?_)
    have u3 := u2.on u3
    obtain ⟨h0, h1⟩ := hj _ (List.getElem_mem hqJ)
    obtain ⟨p, hp⟩ : ∃ p : Nat, J[q].task = p := ⟨J[q].task.toNat, by omega⟩
    have hpT : p < T.length := by omega
    have hx : (T.map ATask.t)[p]? = some T[p].t := by simp [hpT]
    refine (TR.below u3).rl.task hp hx ?_
    have hn := needs_spec ((TR.below u3).each T[p] (List.getElem_mem hpT)) dv
    refine hn.imp1 ?_
    rintro r w4 u4
    rw [wz_id (x := (q : Int) + 1) (by omega) (by omega)]
    exact If_b (fun _ => ⟨u3.on u4, Int.le_refl _, hnow, fun _ h0 _ => .inr h0⟩) fun _ => ⟨⟨q + 1, by omega, by omega, u3.on u4⟩, hme⟩
end
end Go.Proofs.YtajilfnceoeaiaaGreat.V
/- The kernel in memory. -/
namespace Go.Proofs.YtajilfnceoeaiaaGreat.V
open Go Go.RowKit Enc
set_option maxRecDepth 100000
/-- What a kernel is at a moment. -/
structure KS where
  now : Int
  level : Int
  policy : Int
  naps : Bool
  places : Nat
  T : List ATask
  N : List Int
  U : List Int
  jobs : Int → Option Job
  stack : List Int
  ended : Bool
  held : List Held
  lat : Int → Option (Int × Int)
  tim : Int → Option (Int × Int)
  devs : List Away
  spent : List Int
  asleep : Bool
  state : Int
  wake : Int
  trace : List Interval
  meter : Meter
  events : List Event
/-- Where it stands. -/
structure KPtr where
  ts : Sl
  ns : Sl
  us : Sl
  ss : Sl
  ds : Sl
  xs : Sl
  es : Sl
  ch : Nat
  set : Nat
  lk : Nat
  la : Nat
  ti : Nat
  tr : Nat
abbrev vS (s : Sl) : Value := .slice s.a s.n s.c
abbrev vP (b : Nat) : Value := .pointer (some ⟨b, 0, none⟩)
def kcells (p : Plat) (q : KPtr) (s : KS) : List Value :=
  [vS p.levels, vS p.sleeps, vS p.devices, .int .i64 p.idle, .int .i64 p.crit, .int .i64 p.switch, .int .i64 p.switchE, .int .i64 p.sems, .int .i64 p.horizon,
   .int .i64 s.now, .int .i64 s.level, .int .i64 s.policy, .bool s.naps, .chan (some q.ch), vS q.ts, vS q.ns, vS q.us, vP q.set, vS q.ss, .bool s.ended, vP q.lk, vP q.la, vP q.ti, vS q.ds, vS q.xs,
   .bool s.asleep, .int .i64 s.state, .int .i64 s.wake, vP q.tr, .int .i64 s.meter.run, .int .i64 s.meter.idle, .int .i64 s.meter.switch, .int .i64 s.meter.sleep, vS q.es]
/-- The places: so many are taken of six. -/
def ChanR (o : Own) (w : World) (b n : Nat) : Prop := ∃ buf sent rcv, Blk o w 9 b (.chan 6 buf false sent rcv false) ∧ buf.size = n
theorem ChanR.up {o o' : Own} {w w' : World} {b n : Nat} {C : Nat → Bool} (h : ChanR o w b n) (u : Up C o w o' w') (hC : C 9 = false) : ChanR o' w' b n := by
  obtain ⟨buf, sent, rcv, h1, h2⟩ := h
  exact ⟨buf, sent, rcv, h1.up u hC, h2⟩
def kcols : List Nat := [0, 2, 3, 4, 5, 6, 7, 8, 9, 10, 11, 12, 13, 20, 21, 22, 23, 24, 30, 31, 32, 33, 34, 40, 41, 42, 43, 44]
/-- What hangs on a kernel. -/
structure KParts (o : Own) (w : World) (m : Mach) (q : KPtr) (s : KS) : Prop where
  mR : MachR o w m
  T : RowL o w 2 37 q.ts (s.T.map ATask.t)
  TR : ∀ x ∈ s.T, TaskR o w x
  N : RowL o w 3 3 q.ns s.N
  U : RowL o w 4 3 q.us s.U
  S : RowL o w 5 3 q.ss s.stack
  D : RowL o w 6 97 q.ds s.devs
  X : RowL o w 7 3 q.xs s.spent
  E : RowL o w 8 45 q.es s.events
  C : ChanR o w q.ch s.places
  set : SetR o w 20 q.set s.jobs
  lk : LocksR o w q.lk s.held
  la : LatchR o w 30 q.la s.lat
  ti : TimersR o w 40 q.ti s.tim
  tr : TraceR o w q.tr s.trace
section
variable {o o' : Own} {w w' : World} {m : Mach} {q : KPtr} {s : KS} {C : Nat → Bool}
theorem KParts.up (h : KParts o w m q s) (u : Up C o w o' w') (hC : ∀ d, d ∈ kcols → C d = false) : KParts o' w' m q s :=
  ⟨h.mR.up u (hC _ (by decide)), h.T.up u (hC _ (by decide)), fun x hx => (h.TR x hx).up u (hC _ (by decide)), h.N.up u (hC _ (by decide)), h.U.up u (hC _ (by decide)), h.S.up u (hC _ (by decide)), h.D.up u (hC _ (by decide)), h.X.up u (hC _ (by decide)), h.E.up u (hC _ (by decide)), h.C.up u (hC _ (by decide)), h.set.up u (fun d h1 h2 => hC d (by simp [kcols]; omega)), h.lk.up u (hC _ (by decide)) (hC _ (by decide)), PairR.up h.la u (fun d h1 h2 => hC d (by simp [kcols]; omega)), PairR.up h.ti u (fun d h1 h2 => hC d (by simp [kcols]; omega)), h.tr.up u (hC _ (by decide)) (hC _ (by decide))⟩
theorem KParts.upno (h : KParts o w m q s) (u : Up no o w o' w') : KParts o' w' m q s := h.up u fun _ _ => rfl
theorem KParts.up1 (h : KParts o w m q s) (u : Up (only [1]) o w o' w') : KParts o' w' m q s := h.up u fun d hd => by simp [kcols] at hd; simp [only]; omega
theorem KParts.chN (h : KParts o w m q s) {x : Sl} {l : List Int} (n : RowL o' w' 3 3 x l) (u : Up C o w o' w') (hC : ∀ d, d ∈ kcols → d ∉ [3] → C d = false) : KParts o' w' m { q with ns := x } { s with N := l } :=
  ⟨h.mR.up u (hC _ (by decide) (by decide)), h.T.up u (hC _ (by decide) (by decide)), fun x hx => (h.TR x hx).up u (hC _ (by decide) (by decide)), n, h.U.up u (hC _ (by decide) (by decide)), h.S.up u (hC _ (by decide) (by decide)), h.D.up u (hC _ (by decide) (by decide)), h.X.up u (hC _ (by decide) (by decide)), h.E.up u (hC _ (by decide) (by decide)), h.C.up u (hC _ (by decide) (by decide)), h.set.up u (fun d h1 h2 => hC d (by simp [kcols]; omega) (by simp; omega)), h.lk.up u (hC _ (by decide) (by decide)) (hC _ (by decide) (by decide)), PairR.up h.la u (fun d h1 h2 => hC d (by simp [kcols]; omega) (by simp; omega)), PairR.up h.ti u (fun d h1 h2 => hC d (by simp [kcols]; omega) (by simp; omega)), h.tr.up u (hC _ (by decide) (by decide)) (hC _ (by decide) (by decide))⟩
theorem KParts.chU (h : KParts o w m q s) {x : Sl} {l : List Int} (n : RowL o' w' 4 3 x l) (u : Up C o w o' w') (hC : ∀ d, d ∈ kcols → d ∉ [4] → C d = false) : KParts o' w' m { q with us := x } { s with U := l } :=
  ⟨h.mR.up u (hC _ (by decide) (by decide)), h.T.up u (hC _ (by decide) (by decide)), fun x hx => (h.TR x hx).up u (hC _ (by decide) (by decide)), h.N.up u (hC _ (by decide) (by decide)), n, h.S.up u (hC _ (by decide) (by decide)), h.D.up u (hC _ (by decide) (by decide)), h.X.up u (hC _ (by decide) (by decide)), h.E.up u (hC _ (by decide) (by decide)), h.C.up u (hC _ (by decide) (by decide)), h.set.up u (fun d h1 h2 => hC d (by simp [kcols]; omega) (by simp; omega)), h.lk.up u (hC _ (by decide) (by decide)) (hC _ (by decide) (by decide)), PairR.up h.la u (fun d h1 h2 => hC d (by simp [kcols]; omega) (by simp; omega)), PairR.up h.ti u (fun d h1 h2 => hC d (by simp [kcols]; omega) (by simp; omega)), h.tr.up u (hC _ (by decide) (by decide)) (hC _ (by decide) (by decide))⟩
theorem KParts.chS (h : KParts o w m q s) {x : Sl} {l : List Int} (n : RowL o' w' 5 3 x l) (u : Up C o w o' w') (hC : ∀ d, d ∈ kcols → d ∉ [5] → C d = false) : KParts o' w' m { q with ss := x } { s with stack := l } :=
  ⟨h.mR.up u (hC _ (by decide) (by decide)), h.T.up u (hC _ (by decide) (by decide)), fun x hx => (h.TR x hx).up u (hC _ (by decide) (by decide)), h.N.up u (hC _ (by decide) (by decide)), h.U.up u (hC _ (by decide) (by decide)), n, h.D.up u (hC _ (by decide) (by decide)), h.X.up u (hC _ (by decide) (by decide)), h.E.up u (hC _ (by decide) (by decide)), h.C.up u (hC _ (by decide) (by decide)), h.set.up u (fun d h1 h2 => hC d (by simp [kcols]; omega) (by simp; omega)), h.lk.up u (hC _ (by decide) (by decide)) (hC _ (by decide) (by decide)), PairR.up h.la u (fun d h1 h2 => hC d (by simp [kcols]; omega) (by simp; omega)), PairR.up h.ti u (fun d h1 h2 => hC d (by simp [kcols]; omega) (by simp; omega)), h.tr.up u (hC _ (by decide) (by decide)) (hC _ (by decide) (by decide))⟩
theorem KParts.chD (h : KParts o w m q s) {x : Sl} {l : List Away} (n : RowL o' w' 6 97 x l) (u : Up C o w o' w') (hC : ∀ d, d ∈ kcols → d ∉ [6] → C d = false) : KParts o' w' m { q with ds := x } { s with devs := l } :=
  ⟨h.mR.up u (hC _ (by decide) (by decide)), h.T.up u (hC _ (by decide) (by decide)), fun x hx => (h.TR x hx).up u (hC _ (by decide) (by decide)), h.N.up u (hC _ (by decide) (by decide)), h.U.up u (hC _ (by decide) (by decide)), h.S.up u (hC _ (by decide) (by decide)), n, h.X.up u (hC _ (by decide) (by decide)), h.E.up u (hC _ (by decide) (by decide)), h.C.up u (hC _ (by decide) (by decide)), h.set.up u (fun d h1 h2 => hC d (by simp [kcols]; omega) (by simp; omega)), h.lk.up u (hC _ (by decide) (by decide)) (hC _ (by decide) (by decide)), PairR.up h.la u (fun d h1 h2 => hC d (by simp [kcols]; omega) (by simp; omega)), PairR.up h.ti u (fun d h1 h2 => hC d (by simp [kcols]; omega) (by simp; omega)), h.tr.up u (hC _ (by decide) (by decide)) (hC _ (by decide) (by decide))⟩
theorem KParts.chX (h : KParts o w m q s) {x : Sl} {l : List Int} (n : RowL o' w' 7 3 x l) (u : Up C o w o' w') (hC : ∀ d, d ∈ kcols → d ∉ [7] → C d = false) : KParts o' w' m { q with xs := x } { s with spent := l } :=
  ⟨h.mR.up u (hC _ (by decide) (by decide)), h.T.up u (hC _ (by decide) (by decide)), fun x hx => (h.TR x hx).up u (hC _ (by decide) (by decide)), h.N.up u (hC _ (by decide) (by decide)), h.U.up u (hC _ (by decide) (by decide)), h.S.up u (hC _ (by decide) (by decide)), h.D.up u (hC _ (by decide) (by decide)), n, h.E.up u (hC _ (by decide) (by decide)), h.C.up u (hC _ (by decide) (by decide)), h.set.up u (fun d h1 h2 => hC d (by simp [kcols]; omega) (by simp; omega)), h.lk.up u (hC _ (by decide) (by decide)) (hC _ (by decide) (by decide)), PairR.up h.la u (fun d h1 h2 => hC d (by simp [kcols]; omega) (by simp; omega)), PairR.up h.ti u (fun d h1 h2 => hC d (by simp [kcols]; omega) (by simp; omega)), h.tr.up u (hC _ (by decide) (by decide)) (hC _ (by decide) (by decide))⟩
theorem KParts.chE (h : KParts o w m q s) {x : Sl} {l : List Event} (n : RowL o' w' 8 45 x l) (u : Up C o w o' w') (hC : ∀ d, d ∈ kcols → d ∉ [8] → C d = false) : KParts o' w' m { q with es := x } { s with events := l } :=
  ⟨h.mR.up u (hC _ (by decide) (by decide)), h.T.up u (hC _ (by decide) (by decide)), fun x hx => (h.TR x hx).up u (hC _ (by decide) (by decide)), h.N.up u (hC _ (by decide) (by decide)), h.U.up u (hC _ (by decide) (by decide)), h.S.up u (hC _ (by decide) (by decide)), h.D.up u (hC _ (by decide) (by decide)), h.X.up u (hC _ (by decide) (by decide)), n, h.C.up u (hC _ (by decide) (by decide)), h.set.up u (fun d h1 h2 => hC d (by simp [kcols]; omega) (by simp; omega)), h.lk.up u (hC _ (by decide) (by decide)) (hC _ (by decide) (by decide)), PairR.up h.la u (fun d h1 h2 => hC d (by simp [kcols]; omega) (by simp; omega)), PairR.up h.ti u (fun d h1 h2 => hC d (by simp [kcols]; omega) (by simp; omega)), h.tr.up u (hC _ (by decide) (by decide)) (hC _ (by decide) (by decide))⟩
theorem KParts.chC (h : KParts o w m q s) {k : Nat} (n : ChanR o' w' q.ch k) (u : Up C o w o' w') (hC : ∀ d, d ∈ kcols → d ∉ [9] → C d = false) : KParts o' w' m q { s with places := k } :=
  ⟨h.mR.up u (hC _ (by decide) (by decide)), h.T.up u (hC _ (by decide) (by decide)), fun x hx => (h.TR x hx).up u (hC _ (by decide) (by decide)), h.N.up u (hC _ (by decide) (by decide)), h.U.up u (hC _ (by decide) (by decide)), h.S.up u (hC _ (by decide) (by decide)), h.D.up u (hC _ (by decide) (by decide)), h.X.up u (hC _ (by decide) (by decide)), h.E.up u (hC _ (by decide) (by decide)), n, h.set.up u (fun d h1 h2 => hC d (by simp [kcols]; omega) (by simp; omega)), h.lk.up u (hC _ (by decide) (by decide)) (hC _ (by decide) (by decide)), PairR.up h.la u (fun d h1 h2 => hC d (by simp [kcols]; omega) (by simp; omega)), PairR.up h.ti u (fun d h1 h2 => hC d (by simp [kcols]; omega) (by simp; omega)), h.tr.up u (hC _ (by decide) (by decide)) (hC _ (by decide) (by decide))⟩
theorem KParts.chJ (h : KParts o w m q s) {f : Int → Option Job} (n : SetR o' w' 20 q.set f) (u : Up C o w o' w') (hC : ∀ d, d ∈ kcols → d ∉ [20, 21, 22, 23, 24] → C d = false) : KParts o' w' m q { s with jobs := f } :=
  ⟨h.mR.up u (hC _ (by decide) (by decide)), h.T.up u (hC _ (by decide) (by decide)), fun x hx => (h.TR x hx).up u (hC _ (by decide) (by decide)), h.N.up u (hC _ (by decide) (by decide)), h.U.up u (hC _ (by decide) (by decide)), h.S.up u (hC _ (by decide) (by decide)), h.D.up u (hC _ (by decide) (by decide)), h.X.up u (hC _ (by decide) (by decide)), h.E.up u (hC _ (by decide) (by decide)), h.C.up u (hC _ (by decide) (by decide)), n, h.lk.up u (hC _ (by decide) (by decide)) (hC _ (by decide) (by decide)), PairR.up h.la u (fun d h1 h2 => hC d (by simp [kcols]; omega) (by simp; omega)), PairR.up h.ti u (fun d h1 h2 => hC d (by simp [kcols]; omega) (by simp; omega)), h.tr.up u (hC _ (by decide) (by decide)) (hC _ (by decide) (by decide))⟩
theorem KParts.chH (h : KParts o w m q s) {l : List Held} (n : LocksR o' w' q.lk l) (u : Up C o w o' w') (hC : ∀ d, d ∈ kcols → d ∉ [10, 11] → C d = false) : KParts o' w' m q { s with held := l } :=
  ⟨h.mR.up u (hC _ (by decide) (by decide)), h.T.up u (hC _ (by decide) (by decide)), fun x hx => (h.TR x hx).up u (hC _ (by decide) (by decide)), h.N.up u (hC _ (by decide) (by decide)), h.U.up u (hC _ (by decide) (by decide)), h.S.up u (hC _ (by decide) (by decide)), h.D.up u (hC _ (by decide) (by decide)), h.X.up u (hC _ (by decide) (by decide)), h.E.up u (hC _ (by decide) (by decide)), h.C.up u (hC _ (by decide) (by decide)), h.set.up u (fun d h1 h2 => hC d (by simp [kcols]; omega) (by simp; omega)), n, PairR.up h.la u (fun d h1 h2 => hC d (by simp [kcols]; omega) (by simp; omega)), PairR.up h.ti u (fun d h1 h2 => hC d (by simp [kcols]; omega) (by simp; omega)), h.tr.up u (hC _ (by decide) (by decide)) (hC _ (by decide) (by decide))⟩
theorem KParts.chL (h : KParts o w m q s) {f : Int → Option (Int × Int)} (n : LatchR o' w' 30 q.la f) (u : Up C o w o' w') (hC : ∀ d, d ∈ kcols → d ∉ [30, 31, 32, 33, 34] → C d = false) : KParts o' w' m q { s with lat := f } :=
  ⟨h.mR.up u (hC _ (by decide) (by decide)), h.T.up u (hC _ (by decide) (by decide)), fun x hx => (h.TR x hx).up u (hC _ (by decide) (by decide)), h.N.up u (hC _ (by decide) (by decide)), h.U.up u (hC _ (by decide) (by decide)), h.S.up u (hC _ (by decide) (by decide)), h.D.up u (hC _ (by decide) (by decide)), h.X.up u (hC _ (by decide) (by decide)), h.E.up u (hC _ (by decide) (by decide)), h.C.up u (hC _ (by decide) (by decide)), h.set.up u (fun d h1 h2 => hC d (by simp [kcols]; omega) (by simp; omega)), h.lk.up u (hC _ (by decide) (by decide)) (hC _ (by decide) (by decide)), n, PairR.up h.ti u (fun d h1 h2 => hC d (by simp [kcols]; omega) (by simp; omega)), h.tr.up u (hC _ (by decide) (by decide)) (hC _ (by decide) (by decide))⟩
theorem KParts.chM (h : KParts o w m q s) {f : Int → Option (Int × Int)} (n : TimersR o' w' 40 q.ti f) (u : Up C o w o' w') (hC : ∀ d, d ∈ kcols → d ∉ [40, 41, 42, 43, 44] → C d = false) : KParts o' w' m q { s with tim := f } :=
  ⟨h.mR.up u (hC _ (by decide) (by decide)), h.T.up u (hC _ (by decide) (by decide)), fun x hx => (h.TR x hx).up u (hC _ (by decide) (by decide)), h.N.up u (hC _ (by decide) (by decide)), h.U.up u (hC _ (by decide) (by decide)), h.S.up u (hC _ (by decide) (by decide)), h.D.up u (hC _ (by decide) (by decide)), h.X.up u (hC _ (by decide) (by decide)), h.E.up u (hC _ (by decide) (by decide)), h.C.up u (hC _ (by decide) (by decide)), h.set.up u (fun d h1 h2 => hC d (by simp [kcols]; omega) (by simp; omega)), h.lk.up u (hC _ (by decide) (by decide)) (hC _ (by decide) (by decide)), PairR.up h.la u (fun d h1 h2 => hC d (by simp [kcols]; omega) (by simp; omega)), n, h.tr.up u (hC _ (by decide) (by decide)) (hC _ (by decide) (by decide))⟩
theorem KParts.chR (h : KParts o w m q s) {l : List Interval} (n : TraceR o' w' q.tr l) (u : Up C o w o' w') (hC : ∀ d, d ∈ kcols → d ∉ [12, 13] → C d = false) : KParts o' w' m q { s with trace := l } :=
  ⟨h.mR.up u (hC _ (by decide) (by decide)), h.T.up u (hC _ (by decide) (by decide)), fun x hx => (h.TR x hx).up u (hC _ (by decide) (by decide)), h.N.up u (hC _ (by decide) (by decide)), h.U.up u (hC _ (by decide) (by decide)), h.S.up u (hC _ (by decide) (by decide)), h.D.up u (hC _ (by decide) (by decide)), h.X.up u (hC _ (by decide) (by decide)), h.E.up u (hC _ (by decide) (by decide)), h.C.up u (hC _ (by decide) (by decide)), h.set.up u (fun d h1 h2 => hC d (by simp [kcols]; omega) (by simp; omega)), h.lk.up u (hC _ (by decide) (by decide)) (hC _ (by decide) (by decide)), PairR.up h.la u (fun d h1 h2 => hC d (by simp [kcols]; omega) (by simp; omega)), PairR.up h.ti u (fun d h1 h2 => hC d (by simp [kcols]; omega) (by simp; omega)), n⟩
theorem KParts.chT (h : KParts o w m q s) {x : Sl} {l : List ATask} (n : RowL o' w' 2 37 x (l.map ATask.t)) (hl : ∀ y ∈ l, TaskR o' w' y) (u : Up C o w o' w') (hC : ∀ d, d ∈ kcols → d ∉ [2] → C d = false) : KParts o' w' m { q with ts := x } { s with T := l } :=
  ⟨h.mR.up u (hC _ (by decide) (by decide)), n, hl, h.N.up u (hC _ (by decide) (by decide)), h.U.up u (hC _ (by decide) (by decide)), h.S.up u (hC _ (by decide) (by decide)), h.D.up u (hC _ (by decide) (by decide)), h.X.up u (hC _ (by decide) (by decide)), h.E.up u (hC _ (by decide) (by decide)), h.C.up u (hC _ (by decide) (by decide)), h.set.up u (fun d h1 h2 => hC d (by simp [kcols]; omega) (by simp; omega)), h.lk.up u (hC _ (by decide) (by decide)) (hC _ (by decide) (by decide)), PairR.up h.la u (fun d h1 h2 => hC d (by simp [kcols]; omega) (by simp; omega)), PairR.up h.ti u (fun d h1 h2 => hC d (by simp [kcols]; omega) (by simp; omega)), h.tr.up u (hC _ (by decide) (by decide)) (hC _ (by decide) (by decide))⟩
/-- A kernel, in memory. -/
structure KRep (o : Own) (w : World) (m : Mach) (a : Nat) (q : KPtr) (s : KS) : Prop where
  b : Blk o w 1 a (.cells (kcells m.p q s).toArray 91 (0, 0))
  p : KParts o w m q s
theorem KRep.upno {a : Nat} (h : KRep o w m a q s) (u : Up no o w o' w') : KRep o' w' m a q s := ⟨h.b.up u rfl, h.p.upno u⟩
theorem KRep.below {a : Nat} (h : KRep o w m a q s) (u : Below w.heap.size w w') : KRep o w' m a q s := h.upno (Up.of_below u)
theorem KParts.TS (h : KParts o w m q s) : TasksR o w 2 q.ts s.T := ⟨h.T.rl, h.TR⟩
/-- A write into the kernel's own cells. -/
theorem KRep.st {a : Nat} {s' : KS} {q' : KPtr} (f : Nat) (vs : List Value) (h : KRep o w m a q s) (hv : f + vs.length ≤ 34) (hs : splice (kcells m.p q s) f vs = kcells m.p q' s') {K : World → Prop}
    (hk : ∀ w', Blk o w' 1 a (.cells (kcells m.p q' s').toArray 91 (0, 0)) → KParts o w' m q s → Up (only [1]) o w o w' → K w') : StN vs 0 ((⟨a, 0, none⟩ : Addr).add f) K w :=
  h.b.st hv fun w' h1 u => hk w' (by rw [← hs]; exact h1) (h.p.up1 u) u
end
end Go.Proofs.YtajilfnceoeaiaaGreat.V
/- The kernel's functions: tell, did, who, end. -/
namespace Go.Proofs.YtajilfnceoeaiaaGreat.V
open Go Go.RowKit Enc
set_option maxRecDepth 100000
/-- The kernel's colours. -/
def kc : Nat → Bool := fun d => decide (1 ≤ d ∧ d < 50)
def bigN : Nat := 1000000000000
section
variable {o o' : Own} {w w' : World} {m : Mach} {q : KPtr} {s : KS} {a : Nat} {C : Nat → Bool}
theorem Up.k1 {c : Nat} (u : Up (only [c]) o w o' w') (h : 1 ≤ c ∧ c < 50) : Up kc o w o' w' := u.mono fun d hd => by simp only [kc, decide_eq_false_iff_not] at hd; exact only_ne (by omega)
theorem Up.krng {c : Nat} (u : Up (rng c) o w o' w') (h : 1 ≤ c ∧ c + 5 ≤ 50) : Up kc o w o' w' := u.mono fun d hd => by simp only [kc, rng, decide_eq_false_iff_not] at *; omega
theorem Up.klk (u : Up lkc o w o' w') : Up kc o w o' w' := u.mono fun d hd => by simp [kc, lkc, only] at *; omega
theorem Up.ktr (u : Up trc o w o' w') : Up kc o w o' w' := u.mono fun d hd => by simp [kc, trc, only] at *; omega
theorem one_no {c d : Nat} (hd : d ∈ kcols) (h : d ∉ [c]) : only [c] d = false := only_ne (fun e => h (by simp [e]))
theorem rng_no {c d : Nat} (hd : d ∈ kcols) (h : d ∉ [c, c + 1, c + 2, c + 3, c + 4]) : rng c d = false := by
  simp at h
  simp [rng]
  omega
theorem lk_no {d : Nat} (hd : d ∈ kcols) (h : d ∉ [10, 11]) : lkc d = false := by simp at h; simp [lkc, only]; omega
theorem tr_no {d : Nat} (hd : d ∈ kcols) (h : d ∉ [12, 13]) : trc d = false := by simp at h; simp [trc, only]; omega
theorem Blk.ldNf {c b f : Nat} {cs vs : List Value} {t : TypeId} {fr : Nat × Nat} {sh : List C1} {K : Cur (World → Prop) sh} (k : Blk o w c b (.cells cs.toArray t fr)) (hv : (cs.drop f).take vs.length = vs) (hk : apl (fun _ => False) sh K vs w) : LdN sh 0 ((⟨b, 0, none⟩ : Addr).add f) K w :=
  LdN_of (fun j v hj => by
    have hlt := lt_of_get hj
    rw [Addr.add_mk, Addr.add_mk, Nat.zero_add, Nat.zero_add]
    rw [← hv, List.getElem?_take_of_lt hlt, List.getElem?_drop] at hj
    have := k.bx.cell _ v hj
    rwa [Nat.zero_add] at this) hk
theorem Blk.ldM (k : Blk o w 1 a (.cells (kcells m.p q s).toArray 91 (0, 0))) {K : Int → Int → Int → Int → World → Prop} (hk : K s.meter.run s.meter.idle s.meter.switch s.meter.sleep w) : LdN shMeter.cs 0 ((⟨a, 0, none⟩ : Addr).add 29) K w := k.ldNf (vs := s.meter.l) rfl hk
theorem Blk.ldP (k : Blk o w 1 a (.cells (kcells m.p q s).toArray 91 (0, 0))) {K : Sl → Sl → Sl → Int → Int → Int → Int → Int → Int → World → Prop} (hk : K m.p.levels m.p.sleeps m.p.devices m.p.idle m.p.crit m.p.switch m.p.switchE m.p.sems m.p.horizon w) : LdN shPlat.cs 0 ((⟨a, 0, none⟩ : Addr).add 0) K w := k.ldNf (vs := m.p.l) rfl hk
/-- The kernel in a state, in memory, somehow. -/
def KAt (o : Own) (w : World) (m : Mach) (a : Nat) (s : KS) (w' : World) : Prop := ∃ q' o', KRep o' w' m a q' s ∧ Up kc o w o' w'
theorem KAt.trans {s' : KS} {w'' : World} (u : Up kc o w o' w') (h : KAt o' w' m a s' w'') : KAt o w m a s' w'' := by
  obtain ⟨q', o2, h1, h2⟩ := h
  exact ⟨q', o2, h1, u.trans h2⟩
def tellZ (s : KS) (kind task at_ due : Int) : KS := { s with events := s.events ++ [⟨kind, task, at_, due⟩] }
theorem tell_spec (h : KRep o w m a q s) (hE : s.events.length ≤ bigN) (kind task at_ due : Int) : Call P 71 [vP a, .int .i64 kind, .int .i64 task, .int .i64 at_, .int .i64 due] [] (fun w' => KAt o w m a (tellZ s kind task at_ due) w') w := by
  unfold bigN at hE
  refine f71_of _ _ _ _ _ (WA (h.b.bx.ld (x := q.es) rfl (New_blk o 60 fun b2 o2 w2 k2 u2 _ => ?_)))
  have h := h.upno u2
  refine RowL.app (x := (⟨kind, task, at_, due⟩ : Event)) etEvent 42 h.p.E (k2.rd1 rfl) rfl (by omega) (by unfold maxLen; omega) fun s' o3 w3 r3 u3 => ?_
  have hb := h.b.up u3 rfl
  have hp := h.p.chE r3 u3 fun d hd => one_no hd
  exact WA (hb.st (f := 33) (vs := [vS s']) (Nat.le_refl _) fun w4 hb u4 => ⟨{ q with es := s' }, o3, ⟨hb, hp.up1 u4⟩, (u2.of_no.trans (u3.k1 (by omega))).trans (u4.k1 (by omega))⟩)
def didZ (m : Mach) (s : KS) (kind len arg task cycles : Int) : KS :=
  { s with trace := addZ s.trace ⟨kind, s.now, len, arg, task, cycles⟩, meter := addM m s.meter ⟨kind, s.now, len, arg, task, cycles⟩, now := wz (s.now + len) }
theorem did_spec (h : KRep o w m a q s) (hT : s.trace.length ≤ bigN) (kind len arg task cycles : Int) : Call P 162 [vP a, .int .i64 kind, .int .i64 len, .int .i64 arg, .int .i64 task, .int .i64 cycles] [] (fun w' => KAt o w m a (didZ m s kind len arg task cycles) w') w := by
  unfold bigN at hT
  refine f162_of _ _ _ _ _ _ (WA (h.b.bx.ld (x := s.now) rfl (NewSt_blk o 60 (by rfl) fun b2 o2 w2 k2 u2 _ => ?_)))
  have u3 : Up no o w o2 w2.drew := u2.trans .drew
  have h := h.upno u3
  have k2 := k2.up (C := no) (o' := o2) (w' := w2.drew) .drew rfl
  refine WA (h.b.bx.ld (x := some ⟨q.tr, 0, none⟩) rfl (k2.bx.ldInterval (x := ⟨kind, s.now, len, arg, task, cycles⟩) ?_))
  have ha := traceAdd_spec h.p.tr hT ⟨kind, s.now, len, arg, task, cycles⟩
  refine ha.imp0 ?_
  rintro w4 ⟨o4, tr4, u4⟩
  have u5 : Up no o4 w4 o4 w4.drew := .drew
  have hb := (h.b.up u4 rfl).up u5 rfl
  have hp := (h.p.chR tr4 u4 fun d hd => tr_no hd).upno u5
  have k2 := (k2.up u4 rfl).up u5 rfl
  refine WA (hb.ldM (WA (hb.ldP ?_)))
  refine k2.bx.ldInterval (x := ⟨kind, s.now, len, arg, task, cycles⟩) ?_
  have hm := madd_spec hp.mR s.meter ⟨kind, s.now, len, arg, task, cycles⟩
  refine hm.impI4 ?_
  rintro n1 n2 n3 n4 w6 ⟨u6, e⟩
  have u6 : Up no o4 w4.drew o4 w6 := Up.of_below u6
  have hb := hb.up u6 rfl
  have hp := hp.upno u6
  refine WA (hb.st (f := 29) (vs := [.int .i64 n1, .int .i64 n2, .int .i64 n3, .int .i64 n4]) (show 29 + 4 ≤ 34 by decide) fun w7 hb u7 => ?_)
  have hb : Blk o4 w7 1 a (.cells (kcells m.p q { s with trace := addZ s.trace ⟨kind, s.now, len, arg, task, cycles⟩, meter := ⟨n1, n2, n3, n4⟩ }).toArray 91 (0, 0)) := hb
  refine WA (hb.bx.ld (x := s.now) rfl (WA (hb.st (f := 9) (vs := [.int .i64 (wz (s.now + len))]) (show 9 + 1 ≤ 34 by decide) fun w8 hb u8 => ?_)))
  have hb : Blk o4 w8 1 a (.cells (kcells m.p q { s with trace := addZ s.trace ⟨kind, s.now, len, arg, task, cycles⟩, meter := ⟨n1, n2, n3, n4⟩, now := wz (s.now + len) }).toArray 91 (0, 0)) := hb
  have hp := (hp.up1 u7).up1 u8
  rw [e] at hb
  exact ⟨q, o4, ⟨hb, ⟨hp.mR, hp.T, hp.TR, hp.N, hp.U, hp.S, hp.D, hp.X, hp.E, hp.C, hp.set, hp.lk, hp.la, hp.ti, hp.tr⟩⟩, ((((u3.of_no.trans u4.ktr).trans u5.of_no).trans u6.of_no).trans (u7.k1 (by omega))).trans (u8.k1 (by omega))⟩
def ceilOne (T : List ATask) (a : Int) (h : Held) : Int := if ceilZ T h.sem < a then ceilZ T h.sem else a
/-- The least of all that is held. -/
def ceilH (T : List ATask) (H : List Held) : Int := H.foldl (ceilOne T) 1099511627776
theorem ceiling_spec {al : Nat} {H : List Held} {ts : Sl} {T : List ATask} {c : Nat} (h : LocksR o w al H) (hH : H.length ≤ 1000) (hT : TasksR o w c ts T) : Call P 138 [vP al, vS ts] [sI] (fun r w' => Below w.heap.size w w' ∧ r = ceilH T H) w := by
  have hl := locksList_spec h hH
  refine f138_of _ _ (hl.imp1 ?_)
  rintro s1 w1 ⟨o1, r1, u1⟩
  have hn := r1.n
  have hT := hT.below u1.below
  refine ⟨fun a i w' => ∃ k : Nat, i = k ∧ k ≤ H.length ∧ Below w1.heap.size w1 w' ∧ a = (H.take k).foldl (ceilOne T) 1099511627776, fun _ i _ => H.length - i.toNat, ⟨0, rfl, Nat.zero_le _, Below.refl _ _, rfl⟩, ?_⟩
  rintro x i v ⟨k, rfl, hk, u, hae⟩ _
  refine If_d (fun hlt => ?_) fun hlt => ?_
  rotate_left
  · have hlt : ¬ (k : Int) < ((s1.n : Nat) : Int) := hlt
    have hke : k = H.length := by omega
    subst hke
    rw [List.take_length] at hae
    exact ⟨u1.below.on u, hae⟩
  have hlt : k < s1.n := Int.ofNat_lt.1 hlt
  refine (r1.below u).held rfl (List.getElem?_eq_getElem (show k < H.length by omega)) (NewSt_of (by rfl) fun b2 w2 c2 u2 => c2.ld (x := (H[k]'(by omega)).sem) rfl ?_)
  have hc := ceil_spec ts T (H[k]'(by omega)).sem ((hT.below u).below u2)
  refine hc.imp1 ?_
  rintro r w3 ⟨u3, rfl⟩
  rw [wz_id (x := (k : Int) + 1) (by omega) (by omega)]
  exact ⟨⟨k + 1, by omega, by omega, (u.on u2).on u3, by rw [List.take_succ_eq_append_getElem (by omega), List.foldl_append, ← hae]; rfl⟩, by show H.length - Int.toNat ((k : Int) + 1) < H.length - Int.toNat (k : Int); omega⟩
/-- Who runs, and why. -/
def WhoS (s : KS) (L : List Job) (n : Int) (ok : Bool) : Prop := WhoOf L s.stack n ok ∧ PickOf (s.T.map ATask.t) (ceilH s.T s.held) L s.stack n
/-- Who runs. -/
theorem who_spec (h : KRep o w m a q s) (hH : s.held.length ≤ 1000) (hT : s.T.length ≤ 1000) : Call P 105 [vP a] [sI, sB] (fun n ok w' => (∃ L, ListOf s.jobs L ∧ L.length ≤ 8 ∧ WhoS s L n ok) ∧ Below w.heap.size w w') w := by
  have ud : Up no o w o w.drew := .drew
  have h := h.upno ud
  have c := h.b.bx
  refine f105_of _ (WA (c.ld (x := q.ts) rfl (WA (c.ld (x := some ⟨q.set, 0, none⟩) rfl (WA (c.ld (x := q.ss) rfl (WA (c.ld (x := some ⟨q.lk, 0, none⟩) rfl (WA (c.ld (x := q.ts) rfl ?_))))))))))
  have hl := list_spec h.p.set
  refine hl.imp1 ?_
  rintro sL w2 ⟨L, o2, rL, hL, hlen, u2⟩
  have h := h.upno u2
  have c := h.b.bx
  refine ⟨by (first | (apply Bx.getAt; assumption; rfl) | (apply Bx.get0; assumption; rfl) | (apply Bx.get; assumption; rfl) | (apply Bx.get0; apply Blk.bx; assumption; rfl) | (apply Bx.get; apply Blk.bx; assumption; rfl)), by (first | (apply Bx.getAt; assumption; rfl) | (apply Bx.get0; assumption; rfl) | (apply Bx.get; assumption; rfl) | (apply Bx.get0; apply Blk.bx; assumption; rfl) | (apply Bx.get; apply Blk.bx; assumption; rfl)), by (first | (apply Bx.getAt; assumption; rfl) | (apply Bx.get0; assumption; rfl) | (apply Bx.get; assumption; rfl) | (apply Bx.get0; apply Blk.bx; assumption; rfl) | (apply Bx.get; apply Blk.bx; assumption; rfl)), by (first | (apply Bx.getAt; assumption; rfl) | (apply Bx.get0; assumption; rfl) | (apply Bx.get; assumption; rfl) | (apply Bx.get0; apply Blk.bx; assumption; rfl) | (apply Bx.get; apply Blk.bx; assumption; rfl)), ?_⟩
  have hc := ceiling_spec h.p.lk hH h.p.TS
  refine hc.imp1 ?_
  rintro n w3 ⟨u3, rfl⟩
  have h := h.below u3
  have rL := rL.below u3
  have c := h.b.bx
  refine ⟨by (first | (apply Bx.getAt; assumption; rfl) | (apply Bx.get0; assumption; rfl) | (apply Bx.get; assumption; rfl) | (apply Bx.get0; apply Blk.bx; assumption; rfl) | (apply Bx.get; apply Blk.bx; assumption; rfl)), by (first | (apply Bx.getAt; assumption; rfl) | (apply Bx.get0; assumption; rfl) | (apply Bx.get; assumption; rfl) | (apply Bx.get0; apply Blk.bx; assumption; rfl) | (apply Bx.get; apply Blk.bx; assumption; rfl)), by (first | (apply Bx.getAt; assumption; rfl) | (apply Bx.get0; assumption; rfl) | (apply Bx.get; assumption; rfl) | (apply Bx.get0; apply Blk.bx; assumption; rfl) | (apply Bx.get; apply Blk.bx; assumption; rfl)), ?_⟩
  have hp := pick_spec h.p.T.rl rL h.p.S.rl (ceilH s.T s.held)
  refine hp.imp2 ?_
  rintro n1 b1 w4 ⟨u4, hw⟩
  have h := h.below u4
  have c := h.b.bx
  exact ⟨by (first | (apply Bx.getAt; assumption; rfl) | (apply Bx.get0; assumption; rfl) | (apply Bx.get; assumption; rfl) | (apply Bx.get0; apply Blk.bx; assumption; rfl) | (apply Bx.get; apply Blk.bx; assumption; rfl)), by (first | (apply Bx.getAt; assumption; rfl) | (apply Bx.get0; assumption; rfl) | (apply Bx.get; assumption; rfl) | (apply Bx.get0; apply Blk.bx; assumption; rfl) | (apply Bx.get; apply Blk.bx; assumption; rfl)), by (first | (apply Bx.getAt; assumption; rfl) | (apply Bx.get0; assumption; rfl) | (apply Bx.get; assumption; rfl) | (apply Bx.get0; apply Blk.bx; assumption; rfl) | (apply Bx.get; apply Blk.bx; assumption; rfl)), ⟨L, hL, hlen, hw⟩, ((ud.trans u2).below.on u3).on u4⟩
def endZ (s : KS) (kind : Int) (j : Job) : KS :=
  tellZ { s with jobs := upd s.jobs j.task none, stack := s.stack.filter (fun x => !(x == j.task)), held := s.held.filter (fun x => !(x.task == j.task)), U := s.U.set j.task.toNat (wz ((match s.T[j.task.toNat]? with | some x => x.t.cycles | none => 0) - j.left)), ended := true } kind j.task s.now j.deadline
theorem end_spec (h : KRep o w m a q s) (hE : s.events.length ≤ bigN) (hS : s.stack.length ≤ 900000000) (hH : s.held.length ≤ 1000) (hU : s.U.length = s.T.length) (kind : Int) (j : Job) (h0 : 0 ≤ j.task) (h1 : j.task < s.T.length) :
    Call P 164 [vP a, .int .i64 kind, j.v] [] (fun w' => KAt o w m a (endZ s kind j) w') w := by
  obtain ⟨k, hk⟩ : ∃ k : Nat, j.task = k := ⟨j.task.toNat, by omega⟩
  refine f164_of _ _ _ (New_blk o 90 fun b1 o1 w1 k1 u1 _ => ?_)
  have ud : Up no o w o1 w1.drew := u1.trans .drew
  have h := h.upno ud
  have k1 := k1.up (C := no) (o' := o1) (w' := w1.drew) .drew rfl
  refine WA (h.b.bx.ld (x := some ⟨q.set, 0, none⟩) rfl (k1.bx.ld (x := j.task) rfl ?_))
  have hd := drop_spec h.p.set j.task
  refine hd.imp1 ?_
  rintro r w2 ⟨hset, u2⟩
  have hb := h.b.up u2 rfl
  have k1 := k1.up u2 rfl
  have hp := h.p.chJ hset u2 fun d hd => rng_no hd
  have U := ud.of_no.trans (u2.krng (by omega))
  refine WA (hb.bx.ld (x := q.ss) rfl ?_)
  have hdel := delInt_spec hp.S (by decide) (by dsimp only; omega) k1
  refine hdel.imp1 ?_
  rintro ss w3 ⟨hS3, u3⟩
  have hb := hb.up u3 rfl
  have k1 := k1.up u3 rfl
  have hp := hp.chS hS3 u3 fun d hd => one_no hd
  have U := U.trans (u3.k1 (by omega))
  refine WA (hb.st (f := 18) (vs := [vS ss]) (show 18 + 1 ≤ 34 by decide) fun w4 hb u4 => ?_)
  have ud4 : Up no o1 w4 o1 w4.drew := .drew
  have hb := hb.up ud4 rfl
  have k1 := (k1.up u4 rfl).up ud4 rfl
  have hp := (hp.up1 u4).upno ud4
  have U := (U.trans (u4.k1 (by omega))).trans ud4.of_no
  have hb : Blk o1 w4.drew 1 a (.cells (kcells m.p { q with ss := ss } s).toArray 91 (0, 0)) := hb
  refine WA (hb.bx.ld (x := some ⟨q.lk, 0, none⟩) rfl (k1.bx.ld (x := j.task) rfl ?_))
  have hf := free_spec hp.lk hH j.task
  refine hf.imp0 ?_
  rintro w5 ⟨o5, lk5, u5⟩
  have ud5 : Up no o5 w5 o5 w5.drew := .drew
  have hb := (hb.up u5 rfl).up ud5 rfl
  have k1 := (k1.up u5 rfl).up ud5 rfl
  have hp := (hp.chH lk5 u5 fun d hd => lk_no hd).upno ud5
  have U := (U.trans u5.klk).trans ud5.of_no
  refine WA (hb.bx.ld (x := q.us) rfl (k1.bx.ld (x := j.task) rfl (WA (hb.bx.ld (x := q.ts) rfl (k1.bx.ld (x := j.task) rfl ?_)))))
  have hkT : k < s.T.length := by omega
  have hx : (s.T.map ATask.t)[k]? = some (s.T[k]'hkT).t := by simp [hkT]
  have hy : s.U[k]? = some (s.U[k]'(by omega)) := List.getElem?_eq_getElem (by omega)
  refine hp.T.rl.fld (f := 1) (e := .ki .i64) (y := (s.T[k]'hkT).t.cycles) hk hx rfl rfl (k1.bx.ld (x := j.left) rfl ?_)
  refine RowL.st (y := wz ((s.T[k]'hkT).t.cycles - j.left)) hp.U hk hy rfl fun w6 r6 u6 => ?_
  have hb := hb.up u6 rfl
  have k1 := k1.up u6 rfl
  have hp := hp.chU r6 u6 fun d hd => one_no hd
  have U := U.trans (u6.k1 (by omega))
  refine WA (hb.st (f := 19) (vs := [.bool true]) (show 19 + 1 ≤ 34 by decide) fun w7 hb u7 => ?_)
  have ud7 : Up no o5 w7 o5 w7.drew := .drew
  have hb := hb.up ud7 rfl
  have k1 := (k1.up u7 rfl).up ud7 rfl
  have hp := (hp.up1 u7).upno ud7
  have U := (U.trans (u7.k1 (by omega))).trans ud7.of_no
  have hb : Blk o5 w7.drew 1 a (.cells (kcells m.p { q with ss := ss } { s with ended := true }).toArray 91 (0, 0)) := hb
  refine k1.bx.ld (x := j.task) rfl (WA (hb.bx.ld (x := s.now) rfl (k1.bx.ld (x := j.deadline) rfl ?_)))
  have hr : KRep o5 w7.drew m a { q with ss := ss } { s with jobs := upd s.jobs j.task none, stack := s.stack.filter (fun x => !(x == j.task)), held := s.held.filter (fun x => !(x.task == j.task)), U := s.U.set j.task.toNat (wz ((match s.T[j.task.toNat]? with | some x => x.t.cycles | none => 0) - j.left)), ended := true } := by
    have e1 : s.T[j.task.toNat]? = some (s.T[k]'hkT) := by rw [hk, Int.toNat_natCast]; exact List.getElem?_eq_getElem hkT
    have e2 : j.task.toNat = k := by rw [hk, Int.toNat_natCast]
    rw [e1, e2]
    exact ⟨hb, ⟨hp.mR, hp.T, hp.TR, hp.N, hp.U, hp.S, hp.D, hp.X, hp.E, hp.C, hp.set, hp.lk, hp.la, hp.ti, hp.tr⟩⟩
  have ht := tell_spec hr hE kind j.task s.now j.deadline
  exact ht.imp0 fun w' hw => hw.trans U
end
end Go.Proofs.YtajilfnceoeaiaaGreat.V
/- The kernel's functions: sleeping, nobody, there, static, choose. -/
namespace Go.Proofs.YtajilfnceoeaiaaGreat.V
open Go Go.RowKit Enc
set_option maxRecDepth 100000
theorem Bx.ld0 {w : World} {b f : Nat} {vs : List Value} {c : C1} {x : c.T} {K : c.T → World → Prop} (h : Bx w b 0 vs) (hv : vs[f]? = some (c.val x)) (k : K x w) : Ld c (((⟨b, 0, none⟩ : Addr).add 0).add f) K w := h.ld hv k
theorem Bx.get00 {w : World} {b f : Nat} {vs : List Value} {v : Value} (h : Bx w b 0 vs) (hv : vs[f]? = some v) : w.cell? ((((⟨b, 0, none⟩ : Addr).add 0).add f).add 0) = some v := h.get0 hv
section
variable {o o' : Own} {w w' : World} {m : Mach} {q : KPtr} {s : KS} {a : Nat} {C : Nat → Bool}
def sleepingZ (m : Mach) (s : KS) : KS :=
  let x := (m.S[s.state.toNat]?).getD ⟨0, 0, 0, 0, 0, 0⟩
  if s.now ≥ wz (s.wake - x.exit) then didZ m { s with asleep := false } 6 x.exit s.state 0 0 else didZ m s 5 1 s.state 0 0
theorem sleeping_spec (h : KRep o w m a q s) (hT : s.trace.length ≤ bigN) (h0 : 0 ≤ s.state) (h1 : s.state < m.S.length) : Call P 134 [vP a] [] (fun w' => KAt o w m a (sleepingZ m s) w') w := by
  obtain ⟨k, hk⟩ : ∃ k : Nat, s.state = k := ⟨s.state.toNat, by omega⟩
  have hx : m.S[k]? = some (m.S[k]'(by omega)) := List.getElem?_eq_getElem (by omega)
  generalize m.S[k]'(by omega) = x at hx
  have ud : Up no o w o w.drew := .drew
  have h := h.upno ud
  refine f134_of _ (WA (h.b.bx.ld0 (x := m.p.sleeps) rfl (WA (h.b.bx.ld (x := s.state) rfl (h.p.mR.S.at hk hx fun b off hb => ?_)))))
  have hadr : (⟨b, off, none⟩ : Addr).add (Int.toNat s.state * 6) = ⟨b, off + k * 6, none⟩ := by rw [hk, Addr.add_mk, Int.toNat_natCast]
  have hb : Bx w.drew b (off + k * 6) x.l := hb
  rw [hadr]
  refine hb.ldSleep (x := x) (New_blk o 60 fun b2 o2 w2 k2 u2 hb2 => ?_)
  have h := h.upno u2
  have hb := hb.below u2.below
  have us := (ud.trans u2).size
  refine ⟨by (repeat' (first | (apply Bx.get00; apply Blk.bx; apply KRep.b; assumption; rfl) | (apply Bx.get0; apply Blk.bx; apply KRep.b; assumption; rfl) | (apply Bx.get00; apply Blk.bx; assumption; rfl) | (apply Bx.get00; assumption; rfl) | (apply Bx.getAt; assumption; rfl) | (apply Bx.get0; assumption; rfl) | (apply Bx.get; assumption; rfl) | (apply Bx.get0; apply Blk.bx; assumption; rfl) | (apply Bx.get; apply Blk.bx; assumption; rfl) | apply And.intro)), by (first | (apply Bx.get00; apply Blk.bx; apply KRep.b; assumption; rfl) | (apply Bx.get0; apply Blk.bx; apply KRep.b; assumption; rfl) | (apply Bx.get00; apply Blk.bx; assumption; rfl) | (apply Bx.get00; assumption; rfl) | (apply Bx.getAt; assumption; rfl) | (apply Bx.get0; assumption; rfl) | (apply Bx.get; assumption; rfl) | (apply Bx.get0; apply Blk.bx; assumption; rfl) | (apply Bx.get; apply Blk.bx; assumption; rfl)), by (first | (apply Bx.get00; apply Blk.bx; apply KRep.b; assumption; rfl) | (apply Bx.get0; apply Blk.bx; apply KRep.b; assumption; rfl) | (apply Bx.get00; apply Blk.bx; assumption; rfl) | (apply Bx.get00; assumption; rfl) | (apply Bx.getAt; assumption; rfl) | (apply Bx.get0; assumption; rfl) | (apply Bx.get; assumption; rfl) | (apply Bx.get0; apply Blk.bx; assumption; rfl) | (apply Bx.get; apply Blk.bx; assumption; rfl)), k2.wr0 (by rfl) fun w3 k3 hw => ?_⟩
  have u3 := hw.up k2.own
  have hkb := h.b.up u3 rfl
  have hkp := h.p.up u3 fun d hd => by simp [kcols] at hd; simp [only]; omega
  have U : Up kc o w o2 w3 := ((ud.trans u2).of_no).wr hw (by have := ud.size; omega)
  have ud4 : Up no o2 w3 o2 w3.drew := .drew
  have hkb := hkb.up ud4 rfl
  have hkp := hkp.upno ud4
  have k3 := k3.up ud4 rfl
  have U := U.trans ud4.of_no
  have hz : sleepingZ m s = if s.now ≥ wz (s.wake - x.exit) then didZ m { s with asleep := false } 6 x.exit s.state 0 0 else didZ m s 5 1 s.state 0 0 := by
    unfold sleepingZ
    rw [hk, Int.toNat_natCast, hx]
    rfl
  refine WA (hkb.bx.ld (x := s.now) rfl (WA (hkb.bx.ld (x := s.wake) rfl ((k3.bx : Bx _ _ _ x.l).ld (x := x.exit) rfl (If_d (fun hge => ?_) fun hge => ?_)))))
  · rw [hz, if_pos hge]
    refine WA (hkb.st (f := 25) (vs := [.bool false]) (show 25 + 1 ≤ 34 by decide) fun w5 hkb u5 => ?_)
    have ud6 : Up no o2 w5 o2 w5.drew := .drew
    have hkb := hkb.up ud6 rfl
    have hkp := (hkp.up1 u5).upno ud6
    have k3 := (k3.up u5 rfl).up ud6 rfl
    have U := (U.trans (u5.k1 (by omega))).trans ud6.of_no
    have hr : KRep o2 w5.drew m a q { s with asleep := false } := ⟨hkb, ⟨hkp.mR, hkp.T, hkp.TR, hkp.N, hkp.U, hkp.S, hkp.D, hkp.X, hkp.E, hkp.C, hkp.set, hkp.lk, hkp.la, hkp.ti, hkp.tr⟩⟩
    refine (k3.bx : Bx _ _ _ x.l).ld (x := x.exit) rfl (WA (hr.b.bx.ld (x := s.state) rfl ?_))
    have hd := did_spec hr hT 6 x.exit s.state 0 0
    exact hd.imp0 fun w' hw => hw.trans U
  · rw [hz, if_neg hge]
    refine WA (hkb.bx.ld (x := s.state) rfl ?_)
    have hd := did_spec ⟨hkb, hkp⟩ hT 5 1 s.state 0 0
    exact hd.imp0 fun w' hw => hw.trans U
/-- So long nobody is missed. -/
def NapOk (m : Mach) (s : KS) (t : Int) : Prop := 0 < t → ∀ x, InMom s.T s.N [] s.now x → x ≥ s.now → t * 4294967296 ≤ atZ m s.T s.N [] [] s.now x
/-- A step without a job: idle, or to sleep. -/
def NobodyR (m : Mach) (s s' : KS) : Prop :=
  s' = didZ m { s with ended := false } 2 1 0 0 0 ∨
  (s.naps = true ∧ ∃ (n : Nat) (x : Sleep) (t : Int), m.S[n]? = some x ∧ 0 ≤ t ∧ t ≤ 1024 ∧ (x.even ≤ wz (wz (s.now + t) - s.now) ∧ NapOk m s t) ∧ s' = didZ m { s with ended := false, asleep := true, state := n, wake := wz (s.now + t) } 4 x.enter n 0 0)
theorem nobody_spec (h : KRep o w m a q s) (hc : CritOk m) (hT : s.trace.length ≤ bigN) (hN : s.N.length = s.T.length) (hTl : s.T.length ≤ 1000) : Call P 136 [vP a] [] (fun w' => ∃ s', NobodyR m s s' ∧ KAt o w m a s' w') w := by
  refine f136_of _ (WA (h.b.st (f := 19) (vs := [.bool false]) (show 19 + 1 ≤ 34 by decide) fun w1 hb u1 => ?_))
  have ud : Up no o w1 o w1.drew := .drew
  have hp := (h.p.up1 u1).upno ud
  have U : Up kc o w o w1.drew := (u1.k1 (by omega)).trans ud.of_no
  have h : KRep o w1.drew m a q { s with ended := false } := ⟨hb.up ud rfl, ⟨hp.mR, hp.T, hp.TR, hp.N, hp.U, hp.S, hp.D, hp.X, hp.E, hp.C, hp.set, hp.lk, hp.la, hp.ti, hp.tr⟩⟩
  refine WA (h.b.ldP (WA (h.b.bx.ld (x := q.ts) rfl (WA (h.b.bx.ld (x := q.ns) rfl (WA (h.b.bx.ld (x := s.now) rfl ?_)))))))
  have hr := ready_spec h.p.mR hc h.p.TS h.p.N.rl hN hTl s.now
  refine hr.imp1 ?_
  rintro wk w2 ⟨u2, t, ht0, ht1, rfl, hnap⟩
  have u2' : Up no o w1.drew o w2.drew := (Up.of_below u2).trans .drew
  have h := h.upno u2'
  have U := U.trans u2'.of_no
  refine WA (h.b.ldP (WA (h.b.bx.ld (x := s.now) rfl ?_)))
  have hbest := best_spec h.p.mR (wz (wz (s.now + t) - s.now))
  refine hbest.imp2 ?_
  rintro n ok w3 ⟨u3, hok⟩
  have h := h.below u3
  have U := U.trans (Up.of_below u3)
  have idle : Call P 162 [vP a, .int .i64 2, .int .i64 1, .int .i64 0, .int .i64 0, .int .i64 0] [] (fun w' => ∃ s', NobodyR m s s' ∧ KAt o w m a s' w') w3 := by
    have hd := did_spec h hT 2 1 0 0 0
    exact hd.imp0 fun w' hw => ⟨_, .inl rfl, hw.trans U⟩
  have hbx := h.b.bx
  refine ⟨by (first | (apply Bx.get00; apply Blk.bx; apply KRep.b; assumption; rfl) | (apply Bx.get0; apply Blk.bx; apply KRep.b; assumption; rfl) | (apply Bx.get00; apply Blk.bx; assumption; rfl) | (apply Bx.get00; assumption; rfl) | (apply Bx.getAt; assumption; rfl) | (apply Bx.get0; assumption; rfl) | (apply Bx.get; assumption; rfl) | (apply Bx.get0; apply Blk.bx; assumption; rfl) | (apply Bx.get; apply Blk.bx; assumption; rfl)), If_b (fun e => ?_) fun _ => idle⟩
  obtain ⟨k, x, rfl, hx, hev⟩ := hok e
  refine WA (hbx.ld (c := .kb) (x := s.naps) rfl (If_b (fun hn => ?_) fun _ => idle))
  refine WA (h.b.st (f := 25) (vs := [.bool true]) (show 25 + 1 ≤ 34 by decide) fun w4 hb u4 => ?_)
  refine WA (hb.st (f := 26) (vs := [.int .i64 (k : Int)]) (show 26 + 1 ≤ 34 by decide) fun w5 hb u5 => ?_)
  refine WA (hb.st (f := 27) (vs := [.int .i64 (wz (s.now + t))]) (show 27 + 1 ≤ 34 by decide) fun w6 hb u6 => ?_)
  have hp := ((h.p.up1 u4).up1 u5).up1 u6
  have U := ((U.trans (u4.k1 (by omega))).trans (u5.k1 (by omega))).trans (u6.k1 (by omega))
  have h : KRep o w6 m a q { s with ended := false, asleep := true, state := (k : Int), wake := wz (s.now + t) } := ⟨hb, ⟨hp.mR, hp.T, hp.TR, hp.N, hp.U, hp.S, hp.D, hp.X, hp.E, hp.C, hp.set, hp.lk, hp.la, hp.ti, hp.tr⟩⟩
  refine WA (h.b.bx.ld0 (x := m.p.sleeps) rfl (h.p.mR.S.fld (f := 1) (e := .ki .i64) (y := x.enter) rfl hx rfl rfl ?_))
  have hd := did_spec h hT 4 x.enter k 0 0
  exact hd.imp0 fun w' hw => ⟨_, .inr ⟨hn, k, x, t, hx, ht0, ht1, ⟨hev, hnap⟩, rfl⟩, hw.trans U⟩
end
end Go.Proofs.YtajilfnceoeaiaaGreat.V
/- The kernel's functions: there, static, choose. -/
namespace Go.Proofs.YtajilfnceoeaiaaGreat.V
open Go Go.RowKit Enc
set_option maxRecDepth 100000
theorem Bx.get0f {w : World} {b f : Nat} {vs : List Value} {v : Value} (h : Bx w b 0 vs) (hv : vs[f]? = some v) : w.cell? (((⟨b, 0, none⟩ : Addr).add 0).add f) = some v := h.get hv
/-- Colours of rows that are made and thrown away. -/
def l60 : Nat → Bool := fun d => decide (60 ≤ d ∧ d < 70)
section
variable {o o' : Own} {w w' : World} {m : Mach} {q : KPtr} {s : KS} {a : Nat} {C : Nat → Bool}
theorem KRep.up60 (h : KRep o w m a q s) (u : Up l60 o w o' w') : KRep o' w' m a q s := ⟨h.b.up u rfl, h.p.up u fun d hd => by simp [kcols] at hd; simp [l60]; omega⟩
theorem Up.l6 {c : Nat} (u : Up (only [c]) o w o' w') (h : 60 ≤ c ∧ c < 70) : Up l60 o w o' w' := u.mono fun d hd => by simp only [l60, decide_eq_false_iff_not] at hd; exact only_ne (by omega)
theorem Up.k60 (u : Up kc o w o' w') : Up (fun d => kc d || l60 d) o w o' w' := u.mono fun d hd => by simp at hd; exact hd.1
/-- The tasks that there are. -/
def thereZ (T : List ATask) : List ATask := T.filter fun x => !(x.t.period == 0)
theorem filter_map' (T : List ATask) : (T.map ATask.t).filter (fun x => !(x.period == 0)) = (thereZ T).map ATask.t := by
  unfold thereZ
  rw [List.filter_map]
  rfl
theorem there_spec (h : KRep o w m a q s) (hT : 0 < s.T.length) (hTl : s.T.length ≤ 1000) : Call P 96 [vP a] [sS] (fun x w' => ∃ o', RowL o' w' 61 37 x ((thereZ s.T).map ATask.t) ∧ Up (only [61]) o w o' w') w := by
  refine f96_of _ (WA (h.b.bx.ld (x := q.ts) rfl ?_))
  have hc := cloneTask_spec h.p.T.rl (by simp; omega) 61
  refine hc.imp1 ?_
  rintro x w2 ⟨o2, _, hr, _, u2⟩
  have hd := delTask_spec (hr (by intro e; have := congrArg List.length e; simp at this; rw [this] at hT; simp at hT)) (by decide) (by simp; omega)
  refine hd.imp1 ?_
  rintro y w3 ⟨h3, u3⟩
  refine ⟨o2, ?_, u2.of_no.trans u3⟩
  rw [filter_map'] at h3
  exact h3
theorem thereTR {x : Sl} (h : RowL o w 61 37 x ((thereZ s.T).map ATask.t)) (hT : ∀ x ∈ s.T, TaskR o w x) : TasksR o w 61 x (thereZ s.T) := ⟨h.rl, fun y hy => hT y (List.mem_filter.1 hy).1⟩
theorem static_spec (h : KRep o w m a q s) (hc : CritOk m) (hT : 0 < s.T.length) (hTl : s.T.length ≤ 1000) (hU : s.U.length = s.T.length) (hper : ∀ x ∈ s.T, 0 ≤ x.t.period) : Call P 193 [vP a] [sI] (fun r w' => (0 ≤ r ∧ r ≤ m.p.crit) ∧ ∃ o', Up l60 o w o' w') w := by
  refine f193_of _ (WA (h.b.bx.ld (x := s.policy) rfl (If_ne (fun _ => ?_) fun _ => ?_)))
  · have ud : Up no o w o w.drew := .drew
    have h := h.upno ud
    refine WA (h.b.ldP ?_)
    have ht := there_spec h hT hTl
    refine ht.imp1 ?_
    rintro x w2 ⟨o2, hr, u2⟩
    have u2 := u2.l6 (by omega)
    have h := h.up60 u2
    refine ⟨by (repeat' (first | (apply Bx.get0f; apply Blk.bx; assumption; rfl) | (apply Bx.get0f; apply Blk.bx; apply KRep.b; assumption; rfl) | (apply Bx.get0f; assumption; rfl) | (apply Bx.get00; apply Blk.bx; apply KRep.b; assumption; rfl) | (apply Bx.get0; apply Blk.bx; apply KRep.b; assumption; rfl) | (apply Bx.get00; apply Blk.bx; assumption; rfl) | (apply Bx.get00; assumption; rfl) | (apply Bx.getAt; assumption; rfl) | (apply Bx.get0; assumption; rfl) | (apply Bx.get; assumption; rfl) | (apply Bx.get0; apply Blk.bx; assumption; rfl) | (apply Bx.get; apply Blk.bx; assumption; rfl) | apply And.intro)), ?_⟩
    have hs := slowest_spec h.p.mR hc (thereTR hr h.p.TR)
    refine hs.imp1 ?_
    rintro r w3 ⟨u3, hr⟩
    exact ⟨hr, o2, (ud.of_no.trans u2).trans (Up.of_below u3)⟩
  · refine WA (h.b.bx.ld (x := q.ts) rfl ?_)
    have hn := h.p.T.n
    rw [List.length_map] at hn
    refine ⟨fun x i w' => ∃ (k : Nat) (o' : Own) (l : List Int), i = k ∧ k ≤ s.T.length ∧ l.length = (thereZ (s.T.take k)).length ∧ RowL o' w' 62 3 x l ∧ KRep o' w' m a q s ∧ Up l60 o w o' w', fun _ i _ => s.T.length - i.toNat, ⟨0, o, [], rfl, Nat.zero_le _, rfl, .nil, h, .refl⟩, ?_⟩
    rintro x i v ⟨k, o1, l, rfl, hk, hl, hr, h, u⟩ _
    refine If_d (fun hlt => ?_) fun hlt => ?_
    · have hlt : k < q.ts.n := Int.ofNat_lt.1 hlt
      have hkT : k < s.T.length := by omega
      have hx : (s.T.map ATask.t)[k]? = some s.T[k].t := by simp [hkT]
      have hme : s.T.length - Int.toNat ((k : Int) + 1) < s.T.length - Int.toNat (k : Int) := by omega
      have htk : s.T.take (k + 1) = s.T.take k ++ [s.T[k]] := take_succ_get (List.getElem?_eq_getElem hkT)
      refine h.p.T.rl.task rfl hx (NewSt_of (by rfl) fun b2 w2 c2 u2 => c2.ld (x := s.T[k].t.period) rfl ?_)
      have u2 : Up no o1 v o1 w2 := Up.of_below u2
      have h := h.upno u2
      have hr := hr.up u2 rfl
      have u := u.trans u2.of_no
      rw [wz_id (x := (k : Int) + 1) (by omega) (by omega)]
      have hpos := hper _ (List.getElem_mem hkT)
      refine If_d (fun hp => ?_) fun hp => ?_
      · have hp : s.T[k].t.period > 0 := hp
        have hth : thereZ (s.T.take (k + 1)) = thereZ (s.T.take k) ++ [s.T[k]] := by
          rw [htk]
          unfold thereZ
          rw [List.filter_append]
          congr 1
          simp
          omega
        refine WA (h.b.bx.ld (x := q.us) rfl (h.p.U.rl.int rfl (List.getElem?_eq_getElem (show k < s.U.length by omega)) (New_blk o1 63 fun b3 o3 w3 k3 u3 _ => ?_)))
        have h := h.upno u3
        have hr := hr.up u3 rfl
        have hbl : (thereZ (s.T.take k)).length ≤ k := by
          unfold thereZ
          exact Nat.le_trans (List.length_filter_le _ _) (by simp; omega)
        refine RowL.app (x := (s.U[k]'(by omega))) etInt 35 hr (k3.rd1 rfl) rfl (by omega) (by unfold maxLen; omega) fun s4 o4 w4 r4 u4 => ?_
        exact ⟨⟨k + 1, o4, _, by omega, by omega, by rw [hth, List.length_append, List.length_append, hl]; rfl, r4, h.up60 (u4.l6 (by omega)), (u.trans u3.of_no).trans (u4.l6 (by omega))⟩, hme⟩
      · have hp : ¬ s.T[k].t.period > 0 := hp
        have hth : thereZ (s.T.take (k + 1)) = thereZ (s.T.take k) := by
          rw [htk]
          unfold thereZ
          rw [List.filter_append]
          have : [s.T[k]].filter (fun x => !(x.t.period == 0)) = [] := by
            simp
            omega
          rw [this, List.append_nil]
        exact ⟨⟨k + 1, o1, l, by omega, by omega, by rw [hth]; exact hl, hr, h, u⟩, hme⟩
    · have hlt : ¬ k < q.ts.n := fun h => hlt (Int.ofNat_lt.2 h)
      have hkT : k = s.T.length := by omega
      rw [hkT, List.take_length] at hl
      have ud : Up no o1 v o1 v.drew := .drew
      have h := h.upno ud
      have hr := hr.up ud rfl
      refine WA (h.b.ldP ?_)
      have ht := there_spec h hT hTl
      refine ht.imp1 ?_
      rintro y w2 ⟨o2, hy, u2⟩
      have hr := hr.up u2 rfl
      have u2 := u2.l6 (by omega)
      have h := h.up60 u2
      refine ⟨by (repeat' (first | (apply Bx.get0f; apply Blk.bx; assumption; rfl) | (apply Bx.get0f; apply Blk.bx; apply KRep.b; assumption; rfl) | (apply Bx.get0f; assumption; rfl) | (apply Bx.get00; apply Blk.bx; apply KRep.b; assumption; rfl) | (apply Bx.get0; apply Blk.bx; apply KRep.b; assumption; rfl) | (apply Bx.get00; apply Blk.bx; assumption; rfl) | (apply Bx.get00; assumption; rfl) | (apply Bx.getAt; assumption; rfl) | (apply Bx.get0; assumption; rfl) | (apply Bx.get; assumption; rfl) | (apply Bx.get0; apply Blk.bx; assumption; rfl) | (apply Bx.get; apply Blk.bx; assumption; rfl) | apply And.intro)), ?_⟩
      have hs := spare_spec h.p.mR hc (thereTR hy h.p.TR) hr.rl hl
      refine hs.imp1 ?_
      rintro r w3 ⟨u3, hr⟩
      exact ⟨hr, o2, ((u.trans ud.of_no).trans u2).trans (Up.of_below u3)⟩
/-- There is time for a level. -/
def TimeOk (m : Mach) (s : KS) (j : Job) (n : Int) : Prop :=
  0 < n → ∃ L r, ListOf s.jobs L ∧ wholeZ (needZ m j.left s.level n) ≤ r ∧ ∀ x, InMom s.T s.N L s.now x → x ≥ j.deadline → r ≤ atZ m s.T s.N L s.held s.now x
def startS (s : KS) (j : Job) : KS := if j.started then s else { s with jobs := upd s.jobs j.task (some { j with started := true }), stack := s.stack ++ [j.task] }
/-- How fast somebody runs. -/
def ChooseR (m : Mach) (s : KS) (j : Job) (b : Bool) (s' : KS) : Prop :=
  ∃ n : Int, 0 ≤ n ∧ n ≤ m.p.crit ∧ ((s.policy = 0 → n = 0) ∧ TimeOk m (startS s j) j n) ∧
    let s1 : KS := if j.started then s else { s with jobs := upd s.jobs j.task (some { j with started := true }), stack := s.stack ++ [j.task] }
    ((n = s.level ∧ b = false ∧ s' = { s1 with ended := false }) ∨ (n ≠ s.level ∧ b = true ∧ s' = didZ m { s1 with ended := false, level := n } 3 m.p.switch n 0 0))
def chooseTail (k : Option Addr) (a1 : Addr) (K : Bool → World → Prop) (w : World) : Prop :=
 WithAddr k fun a64 =>
 StN [.bool false] 0 (a64.add 19) (fun w =>
 (fun w : World =>
 WithAddr k fun a65 =>
 LdN shPlat.cs 0 (a65.add 0) (fun s66 s67 s68 n69 n70 n71 n72 n73 n74 w =>
 WithAddr k fun a75 =>
 Ld (.ks) (a75.add 14) (fun s76 w =>
 WithAddr k fun a77 =>
 Ld (.ks) (a77.add 15) (fun s78 w =>
 WithAddr k fun a79 =>
 Ld (.kp) (a79.add 17) (fun p80 w =>
 WithAddr k fun a81 =>
 Ld (.kp) (a81.add 20) (fun p82 w =>
 WithAddr k fun a83 =>
 Ld (.ki .i64) (a83.add 9) (fun n84 w =>
 Ld (.ki .i64) (a1.add 2) (fun n85 w =>
 Call P 40 [.pointer p80] [sS] (fun s86 w =>
 (w.cell? ((a1.add 2).add 0) = some (.int .i64 n85)) ∧ (w.cell? ((a83.add 9).add 0) = some (.int .i64 n84)) ∧ (w.cell? ((a81.add 20).add 0) = some (.pointer p82)) ∧ (w.cell? ((a77.add 15).add 0) = some (.slice s78.a s78.n s78.c)) ∧ (w.cell? ((a75.add 14).add 0) = some (.slice s76.a s76.n s76.c)) ∧ (w.cell? ((a65.add 0).add 0) = some (.slice s66.a s66.n s66.c) ∧ w.cell? ((a65.add 0).add 1) = some (.slice s67.a s67.n s67.c) ∧ w.cell? ((a65.add 0).add 2) = some (.slice s68.a s68.n s68.c) ∧ w.cell? ((a65.add 0).add 3) = some (.int .i64 n69) ∧ w.cell? ((a65.add 0).add 4) = some (.int .i64 n70) ∧ w.cell? ((a65.add 0).add 5) = some (.int .i64 n71) ∧ w.cell? ((a65.add 0).add 6) = some (.int .i64 n72) ∧ w.cell? ((a65.add 0).add 7) = some (.int .i64 n73) ∧ w.cell? ((a65.add 0).add 8) = some (.int .i64 n74)) ∧ Call P 48 [.pointer p82] [sS] (fun s87 w =>
 (w.cell? ((a1.add 2).add 0) = some (.int .i64 n85)) ∧ (w.cell? ((a83.add 9).add 0) = some (.int .i64 n84)) ∧ (w.cell? ((a79.add 17).add 0) = some (.pointer p80)) ∧ (w.cell? ((a77.add 15).add 0) = some (.slice s78.a s78.n s78.c)) ∧ (w.cell? ((a75.add 14).add 0) = some (.slice s76.a s76.n s76.c)) ∧ (w.cell? ((a65.add 0).add 0) = some (.slice s66.a s66.n s66.c) ∧ w.cell? ((a65.add 0).add 1) = some (.slice s67.a s67.n s67.c) ∧ w.cell? ((a65.add 0).add 2) = some (.slice s68.a s68.n s68.c) ∧ w.cell? ((a65.add 0).add 3) = some (.int .i64 n69) ∧ w.cell? ((a65.add 0).add 4) = some (.int .i64 n70) ∧ w.cell? ((a65.add 0).add 5) = some (.int .i64 n71) ∧ w.cell? ((a65.add 0).add 6) = some (.int .i64 n72) ∧ w.cell? ((a65.add 0).add 7) = some (.int .i64 n73) ∧ w.cell? ((a65.add 0).add 8) = some (.int .i64 n74)) ∧ Call P 191 [.agg #[.slice s66.a s66.n s66.c, .slice s67.a s67.n s67.c, .slice s68.a s68.n s68.c, .int .i64 n69, .int .i64 n70, .int .i64 n71, .int .i64 n72, .int .i64 n73, .int .i64 n74], .slice s76.a s76.n s76.c, .slice s78.a s78.n s78.c, .slice s86.a s86.n s86.c, .slice s87.a s87.n s87.c, .int .i64 n84, .int .i64 n85] [sI] (fun n88 w =>
 (w.cell? ((a81.add 20).add 0) = some (.pointer p82)) ∧ (w.cell? ((a79.add 17).add 0) = some (.pointer p80)) ∧ (fun w : World =>
 WithAddr k fun a89 =>
 LdN shPlat.cs 0 (a89.add 0) (fun s90 s91 s92 n93 n94 n95 n96 n97 n98 w =>
 WithAddr k fun a99 =>
 Ld (.ki .i64) (a99.add 11) (fun n100 w =>
 Ld (.ki .i64) (a1.add 3) (fun n101 w =>
 WithAddr k fun a102 =>
 Ld (.ki .i64) (a102.add 10) (fun n103 w =>
 Call P 193 [.pointer k] [sI] (fun n104 w =>
 (w.cell? ((a102.add 10).add 0) = some (.int .i64 n103)) ∧ (w.cell? ((a1.add 3).add 0) = some (.int .i64 n101)) ∧ (w.cell? ((a99.add 11).add 0) = some (.int .i64 n100)) ∧ (w.cell? ((a89.add 0).add 0) = some (.slice s90.a s90.n s90.c) ∧ w.cell? ((a89.add 0).add 1) = some (.slice s91.a s91.n s91.c) ∧ w.cell? ((a89.add 0).add 2) = some (.slice s92.a s92.n s92.c) ∧ w.cell? ((a89.add 0).add 3) = some (.int .i64 n93) ∧ w.cell? ((a89.add 0).add 4) = some (.int .i64 n94) ∧ w.cell? ((a89.add 0).add 5) = some (.int .i64 n95) ∧ w.cell? ((a89.add 0).add 6) = some (.int .i64 n96) ∧ w.cell? ((a89.add 0).add 7) = some (.int .i64 n97) ∧ w.cell? ((a89.add 0).add 8) = some (.int .i64 n98)) ∧ Call P 192 [.agg #[.slice s90.a s90.n s90.c, .slice s91.a s91.n s91.c, .slice s92.a s92.n s92.c, .int .i64 n93, .int .i64 n94, .int .i64 n95, .int .i64 n96, .int .i64 n97, .int .i64 n98], .int .i64 n100, .int .i64 n104, .int .i64 n101, .int .i64 n88, .int .i64 n103] [sI] (fun n105 w =>
 WithAddr k fun a106 =>
 Ld (.ki .i64) (a106.add 10) (fun n107 w =>
 If (n105 == n107) (
 K false w) (
 WithAddr k fun a108 =>
 StN [.int .i64 n105] 0 (a108.add 10) (fun w =>
 WithAddr k fun a109 =>
 Ld (.ki .i64) ((a109.add 0).add 5) (fun n110 w =>
 Call P 162 [.pointer k, .int .i64 3, .int .i64 n110, .int .i64 n105, .int .i64 0, .int .i64 0] [] (fun w =>
 K true w) w) w) w)) w) w) w) w) w) w) w) w.drew) w) w) w) w) w) w) w) w) w) w) w.drew) w
/-- What the kernel's calls ask for. -/
structure KOk0 (m : Mach) (s : KS) : Prop where
  crit : CritOk m
  T : s.T.length = 6
  N : s.N.length = 6
  U : s.U.length = 6
  D : s.devs.length = m.D.length
  X : s.spent.length = m.D.length
  per : ∀ x ∈ s.T, 0 ≤ x.t.period
  held : ∀ h ∈ s.held, 0 ≤ h.task ∧ h.task < 6
  heldl : s.held.length ≤ 1000
  lev : 0 ≤ s.level ∧ s.level ≤ m.p.crit
  trace : s.trace.length ≤ bigN
  events : s.events.length ≤ bigN
structure KOk (m : Mach) (s : KS) : Prop extends KOk0 m s where
  stack : s.stack.length ≤ 900000000
theorem chooseTail_of (h : KRep o w m a q s) (ok : KOk0 m s) {b1 : Nat} {j : Job} (k1 : Blk o w 90 b1 (.cells j.l.toArray 50 (0, 0))) {K : Bool → World → Prop}
    (hK : ∀ b s' w', (∃ n : Int, 0 ≤ n ∧ n ≤ m.p.crit ∧ ((s.policy = 0 → n = 0) ∧ TimeOk m s j n) ∧ ((n = s.level ∧ b = false ∧ s' = { s with ended := false }) ∨ (n ≠ s.level ∧ b = true ∧ s' = didZ m { s with ended := false, level := n } 3 m.p.switch n 0 0))) → (∃ q' o', KRep o' w' m a q' s' ∧ Up (fun d => kc d || l60 d) o w o' w') → K b w') :
    chooseTail (some ⟨a, 0, none⟩) ⟨b1, 0, none⟩ K w := by
  refine WA (h.b.st (f := 19) (vs := [.bool false]) (show 19 + 1 ≤ 34 by decide) fun w1 hb u1 => ?_)
  have ud : Up no o w1 o w1.drew := .drew
  have hp := (h.p.up1 u1).upno ud
  have k1 := (k1.up u1 rfl).up ud rfl
  have U : Up (fun d => kc d || l60 d) o w o w1.drew := ((u1.k1 (by omega)).trans ud.of_no).k60
  have h : KRep o w1.drew m a q { s with ended := false } := ⟨hb.up ud rfl, ⟨hp.mR, hp.T, hp.TR, hp.N, hp.U, hp.S, hp.D, hp.X, hp.E, hp.C, hp.set, hp.lk, hp.la, hp.ti, hp.tr⟩⟩
  refine WA (h.b.ldP (WA (h.b.bx.ld (x := q.ts) rfl (WA (h.b.bx.ld (x := q.ns) rfl (WA (h.b.bx.ld (x := some ⟨q.set, 0, none⟩) rfl (WA (h.b.bx.ld (x := some ⟨q.lk, 0, none⟩) rfl (WA (h.b.bx.ld (x := s.now) rfl (k1.bx.ld (x := j.deadline) rfl ?_))))))))))))
  have hl := list_spec h.p.set
  refine hl.imp1 ?_
  rintro sL w2 ⟨L, o2, rL, hL, hlen, u2⟩
  have h := h.upno u2
  have k1 := k1.up u2 rfl
  have U := U.trans u2.of_no
  have hjb : Bx w2 b1 0 j.l := k1.bx
  refine ⟨by (repeat' (first | (apply Bx.get0f; apply Blk.bx; assumption; rfl) | (apply Bx.get0f; apply Blk.bx; apply KRep.b; assumption; rfl) | (apply Bx.get0f; assumption; rfl) | (apply Bx.get00; apply Blk.bx; apply KRep.b; assumption; rfl) | (apply Bx.get0; apply Blk.bx; apply KRep.b; assumption; rfl) | (apply Bx.get00; apply Blk.bx; assumption; rfl) | (apply Bx.get00; assumption; rfl) | (apply Bx.getAt; assumption; rfl) | (apply Bx.get0; assumption; rfl) | (apply Bx.get; assumption; rfl) | (apply Bx.get0; apply Blk.bx; assumption; rfl) | (apply Bx.get; apply Blk.bx; assumption; rfl) | apply And.intro)), by (repeat' (first | (apply Bx.get0f; apply Blk.bx; assumption; rfl) | (apply Bx.get0f; apply Blk.bx; apply KRep.b; assumption; rfl) | (apply Bx.get0f; assumption; rfl) | (apply Bx.get00; apply Blk.bx; apply KRep.b; assumption; rfl) | (apply Bx.get0; apply Blk.bx; apply KRep.b; assumption; rfl) | (apply Bx.get00; apply Blk.bx; assumption; rfl) | (apply Bx.get00; assumption; rfl) | (apply Bx.getAt; assumption; rfl) | (apply Bx.get0; assumption; rfl) | (apply Bx.get; assumption; rfl) | (apply Bx.get0; apply Blk.bx; assumption; rfl) | (apply Bx.get; apply Blk.bx; assumption; rfl) | apply And.intro)), by (repeat' (first | (apply Bx.get0f; apply Blk.bx; assumption; rfl) | (apply Bx.get0f; apply Blk.bx; apply KRep.b; assumption; rfl) | (apply Bx.get0f; assumption; rfl) | (apply Bx.get00; apply Blk.bx; apply KRep.b; assumption; rfl) | (apply Bx.get0; apply Blk.bx; apply KRep.b; assumption; rfl) | (apply Bx.get00; apply Blk.bx; assumption; rfl) | (apply Bx.get00; assumption; rfl) | (apply Bx.getAt; assumption; rfl) | (apply Bx.get0; assumption; rfl) | (apply Bx.get; assumption; rfl) | (apply Bx.get0; apply Blk.bx; assumption; rfl) | (apply Bx.get; apply Blk.bx; assumption; rfl) | apply And.intro)), by (repeat' (first | (apply Bx.get0f; apply Blk.bx; assumption; rfl) | (apply Bx.get0f; apply Blk.bx; apply KRep.b; assumption; rfl) | (apply Bx.get0f; assumption; rfl) | (apply Bx.get00; apply Blk.bx; apply KRep.b; assumption; rfl) | (apply Bx.get0; apply Blk.bx; apply KRep.b; assumption; rfl) | (apply Bx.get00; apply Blk.bx; assumption; rfl) | (apply Bx.get00; assumption; rfl) | (apply Bx.getAt; assumption; rfl) | (apply Bx.get0; assumption; rfl) | (apply Bx.get; assumption; rfl) | (apply Bx.get0; apply Blk.bx; assumption; rfl) | (apply Bx.get; apply Blk.bx; assumption; rfl) | apply And.intro)), by (repeat' (first | (apply Bx.get0f; apply Blk.bx; assumption; rfl) | (apply Bx.get0f; apply Blk.bx; apply KRep.b; assumption; rfl) | (apply Bx.get0f; assumption; rfl) | (apply Bx.get00; apply Blk.bx; apply KRep.b; assumption; rfl) | (apply Bx.get0; apply Blk.bx; apply KRep.b; assumption; rfl) | (apply Bx.get00; apply Blk.bx; assumption; rfl) | (apply Bx.get00; assumption; rfl) | (apply Bx.getAt; assumption; rfl) | (apply Bx.get0; assumption; rfl) | (apply Bx.get; assumption; rfl) | (apply Bx.get0; apply Blk.bx; assumption; rfl) | (apply Bx.get; apply Blk.bx; assumption; rfl) | apply And.intro)), by (repeat' (first | (apply Bx.get0f; apply Blk.bx; assumption; rfl) | (apply Bx.get0f; apply Blk.bx; apply KRep.b; assumption; rfl) | (apply Bx.get0f; assumption; rfl) | (apply Bx.get00; apply Blk.bx; apply KRep.b; assumption; rfl) | (apply Bx.get0; apply Blk.bx; apply KRep.b; assumption; rfl) | (apply Bx.get00; apply Blk.bx; assumption; rfl) | (apply Bx.get00; assumption; rfl) | (apply Bx.getAt; assumption; rfl) | (apply Bx.get0; assumption; rfl) | (apply Bx.get; assumption; rfl) | (apply Bx.get0; apply Blk.bx; assumption; rfl) | (apply Bx.get; apply Blk.bx; assumption; rfl) | apply And.intro)), ?_⟩
  have hh := locksList_spec h.p.lk ok.heldl
  refine hh.imp1 ?_
  rintro sH w3 ⟨o3, rH, u3⟩
  have h := h.upno u3
  have k1 := k1.up u3 rfl
  have rL := rL.up u3 rfl
  have U := U.trans u3.of_no
  have hjb : Bx w3 b1 0 j.l := k1.bx
  refine ⟨by (repeat' (first | (apply Bx.get0f; apply Blk.bx; assumption; rfl) | (apply Bx.get0f; apply Blk.bx; apply KRep.b; assumption; rfl) | (apply Bx.get0f; assumption; rfl) | (apply Bx.get00; apply Blk.bx; apply KRep.b; assumption; rfl) | (apply Bx.get0; apply Blk.bx; apply KRep.b; assumption; rfl) | (apply Bx.get00; apply Blk.bx; assumption; rfl) | (apply Bx.get00; assumption; rfl) | (apply Bx.getAt; assumption; rfl) | (apply Bx.get0; assumption; rfl) | (apply Bx.get; assumption; rfl) | (apply Bx.get0; apply Blk.bx; assumption; rfl) | (apply Bx.get; apply Blk.bx; assumption; rfl) | apply And.intro)), by (repeat' (first | (apply Bx.get0f; apply Blk.bx; assumption; rfl) | (apply Bx.get0f; apply Blk.bx; apply KRep.b; assumption; rfl) | (apply Bx.get0f; assumption; rfl) | (apply Bx.get00; apply Blk.bx; apply KRep.b; assumption; rfl) | (apply Bx.get0; apply Blk.bx; apply KRep.b; assumption; rfl) | (apply Bx.get00; apply Blk.bx; assumption; rfl) | (apply Bx.get00; assumption; rfl) | (apply Bx.getAt; assumption; rfl) | (apply Bx.get0; assumption; rfl) | (apply Bx.get; assumption; rfl) | (apply Bx.get0; apply Blk.bx; assumption; rfl) | (apply Bx.get; apply Blk.bx; assumption; rfl) | apply And.intro)), by (repeat' (first | (apply Bx.get0f; apply Blk.bx; assumption; rfl) | (apply Bx.get0f; apply Blk.bx; apply KRep.b; assumption; rfl) | (apply Bx.get0f; assumption; rfl) | (apply Bx.get00; apply Blk.bx; apply KRep.b; assumption; rfl) | (apply Bx.get0; apply Blk.bx; apply KRep.b; assumption; rfl) | (apply Bx.get00; apply Blk.bx; assumption; rfl) | (apply Bx.get00; assumption; rfl) | (apply Bx.getAt; assumption; rfl) | (apply Bx.get0; assumption; rfl) | (apply Bx.get; assumption; rfl) | (apply Bx.get0; apply Blk.bx; assumption; rfl) | (apply Bx.get; apply Blk.bx; assumption; rfl) | apply And.intro)), by (repeat' (first | (apply Bx.get0f; apply Blk.bx; assumption; rfl) | (apply Bx.get0f; apply Blk.bx; apply KRep.b; assumption; rfl) | (apply Bx.get0f; assumption; rfl) | (apply Bx.get00; apply Blk.bx; apply KRep.b; assumption; rfl) | (apply Bx.get0; apply Blk.bx; apply KRep.b; assumption; rfl) | (apply Bx.get00; apply Blk.bx; assumption; rfl) | (apply Bx.get00; assumption; rfl) | (apply Bx.getAt; assumption; rfl) | (apply Bx.get0; assumption; rfl) | (apply Bx.get; assumption; rfl) | (apply Bx.get0; apply Blk.bx; assumption; rfl) | (apply Bx.get; apply Blk.bx; assumption; rfl) | apply And.intro)), by (repeat' (first | (apply Bx.get0f; apply Blk.bx; assumption; rfl) | (apply Bx.get0f; apply Blk.bx; apply KRep.b; assumption; rfl) | (apply Bx.get0f; assumption; rfl) | (apply Bx.get00; apply Blk.bx; apply KRep.b; assumption; rfl) | (apply Bx.get0; apply Blk.bx; apply KRep.b; assumption; rfl) | (apply Bx.get00; apply Blk.bx; assumption; rfl) | (apply Bx.get00; assumption; rfl) | (apply Bx.getAt; assumption; rfl) | (apply Bx.get0; assumption; rfl) | (apply Bx.get; assumption; rfl) | (apply Bx.get0; apply Blk.bx; assumption; rfl) | (apply Bx.get; apply Blk.bx; assumption; rfl) | apply And.intro)), by (repeat' (first | (apply Bx.get0f; apply Blk.bx; assumption; rfl) | (apply Bx.get0f; apply Blk.bx; apply KRep.b; assumption; rfl) | (apply Bx.get0f; assumption; rfl) | (apply Bx.get00; apply Blk.bx; apply KRep.b; assumption; rfl) | (apply Bx.get0; apply Blk.bx; apply KRep.b; assumption; rfl) | (apply Bx.get00; apply Blk.bx; assumption; rfl) | (apply Bx.get00; assumption; rfl) | (apply Bx.getAt; assumption; rfl) | (apply Bx.get0; assumption; rfl) | (apply Bx.get; assumption; rfl) | (apply Bx.get0; apply Blk.bx; assumption; rfl) | (apply Bx.get; apply Blk.bx; assumption; rfl) | apply And.intro)), ?_⟩
  have hT6 := ok.T
  have hN6 := ok.N
  have hs := sleast_spec (now := s.now) j.deadline h.p.mR ok.crit h.p.TS h.p.N.rl rL rH (by dsimp only; omega) (fun x hx => by have := ok.held x hx; dsimp only; omega) (by dsimp only; omega)
  refine hs.imp1 ?_
  rintro n1 w4 ⟨u4, hn1'⟩
  have h := h.below u4
  have k1 := k1.up (C := no) (o' := o3) (Up.of_below u4) rfl
  have U := U.trans (Up.of_below u4)
  refine ⟨by (repeat' (first | (apply Bx.get0f; apply Blk.bx; assumption; rfl) | (apply Bx.get0f; apply Blk.bx; apply KRep.b; assumption; rfl) | (apply Bx.get0f; assumption; rfl) | (apply Bx.get00; apply Blk.bx; apply KRep.b; assumption; rfl) | (apply Bx.get0; apply Blk.bx; apply KRep.b; assumption; rfl) | (apply Bx.get00; apply Blk.bx; assumption; rfl) | (apply Bx.get00; assumption; rfl) | (apply Bx.getAt; assumption; rfl) | (apply Bx.get0; assumption; rfl) | (apply Bx.get; assumption; rfl) | (apply Bx.get0; apply Blk.bx; assumption; rfl) | (apply Bx.get; apply Blk.bx; assumption; rfl) | apply And.intro)), by (repeat' (first | (apply Bx.get0f; apply Blk.bx; assumption; rfl) | (apply Bx.get0f; apply Blk.bx; apply KRep.b; assumption; rfl) | (apply Bx.get0f; assumption; rfl) | (apply Bx.get00; apply Blk.bx; apply KRep.b; assumption; rfl) | (apply Bx.get0; apply Blk.bx; apply KRep.b; assumption; rfl) | (apply Bx.get00; apply Blk.bx; assumption; rfl) | (apply Bx.get00; assumption; rfl) | (apply Bx.getAt; assumption; rfl) | (apply Bx.get0; assumption; rfl) | (apply Bx.get; assumption; rfl) | (apply Bx.get0; apply Blk.bx; assumption; rfl) | (apply Bx.get; apply Blk.bx; assumption; rfl) | apply And.intro)), ?_⟩
  have ud4 : Up no o3 w4 o3 w4.drew := .drew
  have h := h.upno ud4
  have k1 := k1.up ud4 rfl
  have U := U.trans ud4.of_no
  refine WA (h.b.ldP (WA (h.b.bx.ld (x := s.policy) rfl (k1.bx.ld (x := j.left) rfl (WA (h.b.bx.ld (x := s.level) rfl ?_))))))
  have hst := static_spec h ok.crit (by dsimp only; omega) (by dsimp only; omega) (by dsimp only; rw [ok.U, ok.T]) ok.per
  refine hst.imp1 ?_
  rintro n2 w5 ⟨_, o5, u5⟩
  have h := h.up60 u5
  have k1 := k1.up u5 rfl
  have U := U.trans (u5.mono fun d hd => by simp at hd; exact hd.2)
  have hjb : Bx w5 b1 0 j.l := k1.bx
  refine ⟨by (repeat' (first | (apply Bx.get0f; apply Blk.bx; assumption; rfl) | (apply Bx.get0f; apply Blk.bx; apply KRep.b; assumption; rfl) | (apply Bx.get0f; assumption; rfl) | (apply Bx.get00; apply Blk.bx; apply KRep.b; assumption; rfl) | (apply Bx.get0; apply Blk.bx; apply KRep.b; assumption; rfl) | (apply Bx.get00; apply Blk.bx; assumption; rfl) | (apply Bx.get00; assumption; rfl) | (apply Bx.getAt; assumption; rfl) | (apply Bx.get0; assumption; rfl) | (apply Bx.get; assumption; rfl) | (apply Bx.get0; apply Blk.bx; assumption; rfl) | (apply Bx.get; apply Blk.bx; assumption; rfl) | apply And.intro)), by (repeat' (first | (apply Bx.get0f; apply Blk.bx; assumption; rfl) | (apply Bx.get0f; apply Blk.bx; apply KRep.b; assumption; rfl) | (apply Bx.get0f; assumption; rfl) | (apply Bx.get00; apply Blk.bx; apply KRep.b; assumption; rfl) | (apply Bx.get0; apply Blk.bx; apply KRep.b; assumption; rfl) | (apply Bx.get00; apply Blk.bx; assumption; rfl) | (apply Bx.get00; assumption; rfl) | (apply Bx.getAt; assumption; rfl) | (apply Bx.get0; assumption; rfl) | (apply Bx.get; assumption; rfl) | (apply Bx.get0; apply Blk.bx; assumption; rfl) | (apply Bx.get; apply Blk.bx; assumption; rfl) | apply And.intro)), by (repeat' (first | (apply Bx.get0f; apply Blk.bx; assumption; rfl) | (apply Bx.get0f; apply Blk.bx; apply KRep.b; assumption; rfl) | (apply Bx.get0f; assumption; rfl) | (apply Bx.get00; apply Blk.bx; apply KRep.b; assumption; rfl) | (apply Bx.get0; apply Blk.bx; apply KRep.b; assumption; rfl) | (apply Bx.get00; apply Blk.bx; assumption; rfl) | (apply Bx.get00; assumption; rfl) | (apply Bx.getAt; assumption; rfl) | (apply Bx.get0; assumption; rfl) | (apply Bx.get; assumption; rfl) | (apply Bx.get0; apply Blk.bx; assumption; rfl) | (apply Bx.get; apply Blk.bx; assumption; rfl) | apply And.intro)), by (repeat' (first | (apply Bx.get0f; apply Blk.bx; assumption; rfl) | (apply Bx.get0f; apply Blk.bx; apply KRep.b; assumption; rfl) | (apply Bx.get0f; assumption; rfl) | (apply Bx.get00; apply Blk.bx; apply KRep.b; assumption; rfl) | (apply Bx.get0; apply Blk.bx; apply KRep.b; assumption; rfl) | (apply Bx.get00; apply Blk.bx; assumption; rfl) | (apply Bx.get00; assumption; rfl) | (apply Bx.getAt; assumption; rfl) | (apply Bx.get0; assumption; rfl) | (apply Bx.get; assumption; rfl) | (apply Bx.get0; apply Blk.bx; assumption; rfl) | (apply Bx.get; apply Blk.bx; assumption; rfl) | apply And.intro)), ?_⟩
  have hg := gchoose_spec h.p.mR ok.crit s.policy n2 j.left n1 s.level
  refine hg.imp1 ?_
  rintro n w6 ⟨u6, hn0, hn1, hn2, hn3⟩
  have hn2 : (s.policy = 0 → n = 0) ∧ TimeOk m s j n := ⟨hn2, fun hp => ⟨L, n1, hL, hn3 hp, hn1'⟩⟩
  have h := h.below u6
  have U := U.trans (Up.of_below u6)
  refine WA (h.b.bx.ld (x := s.level) rfl (If_eq (fun e => ?_) fun e => ?_))
  · exact hK _ _ _ ⟨n, hn0, hn1, hn2, .inl ⟨e, rfl, rfl⟩⟩ ⟨q, o5, h, U⟩
  · refine WA (h.b.st (f := 10) (vs := [.int .i64 n]) (show 10 + 1 ≤ 34 by decide) fun w7 hb u7 => ?_)
    have hp := h.p.up1 u7
    have U := U.trans (u7.k1 (by omega)).k60
    have h : KRep o5 w7 m a q { s with ended := false, level := n } := ⟨hb, ⟨hp.mR, hp.T, hp.TR, hp.N, hp.U, hp.S, hp.D, hp.X, hp.E, hp.C, hp.set, hp.lk, hp.la, hp.ti, hp.tr⟩⟩
    refine WA (h.b.bx.ld0 (x := m.p.switch) rfl ?_)
    have hd := did_spec h ok.trace 3 m.p.switch n 0 0
    refine hd.imp0 ?_
    rintro w8 ⟨q8, o8, h8, u8⟩
    exact hK _ _ _ ⟨n, hn0, hn1, hn2, .inr ⟨e, rfl, rfl⟩⟩ ⟨q8, o8, h8, U.trans u8.k60⟩
theorem choose_spec (h : KRep o w m a q s) (ok : KOk m s) (j : Job) (h0 : 0 ≤ j.task) (h1 : j.task < 6) : Call P 165 [vP a, j.v] [sB] (fun b w' => ∃ s', ChooseR m s j b s' ∧ ∃ q' o', KRep o' w' m a q' s' ∧ Up (fun d => kc d || l60 d) o w o' w') w := by
  refine f165_of _ _ (New_blk o 90 fun b1 o1 w1 k1 u1 hb1 => ?_)
  have h := h.upno u1
  have U : Up (fun d => kc d || l60 d) o w o1 w1 := u1.of_no
  refine k1.bx.ld (c := .kb) (x := j.started) rfl (If_not (If_b (fun hs => ?_) fun hs => ?_))
  · refine chooseTail_of h ok.toKOk0 k1 (K := fun b w' => ∃ s', ChooseR m s j b s' ∧ ∃ q' o', KRep o' w' m a q' s' ∧ Up (fun d => kc d || l60 d) o w o' w') fun b s' w' ⟨n, hn0, hn1, hn2, hor⟩ ⟨q', o', h', u'⟩ => ⟨s', ⟨n, hn0, hn1, ⟨hn2.1, by unfold startS; rw [if_pos hs]; exact hn2.2⟩, ?_⟩, q', o', h', U.trans u'⟩
    dsimp only
    rw [if_pos hs]
    exact hor
  · refine k1.wr (f := 5) (vs := [.bool true]) (by simp) fun w2 k2 hw => ?_
    have u2 := hw.up k1.own
    have hkb := h.b.up u2 rfl
    have hkp := h.p.up u2 fun d hd => by simp [kcols] at hd; simp [only]; omega
    have U : Up (fun d => kc d || l60 d) o w o1 w2 := U.wr hw (by rw [hb1]; exact Nat.le_refl _)
    have ud : Up no o1 w2 o1 w2.drew := .drew
    have h : KRep o1 w2.drew m a q s := ⟨hkb.up ud rfl, hkp.upno ud⟩
    have k1 : Blk o1 w2.drew 90 b1 (.cells ({ j with started := true } : Job).l.toArray 50 (0, 0)) := k2.up ud rfl
    have U := U.trans ud.of_no
    refine WA (h.b.bx.ld (x := some ⟨q.set, 0, none⟩) rfl (k1.bx.ldJob (x := { j with started := true }) ?_))
    have hput := put_spec h.p.set (by decide) { j with started := true } h0 (by dsimp only; omega)
    refine hput.imp0 ?_
    rintro w3 ⟨o3, set3, u3⟩
    have ud3 : Up no o3 w3 o3 w3.drew := .drew
    have hb := (h.b.up u3 rfl).up ud3 rfl
    have hp := (h.p.chJ set3 u3 fun d hd => rng_no hd).upno ud3
    have k1 := (k1.up u3 rfl).up ud3 rfl
    have U := (U.trans (u3.krng (by omega)).k60).trans ud3.of_no
    refine WA (hb.bx.ld (x := q.ss) rfl (k1.bx.ld (x := j.task) rfl (New_blk o3 91 fun b4 o4 w4 k4 u4 _ => ?_)))
    have hb := hb.up u4 rfl
    have hp := hp.upno u4
    have k1 := k1.up u4 rfl
    have U := U.trans u4.of_no
    have hst := ok.stack
    refine ⟨by (repeat' (first | (apply Bx.get0f; apply Blk.bx; assumption; rfl) | (apply Bx.get0f; apply Blk.bx; apply KRep.b; assumption; rfl) | (apply Bx.get0f; assumption; rfl) | (apply Bx.get00; apply Blk.bx; apply KRep.b; assumption; rfl) | (apply Bx.get0; apply Blk.bx; apply KRep.b; assumption; rfl) | (apply Bx.get00; apply Blk.bx; assumption; rfl) | (apply Bx.get00; assumption; rfl) | (apply Bx.getAt; assumption; rfl) | (apply Bx.get0; assumption; rfl) | (apply Bx.get; assumption; rfl) | (apply Bx.get0; apply Blk.bx; assumption; rfl) | (apply Bx.get; apply Blk.bx; assumption; rfl) | apply And.intro)), RowL.app (x := j.task) etInt 35 hp.S (k4.rd1 rfl) rfl (by dsimp only; omega) (by unfold maxLen; dsimp only; omega) fun s5 o5 w5 r5 u5 => ?_⟩
    have hb := hb.up u5 rfl
    have hp := hp.chS r5 u5 fun d hd => one_no hd
    have k1 := k1.up u5 rfl
    have U := U.trans (u5.k1 (by omega)).k60
    refine ⟨by (repeat' (first | (apply Bx.get0f; apply Blk.bx; assumption; rfl) | (apply Bx.get0f; apply Blk.bx; apply KRep.b; assumption; rfl) | (apply Bx.get0f; assumption; rfl) | (apply Bx.get00; apply Blk.bx; apply KRep.b; assumption; rfl) | (apply Bx.get0; apply Blk.bx; apply KRep.b; assumption; rfl) | (apply Bx.get00; apply Blk.bx; assumption; rfl) | (apply Bx.get00; assumption; rfl) | (apply Bx.getAt; assumption; rfl) | (apply Bx.get0; assumption; rfl) | (apply Bx.get; assumption; rfl) | (apply Bx.get0; apply Blk.bx; assumption; rfl) | (apply Bx.get; apply Blk.bx; assumption; rfl) | apply And.intro)), WA (hb.st (f := 18) (vs := [vS s5]) (show 18 + 1 ≤ 34 by decide) fun w6 hb u6 => ?_)⟩
    have hp := hp.up1 u6
    have k1 := k1.up u6 rfl
    have U := U.trans (u6.k1 (by omega)).k60
    have h : KRep o5 w6 m a { q with ss := s5 } { s with jobs := upd s.jobs j.task (some { j with started := true }), stack := s.stack ++ [j.task] } := ⟨hb, hp⟩
    refine chooseTail_of h ⟨ok.crit, ok.T, ok.N, ok.U, ok.D, ok.X, ok.per, ok.held, ok.heldl, ok.lev, ok.trace, ok.events⟩ k1 (K := fun b w' => ∃ s', ChooseR m s j b s' ∧ ∃ q' o', KRep o' w' m a q' s' ∧ Up (fun d => kc d || l60 d) o w o' w') fun b s' w' ⟨n, hn0, hn1, hn2, hor⟩ ⟨q', o', h', u'⟩ => ⟨s', ⟨n, hn0, hn1, ⟨hn2.1, by unfold startS; rw [if_neg (by rw [hs]; decide)]; exact hn2.2⟩, ?_⟩, q', o', h', U.trans u'⟩
    dsimp only
    rw [if_neg (by rw [hs]; decide)]
    exact hor
end
end Go.Proofs.YtajilfnceoeaiaaGreat.V
