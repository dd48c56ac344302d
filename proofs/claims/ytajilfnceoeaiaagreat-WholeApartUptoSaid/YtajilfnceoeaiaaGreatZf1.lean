/- Parts of the proof: WholeApart: the function returns true. -/
import Derived.Test.YtajilfnceoeaiaaGreatZf0
set_option linter.unusedVariables false
set_option linter.unusedSimpArgs false
/- WholeApart: the function returns true. -/
namespace Go.Proofs.YtajilfnceoeaiaaGreat.V
open Go Go.RowKit Enc
set_option maxRecDepth 100000
theorem known_spec (n : Int) (w : World) : Call P 18 [.int .i64 n] [sB] (fun b w' => w' = w ∧ (b = true ↔ 0 ≤ n ∧ n < 6)) w :=
  f18_of _ (If_d (fun h => ⟨rfl, by simp; omega⟩) fun h => ⟨rfl, ⟨fun h => absurd h (by decide), fun g => absurd g.1 h⟩⟩)
theorem ap_bad (F per : Int → Int) : ∀ (E : List Event) (x : Ap), x.ok = false → (E.foldl (apOne F per) x).ok = false
  | [], x, h => h
  | e :: E, x, h => by
    refine ap_bad F per E _ ?_
    unfold apOne
    split
    · simp [h]
    · exact h
theorem ap_take (F per D : Int → Int) (E : List Event) (j : Nat) (h : (apAll F per D E).ok = true) : (apAll F per D (E.take j)).ok = true := by
  cases hb : (apAll F per D (E.take j)).ok with
  | true => rfl
  | false =>
    have hs : apAll F per D E = (E.drop j).foldl (apOne F per) (apAll F per D (E.take j)) := by
      unfold apAll
      rw [← List.foldl_append, List.take_append_drop]
    rw [hs, ap_bad F per _ _ hb] at h
    cases h
/-- An array of six numbers. -/
def arrC (F : Int → Int) : List Value := [.int .i64 (F 0), .int .i64 (F 1), .int .i64 (F 2), .int .i64 (F 3), .int .i64 (F 4), .int .i64 (F 5)]
section
variable {o : Own} {w : World} {c b : Nat} {F : Int → Int} {t : TypeId}
theorem arr_ld (k : Blk o w c b (.cells (arrC F).toArray t (0, 0))) {n : Int} (h0 : 0 ≤ n) (h6 : n < 6) {K : Int → World → Prop} (hk : K (F n) w) : Ld (.ki .i64) ((⟨b, 0, none⟩ : Addr).add (Int.toNat n * 1)) K w := by
  have : n = 0 ∨ n = 1 ∨ n = 2 ∨ n = 3 ∨ n = 4 ∨ n = 5 := by omega
  rcases this with rfl | rfl | rfl | rfl | rfl | rfl
  · exact k.bx.ld (f := 0) (c := .ki .i64) (x := F 0) rfl hk
  · exact k.bx.ld (f := 1) (c := .ki .i64) (x := F 1) rfl hk
  · exact k.bx.ld (f := 2) (c := .ki .i64) (x := F 2) rfl hk
  · exact k.bx.ld (f := 3) (c := .ki .i64) (x := F 3) rfl hk
  · exact k.bx.ld (f := 4) (c := .ki .i64) (x := F 4) rfl hk
  · exact k.bx.ld (f := 5) (c := .ki .i64) (x := F 5) rfl hk
theorem arr_st (k : Blk o w c b (.cells (arrC F).toArray t (0, 0))) {n : Int} (h0 : 0 ≤ n) (h6 : n < 6) {v : Int} {K : World → Prop} (hk : ∀ w', Blk o w' c b (.cells (arrC (upd F n v)).toArray t (0, 0)) → Wr b w w' → K w') : StN [.int .i64 v] 0 ((⟨b, 0, none⟩ : Addr).add (Int.toNat n * 1)) K w := by
  have : n = 0 ∨ n = 1 ∨ n = 2 ∨ n = 3 ∨ n = 4 ∨ n = 5 := by omega
  rcases this with rfl | rfl | rfl | rfl | rfl | rfl
  · exact k.wr (f := 0) (vs := [.int .i64 v]) (by simp [arrC]) fun w' k' u => hk w' k' u
  · exact k.wr (f := 1) (vs := [.int .i64 v]) (by simp [arrC]) fun w' k' u => hk w' k' u
  · exact k.wr (f := 2) (vs := [.int .i64 v]) (by simp [arrC]) fun w' k' u => hk w' k' u
  · exact k.wr (f := 3) (vs := [.int .i64 v]) (by simp [arrC]) fun w' k' u => hk w' k' u
  · exact k.wr (f := 4) (vs := [.int .i64 v]) (by simp [arrC]) fun w' k' u => hk w' k' u
  · exact k.wr (f := 5) (vs := [.int .i64 v]) (by simp [arrC]) fun w' k' u => hk w' k' u
end
def apTail (p11 : Option Addr) (a22 a23 : Addr) (n24 n25 : Int) (v28 : World) (I26 : Int → Int → World → Prop) (M27 : Int → Int → World → Nat) (K : Bool → World → Prop) (w : World) : Prop :=
 Call P 16 [.pointer p11] [sS] (fun s81 w =>
 Call P 19 [.pointer p11] [sS] (fun s82 w =>
 ∃ (I84 : Int → World → Prop) (M85 : Int → World → Nat), I84 n24 w ∧ ∀ (n83 : Int) (v86 : World), I84 n83 v86 → ∀ _ : Nat → Value,
 (fun w : World =>
 If (decide (n83 < ((s81.n : Nat) : Int))) (
 ((0 : Int) ≤ n83 ∧ n83 < ((s81.n : Nat) : Int)) ∧ WithAddr s81.a fun a87 =>
 Ld (.ki .i64) ((a87.add (Int.toNat n83 * 4)).add 1) (fun n88 w =>
 ((0 : Int) ≤ n83 ∧ n83 < ((s81.n : Nat) : Int)) ∧ WithAddr s81.a fun a89 =>
 Ld (.ki .i64) ((a89.add (Int.toNat n83 * 4)).add 0) (fun n90 w =>
 If (n90 != 1) (
 I84 (IntKind.wrap .i64 (n83 + 1)) w ∧ M85 (IntKind.wrap .i64 (n83 + 1)) w < M85 n83 v86) (
 (fun w : World =>
 Call P 18 [.int .i64 n88] [sB] (fun b91 w =>
 If (!b91) (
 K false w) (
 If (decide (n88 ≥ ((s82.n : Nat) : Int))) (
 K false w) (
 ((0 : Int) ≤ n83 ∧ n83 < ((s81.n : Nat) : Int)) ∧ WithAddr s81.a fun a92 =>
 Ld (.ki .i64) ((a92.add (Int.toNat n83 * 4)).add 2) (fun n93 w =>
 ((0 : Int) ≤ n88 ∧ n88 < ((6 : Nat) : Int)) ∧ Ld (.ki .i64) (a23.add (Int.toNat n88 * 1)) (fun n94 w =>
 If (decide (n93 < n94)) (
 K false w) (
 ((0 : Int) ≤ n83 ∧ n83 < ((s81.n : Nat) : Int)) ∧ WithAddr s81.a fun a95 =>
 Ld (.ki .i64) ((a95.add (Int.toNat n83 * 4)).add 2) (fun n96 w =>
 ((0 : Int) ≤ n88 ∧ n88 < ((6 : Nat) : Int)) ∧ Ld (.ki .i64) (a22.add (Int.toNat n88 * 1)) (fun n97 w =>
 If (n96 != n97) (
 K false w) (
 ((0 : Int) ≤ n83 ∧ n83 < ((s81.n : Nat) : Int)) ∧ WithAddr s81.a fun a98 =>
 Ld (.ki .i64) ((a98.add (Int.toNat n83 * 4)).add 3) (fun n99 w =>
 ((0 : Int) ≤ n83 ∧ n83 < ((s81.n : Nat) : Int)) ∧ WithAddr s81.a fun a100 =>
 Ld (.ki .i64) ((a100.add (Int.toNat n83 * 4)).add 2) (fun n101 w =>
 ((0 : Int) ≤ n88 ∧ n88 < ((s82.n : Nat) : Int)) ∧ WithAddr s82.a fun a102 =>
 Ld (.ki .i64) ((a102.add (Int.toNat n88 * 4)).add 0) (fun n103 w =>
 If (n99 != (IntKind.wrap .i64 (n101 + n103))) (
 K false w) (
 ((0 : Int) ≤ n83 ∧ n83 < ((s81.n : Nat) : Int)) ∧ WithAddr s81.a fun a104 =>
 Ld (.ki .i64) ((a104.add (Int.toNat n83 * 4)).add 3) (fun n105 w =>
 ((0 : Int) ≤ n88 ∧ n88 < ((6 : Nat) : Int)) ∧ StN [.int .i64 n105] 0 (a23.add (Int.toNat n88 * 1)) (fun w =>
 I84 (IntKind.wrap .i64 (n83 + 1)) w ∧ M85 (IntKind.wrap .i64 (n83 + 1)) w < M85 n83 v86) w) w)) w) w) w)) w) w)) w) w))) w) w.drew)) w) w) (
 I26 n83 (IntKind.wrap .i64 (n25 + 1)) w ∧ M27 n83 (IntKind.wrap .i64 (n25 + 1)) w < M27 n24 n25 v28)) v86) w) w
section
variable {o : Own} {w : World} {m : Mach} {a : Nat} {q : KPtr} {s : KS} {F D : Int → Int}
/-- Looking through what happened in one step. -/
theorem apTail_of {A B : Nat} (h : KRep o w m a q s) (iv : KInv m A B s) {b2 b3 k0 : Nat} (hw : ApW F (perZ s.T) D k0 s) (k2 : Blk o w 92 b2 (.cells (arrC F).toArray 52 (0, 0))) (k3 : Blk o w 93 b3 (.cells (arrC D).toArray 52 (0, 0))) {n25 : Int} {v28 : World} {I26 : Int → Int → World → Prop} {M27 : Int → Int → World → Nat} {K : Bool → World → Prop}
    (hK : ∀ o' w' D', KRep o' w' m a q s → ApS F D' s → Blk o' w' 92 b2 (.cells (arrC F).toArray 52 (0, 0)) → Blk o' w' 93 b3 (.cells (arrC D').toArray 52 (0, 0)) → Up (fun d => l60 d || only [93] d) o w o' w' → I26 (s.events.length : Nat) (wz (n25 + 1)) w' ∧ M27 (s.events.length : Nat) (wz (n25 + 1)) w' < M27 (k0 : Nat) n25 v28) :
    apTail (some ⟨a, 0, none⟩) ⟨b2, 0, none⟩ ⟨b3, 0, none⟩ (k0 : Nat) n25 v28 I26 M27 K w := by
  have hel := iv.events
  unfold bigN at hel
  have hev := events_spec h iv.events
  refine hev.imp1 ?_
  rintro s1 w1 ⟨o1, r1, u1⟩
  have h := h.upno u1
  have k2 := k2.up u1 rfl
  have k3 := k3.up u1 rfl
  have hn1 := r1.n
  have hts := tasks_spec 60 (by decide) h (by rw [iv.T]; decide) (fun x hx => by have := iv.sec x hx; omega)
  refine hts.imp1 ?_
  rintro s2 w2 ⟨T, o2, hT, hTl, hsame, u2⟩
  have h := h.up60 (u2.l6 (by decide))
  have k2 := k2.up u2 rfl
  have k3 := k3.up u2 rfl
  have r1 := r1.up u2 rfl
  have U : Up (fun d => l60 d || only [93] d) o w o2 w2 := (u1.of_no.trans (u2.l6 (by decide))).mono fun d hd => by simp at hd; exact hd.1
  have hT6 := iv.T
  have hTn := hT.rl.n
  rw [List.length_map] at hTn
  have hlen := hw.len
  refine ⟨fun i w' => ∃ (j : Nat) (o' : Own), i = j ∧ k0 ≤ j ∧ j ≤ s.events.length ∧ KRep o' w' m a q s ∧ RL o' w' 0 s1 s.events ∧ TasksR o' w' 60 s2 T ∧ Blk o' w' 92 b2 (.cells (arrC F).toArray 52 (0, 0)) ∧ Blk o' w' 93 b3 (.cells (arrC (apAll F (perZ s.T) D ((s.events.drop k0).take (j - k0))).D).toArray 52 (0, 0)) ∧ Up (fun d => l60 d || only [93] d) o w o' w',
    fun i _ => s.events.length - i.toNat, ⟨k0, o2, rfl, Nat.le_refl _, hlen, h, r1, hT, k2, by rw [Nat.sub_self, List.take_zero]; exact k3, U⟩, ?_⟩
  rintro i v ⟨j, o3, rfl, hj0, hj1, h, r1, hT, k2, k3, U⟩ _
  refine If_d (fun hlt => ?_) fun hlt => ?_
  · have hjl : j < s.events.length := by omega
    have hy : s.events[j]? = some s.events[j] := List.getElem?_eq_getElem hjl
    generalize s.events[j] = y at hy
    have hyd : (s.events.drop k0)[j - k0]? = some y := by
      rw [List.getElem?_drop, ← hy]
      congr 1
      omega
    have htk : (s.events.drop k0).take (j + 1 - k0) = (s.events.drop k0).take (j - k0) ++ [y] := by
      rw [← take_succ_get hyd]
      congr 1
      omega
    have hok := ap_take F (perZ s.T) D (s.events.drop k0) (j + 1 - k0) hw.ok
    rw [htk, apAll_snoc] at hok
    generalize hX : apAll F (perZ s.T) D ((s.events.drop k0).take (j - k0)) = X at *
    have hme : s.events.length - Int.toNat ((j : Int) + 1) < s.events.length - Int.toNat (j : Int) := by omega
    rw [wz_id (x := (j : Int) + 1) (by omega) (by omega)]
    refine r1.fld (f := 1) (e := .ki .i64) (y := y.task) rfl hy rfl rfl ?_
    refine r1.fld (f := 0) (e := .ki .i64) (y := y.kind) rfl hy rfl rfl ?_
    refine If_ne (fun e1 => ?_) fun e1 => ?_
    · refine ⟨⟨j + 1, o3, by omega, by omega, by omega, h, r1, hT, k2, ?_, U⟩, hme⟩
      have e1 : ¬ y.kind = 1 := e1
      rw [htk, apAll_snoc, hX]
      unfold apOne
      rw [if_neg e1]
      exact k3
    · have e1 : y.kind = 1 := e1
      have hone : apOne F (perZ s.T) X y = ⟨upd X.D y.task y.due, X.ok && ((decide (0 ≤ y.task) && decide (y.task < 6)) && ((decide (0 ≤ y.at_) && decide (y.at_ ≤ 17000)) && (decide (X.D y.task ≤ y.at_) && ((y.at_ == F y.task) && (y.due == y.at_ + perZ s.T y.task)))))⟩ := if_pos e1
      rw [hone] at hok
      simp only [Bool.and_eq_true, decide_eq_true_eq, beq_iff_eq] at hok
      obtain ⟨_, ⟨h0, h6⟩, ⟨hat0, hat1⟩, hD, hF, hdue⟩ := hok
      have ud : Up no o3 v o3 v.drew := .drew
      have h := h.upno ud
      have r1 := r1.up ud rfl
      have hT := hT.up ud rfl rfl
      have k2 := k2.up ud rfl
      have k3 := k3.up ud rfl
      have U := U.trans ud.of_no
      have hkn := known_spec y.task v.drew
      refine hkn.imp1 ?_
      rintro bb w4 ⟨rfl, hbb⟩
      have hbt := hbb.2 ⟨h0, h6⟩
      subst hbt
      refine If_not (If_t ?_)
      have hTn := hT.rl.n
      rw [List.length_map] at hTn
      refine If_d (c := y.task ≥ ((s2.n : Nat) : Int)) (fun e => by omega) fun _ => ?_
      refine r1.fld (f := 2) (e := .ki .i64) (y := y.at_) rfl hy rfl rfl ?_
      refine ⟨⟨h0, h6⟩, ?_⟩
      refine arr_ld k3 h0 h6 ?_
      refine If_d (c := y.at_ < X.D y.task) (fun e => absurd hD (Int.not_le.2 e)) fun _ => ?_
      refine r1.fld (f := 2) (e := .ki .i64) (y := y.at_) rfl hy rfl rfl ?_
      refine ⟨⟨h0, h6⟩, ?_⟩
      refine arr_ld k2 h0 h6 ?_
      refine If_ne (fun e => absurd hF e) fun _ => ?_
      refine r1.fld (f := 3) (e := .ki .i64) (y := y.due) rfl hy rfl rfl ?_
      refine r1.fld (f := 2) (e := .ki .i64) (y := y.at_) rfl hy rfl rfl ?_
      obtain ⟨i, hi⟩ : ∃ i : Nat, y.task = i := ⟨y.task.toNat, by omega⟩
      obtain ⟨z, hz⟩ : ∃ z, T[i]? = some z := ⟨T[i]'(by omega), List.getElem?_eq_getElem (by omega)⟩
      obtain ⟨z', hz'⟩ : ∃ z', s.T[i]? = some z' := ⟨s.T[i]'(by omega), List.getElem?_eq_getElem (by omega)⟩
      have hsz := hsame i z z' hz hz'
      have hpz : perZ s.T y.task = z.t.period := by
        unfold perZ
        rw [hi, Int.toNat_natCast, hz']
        exact hsz.1.symm
      have hzt : (T.map ATask.t)[i]? = some z.t := by rw [List.getElem?_map, hz]; rfl
      refine hT.rl.fld (f := 0) (e := .ki .i64) (y := z.t.period) hi hzt rfl rfl ?_
      have hzp := hw.st.tb z' (List.mem_of_getElem? hz')
      have hzq := iv.per z' (List.mem_of_getElem? hz')
      have hzz := hsz.1
      rw [wz_id (x := y.at_ + z.t.period) (by omega) (by omega)]
      refine If_ne (fun e => absurd (by rw [hdue, hpz]) e) fun _ => ?_
      refine r1.fld (f := 3) (e := .ki .i64) (y := y.due) rfl hy rfl rfl ?_
      refine ⟨⟨h0, h6⟩, ?_⟩
      refine arr_st k3 h0 h6 fun w5 k5 hw5 => ?_
      have u5 := hw5.up k3.own
      have u5' : Up (fun d => l60 d || only [93] d) o3 v.drew o3 w5 := u5.mono fun d hd => by simp at hd; exact hd.2
      refine ⟨⟨j + 1, o3, by omega, by omega, by omega, ⟨h.b.up u5 rfl, h.p.up u5 fun d hd => by simp [kcols] at hd; simp [only]; omega⟩, r1.up u5 rfl, hT.up u5 rfl rfl, k2.up u5 rfl, ?_, U.trans u5'⟩, hme⟩
      rw [htk, apAll_snoc, hX, hone]
      exact k5
  · have hje : j = s.events.length := by omega
    subst hje
    have htk : (s.events.drop k0).take (s.events.length - k0) = s.events.drop k0 := by
      rw [List.take_of_length_le]
      rw [List.length_drop]
      exact Nat.le_refl _
    rw [htk] at k3
    exact hK o3 v _ h hw.st k2 k3 U
end
def kq : Nat → Bool := fun d => kl d || only [90, 92, 93] d
theorem Up.kq1 {o o' : Own} {w w' : World} (u : Up kl o w o' w') : Up kq o w o' w' := u.mono fun d hd => by simp [kq] at hd; exact hd.1
theorem Up.kq2 {o o' : Own} {w w' : World} (u : Up (fun d => l60 d || only [93] d) o w o' w') : Up kq o w o' w' := u.mono fun d hd => by
  simp [kq, kl] at hd
  simp [hd.1.2]
  have := hd.2
  simp [only] at this ⊢
  omega
theorem Up.kq3 {o o' : Own} {w w' : World} (u : Up (only [92]) o w o' w') : Up kq o w o' w' := u.mono fun d hd => by
  simp [kq] at hd
  have := hd.2
  simp [only] at this ⊢
  omega
/-- Behind so many steps. -/
structure ApL (o1 : Own) (w1 : World) (m : Mach) (a : Nat) (st : Sl) (l : List ASt) (b2 b3 k : Nat) (o : Own) (w : World) (q : KPtr) (s : KS) (F D : Int → Int) : Prop where
  h : KRep o w m a q s
  iv : KInv m k (budB k) s
  ap : ApS F D s
  hs : StepsR o w st l
  k2 : Blk o w 92 b2 (.cells (arrC F).toArray 52 (0, 0))
  k3 : Blk o w 93 b3 (.cells (arrC D).toArray 52 (0, 0))
  U : Up kq o1 w1 o w
theorem ApL.upno {o1 : Own} {w1 : World} {m : Mach} {a : Nat} {st : Sl} {l : List ASt} {b2 b3 k : Nat} {o o' : Own} {w w' : World} {q : KPtr} {s : KS} {F D : Int → Int} (L : ApL o1 w1 m a st l b2 b3 k o w q s F D) (u : Up no o w o' w') : ApL o1 w1 m a st l b2 b3 k o' w' q s F D :=
  ⟨L.h.upno u, L.iv, L.ap, L.hs.up u rfl, L.k2.up u rfl, L.k3.up u rfl, L.U.trans u.of_no⟩
theorem ApL.wr90 {o1 : Own} {w1 : World} {m : Mach} {a : Nat} {st : Sl} {l : List ASt} {b2 b3 k b : Nat} {o : Own} {w w' : World} {q : KPtr} {s : KS} {F D : Int → Int} (L : ApL o1 w1 m a st l b2 b3 k o w q s F D) (hc : o b = 90) (hw : Wr b w w') : ApL o1 w1 m a st l b2 b3 k o w' q s F D :=
  have u := hw.up hc
  ⟨⟨L.h.b.up u rfl, L.h.p.up u fun d hd => by simp [kcols] at hd; simp [only]; omega⟩, L.iv, L.ap, L.hs.up u rfl, L.k2.up u rfl, L.k3.up u rfl, L.U.trans (u.mono fun d hd => by
    simp [kq] at hd
    have := hd.2
    simp [only] at this ⊢
    omega)⟩
def apBody (p11 : Option Addr) (a22 a23 : Addr) (n24 n25 : Int) (v28 : World) (I26 : Int → Int → World → Prop) (M27 : Int → Int → World → Nat) (K : Bool → World → Prop) (n38 : Int) (a39 : Addr) (w : World) : Prop :=
 Ld (.ki .i64) (a39.add 0) (fun n40 w =>
 If (n40 == 2) (
 I26 n24 (IntKind.wrap .i64 (n25 + 1)) w ∧ M27 n24 (IntKind.wrap .i64 (n25 + 1)) w < M27 n24 n25 v28) (
 LdN shStep.cs 0 a39 (fun n41 n42 n43 n44 n45 n46 s47 s48 w =>
 Call P 13 [.pointer p11, .agg #[.int .i64 n41, .int .i64 n42, .int .i64 n43, .int .i64 n44, .int .i64 n45, .int .i64 n46, .slice s47.a s47.n s47.c, .slice s48.a s48.n s48.c]] [sI, sI] (fun n49 n50 w =>
 Ld (.ki .i64) (a39.add 0) (fun n51 w =>
 If (n51 == 3) (
 If (n50 == 0) (
 Ld (.ki .i64) (a39.add 1) (fun n52 w =>
 Call P 18 [.int .i64 n52] [sB] (fun b53 w =>
 If (!b53) (
 K false w) (
 Ld (.ki .i64) (a39.add 1) (fun n54 w =>
 Ld (.ki .i64) (a39.add 2) (fun n55 w =>
 ((0 : Int) ≤ n54 ∧ n54 < ((6 : Nat) : Int)) ∧ StN [.int .i64 (IntKind.wrap .i64 (n38 + n55))] 0 (a22.add (Int.toNat n54 * 1)) (fun w =>
 Call P 16 [.pointer p11] [sS] (fun s56 w =>
 Call P 19 [.pointer p11] [sS] (fun s57 w =>
 ∃ (I59 : Int → World → Prop) (M60 : Int → World → Nat), I59 n24 w ∧ ∀ (n58 : Int) (v61 : World), I59 n58 v61 → ∀ _ : Nat → Value,
 (fun w : World =>
 If (decide (n58 < ((s56.n : Nat) : Int))) (
 ((0 : Int) ≤ n58 ∧ n58 < ((s56.n : Nat) : Int)) ∧ WithAddr s56.a fun a62 =>
 Ld (.ki .i64) ((a62.add (Int.toNat n58 * 4)).add 1) (fun n63 w =>
 ((0 : Int) ≤ n58 ∧ n58 < ((s56.n : Nat) : Int)) ∧ WithAddr s56.a fun a64 =>
 Ld (.ki .i64) ((a64.add (Int.toNat n58 * 4)).add 0) (fun n65 w =>
 If (n65 != 1) (
 I59 (IntKind.wrap .i64 (n58 + 1)) w ∧ M60 (IntKind.wrap .i64 (n58 + 1)) w < M60 n58 v61) (
 (fun w : World =>
 Call P 18 [.int .i64 n63] [sB] (fun b66 w =>
 If (!b66) (
 K false w) (
 If (decide (n63 ≥ ((s57.n : Nat) : Int))) (
 K false w) (
 ((0 : Int) ≤ n58 ∧ n58 < ((s56.n : Nat) : Int)) ∧ WithAddr s56.a fun a67 =>
 Ld (.ki .i64) ((a67.add (Int.toNat n58 * 4)).add 2) (fun n68 w =>
 ((0 : Int) ≤ n63 ∧ n63 < ((6 : Nat) : Int)) ∧ Ld (.ki .i64) (a23.add (Int.toNat n63 * 1)) (fun n69 w =>
 If (decide (n68 < n69)) (
 K false w) (
 ((0 : Int) ≤ n58 ∧ n58 < ((s56.n : Nat) : Int)) ∧ WithAddr s56.a fun a70 =>
 Ld (.ki .i64) ((a70.add (Int.toNat n58 * 4)).add 2) (fun n71 w =>
 ((0 : Int) ≤ n63 ∧ n63 < ((6 : Nat) : Int)) ∧ Ld (.ki .i64) (a22.add (Int.toNat n63 * 1)) (fun n72 w =>
 If (n71 != n72) (
 K false w) (
 ((0 : Int) ≤ n58 ∧ n58 < ((s56.n : Nat) : Int)) ∧ WithAddr s56.a fun a73 =>
 Ld (.ki .i64) ((a73.add (Int.toNat n58 * 4)).add 3) (fun n74 w =>
 ((0 : Int) ≤ n58 ∧ n58 < ((s56.n : Nat) : Int)) ∧ WithAddr s56.a fun a75 =>
 Ld (.ki .i64) ((a75.add (Int.toNat n58 * 4)).add 2) (fun n76 w =>
 ((0 : Int) ≤ n63 ∧ n63 < ((s57.n : Nat) : Int)) ∧ WithAddr s57.a fun a77 =>
 Ld (.ki .i64) ((a77.add (Int.toNat n63 * 4)).add 0) (fun n78 w =>
 If (n74 != (IntKind.wrap .i64 (n76 + n78))) (
 K false w) (
 ((0 : Int) ≤ n58 ∧ n58 < ((s56.n : Nat) : Int)) ∧ WithAddr s56.a fun a79 =>
 Ld (.ki .i64) ((a79.add (Int.toNat n58 * 4)).add 3) (fun n80 w =>
 ((0 : Int) ≤ n63 ∧ n63 < ((6 : Nat) : Int)) ∧ StN [.int .i64 n80] 0 (a23.add (Int.toNat n63 * 1)) (fun w =>
 I59 (IntKind.wrap .i64 (n58 + 1)) w ∧ M60 (IntKind.wrap .i64 (n58 + 1)) w < M60 n58 v61) w) w)) w) w) w)) w) w)) w) w))) w) w.drew)) w) w) (
 I26 n58 (IntKind.wrap .i64 (n25 + 1)) w ∧ M27 n58 (IntKind.wrap .i64 (n25 + 1)) w < M27 n24 n25 v28)) v61) w) w) w) w) w)) w) w) (
 Call P 16 [.pointer p11] [sS] (fun s81 w =>
 Call P 19 [.pointer p11] [sS] (fun s82 w =>
 ∃ (I84 : Int → World → Prop) (M85 : Int → World → Nat), I84 n24 w ∧ ∀ (n83 : Int) (v86 : World), I84 n83 v86 → ∀ _ : Nat → Value,
 (fun w : World =>
 If (decide (n83 < ((s81.n : Nat) : Int))) (
 ((0 : Int) ≤ n83 ∧ n83 < ((s81.n : Nat) : Int)) ∧ WithAddr s81.a fun a87 =>
 Ld (.ki .i64) ((a87.add (Int.toNat n83 * 4)).add 1) (fun n88 w =>
 ((0 : Int) ≤ n83 ∧ n83 < ((s81.n : Nat) : Int)) ∧ WithAddr s81.a fun a89 =>
 Ld (.ki .i64) ((a89.add (Int.toNat n83 * 4)).add 0) (fun n90 w =>
 If (n90 != 1) (
 I84 (IntKind.wrap .i64 (n83 + 1)) w ∧ M85 (IntKind.wrap .i64 (n83 + 1)) w < M85 n83 v86) (
 (fun w : World =>
 Call P 18 [.int .i64 n88] [sB] (fun b91 w =>
 If (!b91) (
 K false w) (
 If (decide (n88 ≥ ((s82.n : Nat) : Int))) (
 K false w) (
 ((0 : Int) ≤ n83 ∧ n83 < ((s81.n : Nat) : Int)) ∧ WithAddr s81.a fun a92 =>
 Ld (.ki .i64) ((a92.add (Int.toNat n83 * 4)).add 2) (fun n93 w =>
 ((0 : Int) ≤ n88 ∧ n88 < ((6 : Nat) : Int)) ∧ Ld (.ki .i64) (a23.add (Int.toNat n88 * 1)) (fun n94 w =>
 If (decide (n93 < n94)) (
 K false w) (
 ((0 : Int) ≤ n83 ∧ n83 < ((s81.n : Nat) : Int)) ∧ WithAddr s81.a fun a95 =>
 Ld (.ki .i64) ((a95.add (Int.toNat n83 * 4)).add 2) (fun n96 w =>
 ((0 : Int) ≤ n88 ∧ n88 < ((6 : Nat) : Int)) ∧ Ld (.ki .i64) (a22.add (Int.toNat n88 * 1)) (fun n97 w =>
 If (n96 != n97) (
 K false w) (
 ((0 : Int) ≤ n83 ∧ n83 < ((s81.n : Nat) : Int)) ∧ WithAddr s81.a fun a98 =>
 Ld (.ki .i64) ((a98.add (Int.toNat n83 * 4)).add 3) (fun n99 w =>
 ((0 : Int) ≤ n83 ∧ n83 < ((s81.n : Nat) : Int)) ∧ WithAddr s81.a fun a100 =>
 Ld (.ki .i64) ((a100.add (Int.toNat n83 * 4)).add 2) (fun n101 w =>
 ((0 : Int) ≤ n88 ∧ n88 < ((s82.n : Nat) : Int)) ∧ WithAddr s82.a fun a102 =>
 Ld (.ki .i64) ((a102.add (Int.toNat n88 * 4)).add 0) (fun n103 w =>
 If (n99 != (IntKind.wrap .i64 (n101 + n103))) (
 K false w) (
 ((0 : Int) ≤ n83 ∧ n83 < ((s81.n : Nat) : Int)) ∧ WithAddr s81.a fun a104 =>
 Ld (.ki .i64) ((a104.add (Int.toNat n83 * 4)).add 3) (fun n105 w =>
 ((0 : Int) ≤ n88 ∧ n88 < ((6 : Nat) : Int)) ∧ StN [.int .i64 n105] 0 (a23.add (Int.toNat n88 * 1)) (fun w =>
 I84 (IntKind.wrap .i64 (n83 + 1)) w ∧ M85 (IntKind.wrap .i64 (n83 + 1)) w < M85 n83 v86) w) w)) w) w) w)) w) w)) w) w))) w) w.drew)) w) w) (
 I26 n83 (IntKind.wrap .i64 (n25 + 1)) w ∧ M27 n83 (IntKind.wrap .i64 (n25 + 1)) w < M27 n24 n25 v28)) v86) w) w)) (
 Call P 16 [.pointer p11] [sS] (fun s106 w =>
 Call P 19 [.pointer p11] [sS] (fun s107 w =>
 ∃ (I109 : Int → World → Prop) (M110 : Int → World → Nat), I109 n24 w ∧ ∀ (n108 : Int) (v111 : World), I109 n108 v111 → ∀ _ : Nat → Value,
 (fun w : World =>
 If (decide (n108 < ((s106.n : Nat) : Int))) (
 ((0 : Int) ≤ n108 ∧ n108 < ((s106.n : Nat) : Int)) ∧ WithAddr s106.a fun a112 =>
 Ld (.ki .i64) ((a112.add (Int.toNat n108 * 4)).add 1) (fun n113 w =>
 ((0 : Int) ≤ n108 ∧ n108 < ((s106.n : Nat) : Int)) ∧ WithAddr s106.a fun a114 =>
 Ld (.ki .i64) ((a114.add (Int.toNat n108 * 4)).add 0) (fun n115 w =>
 If (n115 != 1) (
 I109 (IntKind.wrap .i64 (n108 + 1)) w ∧ M110 (IntKind.wrap .i64 (n108 + 1)) w < M110 n108 v111) (
 (fun w : World =>
 Call P 18 [.int .i64 n113] [sB] (fun b116 w =>
 If (!b116) (
 K false w) (
 If (decide (n113 ≥ ((s107.n : Nat) : Int))) (
 K false w) (
 ((0 : Int) ≤ n108 ∧ n108 < ((s106.n : Nat) : Int)) ∧ WithAddr s106.a fun a117 =>
 Ld (.ki .i64) ((a117.add (Int.toNat n108 * 4)).add 2) (fun n118 w =>
 ((0 : Int) ≤ n113 ∧ n113 < ((6 : Nat) : Int)) ∧ Ld (.ki .i64) (a23.add (Int.toNat n113 * 1)) (fun n119 w =>
 If (decide (n118 < n119)) (
 K false w) (
 ((0 : Int) ≤ n108 ∧ n108 < ((s106.n : Nat) : Int)) ∧ WithAddr s106.a fun a120 =>
 Ld (.ki .i64) ((a120.add (Int.toNat n108 * 4)).add 2) (fun n121 w =>
 ((0 : Int) ≤ n113 ∧ n113 < ((6 : Nat) : Int)) ∧ Ld (.ki .i64) (a22.add (Int.toNat n113 * 1)) (fun n122 w =>
 If (n121 != n122) (
 K false w) (
 ((0 : Int) ≤ n108 ∧ n108 < ((s106.n : Nat) : Int)) ∧ WithAddr s106.a fun a123 =>
 Ld (.ki .i64) ((a123.add (Int.toNat n108 * 4)).add 3) (fun n124 w =>
 ((0 : Int) ≤ n108 ∧ n108 < ((s106.n : Nat) : Int)) ∧ WithAddr s106.a fun a125 =>
 Ld (.ki .i64) ((a125.add (Int.toNat n108 * 4)).add 2) (fun n126 w =>
 ((0 : Int) ≤ n113 ∧ n113 < ((s107.n : Nat) : Int)) ∧ WithAddr s107.a fun a127 =>
 Ld (.ki .i64) ((a127.add (Int.toNat n113 * 4)).add 0) (fun n128 w =>
 If (n124 != (IntKind.wrap .i64 (n126 + n128))) (
 K false w) (
 ((0 : Int) ≤ n108 ∧ n108 < ((s106.n : Nat) : Int)) ∧ WithAddr s106.a fun a129 =>
 Ld (.ki .i64) ((a129.add (Int.toNat n108 * 4)).add 3) (fun n130 w =>
 ((0 : Int) ≤ n113 ∧ n113 < ((6 : Nat) : Int)) ∧ StN [.int .i64 n130] 0 (a23.add (Int.toNat n113 * 1)) (fun w =>
 I109 (IntKind.wrap .i64 (n108 + 1)) w ∧ M110 (IntKind.wrap .i64 (n108 + 1)) w < M110 n108 v111) w) w)) w) w) w)) w) w)) w) w))) w) w.drew)) w) w) (
 I26 n108 (IntKind.wrap .i64 (n25 + 1)) w ∧ M27 n108 (IntKind.wrap .i64 (n25 + 1)) w < M27 n24 n25 v28)) v111) w) w)) w) w) w)) w
def apI (o1 : Own) (w1 : World) (m : Mach) (a : Nat) (st : Sl) (l : List ASt) (b2 b3 : Nat) (seen i : Int) (w : World) : Prop := ∃ (k : Nat) (o : Own) (q : KPtr) (s : KS) (F D : Int → Int), i = k ∧ k ≤ l.length ∧ seen = s.events.length ∧ ApL o1 w1 m a st l b2 b3 k o w q s F D
theorem apBody_of {o1 : Own} {w1 : World} {m : Mach} {a : Nat} {st : Sl} {l : List ASt} (hl : l.length ≤ 1048576) {b2 b3 k : Nat} {o : Own} {w : World} {q : KPtr} {s : KS} {F D : Int → Int} (L : ApL o1 w1 m a st l b2 b3 k o w q s F D) (hkl : k < l.length) {x : ASt} (hx : l[k]? = some x) {b4 : Nat} (k4 : Blk o w 90 b4 (.cells x.st.l.toArray 39 (0, 0))) (htx : TaskR o w x.t) (v28 : World) (K : Bool → World → Prop) :
    apBody (some ⟨a, 0, none⟩) ⟨b2, 0, none⟩ ⟨b3, 0, none⟩ (s.events.length : Nat) (k : Nat) v28 (apI o1 w1 m a st l b2 b3) (fun _ i _ => l.length - i.toNat) K s.now ⟨b4, 0, none⟩ w := by
  have hnow := L.iv.now
  have hw1 : IntKind.wrap .i64 ((k : Int) + 1) = ((k + 1 : Nat) : Int) := by rw [wz_id (by omega) (by omega)]; omega
  have hw1' : wz ((k : Int) + 1) = ((k + 1 : Nat) : Int) := hw1
  have hme : l.length - Int.toNat (IntKind.wrap .i64 ((k : Int) + 1)) < l.length - Int.toNat (k : Int) := by rw [hw1]; omega
  refine k4.bx.ld (x := x.kind) rfl ?_
  refine If_eq (fun e2 => ?_) fun e2 => ?_
  · refine ⟨?_, hme⟩
    rw [hw1]
    exact ⟨k + 1, o, q, s, F, D, rfl, hkl, rfl, L.h, L.iv.mono (by omega) (by unfold budB; omega) (by omega) (by unfold budB bigN; omega), L.ap, L.hs, L.k2, L.k3, L.U⟩
  · have e2 : x.kind ≠ 2 := e2
    refine k4.bx.ldStep (x := x.st) ?_
    have LS : LawS o w m a k o w q s := ⟨L.h, L.iv, .refl⟩
    have hd := LS.doo (by omega) x htx
    refine hd.imp2 ?_
    rintro n e w5 ⟨s5, d5, q5, o5, L5, u5⟩
    obtain ⟨aw, ar⟩ := L.ap.doR e2 L.iv (by omega) (by unfold budB bigN; omega) d5
    have k4 := k4.up u5 (by decide)
    have k2 := L.k2.up u5 (by decide)
    have k3 := L.k3.up u5 (by decide)
    have hs := L.hs.up u5 kl0
    have U := L.U.trans u5.kq1
    -- behind the step, what was asked is noted
    have fin : ∀ (w6 : World) (G : Int → Int), G = askedZ F s x e → KRep o5 w6 m a q5 s5 → Blk o5 w6 92 b2 (.cells (arrC G).toArray 52 (0, 0)) → Blk o5 w6 93 b3 (.cells (arrC D).toArray 52 (0, 0)) → StepsR o5 w6 st l → Up kq o1 w1 o5 w6 →
        apTail (some ⟨a, 0, none⟩) ⟨b2, 0, none⟩ ⟨b3, 0, none⟩ (s.events.length : Nat) (k : Nat) v28 (apI o1 w1 m a st l b2 b3) (fun _ i _ => l.length - i.toNat) K w6 := by
      rintro w6 G rfl h6 k2 k3 hs U
      refine apTail_of h6 L5.iv aw k2 k3 fun o7 w7 D' h7 ap7 k2 k3 u7 => ⟨?_, hme⟩
      rw [hw1']
      exact ⟨k + 1, o7, q5, s5, _, D', rfl, hkl, rfl, h7, L5.iv, ap7, hs.up u7 (by decide), k2, k3, U.trans u7.kq2⟩
    have plain : ¬ (x.kind = 3 ∧ e = 0) → apTail (some ⟨a, 0, none⟩) ⟨b2, 0, none⟩ ⟨b3, 0, none⟩ (s.events.length : Nat) (k : Nat) v28 (apI o1 w1 m a st l b2 b3) (fun _ i _ => l.length - i.toNat) K w5 := fun hne =>
      fin w5 F (if_neg hne).symm L5.h k2 k3 hs U
    refine k4.bx.ld (x := x.kind) rfl ?_
    refine If_eq (fun e3 => ?_) fun e3 => plain fun h => e3 h.1
    refine If_eq (fun e0 => ?_) fun e0 => plain fun h => e0 h.2
    obtain ⟨a0, a6⟩ := ar ⟨e3, e0⟩
    refine k4.bx.ld (x := x.a) rfl ?_
    have hkn := known_spec x.a w5
    refine hkn.imp1 ?_
    rintro bb w6 ⟨rfl, hbb⟩
    have hbt := hbb.2 ⟨a0, a6⟩
    subst hbt
    refine If_not (If_t ?_)
    refine k4.bx.ld (x := x.a) rfl ?_
    refine k4.bx.ld (x := x.b) rfl ?_
    refine ⟨⟨a0, a6⟩, ?_⟩
    have hbr : wz (s.now + x.b) = s.now + x.b := by
      have h0 : e = 0 := e0
      subst h0
      rcases d5 with ⟨_, _, h, _⟩ | ⟨_, ⟨h, _⟩ | ⟨_, s6, h1, _⟩⟩
      · cases h
      · exact absurd rfl h
      · have harr : ArriveR s x.a x.b x.c 0 s6 := by
          have e3 : x.kind = 3 := e3
          rcases h1 with ⟨hk', _⟩ | ⟨hk', _⟩ | ⟨_, _, ht⟩ | ⟨hk', _⟩ | ⟨hk', _⟩ | ⟨hk', _⟩ | ⟨hk', _⟩ | ⟨hk', _⟩
          · omega
          · omega
          · exact ht
          all_goals omega
        rcases harr with ⟨herr, _⟩ | ⟨_, b0, b1, _⟩
        · rcases herr with ⟨_, h⟩ | ⟨_, ⟨_, h⟩ | ⟨_, h⟩ | ⟨_, h⟩ | ⟨_, h⟩⟩ <;> cases h
        · exact wz_id (by omega) (by omega)
    refine arr_st k2 a0 a6 fun w7 k7 hw7 => ?_
    have u7 := hw7.up k2.own
    have hG : upd F x.a (wz (s.now + x.b)) = askedZ F s x e := by
      rw [hbr]
      exact (if_pos ⟨e3, e0⟩).symm
    exact fin w7 _ hG ⟨L5.h.b.up u7 rfl, L5.h.p.up u7 fun d hd => by simp [kcols] at hd; simp [only]; omega⟩ k7 (k3.up u7 rfl) (hs.up u7 rfl) (U.trans u7.kq3)
theorem apart_spec {o : Own} {w : World} {m : Mach} {st : Sl} {l : List ASt} (hm : MachR o w m) (hs : StepsR o w st l) (hl : l.length ≤ 1048576) : Call P 5 [m.p.v, vS st] [sB] (fun b w' => b = true ∧ ∃ o', Up kq o w o' w') w := by
  have hn := hs.n
  refine f5_of _ _ (New_blk o 0 fun b1 o1 w1 k1 u1 _ => k1.bx.ldPlat (x := m.p) ?_)
  have hm := hm.up u1 rfl
  have hs := hs.up u1 rfl
  have hbt := boot_law hm
  refine hbt.imp1 ?_
  rintro pk w2 (⟨t, a, q, x, y, z, o2, rfl, L⟩ | ⟨nt, rfl, u2⟩)
  rotate_left
  · refine If_t ((k1.bx.below u2).ldPlat (x := m.p) ?_)
    have hno := none_spec (hm.below u2) nt
    refine hno.imp1 ?_
    rintro b w3 ⟨rfl, o3, u3⟩
    exact ⟨rfl, o3, ((u1.of_no.trans (Up.of_below u2)).trans u3).kq1⟩
  have hs := hs.up L.U kl0
  generalize V.pl m x y z = m' at L
  refine If_f (New_blk o2 92 fun b2 o3 w3 k2 u3 hb2 => New_blk o3 93 fun b3 o4 w4 k3 u4 hb3 => ?_)
  have L := (L.upno u3).upno u4
  have k2 := k2.up u4 rfl
  have hs := (hs.up u3 rfl).up u4 rfl
  have k2 : Blk o4 w4 92 b2 (.cells (arrC fun _ => 0).toArray 52 (0, 0)) := k2
  have k3 : Blk o4 w4 93 b3 (.cells (arrC fun _ => 0).toArray 52 (0, 0)) := k3
  refine ⟨apI o1 w1 m' a st l b2 b3, fun _ i _ => l.length - i.toNat, ⟨0, o4, q, _, _, _, rfl, Nat.zero_le _, rfl, L.h, L.iv, ApS.s0 m', hs, k2, k3, L.U.kq1⟩, ?_⟩
  rintro _ _ v ⟨k, o5, q5, s, F, D, rfl, hk, rfl, L⟩ _
  have hsn := L.hs.n
  refine If_d (fun hlt => ?_) fun hlt => ?_
  · have hkl : k < l.length := by omega
    have hx : l[k]? = some l[k] := List.getElem?_eq_getElem hkl
    have htx := L.hs.each _ (List.getElem_mem hkl)
    generalize l[k] = x at hx htx
    have ud : Up no o5 v o5 v.drew := .drew
    have L : ApL o1 w1 m' a st l b2 b3 k o5 v.drew q5 s F D := ⟨L.h.upno ud, L.iv, L.ap, L.hs.up ud rfl, L.k2.up ud rfl, L.k3.up ud rfl, L.U.trans ud.of_no⟩
    have htx := htx.up ud rfl
    refine RL.at' L.hs.rl (k := k) (x := x.st) rfl (by rw [List.getElem?_map, hx]; rfl) fun bd fd had hbd => ?_
    have hadr : (⟨bd, fd, none⟩ : Addr).add (Int.toNat (k : Int) * 8) = ⟨bd, fd + k * 8, none⟩ := by rw [Addr.add_mk, Int.toNat_natCast]
    have hbd : Bx v.drew bd (fd + k * 8) x.st.l := hbd
    rw [hadr]
    refine hbd.ldStep (x := x.st) ?_
    have hno := now_spec L.h
    refine ⟨?_, ?_⟩
    · refine hno.imp1 ?_
      rintro nw w5 ⟨rfl, rfl⟩
      refine ⟨by (repeat' (first | (apply Bx.get0f; apply Blk.bx; assumption; rfl) | (apply Bx.get0f; apply Blk.bx; apply KRep.b; assumption; rfl) | (apply Bx.get0f; assumption; rfl) | (apply Bx.get00; apply Blk.bx; apply KRep.b; assumption; rfl) | (apply Bx.get0; apply Blk.bx; apply KRep.b; assumption; rfl) | (apply Bx.get00; apply Blk.bx; assumption; rfl) | (apply Bx.get00; assumption; rfl) | (apply Bx.getAt; assumption; rfl) | (apply Bx.get0; assumption; rfl) | (apply Bx.get; assumption; rfl) | (apply Bx.get0; apply Blk.bx; assumption; rfl) | (apply Bx.get; apply Blk.bx; assumption; rfl) | apply And.intro)), ?_⟩
      refine New_blk o5 90 fun b4 o6 w6 k6 u6 hb6 => ?_
      have hbd := hbd.below u6.below
      refine ⟨by (repeat' (first | (apply Bx.get0f; apply Blk.bx; assumption; rfl) | (apply Bx.get0f; apply Blk.bx; apply KRep.b; assumption; rfl) | (apply Bx.get0f; assumption; rfl) | (apply Bx.get00; apply Blk.bx; apply KRep.b; assumption; rfl) | (apply Bx.get0; apply Blk.bx; apply KRep.b; assumption; rfl) | (apply Bx.get00; apply Blk.bx; assumption; rfl) | (apply Bx.get00; assumption; rfl) | (apply Bx.getAt; assumption; rfl) | (apply Bx.get0; assumption; rfl) | (apply Bx.get; assumption; rfl) | (apply Bx.get0; apply Blk.bx; assumption; rfl) | (apply Bx.get; apply Blk.bx; assumption; rfl) | apply And.intro)), ?_⟩
      refine k6.wr0 (vs := x.st.l) (by rfl) fun w7 k7 hw7 => ?_
      have L := (L.upno u6).wr90 k6.own hw7
      have hb := apBody_of hl L hkl hx k7 ((htx.up u6 rfl).up (hw7.up k6.own) rfl) v (fun b w' => b = true ∧ ∃ o', Up kq o w o' w')
      exact hb
    · refine New_blk o5 90 fun b4 o6 w6 k6 u6 hb6 => ?_
      have hbd := hbd.below u6.below
      have L := L.upno u6
      have htx := htx.up u6 rfl
      have hno := now_spec L.h
      refine ⟨by (repeat' (first | (apply Bx.get0f; apply Blk.bx; assumption; rfl) | (apply Bx.get0f; apply Blk.bx; apply KRep.b; assumption; rfl) | (apply Bx.get0f; assumption; rfl) | (apply Bx.get00; apply Blk.bx; apply KRep.b; assumption; rfl) | (apply Bx.get0; apply Blk.bx; apply KRep.b; assumption; rfl) | (apply Bx.get00; apply Blk.bx; assumption; rfl) | (apply Bx.get00; assumption; rfl) | (apply Bx.getAt; assumption; rfl) | (apply Bx.get0; assumption; rfl) | (apply Bx.get; assumption; rfl) | (apply Bx.get0; apply Blk.bx; assumption; rfl) | (apply Bx.get; apply Blk.bx; assumption; rfl) | apply And.intro)), hno.imp1 ?_⟩
      rintro nw w7 ⟨rfl, rfl⟩
      refine ⟨by (repeat' (first | (apply Bx.get0f; apply Blk.bx; assumption; rfl) | (apply Bx.get0f; apply Blk.bx; apply KRep.b; assumption; rfl) | (apply Bx.get0f; assumption; rfl) | (apply Bx.get00; apply Blk.bx; apply KRep.b; assumption; rfl) | (apply Bx.get0; apply Blk.bx; apply KRep.b; assumption; rfl) | (apply Bx.get00; apply Blk.bx; assumption; rfl) | (apply Bx.get00; assumption; rfl) | (apply Bx.getAt; assumption; rfl) | (apply Bx.get0; assumption; rfl) | (apply Bx.get; assumption; rfl) | (apply Bx.get0; apply Blk.bx; assumption; rfl) | (apply Bx.get; apply Blk.bx; assumption; rfl) | apply And.intro)), ?_⟩
      refine k6.wr0 (vs := x.st.l) (by rfl) fun w7 k7 hw7 => ?_
      have L := L.wr90 k6.own hw7
      have hb := apBody_of hl L hkl hx k7 (htx.up (hw7.up k6.own) rfl) v (fun b w' => b = true ∧ ∃ o', Up kq o w o' w')
      exact hb
  · have ha := answers_below v
    refine ha.imp1 ?_
    rintro b w7 ⟨rfl, u7⟩
    exact ⟨rfl, o5, (u1.of_no.trans L.U).trans (Up.of_below u7)⟩
end Go.Proofs.YtajilfnceoeaiaaGreat.V
