/- Parts of the proof: What the quiet functions answer: admit, Slices of the kernel's own: append, make, store, cut, What the quiet functions answer: slack, What the quiet functions answer: slack.Least, govern, nap, rest, pick, plan, What the quiet functions answer: job, dev, Maps of the kernel's own, by numbers: look up, store, delete, count, Slices of the kernel's own, typed: store, cut, make. -/
import Derived.Test.YtajilfnceoeaiaaGreatZa4
import Derived.MapKept
import Derived.WideLaws
import Derived.WideMake
import Derived.Laws.IdiomRangeMap
set_option linter.unusedVariables false
set_option linter.unusedSimpArgs false
/- What the quiet functions answer: admit. -/
namespace Go.Proofs.YtajilfnceoeaiaaGreat.V
open Go Go.RowKit
set_option maxRecDepth 100000
def quantaZ (m : Mach) (x : ATask) (level : Int) : Int :=
  if level < 0 ∨ level ≥ m.L.length then 0 else wz (wz (x.t.cycles * (m.L.getD level.toNat ⟨0, 0⟩).p) + wz (2 * m.p.switch))
theorem quanta_spec {o : Own} {w : World} (m : Mach) (x : ATask) (level : Int) (hm : MachR o w m) : Call P 183 [m.p.v, x.t.v, .int .i64 level] [sI] (fun r w' => Below w.heap.size w w' ∧ r = quantaZ m x level) w := by
  have hL := hm.L.n
  refine f183_of _ _ _ (New_of fun b w1 c1 u1 => New_of fun b2 w2 c2 u2 => ?_)
  have c1 := c1.below u2
  have u := u1.on u2
  refine If_d (fun h0 => ⟨u, (if_pos (by grind)).symm⟩) fun h0 => ?_
  refine c1.ld (x := m.p.levels) rfl ?_
  rw [hL]
  refine If_d (fun h1 => ⟨u, (if_pos (by grind)).symm⟩) fun h1 => ?_
  refine c2.drew.ld (x := x.t.cycles) rfl (c1.drew.ld (x := m.p.levels) rfl ?_)
  obtain ⟨k, rfl⟩ : ∃ k : Nat, level = k := ⟨level.toNat, by omega⟩
  have hk : k < m.L.length := by omega
  refine ((hm.L.below u).below bdrew).fld (f := 0) (e := .ki .i64) (y := m.L[k].p) rfl (List.getElem?_eq_getElem hk) rfl rfl ?_
  refine c1.drew.ld (x := m.p.switch) rfl ⟨u.drew, ?_⟩
  rw [quantaZ, if_neg (by omega)]
  simp [hk]
def partZ (m : Mach) (x : ATask) (level : Int) : Int := utilZ (quantaZ m x level) x.t.period
theorem part_spec {o : Own} {w : World} (m : Mach) (x : ATask) (level : Int) (hm : MachR o w m) : Call P 161 [m.p.v, x.t.v, .int .i64 level] [sI] (fun r w' => Below w.heap.size w w' ∧ r = partZ m x level) w := by
  refine f161_of _ _ _ (New_of fun b w1 c1 u1 => New_of fun b2 w2 c2 u2 => ?_)
  have c1 := (c1.below u2).drew
  have c2 := c2.drew
  have u := (u1.on u2).drew
  refine c1.ldPlat (x := m.p) (c2.ldTask (x := x.t) (c2.ld (x := x.t.period) rfl ?_))
  have hc := quanta_spec m x level (hm.below u)
  refine hc.imp1 ?_
  rintro r w3 ⟨u3, rfl⟩
  have c1 := c1.below u3
  have c2 := c2.below u3
  refine ⟨c2.get0 rfl, ?_⟩
  have hc := util_spec (quantaZ m x level) x.t.period w3
  refine hc.imp1 ?_
  rintro r w4 ⟨u4, rfl⟩
  have c1 := c1.below u4
  have c2 := c2.below u4
  exact ⟨⟨c2.get rfl, c2.get rfl, c2.get rfl, c2.get rfl⟩, ⟨c1.get rfl, c1.get rfl, c1.get rfl, c1.get rfl, c1.get rfl, c1.get rfl, c1.get rfl, c1.get rfl, c1.get rfl⟩, (u.on u3).on u4, rfl⟩
/-- The most of one task's sections that count. -/
def longOne (l : List ATask) (period : Int) (x : ATask) (a : Int) (n : Nat) : Int := (List.range n).foldl (fun a (s : Nat) => if x.t.period > period ∧ usesZ x s = true ∧ ceilZ l s ≤ period then (if x.sec.getD s 0 > a then x.sec.getD s 0 else a) else a) a
def longZ (l : List ATask) (period : Int) : Int := l.foldl (fun a x => longOne l period x a x.sec.length) 0
theorem longOne_succ (l : List ATask) (period : Int) (x : ATask) (a : Int) (k : Nat) : longOne l period x a (k + 1) = if x.t.period > period ∧ usesZ x k = true ∧ ceilZ l k ≤ period then (if x.sec.getD k 0 > longOne l period x a k then x.sec.getD k 0 else longOne l period x a k) else longOne l period x a k := by
  unfold longOne
  rw [List.range_succ, List.foldl_append]
  rfl
theorem longest_spec {o : Own} {w : World} {c : Nat} (p : Plat) (tasks : Sl) (l : List ATask) (period : Int) (h : TasksR o w c tasks l) :
    Call P 199 [p.v, .slice tasks.a tasks.n tasks.c, .int .i64 period] [sI] (fun r w' => Below w.heap.size w w' ∧ r = longZ l period) w := by
  have hn := h.rl.n
  rw [List.length_map] at hn
  have hmax := h.rl.max
  refine f199_of _ _ _ (New_of fun b w1 c1 u1 => ?_)
  refine ⟨fun a i w' => ∃ k : Nat, i = k ∧ k ≤ l.length ∧ Below w.heap.size w w' ∧ a = (l.take k).foldl (fun a x => longOne l period x a x.sec.length) 0, fun _ i _ => l.length - i.toNat, ⟨0, rfl, Nat.zero_le _, u1, rfl⟩, ?_⟩
  rintro a _ v ⟨k, rfl, hk, u, rfl⟩ _
  refine If_d (fun hlt => ?_) (fun hlt => ?_)
  · have hk' : k < l.length := by omega
    have hx : (l.map ATask.t)[k]? = some l[k].t := by simp [hk']
    refine (h.rl.below u).task rfl hx ?_
    refine NewSt_of rfl fun b2 w2 c2 u2 => ?_
    have u := u.on u2
    have hT := (h.each _ (List.getElem_mem hk')).below u
    have hs := hT.sec.n
    have hsm := hT.sec.max
    refine c2.ld (x := l[k].t.sec) rfl ?_
    generalize ha : (l.take k).foldl (fun a x => longOne l period x a x.sec.length) 0 = a0
    refine ⟨fun a i w' => ∃ j : Nat, i = j ∧ j ≤ l[k].sec.length ∧ Below w2.heap.size w2 w' ∧ a = longOne l period l[k] a0 j, fun _ i _ => l[k].sec.length - i.toNat, ⟨0, rfl, Nat.zero_le _, Below.refl _ _, rfl⟩, ?_⟩
    rintro a _ v2 ⟨j, rfl, hj, u2', rfl⟩ _
    have c2 := c2.below u2'
    have u' := u.on u2'
    refine If_d (fun hlt2 => ?_) (fun hlt2 => ?_)
    · have hj' : j < l[k].sec.length := by omega
      rw [wz1 (by omega) hsm]
      have nx : ∀ w3, Below v2.heap.size v2 w3 → Below w2.heap.size w2 w3 := fun w3 h3 => u2'.on h3
      refine c2.ld (x := l[k].t.period) rfl (If_d (fun hp => ?_) (fun hp => ?_))
      · refine c2.ldTask (x := l[k].t) ?_
        have hc := uses_spec l[k] j (hT.below u2')
        refine hc.imp1 ?_
        rintro r w3 ⟨u3, rfl⟩
        refine If_b (fun hu => ?_) (fun hu => ?_)
        · have hc := ceil_spec tasks l j (h.below (u'.on u3))
          refine hc.imp1 ?_
          rintro r w4 ⟨u4, rfl⟩
          refine If_d (fun hle => ?_) (fun hle => ?_)
          · have c2 := (c2.below u3).below u4
            refine c2.ld (x := l[k].t.sec) rfl ?_
            refine ((hT.sec.below u2').below (u3.on u4)).int rfl (List.getElem?_eq_getElem hj') ?_
            refine ⟨⟨j + 1, rfl, hj', nx _ (u3.on u4), ?_⟩, by simp; omega⟩
            rw [longOne_succ, if_pos (And.intro hp (And.intro hu hle))]
            simp [hj']
          · refine ⟨⟨j + 1, rfl, hj', nx _ (u3.on u4), ?_⟩, by simp; omega⟩
            rw [longOne_succ, if_neg (fun h => hle h.2.2)]
        · refine ⟨⟨j + 1, rfl, hj', nx _ u3, ?_⟩, by simp; omega⟩
          rw [longOne_succ, if_neg (fun h => by rw [hu] at h; cases h.2.1)]
      · refine ⟨⟨j + 1, rfl, hj', u2', ?_⟩, by simp; omega⟩
        rw [longOne_succ, if_neg (fun h => hp h.1)]
    · have : j = l[k].sec.length := by omega
      subst this
      rw [wz1 (by omega) hmax]
      refine ⟨⟨k + 1, rfl, hk', u', ?_⟩, by simp; omega⟩
      rw [List.take_succ_eq_append_getElem hk', List.foldl_append, ha]
      rfl
  · have : k = l.length := by omega
    subst this
    exact ⟨u, by rw [List.take_length]; rfl⟩
def slowZ (m : Mach) : Int := (m.L.getD m.p.crit.toNat ⟨0, 0⟩).p
def blockZ (m : Mach) (l : List ATask) (period : Int) : Int := wz (wz (longZ l period * slowZ m) + (if m.p.switch > slowZ m then m.p.switch else slowZ m))
structure CritOk (m : Mach) : Prop where
  lo : 0 ≤ m.p.crit
  hi : m.p.crit < m.L.length
theorem block_spec {o : Own} {w : World} {c : Nat} (m : Mach) (tasks : Sl) (l : List ATask) (period : Int) (hm : MachR o w m) (hc : CritOk m) (h : TasksR o w c tasks l) :
    Call P 182 [m.p.v, .slice tasks.a tasks.n tasks.c, .int .i64 period] [sI] (fun r w' => Below w.heap.size w w' ∧ r = blockZ m l period) w := by
  obtain ⟨h0, h1⟩ := hc
  obtain ⟨k, hk⟩ : ∃ k : Nat, m.p.crit = k := ⟨m.p.crit.toNat, by omega⟩
  have hk' : k < m.L.length := by omega
  have hs : slowZ m = m.L[k].p := by simp [slowZ, hk, hk']
  refine f182_of _ _ _ (New_of fun b w1 c1 u1 => ?_)
  refine c1.ld (x := m.p.levels) rfl (c1.ld (x := m.p.crit) rfl ?_)
  refine (hm.L.below u1).fld (f := 0) (e := .ki .i64) (y := m.L[k].p) hk (List.getElem?_eq_getElem hk') rfl rfl ?_
  have c1 := c1.drew
  refine c1.ldPlat (x := m.p) (c1.ld (x := m.p.switch) rfl ?_)
  have hc := longest_spec m.p tasks l period (h.below u1.drew)
  refine hc.imp1 ?_
  rintro r w3 ⟨u3, rfl⟩
  refine ⟨(c1.below u3).get0 rfl, u1.drew.on u3, ?_⟩
  rw [blockZ, hs]
def reserveZ (m : Mach) (l : List ATask) : Int := l.foldl (fun a x => if utilZ (blockZ m l x.t.period) x.t.period > a then utilZ (blockZ m l x.t.period) x.t.period else a) 0
theorem reserve_spec {o : Own} {w : World} {c : Nat} (m : Mach) (tasks : Sl) (l : List ATask) (hm : MachR o w m) (hc : CritOk m) (h : TasksR o w c tasks l) :
    Call P 160 [m.p.v, .slice tasks.a tasks.n tasks.c] [sI] (fun r w' => Below w.heap.size w w' ∧ r = reserveZ m l) w := by
  have hn := h.rl.n
  rw [List.length_map] at hn
  have hmax := h.rl.max
  refine f160_of _ _ (New_of fun b w1 c1 u1 => ?_)
  refine ⟨fun a i w' => ∃ k : Nat, i = k ∧ k ≤ l.length ∧ Below w1.heap.size w1 w' ∧ a = (l.take k).foldl (fun a x => if utilZ (blockZ m l x.t.period) x.t.period > a then utilZ (blockZ m l x.t.period) x.t.period else a) 0, fun _ i _ => l.length - i.toNat, ⟨0, rfl, Nat.zero_le _, Below.refl _ _, rfl⟩, ?_⟩
  rintro a _ v ⟨k, rfl, hk, u, rfl⟩ _
  have c1 := c1.below u
  have uo := u
  have u := u1.on u
  refine If_d (fun hlt => ?_) (fun hlt => ?_)
  · have hk' : k < l.length := by omega
    have hx : (l.map ATask.t)[k]? = some l[k].t := by simp [hk']
    refine (h.rl.below u).task rfl hx ?_
    refine NewSt_of rfl fun b2 w2 c2 u2 => ?_
    have c1 := (c1.below u2).drew
    have c2 := c2.drew
    have uo := (uo.on u2).drew
    have u' := (u.on u2).drew
    refine c1.ldPlat (x := m.p) (c2.ld (x := l[k].t.period) rfl (c2.ld (x := l[k].t.period) rfl ?_))
    have hcc := block_spec m tasks l l[k].t.period (hm.below u') hc (h.below u')
    refine hcc.imp1 ?_
    rintro r w3 ⟨u3, rfl⟩
    have c1 := c1.below u3
    have c2 := c2.below u3
    refine ⟨c2.get0 rfl, ?_⟩
    have hcc := util_spec (blockZ m l l[k].t.period) l[k].t.period w3
    refine hcc.imp1 ?_
    rintro r w4 ⟨u4, rfl⟩
    have c1 := c1.below u4
    have c2 := c2.below u4
    refine ⟨c2.get0 rfl, ⟨c1.get rfl, c1.get rfl, c1.get rfl, c1.get rfl, c1.get rfl, c1.get rfl, c1.get rfl, c1.get rfl, c1.get rfl⟩, ?_⟩
    rw [wz1 (by omega) hmax]
    refine ⟨⟨k + 1, rfl, hk', (uo.on u3).on u4, ?_⟩, by simp; omega⟩
    rw [List.take_succ_eq_append_getElem hk', List.foldl_append]
    rfl
  · have : k = l.length := by omega
    subst this
    exact ⟨u, by rw [List.take_length]; rfl⟩
def loadZ (m : Mach) (l : List ATask) (level : Int) : Int := l.foldl (fun a x => wz (a + partZ m x level)) (reserveZ m l)
theorem load_spec {o : Own} {w : World} {c : Nat} (m : Mach) (tasks : Sl) (l : List ATask) (level : Int) (hm : MachR o w m) (hc : CritOk m) (h : TasksR o w c tasks l) :
    Call P 126 [m.p.v, .slice tasks.a tasks.n tasks.c, .int .i64 level] [sI] (fun r w' => Below w.heap.size w w' ∧ r = loadZ m l level) w := by
  have hn := h.rl.n
  rw [List.length_map] at hn
  have hmax := h.rl.max
  refine f126_of _ _ _ (New_of fun b w1 c1 u1 => ?_)
  refine c1.ldPlat (x := m.p) ?_
  have hcc := reserve_spec m tasks l (hm.below u1) hc (h.below u1)
  refine hcc.imp1 ?_
  rintro r w2 ⟨u2, rfl⟩
  have c1 := c1.below u2
  have u1 := u1.on u2
  refine ⟨fun a i w' => ∃ k : Nat, i = k ∧ k ≤ l.length ∧ Below w2.heap.size w2 w' ∧ a = (l.take k).foldl (fun a x => wz (a + partZ m x level)) (reserveZ m l), fun _ i _ => l.length - i.toNat, ⟨0, rfl, Nat.zero_le _, Below.refl _ _, rfl⟩, ?_⟩
  rintro a _ v ⟨k, rfl, hk, u, rfl⟩ _
  have c1 := c1.below u
  have uo := u
  have u := u1.on u
  refine If_d (fun hlt => ?_) (fun hlt => ?_)
  · have hk' : k < l.length := by omega
    have hx : (l.map ATask.t)[k]? = some l[k].t := by simp [hk']
    refine (h.rl.below u).task rfl hx ?_
    refine NewSt_of rfl fun b2 w2 c2 u2 => ?_
    refine (c1.below u2).ldPlat (x := m.p) (c2.ldTask (x := l[k].t) ?_)
    have hcc := part_spec m l[k] level (hm.below (u.on u2))
    refine hcc.imp1 ?_
    rintro r w3 ⟨u3, rfl⟩
    rw [wz1 (by omega) hmax]
    refine ⟨⟨k + 1, rfl, hk', (uo.on u2).on u3, ?_⟩, by simp; omega⟩
    rw [List.take_succ_eq_append_getElem hk', List.foldl_append]
    rfl
  · have : k = l.length := by omega
    subst this
    exact ⟨u, by rw [List.take_length]; rfl⟩
theorem fits_spec {o : Own} {w : World} {c : Nat} (m : Mach) (tasks : Sl) (l : List ATask) (hm : MachR o w m) (hc : CritOk m) (h : TasksR o w c tasks l) :
    Call P 95 [m.p.v, .slice tasks.a tasks.n tasks.c] [sB] (fun r w' => Below w.heap.size w w' ∧ r = decide (loadZ m l 0 ≤ 4294967296)) w := by
  refine f95_of _ _ (New_of fun b w1 c1 u1 => ?_)
  refine c1.ldPlat (x := m.p) ?_
  have hcc := load_spec m tasks l 0 (hm.below u1) hc (h.below u1)
  refine hcc.imp1 ?_
  rintro r w2 ⟨u2, rfl⟩
  exact ⟨u1.on u2, rfl⟩
end Go.Proofs.YtajilfnceoeaiaaGreat.V
/- Slices of the kernel's own: append, make, store, cut. -/
namespace Go.Proofs.YtajilfnceoeaiaaGreat.V
open Go Go.RowKit
set_option maxRecDepth 100000
/-- A slice type and its elements' sizes. -/
structure ET (t e : TypeId) (sz by_ : Nat) : Prop where
  u : P.underlying t = some (.slice e)
  i : (P.info? e).map (fun i => (i.size, i.bytes, i.zero.map (·.cells.size))) = some (sz, by_, some sz)
  pos : 0 < sz
theorem ET.parts {t e : TypeId} {sz by_ : Nat} (h : ET t e sz by_) : ∃ i z, P.info? e = some i ∧ i.zero = some z ∧ i.size = sz ∧ i.bytes = by_ ∧ z.cells.size = sz := by
  obtain ⟨i, hi, h2⟩ := Option.map_eq_some_iff.1 h.i
  simp only [Prod.mk.injEq, Option.map_eq_some_iff] at h2
  obtain ⟨h3, h4, z, h5, h6⟩ := h2
  exact ⟨i, z, hi, h5, h3, h4, h6⟩
theorem etInt : ET 35 3 1 8 := ⟨by kernel_rfl, by kernel_rfl, by decide⟩
theorem etEvent : ET 42 45 4 32 := ⟨by kernel_rfl, by kernel_rfl, by decide⟩
theorem etJob : ET 47 50 6 48 := ⟨by kernel_rfl, by kernel_rfl, by decide⟩
theorem etTask : ET 54 37 4 64 := ⟨by kernel_rfl, by kernel_rfl, by decide⟩
theorem etInterval : ET 63 66 6 48 := ⟨by kernel_rfl, by kernel_rfl, by decide⟩
theorem etHeld : ET 71 76 3 24 := ⟨by kernel_rfl, by kernel_rfl, by decide⟩
theorem etItem : ET 172 187 2 16 := ⟨by kernel_rfl, by kernel_rfl, by decide⟩
theorem etLevel : ET 22 93 2 16 := ⟨by kernel_rfl, by kernel_rfl, by decide⟩
theorem etSleep : ET 23 105 6 48 := ⟨by kernel_rfl, by kernel_rfl, by decide⟩
theorem etDevice : ET 24 58 7 56 := ⟨by kernel_rfl, by kernel_rfl, by decide⟩
theorem etAway : ET 88 97 2 16 := ⟨by kernel_rfl, by kernel_rfl, by decide⟩
theorem setRow_os (w : World) (g : Nat) (cs : Array Value) : (w.setRow g cs).os = w.os := rfl
/-- Behind an append: the elements are there; blocks of the row's colour alone have changed. -/
theorem app_of {o : Own} {w : World} {c c' t e sz by_ : Nat} {s x : Sl} {xs ys : List Value} {K : Sl → World → Prop} (et : ET t e sz by_) (ty : TypeId) (h : Row o w c e sz s xs) (hx : Rd o w c' sz x ys) (one : ys.all Value.oneCell' = true)
    (hxn : 0 < x.n) (hb : (s.n + x.n) * by_ ≤ 140737488355328) (hm : s.n + x.n ≤ maxLen)
    (k : ∀ s' o' w', Row o' w' c e sz s' (xs ++ ys) → Up (only [c]) o w o' w' → s'.n = s.n + x.n → K s' w') :
    Sm P (Builtin.append_ #[t, t] ty [.slice s.a s.n s.c, .slice x.a x.n x.c].toArray) [sS] K w := by
  obtain ⟨i, z, hi, hz, h1, h2, h3⟩ := et.parts
  subst h1 h2
  obtain ⟨⟨hlen, hr⟩, hh⟩ := h
  have hyl := hx.len
  have hne : ys ≠ [] := fun e0 => by
    rw [e0] at hyl
    have := Nat.mul_pos hxn et.pos
    simp at hyl; omega
  obtain ⟨b, off, ha, _, _, hcell⟩ := hx.rd hne
  have hnews : ∀ j u, ys[j]? = some u → w.cell? ((⟨b, off, none⟩ : Addr).add j) = some u := fun j u hu => by rw [Addr.add_mk]; exact hcell j u hu
  have hlen2 : (xs ++ ys).length = (s.n + x.n) * i.size := by rw [List.length_append, hlen, hyl, Nat.add_mul]
  have one' : ∀ u ∈ ys, u.oneCell' = true := by simpa using one
  have hm' : s.n + x.n ≤ 9223372036854775807 := by unfold maxLen at hm; omega
  have grown : ∀ (old : Nat), old < s.n + x.n →
      Row (setO o w.heap.size c) (w.drew.alloc (.cells (xs.toArray ++ ys.toArray ++ Builtin.zeroCells z.cells (grownCap w (s.n + x.n) old e - (s.n + x.n))) e)) c e i.size
        ⟨some ⟨w.heap.size, 0, none⟩, s.n + x.n, grownCap w (s.n + x.n) old e⟩ (xs ++ ys) := by
    intro old ho
    have hge := grownCap_ge w (s.n + x.n) old e
    have hcm : grownCap w (s.n + x.n) old e ≤ maxLen := grownCap_le_maxLen w (s.n + x.n) old e hm
    refine ⟨⟨hlen2, .inr ⟨w.heap.size, _, _, rfl, Nat.zero_le _, heap_alloc_new w.drew _, hge, hcm, ?_, ?_⟩⟩, fun a ha => ?_⟩
    · simp only [Array.size_append, List.size_toArray, size_zeroCells, h3, hlen, hyl, ← Nat.add_mul]
      congr 1
      omega
    · simp only [Array.toList_append, List.append_assoc]
      rw [← List.append_assoc, ← hlen2]
      exact List.take_left
    · obtain rfl : a = ⟨w.heap.size, 0, none⟩ := by simpa using ha.symm
      simp [setO]
  have upg : ∀ X, Up (only [c]) o w (setO o w.heap.size c) (w.drew.alloc X) := fun X => Up.drew.trans (Up.alloc (w := w.drew) X c)
  rw [ha]
  rcases hr with ⟨hs, hn⟩ | ⟨g, cap, cur, hs, hbg, hg, hnc, hcm, hcs, htake⟩
  · simp only [Value.slice.injEq] at hs
    obtain ⟨hs1, hs2, hs3⟩ := hs
    have hxs : xs = [] := List.eq_nil_of_length_eq_zero (by rw [hlen, hn]; simp)
    have hrun := run_append_nil (P := P) w t ty e i z et.u hi hz ⟨b, off, none⟩ x.n x.c ys hyl hnews (by omega) (by omega) (by rw [hn, Nat.zero_add] at hb; omega)
    have hgr := grown 0 (by omega)
    rw [hn, hxs] at hgr
    simp only [Nat.zero_add, List.nil_append, Array.empty_append] at hgr
    refine ⟨_, ⟨some ⟨w.heap.size, 0, none⟩, x.n, grownCap w x.n 0 e⟩, ?_, k _ _ _ (by rw [hxs]; exact hgr) (upg _) (by rw [hn]; simp)⟩
    rw [hs1, hn, hs3]
    exact hrun
  · simp only [Value.slice.injEq] at hs
    obtain ⟨hs1, _, hs3⟩ := hs
    by_cases hroom : s.n + x.n ≤ cap
    · have hfit : s.n * i.size + ys.length ≤ cur.size := by rw [hyl, hcs, ← Nat.add_mul]; exact Nat.mul_le_mul_right _ hroom
      have hrun := run_append_room (P := P) w t ty e i et.u hi g s.n cap cur hg ⟨b, off, none⟩ x.n x.c ys hyl hnews one' hroom hfit
      have hgc := hh _ hs1
      refine ⟨w.setRow g (cur.toList.take (s.n * i.size) ++ ys ++ cur.toList.drop (s.n * i.size + ys.length)).toArray, ⟨some ⟨g, 0, none⟩, s.n + x.n, cap⟩, ?_, k _ o _ ⟨⟨hlen2, .inr ⟨g, cap, _, rfl, Nat.zero_le _, setRow_heap w g cur _ e _ hg, hroom, hcm, ?_, ?_⟩⟩, fun a ha => ?_⟩ (Up.set1 (b := g) (by simp [only, hgc]) (fun k hk => setRow_other w g k _ hk) rfl rfl rfl (by simp [World.setRow])) rfl⟩
      · rw [hs1, hs3]; exact hrun
      · simp only [List.size_toArray, List.length_append, List.length_take, List.length_drop, Array.length_toList]
        omega
      · rw [htake, ← hlen2]
        exact List.take_left
      · obtain rfl : a = ⟨g, 0, none⟩ := by simpa using ha.symm
        exact hgc
    · have holds : ∀ j u, xs[j]? = some u → w.cell? ((⟨g, 0, none⟩ : Addr).add j) = some u := by
        have : w.ownsRow 0 e i.size (.slice (some ⟨g, 0, none⟩) s.n cap) s.n xs := ⟨hlen, .inr ⟨g, cap, cur, rfl, hbg, hg, hnc, hcm, hcs, htake⟩⟩
        exact this.cells (g := g) rfl
      have hrun := run_append_grow (P := P) w t ty e i z et.u hi hz ⟨g, 0, none⟩ s.n cap xs hlen holds ⟨b, off, none⟩ x.n x.c ys hyl hnews (by omega) (by omega) (growslice_fits (by omega) hb)
      refine ⟨_, ⟨some ⟨w.heap.size, 0, none⟩, s.n + x.n, grownCap w (s.n + x.n) cap e⟩, ?_, k _ _ _ (grown cap (by omega)) (upg _) rfl⟩
      rw [hs1, hs3]; exact hrun
/-- The nil slice. -/
theorem Row.nil {o : Own} {w : World} {c e sz : Nat} : Row o w c e sz ⟨none, 0, 0⟩ [] := ⟨⟨by simp, .inl ⟨rfl, rfl⟩⟩, fun _ h => by cases h⟩
/-- A literal of one element, just boxed. -/
theorem Blk.rd1 {o : Own} {w : World} {c b : Nat} {cs : List Value} {t : TypeId} {fr : Nat × Nat} {sz : Nat} (h : Blk o w c b (.cells cs.toArray t fr)) (hl : cs.length = sz) : Rd o w c sz ⟨some ⟨b, 0, none⟩, 1, 1⟩ cs :=
  ⟨by simp [hl], by simp [maxLen], fun _ => ⟨b, 0, rfl, h.own, lt_of_heap h.heap, fun j v hj => by rw [h.cell, Nat.zero_add]; simpa using hj⟩⟩
end Go.Proofs.YtajilfnceoeaiaaGreat.V
/- What the quiet functions answer: slack. -/
namespace Go.Proofs.YtajilfnceoeaiaaGreat.V
open Go Go.RowKit Enc
set_option maxRecDepth 100000
def zT : ATask := ⟨⟨0, 0, ⟨none, 0, 0⟩, ⟨none, 0, 0⟩⟩, [], []⟩
def tk (T : List ATask) (k : Nat) : ATask := (T[k]?).getD zT
def perN (T : List ATask) (k : Nat) : Int := (tk T k).t.period
theorem tk_get {T : List ATask} {k : Nat} (h : k < T.length) : tk T k = T[k] := by simp [tk, h]
def fromZ (N : List Int) (now : Int) (k : Nat) : Int := if N.getD k 0 > now then N.getD k 0 else now
def deadO (J : List Job) (n : Int) : Option Int := (J.find? fun j => j.task == n).map fun j => j.deadline
def mayZ (T : List ATask) (N : List Int) (J : List Job) (now : Int) (k : Nat) (x : Int) : Bool := (match deadO J k with | some d => decide (d ≤ x) | none => false) || decide (wz (fromZ N now k + perN T k) ≤ x)
def blkZ (T : List ATask) (N : List Int) (J : List Job) (now : Int) (h : Held) (x : Int) (n : Nat) : Bool :=
  (List.range n).any fun k => decide (perN T k > 0) && decide (perN T k < perN T h.task.toNat) && decide (perN T k ≥ ceilZ T h.sem) && mayZ T N J now k x
def holdsZ (m : Mach) (T : List ATask) (N : List Int) (J : List Job) (now : Int) (h : Held) (x : Int) : Int := if blkZ T N J now h x T.length then wz ((if 0 > h.left then 0 else h.left) * slowZ m) else 0
def hindOne (m : Mach) (T : List ATask) (N : List Int) (J : List Job) (now x a : Int) (h : Held) : Int :=
  match deadO J h.task with | some d => if d > x then (if holdsZ m T N J now h x > a then holdsZ m T N J now h x else a) else a | none => a
def hindZ (m : Mach) (T : List ATask) (N : List Int) (J : List Job) (H : List Held) (now x : Int) : Int := H.foldl (hindOne m T N J now x) 0
def lev0 (m : Mach) : Int := (m.L.getD 0 ⟨0, 0⟩).p
def jqZ (m : Mach) (j : Job) : Int := if j.started then wz (wz ((if 0 > j.left then 0 else j.left) * lev0 m) + m.p.switch) else wz (wz (wz ((if 0 > j.left then 0 else j.left) * lev0 m) + m.p.switch) + m.p.switch)
def dueOne (m : Mach) (x a : Int) (j : Job) : Int := if j.deadline ≤ x then wz (a - jqZ m j) else a
def timesZ (u n : Int) : Int := wz (clampZ u 0 17179869184 * clampZ n 0 134217728)
def comeOne (m : Mach) (T : List ATask) (N : List Int) (now x a : Int) (k : Nat) : Int := if perN T k > 0 then wz (a - timesZ (partZ m (tk T k) 0) (wz (x - fromZ N now k))) else a
/-- How much there is up to a moment. -/
def atZ (m : Mach) (T : List ATask) (N : List Int) (J : List Job) (H : List Held) (now x : Int) : Int :=
  (List.range T.length).foldl (comeOne m T N now x) (wholeZ (J.foldl (dueOne m x) (wz (wz (x - now) - hindZ m T N J H now x))))
/-- What slack looks at. -/
structure VwR (o : Own) (w : World) (b : Nat) (m : Mach) (ts ns js hs : Sl) (T : List ATask) (N : List Int) (J : List Job) (H : List Held) (now : Int) (ct cn : Nat) : Prop where
  bx : Bx w b 0 [.slice m.p.levels.a m.p.levels.n m.p.levels.c, .slice m.p.sleeps.a m.p.sleeps.n m.p.sleeps.c, .slice m.p.devices.a m.p.devices.n m.p.devices.c, .int .i64 m.p.idle, .int .i64 m.p.crit, .int .i64 m.p.switch, .int .i64 m.p.switchE, .int .i64 m.p.sems, .int .i64 m.p.horizon,
    .slice ts.a ts.n ts.c, .slice ns.a ns.n ns.c, .slice js.a js.n js.c, .slice hs.a hs.n hs.c, .int .i64 now]
  mR : MachR o w m
  crit : CritOk m
  TR : TasksR o w ct ts T
  NR : RL o w cn ns N
  JR : RL o w 0 js J
  HR : RL o w 0 hs H
  len : N.length = T.length
  held : ∀ h ∈ H, 0 ≤ h.task ∧ h.task < T.length
section
variable {o : Own} {w : World} {b : Nat} {m : Mach} {ts ns js hs : Sl} {T : List ATask} {N : List Int} {J : List Job} {H : List Held} {now : Int} {ct cn : Nat}
theorem VwR.below {w' : World} (h : VwR o w b m ts ns js hs T N J H now ct cn) (u : Below w.heap.size w w') : VwR o w' b m ts ns js hs T N J H now ct cn :=
  ⟨h.bx.below u, h.mR.below u, h.crit, h.TR.below u, h.NR.below u, h.JR.below u, h.HR.below u, h.len, h.held⟩
theorem vfrom_spec (n : Int) (h : VwR o w b m ts ns js hs T N J H now ct cn) (h0 : 0 ≤ n) (h1 : n < T.length) :
    Call P 211 [.pointer (some ⟨b, 0, none⟩), .int .i64 n] [sI] (fun r w' => Below w.heap.size w w' ∧ r = fromZ N now n.toNat) w := by
  obtain ⟨k, rfl⟩ : ∃ k : Nat, n = k := ⟨n.toNat, by omega⟩
  have hk : k < N.length := by rw [h.len]; omega
  have h := h.below (w' := w.drew) bdrew
  refine f211_of _ _ (WA (h.bx.ld (x := now) rfl (WA (h.bx.ld (x := ns) rfl ?_))))
  refine h.NR.int rfl (List.getElem?_eq_getElem hk) ⟨bdrew, ?_⟩
  rw [Int.toNat_natCast, fromZ, List.getD_eq_getElem?_getD, List.getElem?_eq_getElem hk]
  rfl
theorem vdead_spec (n : Int) (h : VwR o w b m ts ns js hs T N J H now ct cn) :
    Call P 216 [.pointer (some ⟨b, 0, none⟩), .int .i64 n] [sI, sB] (fun d ok w' => Below w.heap.size w w' ∧ ((ok = true ∧ deadO J n = some d) ∨ (ok = false ∧ deadO J n = none))) w := by
  have hn := h.JR.n
  have hmax := h.JR.max
  refine f216_of _ _ (WA (h.bx.ld (x := js) rfl ?_))
  refine ⟨fun i w' => ∃ k : Nat, i = k ∧ k ≤ J.length ∧ Below w.heap.size w w' ∧ ∀ y ∈ J.take k, (y.task == n) = false, fun i _ => J.length - i.toNat, ⟨0, rfl, Nat.zero_le _, Below.refl _ _, fun y hy => by cases hy⟩, ?_⟩
  rintro _ v ⟨k, rfl, hk, u, hno⟩ _
  refine If_d (fun hlt => ?_) (fun hlt => ?_)
  · have hk' : k < J.length := by omega
    refine (h.JR.below u).job rfl (List.getElem?_eq_getElem hk') ?_
    refine NewSt_of rfl fun b2 w2 c2 u2 => ?_
    rw [wz1 (by omega) hmax]
    refine c2.ld (x := J[k].task) rfl (If_eq (fun e => c2.ld (x := J[k].deadline) rfl ⟨u.on u2, .inl ⟨rfl, ?_⟩⟩) fun e => ?_)
    · have hf : J.find? (fun j => j.task == n) = some J[k] := by
        rw [List.find?_eq_some_iff_append]
        refine ⟨by simpa using e, J.take k, J.drop (k + 1), ?_, fun y hy => by rw [hno y hy]; rfl⟩
        rw [← List.drop_eq_getElem_cons hk', List.take_append_drop]
      rw [deadO, hf]
      rfl
    · refine ⟨⟨k + 1, rfl, hk', u.on u2, fun y hy => ?_⟩, by simp; omega⟩
      rw [List.take_succ_eq_append_getElem hk'] at hy
      rcases List.mem_append.1 hy with hy | hy
      · exact hno y hy
      · rw [List.mem_singleton.1 hy]
        simpa using e
  · have hke : k = J.length := by omega
    subst hke
    rw [List.take_length] at hno
    refine ⟨u, .inr ⟨rfl, ?_⟩⟩
    rw [deadO, List.find?_eq_none.2 fun y hy => by rw [hno y hy]; decide]
    rfl
theorem vmay_spec (n x2 : Int) (h : VwR o w b m ts ns js hs T N J H now ct cn) (h0 : 0 ≤ n) (h1 : n < T.length) :
    Call P 218 [.pointer (some ⟨b, 0, none⟩), .int .i64 n, .int .i64 x2] [sB] (fun r w' => Below w.heap.size w w' ∧ r = mayZ T N J now n.toNat x2) w := by
  obtain ⟨k, rfl⟩ : ∃ k : Nat, n = k := ⟨n.toNat, by omega⟩
  have hk : k < T.length := by omega
  have hx : (T.map ATask.t)[k]? = some T[k].t := by simp [hk]
  refine f218_of _ _ _ ?_
  have hc := vdead_spec k h
  refine hc.imp2 ?_
  rintro r1 r2 w1 ⟨u1, hd⟩
  have h1' := (h.below u1).below (w' := w1.drew) bdrew
  have u1 := u1.drew
  have hh : ∀ K : Bool → World → Prop, (∀ w', Below w.heap.size w w' → K (decide (wz (fromZ N now k + perN T k) ≤ x2)) w') → WithAddr (some ⟨b, 0, none⟩) fun a3 => Ld (.ks) (a3.add 9) (fun s4 w => ((0 : Int) ≤ k ∧ (k : Int) < ((s4.n : Nat) : Int)) ∧ WithAddr s4.a fun a5 =>
      Ld (.ki .i64) ((a5.add (Int.toNat k * 4)).add 0) (fun n6 w => Call P 211 [.pointer (some ⟨b, 0, none⟩), .int .i64 k] [sI] (fun n7 w =>
        (w.cell? (((a5.add (Int.toNat k * 4)).add 0).add 0) = some (.int .i64 n6)) ∧ (w.cell? ((a3.add 9).add 0) = some (.slice s4.a s4.n s4.c)) ∧ K (decide ((IntKind.wrap .i64 (n7 + n6)) ≤ x2)) w) w) w) w1.drew := by
    intro K hK
    refine WA (h1'.bx.ld (x := ts) rfl ?_)
    refine h1'.TR.rl.at rfl hx fun b2 off hb => ?_
    have e1 : sz Task = 4 := rfl
    rw [e1] at hb
    refine Ld_of (x := T[k].t.period) (by rw [Addr.add_mk, Addr.add_mk]; exact hb.cell 0 _ rfl) ?_
    have hc := vfrom_spec k h1' h0 (by omega)
    refine hc.imp1 ?_
    rintro r w2 ⟨u2, rfl⟩
    refine ⟨?_, (h1'.bx.below u2).get0 rfl, ?_⟩
    rotate_left
    · have e2 : perN T k = T[k].t.period := by rw [perN, tk_get hk]
      have e3 := hK _ (u1.on u2)
      rw [e2] at e3
      exact e3
    rw [Addr.add_mk, Addr.add_mk, Addr.add_mk]
    exact (hb.below u2).cell 0 _ rfl
  refine If_b (fun e => ?_) fun e => ?_
  · have hd : deadO J k = some r1 := by
      rcases hd with ⟨_, h⟩ | ⟨h, _⟩
      · exact h
      · rw [e] at h; cases h
    refine If_d (fun hle => ⟨u1, ?_⟩) fun hle => ?_
    · rw [mayZ, Int.toNat_natCast, hd]
      have hle : r1 ≤ x2 := hle
      simp [hle]
    · refine hh (fun r w' => Below w.heap.size w w' ∧ r = mayZ T N J now (Int.toNat (k : Int)) x2) fun w' hb => ⟨hb, ?_⟩
      have hle : ¬ r1 ≤ x2 := hle
      rw [mayZ, Int.toNat_natCast, hd]
      simp [hle]
  · have hd : deadO J k = none := by
      rcases hd with ⟨h, _⟩ | ⟨_, h⟩
      · rw [e] at h; cases h
      · exact h
    refine hh (fun r w' => Below w.heap.size w w' ∧ r = mayZ T N J now (Int.toNat (k : Int)) x2) fun w' hb => ⟨hb, ?_⟩
    rw [mayZ, Int.toNat_natCast, hd]
    simp
theorem vholds_spec (x : Held) (x2 : Int) (h : VwR o w b m ts ns js hs T N J H now ct cn) (hx : x ∈ H) :
    Call P 217 [.pointer (some ⟨b, 0, none⟩), x.v, .int .i64 x2] [sI] (fun r w' => Below w.heap.size w w' ∧ r = holdsZ m T N J now x x2) w := by
  obtain ⟨h0, h1⟩ := h.held x hx
  obtain ⟨k, hk⟩ : ∃ k : Nat, x.task = k := ⟨x.task.toNat, by omega⟩
  have hk' : k < T.length := by omega
  have hxk : (T.map ATask.t)[k]? = some T[k].t := by simp [hk']
  have hn := h.TR.rl.n
  rw [List.length_map] at hn
  have hmax := h.TR.rl.max
  refine f217_of _ _ _ (New_of fun b1 w1 c1 u1 => ?_)
  have h1' := (h.below u1).below (w' := w1.drew) bdrew
  have u1 := u1.drew
  have c1 := c1.drew
  refine WA (h1'.bx.ld (x := ts) rfl (c1.ld (x := x.task) rfl ?_))
  refine h1'.TR.rl.at hk hxk fun b2 off hb => ?_
  rw [show sz Task = 4 from rfl] at hb
  rw [hk, Int.toNat_natCast]
  refine Ld_of (x := T[k].t.period) (by rw [Addr.add_mk, Addr.add_mk]; exact hb.cell 0 _ rfl) ?_
  refine WA (h1'.bx.ld (x := ts) rfl (c1.ld (x := x.sem) rfl ?_))
  have hc := ceil_spec ts T x.sem h1'.TR
  refine hc.imp1 ?_
  rintro r w2 ⟨u2, rfl⟩
  have h2 := h1'.below u2
  have c2 := c1.below u2
  have hb2 := hb.below u2
  refine ⟨?_, c2.get0 (by rw [← hk]; rfl), h2.bx.get0 rfl, WA (h2.bx.ld (x := ts) rfl ?_)⟩
  · rw [Addr.add_mk, Addr.add_mk, Addr.add_mk]
    exact hb2.cell 0 _ rfl
  refine ⟨fun i w' => ∃ j : Nat, i = j ∧ j ≤ T.length ∧ Below w2.heap.size w2 w' ∧ blkZ T N J now x x2 j = false, fun i _ => T.length - i.toNat, ⟨0, rfl, Nat.zero_le _, Below.refl _ _, rfl⟩, ?_⟩
  rintro _ v ⟨j, rfl, hj, u, hno⟩ _
  have c2 := c2.below u
  have h3 := h2.below u
  have u13 := (u1.on u2).on u
  have hown : perN T x.task.toNat = T[k].t.period := by rw [hk, Int.toNat_natCast, perN, tk_get hk']
  refine If_d (fun hlt => ?_) (fun hlt => ?_)
  rotate_left
  · have hje : j = T.length := by omega
    subst hje
    exact ⟨u13, by rw [holdsZ, hno]; rfl⟩
  have hj' : j < T.length := by omega
  have hpj : perN T j = T[j].t.period := by rw [perN, tk_get hj']
  have hsucc : ∀ c : Bool, (decide (perN T j > 0) && decide (perN T j < perN T x.task.toNat) && decide (perN T j ≥ ceilZ T x.sem) && mayZ T N J now j x2) = c → blkZ T N J now x x2 (j + 1) = c := by
    intro c hc
    unfold blkZ at hno ⊢
    rw [List.range_succ, List.any_append, hno, List.any_cons, hc]
    simp
  have hxj : (T.map ATask.t)[j]? = some T[j].t := by simp [hj']
  refine h3.TR.rl.task rfl hxj ?_
  refine NewSt_of rfl fun b4 w4 c4 u4 => ?_
  rw [wz1 (by omega) hmax]
  have fin : ∀ w5, Below w4.heap.size w4 w5 → (decide (perN T j > 0) && decide (perN T j < perN T x.task.toNat) && decide (perN T j ≥ ceilZ T x.sem) && mayZ T N J now j x2) = false → (∃ i : Nat, ((j + 1 : Nat) : Int) = i ∧ i ≤ T.length ∧ Below w2.heap.size w2 w5 ∧ blkZ T N J now x x2 i = false) ∧ T.length - Int.toNat ((j + 1 : Nat) : Int) < T.length - Int.toNat (j : Int) := fun w5 u5 hf =>
    ⟨⟨j + 1, rfl, hj', (u.on u4).on u5, hsucc _ hf⟩, by simp; omega⟩
  refine c4.ld (x := T[j].t.period) rfl (If_d (fun g1 => ?_) fun g1 => fin _ (Below.refl _ _) (by rw [hpj]; have g1 : ¬ T[j].t.period > 0 := g1; simp [g1]))
  refine c4.ld (x := T[j].t.period) rfl (If_d (fun g2 => ?_) fun g2 => fin _ (Below.refl _ _) (by rw [hpj, hown]; have g2 : ¬ T[j].t.period < T[k].t.period := g2; simp [g2]))
  refine c4.ld (x := T[j].t.period) rfl (If_d (fun g3 => ?_) fun g3 => fin _ (Below.refl _ _) (by rw [hpj, hown]; have g3 : ¬ T[j].t.period ≥ ceilZ T x.sem := g3; simp [g3]))
  have g1 : T[j].t.period > 0 := g1
  have g2 : T[j].t.period < T[k].t.period := g2
  have g3 : T[j].t.period ≥ ceilZ T x.sem := g3
  have hc := vmay_spec j x2 (h3.below u4) (by omega) (by omega)
  refine hc.imp1 ?_
  rintro r w5 ⟨u5, hr⟩
  rw [Int.toNat_natCast] at hr
  refine If_b (fun e => ?_) fun e => fin _ u5 (by rw [← hr, e]; simp)
  have hb1 : blkZ T N J now x x2 T.length = true := by
    have h1 := hsucc true (by rw [← hr, e, hpj, hown]; simp [g1, g2, g3])
    unfold blkZ at h1 ⊢
    rw [List.any_eq_true] at h1 ⊢
    obtain ⟨y, hy, hy2⟩ := h1
    exact ⟨y, List.mem_range.2 (by have := List.mem_range.1 hy; omega), hy2⟩
  have c5 := ((c2.below u4).below u5).drew
  have h5 := ((h3.below u4).below u5).below (w' := w5.drew) bdrew
  obtain ⟨q0, q1⟩ := h.crit
  obtain ⟨q, hq⟩ : ∃ q : Nat, m.p.crit = q := ⟨m.p.crit.toNat, by omega⟩
  have hq' : q < m.L.length := by omega
  refine c5.ld (x := x.left) rfl (WA ?_)
  refine Ld_of (x := m.p.levels) (by rw [Addr.add_mk, Addr.add_mk]; exact h5.bx.cell 0 _ rfl) (WA ?_)
  refine Ld_of (x := m.p.crit) (by rw [Addr.add_mk, Addr.add_mk]; exact h5.bx.cell 4 _ rfl) ?_
  refine h5.mR.L.fld (f := 0) (e := .ki .i64) (y := m.L[q].p) hq (List.getElem?_eq_getElem hq') rfl rfl ⟨((u13.on u4).on u5).drew, ?_⟩
  rw [holdsZ, hb1, if_pos rfl]
  have hsl : slowZ m = m.L[q].p := by simp [slowZ, hq, hq']
  rw [hsl]
theorem vhind_spec (x1 : Int) (h : VwR o w b m ts ns js hs T N J H now ct cn) :
    Call P 213 [.pointer (some ⟨b, 0, none⟩), .int .i64 x1] [sI] (fun r w' => Below w.heap.size w w' ∧ r = hindZ m T N J H now x1) w := by
  have hn := h.HR.n
  have hmax := h.HR.max
  refine f213_of _ _ (WA (h.bx.ld (x := hs) rfl ?_))
  refine ⟨fun a i w' => ∃ k : Nat, i = k ∧ k ≤ H.length ∧ Below w.heap.size w w' ∧ a = (H.take k).foldl (hindOne m T N J now x1) 0, fun _ i _ => H.length - i.toNat, ⟨0, rfl, Nat.zero_le _, Below.refl _ _, rfl⟩, ?_⟩
  rintro a _ v ⟨k, rfl, hk, u, hae⟩ _
  refine If_d (fun hlt => ?_) (fun hlt => ?_)
  rotate_left
  · have hke : k = H.length := by omega
    subst hke
    rw [List.take_length] at hae
    exact ⟨u, hae⟩
  have hk' : k < H.length := by omega
  refine (h.HR.below u).held rfl (List.getElem?_eq_getElem hk') ?_
  refine NewSt_of rfl fun b2 w2 c2 u2 => ?_
  rw [wz1 (by omega) hmax]
  have fin : ∀ a' w5, Below w2.heap.size w2 w5 → hindOne m T N J now x1 a H[k] = a' → (∃ i : Nat, ((k + 1 : Nat) : Int) = i ∧ i ≤ H.length ∧ Below w.heap.size w w5 ∧ a' = (H.take i).foldl (hindOne m T N J now x1) 0) ∧ H.length - Int.toNat ((k + 1 : Nat) : Int) < H.length - Int.toNat (k : Int) := fun (a' : Int) w5 u5 he =>
    ⟨⟨k + 1, rfl, hk', (u.on u2).on u5, by rw [List.take_succ_eq_append_getElem hk', List.foldl_append, ← hae]; exact he.symm⟩, by simp; omega⟩
  refine c2.ld (x := H[k].task) rfl ?_
  have hc := vdead_spec H[k].task ((h.below u).below u2)
  refine hc.imp2 ?_
  rintro r1 r2 w3 ⟨u3, hd⟩
  refine If_b (fun e => ?_) fun e => fin a _ u3 ?_
  rotate_left
  · have hd : deadO J H[k].task = none := by
      rcases hd with ⟨h, _⟩ | ⟨_, h⟩
      · rw [e] at h; cases h
      · exact h
    rw [hindOne, hd]
  have hd : deadO J H[k].task = some r1 := by
    rcases hd with ⟨_, h⟩ | ⟨h, _⟩
    · exact h
    · rw [e] at h; cases h
  refine If_d (fun g => ?_) fun g => fin a _ u3 ?_
  rotate_left
  · have g : ¬ r1 > x1 := g
    rw [hindOne, hd]
    simp only [if_neg g]
  have g : r1 > x1 := g
  refine (c2.below u3).ldHeld (x := H[k]) ?_
  have hc := vholds_spec H[k] x1 (((h.below u).below u2).below u3) (List.getElem_mem hk')
  refine hc.imp1 ?_
  rintro r w4 ⟨u4, rfl⟩
  refine fin _ _ (u3.on u4) ?_
  rw [hindOne, hd]
  simp only [if_pos g]
theorem jquanta_spec (j : Job) (hm : MachR o w m) (hL : 0 < m.L.length) : Call P 214 [m.p.v, j.v] [sI] (fun r w' => Below w.heap.size w w' ∧ r = jqZ m j) w := by
  have hl0 : lev0 m = m.L[0].p := by simp [lev0, hL]
  refine f214_of _ _ (New_of fun b1 w1 c1 u1 => New_of fun b2 w2 c2 u2 => ?_)
  have c1 := (c1.below u2).drew
  have c2 := c2.drew
  have u := (u1.on u2).drew
  refine c2.ld (x := j.left) rfl (c1.ld (x := m.p.levels) rfl ?_)
  refine ((hm.L.below u)).fld (f := 0) (e := .ki .i64) (y := m.L[0].p) (k := 0) rfl (List.getElem?_eq_getElem hL) rfl rfl ?_
  refine c1.ld (x := m.p.switch) rfl (c2.ld (x := j.started) rfl (If_not (If_b (fun e => ⟨u, by rw [jqZ, hl0]; exact (if_pos e).symm⟩) fun e => c1.ld (x := m.p.switch) rfl ⟨u, by rw [jqZ, hl0]; exact (if_neg (by rw [e]; decide)).symm⟩)))
theorem vat_spec (x1 : Int) (h : VwR o w b m ts ns js hs T N J H now ct cn) :
    Call P 212 [.pointer (some ⟨b, 0, none⟩), .int .i64 x1] [sI] (fun r w' => Below w.heap.size w w' ∧ r = atZ m T N J H now x1) w := by
  have hL : 0 < m.L.length := by have := h.crit.lo; have := h.crit.hi; omega
  have h0 := h.below (w' := w.drew) bdrew
  refine f212_of _ _ (WA (h0.bx.ld (x := now) rfl ?_))
  have hc := vhind_spec x1 h0
  refine hc.imp1 ?_
  rintro r1 w1 ⟨u1, rfl⟩
  have h := h0.below u1
  have u1 := (bdrew (o := w)).on u1
  have hn := h.JR.n
  have hmax := h.JR.max
  have hn2 := h.TR.rl.n
  rw [List.length_map] at hn2
  have hmax2 := h.TR.rl.max
  refine ⟨h.bx.get0 rfl, WA (h.bx.ld (x := js) rfl ?_)⟩
  refine ⟨fun a i w' => ∃ k : Nat, i = k ∧ k ≤ J.length ∧ Below w1.heap.size w1 w' ∧ a = (J.take k).foldl (dueOne m x1) (wz (wz (x1 - now) - hindZ m T N J H now x1)), fun _ i _ => J.length - i.toNat, ⟨0, rfl, Nat.zero_le _, Below.refl _ _, rfl⟩, ?_⟩
  rintro a _ v ⟨k, rfl, hk, u, hae⟩ _
  have h := h.below u
  refine If_d (fun hlt => ?_) (fun hlt => ?_)
  · have hk' : k < J.length := by omega
    refine h.JR.job rfl (List.getElem?_eq_getElem hk') ?_
    refine NewSt_of rfl fun b2 w2 c2 u2 => ?_
    rw [wz1 (by omega) hmax]
    have hsucc : ∀ a', dueOne m x1 a J[k] = a' → a' = (J.take (k + 1)).foldl (dueOne m x1) (wz (wz (x1 - now) - hindZ m T N J H now x1)) := fun a' h => by
      rw [List.take_succ_eq_append_getElem hk', List.foldl_append, ← hae]
      exact h.symm
    refine c2.ld (x := J[k].deadline) rfl (If_d (fun g => ?_) fun g => ⟨⟨k + 1, rfl, hk', u.on u2, hsucc _ (if_neg g)⟩, by simp; omega⟩)
    have h2 := (h.below u2).below (w' := w2.drew) bdrew
    refine WA ?_
    refine LdN_of (vs := m.p.l) (fun j v hv => ?_) ?_
    · rw [Addr.add_mk, Addr.add_mk]
      have hj : j < 9 := (List.getElem?_eq_some_iff.1 hv).1
      refine h2.bx.cell (0 + j) v ?_
      rw [Nat.zero_add, ← hv]
      match j, hj with
      | 0, _ => rfl
      | 1, _ => rfl
      | 2, _ => rfl
      | 3, _ => rfl
      | 4, _ => rfl
      | 5, _ => rfl
      | 6, _ => rfl
      | 7, _ => rfl
      | 8, _ => rfl
    · refine c2.drew.ldJob (x := J[k]) ?_
      have hc := jquanta_spec (m := m) J[k] h2.mR hL
      refine hc.imp1 ?_
      rintro r3 w3 ⟨u3, rfl⟩
      exact ⟨⟨k + 1, rfl, hk', (u.on u2).drew.on u3, hsucc _ (if_pos g)⟩, by simp; omega⟩
  · have hke : k = J.length := by omega
    subst hke
    rw [List.take_length] at hae
    have hc := whole_spec a v
    refine hc.imp1 ?_
    rintro r w2 ⟨u2, hre⟩
    rw [hae] at hre
    have h2 := h.below u2
    have u12 := (u1.on u).on u2
    refine WA (h2.bx.ld (x := ts) rfl ?_)
    refine ⟨fun a i w' => ∃ k : Nat, i = k ∧ k ≤ T.length ∧ Below w2.heap.size w2 w' ∧ a = (List.range k).foldl (comeOne m T N now x1) r, fun _ i _ => T.length - i.toNat, ⟨0, rfl, Nat.zero_le _, Below.refl _ _, rfl⟩, ?_⟩
    rintro a2 _ v ⟨j, rfl, hj, u, hae2⟩ _
    have h3 := h2.below u
    refine If_d (fun hlt => ?_) (fun hlt => ?_)
    rotate_left
    · have hje : j = T.length := by omega
      subst hje
      rw [hre] at hae2
      exact ⟨u12.on u, hae2⟩
    have hsucc : ∀ a', comeOne m T N now x1 a2 j = a' → a' = (List.range (j + 1)).foldl (comeOne m T N now x1) r := fun a' h => by
      rw [List.range_succ, List.foldl_append, ← hae2]
      exact h.symm
    have hj' : j < T.length := by omega
    have hxj : (T.map ATask.t)[j]? = some T[j].t := by simp [hj']
    refine h3.TR.rl.task rfl hxj ?_
    refine NewSt_of rfl fun b4 w4 c4 u4 => ?_
    rw [wz1 (by omega) hmax2]
    have hpj : perN T j = T[j].t.period := by rw [perN, tk_get hj']
    refine c4.ld (x := T[j].t.period) rfl (If_d (fun g => ?_) fun g => ⟨⟨j + 1, rfl, hj', u.on u4, hsucc _ (if_neg (by rw [hpj]; exact g))⟩, by simp; omega⟩)
    have h4 := (h3.below u4).below (w' := w4.drew) bdrew
    have keep : ∀ {w5 : World}, Below w4.drew.heap.size w4.drew w5 → ∀ j v, m.p.l[j]? = some v → w5.cell? (((⟨b, 0, none⟩ : Addr).add 0).add j) = some v := by
      intro w5 u5 j v hv
      rw [Addr.add_mk, Addr.add_mk]
      have hj : j < 9 := (List.getElem?_eq_some_iff.1 hv).1
      refine (h4.below u5).bx.cell j v ?_
      rw [← hv]
      match j, hj with
      | 0, _ => rfl
      | 1, _ => rfl
      | 2, _ => rfl
      | 3, _ => rfl
      | 4, _ => rfl
      | 5, _ => rfl
      | 6, _ => rfl
      | 7, _ => rfl
      | 8, _ => rfl
    refine WA (LdN_of (vs := m.p.l) (fun j v hv => by rw [Nat.zero_add]; exact keep (Below.refl _ _) j v hv) ?_)
    refine c4.drew.ldTask (x := T[j].t) ?_
    have hc := part_spec m T[j] 0 h4.mR
    refine hc.imp1 ?_
    rintro r w5 ⟨u5, rfl⟩
    have hc := vfrom_spec j (h4.below u5) (by omega) (by omega)
    refine hc.imp1 ?_
    rintro r6 w6 ⟨u6, rfl⟩
    have c6 := (c4.drew.below u5).below u6
    have k6 := @keep _ (u5.on u6)
    refine ⟨⟨c6.get rfl, c6.get rfl, c6.get rfl, c6.get rfl⟩, ⟨k6 0 _ rfl, k6 1 _ rfl, k6 2 _ rfl, k6 3 _ rfl, k6 4 _ rfl, k6 5 _ rfl, k6 6 _ rfl, k6 7 _ rfl, k6 8 _ rfl⟩, ?_⟩
    have hc := times_spec (partZ m T[j] 0) (IntKind.wrap .i64 (x1 - fromZ N now (Int.toNat (j : Int)))) w6
    refine hc.imp1 ?_
    rintro r w7 ⟨u7, rfl⟩
    have c7 := c6.below u7
    have k7 := @keep _ ((u5.on u6).on u7)
    refine ⟨⟨c7.get rfl, c7.get rfl, c7.get rfl, c7.get rfl⟩, ⟨k7 0 _ rfl, k7 1 _ rfl, k7 2 _ rfl, k7 3 _ rfl, k7 4 _ rfl, k7 5 _ rfl, k7 6 _ rfl, k7 7 _ rfl, k7 8 _ rfl⟩, ?_⟩
    refine ⟨⟨j + 1, rfl, hj', ((((u.on u4).drew.on u5).on u6).on u7), hsucc _ ?_⟩, by simp; omega⟩
    rw [comeOne, if_pos (by rw [hpj]; exact g), tk_get hj', Int.toNat_natCast]
    rfl
end
end Go.Proofs.YtajilfnceoeaiaaGreat.V
/- What the quiet functions answer: slack.Least, govern, nap, rest, pick, plan. -/
namespace Go.Proofs.YtajilfnceoeaiaaGreat.V
open Go Go.RowKit Enc
set_option maxRecDepth 100000
/-- All that is there, in one colour. -/
def still (w : World) : Own := fun b => if b < w.heap.size then 0 else 97
section
variable {o : Own} {w : World}
theorem Rd.still {c sz : Nat} {s : Sl} {xs : List Value} (h : Rd o w c sz s xs) : Rd (still w) w 0 sz s xs :=
  ⟨h.len, h.max, fun hne => by
    obtain ⟨b, off, h1, _, h3, h4⟩ := h.rd hne
    exact ⟨b, off, h1, by simp [V.still, h3], h3, h4⟩⟩
theorem RL.still {α : Type} [Enc α] {c : Nat} {s : Sl} {l : List α} (h : RL o w c s l) : RL (still w) w 0 s l := Rd.still h
theorem MachR.still {m : Mach} (h : MachR o w m) : MachR (still w) w m := ⟨h.L.still, h.S.still, h.D.still⟩
theorem TaskR.still {x : ATask} (h : TaskR o w x) : TaskR (still w) w x := ⟨h.sec.still, h.devs.still⟩
theorem TasksR.still {c : Nat} {s : Sl} {l : List ATask} (h : TasksR o w c s l) : TasksR (still w) w 0 s l := ⟨h.rl.still, fun x hx => (h.each x hx).still⟩
theorem Up.quiet {C : Nat → Bool} {o' : Own} {w' : World} (hC : C 0 = false) (u : Up C (still w) w o' w') : Below w.heap.size w w' :=
  ⟨u.os, u.tape, u.output, u.size, fun b hb => u.block b hb (by simp [V.still, hb, hC])⟩
end
section
variable {o : Own} {w : World} {b : Nat} {m : Mach} {ts ns js hs : Sl} {T : List ATask} {N : List Int} {J : List Job} {H : List Held} {now : Int} {ct cn : Nat}
theorem VwR.still (h : VwR o w b m ts ns js hs T N J H now ct cn) : VwR (still w) w b m ts ns js hs T N J H now 0 0 :=
  ⟨h.bx, h.mR.still, h.crit, h.TR.still, h.NR.still, h.JR.still, h.HR.still, h.len, h.held⟩
theorem VwR.up {C : Nat → Bool} {o' : Own} {w' : World} (h : VwR o w b m ts ns js hs T N J H now ct cn) (u : Up C o w o' w') (h0 : C 0 = false) (hb : C (o b) = false) (ht : C ct = false) (hn : C cn = false) : VwR o' w' b m ts ns js hs T N J H now ct cn :=
  ⟨h.bx.up u hb, h.mR.up u h0, h.crit, h.TR.up u h0 ht, h.NR.up u hn, h.JR.up u h0, h.HR.up u h0, h.len, h.held⟩
theorem intRd {o : Own} {w : World} {b c : Nat} {x : Int} {t : TypeId} (h : Blk o w c b (.cells [Value.int .i64 x].toArray t (0, 0))) : Rd o w c 1 ⟨some ⟨b, 0, none⟩, 1, 1⟩ [.int .i64 x] := h.rd1 rfl
theorem flat_int (l : List Int) : l.flatMap enc = l.map (Value.int .i64) := by
  induction l with
  | nil => rfl
  | cons x l ih => rw [List.flatMap_cons, ih]; rfl
theorem Row.ints {o : Own} {w : World} {c e : Nat} {s : Sl} {l : List Int} (h : Row o w c e 1 s (l.map (Value.int .i64))) : RL o w c s l := by
  have := h.rd
  unfold RL
  rw [flat_int]; exact this
theorem mn_le_l {x a b : Int} (h : a ≤ b) : (if x < a then x else a) ≤ b := by
  by_cases g : x < a
  · rw [if_pos g]; omega
  · rw [if_neg g]; exact h
theorem mn_le_r {x a b : Int} (h : x ≤ b) : (if x < a then x else a) ≤ b := by
  by_cases g : x < a
  · rw [if_pos g]; exact h
  · rw [if_neg g]; omega
/-- A moment that counts. -/
def InMom (T : List ATask) (N : List Int) (J : List Job) (now x : Int) : Prop := (∃ j ∈ J, x = j.deadline) ∨ ∃ k, k < T.length ∧ perN T k > 0 ∧ x = wz (fromZ N now k + perN T k)
theorem vleast_spec (x1 : Int) (h : VwR o w b m ts ns js hs T N J H now ct cn) (hsm : J.length + T.length ≤ 1000000) :
    Call P 204 [.pointer (some ⟨b, 0, none⟩), .int .i64 x1] [sI] (fun r w' => Below w.heap.size w w' ∧ ∀ x, InMom T N J now x → x ≥ x1 → r ≤ atZ m T N J H now x) w := by
  have hb := h.bx.lt
  have h := h.still
  have hob : still w b = 0 := by simp [V.still, hb]
  have hn := h.JR.n
  have hmax := h.JR.max
  have hn2 := h.TR.rl.n
  rw [List.length_map] at hn2
  have hmax2 := h.TR.rl.max
  refine f204_of _ _ (WA (h.bx.ld (x := js) rfl ?_))
  refine ⟨fun s i w' => ∃ (k : Nat) (o' : Own) (l : List Int), i = k ∧ k ≤ J.length ∧ l = (J.take k).map (fun j => j.deadline) ∧ Row o' w' 99 3 1 s (l.map (Value.int .i64)) ∧ Up (only [99]) (still w) w o' w', fun _ i _ => J.length - i.toNat,
    ⟨0, still w, [], rfl, Nat.zero_le _, rfl, Row.nil, Up.refl⟩, ?_⟩
  rintro s _ v ⟨k, o', l, rfl, hk, hle, hr, u⟩ _
  have hl : l.length = k := by rw [hle, List.length_map, List.length_take]; omega
  have hs1 : s.n = l.length := by have := hr.ints.n; exact this
  have hv := h.up u rfl (by rw [hob]; rfl) rfl rfl
  refine If_d (fun hlt => ?_) (fun hlt => ?_)
  · have hk' : k < J.length := by omega
    refine hv.JR.job rfl (List.getElem?_eq_getElem hk') ?_
    refine NewSt_of rfl fun b2 w2 c2 u2 => ?_
    refine c2.ld (x := J[k].deadline) rfl ?_
    refine New_blk o' 97 fun b3 o3 w3 k3 u3 _ => ?_
    have u2' : Up no o' v o' w2 := Up.of_below u2
    refine app_of (x := ⟨some ⟨b3, 0, none⟩, 1, 1⟩) etInt _ ((hr.up u2' rfl).up u3 rfl) (intRd k3) rfl Nat.zero_lt_one (by show (s.n + 1) * 8 ≤ _; omega) (by show s.n + 1 ≤ _; unfold maxLen; omega) ?_
    intro s' o4 w4 hr4 u4 hn4
    rw [wz1 (by omega) hmax]
    refine ⟨⟨k + 1, o4, l ++ [J[k].deadline], rfl, hk', by rw [hle, List.take_succ_eq_append_getElem hk', List.map_append]; rfl, by simpa using hr4, ((u.trans u2'.of_no).trans u3.of_no).trans u4⟩, by simp; omega⟩
  · obtain rfl : k = J.length := by omega
    refine WA (hv.bx.ld (x := ts) rfl ?_)
    refine ⟨fun s i w' => ∃ (k : Nat) (o' : Own) (l : List Int), i = k ∧ k ≤ T.length ∧ l.length ≤ J.length + k ∧ (∀ j ∈ J, j.deadline ∈ l) ∧ (∀ i, i < k → perN T i > 0 → wz (fromZ N now i + perN T i) ∈ l) ∧ Row o' w' 99 3 1 s (l.map (Value.int .i64)) ∧ Up (only [99]) (still w) w o' w', fun _ i _ => T.length - i.toNat,
      ⟨0, o', l, rfl, Nat.zero_le _, by omega, fun j hj => by rw [hle, List.take_length]; exact List.mem_map.2 ⟨j, hj, rfl⟩, fun i hi => by omega, hr, u⟩, ?_⟩
    clear hr u hv hs1 hl hle
    rintro s _ v ⟨k, o', l, rfl, hk, hl, hlJ, hlT, hr, u⟩ _
    have hs1 : s.n = l.length := by have := hr.ints.n; exact this
    have hv := h.up u rfl (by rw [hob]; rfl) rfl rfl
    refine If_d (fun hlt => ?_) (fun hlt => ?_)
    · have hk' : k < T.length := by omega
      have hx : (T.map ATask.t)[k]? = some T[k].t := by simp [hk']
      refine hv.TR.rl.task rfl hx ?_
      refine NewSt_blk o' 97 rfl fun b2 o2 w2 k2 u2 _ => ?_
      have c2 := k2.bx
      rw [wz1 (by omega) hmax2]
      have hpk : perN T k = T[k].t.period := by rw [perN, tk_get hk']
      refine c2.ld (x := T[k].t.period) rfl (If_d (fun g => ?_) fun g => ⟨⟨k + 1, o2, l, rfl, hk', by omega, hlJ, fun i hi hp => by
        by_cases e : i = k
        · subst e
          rw [hpk] at hp
          exact absurd hp g
        · exact hlT i (by omega) hp, hr.up u2 rfl, u.trans u2.of_no⟩, by simp; omega⟩)
      have k2 := k2.up (Up.drew (C := no)) rfl
      have u2 := u2.trans (Up.drew (C := no))
      have hv := hv.up u2 rfl rfl rfl rfl
      refine k2.bx.ld (x := T[k].t.period) rfl ?_
      have hc := vfrom_spec k hv (by omega) (by omega)
      refine hc.imp1 ?_
      rintro r w3 ⟨u3, hre⟩
      have u3' : Up no o2 _ o2 w3 := Up.of_below u3
      have k3 := k2.up u3' rfl
      refine ⟨k3.bx.get0 rfl, ?_⟩
      refine New_blk o2 97 fun b4 o4 w4 k4 u4 _ => ?_
      refine ⟨(k3.up u4 rfl).bx.get0 rfl, ?_⟩
      refine app_of (x := ⟨some ⟨b4, 0, none⟩, 1, 1⟩) etInt _ (((hr.up u2 rfl).up u3' rfl).up u4 rfl) (intRd k4) rfl Nat.zero_lt_one (by show (s.n + 1) * 8 ≤ _; omega) (by show s.n + 1 ≤ _; unfold maxLen; omega) ?_
      intro s' o5 w5 hr5 u5 hn5
      refine ⟨((k3.up u4 rfl).up u5 rfl).bx.get0 rfl, ?_⟩
      refine ⟨⟨k + 1, o5, l ++ [IntKind.wrap .i64 (r + T[k].t.period)], rfl, hk', by simp; omega, fun j hj => List.mem_append_left _ (hlJ j hj), fun i hi hp => by
        by_cases e : i = k
        · subst e
          rw [hre, hpk, Int.toNat_natCast]
          exact List.mem_append_right _ (List.mem_singleton.2 rfl)
        · exact List.mem_append_left _ (hlT i (by omega) hp), by simpa using hr5, (((u.trans u2.of_no).trans u3'.of_no).trans u4.of_no).trans u5⟩, by simp; omega⟩
    · have hc := whole_spec 1073741824 v
      refine hc.imp1 ?_
      rintro r w2 ⟨u2, rfl⟩
      have u2' : Up no o' v o' w2 := Up.of_below u2
      have hr := hr.up u2' rfl
      have u := u.trans u2'.of_no
      have hv := hv.up u2' rfl rfl rfl rfl
      have hsmax := hr.ints.max
      have hkT : k = T.length := by omega
      refine ⟨fun a i w' => ∃ k : Nat, i = k ∧ k ≤ l.length ∧ Below w2.heap.size w2 w' ∧ ∀ x ∈ l.take k, x ≥ x1 → a ≤ atZ m T N J H now x, fun _ i _ => l.length - i.toNat, ⟨0, rfl, Nat.zero_le _, Below.refl _ _, fun x hx => by cases hx⟩, ?_⟩
      rintro a _ v' ⟨j, rfl, hj, u3, ha⟩ _
      refine If_d (fun hlt => ?_) (fun hlt => ?_)
      · have hj' : j < l.length := by omega
        refine (hr.ints.below u3).int rfl (List.getElem?_eq_getElem hj') ?_
        rw [wz1 (by omega) hsmax]
        refine If_d (fun _ => ?_) fun g => ⟨⟨j + 1, rfl, hj', u3, fun x hx hge => ?_⟩, by simp; omega⟩
        rotate_left
        · rw [List.take_succ_eq_append_getElem hj'] at hx
          rcases List.mem_append.1 hx with hx | hx
          · exact ha x hx hge
          · rw [List.mem_singleton.1 hx] at hge
            exact absurd hge g
        have hc := vat_spec l[j] (hv.below u3)
        refine hc.imp1 ?_
        rintro r4 w4 ⟨u4, hr4⟩
        refine ⟨⟨j + 1, rfl, hj', u3.on u4, fun x hx hge => ?_⟩, by simp; omega⟩
        rw [List.take_succ_eq_append_getElem hj'] at hx
        rcases List.mem_append.1 hx with hx | hx
        · exact mn_le_l (ha x hx hge)
        · rw [List.mem_singleton.1 hx, ← hr4]
          exact mn_le_r (Int.le_refl _)
      · have hjl : j = l.length := by omega
        rw [hjl, List.take_length] at ha
        refine ⟨(u.trans (Up.of_below u3)).quiet rfl, fun x hx hge => ha x ?_ hge⟩
        rcases hx with ⟨j, hj, rfl⟩ | ⟨i, hi, hp, rfl⟩
        · exact hlJ j hj
        · exact hlT i (by omega) hp
end
theorem sleast_spec {o : Own} {w : World} {m : Mach} {ts ns js hs : Sl} {T : List ATask} {N : List Int} {J : List Job} {H : List Held} {now : Int} {ct cn : Nat} (x6 : Int)
    (mR : MachR o w m) (crit : CritOk m) (TR : TasksR o w ct ts T) (NR : RL o w cn ns N) (JR : RL o w 0 js J) (HR : RL o w 0 hs H) (len : N.length = T.length) (held : ∀ h ∈ H, 0 ≤ h.task ∧ h.task < T.length) (hsm : J.length + T.length ≤ 1000000) :
    Call P 191 [m.p.v, .slice ts.a ts.n ts.c, .slice ns.a ns.n ns.c, .slice js.a js.n js.c, .slice hs.a hs.n hs.c, .int .i64 now, .int .i64 x6] [sI] (fun r w' => Below w.heap.size w w' ∧ ∀ x, InMom T N J now x → x ≥ x6 → r ≤ atZ m T N J H now x) w := by
  refine f191_of _ _ _ _ _ _ _ (New_of fun b1 w1 c1 u1 => c1.ldPlat (x := m.p) (New_of fun b2 w2 c2 u2 => ?_))
  have u := u1.on u2
  have hv : VwR o w2 b2 m ts ns js hs T N J H now ct cn := ⟨c2, mR.below u, crit, TR.below u, NR.below u, JR.below u, HR.below u, len, held⟩
  have hc := vleast_spec x6 hv hsm
  refine hc.imp1 ?_
  rintro r w3 ⟨u3, hr⟩
  exact ⟨u.on u3, hr⟩
end Go.Proofs.YtajilfnceoeaiaaGreat.V
/- What the quiet functions answer: job, dev. -/
namespace Go.Proofs.YtajilfnceoeaiaaGreat.V
open Go Go.RowKit Enc
set_option maxRecDepth 100000
/-- The colours of a function's own boxes. -/
def loc : Nat → Bool := fun c => decide (90 ≤ c)
section
variable {o o' : Own} {w w' : World}
theorem Up.loc {c : Nat} (u : Up (only [c]) o w o' w') (h : 90 ≤ c) : Up V.loc o w o' w' := u.mono fun d hd => by
  simp only [V.loc, decide_eq_false_iff_not] at hd
  simp only [only, List.contains_eq_mem, List.mem_singleton, decide_eq_false_iff_not]
  omega
theorem Blk.st {c b f : Nat} {cs vs : List Value} {t : TypeId} {K : World → Prop} (k : Blk o w c b (.cells cs.toArray t (0, 0))) (hl : f + vs.length ≤ cs.length)
    (h : ∀ w', Blk o w' c b (.cells (splice cs f vs).toArray t (0, 0)) → Up (only [c]) o w o w' → K w') : StN vs 0 ((⟨b, 0, none⟩ : Addr).add f) K w := by
  rw [Addr.add_mk, Nat.zero_add]
  refine StN_of k.heap (by simpa using hl) fun w' h1 h2 h3 h4 h5 h6 => h w' ⟨k.own, by simpa using h1⟩ (Up.set1 (b := b) (by simp [only, k.own]) h2 h3 h4 h5 h6)
theorem Blk.st0 {c b : Nat} {cs vs : List Value} {t : TypeId} {K : World → Prop} (k : Blk o w c b (.cells cs.toArray t (0, 0))) (hl : cs.length = vs.length)
    (h : ∀ w', Blk o w' c b (.cells vs.toArray t (0, 0)) → Up (only [c]) o w o w' → K w') : StN vs 0 ⟨b, 0, none⟩ K w := by
  refine StN_of k.heap (by simp [hl]) fun w' h1 h2 h3 h4 h5 h6 => h w' ⟨k.own, ?_⟩ (Up.set1 (b := b) (by simp [only, k.own]) h2 h3 h4 h5 h6)
  rw [h1]
  congr 2
  simp [splice, hl]
theorem Up.quietL (u : Up V.loc (still w) w o' w') : Below w.heap.size w w' := u.quiet (by decide)
end
def jobNew (task : Int) (t : Task) (release cycles : Int) : Job := ⟨task, release, wz (release + t.period), t.cycles, cycles, false⟩
theorem jnew_spec (task : Int) (t : Task) (release cycles : Int) (w : World) :
    Call P 69 [.int .i64 task, t.v, .int .i64 release, .int .i64 cycles] [shJob] (fun a b c d e f w' => Below w.heap.size w w' ∧ (⟨a, b, c, d, e, f⟩ : Job) = jobNew task t release cycles) w := by
  refine f69_of _ _ _ _ (New_blk (still w) 90 fun b1 o1 w1 k1 u1 _ => New_blk o1 91 fun b2 o2 w2 k2 u2 _ => ?_)
  have c1 := (k1.up u2 rfl).bx
  refine c1.ld (x := t.period) rfl (c1.ld (x := t.cycles) rfl ?_)
  refine k2.st0 (by rfl) fun w3 k3 u3 => k3.bx.ldJob (x := jobNew task t release cycles) ?_
  exact ⟨((u1.trans u2).of_no.trans (u3.loc (by decide))).quietL, rfl⟩
def jobStep (j : Job) : Job := { j with left := wz (j.left - 1), real := wz (j.real - 1) }
def jobHow (j : Job) : Int := if wz (j.real - 1) ≤ 0 then 2 else if wz (j.left - 1) ≤ 0 then 3 else 0
theorem jstep_spec (j : Job) (w : World) : Call P 167 [j.v] [shJob, sI] (fun a b c d e f n w' => Below w.heap.size w w' ∧ (⟨a, b, c, d, e, f⟩ : Job) = jobStep j ∧ n = jobHow j) w := by
  refine f167_of _ (New_blk (still w) 90 fun b1 o1 w1 k1 u1 _ => New_blk o1 91 fun b2 o2 w2 k2 u2 _ => ?_)
  have k1 := k1.up u2 rfl
  refine k1.bx.ld (x := j.left) rfl (k1.st (by simp) fun w3 k3 u3 => ?_)
  have k2 := k2.up u3 rfl
  refine k3.bx.ld (x := j.real) rfl (k3.st (by simp [splice]) fun w4 k4 u4 => ?_)
  have k2 := k2.up u4 rfl
  have c4 : Bx w4 b1 0 (jobStep j).l := k4.bx
  have u : Up loc (still w) w o2 w4 := ((u1.trans u2).of_no.trans (u3.loc (by decide))).trans (u4.loc (by decide))
  refine c4.ld (x := (jobStep j).real) rfl (If_d (fun h1 => ?_) fun h1 => ?_)
  · refine c4.ldJob (k2.st0 (by rfl) fun w5 k5 u5 => k5.bx.ldJob (x := jobStep j) ⟨(u.trans (u5.loc (by decide))).quietL, rfl, ?_⟩)
    exact (if_pos h1).symm
  · refine c4.ld (x := (jobStep j).left) rfl (If_d (fun h2 => ?_) fun h2 => ?_)
    · refine c4.ldJob (k2.st0 (by rfl) fun w5 k5 u5 => k5.bx.ldJob (x := jobStep j) ⟨(u.trans (u5.loc (by decide))).quietL, rfl, ?_⟩)
      have h1' : ¬ wz (j.real - 1) ≤ 0 := h1
      have h2' : wz (j.left - 1) ≤ 0 := h2
      rw [jobHow, if_neg h1', if_pos h2']
    · refine c4.ldJob (k2.st0 (by rfl) fun w5 k5 u5 => k5.bx.ldJob (x := jobStep j) ⟨(u.trans (u5.loc (by decide))).quietL, rfl, ?_⟩)
      have h1' : ¬ wz (j.real - 1) ≤ 0 := h1
      have h2' : ¬ wz (j.left - 1) ≤ 0 := h2
      rw [jobHow, if_neg h1', if_neg h2']
/-! ### dev -/
def neverZ (x : Away) : Bool := x.from_ == 0 && x.until_ == 0
theorem eqAway (a b c d : Int) (w : World) : (do eqGuard .eql 97 (.tmp 3) (.tmp 4) (.agg #[.int .i64 a, .int .i64 b]) (.agg #[.int .i64 c, .int .i64 d]); binOp .eql 97 (.agg #[.int .i64 a, .int .i64 b]) (.agg #[.int .i64 c, .int .i64 d]) : Sem Value).run P w = .ok (.bool (a == c && b == d)) w := by
  have hf : (P.fieldsOf 97).toList = [⟨ "From", 3, 0, false, "", "", 0⟩, ⟨ "Until", 3, 1, false, "", "", 8⟩] := by kernel_rfl
  have hu : P.underlying 97 = some (.struct (P.fieldsOf 97)) := by kernel_rfl
  have hi : P.underlying 3 = some (.int .i64) := by kernel_rfl
  rw [Sem.run_bind, run_eqGuard_agg w .eql 97 _ _ _ _ (by kernel_rfl), Result.andThen_ok, run_eql_struct, run_equalIn_agg w 9999 97 _ _ hu (by kernel_rfl), hf]
  have p0 : ∀ x y : Int, (Go.part 3 #[.int .i64 x, .int .i64 y] 0).run P w = .ok (.int .i64 x) w := fun x y => rfl
  have p1 : ∀ x y : Int, (Go.part 3 #[.int .i64 x, .int .i64 y] 1).run P w = .ok (.int .i64 y) w := fun x y => rfl
  have he : ∀ x y : Int, (Op.equalIn 9999 3 (.int .i64 x) (.int .i64 y)).run P w = .ok (x == y) w := fun x y => run_equalIn_int w 9998 3 .i64 .i64 x y hi
  unfold Op.eqFields Op.eqFields Op.eqFields
  simp only [ne_eq, show ("From" : String) ≠ "_" from by decide, show ("Until" : String) ≠ "_" from by decide, not_false_eq_true, if_true, Sem.run_bind, p0, p1, Result.andThen_ok, he, Sem.run_ite, Sem.run_pure]
  by_cases h0 : a = c <;> by_cases h1 : b = d <;> simp [h0, h1]
theorem never_spec (x : Away) (w : World) : Call P 76 [x.v] [sB] (fun b w' => Below w.heap.size w w' ∧ b = neverZ x) w := by
  refine f76_of _ (New_of fun b1 w1 c1 u1 => c1.ldAway (x := x) ?_)
  exact ⟨w1, _, eqAway _ _ _ _ _, u1, rfl⟩
def stateZ (d : Device) (x : Away) (now : Int) : Int :=
  if neverZ x = true ∨ now < x.from_ ∨ now ≥ x.until_ then 1 else if now < wz (x.from_ + d.down) then 3 else if now < wz (x.until_ - d.up) then 2 else 4
theorem state_spec (d : Device) (x : Away) (now : Int) (w : World) : Call P 132 [d.v, x.v, .int .i64 now] [sI] (fun r w' => Below w.heap.size w w' ∧ r = stateZ d x now) w := by
  refine f132_of _ _ _ (New_of fun b1 w1 c1 u1 => New_of fun b2 w2 c2 u2 => c2.ldAway (x := x) ?_)
  have c1 := c1.below u2
  have hc := never_spec x w2
  refine hc.imp1 ?_
  rintro r w3 ⟨u3, rfl⟩
  have c1 := c1.below u3
  have c2 := c2.below u3
  have u := (u1.on u2).on u3
  refine If_b (fun h => ⟨u, (if_pos (.inl h)).symm⟩) fun h => ?_
  refine c2.ld (x := x.from_) rfl (If_d (fun h1 => ⟨u, (if_pos (.inr (.inl h1))).symm⟩) fun h1 => ?_)
  refine c2.ld (x := x.until_) rfl (If_d (fun h2 => ⟨u, (if_pos (.inr (.inr h2))).symm⟩) fun h2 => ?_)
  have hn : ¬ (neverZ x = true ∨ now < x.from_ ∨ now ≥ x.until_) := by rw [h]; simp; omega
  refine c2.ld (x := x.from_) rfl (c1.ld (x := d.down) rfl (If_d (fun h3 => ⟨u, by rw [stateZ, if_neg hn, if_pos h3]⟩) fun h3 => ?_))
  refine c2.ld (x := x.until_) rfl (c1.ld (x := d.up) rfl (If_d (fun h4 => ⟨u, by rw [stateZ, if_neg hn, if_neg h3, if_pos h4]⟩) fun h4 => ?_))
  exact ⟨u, by rw [stateZ, if_neg hn, if_neg h3, if_neg h4]⟩
def awayB (d : Device) (x : Away) (now until' : Int) : Bool := stateZ d x now == 1 && !decide (wz (until' - now) < d.even)
theorem away_spec (d : Device) (x : Away) (now until' : Int) (w : World) :
    Call P 115 [d.v, x.v, .int .i64 now, .int .i64 until'] [shAway, sB] (fun a b r w' => Below w.heap.size w w' ∧ r = awayB d x now until' ∧ (⟨a, b⟩ : Away) = if awayB d x now until' then ⟨now, until'⟩ else x) w := by
  refine f115_of _ _ _ _ (New_blk (still w) 90 fun b1 o1 w1 k1 u1 _ => New_blk o1 91 fun b2 o2 w2 k2 u2 _ => New_blk o2 92 fun b3 o3 w3 k3 u3 _ => ?_)
  have c1 := ((k1.up u2 rfl).up u3 rfl).bx
  have c2 := (k2.up u3 rfl).bx
  have u := (u1.trans u2).trans u3
  refine c1.ldDevice (x := d) (c2.ldAway (x := x) ?_)
  have hc := state_spec d x now w3
  refine hc.imp1 ?_
  rintro r w4 ⟨u4, rfl⟩
  have u4' : Up no o3 w3 o3 w4 := Up.of_below u4
  have c1 := c1.below u4
  have c2 := c2.below u4
  have k3 := k3.up u4' rfl
  have u : Up loc (still w) w o3 w4 := (u.trans u4').of_no
  refine If_ne (fun h => ?_) fun h => ?_
  · have hb : awayB d x now until' = false := by simp [awayB, h]
    exact c2.ldAway (x := x) (k3.st0 (by rfl) fun w5 k5 u5 => k5.bx.ldAway (x := x) ⟨(u.trans (u5.loc (by decide))).quietL, hb.symm, by rw [hb]; rfl⟩)
  · refine c1.ld (x := d.even) rfl (If_d (fun h2 => ?_) fun h2 => ?_)
    · have hb : awayB d x now until' = false := by simp [awayB, h2]
      exact c2.ldAway (x := x) (k3.st0 (by rfl) fun w5 k5 u5 => k5.bx.ldAway (x := x) ⟨(u.trans (u5.loc (by decide))).quietL, hb.symm, by rw [hb]; rfl⟩)
    · have hb : awayB d x now until' = true := by simp [awayB, h, h2]
      exact k3.st0 (by rfl) fun w5 k5 u5 => k5.bx.ldAway (x := ⟨now, until'⟩) ⟨(u.trans (u5.loc (by decide))).quietL, hb.symm, by rw [hb]; rfl⟩
def mxZ (a b : Int) : Int := if b > a then b else a
def callZ (d : Device) (x : Away) (now : Int) : Away := if x.until_ = 1099511627776 then ⟨x.from_, mxZ (mxZ (wz (x.from_ + d.even)) (wz (now + d.up))) (wz (wz (x.from_ + d.down) + d.up))⟩ else x
theorem dcall_spec (d : Device) (x : Away) (now : Int) (w : World) : Call P 131 [d.v, x.v, .int .i64 now] [shAway] (fun a b w' => Below w.heap.size w w' ∧ (⟨a, b⟩ : Away) = callZ d x now) w := by
  refine f131_of _ _ _ (New_blk (still w) 90 fun b1 o1 w1 k1 u1 _ => New_blk o1 91 fun b2 o2 w2 k2 u2 _ => New_blk o2 92 fun b3 o3 w3 k3 u3 _ => ?_)
  have c1 := ((k1.up u2 rfl).up u3 rfl).bx
  have k2 := k2.up u3 rfl
  have c2 := k2.bx
  have u : Up loc (still w) w o3 w3 := ((u1.trans u2).trans u3).of_no
  refine c2.ld (x := x.until_) rfl (If_eq (fun h => ?_) fun h => ?_)
  · refine c2.ld (x := x.from_) rfl (c1.ld (x := d.even) rfl (c1.ld (x := d.up) rfl (c2.ld (x := x.from_) rfl (c1.ld (x := d.down) rfl (c1.ld (x := d.up) rfl ?_)))))
    refine k2.st (by simp) fun w4 k4 u4 => ?_
    have k3 := k3.up u4 rfl
    have hz : callZ d x now = ⟨x.from_, mxZ (mxZ (wz (x.from_ + d.even)) (wz (now + d.up))) (wz (wz (x.from_ + d.down) + d.up))⟩ := if_pos h
    refine k4.bx.ldAway (x := callZ d x now |> fun _ => ⟨x.from_, mxZ (mxZ (wz (x.from_ + d.even)) (wz (now + d.up))) (wz (wz (x.from_ + d.down) + d.up))⟩) ?_
    exact k3.st0 (by rfl) fun w5 k5 u5 => k5.bx.ldAway (x := ⟨x.from_, mxZ (mxZ (wz (x.from_ + d.even)) (wz (now + d.up))) (wz (wz (x.from_ + d.down) + d.up))⟩) ⟨((u.trans (u4.loc (by decide))).trans (u5.loc (by decide))).quietL, hz.symm⟩
  · exact c2.ldAway (x := x) (k3.st0 (by rfl) fun w5 k5 u5 => k5.bx.ldAway (x := x) ⟨(u.trans (u5.loc (by decide))).quietL, (if_neg h).symm⟩)
def spanZ (a b now : Int) : Int := if 0 > wz ((if now < b then now else b) - a) then 0 else wz ((if now < b then now else b) - a)
theorem span_spec (a b now : Int) (w : World) : Call P 77 [.int .i64 a, .int .i64 b, .int .i64 now] [sI] (fun r w' => Below w.heap.size w w' ∧ r = spanZ a b now) w := f77_of _ _ _ ⟨Below.refl _ _, rfl⟩
def energyZ (d : Device) (x : Away) (now : Int) : Int :=
  if neverZ x then wz (d.on * (if 0 > now then 0 else now)) else
    let s0 := if now ≥ x.from_ then wz (0 + d.downE) else 0
    let s1 := if now ≥ wz (x.until_ - d.up) then wz (s0 + d.upE) else s0
    wz (wz (s1 + wz (d.off * spanZ (wz (x.from_ + d.down)) (wz (x.until_ - d.up)) now)) + wz (d.on * (if 0 > wz (now - x.until_) then 0 else wz (now - x.until_))))
theorem energy_spec (d : Device) (x : Away) (now : Int) (w : World) : Call P 44 [d.v, x.v, .int .i64 now] [sI] (fun r w' => Below w.heap.size w w' ∧ r = energyZ d x now) w := by
  refine f44_of _ _ _ (New_of fun b1 w1 c1 u1 => New_of fun b2 w2 c2 u2 => c2.ldAway (x := x) ?_)
  have c1 := c1.below u2
  have hc := never_spec x w2
  refine hc.imp1 ?_
  rintro r w3 ⟨u3, rfl⟩
  have c1 := c1.below u3
  have c2 := c2.below u3
  have u := (u1.on u2).on u3
  refine If_b (fun h => ?_) fun h => ?_
  · exact c1.ld (x := d.on) rfl ⟨u, by rw [energyZ, if_pos h]⟩
  have hz : energyZ d x now = _ := if_neg (by rw [h]; decide)
  dsimp only at hz
  have c1' := c1.drew
  have c2' := c2.drew
  have u' := u.drew
  have hs := span_spec (wz (x.from_ + d.down)) (wz (x.until_ - d.up)) now w3.drew
  refine c2.ld (x := x.from_) rfl (If_d (fun h1 => ?_) fun h1 => ?_)
  · rw [if_pos h1] at hz
    refine c1.ld (x := d.downE) rfl (c2.ld (x := x.until_) rfl (c1.ld (x := d.up) rfl (If_d (fun h2 => ?_) fun h2 => ?_)))
    · rw [if_pos h2] at hz
      refine c1.ld (x := d.upE) rfl (c1'.ld (x := d.off) rfl (c2'.ld (x := x.from_) rfl (c1'.ld (x := d.down) rfl (c2'.ld (x := x.until_) rfl (c1'.ld (x := d.up) rfl (c1'.ld (x := d.on) rfl (c2'.ld (x := x.until_) rfl ?_)))))))
      refine hs.imp1 ?_
      rintro r w4 ⟨u4, rfl⟩
      have c1 := c1'.below u4
      have c2 := c2'.below u4
      (repeat (refine ⟨by (first | (apply Bx.get0; assumption; rfl) | (apply Bx.get; assumption; rfl) | (apply Bx.get0; apply Blk.bx; assumption; rfl) | (apply Bx.get; apply Blk.bx; assumption; rfl)), ?_⟩))
      exact ⟨u'.on u4, hz.symm⟩
    · rw [if_neg h2] at hz
      refine (c1'.ld (x := d.off) rfl (c2'.ld (x := x.from_) rfl (c1'.ld (x := d.down) rfl (c2'.ld (x := x.until_) rfl (c1'.ld (x := d.up) rfl (c1'.ld (x := d.on) rfl (c2'.ld (x := x.until_) rfl ?_)))))))
      refine hs.imp1 ?_
      rintro r w4 ⟨u4, rfl⟩
      have c1 := c1'.below u4
      have c2 := c2'.below u4
      (repeat (refine ⟨by (first | (apply Bx.get0; assumption; rfl) | (apply Bx.get; assumption; rfl) | (apply Bx.get0; apply Blk.bx; assumption; rfl) | (apply Bx.get; apply Blk.bx; assumption; rfl)), ?_⟩))
      exact ⟨u'.on u4, hz.symm⟩
  · rw [if_neg h1] at hz
    refine c2.ld (x := x.until_) rfl (c1.ld (x := d.up) rfl (If_d (fun h2 => ?_) fun h2 => ?_))
    · rw [if_pos h2] at hz
      refine c1.ld (x := d.upE) rfl (c1'.ld (x := d.off) rfl (c2'.ld (x := x.from_) rfl (c1'.ld (x := d.down) rfl (c2'.ld (x := x.until_) rfl (c1'.ld (x := d.up) rfl (c1'.ld (x := d.on) rfl (c2'.ld (x := x.until_) rfl ?_)))))))
      refine hs.imp1 ?_
      rintro r w4 ⟨u4, rfl⟩
      have c1 := c1'.below u4
      have c2 := c2'.below u4
      (repeat (refine ⟨by (first | (apply Bx.get0; assumption; rfl) | (apply Bx.get; assumption; rfl) | (apply Bx.get0; apply Blk.bx; assumption; rfl) | (apply Bx.get; apply Blk.bx; assumption; rfl)), ?_⟩))
      exact ⟨u'.on u4, hz.symm⟩
    · rw [if_neg h2] at hz
      refine (c1'.ld (x := d.off) rfl (c2'.ld (x := x.from_) rfl (c1'.ld (x := d.down) rfl (c2'.ld (x := x.until_) rfl (c1'.ld (x := d.up) rfl (c1'.ld (x := d.on) rfl (c2'.ld (x := x.until_) rfl ?_)))))))
      refine hs.imp1 ?_
      rintro r w4 ⟨u4, rfl⟩
      have c1 := c1'.below u4
      have c2 := c2'.below u4
      (repeat (refine ⟨by (first | (apply Bx.get0; assumption; rfl) | (apply Bx.get; assumption; rfl) | (apply Bx.get0; apply Blk.bx; assumption; rfl) | (apply Bx.get; apply Blk.bx; assumption; rfl)), ?_⟩))
      exact ⟨u'.on u4, hz.symm⟩
end Go.Proofs.YtajilfnceoeaiaaGreat.V
/- Maps of the kernel's own, by numbers: look up, store, delete, count. -/
namespace Go.Proofs.YtajilfnceoeaiaaGreat.V
open Go Go.RowKit Enc Go.MapKept
set_option maxRecDepth 100000
/-! ### A list of pairs as a map -/
section
variable {α : Type}
def mget : List (Int × α) → Int → Option α
  | [], _ => none
  | (k', v) :: l, k => if k' = k then some v else mget l k
def mset : List (Int × α) → Int → α → List (Int × α)
  | [], k, v => [(k, v)]
  | (k', v') :: l, k, v => if k' = k then (k, v) :: l else (k', v') :: mset l k v
def mdel : List (Int × α) → Int → List (Int × α)
  | [], _ => []
  | (k', v') :: l, k => if k' = k then l else (k', v') :: mdel l k
theorem mget_mset (l : List (Int × α)) (k : Int) (v : α) (q : Int) : mget (mset l k v) q = if k = q then some v else mget l q := by
  induction l with
  | nil => simp [mset, mget]
  | cons x l ih =>
    obtain ⟨k', v'⟩ := x
    simp only [mset]
    by_cases h : k' = k
    · subst h
      by_cases h2 : k' = q <;> simp [mget, h2]
    · rw [if_neg h]
      simp only [mget, ih]
      by_cases h2 : k' = q
      · subst h2
        simp [Ne.symm h]
      · simp [h2]
theorem mem_of_mget {l : List (Int × α)} {k : Int} {v : α} (h : mget l k = some v) : (k, v) ∈ l := by
  induction l with
  | nil => simp [mget] at h
  | cons x l ih =>
    obtain ⟨k', v'⟩ := x
    simp only [mget] at h
    by_cases h2 : k' = k
    · rw [if_pos h2] at h
      cases h
      subst h2
      exact .head _
    · rw [if_neg h2] at h
      exact .tail _ (ih h)
theorem mget_of_mem {l : List (Int × α)} (hn : (l.map (·.1)).Nodup) {k : Int} {v : α} (h : (k, v) ∈ l) : mget l k = some v := by
  induction l with
  | nil => cases h
  | cons x l ih =>
    obtain ⟨k', v'⟩ := x
    simp only [List.map_cons, List.nodup_cons] at hn
    simp only [mget]
    cases h with
    | head => rw [if_pos rfl]
    | tail _ h =>
      rw [if_neg (fun e => hn.1 (List.mem_map.2 ⟨_, h, e.symm⟩))]
      exact ih hn.2 h
theorem mget_none {l : List (Int × α)} {k : Int} : mget l k = none ↔ k ∉ l.map (·.1) := by
  induction l with
  | nil => simp [mget]
  | cons x l ih =>
    obtain ⟨k', v'⟩ := x
    simp only [mget, List.map_cons, List.mem_cons, not_or]
    by_cases h2 : k' = k
    · simp [h2]
    · rw [if_neg h2, ih]
      exact ⟨fun h => ⟨Ne.symm h2, h⟩, fun h => h.2⟩
theorem mdel_keys (l : List (Int × α)) (k : Int) : (mdel l k).map (·.1) = (l.map (·.1)).erase k := by
  induction l with
  | nil => rfl
  | cons x l ih =>
    obtain ⟨k', v'⟩ := x
    simp only [mdel, List.map_cons, List.erase_cons]
    by_cases h2 : k' = k
    · simp [h2]
    · simp [h2, ih]
theorem mget_mdel {l : List (Int × α)} (hn : (l.map (·.1)).Nodup) (k q : Int) : mget (mdel l k) q = if k = q then none else mget l q := by
  induction l with
  | nil => simp [mdel, mget]
  | cons x l ih =>
    obtain ⟨k', v'⟩ := x
    simp only [List.map_cons, List.nodup_cons] at hn
    simp only [mdel]
    by_cases h : k' = k
    · subst h
      rw [if_pos rfl]
      by_cases h2 : k' = q
      · subst h2
        rw [if_pos rfl]
        exact mget_none.2 hn.1
      · simp [h2, mget]
    · rw [if_neg h]
      simp only [mget, ih hn.2]
      by_cases h2 : k' = q
      · subst h2
        simp [Ne.symm h]
      · simp [h2]
theorem mset_new {l : List (Int × α)} {k : Int} (h : mget l k = none) (v : α) : mset l k v = l ++ [(k, v)] := by
  induction l with
  | nil => rfl
  | cons x l ih =>
    obtain ⟨k', v'⟩ := x
    simp only [mget] at h
    by_cases h2 : k' = k
    · rw [if_pos h2] at h; cases h
    · rw [if_neg h2] at h
      simp [mset, h2, ih h]
theorem mset_keys {l : List (Int × α)} {k : Int} {u : α} (h : mget l k = some u) (v : α) : (mset l k v).map (·.1) = l.map (·.1) := by
  induction l with
  | nil => simp [mget] at h
  | cons x l ih =>
    obtain ⟨k', v'⟩ := x
    simp only [mget] at h
    simp only [mset]
    by_cases h2 : k' = k
    · simp [h2]
    · rw [if_neg h2] at h
      simp [h2, ih h]
theorem mset_nodup {l : List (Int × α)} (hn : (l.map (·.1)).Nodup) (k : Int) (v : α) : ((mset l k v).map (·.1)).Nodup := by
  cases h : mget l k with
  | some u => rw [mset_keys h]; exact hn
  | none =>
    rw [mset_new h, List.map_append, List.nodup_append]
    refine ⟨hn, by simp, fun a ha b hb => ?_⟩
    simp only [List.map_cons, List.map_nil, List.mem_singleton] at hb
    subst hb
    intro e
    subst e
    exact mget_none.1 h ha
theorem mdel_nodup {l : List (Int × α)} (hn : (l.map (·.1)).Nodup) (k : Int) : ((mdel l k).map (·.1)).Nodup := by
  rw [mdel_keys]; exact hn.erase _
theorem mget_at {l : List (Int × α)} {k : Int} {v : α} (h : mget l k = some v) : ∃ j : Nat, l[j]? = some (k, v) ∧ mdel l k = l.eraseIdx j ∧ ∀ u, mset l k u = l.set j (k, u) := by
  induction l with
  | nil => simp [mget] at h
  | cons x l ih =>
    obtain ⟨k', v'⟩ := x
    simp only [mget] at h
    by_cases h2 : k' = k
    · rw [if_pos h2] at h
      cases h
      subst h2
      exact ⟨0, rfl, by simp [mdel], by simp [mset]⟩
    · rw [if_neg h2] at h
      obtain ⟨j, h3, h4, h5⟩ := ih h
      exact ⟨j + 1, by simpa using h3, by simp [mdel, h2, h4], by simp [mset, h2, h5]⟩
theorem mdel_none {l : List (Int × α)} {k : Int} (h : mget l k = none) : mdel l k = l := by
  induction l with
  | nil => rfl
  | cons x l ih =>
    obtain ⟨k', v'⟩ := x
    simp only [mget] at h
    by_cases h2 : k' = k
    · rw [if_pos h2] at h; cases h
    · rw [if_neg h2] at h
      simp [mdel, h2, ih h]
end
theorem eraseIdx_map {α β : Type} (f : α → β) : ∀ (l : List α) (i : Nat), (l.map f).eraseIdx i = (l.eraseIdx i).map f
  | [], _ => rfl
  | _ :: _, 0 => rfl
  | x :: l, i + 1 => by simp [List.eraseIdx_cons_succ, eraseIdx_map f l i]
/-! ### In memory -/
/-- A map by numbers, whose entries are l, in the order in which they came. -/
def MapR {α : Type} (o : Own) (w : World) (c b : Nat) (ev : α → Value) (l : List (Int × α)) : Prop :=
  ∃ es clock, Blk o w c b (.map es clock) ∧ Stamped es clock ∧ es.toList.map (fun e => (e.key, e.val)) = l.map fun x => (Value.int .i64 x.1, ev x.2)
section
variable {α : Type} {ev : α → Value} {o o' : Own} {w w' : World} {c b : Nat} {l : List (Int × α)} {C : Nat → Bool}
theorem MapR.up (h : MapR o w c b ev l) (u : Up C o w o' w') (hC : C c = false) : MapR o' w' c b ev l := by
  obtain ⟨es, clock, h1, h2⟩ := h
  exact ⟨es, clock, h1.up u hC, h2⟩
theorem ents_keys {es : Array MapEntry} (h : es.toList.map (fun e => (e.key, e.val)) = l.map fun x => (Value.int .i64 x.1, ev x.2)) : ∀ x ∈ es.toList, IsKey (.int .i64) x.key := by
  intro x hx
  have : (x.key, x.val) ∈ l.map fun x => (Value.int .i64 x.1, ev x.2) := by rw [← h]; exact List.mem_map.2 ⟨x, hx, rfl⟩
  obtain ⟨y, _, e⟩ := List.mem_map.1 this
  simp only [Prod.mk.injEq] at e
  rw [← e.1]
  rfl
theorem MapR.nodup (h : MapR o w c b ev l) : (l.map (·.1)).Nodup := by
  obtain ⟨es, clock, h1, ⟨_, _, h2⟩, h3⟩ := h
  have h4 : es.toList.map (·.key) = l.map (fun x => Value.int .i64 x.1) := by
    have := congrArg (List.map Prod.fst) h3
    rw [List.map_map, List.map_map] at this
    exact this
  rw [h4] at h2
  rw [List.Nodup, List.pairwise_map] at h2 ⊢
  exact h2.imp fun h e => h (by rw [e])
theorem find_mget (k : Int) : ∀ (l : List (Int × α)) (es : List MapEntry) (i : Nat), es.map (fun e => (e.key, e.val)) = l.map (fun x => (Value.int .i64 x.1, ev x.2)) →
    (mget l k = none ∧ Instr.findNow (.int .i64) (.int .i64 k) es i = some none) ∨ ∃ v j, mget l k = some v ∧ Instr.findNow (.int .i64) (.int .i64 k) es i = some (some (i + j, ev v)) ∧ l[j]? = some (k, v) ∧ mdel l k = l.eraseIdx j ∧ ∀ u, mset l k u = l.set j (k, u)
  | [], [], _, _ => .inl ⟨rfl, rfl⟩
  | [], _ :: _, _, h => by simp at h
  | _ :: _, [], _, h => by simp at h
  | (k', v') :: l, e :: es, i, h => by
    simp only [List.map_cons, List.cons.injEq, Prod.mk.injEq] at h
    obtain ⟨⟨h1, h2⟩, h3⟩ := h
    by_cases hk : k' = k
    · subst hk
      exact .inr ⟨v', 0, by simp [mget], by simp [Instr.findNow, Instr.sameNow, h1, h2], rfl, by simp [mdel], by simp [mset]⟩
    · have hs : Instr.sameNow (.int .i64) (.int .i64 k) e.key = some false := by
        rw [h1]; simp [Instr.sameNow, Ne.symm hk]
      rcases find_mget k l es (i + 1) h3 with ⟨h4, h5⟩ | ⟨v, j, h4, h5, h6, h7, h8⟩
      · exact .inl ⟨by simp [mget, hk, h4], by simp [Instr.findNow, hs, h5]⟩
      · exact .inr ⟨v, j + 1, by simp [mget, hk, h4], by simp [Instr.findNow, hs, h5]; omega, by simpa using h6, by simp [mdel, hk, h7], by simp [mset, hk, h8]⟩
/-- A map's type. -/
structure MT (t e : TypeId) (z : Value) : Prop where
  u : P.underlying t = some (.map 3 e)
  z : ((P.info? e).bind (·.zero)) = some z
theorem u3 : P.underlying 3 = some (.int .i64) := by kernel_rfl
theorem MT.zero {t e : TypeId} {z : Value} (h : MT t e z) (w : World) : (zeroValue e).run P w = .ok z w := by
  have := h.z
  cases hi : P.info? e with
  | none => rw [hi] at this; cases this
  | some i =>
    rw [hi] at this
    simp only [Option.bind_some] at this
    simp [zeroValue, typeInfo, hi, this, Result.andThen]
theorem lookup_run {t e : TypeId} {z : α} (hm : MT t e (ev z)) (h : MapR o w c b ev l) (k : Int) (ok : Bool) :
    (Instr.lookup t (.map (some b)) (.int .i64 k) ok).run P w = .ok (if ok then .tuple #[ev ((mget l k).getD z), .bool (mget l k).isSome] else ev ((mget l k).getD z)) w := by
  obtain ⟨es, clock, h1, h2, h3⟩ := h
  rcases find_mget k l es.toList 0 h3 with ⟨h4, h5⟩ | ⟨v, j, h4, h5, h6, -, -⟩
  · simp [Instr.lookup, run_underlying hm.u, MapKept.run_getObj_map h1.heap, run_checkKey u3 (show IsKey (.int .i64) (.int .i64 k) from rfl), run_findKey u3 h5, hm.zero, h4]
  · simp [Instr.lookup, run_underlying hm.u, MapKept.run_getObj_map h1.heap, run_checkKey u3 (show IsKey (.int .i64) (.int .i64 k) from rfl), run_findKey u3 h5, h4]
theorem up_set {x y : Obj} (h : Blk o w c b x) (y : Obj) : Blk o { w with heap := w.heap.setIfInBounds b y } c b y ∧ Up (only [c]) o w o { w with heap := w.heap.setIfInBounds b y } :=
  ⟨⟨h.own, (MapKept.heap_set h.heap).1⟩, Up.set1 (b := b) (by simp [only, h.own]) (MapKept.heap_set h.heap).2 rfl rfl rfl (by simp)⟩
theorem mapUpdate_of {t e : TypeId} {z : Value} (hm : MT t e z) (h : MapR o w c b ev l) (k : Int) (v : α) {K : World → Prop} (hk : ∀ w', MapR o w' c b ev (mset l k v) → Up (only [c]) o w o w' → K w') :
    SmU P (Instr.mapUpdate t (.map (some b)) (.int .i64 k) (ev v)) K w := by
  obtain ⟨es, clock, h1, h2, h3⟩ := h
  rcases find_mget k l es.toList 0 h3 with ⟨h4, h5⟩ | ⟨u, j, h4, h5, h6, -, h8⟩
  · have e2 := mget_none.1 h4
    obtain ⟨b1, u1⟩ := up_set (y := .map (es.push { key := .int .i64 k, val := ev v, born := clock }) (clock + 1)) h1 (.map (es.push { key := .int .i64 k, val := ev v, born := clock }) (clock + 1))
    refine ⟨_, ?_, hk _ ⟨_, _, b1, stamped_push h2 fun x hx e => e2 ?_, ?_⟩ u1⟩
    · simp [Instr.mapUpdate, run_underlying hm.u, MapKept.run_getObj_map h1.heap, run_checkKey u3 (show IsKey (.int .i64) (.int .i64 k) from rfl), run_findKey u3 h5, run_setObj_map _ h1.heap]
    · have : (x.key, x.val) ∈ l.map fun x => (Value.int .i64 x.1, ev x.2) := by rw [← h3]; exact List.mem_map.2 ⟨x, hx, rfl⟩
      obtain ⟨y, hy, e3⟩ := List.mem_map.1 this
      simp only [Prod.mk.injEq] at e3
      have e4 : y.1 = k := by have := e3.1.trans e; cases this; rfl
      exact List.mem_map.2 ⟨_, hy, e4⟩
    · rw [mset_new h4]; simp [h3]
  · obtain ⟨x, hx, hx2⟩ : ∃ x, es.toList[j]? = some x ∧ (x.key, x.val) = (Value.int .i64 k, ev u) := by
      have : (es.toList.map (fun e => (e.key, e.val)))[j]? = some (Value.int .i64 k, ev u) := by rw [h3, List.getElem?_map, h6]; rfl
      rw [List.getElem?_map] at this
      obtain ⟨x, hx, e⟩ := Option.map_eq_some_iff.1 this
      exact ⟨x, hx, e⟩
    simp only [Prod.mk.injEq] at hx2
    have hj : es[j]? = some x := by simpa using hx
    have hkey : ∀ e', es[j]? = some e' → ({ e' with key := .int .i64 k, val := ev v } : MapEntry).key = e'.key := fun e' he' => by rw [hj] at he'; cases he'; exact hx2.1.symm
    obtain ⟨b1, u1⟩ := up_set (y := .map (es.modify j fun e => { e with key := .int .i64 k, val := ev v }) clock) h1 (.map (es.modify j fun e => { e with key := .int .i64 k, val := ev v }) clock)
    refine ⟨_, ?_, hk _ ⟨_, _, b1, stamped_modify h2 _ _ (fun _ _ => rfl) (fun e' _ he' => hkey e' he'), ?_⟩ u1⟩
    · have hst : (Instr.keyThatStays (Value.int .i64 k) (Value.int .i64 k)).run P w = .ok (Value.int .i64 k) w := run_keyThatStays (d := .int .i64) rfl
      simp [Instr.mapUpdate, run_underlying hm.u, MapKept.run_getObj_map h1.heap, run_checkKey u3 (show IsKey (.int .i64) (.int .i64 k) from rfl), run_findKey u3 h5, run_setObj_map _ h1.heap, hj, hx2.1, hst]
    · rw [h8]
      apply List.ext_getElem?
      intro i
      have h3i : (es.toList.map (fun e => (e.key, e.val)))[i]? = (l.map fun x => (Value.int .i64 x.1, ev x.2))[i]? := by rw [h3]
      simp only [List.getElem?_map, Array.getElem?_toList, Array.getElem?_modify, List.getElem?_set] at h3i ⊢
      by_cases hij : j = i
      · subst hij
        have hlt := (List.getElem?_eq_some_iff.1 h6).1
        simp [hj, hlt]
      · simp only [hij, if_false]
        exact h3i
theorem delete_of {t e : TypeId} {z : Value} (hm : MT t e z) (h : MapR o w c b ev l) (k : Int) {K : World → Prop} (hk : ∀ w', MapR o w' c b ev (mdel l k) → Up (only [c]) o w o w' → K w') :
    Sm P (Builtin.delete_ #[t, 3] 0 [.map (some b), .int .i64 k].toArray) [] K w := by
  obtain ⟨es, clock, h1, h2, h3⟩ := h
  rcases find_mget k l es.toList 0 h3 with ⟨h4, h5⟩ | ⟨u, j, h4, h5, h6, h7, -⟩
  · obtain ⟨b1, u1⟩ := up_set (y := .map es clock) h1 (.map es clock)
    refine ⟨_, ?_, hk _ ⟨_, _, b1, h2, ?_⟩ u1⟩
    · simp [Builtin.delete_, run_underlying hm.u, MapKept.run_getObj_map h1.heap, run_checkKey u3 (show IsKey (.int .i64) (.int .i64 k) from rfl), run_findKey u3 h5, run_setObj_map _ h1.heap, mk, asm]
    · rw [mdel_none h4]; exact h3
  · obtain ⟨b1, u1⟩ := up_set (y := .map (es.eraseIdxIfInBounds j) clock) h1 (.map (es.eraseIdxIfInBounds j) clock)
    refine ⟨_, ?_, hk _ ⟨_, _, b1, stamped_erase h2 _, ?_⟩ u1⟩
    · simp [Builtin.delete_, run_underlying hm.u, MapKept.run_getObj_map h1.heap, run_checkKey u3 (show IsKey (.int .i64) (.int .i64 k) from rfl), run_findKey u3 h5, run_setObj_map _ h1.heap, mk, asm]
    · have hlt := (List.getElem?_eq_some_iff.1 h6).1
      have hlen : es.toList.length = l.length := by simpa using congrArg List.length h3
      have hj : j < es.size := by simpa using (by omega : j < es.toList.length)
      rw [h7, Array.eraseIdxIfInBounds, dif_pos hj, Array.toList_eraseIdx]
      rw [← eraseIdx_map, ← eraseIdx_map, h3]
theorem len_of {t e : TypeId} {z : Value} (hm : MT t e z) (h : MapR o w c b ev l) {K : Int → World → Prop} (hk : K (l.length : Int) w) :
    Sm P (Builtin.len_ #[t] 3 [.map (some b)].toArray) [sI] K w := by
  obtain ⟨es, clock, h1, h2, h3⟩ := h
  have hlen : es.size = l.length := by simpa using congrArg List.length h3
  refine ⟨w, (l.length : Int), ?_, hk⟩
  show (Builtin.len_ #[t] 3 #[.map (some b)]).run P w = _
  have hu : P.underlying t = some (.map (P.mapKeyOf t) (P.mapElemOf t)) := by simp [Program.mapKeyOf, Program.mapElemOf, hm.u]
  rw [run_len_map w t 3 b es clock hu h1.heap, hlen]
  rfl
theorem makeMap_of {t : TypeId} (o : Own) (c : Nat) (ev : α → Value) {K : Option Nat → World → Prop} (hk : ∀ b o' w', MapR o' w' c b ev [] → Up no o w o' w' → K (some b) w') : Sm P (Instr.makeMap t none) [sM] K w := by
  refine ⟨_, some w.heap.size, run_makeMap_plain (P := P) w t, hk _ (setO o w.heap.size c) _ ⟨#[], 0, Blk.new _ _, stamped_empty 0, rfl⟩ (Up.alloc _ _)⟩
theorem entryStore_run {t : TypeId} {es : Array MapEntry} {clock j : Nat} {x : MapEntry} (hb : w.heap[b]? = some (.map es clock)) (hs : Stamped es clock) (hj : es[j]? = some x) (v : Value) :
    (Instr.entryStore t (.map (some b)) (.int .i64 x.born) v).run P w = .ok () { w with heap := w.heap.setIfInBounds b (.map (es.modify j fun e => { e with val := v }) clock) } := by
  have hlt : j < es.size := (Array.getElem?_eq_some_iff.1 hj).1
  have hjx : es[j] = x := (Array.getElem?_eq_some_iff.1 hj).2
  have hf : es.findIdx? (fun e => (e.born : Int) == (x.born : Int)) = some j := by
    rw [Array.findIdx?_eq_some_iff_getElem]
    refine ⟨hlt, by simp [hjx], fun i hi => ?_⟩
    obtain ⟨-, hn, -⟩ := hs
    rw [List.Nodup, List.pairwise_map, List.pairwise_iff_getElem] at hn
    have := hn i j (by simp; omega) (by simpa using hlt) hi
    simp only [Array.getElem_toList, hjx] at this
    simp only [Bool.not_eq_true, beq_eq_false_iff_ne, ne_eq, Int.natCast_inj]
    exact this
  simp [Instr.entryStore, MapKept.run_getObj_map hb, asInt, asIntOf, hf, run_setObj_map _ hb]
/-- An entry for a number is there, and may be written by its stamp. -/
theorem mapEntry_of {t e : TypeId} {z : Int} (hm : MT t e (.int .i64 z)) {l : List (Int × Int)} (h : MapR o w c b (Value.int .i64) l) (k : Int) {K : Int → Int → World → Prop}
    (hk : ∀ x n w', Up (only [c]) o w o w' → (∀ (v : Int) (K2 : World → Prop), (∀ w'', MapR o w'' c b (Value.int .i64) (mset l k v) → Up (only [c]) o w' o w'' → K2 w'') → SmU P (Instr.entryStore t (.map (some b)) (.int .i64 n) (.int .i64 v)) K2 w') → K x n w') :
    Sm P (Instr.mapEntry t (.map (some b)) (.int .i64 k)) [sI, sI] K w := by
  obtain ⟨es, clock, h1, h2, h3⟩ := h
  rcases find_mget k l es.toList 0 h3 with ⟨h4, h5⟩ | ⟨u, j, h4, h5, h6, -, h8⟩
  · have e2 := mget_none.1 h4
    obtain ⟨b1, u1⟩ := up_set (y := .map (es.push { key := .int .i64 k, val := .int .i64 z, born := clock }) (clock + 1)) h1 (.map (es.push { key := .int .i64 k, val := .int .i64 z, born := clock }) (clock + 1))
    have hs : Stamped (es.push { key := .int .i64 k, val := .int .i64 z, born := clock }) (clock + 1) := stamped_push h2 fun x hx e => e2 (by
      have : (x.key, x.val) ∈ l.map fun x => (Value.int .i64 x.1, Value.int .i64 x.2) := by rw [← h3]; exact List.mem_map.2 ⟨x, hx, rfl⟩
      obtain ⟨y, hy, e3⟩ := List.mem_map.1 this
      simp only [Prod.mk.injEq] at e3
      have e4 : y.1 = k := by have := e3.1.trans e; cases this; rfl
      exact List.mem_map.2 ⟨_, hy, e4⟩)
    refine ⟨_, z, (clock : Int), ?_, hk _ _ _ u1 fun v K2 hK => ?_⟩
    · show (Instr.mapEntry t (.map (some b)) (.int .i64 k)).run P w = _
      simp [Instr.mapEntry, run_underlying hm.u, MapKept.run_getObj_map h1.heap, run_checkKey u3 (show IsKey (.int .i64) (.int .i64 k) from rfl), run_findKey u3 h5, run_setObj_map _ h1.heap, hm.zero, mk, asm]
      exact ⟨rfl, rfl⟩
    · obtain ⟨b2, u2⟩ := up_set (y := .map ((es.push { key := .int .i64 k, val := .int .i64 z, born := clock }).modify es.size fun e => { e with val := .int .i64 v }) (clock + 1)) b1 (.map ((es.push { key := .int .i64 k, val := .int .i64 z, born := clock }).modify es.size fun e => { e with val := .int .i64 v }) (clock + 1))
      refine ⟨_, ?_, hK _ ⟨_, _, b2, stamped_modify hs _ _ (fun _ _ => rfl) (fun _ _ _ => rfl), ?_⟩ u2⟩
      · exact entryStore_run b1.heap hs (j := es.size) (x := { key := .int .i64 k, val := .int .i64 z, born := clock }) (by simp) _
      · rw [mset_new h4]
        apply List.ext_getElem?
        intro i
        have h3i : (es.toList.map (fun e => (e.key, e.val)))[i]? = (l.map fun x => (Value.int .i64 x.1, Value.int .i64 x.2))[i]? := by rw [h3]
        have hlen : es.size = l.length := by simpa using congrArg List.length h3
        simp only [List.getElem?_map, Array.getElem?_toList, Array.getElem?_modify, Array.getElem?_push, List.getElem?_append] at h3i ⊢
        by_cases hi : i = es.size
        · subst hi
          simp [hlen]
        · rw [if_neg (Ne.symm hi)]
          by_cases hi2 : i < l.length
          · rw [if_pos hi2, if_neg hi]; exact h3i
          · rw [if_neg hi2, if_neg hi]
            have : es[i]? = none := Array.getElem?_eq_none (by omega)
            rw [this]
            have : ([(k, v)] : List (Int × Int))[i - l.length]? = none := List.getElem?_eq_none (by simp; omega)
            rw [this]
            rfl
  · obtain ⟨x, hx, hx2⟩ : ∃ x, es.toList[j]? = some x ∧ (x.key, x.val) = (Value.int .i64 k, Value.int .i64 u) := by
      have : (es.toList.map (fun e => (e.key, e.val)))[j]? = some (Value.int .i64 k, Value.int .i64 u) := by rw [h3, List.getElem?_map, h6]; rfl
      rw [List.getElem?_map] at this
      obtain ⟨x, hx, e⟩ := Option.map_eq_some_iff.1 this
      exact ⟨x, hx, e⟩
    simp only [Prod.mk.injEq] at hx2
    have hj : es[j]? = some x := by simpa using hx
    have hkey : ∀ e', es[j]? = some e' → ({ e' with key := .int .i64 k } : MapEntry).key = e'.key := fun e' he' => by rw [hj] at he'; cases he'; exact hx2.1.symm
    obtain ⟨b1, u1⟩ := up_set (y := .map (es.modify j fun e => { e with key := .int .i64 k }) clock) h1 (.map (es.modify j fun e => { e with key := .int .i64 k }) clock)
    have hs : Stamped (es.modify j fun e => { e with key := .int .i64 k }) clock := stamped_modify h2 _ _ (fun _ _ => rfl) (fun e' _ he' => hkey e' he')
    refine ⟨_, u, (x.born : Int), ?_, hk _ _ _ u1 fun v K2 hK => ?_⟩
    · have hst : (Instr.keyThatStays (Value.int .i64 k) (Value.int .i64 k)).run P w = .ok (Value.int .i64 k) w := run_keyThatStays (d := .int .i64) rfl
      show (Instr.mapEntry t (.map (some b)) (.int .i64 k)).run P w = _
      simp [Instr.mapEntry, run_underlying hm.u, MapKept.run_getObj_map h1.heap, run_checkKey u3 (show IsKey (.int .i64) (.int .i64 k) from rfl), run_findKey u3 h5, run_setObj_map _ h1.heap, hj, hx2.1, hst, mk, asm]
      exact ⟨rfl, rfl⟩
    · obtain ⟨b2, u2⟩ := up_set (y := .map ((es.modify j fun e => { e with key := .int .i64 k }).modify j fun e => { e with val := .int .i64 v }) clock) b1 (.map ((es.modify j fun e => { e with key := .int .i64 k }).modify j fun e => { e with val := .int .i64 v }) clock)
      refine ⟨_, ?_, hK _ ⟨_, _, b2, stamped_modify hs _ _ (fun _ _ => rfl) (fun _ _ _ => rfl), ?_⟩ u2⟩
      · exact entryStore_run b1.heap hs (j := j) (x := { x with key := .int .i64 k }) (by simp [Array.getElem?_modify, hj]) _
      · rw [h8]
        apply List.ext_getElem?
        intro i
        have h3i : (es.toList.map (fun e => (e.key, e.val)))[i]? = (l.map fun x => (Value.int .i64 x.1, Value.int .i64 x.2))[i]? := by rw [h3]
        simp only [List.getElem?_map, Array.getElem?_toList, Array.getElem?_modify, List.getElem?_set] at h3i ⊢
        by_cases hij : j = i
        · subst hij
          have hlt := (List.getElem?_eq_some_iff.1 h6).1
          simp [hj, hlt]
        · simp only [hij, if_false]
          exact h3i
end
theorem mtInt : MT 146 3 (.int .i64 0) := ⟨by kernel_rfl, by kernel_rfl⟩
theorem mtJob : MT 128 50 (Job.v ⟨0, 0, 0, 0, 0, false⟩) := ⟨by kernel_rfl, by kernel_rfl⟩
end Go.Proofs.YtajilfnceoeaiaaGreat.V
/- Slices of the kernel's own, typed: store, cut, make. -/
namespace Go.Proofs.YtajilfnceoeaiaaGreat.V
open Go Go.RowKit Enc
set_option maxRecDepth 100000
section
variable {α : Type} [Enc α] {o o' : Own} {w w' : World} {c : Nat} {e : TypeId} {s : Sl} {l : List α} {C : Nat → Bool}
/-- A slice of the kernel's own, whose elements read as l. -/
def RowL (o : Own) (w : World) (c : Nat) (e : TypeId) (s : Sl) (l : List α) : Prop := Row o w c e (sz α) s (l.flatMap enc)
theorem RowL.up (h : RowL o w c e s l) (u : Up C o w o' w') (hC : C c = false) : RowL o' w' c e s l := Row.up h u hC
theorem RowL.rl (h : RowL o w c e s l) : RL o w c s l := Row.rd h
theorem RowL.n (h : RowL o w c e s l) : s.n = l.length := h.rl.n
theorem flat_set {l : List α} {i : Nat} {x y : α} (hx : l[i]? = some x) : (l.set i y).flatMap enc = splice (l.flatMap enc) (i * sz α) (enc y) := by
  induction l generalizing i with
  | nil => simp at hx
  | cons z l ih =>
    cases i with
    | zero =>
      simp [splice, len, List.flatMap_cons]
    | succ i =>
      have := ih (i := i) (by simpa using hx)
      rw [List.set_cons_succ, List.flatMap_cons, List.flatMap_cons, this]
      have e1 : (i + 1) * sz α = (enc z).length + i * sz α := by rw [len, Nat.add_mul]; omega
      simp only [splice, e1]
      rw [List.take_length_add_append, Nat.add_assoc, List.drop_length_add_append, List.append_assoc]
theorem splice_take {cur xs vs : List Value} {k : Nat} (ht : cur.take xs.length = xs) (hk : k + vs.length ≤ xs.length) : (splice cur k vs).take xs.length = splice xs k vs := by
  have hle : xs.length ≤ cur.length := by have := congrArg List.length ht; simp at this; omega
  simp only [splice]
  have h1 : (cur.take k).length = k := by simp; omega
  have h2 : cur.take k = xs.take k := by rw [← ht, List.take_take, Nat.min_eq_left (by omega)]
  have h3 : xs.drop (k + vs.length) = (cur.drop (k + vs.length)).take (xs.length - (k + vs.length)) := by
    conv => lhs; rw [← ht]
    rw [List.drop_take]
  rw [h2, h3]
  have h4 : (xs.take k ++ vs).length = k + vs.length := by rw [← h2]; simp [h1]
  conv => lhs; rw [show xs.length = (xs.take k ++ vs).length + (xs.length - (k + vs.length)) by omega]
  rw [← List.append_assoc, List.take_length_add_append, List.append_assoc]
theorem splice_mid {A X B vs : List Value} {a f : Nat} (hA : A.length = a) (hf : f + vs.length ≤ X.length) : splice (A ++ (X ++ B)) a (splice X f vs) = splice (A ++ (X ++ B)) (a + f) vs := by
  subst hA
  have h1 : (X.take f ++ (vs ++ X.drop (f + vs.length))).length = X.length := by simp; omega
  simp only [splice, h1, List.take_length_add_append, List.drop_length_add_append, Nat.add_assoc, List.take_left', List.drop_left']
  rw [List.take_append_of_le_length (by omega), List.drop_append_of_le_length (by omega)]
  simp
/-- A store among the elements: at k cells from the start. -/
theorem Row.put {xs vs : List Value} {z k : Nat} (h : Row o w c e z s xs) (hk : k + vs.length ≤ xs.length) (hv : 0 < vs.length) :
    ∃ b, s.a = some ⟨b, 0, none⟩ ∧ ∀ K : World → Prop, (∀ w', Row o w' c e z s (splice xs k vs) → Up (only [c]) o w o w' → K w') → StN vs 0 ⟨b, k, none⟩ K w := by
  obtain ⟨⟨hlen, hr⟩, hh⟩ := h
  rcases hr with ⟨h1, h2⟩ | ⟨g, cap, cur, h1, h2, h3, h4, h5, h6, h7⟩
  · rw [h2] at hlen; omega
  · have h7 : cur.toList.take xs.length = xs := by rw [hlen]; exact h7
    have ha : s.a = some ⟨g, 0, none⟩ := by simp only [Value.slice.injEq] at h1; exact h1.1
    refine ⟨g, ha, fun K hK => ?_⟩
    have hle : xs.length ≤ cur.toList.length := by have := congrArg List.length h7; simp at this ⊢; omega
    refine StN_of (cur := cur.toList) h3 (by omega) fun w' g1 g2 g3 g4 g5 g6 => ?_
    have ho : o g = c := hh _ ha
    have hsl : (splice xs k vs).length = xs.length := by simp only [splice, List.length_append, List.length_take, List.length_drop]; omega
    refine hK w' ⟨⟨by rw [hsl, hlen], .inr ⟨g, cap, _, h1, h2, g1, h4, h5, ?_, ?_⟩⟩, hh⟩ (Up.set1 (b := g) (by simp [only, ho]) g2 g3 g4 g5 g6)
    · have : cur.toList.length = cur.size := by simp
      simp only [List.size_toArray, splice, List.length_append, List.length_take, List.length_drop, Nat.add_zero]
      omega
    · rw [← hlen, Nat.add_zero, splice_take h7 hk]
theorem RowL.st (h : RowL o w c e s l) {i : Int} {k : Nat} {x y : α} (hi : i = (k : Int)) (hx : l[k]? = some x) {z : Nat} (hz : z = sz α := by rfl) {K : World → Prop} (hk : ∀ w', RowL o w' c e s (l.set k y) → Up (only [c]) o w o w' → K w') :
    ((0 : Int) ≤ i ∧ i < ((s.n : Nat) : Int)) ∧ WithAddr s.a fun a => StN (enc y) 0 (a.add (Int.toNat i * z)) K w := by
  subst hi hz
  have hl := (List.getElem?_eq_some_iff.1 hx).1
  have hn := h.n
  have h1 : (k + 1) * sz α ≤ l.length * sz α := Nat.mul_le_mul_right _ hl
  rw [Nat.add_mul] at h1
  obtain ⟨b, hb, hp⟩ := Row.put (vs := enc y) (k := k * sz α) h (by rw [length_flat, len]; omega) (by rw [len]; exact pos)
  refine ⟨⟨by omega, by omega⟩, ?_⟩
  rw [hb]
  show StN _ _ ((⟨b, 0, none⟩ : Addr).add _) _ _
  rw [Addr.add_mk, Int.toNat_natCast, Nat.zero_add]
  exact hp _ fun w' h2 u => hk w' (by rw [RowL, flat_set hx]; exact h2) u
/-- A store into one place of an element. -/
theorem RowL.stf (h : RowL o w c e s l) {i : Int} {k f : Nat} {x y : α} {vs : List Value} (hi : i = (k : Int)) (hx : l[k]? = some x) {z : Nat} (hz : z = sz α := by rfl) (hy : enc y = splice (enc x) f vs) (hv : 0 < vs.length) (hf : f + vs.length ≤ sz α)
    {K : World → Prop} (hk : ∀ w', RowL o w' c e s (l.set k y) → Up (only [c]) o w o w' → K w') :
    ((0 : Int) ≤ i ∧ i < ((s.n : Nat) : Int)) ∧ WithAddr s.a fun a => StN vs 0 ((a.add (Int.toNat i * z)).add f) K w := by
  subst hi hz
  have hl := (List.getElem?_eq_some_iff.1 hx).1
  have hn := h.n
  have h1 : (k + 1) * sz α ≤ l.length * sz α := Nat.mul_le_mul_right _ hl
  rw [Nat.add_mul] at h1
  obtain ⟨b, hb, hp⟩ := Row.put (vs := vs) (k := k * sz α + f) h (by rw [length_flat]; omega) hv
  refine ⟨⟨by omega, by omega⟩, ?_⟩
  rw [hb]
  show StN _ _ (((⟨b, 0, none⟩ : Addr).add _).add _) _ _
  rw [Addr.add_mk, Addr.add_mk, Int.toNat_natCast, Nat.zero_add]
  refine hp _ fun w' h2 u => hk w' ?_ u
  rw [RowL, flat_set hx, hy]
  have h3 : (l.flatMap enc).length = l.length * sz α := length_flat l
  have h4 : splice (l.flatMap enc) (k * sz α) (splice (enc x) f vs) = splice (l.flatMap enc) (k * sz α + f) vs := by
    have h5 : l.flatMap enc = (l.take k).flatMap enc ++ (enc x ++ (l.drop (k + 1)).flatMap enc) := by
      conv => lhs; rw [← List.take_append_drop k l, List.drop_eq_getElem_cons hl, (List.getElem?_eq_some_iff.1 hx).2]
      simp
    rw [h5]
    exact splice_mid (by rw [length_flat, List.length_take, Nat.min_eq_left (by omega)]) (by rw [len]; exact hf)
  rw [h4]; exact h2
/-- The first k elements. -/
theorem RowL.cut {t : TypeId} {sz' by_ : Nat} (et : ET t e sz' by_) (h : RowL o w c e s l) {i : Int} {k : Nat} (hi : i = (k : Int)) (hk : k ≤ l.length) {K : Sl → World → Prop} (hK : ∀ s', RowL o w c e s' (l.take k) → K s' w) :
    Sm P (Instr.sliceAt t (.slice s.a s.n s.c) none (some (.int .i64 i)) none) [sS] K w := by
  subst hi
  have hn := h.n
  obtain ⟨i, z, hi, hz, e1, e2, e3⟩ := et.parts
  have hel : P.elem t = e := by simp [Program.elem, et.u]
  have hso : (sizeOf e).run P w = .ok i.size w := by simp [sizeOf, typeInfo, hi]
  obtain ⟨⟨hlen, hr⟩, hh⟩ := h
  have hcap : s.n ≤ s.c := by
    rcases hr with ⟨h1, h2⟩ | ⟨g, cap, cur, h1, h2, h3, h4, h5, h6, h7⟩
    · rw [h2]; exact Nat.zero_le _
    · simp only [Value.slice.injEq] at h1
      omega
  have hrun : (Instr.sliceAt t (.slice s.a s.n s.c) none (some (.int .i64 (k : Int))) none).run P w = .ok (sliced s.a 0 k s.c i.size) w := by
    rw [run_sliceAt_slice w t _ _ _ _ (by rw [hel]; exact et.u), run_slice_h w t s.a s.n s.c (by rw [hel]; exact et.u) .i64 (k : Int) (by omega) (by omega), hel, hso]
    simp
  have hsl : sliced s.a 0 k s.c i.size = .slice s.a k s.c := by
    unfold sliced
    split
    · rfl
    · cases s.a with
      | none => rfl
      | some a => simp [Addr.add, Nat.zero_mul]
  have hfl : (l.take k).flatMap enc = (l.flatMap enc).take (k * sz α) := by
    have h5 : l.flatMap enc = (l.take k).flatMap enc ++ (l.drop k).flatMap enc := by rw [← List.flatMap_append, List.take_append_drop]
    rw [h5, List.take_left' (by rw [length_flat, List.length_take, Nat.min_eq_left hk])]
  refine ⟨w, ⟨s.a, k, s.c⟩, ?_, hK _ ⟨⟨?_, ?_⟩, hh⟩⟩
  · rw [hrun, hsl]; rfl
  · rw [length_flat, List.length_take, Nat.min_eq_left hk]
  · rcases hr with ⟨h1, h2⟩ | ⟨g, cap, cur, h1, h2, h3, h4, h5, h6, h7⟩
    · left
      simp only [Value.slice.injEq] at h1 ⊢
      exact ⟨⟨h1.1, by omega, h1.2.2⟩, by omega⟩
    · right
      simp only [Value.slice.injEq] at h1
      refine ⟨g, cap, cur, by rw [h1.1, h1.2.2], h2, h3, Nat.le_trans (hn ▸ hk) h4, h5, h6, ?_⟩
      have hle : k * sz α ≤ s.n * sz α := Nat.mul_le_mul_right _ (by rw [hn]; exact hk)
      rw [hfl, ← h7, List.take_take, Nat.min_eq_left hle]
end
/-- One more element, just boxed. -/
theorem RowL.app {α : Type} [Enc α] {o : Own} {w : World} {c d : Nat} {t e : TypeId} {by_ : Nat} {s : Sl} {l : List α} {x : α} {a : Addr} {K : Sl → World → Prop} (et : ET t e (sz α) by_) (ty : TypeId) (h : RowL o w c e s l)
    (hx : Rd o w d (sz α) ⟨some a, 1, 1⟩ (enc x)) (one : (enc x).all Value.oneCell' = true) (hb : (l.length + 1) * by_ ≤ 140737488355328) (hm : l.length + 1 ≤ maxLen)
    (k : ∀ s' o' w', RowL o' w' c e s' (l ++ [x]) → Up (only [c]) o w o' w' → K s' w') :
    Sm P (Builtin.append_ #[t, t] ty [.slice s.a s.n s.c, .slice (some a) 1 1].toArray) [sS] K w := by
  have hn := h.n
  refine app_of (x := ⟨some a, 1, 1⟩) et ty h hx one (by show 0 < 1; decide) (by rw [hn]; exact hb) (by rw [hn]; exact hm) fun s' o' w' h1 u _ => k s' o' w' ?_ u
  rw [RowL, List.flatMap_append, List.flatMap_singleton]
  exact h1
/-- A new row, empty, with room. -/
theorem make0_of {α : Type} [Enc α] {w : World} {t e : TypeId} {by_ : Nat} {K : Sl → World → Prop} (et : ET t e (sz α) by_) (o : Own) (c : Nat) {i : Int} {n : Nat} (hi : i = (n : Int)) (hb : by_ * n ≤ 140737488355328) (hm : n ≤ maxLen)
    (k : ∀ s' o' w', RowL o' w' c e s' ([] : List α) → Up no o w o' w' → K s' w') :
    Sm P (Instr.makeSlice t (.int .i64 0) (.int .i64 i)) [sS] K w := by
  subst hi
  obtain ⟨i, z, hi, hz, h1, h2, h3⟩ := et.parts
  have hm' := hm
  unfold maxLen at hm'
  have hb' : (i.bytes : Int) * (n : Int) ≤ 281474976710656 := by
    have h : ((i.bytes * n : Nat) : Int) ≤ 281474976710656 := by rw [h2]; omega
    rwa [Int.natCast_mul] at h
  have hr := run_make (P := P) w t e i z et.u hi hz .i64 .i64 0 n (Int.le_refl _) (by omega) hb' (by omega)
  refine ⟨_, ⟨some ⟨w.heap.size, 0, none⟩, 0, n⟩, ?_, k _ (setO o w.heap.size c) (w.alloc (.cells (madeCells z.cells (n * i.size)) e)) ?_ (Up.alloc _ _)⟩
  · rw [Int.toNat_zero, Int.toNat_natCast] at hr
    exact hr
  · refine ⟨?_, fun a ha => ?_⟩
    · rw [← h1]
      exact World.ownsRow_made w _ n (Nat.zero_le _) hm (size_madeCells _ _)
    · obtain rfl : a = ⟨w.heap.size, 0, none⟩ := by simpa using ha.symm
      simp [setO]
theorem RowL.nil {α : Type} [Enc α] {o : Own} {w : World} {c : Nat} {e : TypeId} : RowL o w c e ⟨none, 0, 0⟩ ([] : List α) := Row.nil
end Go.Proofs.YtajilfnceoeaiaaGreat.V
