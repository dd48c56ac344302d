/- Parts of the proof: latch and timers: what comes, and what is due, Finding and deleting in lists, Copies; locks, locks: what is held, Deleting one of what is held; giving, trace and meter, Rows made full, copies; the trace as a list; meter, meter. -/
import Derived.Test.YtajilfnceoeaiaaGreatZa6
set_option linter.unusedVariables false
set_option linter.unusedSimpArgs false
/- latch and timers: what comes, and what is due. -/
namespace Go.Proofs.YtajilfnceoeaiaaGreat.V
open Go Go.RowKit Enc Go.MapKept
set_option maxRecDepth 100000
/-- A heap of moments, and a number beside each: f: the moment and the number. -/
def PairR (t : TypeId) (o : Own) (w : World) (c a : Nat) (f : Int → Option (Int × Int)) : Prop :=
  ∃ ah b l, Blk o w (c + 3) a (.cells [Value.pointer (some ⟨ah, 0, none⟩), Value.map (some b)].toArray t (0, 0)) ∧ HeapF o w c ah (fun k => (f k).map (·.1)) ∧ MapR o w (c + 4) b (Value.int .i64) l ∧ ∀ k x, f k = some x → mget l k = some x.2 ∧ 0 ≤ k ∧ k < 8
abbrev LatchR := PairR 148
abbrev TimersR := PairR 150
/-- The first one, if it is due. -/
def DueOf (f : Int → Option (Int × Int)) (now id key x : Int) (ok : Bool) : Prop :=
  if ok then f id = some (key, x) ∧ key ≤ now ∧ (∀ k y, f k = some y → key ≤ y.1) ∧ 0 ≤ id ∧ id < 8 else (∀ k y, f k = some y → now < y.1) ∧ id = 0 ∧ key = 0
section
variable {o o' : Own} {w w' : World} {c a t : Nat} {f : Int → Option (Int × Int)} {C : Nat → Bool}
theorem PairR.up (h : PairR t o w c a f) (u : Up C o w o' w') (h0 : ∀ d, c ≤ d → d < c + 5 → C d = false) : PairR t o' w' c a f := by
  obtain ⟨ah, b, l, h1, h2, h3, h4⟩ := h
  exact ⟨ah, b, l, h1.up u (h0 _ (by omega) (by omega)), h2.up u (h0 _ (by omega) (by omega)) (h0 _ (by omega) (by omega)) (h0 _ (by omega) (by omega)), h3.up u (h0 _ (by omega) (by omega)), h4⟩
theorem PairR.upno (h : PairR t o w c a f) (u : Up no o w o' w') : PairR t o' w' c a f := h.up u fun _ _ _ => rfl
theorem latchNew_spec (w : World) (o : Own) (c : Nat) : Call P 58 [] [sP] (fun p w' => ∃ a o', p = some ⟨a, 0, none⟩ ∧ LatchR o' w' c a (fun _ => none) ∧ Up no o w o' w') w := by
  have hn := heapNew_spec w o c
  refine f58_of (hn.imp1 ?_)
  rintro p w1 ⟨ah, o1, rfl, h1, u1⟩
  exact makeMap_of o1 (c + 4) (Value.int .i64) fun b o2 w2 g3 u2 => New_blk o2 (c + 3) fun a o3 w3 g1 u3 _ => ⟨a, o3, rfl, ⟨ah, b, [], g1, (h1.upno u2).upno u3, g3.up u3 rfl, fun k x h => by cases h⟩, (u1.trans u2).trans u3⟩
theorem timersNew_spec (w : World) (o : Own) (c : Nat) : Call P 59 [] [sP] (fun p w' => ∃ a o', p = some ⟨a, 0, none⟩ ∧ TimersR o' w' c a (fun _ => none) ∧ Up no o w o' w') w := by
  have hn := heapNew_spec w o c
  refine f59_of (hn.imp1 ?_)
  rintro p w1 ⟨ah, o1, rfl, h1, u1⟩
  exact makeMap_of o1 (c + 4) (Value.int .i64) fun b o2 w2 g3 u2 => New_blk o2 (c + 3) fun a o3 w3 g1 u3 _ => ⟨a, o3, rfl, ⟨ah, b, [], g1, (h1.upno u2).upno u3, g3.up u3 rfl, fun k x h => by cases h⟩, (u1.trans u2).trans u3⟩
theorem waits_spec (h : LatchR o w c a f) (task : Int) : Call P 101 [.pointer (some ⟨a, 0, none⟩), .int .i64 task] [sB] (fun r w' => w' = w ∧ r = (f task).isSome) w := by
  obtain ⟨ah, b, l, h1, h2, h3, h4⟩ := h
  refine f101_of _ _ (If_f (WA (h1.bx.ld (x := some ⟨ah, 0, none⟩) rfl ?_)))
  have hk := heapKey_spec h2 task
  refine hk.imp2 ?_
  rintro n r w1 ⟨rfl, rfl, _⟩
  exact ⟨rfl, by simp⟩
theorem upd_map {α β : Type} (f : Int → Option α) (k : Int) (v : Option α) (g : α → β) : (fun q => (upd f k v q).map g) = upd (fun q => (f q).map g) k (v.map g) := by
  funext q
  simp only [upd]
  split <;> rfl
theorem latchPut_spec (h : LatchR o w c a f) {task at_ cycles : Int} (h0 : 0 ≤ task) (h8 : task < 8) (hf : f task = none) : Call P 103 [.pointer (some ⟨a, 0, none⟩), .int .i64 task, .int .i64 at_, .int .i64 cycles] [sB] (fun _ w' => ∃ o', LatchR o' w' c a (upd f task (some (at_, cycles))) ∧ Up (rng c) o w o' w') w := by
  have hw := waits_spec h task
  refine f103_of _ _ _ _ (If_f (hw.imp1 ?_))
  rintro r w1 ⟨rfl, rfl⟩
  obtain ⟨ah, b, l, h1, h2, h3, h4⟩ := h
  rw [hf]
  refine If_f (WA (h1.bx.ld (x := some ⟨ah, 0, none⟩) rfl ?_))
  have hp := heapPush_spec h2 (key := at_) h0 h8
  refine hp.imp0 ?_
  rintro w2 ⟨o2, h2, u3⟩
  have h1 := h1.up u3 (hc_no (by omega))
  have h3 := h3.up u3 (hc_no (by omega))
  refine WA (h1.bx.ld (x := some b) rfl (mapUpdate_of mtInt h3 task cycles fun w3 h3 u5 => ?_))
  refine ⟨o2, ⟨ah, b, _, h1.up u5 (only_ne (by omega)), ?_, h3, fun k x hk => ?_⟩, u3.rng_hc.trans (u5.rng1 (by omega) (by omega))⟩
  · rw [upd_map]
    exact h2.up u5 (only_ne (by omega)) (only_ne (by omega)) (only_ne (by omega))
  · rw [mget_mset]
    simp only [upd] at hk
    by_cases e : k = task
    · rw [if_pos e] at hk; cases hk
      rw [if_pos e.symm]
      exact ⟨rfl, by omega, by omega⟩
    · rw [if_neg e] at hk
      rw [if_neg (Ne.symm e)]
      exact h4 k x hk
theorem latchNext_spec (h : LatchR o w c a f) (now : Int) : Call P 68 [.pointer (some ⟨a, 0, none⟩), .int .i64 now] [sI, sI, sI, sB] (fun id key x ok w' => DueOf f now id key x ok ∧ ∃ o', LatchR o' w' c a (if ok then upd f id none else f) ∧ Up (rng c) o w o' w') w := by
  obtain ⟨ah, b, l, h1, h2, h3, h4⟩ := h
  refine f68_of _ _ (If_f (WA (h1.bx.ld (x := some ⟨ah, 0, none⟩) rfl ?_)))
  have ht := heapTop_spec h2
  refine ht.imp3 ?_
  rintro id key ok w1 ⟨u1, hok⟩
  have u1' : Up no o w o w1 := Up.of_below u1
  have h1 := h1.up u1' rfl
  have h2 := h2.upno u1'
  have h3 := h3.up u1' rfl
  have back : LatchR o w1 c a f := ⟨ah, b, l, h1, h2, h3, h4⟩
  cases ok with
  | false =>
    refine If_t ⟨⟨fun k y hk => ?_, rfl, rfl⟩, o, back, u1'.of_no⟩
    have : (f k).map (·.1) = none := hok.1 k
    rw [hk] at this
    cases this
  | true =>
    obtain ⟨g1, g2, g3⟩ := hok
    obtain ⟨⟨key', x⟩, gf, rfl⟩ := Option.map_eq_some_iff.1 g1
    dsimp only at g2 ⊢
    refine If_f (If_d (fun hn => ⟨⟨fun k y hk => ?_, rfl, rfl⟩, o, back, u1'.of_no⟩) fun hn => ?_)
    · have := g2 k y.1 (by rw [hk]; rfl)
      have hn : now < key' := hn
      omega
    · refine WA (h1.bx.ld (x := some ⟨ah, 0, none⟩) rfl ?_)
      have hp := heapPop_spec h2
      refine hp.imp3 ?_
      rintro id2 key2 ok2 w2 ⟨hok2, h2, u2⟩
      obtain ⟨rfl, rfl, rfl⟩ := TopOf.uniq (ok := true) ⟨g1, g2, g3⟩ hok2
      have hn := Int.not_lt.1 hn
      have h1 := h1.up u2 (hc_no (by omega))
      have h3 := h3.up u2 (hc_no (by omega))
      have hlk := lookup_run (z := (0 : Int)) mtInt h3 id2 false
      rw [(h4 _ _ gf).1] at hlk
      refine WA (h1.bx.ld (x := some b) rfl ⟨w2, x, hlk, ?_⟩)
      refine WA (h1.bx.ld (x := some b) rfl (delete_of mtInt h3 id2 fun w3 h3' u3 => ?_))
      refine ⟨⟨gf, by omega, fun k y hk => (by have := g2 k y.1 (by rw [hk]; rfl); omega), g3⟩, o, ⟨ah, b, _, h1.up u3 (only_ne (by omega)), ?_, h3', fun k y hk => ?_⟩, (u1'.of_no.trans u2.rng_hc).trans (u3.rng1 (by omega) (by omega))⟩
      · have := h2.up u3 (only_ne (by omega)) (only_ne (by omega)) (only_ne (by omega))
        rw [if_pos rfl] at this ⊢
        rw [upd_map]
        exact this
      · rw [if_pos rfl] at hk
        simp only [upd] at hk
        by_cases e : k = id2
        · rw [if_pos e] at hk; cases hk
        · rw [if_neg e] at hk
          rw [mget_mdel h3.nodup, if_neg (Ne.symm e)]
          exact h4 k y hk
def laterZ (a every : Int) : Int := if every > wz (1099511627776 - a) then 1099511627776 else wz (a + every)
theorem later_spec (a every : Int) (w : World) : Call P 114 [.int .i64 a, .int .i64 every] [sI] (fun r w' => w' = w ∧ r = laterZ a every) w :=
  f114_of _ _ (If_d (fun h => ⟨rfl, (if_pos h).symm⟩) fun h => ⟨rfl, (if_neg h).symm⟩)
theorem set_spec (h : TimersR o w c a f) {id : Int} (at_ every : Int) (h0 : 0 ≤ id) (h8 : id < 8) : Call P 110 [.pointer (some ⟨a, 0, none⟩), .int .i64 id, .int .i64 at_, .int .i64 every] [] (fun w' => ∃ o', TimersR o' w' c a (upd f id (some (if 1099511627776 < at_ then 1099511627776 else at_, every))) ∧ Up (rng c) o w o' w') w := by
  obtain ⟨ah, b, l, h1, h2, h3, h4⟩ := h
  refine f110_of _ _ _ _ (If_f (WA (h1.bx.ld (x := some ⟨ah, 0, none⟩) rfl ?_)))
  have hp := heapPush_spec h2 (key := if 1099511627776 < at_ then 1099511627776 else at_) h0 h8
  refine hp.imp0 ?_
  rintro w2 ⟨o2, h2, u3⟩
  have h1 := h1.up u3 (hc_no (by omega))
  have h3 := h3.up u3 (hc_no (by omega))
  refine WA (h1.bx.ld (x := some b) rfl (mapUpdate_of mtInt h3 id every fun w3 h3 u5 => ?_))
  refine ⟨o2, ⟨ah, b, _, h1.up u5 (only_ne (by omega)), ?_, h3, fun k x hk => ?_⟩, u3.rng_hc.trans (u5.rng1 (by omega) (by omega))⟩
  · rw [upd_map]
    exact h2.up u5 (only_ne (by omega)) (only_ne (by omega)) (only_ne (by omega))
  · rw [mget_mset]
    simp only [upd] at hk
    by_cases e : k = id
    · rw [if_pos e] at hk; cases hk
      rw [if_pos e.symm]
      exact ⟨rfl, by omega, by omega⟩
    · rw [if_neg e] at hk
      rw [if_neg (Ne.symm e)]
      exact h4 k x hk
theorem cancel_spec (h : TimersR o w c a f) (id : Int) : Call P 109 [.pointer (some ⟨a, 0, none⟩), .int .i64 id] [sB] (fun r w' => r = (f id).isSome ∧ TimersR o w' c a (upd f id none) ∧ Up (rng c) o w o w') w := by
  obtain ⟨ah, b, l, h1, h2, h3, h4⟩ := h
  refine f109_of _ _ (If_f (WA (h1.bx.ld (x := some b) rfl (delete_of mtInt h3 id fun w1 h3' u1 => ?_))))
  have h1 := h1.up u1 (only_ne (by omega))
  have h2 := h2.up u1 (only_ne (by omega)) (only_ne (by omega)) (only_ne (by omega))
  refine WA (h1.bx.ld (x := some ⟨ah, 0, none⟩) rfl ?_)
  have hr := heapRemove_spec h2 id
  refine hr.imp1 ?_
  rintro r w2 ⟨rfl, h2, u2⟩
  refine ⟨by simp, ⟨ah, b, _, h1.up u2 (hc_no (by omega)), ?_, h3'.up u2 (hc_no (by omega)), fun k x hk => ?_⟩, (u1.rng1 (by omega) (by omega)).trans u2.rng_hc⟩
  · rw [upd_map]; exact h2
  · simp only [upd] at hk
    by_cases e : k = id
    · rw [if_pos e] at hk; cases hk
    · rw [if_neg e] at hk
      rw [mget_mdel h3.nodup, if_neg (Ne.symm e)]
      exact h4 k x hk
theorem due_spec (h : TimersR o w c a f) (now : Int) : Call P 72 [.pointer (some ⟨a, 0, none⟩), .int .i64 now] [sI, sI, sB]
    (fun id key ok w' => ∃ x, DueOf f now id key x ok ∧ ∃ o', TimersR o' w' c a (if ok then (if x > 0 then upd f id (some (laterZ key x, x)) else upd f id none) else f) ∧ Up (rng c) o w o' w') w := by
  obtain ⟨ah, b, l, h1, h2, h3, h4⟩ := h
  refine f72_of _ _ (If_f (WA (h1.bx.ld (x := some ⟨ah, 0, none⟩) rfl ?_)))
  have ht := heapTop_spec h2
  refine ht.imp3 ?_
  rintro id key ok w1 ⟨u1, hok⟩
  have u1' : Up no o w o w1 := Up.of_below u1
  have h1 := h1.up u1' rfl
  have h2 := h2.upno u1'
  have h3 := h3.up u1' rfl
  have back : TimersR o w1 c a f := ⟨ah, b, l, h1, h2, h3, h4⟩
  cases ok with
  | false =>
    refine If_t ⟨0, ⟨fun k y hk => ?_, rfl, rfl⟩, o, back, u1'.of_no⟩
    have : (f k).map (·.1) = none := hok.1 k
    rw [hk] at this
    cases this
  | true =>
    obtain ⟨g1, g2, g3⟩ := hok
    obtain ⟨⟨key', x⟩, gf, rfl⟩ := Option.map_eq_some_iff.1 g1
    dsimp only at g2 ⊢
    refine If_f (If_d (fun hn => ⟨0, ⟨fun k y hk => ?_, rfl, rfl⟩, o, back, u1'.of_no⟩) fun hn => ?_)
    · have := g2 k y.1 (by rw [hk]; rfl)
      have hn : now < key' := hn
      omega
    · have hlk := lookup_run (z := (0 : Int)) mtInt h3 id false
      rw [(h4 _ _ gf).1] at hlk
      refine WA (h1.bx.ld (x := some b) rfl ⟨w1, x, hlk, ?_⟩)
      have hn := Int.not_lt.1 hn
      have hdue : DueOf f now id key' x true := ⟨gf, by omega, fun k y hk => (by have := g2 k y.1 (by rw [hk]; rfl); omega), g3⟩
      refine If_d (fun hx => ?_) fun hx => ?_
      · have u2 : Up no o w1 o w1.drew := .drew
        have h1 := h1.up u2 rfl
        have h2 := h2.upno u2
        have h3 := h3.up u2 rfl
        refine WA (h1.bx.ld (x := some ⟨ah, 0, none⟩) rfl ?_)
        have hl := later_spec key' x w1.drew
        refine hl.imp1 ?_
        rintro r w2 ⟨rfl, rfl⟩
        (repeat (refine ⟨by (first | (apply Bx.get0; assumption; rfl) | (apply Bx.get; assumption; rfl) | (apply Bx.get0; apply Blk.bx; assumption; rfl) | (apply Bx.get; apply Blk.bx; assumption; rfl)), ?_⟩))
        have hp := heapPush_spec h2 (key := laterZ key' x) g3.1 g3.2
        refine hp.imp0 ?_
        rintro w3 ⟨o3, h2, u3⟩
        refine ⟨x, hdue, o3, ?_, ((u1'.trans u2).of_no).trans u3.rng_hc⟩
        rw [if_pos rfl, if_pos hx]
        refine ⟨ah, b, l, h1.up u3 (hc_no (by omega)), ?_, h3.up u3 (hc_no (by omega)), fun k y hk => ?_⟩
        · rw [upd_map]; exact h2
        · simp only [upd] at hk
          by_cases e : k = id
          · rw [if_pos e] at hk; cases hk
            rw [e]
            exact ⟨(h4 _ _ gf).1, g3⟩
          · rw [if_neg e] at hk
            exact h4 k y hk
      · have hc' := cancel_spec back id
        refine hc'.imp1 ?_
        rintro r w2 ⟨_, h, u2⟩
        refine ⟨x, hdue, o, ?_, u1'.of_no.trans u2⟩
        rw [if_pos rfl, if_neg hx]
        exact h
end
end Go.Proofs.YtajilfnceoeaiaaGreat.V
/- Finding and deleting in lists. -/
namespace Go.Proofs.YtajilfnceoeaiaaGreat.V
open Go Go.RowKit Enc
set_option maxRecDepth 100000
/-! ### Plain -/
/-- The first one of which something holds; -1: none. -/
def FirstOf {α : Type} (p : α → Bool) (l : List α) (r : Int) : Prop :=
  (r = -1 ∧ ∀ x ∈ l, p x = false) ∨ ∃ (i : Nat) (x : α), r = i ∧ l[i]? = some x ∧ p x = true ∧ ∀ (j : Nat) (y : α), j < i → l[j]? = some y → p y = false
theorem FirstOf.any {α : Type} {p : α → Bool} {l : List α} {r : Int} (h : FirstOf p l r) : decide (r ≥ 0) = l.any p := by
  rcases h with ⟨rfl, h⟩ | ⟨i, x, rfl, h1, h2, _⟩
  · symm
    rw [List.any_eq_false.2 fun x hx => by rw [h x hx]; decide]
    rfl
  · rw [List.any_eq_true.2 ⟨x, List.mem_of_getElem? h1, h2⟩]
    exact decide_eq_true (by omega)
/-- The list while it is made smaller: up to k looked at, i of them kept. -/
structure Compact {α : Type} (p : α → Bool) (l L : List α) (i k : Nat) : Prop where
  len : L.length = l.length
  le : i ≤ k
  kl : k ≤ l.length
  head : L.take i = (l.take k).filter p
  tail : L.drop k = l.drop k
section
variable {α : Type} {p : α → Bool} {l L : List α} {i k : Nat} {x : α}
theorem Compact.get (h : Compact p l L i k) (hk : l[k]? = some x) : L[k]? = some x := by
  have := congrArg (·[0]?) h.tail
  simpa [hk] using this
theorem take_succ_get (hk : l[k]? = some x) : l.take (k + 1) = l.take k ++ [x] := by
  rw [List.take_add_one, hk]; rfl
theorem drop_succ_eq (h : L.drop k = l.drop k) : L.drop (k + 1) = l.drop (k + 1) := by
  have := congrArg (List.drop 1) h
  simpa [List.drop_drop] using this
theorem Compact.keep (h : Compact p l L i k) (hk : l[k]? = some x) (hp : p x = true) : Compact p l (L.set i x) (i + 1) (k + 1) := by
  have hlt := lt_of_get hk
  have h1 := h.len
  have h2 := h.le
  refine ⟨by simpa using h1, by omega, by omega, ?_, ?_⟩
  · rw [take_succ_get hk, List.filter_append, ← h.head]
    have hi : (L.set i x)[i]? = some x := by rw [List.getElem?_set, if_pos rfl, if_pos (by omega)]
    rw [take_succ_get hi, List.take_set_of_le (Nat.le_refl _)]
    simp [hp]
  · rw [List.drop_set_of_lt (by omega)]
    exact drop_succ_eq h.tail
theorem Compact.skip (h : Compact p l L i k) (hk : l[k]? = some x) (hp : p x = false) : Compact p l L i (k + 1) := by
  have hlt := lt_of_get hk
  have h2 := h.le
  refine ⟨h.len, by omega, by omega, ?_, drop_succ_eq h.tail⟩
  rw [take_succ_get hk, List.filter_append, ← h.head]
  simp [hp]
theorem Compact.done (h : Compact p l L i k) (hk : k = l.length) : L.take i = l.filter p := by
  rw [h.head, hk, List.take_length]
theorem Compact.start (hi : l[i]? = some x) (hx : p x = false) (hb : ∀ (j : Nat) (y : α), j < i → l[j]? = some y → p y = true) : Compact p l l i (i + 1) := by
  have hlt := lt_of_get hi
  refine ⟨rfl, by omega, by omega, ?_, rfl⟩
  rw [take_succ_get hi, List.filter_append]
  have : (l.take i).filter p = l.take i := by
    rw [List.filter_eq_self]
    intro a ha
    obtain ⟨j, hj⟩ := List.mem_iff_getElem?.1 ha
    have hjl := lt_of_get hj
    simp only [List.length_take] at hjl
    rw [List.getElem?_take_of_lt (by omega)] at hj
    exact hb j a (by omega) hj
  rw [this]
  simp [hx]
end
/-! ### In memory -/
section
variable {o o' : Own} {w w' : World} {c d : Nat} {s : Sl}
theorem zeroTask_spec (t : Task) (w : World) : Call P 129 [t.v] [sB] (fun b w' => Below w.heap.size w w' ∧ b = (t.period == 0)) w :=
  f129_of _ (New_of fun b1 w1 c1 u1 => c1.ld (x := t.period) rfl ⟨u1, rfl⟩)
theorem zeroTask2_spec (t : Task) (w : World) : Call P 98 [t.v] [sB] (fun b w' => Below w.heap.size w w' ∧ b = (t.period == 0)) w :=
  f98_of _ (New_of fun b1 w1 c1 u1 => c1.ld (x := t.period) rfl ⟨u1, rfl⟩)
theorem isTask_spec (h : Held) {cb : Nat} {v : Int} (hb : Bx w cb 0 [.int .i64 v]) : Call P 203 [h.v, .pointer (some ⟨cb, 0, none⟩)] [sB] (fun b w' => Below w.heap.size w w' ∧ b = (h.task == v)) w :=
  f203_of _ _ (New_of fun b1 w1 c1 u1 => c1.ld (x := h.task) rfl (WA (Ld_of (x := v) ((hb.below u1).cell 0 _ rfl) ⟨u1, rfl⟩)))
theorem isSem_spec (h : Held) {cb : Nat} {v : Int} (hb : Bx w cb 0 [.int .i64 v]) : Call P 141 [h.v, .pointer (some ⟨cb, 0, none⟩)] [sB] (fun b w' => Below w.heap.size w w' ∧ b = (h.sem == v)) w :=
  f141_of _ _ (New_of fun b1 w1 c1 u1 => c1.ld (x := h.sem) rfl (WA (Ld_of (x := v) ((hb.below u1).cell 0 _ rfl) ⟨u1, rfl⟩)))
theorem isOver_spec (h : Held) {cb : Nat} {v : Int} (hb : Bx w cb 0 [.int .i64 v]) : Call P 186 [h.v, .pointer (some ⟨cb, 0, none⟩)] [sB] (fun b w' => Below w.heap.size w w' ∧ b = (h.task == v && decide (h.left ≤ 0))) w := by
  refine f186_of _ _ (New_of fun b1 w1 c1 u1 => c1.ld (x := h.task) rfl (WA (Ld_of (x := v) ((hb.below u1).cell 0 _ rfl) (If_eq (fun e => c1.ld (x := h.left) rfl ⟨u1, ?_⟩) fun e => ⟨u1, ?_⟩))))
  · simp [e]
  · simp [e]
theorem isInt_spec (n : Int) {cb : Nat} {v : Int} {vs : List Value} (hb : Bx w cb 0 (.int .i64 v :: vs)) : Call P 189 [.int .i64 n, .pointer (some ⟨cb, 0, none⟩)] [sB] (fun b w' => w' = w ∧ b = (n == v)) w :=
  f189_of _ _ (WA (hb.ld (x := v) rfl ⟨rfl, rfl⟩))
theorem idxTask_spec {l : List Task} (h : RL o w c s l) : Call P 97 [.slice s.a s.n s.c, .func (.func 129) #[] #[]] [sI] (fun r w' => Below w.heap.size w w' ∧ FirstOf (fun t => t.period == 0) l r) w := by
  have hn := h.n
  have hmax := h.max
  unfold maxLen at hmax
  refine f97t_of _ ⟨fun i w' => ∃ k : Nat, i = k ∧ k ≤ l.length ∧ Below w.heap.size w w' ∧ ∀ (j : Nat) (y : Task), j < k → l[j]? = some y → (y.period == 0) = false, fun i _ => l.length - i.toNat, ⟨0, rfl, Nat.zero_le _, Below.refl _ _, fun j y hj => by omega⟩, ?_⟩
  rintro i v ⟨k, rfl, hk, u, hb⟩ _
  refine If_d (fun hlt => ?_) fun hlt => ?_
  · have hlt : k < s.n := Int.ofNat_lt.1 hlt
    have hx : l[k]? = some (l[k]'(by omega)) := List.getElem?_eq_getElem (by omega)
    refine (h.below u).task rfl hx ?_
    have hz := zeroTask_spec (l[k]'(by omega)) v
    refine hz.imp1 ?_
    rintro r w2 ⟨u2, rfl⟩
    refine If_b (fun hr => ⟨u.on u2, .inr ⟨k, _, rfl, hx, hr, hb⟩⟩) fun hr => ?_
    rw [wz_id (by omega) (by omega)]
    refine ⟨⟨k + 1, by omega, by omega, u.on u2, fun j y hj hy => ?_⟩, ?_⟩
    · by_cases e : j = k
      · subst e
        rw [hx] at hy; cases hy
        exact hr
      · exact hb j y (by omega) hy
    · show l.length - Int.toNat ((k : Int) + 1) < l.length - Int.toNat (k : Int)
      omega
  · have hlt : ¬ k < s.n := fun h => hlt (Int.ofNat_lt.2 h)
    refine ⟨u, .inl ⟨rfl, fun x hx => ?_⟩⟩
    obtain ⟨j, hj⟩ := List.mem_iff_getElem?.1 hx
    exact hb j x (by have := lt_of_get hj; omega) hj
-- BY mkh.py
theorem nf {b : Bool} (h : b = false) : (!b) = true := by rw [h]; rfl
theorem nt {b : Bool} (h : b = true) : (!b) = false := by rw [h]; rfl
theorem idxTask2_spec {l : List Task} (h : RL o w c s l) : Call P 97 [.slice s.a s.n s.c, .func (.func 98) #[] #[]] [sI] (fun r w' => Below w.heap.size w w' ∧ FirstOf (fun x => x.period == 0) l r) w := by
  have hn := h.n
  have hmax := h.max
  unfold maxLen at hmax
  refine f97a_of _ ⟨fun i w' => ∃ k : Nat, i = k ∧ k ≤ l.length ∧ Below w.heap.size w w' ∧ ∀ (j : Nat) (x : Task), j < k → l[j]? = some x → (x.period == 0) = false, fun i _ => l.length - i.toNat, ⟨0, rfl, Nat.zero_le _, Below.refl _ _, fun j y hj => by omega⟩, ?_⟩
  rintro i v0 ⟨k, rfl, hk, u, hbe⟩ _
  refine If_d (fun hlt => ?_) fun hlt => ?_
  · have hlt : k < s.n := Int.ofNat_lt.1 hlt
    have hx : l[k]? = some (l[k]'(by omega)) := List.getElem?_eq_getElem (by omega)
    refine (h.below u).task rfl hx ?_
    have hz := zeroTask2_spec (l[k]'(by omega)) v0
    refine hz.imp1 ?_
    rintro r w2 ⟨u2, rfl⟩
    refine If_b (fun hr => ⟨u.on u2, .inr ⟨k, _, rfl, hx, hr, hbe⟩⟩) fun hr => ?_
    rw [wz_id (by omega) (by omega)]
    refine ⟨⟨k + 1, by omega, by omega, u.on u2, fun j y hj hy => ?_⟩, ?_⟩
    · by_cases e : j = k
      · subst e
        rw [hx] at hy; cases hy
        exact hr
      · exact hbe j y (by omega) hy
    · show l.length - Int.toNat ((k : Int) + 1) < l.length - Int.toNat (k : Int)
      omega
  · have hlt : ¬ k < s.n := fun h => hlt (Int.ofNat_lt.2 h)
    refine ⟨u, .inl ⟨rfl, fun x hx => ?_⟩⟩
    obtain ⟨j, hj⟩ := List.mem_iff_getElem?.1 hx
    exact hbe j x (by have := lt_of_get hj; omega) hj
theorem idxOver_spec {l : List Held} (h : RL o w c s l) {cb : Nat} {v : Int} (hb : Bx w cb 0 [.int .i64 v]) : Call P 172 [.slice s.a s.n s.c, .func (.func 186) #[] #[.pointer (some ⟨cb, 0, none⟩)]] [sI] (fun r w' => Below w.heap.size w w' ∧ FirstOf (fun x => x.task == v && decide (x.left ≤ 0)) l r) w := by
  have hn := h.n
  have hmax := h.max
  unfold maxLen at hmax
  refine f172o_of _ _ ⟨fun i w' => ∃ k : Nat, i = k ∧ k ≤ l.length ∧ Below w.heap.size w w' ∧ ∀ (j : Nat) (x : Held), j < k → l[j]? = some x → (x.task == v && decide (x.left ≤ 0)) = false, fun i _ => l.length - i.toNat, ⟨0, rfl, Nat.zero_le _, Below.refl _ _, fun j y hj => by omega⟩, ?_⟩
  rintro i v0 ⟨k, rfl, hk, u, hbe⟩ _
  refine If_d (fun hlt => ?_) fun hlt => ?_
  · have hlt : k < s.n := Int.ofNat_lt.1 hlt
    have hx : l[k]? = some (l[k]'(by omega)) := List.getElem?_eq_getElem (by omega)
    refine (h.below u).held rfl hx ?_
    have hz := isOver_spec (l[k]'(by omega)) (hb.below u)
    refine hz.imp1 ?_
    rintro r w2 ⟨u2, rfl⟩
    refine If_b (fun hr => ⟨u.on u2, .inr ⟨k, _, rfl, hx, hr, hbe⟩⟩) fun hr => ?_
    rw [wz_id (by omega) (by omega)]
    refine ⟨⟨k + 1, by omega, by omega, u.on u2, fun j y hj hy => ?_⟩, ?_⟩
    · by_cases e : j = k
      · subst e
        rw [hx] at hy; cases hy
        exact hr
      · exact hbe j y (by omega) hy
    · show l.length - Int.toNat ((k : Int) + 1) < l.length - Int.toNat (k : Int)
      omega
  · have hlt : ¬ k < s.n := fun h => hlt (Int.ofNat_lt.2 h)
    refine ⟨u, .inl ⟨rfl, fun x hx => ?_⟩⟩
    obtain ⟨j, hj⟩ := List.mem_iff_getElem?.1 hx
    exact hbe j x (by have := lt_of_get hj; omega) hj
theorem idxSem_spec {l : List Held} (h : RL o w c s l) {cb : Nat} {v : Int} (hb : Bx w cb 0 [.int .i64 v]) : Call P 172 [.slice s.a s.n s.c, .func (.func 141) #[] #[.pointer (some ⟨cb, 0, none⟩)]] [sI] (fun r w' => Below w.heap.size w w' ∧ FirstOf (fun x => x.sem == v) l r) w := by
  have hn := h.n
  have hmax := h.max
  unfold maxLen at hmax
  refine f172t_of _ _ ⟨fun i w' => ∃ k : Nat, i = k ∧ k ≤ l.length ∧ Below w.heap.size w w' ∧ ∀ (j : Nat) (x : Held), j < k → l[j]? = some x → (x.sem == v) = false, fun i _ => l.length - i.toNat, ⟨0, rfl, Nat.zero_le _, Below.refl _ _, fun j y hj => by omega⟩, ?_⟩
  rintro i v0 ⟨k, rfl, hk, u, hbe⟩ _
  refine If_d (fun hlt => ?_) fun hlt => ?_
  · have hlt : k < s.n := Int.ofNat_lt.1 hlt
    have hx : l[k]? = some (l[k]'(by omega)) := List.getElem?_eq_getElem (by omega)
    refine (h.below u).held rfl hx ?_
    have hz := isSem_spec (l[k]'(by omega)) (hb.below u)
    refine hz.imp1 ?_
    rintro r w2 ⟨u2, rfl⟩
    refine If_b (fun hr => ⟨u.on u2, .inr ⟨k, _, rfl, hx, hr, hbe⟩⟩) fun hr => ?_
    rw [wz_id (by omega) (by omega)]
    refine ⟨⟨k + 1, by omega, by omega, u.on u2, fun j y hj hy => ?_⟩, ?_⟩
    · by_cases e : j = k
      · subst e
        rw [hx] at hy; cases hy
        exact hr
      · exact hbe j y (by omega) hy
    · show l.length - Int.toNat ((k : Int) + 1) < l.length - Int.toNat (k : Int)
      omega
  · have hlt : ¬ k < s.n := fun h => hlt (Int.ofNat_lt.2 h)
    refine ⟨u, .inl ⟨rfl, fun x hx => ?_⟩⟩
    obtain ⟨j, hj⟩ := List.mem_iff_getElem?.1 hx
    exact hbe j x (by have := lt_of_get hj; omega) hj
theorem idxHeld_spec {l : List Held} (h : RL o w c s l) {cb : Nat} {v : Int} (hb : Bx w cb 0 [.int .i64 v]) : Call P 172 [.slice s.a s.n s.c, .func (.func 203) #[] #[.pointer (some ⟨cb, 0, none⟩)]] [sI] (fun r w' => Below w.heap.size w w' ∧ FirstOf (fun x => x.task == v) l r) w := by
  have hn := h.n
  have hmax := h.max
  unfold maxLen at hmax
  refine f172f_of _ _ ⟨fun i w' => ∃ k : Nat, i = k ∧ k ≤ l.length ∧ Below w.heap.size w w' ∧ ∀ (j : Nat) (x : Held), j < k → l[j]? = some x → (x.task == v) = false, fun i _ => l.length - i.toNat, ⟨0, rfl, Nat.zero_le _, Below.refl _ _, fun j y hj => by omega⟩, ?_⟩
  rintro i v0 ⟨k, rfl, hk, u, hbe⟩ _
  refine If_d (fun hlt => ?_) fun hlt => ?_
  · have hlt : k < s.n := Int.ofNat_lt.1 hlt
    have hx : l[k]? = some (l[k]'(by omega)) := List.getElem?_eq_getElem (by omega)
    refine (h.below u).held rfl hx ?_
    have hz := isTask_spec (l[k]'(by omega)) (hb.below u)
    refine hz.imp1 ?_
    rintro r w2 ⟨u2, rfl⟩
    refine If_b (fun hr => ⟨u.on u2, .inr ⟨k, _, rfl, hx, hr, hbe⟩⟩) fun hr => ?_
    rw [wz_id (by omega) (by omega)]
    refine ⟨⟨k + 1, by omega, by omega, u.on u2, fun j y hj hy => ?_⟩, ?_⟩
    · by_cases e : j = k
      · subst e
        rw [hx] at hy; cases hy
        exact hr
      · exact hbe j y (by omega) hy
    · show l.length - Int.toNat ((k : Int) + 1) < l.length - Int.toNat (k : Int)
      omega
  · have hlt : ¬ k < s.n := fun h => hlt (Int.ofNat_lt.2 h)
    refine ⟨u, .inl ⟨rfl, fun x hx => ?_⟩⟩
    obtain ⟨j, hj⟩ := List.mem_iff_getElem?.1 hx
    exact hbe j x (by have := lt_of_get hj; omega) hj
theorem idxInt_spec {l : List Int} (h : RL o w c s l) {cb : Nat} {v : Int} {vs : List Value} (hb : Bx w cb 0 (.int .i64 v :: vs)) : Call P 159 [.slice s.a s.n s.c, .func (.func 189) #[] #[.pointer (some ⟨cb, 0, none⟩)]] [sI] (fun r w' => Below w.heap.size w w' ∧ FirstOf (fun x => x == v) l r) w := by
  have hn := h.n
  have hmax := h.max
  unfold maxLen at hmax
  refine f159e_of _ _ ⟨fun i w' => ∃ k : Nat, i = k ∧ k ≤ l.length ∧ Below w.heap.size w w' ∧ ∀ (j : Nat) (x : Int), j < k → l[j]? = some x → (x == v) = false, fun i _ => l.length - i.toNat, ⟨0, rfl, Nat.zero_le _, Below.refl _ _, fun j y hj => by omega⟩, ?_⟩
  rintro i v0 ⟨k, rfl, hk, u, hbe⟩ _
  refine If_d (fun hlt => ?_) fun hlt => ?_
  · have hlt : k < s.n := Int.ofNat_lt.1 hlt
    have hx : l[k]? = some (l[k]'(by omega)) := List.getElem?_eq_getElem (by omega)
    refine (h.below u).int rfl hx ?_
    have hz := isInt_spec (l[k]'(by omega)) (hb.below u)
    refine hz.imp1 ?_
    rintro r w2 ⟨rfl, rfl⟩
    refine If_b (fun hr => ⟨u, .inr ⟨k, _, rfl, hx, hr, hbe⟩⟩) fun hr => ?_
    rw [wz_id (by omega) (by omega)]
    refine ⟨⟨k + 1, by omega, by omega, u, fun j y hj hy => ?_⟩, ?_⟩
    · by_cases e : j = k
      · subst e
        rw [hx] at hy; cases hy
        exact hr
      · exact hbe j y (by omega) hy
    · show l.length - Int.toNat ((k : Int) + 1) < l.length - Int.toNat (k : Int)
      omega
  · have hlt : ¬ k < s.n := fun h => hlt (Int.ofNat_lt.2 h)
    refine ⟨u, .inl ⟨rfl, fun x hx => ?_⟩⟩
    obtain ⟨j, hj⟩ := List.mem_iff_getElem?.1 hx
    exact hbe j x (by have := lt_of_get hj; omega) hj
theorem delTask_spec {l : List Task} (h : RowL o w c 37 s l) (hc : c ≠ 90) (hl : l.length ≤ 1000000000) :
    Call P 127 [.slice s.a s.n s.c, .func (.func 129) #[] #[]] [sS] (fun s' w' => RowL o w' c 37 s' (l.filter fun x => !(x.period == 0)) ∧ Up (only [c]) o w o w') w := by
  have hn := h.n
  have hidx := idxTask_spec h.rl
  refine f127_of _ (hidx.imp1 ?_)
  rintro r w1 ⟨u1, hr⟩
  have h := h.up (C := no) (o' := o) (Up.of_below u1) rfl
  have u1 : Up (only [c]) o w o w1 := Up.of_below u1
  skip
  refine If_eq (fun e => ?_) fun e => ?_
  · rcases hr with ⟨_, hall⟩ | ⟨i, x, rfl, _⟩
    · have : l.filter (fun x => !(x.period == 0)) = l := List.filter_eq_self.2 fun x hx => nf (hall x hx)
      rw [this]
      exact ⟨h, u1⟩
    · omega
  · rcases hr with ⟨h1, _⟩ | ⟨i, x, rfl, hx, hpx, hb⟩
    · exact absurd h1 e
    have hil := lt_of_get hx
    rw [wz_id (by omega) (by omega)]
    refine ⟨fun a b w' => ∃ (i k : Nat) (L : List Task), a = i ∧ b = k ∧ RowL o w' c 37 s L ∧ Compact (fun x => !(x.period == 0)) l L i k ∧ i < k ∧ Up (only [c]) o w o w', fun _ b _ => l.length - b.toNat,
      ⟨i, i + 1, l, rfl, by omega, h, Compact.start hx (nt hpx) (fun j y hj hy => nf (hb j y hj hy)), by omega, u1⟩, ?_⟩
    rintro a b v1 ⟨i, k, L, rfl, rfl, h, hcp, hik, u⟩ _
    have hL := hcp.len
    have hn := h.n
    refine If_d (fun hlt => ?_) fun hlt => ?_
    · have hlt : k < s.n := Int.ofNat_lt.1 hlt
      obtain ⟨x, hx⟩ : ∃ x, l[k]? = some x := ⟨l[k]'(by omega), List.getElem?_eq_getElem (by omega)⟩
      have hLx := hcp.get hx
      have hm : l.length - Int.toNat ((k : Int) + 1) < l.length - Int.toNat (k : Int) := by omega
      refine h.rl.task rfl hLx (NewSt_of rfl fun b4 w4 c4 u4 => c4.ldTask (x := x) ?_)
      have h := h.up (C := no) (o' := o) (Up.of_below u4) rfl
      have u := u.trans (Up.of_below (o := o) u4)
      have hz := zeroTask_spec x w4
      refine hz.imp1 ?_
      rintro r w5 ⟨u5, rfl⟩
      have h := h.up (C := no) (o' := o) (Up.of_below u5) rfl
      have u := u.trans (Up.of_below (o := o) u5)
      refine If_not (If_b (fun hr => ?_) fun hr => ?_)
      · rw [wz_id (x := (k : Int) + 1) (by omega) (by omega)]
        exact ⟨⟨i, k + 1, L, rfl, by omega, h, hcp.skip hx (nt hr), by omega, u⟩, hm⟩
      · obtain ⟨y, hLi⟩ : ∃ y, L[i]? = some y := ⟨L[i]'(by omega), List.getElem?_eq_getElem (by omega)⟩
        refine (c4.below u5).ldTask (x := x) (h.st (y := x) rfl hLi rfl fun w6 h6 u6 => ?_)
        rw [wz_id (x := (k : Int) + 1) (by omega) (by omega), wz_id (x := (i : Int) + 1) (by omega) (by omega)]
        exact ⟨⟨i + 1, k + 1, _, by omega, by omega, h6, hcp.keep hx (nf hr), by omega, u.trans u6⟩, hm⟩
    · have hlt : ¬ k < s.n := fun h => hlt (Int.ofNat_lt.2 h)
      have hkl := hcp.kl
      refine clearTail_of etTask ozTask h rfl (by omega) fun s' w6 h6 u6 => ⟨?_, u.trans u6⟩
      rw [hcp.done (by omega)] at h6
      exact h6
theorem delHeld_spec {l : List Held} (h : RowL o w c 76 s l) (hc : c ≠ 90) (hl : l.length ≤ 1000000000) {cb : Nat} {v : Int} {tb : TypeId} (kb : Blk o w 90 cb (.cells [.int .i64 v].toArray tb (0, 0))) :
    Call P 202 [.slice s.a s.n s.c, .func (.func 203) #[] #[.pointer (some ⟨cb, 0, none⟩)]] [sS] (fun s' w' => RowL o w' c 76 s' (l.filter fun x => !(x.task == v)) ∧ Up (only [c]) o w o w') w := by
  have hn := h.n
  have hidx := idxHeld_spec h.rl kb.bx
  refine f202_of _ _ (hidx.imp1 ?_)
  rintro r w1 ⟨u1, hr⟩
  have h := h.up (C := no) (o' := o) (Up.of_below u1) rfl
  have u1 : Up (only [c]) o w o w1 := Up.of_below u1
  have kb := kb.up u1 (only_ne (Ne.symm hc))
  refine If_eq (fun e => ?_) fun e => ?_
  · rcases hr with ⟨_, hall⟩ | ⟨i, x, rfl, _⟩
    · have : l.filter (fun x => !(x.task == v)) = l := List.filter_eq_self.2 fun x hx => nf (hall x hx)
      rw [this]
      exact ⟨h, u1⟩
    · omega
  · rcases hr with ⟨h1, _⟩ | ⟨i, x, rfl, hx, hpx, hb⟩
    · exact absurd h1 e
    have hil := lt_of_get hx
    rw [wz_id (by omega) (by omega)]
    refine ⟨fun a b w' => ∃ (i k : Nat) (L : List Held), a = i ∧ b = k ∧ RowL o w' c 76 s L ∧ Compact (fun x => !(x.task == v)) l L i k ∧ i < k ∧ Up (only [c]) o w o w' ∧ Blk o w' 90 cb (.cells [.int .i64 v].toArray tb (0, 0)), fun _ b _ => l.length - b.toNat,
      ⟨i, i + 1, l, rfl, by omega, h, Compact.start hx (nt hpx) (fun j y hj hy => nf (hb j y hj hy)), by omega, u1, kb⟩, ?_⟩
    rintro a b v1 ⟨i, k, L, rfl, rfl, h, hcp, hik, u, kb⟩ _
    have hL := hcp.len
    have hn := h.n
    refine If_d (fun hlt => ?_) fun hlt => ?_
    · have hlt : k < s.n := Int.ofNat_lt.1 hlt
      obtain ⟨x, hx⟩ : ∃ x, l[k]? = some x := ⟨l[k]'(by omega), List.getElem?_eq_getElem (by omega)⟩
      have hLx := hcp.get hx
      have hm : l.length - Int.toNat ((k : Int) + 1) < l.length - Int.toNat (k : Int) := by omega
      refine h.rl.held rfl hLx (NewSt_of rfl fun b4 w4 c4 u4 => c4.ldHeld (x := x) ?_)
      have h := h.up (C := no) (o' := o) (Up.of_below u4) rfl
      have u := u.trans (Up.of_below (o := o) u4)
      have kb := kb.up (C := no) (o' := o) (Up.of_below u4) rfl
      have hz := isTask_spec x kb.bx
      refine hz.imp1 ?_
      rintro r w5 ⟨u5, rfl⟩
      have h := h.up (C := no) (o' := o) (Up.of_below u5) rfl
      have u := u.trans (Up.of_below (o := o) u5)
      have kb := kb.up (C := no) (o' := o) (Up.of_below u5) rfl
      refine If_not (If_b (fun hr => ?_) fun hr => ?_)
      · rw [wz_id (x := (k : Int) + 1) (by omega) (by omega)]
        exact ⟨⟨i, k + 1, L, rfl, by omega, h, hcp.skip hx (nt hr), by omega, u, kb⟩, hm⟩
      · obtain ⟨y, hLi⟩ : ∃ y, L[i]? = some y := ⟨L[i]'(by omega), List.getElem?_eq_getElem (by omega)⟩
        refine (c4.below u5).ldHeld (x := x) (h.st (y := x) rfl hLi rfl fun w6 h6 u6 => ?_)
        rw [wz_id (x := (k : Int) + 1) (by omega) (by omega), wz_id (x := (i : Int) + 1) (by omega) (by omega)]
        exact ⟨⟨i + 1, k + 1, _, by omega, by omega, h6, hcp.keep hx (nf hr), by omega, u.trans u6, kb.up u6 (only_ne (Ne.symm hc))⟩, hm⟩
    · have hlt : ¬ k < s.n := fun h => hlt (Int.ofNat_lt.2 h)
      have hkl := hcp.kl
      refine clearTail_of etHeld ozHeld h rfl (by omega) fun s' w6 h6 u6 => ⟨?_, u.trans u6⟩
      rw [hcp.done (by omega)] at h6
      exact h6
theorem delInt_spec {l : List Int} (h : RowL o w c 3 s l) (hc : c ≠ 90) (hl : l.length ≤ 1000000000) {cb : Nat} {v : Int} {vs : List Value} {tb : TypeId} (kb : Blk o w 90 cb (.cells (.int .i64 v :: vs).toArray tb (0, 0))) :
    Call P 188 [.slice s.a s.n s.c, .func (.func 189) #[] #[.pointer (some ⟨cb, 0, none⟩)]] [sS] (fun s' w' => RowL o w' c 3 s' (l.filter fun x => !(x == v)) ∧ Up (only [c]) o w o w') w := by
  have hn := h.n
  have hidx := idxInt_spec h.rl kb.bx
  refine f188_of _ _ (hidx.imp1 ?_)
  rintro r w1 ⟨u1, hr⟩
  have h := h.up (C := no) (o' := o) (Up.of_below u1) rfl
  have u1 : Up (only [c]) o w o w1 := Up.of_below u1
  have kb := kb.up u1 (only_ne (Ne.symm hc))
  refine If_eq (fun e => ?_) fun e => ?_
  · rcases hr with ⟨_, hall⟩ | ⟨i, x, rfl, _⟩
    · have : l.filter (fun x => !(x == v)) = l := List.filter_eq_self.2 fun x hx => nf (hall x hx)
      rw [this]
      exact ⟨h, u1⟩
    · omega
  · rcases hr with ⟨h1, _⟩ | ⟨i, x, rfl, hx, hpx, hb⟩
    · exact absurd h1 e
    have hil := lt_of_get hx
    rw [wz_id (by omega) (by omega)]
    refine ⟨fun a b w' => ∃ (i k : Nat) (L : List Int), a = i ∧ b = k ∧ RowL o w' c 3 s L ∧ Compact (fun x => !(x == v)) l L i k ∧ i < k ∧ Up (only [c]) o w o w' ∧ Blk o w' 90 cb (.cells (.int .i64 v :: vs).toArray tb (0, 0)), fun _ b _ => l.length - b.toNat,
      ⟨i, i + 1, l, rfl, by omega, h, Compact.start hx (nt hpx) (fun j y hj hy => nf (hb j y hj hy)), by omega, u1, kb⟩, ?_⟩
    rintro a b v1 ⟨i, k, L, rfl, rfl, h, hcp, hik, u, kb⟩ _
    have hL := hcp.len
    have hn := h.n
    refine If_d (fun hlt => ?_) fun hlt => ?_
    · have hlt : k < s.n := Int.ofNat_lt.1 hlt
      obtain ⟨x, hx⟩ : ∃ x, l[k]? = some x := ⟨l[k]'(by omega), List.getElem?_eq_getElem (by omega)⟩
      have hLx := hcp.get hx
      have hm : l.length - Int.toNat ((k : Int) + 1) < l.length - Int.toNat (k : Int) := by omega
      refine h.rl.int rfl hLx ?_
      have hz := isInt_spec x kb.bx
      refine hz.imp1 ?_
      rintro r w5 ⟨rfl, rfl⟩
      refine If_not (If_b (fun hr => ?_) fun hr => ?_)
      · rw [wz_id (x := (k : Int) + 1) (by omega) (by omega)]
        exact ⟨⟨i, k + 1, L, rfl, by omega, h, hcp.skip hx (nt hr), by omega, u, kb⟩, hm⟩
      · obtain ⟨y, hLi⟩ : ∃ y, L[i]? = some y := ⟨L[i]'(by omega), List.getElem?_eq_getElem (by omega)⟩
        refine h.st (y := x) rfl hLi rfl fun w6 h6 u6 => ?_
        rw [wz_id (x := (k : Int) + 1) (by omega) (by omega), wz_id (x := (i : Int) + 1) (by omega) (by omega)]
        exact ⟨⟨i + 1, k + 1, _, by omega, by omega, h6, hcp.keep hx (nf hr), by omega, u.trans u6, kb.up u6 (only_ne (Ne.symm hc))⟩, hm⟩
    · have hlt : ¬ k < s.n := fun h => hlt (Int.ofNat_lt.2 h)
      have hkl := hcp.kl
      refine clearTail_of etInt ozInt h rfl (by omega) fun s' w6 h6 u6 => ⟨?_, u.trans u6⟩
      rw [hcp.done (by omega)] at h6
      exact h6
-- END mkh.py
end
end Go.Proofs.YtajilfnceoeaiaaGreat.V
/- Copies; locks. -/
namespace Go.Proofs.YtajilfnceoeaiaaGreat.V
open Go Go.RowKit Enc
set_option maxRecDepth 100000
theorem all_one {α : Type} [Enc α] {l : List α} (h : ∀ x : α, (enc x).all Value.oneCell' = true) : (l.flatMap enc).all Value.oneCell' = true := by
  rw [List.all_eq_true]
  intro v hv
  obtain ⟨x, _, hx⟩ := List.mem_flatMap.1 hv
  exact List.all_eq_true.1 (h x) v hx
theorem nil_of {α : Type} [Enc α] {o : Own} {w : World} {c : Nat} {s : Sl} {l : List α} (h : RL o w c s l) (ha : s.a = none) : l = [] := by
  cases l with
  | nil => rfl
  | cons x l =>
    obtain ⟨b, off, h1, _⟩ := h.bx (k := 0) (x := x) rfl
    rw [ha] at h1
    cases h1
section
variable {o o' : Own} {w w' : World} {c d : Nat} {s : Sl}
theorem cloneHeld_spec {l : List Held} (h : RL o w c s l) (hb : l.length * 24 ≤ 140737488355328) (d : Nat) : Call P 79 [.slice s.a s.n s.c] [sS] (fun s' w' => ∃ o', RL o' w' d s' l ∧ (l ≠ [] → RowL o' w' d 76 s' l) ∧ s'.n ≤ s'.c ∧ Up no o w o' w') w := by
  refine f79_of _ (If_nil (fun ha => ⟨o, ?_, fun hl => absurd (nil_of h ha) hl, Nat.le_refl _, .refl⟩) fun a ha => ?_)
  · rw [nil_of h ha]; exact Rd.nil rfl
  · refine New_blk o 95 fun b o1 w1 k1 u1 _ => ?_
    exact clone_of etHeld o1 d _ (RL.up h u1 rfl) ha k1.heap (all_one fun _ => rfl) hb fun s' o' w' h1 h2 u2 h3 => ⟨o', h1, h2, h3, u1.trans u2⟩
theorem cloneInt_spec {l : List Int} (h : RL o w c s l) (hb : l.length * 8 ≤ 140737488355328) (d : Nat) : Call P 47 [.slice s.a s.n s.c] [sS] (fun s' w' => ∃ o', RL o' w' d s' l ∧ (l ≠ [] → RowL o' w' d 3 s' l) ∧ s'.n ≤ s'.c ∧ Up no o w o' w') w := by
  refine f47_of _ (If_nil (fun ha => ⟨o, ?_, fun hl => absurd (nil_of h ha) hl, Nat.le_refl _, .refl⟩) fun a ha => ?_)
  · rw [nil_of h ha]; exact Rd.nil rfl
  · refine New_blk o 95 fun b o1 w1 k1 u1 _ => ?_
    exact clone_of etInt o1 d _ (RL.up h u1 rfl) ha k1.heap (all_one fun _ => rfl) hb fun s' o' w' h1 h2 u2 h3 => ⟨o', h1, h2, h3, u1.trans u2⟩
theorem cloneTask_spec {l : List Task} (h : RL o w c s l) (hb : l.length * 64 ≤ 140737488355328) (d : Nat) : Call P 128 [.slice s.a s.n s.c] [sS] (fun s' w' => ∃ o', RL o' w' d s' l ∧ (l ≠ [] → RowL o' w' d 37 s' l) ∧ s'.n ≤ s'.c ∧ Up no o w o' w') w := by
  refine f128_of _ (If_nil (fun ha => ⟨o, ?_, fun hl => absurd (nil_of h ha) hl, Nat.le_refl _, .refl⟩) fun a ha => ?_)
  · rw [nil_of h ha]; exact Rd.nil rfl
  · refine New_blk o 95 fun b o1 w1 k1 u1 _ => ?_
    exact clone_of etTask o1 d _ (RL.up h u1 rfl) ha k1.heap (all_one fun _ => rfl) hb fun s' o' w' h1 h2 u2 h3 => ⟨o', h1, h2, h3, u1.trans u2⟩
theorem cloneEvent_spec {l : List Event} (h : RL o w c s l) (hb : l.length * 32 ≤ 140737488355328) (d : Nat) : Call P 39 [.slice s.a s.n s.c] [sS] (fun s' w' => ∃ o', RL o' w' d s' l ∧ (l ≠ [] → RowL o' w' d 45 s' l) ∧ s'.n ≤ s'.c ∧ Up no o w o' w') w := by
  refine f39_of _ (If_nil (fun ha => ⟨o, ?_, fun hl => absurd (nil_of h ha) hl, Nat.le_refl _, .refl⟩) fun a ha => ?_)
  · rw [nil_of h ha]; exact Rd.nil rfl
  · refine New_blk o 95 fun b o1 w1 k1 u1 _ => ?_
    exact clone_of etEvent o1 d _ (RL.up h u1 rfl) ha k1.heap (all_one fun _ => rfl) hb fun s' o' w' h1 h2 u2 h3 => ⟨o', h1, h2, h3, u1.trans u2⟩
theorem cloneLevel_spec {l : List Level} (h : RL o w c s l) (hb : l.length * 16 ≤ 140737488355328) (d : Nat) : Call P 89 [.slice s.a s.n s.c] [sS] (fun s' w' => ∃ o', RL o' w' d s' l ∧ (l ≠ [] → RowL o' w' d 93 s' l) ∧ s'.n ≤ s'.c ∧ Up no o w o' w') w := by
  refine f89_of _ (If_nil (fun ha => ⟨o, ?_, fun hl => absurd (nil_of h ha) hl, Nat.le_refl _, .refl⟩) fun a ha => ?_)
  · rw [nil_of h ha]; exact Rd.nil rfl
  · refine New_blk o 95 fun b o1 w1 k1 u1 _ => ?_
    exact clone_of etLevel o1 d _ (RL.up h u1 rfl) ha k1.heap (all_one fun _ => rfl) hb fun s' o' w' h1 h2 u2 h3 => ⟨o', h1, h2, h3, u1.trans u2⟩
theorem cloneSleep_spec {l : List Sleep} (h : RL o w c s l) (hb : l.length * 48 ≤ 140737488355328) (d : Nat) : Call P 90 [.slice s.a s.n s.c] [sS] (fun s' w' => ∃ o', RL o' w' d s' l ∧ (l ≠ [] → RowL o' w' d 105 s' l) ∧ s'.n ≤ s'.c ∧ Up no o w o' w') w := by
  refine f90_of _ (If_nil (fun ha => ⟨o, ?_, fun hl => absurd (nil_of h ha) hl, Nat.le_refl _, .refl⟩) fun a ha => ?_)
  · rw [nil_of h ha]; exact Rd.nil rfl
  · refine New_blk o 95 fun b o1 w1 k1 u1 _ => ?_
    exact clone_of etSleep o1 d _ (RL.up h u1 rfl) ha k1.heap (all_one fun _ => rfl) hb fun s' o' w' h1 h2 u2 h3 => ⟨o', h1, h2, h3, u1.trans u2⟩
theorem cloneDevice_spec {l : List Device} (h : RL o w c s l) (hb : l.length * 56 ≤ 140737488355328) (d : Nat) : Call P 91 [.slice s.a s.n s.c] [sS] (fun s' w' => ∃ o', RL o' w' d s' l ∧ (l ≠ [] → RowL o' w' d 58 s' l) ∧ s'.n ≤ s'.c ∧ Up no o w o' w') w := by
  refine f91_of _ (If_nil (fun ha => ⟨o, ?_, fun hl => absurd (nil_of h ha) hl, Nat.le_refl _, .refl⟩) fun a ha => ?_)
  · rw [nil_of h ha]; exact Rd.nil rfl
  · refine New_blk o 95 fun b o1 w1 k1 u1 _ => ?_
    exact clone_of etDevice o1 d _ (RL.up h u1 rfl) ha k1.heap (all_one fun _ => rfl) hb fun s' o' w' h1 h2 u2 h3 => ⟨o', h1, h2, h3, u1.trans u2⟩
theorem clipHeld_spec {l : List Held} (h : RL o w c s l) (hc : s.n ≤ s.c) : Call P 78 [.slice s.a s.n s.c] [sS] (fun s' w' => w' = w ∧ RL o w c s' l) w :=
  f78_of _ (clip_of etHeld h hc fun s' hs' => ⟨rfl, hs'⟩)
theorem clipInt_spec {l : List Int} (h : RL o w c s l) (hc : s.n ≤ s.c) : Call P 46 [.slice s.a s.n s.c] [sS] (fun s' w' => w' = w ∧ RL o w c s' l) w :=
  f46_of _ (clip_of etInt h hc fun s' hs' => ⟨rfl, hs'⟩)
theorem clipTask_spec {l : List Task} (h : RL o w c s l) (hc : s.n ≤ s.c) : Call P 42 [.slice s.a s.n s.c] [sS] (fun s' w' => w' = w ∧ RL o w c s' l) w :=
  f42_of _ (clip_of etTask h hc fun s' hs' => ⟨rfl, hs'⟩)
theorem clipEvent_spec {l : List Event} (h : RL o w c s l) (hc : s.n ≤ s.c) : Call P 38 [.slice s.a s.n s.c] [sS] (fun s' w' => w' = w ∧ RL o w c s' l) w :=
  f38_of _ (clip_of etEvent h hc fun s' hs' => ⟨rfl, hs'⟩)
end
end Go.Proofs.YtajilfnceoeaiaaGreat.V
/- locks: what is held. -/
namespace Go.Proofs.YtajilfnceoeaiaaGreat.V
open Go Go.RowKit Enc
set_option maxRecDepth 100000
/-- What is held, in memory. -/
def LocksR (o : Own) (w : World) (a : Nat) (H : List Held) : Prop := ∃ s : Sl, Blk o w 10 a (.cells [Value.slice s.a s.n s.c].toArray 138 (0, 0)) ∧ RowL o w 11 76 s H
def lkc : Nat → Bool := only [10, 11]
section
variable {o o' : Own} {w w' : World} {a : Nat} {H : List Held} {C : Nat → Bool}
theorem LocksR.up (h : LocksR o w a H) (u : Up C o w o' w') (h0 : C 10 = false) (h1 : C 11 = false) : LocksR o' w' a H := by
  obtain ⟨s, g1, g2⟩ := h
  exact ⟨s, g1.up u h0, g2.up u h1⟩
theorem LocksR.upno (h : LocksR o w a H) (u : Up no o w o' w') : LocksR o' w' a H := h.up u rfl rfl
theorem Up.lk0 (u : Up (only [10]) o w o' w') : Up lkc o w o' w' := u.mono fun d hd => by simp [lkc, only] at *; omega
theorem Up.lk1 (u : Up (only [11]) o w o' w') : Up lkc o w o' w' := u.mono fun d hd => by simp [lkc, only] at *; omega
theorem locksNew_spec (w : World) (o : Own) : Call P 57 [] [sP] (fun p w' => ∃ a o', p = some ⟨a, 0, none⟩ ∧ LocksR o' w' a [] ∧ Up no o w o' w') w :=
  f57_of (New_blk o 10 fun a o1 w1 g1 u1 _ => ⟨a, o1, rfl, ⟨⟨none, 0, 0⟩, g1, .nil⟩, u1⟩)
theorem take_spec (h : LocksR o w a H) (hl : H.length ≤ 1000) (task sem cycles : Int) : Call P 108 [.pointer (some ⟨a, 0, none⟩), .int .i64 task, .int .i64 sem, .int .i64 cycles] [sI]
    (fun r w' => (r = 0 ∨ r = 10) ∧ (r = 0 ↔ H.any (fun x => x.sem == sem) = false) ∧ ∃ o', LocksR o' w' a (if r = 0 then H ++ [⟨task, sem, cycles⟩] else H) ∧ Up lkc o w o' w') w := by
  obtain ⟨s, g1, g2⟩ := h
  refine f108_of _ _ _ _ (New_blk o 90 fun b1 o1 w1 k1 u1 _ => If_f ?_)
  have g1 := g1.up u1 rfl
  have g2 := g2.up u1 rfl
  refine WA (g1.bx.ld (x := s) rfl ?_)
  have hi := idxSem_spec g2.rl k1.bx
  refine f140t_of _ _ (hi.imp1 ?_)
  rintro r w2 ⟨u2, hr⟩
  have u2' : Up no o1 w1 o1 w2 := Up.of_below u2
  have g1 := g1.up u2' rfl
  have g2 := g2.up u2' rfl
  have k1 := k1.up u2' rfl
  rw [hr.any]
  refine If_b (fun e => ⟨.inr rfl, ?_, o1, ?_, (u1.trans u2').of_no⟩) fun e => ?_
  · rw [e]; decide
  · rw [if_neg (by decide)]; exact ⟨s, g1, g2⟩
  · have u3 : Up no o1 w2 o1 w2.drew := .drew
    have g1 := g1.up u3 rfl
    have g2 := g2.up u3 rfl
    have k1 := k1.up u3 rfl
    refine WA (g1.bx.ld (x := s) rfl (Ld_of (x := sem) (k1.bx.cell 0 _ rfl) ?_))
    refine New_blk o1 91 fun b2 o2 w3 k2 u4 _ => ?_
    have g1 := g1.up u4 rfl
    have g2 := g2.up u4 rfl
    have k1 := k1.up u4 rfl
    refine ⟨by (first | (apply Bx.get0; assumption; rfl) | (apply Bx.get; assumption; rfl) | (apply Bx.get0; apply Blk.bx; assumption; rfl) | (apply Bx.get; apply Blk.bx; assumption; rfl)), by (first | (apply Bx.get0; assumption; rfl) | (apply Bx.get; assumption; rfl) | (apply Bx.get0; apply Blk.bx; assumption; rfl) | (apply Bx.get; apply Blk.bx; assumption; rfl)), ?_⟩
    refine RowL.app (x := (⟨task, sem, cycles⟩ : Held)) etHeld 71 g2 (k2.rd1 rfl) rfl (by omega) (by unfold maxLen; omega) fun s' o5 w5 g2 u5 => ?_
    have g1 := g1.up u5 rfl
    have k1 := k1.up u5 rfl
    refine ⟨by (first | (apply Bx.get0; assumption; rfl) | (apply Bx.get; assumption; rfl) | (apply Bx.get0; apply Blk.bx; assumption; rfl) | (apply Bx.get; apply Blk.bx; assumption; rfl)), WA (g1.st (f := 0) (vs := [Value.slice s'.a s'.n s'.c]) (by simp) fun w6 g1 u6 => ⟨.inl rfl, ?_, o5, ?_, ?_⟩)⟩
    · rw [e]; decide
    · rw [if_pos rfl]; exact ⟨s', g1, g2.up u6 rfl⟩
    · exact ((((u1.trans u2').trans u3).trans u4).of_no.trans u5.lk1).trans u6.lk0
theorem set_get {α : Type} {l : List α} {k : Nat} {x : α} (h : l[k]? = some x) : l.set k x = l := by
  obtain ⟨h1, h2⟩ := List.getElem?_eq_some_iff.1 h
  rw [← h2]; exact List.set_getElem_self h1
def spendZ (task : Int) (x : Held) : Held := if x.task = task then ⟨x.task, x.sem, wz (x.left - 1)⟩ else x
theorem spend_spec (h : LocksR o w a H) (hl : H.length ≤ 1000) (task : Int) : Call P 166 [.pointer (some ⟨a, 0, none⟩), .int .i64 task] [] (fun w' => LocksR o w' a (H.map (spendZ task)) ∧ Up lkc o w o w') w := by
  obtain ⟨s, g1, g2⟩ := h
  refine f166_of _ _ (If_f (WA (g1.bx.ld (x := s) rfl ?_)))
  have hn := g2.n
  refine ⟨fun i w' => ∃ k : Nat, i = k ∧ k ≤ H.length ∧ Blk o w' 10 a (.cells [Value.slice s.a s.n s.c].toArray 138 (0, 0)) ∧ RowL o w' 11 76 s ((H.take k).map (spendZ task) ++ H.drop k) ∧ Up lkc o w o w', fun i _ => H.length - i.toNat, ⟨0, rfl, Nat.zero_le _, g1, g2, .refl⟩, ?_⟩
  rintro i v ⟨k, rfl, hk, g1, g2, u⟩ _
  have hm : k < H.length → H.length - Int.toNat ((k : Int) + 1) < H.length - Int.toNat (k : Int) := by omega
  refine If_d (fun hlt => ?_) fun hlt => ?_
  · have hlt : k < s.n := Int.ofNat_lt.1 hlt
    obtain ⟨x, hx⟩ : ∃ x, H[k]? = some x := ⟨H[k]'(by omega), List.getElem?_eq_getElem (by omega)⟩
    have hL : ((H.take k).map (spendZ task) ++ H.drop k)[k]? = some x := by
      rw [List.getElem?_append_right (by simp; omega), List.length_map, List.length_take, Nat.min_eq_left hk, Nat.sub_self, List.getElem?_drop, Nat.add_zero, hx]
    have hnext : ((H.take k).map (spendZ task) ++ H.drop k).set k (spendZ task x) = (H.take (k + 1)).map (spendZ task) ++ H.drop (k + 1) := by
      have hd : H.drop k = x :: H.drop (k + 1) := by
        rw [List.drop_eq_getElem_cons (by omega), (List.getElem?_eq_some_iff.1 hx).2]
      rw [take_succ_get hx, hd, List.set_append_right _ _ (by simp; omega)]
      simp [Nat.min_eq_left hk]
    refine WA (g1.bx.ld (x := s) rfl (g2.rl.fld (f := 0) (e := .ki .i64) (y := x.task) rfl hL rfl rfl (If_eq (fun e => ?_) fun e => ?_)))
    · refine WA (g1.bx.ld (x := s) rfl (g2.rl.fld (f := 2) (e := .ki .i64) (y := x.left) rfl hL rfl rfl ?_))
      have hs : spendZ task x = ⟨x.task, x.sem, wz (x.left - 1)⟩ := if_pos e
      refine g2.stf (f := 2) (y := spendZ task x) (vs := [Value.int .i64 (wz (x.left - 1))]) rfl hL rfl (by rw [hs]; rfl) (Nat.zero_lt_one) (Nat.le_refl _) fun w2 g2 u2 => ?_
      rw [hnext] at g2
      rw [wz_id (by omega) (by omega)]
      exact ⟨⟨k + 1, by omega, by omega, g1.up u2 rfl, g2, u.trans u2.lk1⟩, hm (by omega)⟩
    · have hs : spendZ task x = x := if_neg e
      rw [hs, set_get hL] at hnext
      rw [wz_id (by omega) (by omega)]
      rw [hnext] at g2
      exact ⟨⟨k + 1, by omega, by omega, g1, g2, u⟩, hm (by omega)⟩
  · have hlt : ¬ k < s.n := fun h => hlt (Int.ofNat_lt.2 h)
    have : k = H.length := by
      rw [RowL.n g2] at hlt
      simp at hlt
      omega
    subst this
    simp only [List.take_length, List.drop_length, List.append_nil] at g2
    exact ⟨⟨s, g1, g2⟩, u⟩
theorem over_spec (h : LocksR o w a H) (task : Int) : Call P 163 [.pointer (some ⟨a, 0, none⟩), .int .i64 task] [sB] (fun r w' => Below w.heap.size w w' ∧ r = H.any (fun x => x.task == task && decide (x.left ≤ 0))) w := by
  obtain ⟨s, g1, g2⟩ := h
  refine f163_of _ _ (New_of fun b1 w1 c1 u1 => If_not (If_f ?_))
  refine WA ((g1.bx.below u1).ld (x := s) rfl ?_)
  have hi := idxOver_spec (g2.rl.below u1) c1
  refine f140o_of _ _ (hi.imp1 ?_)
  rintro r w2 ⟨u2, hr⟩
  exact ⟨u1.on u2, hr.any⟩
theorem free_spec (h : LocksR o w a H) (hl : H.length ≤ 1000) (task : Int) : Call P 190 [.pointer (some ⟨a, 0, none⟩), .int .i64 task] [] (fun w' => ∃ o', LocksR o' w' a (H.filter fun x => !(x.task == task)) ∧ Up lkc o w o' w') w := by
  obtain ⟨s, g1, g2⟩ := h
  refine f190_of _ _ (New_blk o 90 fun b1 o1 w1 k1 u1 _ => If_not (If_f ?_))
  have g1 := g1.up u1 rfl
  have g2 := g2.up u1 rfl
  refine WA (g1.bx.ld (x := s) rfl ?_)
  have hd := delHeld_spec g2 (by decide) (by omega) k1
  refine hd.imp1 ?_
  rintro s' w2 ⟨g2, u2⟩
  have g1 := g1.up u2 rfl
  exact WA (g1.st (f := 0) (vs := [Value.slice s'.a s'.n s'.c]) (by simp) fun w3 g1 u3 => ⟨o1, ⟨s', g1, g2.up u3 rfl⟩, (u1.of_no.trans u2.lk1).trans u3.lk0⟩)
theorem locksList_spec (h : LocksR o w a H) (hl : H.length ≤ 1000) : Call P 48 [.pointer (some ⟨a, 0, none⟩)] [sS] (fun s w' => ∃ o', RL o' w' 0 s H ∧ Up no o w o' w') w := by
  obtain ⟨s, g1, g2⟩ := h
  refine f48_of _ (If_f (WA (g1.bx.ld (x := s) rfl ?_)))
  have hc := cloneHeld_spec g2.rl (by omega) 0
  refine hc.imp1 ?_
  rintro s2 w2 ⟨o2, g3, _, hcap, u2⟩
  have hp := clipHeld_spec g3 hcap
  refine hp.imp1 ?_
  rintro s3 w3 ⟨rfl, g4⟩
  exact ⟨o2, g4, u2⟩
end
end Go.Proofs.YtajilfnceoeaiaaGreat.V
/- Deleting one of what is held; giving. -/
namespace Go.Proofs.YtajilfnceoeaiaaGreat.V
open Go Go.RowKit Enc
set_option maxRecDepth 100000
section
variable {o o' : Own} {w w' : World} {c : Nat} {s : Sl} {H : List Held}
theorem clear_run {t e : TypeId} {sz' by_ : Nat} (et : ET t e sz' by_) (oz : OneZ e) {g k m cap : Nat} {cur : Array Value} (hg : w.heap[g]? = some (.cells cur e (0, 0))) (hm : 0 < m) (hfit : k + m * sz' ≤ cur.size) :
    ∃ zs : List Value, zs.length = m * sz' ∧ (Builtin.clear_ #[t] 0 [.slice (some ⟨g, k, none⟩) m cap].toArray).run P w = .ok (.tuple #[]) (w.setRow g (cur.toList.take k ++ zs ++ cur.toList.drop (k + zs.length)).toArray) := by
  obtain ⟨i, z, hi, hz, h1, h2, h3⟩ := et.parts
  have ozz : z.cells.toList.all Value.oneCell' = true := by
    have := oz
    simp only [OneZ, hi, Option.bind_some, hz, Option.map_some] at this
    exact Option.some.inj this
  have hzs : 0 < z.cells.size := by rw [h3]; exact et.pos
  have hcl : (Builtin.zeroCells z.cells m).toList.length = m * sz' := by simp [size_zeroCells, h3]
  have hst := run_storeCells_at P g k e (Builtin.zeroCells z.cells m).toList 0 cur w hg (by rw [hcl]; omega) (zeroCells_one ozz hzs)
  refine ⟨_, hcl, ?_⟩
  obtain ⟨q, rfl⟩ : ∃ q, m = q + 1 := ⟨m - 1, by omega⟩
  have hzv : (zeroValue e).run P w = .ok z w := by simp [zeroValue, typeInfo, hi, hz, Result.andThen]
  simp only [Nat.add_zero] at hst
  simp [Builtin.clear_, run_underlying et.u, hzv, hst]
theorem If_f' {b : Bool} {x y : Prop} (h : b = false) (k : y) : If b x y := by rw [h]; exact k
theorem delete_spec' (h : RowL o w c 76 s H) (hl : H.length ≤ 1000) {i : Nat} (hi : i < H.length) : Call P 139 [.slice s.a s.n s.c, .int .i64 (i : Int), .int .i64 ((i : Int) + 1)] [sS] (fun s' w' => RowL o w' c 76 s' (H.eraseIdx i) ∧ Up (only [c]) o w o w') w := by
  have hn := h.n
  have hel := et_elem etHeld
  have het : P.underlying 71 = some (.slice (P.elem 71)) := by rw [hel]; exact etHeld.u
  obtain ⟨⟨hlen, hr⟩, hh⟩ := id h
  rcases hr with ⟨h1, h2⟩ | ⟨g, cap, cur, h1, h2, h3, h4, h5, h6, h7⟩
  · omega
  simp only [Value.slice.injEq] at h1
  obtain ⟨ha, -, hc⟩ := h1
  subst hc
  have ho : o g = c := hh _ ha
  -- the cells
  have hcs : cur.toList.length = s.c * 3 := by rw [Array.length_toList]; exact h6
  have h7' : cur.toList.take (s.n * 3) = H.flatMap enc := h7
  have hnews : ((H.drop (i + 1)).flatMap enc).length = (s.n - (i + 1)) * 3 := by rw [length_flat, List.length_drop, hn]; rfl
  have hcell : ∀ j v, ((H.drop (i + 1)).flatMap enc)[j]? = some v → cur[(i + 1) * 3 + j]? = some v := by
    intro j v hj
    have hfl : H.flatMap enc = (H.take (i + 1)).flatMap enc ++ (H.drop (i + 1)).flatMap enc := by rw [← List.flatMap_append, List.take_append_drop]
    have hl1 : ((H.take (i + 1)).flatMap enc).length = (i + 1) * 3 := by rw [length_flat, List.length_take, Nat.min_eq_left (by omega)]; rfl
    have : (H.flatMap enc)[(i + 1) * 3 + j]? = some v := by
      rw [hfl, List.getElem?_append_right (by omega), hl1, Nat.add_sub_cancel_left]
      exact hj
    rw [← h7'] at this
    have hlt := lt_of_get this
    simp only [List.length_take] at hlt
    rw [List.getElem?_take_of_lt (by omega)] at this
    simpa using this
  refine f139_of _ _ _ ?_
  -- the check of the bounds
  obtain ⟨s1, hs1⟩ : ∃ s1 : Sl, (Instr.sliceAt 71 (.slice s.a s.n s.c) (some (.int .i64 (i : Int))) (some (.int .i64 ((i : Int) + 1))) (some (.int .i64 ((s.n : Nat) : Int)))).run P w = .ok (.slice s1.a s1.n s1.c) w := by
    rw [run_sliceAt_slice w 71 _ _ _ _ het, run_slice_lhm w 71 s.a s.n s.c het .i64 .i64 .i64 (i : Int) ((i : Int) + 1) ((s.n : Nat) : Int) (by omega) (by omega) (by omega) (by omega), hel, et_size etHeld]
    exact ⟨⟨_, _, _⟩, rfl⟩
  refine ⟨w, s1, hs1, If_f' (by simp; omega) ?_⟩
  have u0 : Up no o w o w.drew := .drew
  have h3' : w.drew.heap[g]? = some (.cells cur 76 (0, 0)) := h3
  have r2 : ∀ w : World, (Instr.sliceAt 71 (.slice s.a s.n s.c) none (some (.int .i64 (i : Int))) none).run P w = .ok (.slice (some ⟨g, 0, none⟩) i s.c) w := by
    intro w
    rw [run_sliceAt_slice w 71 _ _ _ _ het, run_slice_h w 71 s.a s.n s.c het .i64 (i : Int) (by omega) (by omega), hel, et_size etHeld]
    simp only [Result.andThen_ok, Int.toNat_natCast]
    have : sliced s.a 0 i s.c 3 = .slice (some ⟨g, 0, none⟩) i s.c := by
      unfold sliced
      rw [ha]
      split
      · rfl
      · simp [Addr.add, Nat.zero_mul]
    rw [this]
  obtain ⟨a3, r3, ha3⟩ : ∃ a3, (∀ w : World, (Instr.sliceAt 71 (.slice s.a s.n s.c) (some (.int .i64 ((i : Int) + 1))) none none).run P w = .ok (.slice (some a3) (s.n - (i + 1)) (s.c - (i + 1))) w) ∧ (s.c ≠ i + 1 → a3 = ⟨g, (i + 1) * 3, none⟩) := by
    refine ⟨if s.c = i + 1 then ⟨g, 0, none⟩ else ⟨g, (i + 1) * 3, none⟩, fun w => ?_, fun e => if_neg e⟩
    rw [run_sliceAt_slice w 71 _ _ _ _ het, run_slice_l w 71 s.a s.n s.c het .i64 ((i : Int) + 1) (by omega) (by omega), hel, et_size etHeld]
    have ht : ((i : Int) + 1).toNat = i + 1 := by omega
    simp only [Result.andThen_ok, ht]
    have : sliced s.a (i + 1) s.n s.c 3 = .slice (some (if s.c = i + 1 then ⟨g, 0, none⟩ else ⟨g, (i + 1) * 3, none⟩)) (s.n - (i + 1)) (s.c - (i + 1)) := by
      unfold sliced
      rw [ha]
      by_cases e : s.c = i + 1
      · rw [if_pos e, if_pos e]
      · rw [if_neg e, if_neg e, Option.map_some, Addr.add_mk, Nat.zero_add]
    rw [this]
  obtain ⟨it, z, hi', hz', e1, e2, e3⟩ := etHeld.parts
  have r4 : (Builtin.append_ #[71, 71] 71 #[.slice (some ⟨g, 0, none⟩) i s.c, .slice (some a3) (s.n - (i + 1)) (s.c - (i + 1))]).run P w.drew = .ok (.slice (some ⟨g, 0, none⟩) (i + (s.n - (i + 1))) s.c) (w.drew.setRow g (cur.toList.take (i * it.size) ++ (H.drop (i + 1)).flatMap enc ++ cur.toList.drop (i * it.size + ((H.drop (i + 1)).flatMap enc).length)).toArray) := by
    refine run_append_room (P := P) w.drew 71 71 76 it etHeld.u hi' g i s.c cur h3' a3 (s.n - (i + 1)) (s.c - (i + 1)) ((H.drop (i + 1)).flatMap enc) (by rw [hnews, e1]) (fun j u hu => ?_) (fun u hu => ?_) (by omega) ?_
    · have hlt := lt_of_get hu
      rw [hnews] at hlt
      rw [ha3 (by intro e; have : s.n - (i + 1) = 0 := by omega
                  rw [this] at hlt; omega), Addr.add_mk]
      simp [World.cell?, h3', hcell j u hu]
    · have := all_one (l := H.drop (i + 1)) (fun _ => rfl)
      exact List.all_eq_true.1 this u hu
    · rw [hnews, e1]
      have : cur.size = s.c * 3 := h6
      omega
  rw [e1] at r4
  generalize hw1 : (cur.toList.take (i * 3) ++ (H.drop (i + 1)).flatMap enc ++ cur.toList.drop (i * 3 + ((H.drop (i + 1)).flatMap enc).length)).toArray = cur1 at r4
  have hc1 : cur1.size = s.c * 3 := by
    rw [← hw1]
    simp only [List.size_toArray, List.length_append, List.length_take, List.length_drop, hnews, hcs]
    omega
  have hg1 : (w.drew.setRow g cur1).heap[g]? = some (.cells cur1 76 (0, 0)) := setRow_heap w.drew g cur _ 76 _ h3'
  have ht1 : cur1.toList.take ((s.n - 1) * 3) = (H.eraseIdx i).flatMap enc := by
    have hfl : (H.eraseIdx i).flatMap enc = (H.take i).flatMap enc ++ (H.drop (i + 1)).flatMap enc := by rw [List.eraseIdx_eq_take_drop_succ, List.flatMap_append]
    have hl1 : ((H.take i).flatMap enc).length = i * 3 := by rw [length_flat, List.length_take, Nat.min_eq_left (by omega)]; rfl
    have hti : cur.toList.take (i * 3) = (H.take i).flatMap enc := by
      have h5 : H.flatMap enc = (H.take i).flatMap enc ++ (H.drop i).flatMap enc := by rw [← List.flatMap_append, List.take_append_drop]
      have : (cur.toList.take (s.n * 3)).take (i * 3) = (H.take i).flatMap enc := by rw [h7', h5, List.take_left' hl1]
      rw [List.take_take, Nat.min_eq_left (by omega)] at this
      exact this
    rw [← hw1, hfl, hti]
    rw [List.take_left' (by rw [List.length_append, hl1, hnews]; omega)]
  obtain ⟨zs, hzl, r6⟩ := clear_run (w := w.drew.setRow g cur1) (cap := s.c - (s.n - 1)) etHeld ozHeld (k := (s.n - 1) * 3) (m := 1) hg1 Nat.one_pos (by rw [hc1]; omega)
  have hsn : i + (s.n - (i + 1)) = s.n - 1 := by omega
  rw [hsn] at r4
  have r5 : ∀ w : World, (Instr.sliceAt 71 (.slice (some ⟨g, 0, none⟩) (s.n - 1) s.c) (some (.int .i64 (((s.n - 1 : Nat)) : Int))) (some (.int .i64 ((s.n : Nat) : Int))) none).run P w = .ok (.slice (some ⟨g, (s.n - 1) * 3, none⟩) 1 (s.c - (s.n - 1))) w := by
    intro w
    rw [run_sliceAt_slice w 71 _ _ _ _ het, run_slice_lh w 71 _ (s.n - 1) s.c het .i64 .i64 (((s.n - 1 : Nat)) : Int) ((s.n : Nat) : Int) (by omega) (by omega) (by omega), hel, et_size etHeld]
    simp only [Result.andThen_ok, Int.toNat_natCast]
    have : sliced (some ⟨g, 0, none⟩) (s.n - 1) s.n s.c 3 = .slice (some ⟨g, (s.n - 1) * 3, none⟩) 1 (s.c - (s.n - 1)) := by
      unfold sliced
      have e : s.c ≠ s.n - 1 := by omega
      rw [if_neg e, Option.map_some, Addr.add_mk, Nat.zero_add, show s.n - (s.n - 1) = 1 by omega]
    rw [this]
  have fin : RowL o ((w.drew.setRow g cur1).setRow g (cur1.toList.take ((s.n - 1) * 3) ++ zs ++ cur1.toList.drop ((s.n - 1) * 3 + zs.length)).toArray) c 76 ⟨some ⟨g, 0, none⟩, s.n - 1, s.c⟩ (H.eraseIdx i) ∧ Up (only [c]) o w o ((w.drew.setRow g cur1).setRow g (cur1.toList.take ((s.n - 1) * 3) ++ zs ++ cur1.toList.drop ((s.n - 1) * 3 + zs.length)).toArray) := by
    have hlt : ((s.n - 1) * 3) ≤ cur1.toList.length := by simp only [Array.length_toList, hc1]; omega
    refine ⟨⟨⟨by rw [length_flat, List.length_eraseIdx, if_pos hi, hn], .inr ⟨g, s.c, _, rfl, Nat.zero_le _, setRow_heap _ g cur1 _ 76 _ hg1, by show s.n - 1 ≤ s.c; omega, h5, ?_, ?_⟩⟩, fun a he => ?_⟩, ?_⟩
    · simp only [List.size_toArray, List.length_append, List.length_take, List.length_drop, Array.length_toList, hzl, hc1]
      show _ = s.c * 3
      omega
    · show (cur1.toList.take ((s.n - 1) * 3) ++ zs ++ cur1.toList.drop ((s.n - 1) * 3 + zs.length)).take ((s.n - 1) * 3) = _
      rw [List.append_assoc, List.take_append_of_le_length (by rw [List.length_take]; omega), List.take_take, Nat.min_self, ht1]
    · obtain rfl : a = ⟨g, 0, none⟩ := by simpa using he.symm
      exact ho
    · have hx : ∀ (w : World) (x : Array Value), Up (only [c]) o w o (w.setRow g x) := fun w x => Up.set1 (b := g) (by simp [only, ho]) (fun q hq => setRow_other w g q _ hq) rfl rfl rfl (by simp [World.setRow])
      exact (u0.of_no.trans (hx _ _)).trans (hx _ _)
  have back : ∀ K : Sl → World → Prop, K ⟨some ⟨g, 0, none⟩, s.n - 1, s.c⟩ ((w.drew.setRow g cur1).setRow g (cur1.toList.take ((s.n - 1) * 3) ++ zs ++ cur1.toList.drop ((s.n - 1) * 3 + zs.length)).toArray) →
      Sm P (Builtin.append_ #[71, 71] 71 [.slice (some ⟨g, 0, none⟩) i s.c, .slice (some a3) (s.n - (i + 1)) (s.c - (i + 1))].toArray) [sS] (fun s4 w => Sm P (Instr.sliceAt 71 (.slice s4.a s4.n s4.c) (some (.int .i64 ((s4.n : Nat) : Int))) (some (.int .i64 ((s.n : Nat) : Int))) none) [sS] (fun s5 w => Sm P (Builtin.clear_ #[71] 0 [.slice s5.a s5.n s5.c].toArray) [] (fun w => K s4 w) w) w) w.drew := by
    intro K hK
    exact ⟨_, ⟨some ⟨g, 0, none⟩, s.n - 1, s.c⟩, r4, _, ⟨some ⟨g, (s.n - 1) * 3, none⟩, 1, s.c - (s.n - 1)⟩, r5 _, _, r6, hK⟩
  exact ⟨⟨_, ⟨some ⟨g, 0, none⟩, i, s.c⟩, r2 _, _, ⟨some a3, s.n - (i + 1), s.c - (i + 1)⟩, r3 _, back _ fin⟩, ⟨_, ⟨some a3, s.n - (i + 1), s.c - (i + 1)⟩, r3 _, _, ⟨some ⟨g, 0, none⟩, i, s.c⟩, r2 _, back _ fin⟩⟩
/-- The last one that a task holds. -/
def LastOf (H : List Held) (task : Int) (i : Nat) : Prop := i < H.length ∧ (∃ x, H[i]? = some x ∧ x.task = task) ∧ ∀ (p : Nat) (y : Held), i < p → H[p]? = some y → y.task ≠ task
/-- A task holds its last one no more. -/
theorem give_spec {a : Nat} (h : LocksR o w a H) (hl : H.length ≤ 1000) (task sem : Int) : Call P 107 [.pointer (some ⟨a, 0, none⟩), .int .i64 task, .int .i64 sem] [sI]
    (fun r w' => ∃ o' H', LocksR o' w' a H' ∧ Up lkc o w o' w' ∧ ((r = 10 ∧ H' = H) ∨ (r = 0 ∧ ∃ i, LastOf H task i ∧ H' = H.eraseIdx i))) w := by
  obtain ⟨s, g1, g2⟩ := h
  have hn := g2.n
  refine f107_of _ _ _ (If_f (WA (g1.bx.ld (x := s) rfl ?_)))
  refine ⟨fun i w' => ∃ k : Nat, i = (k : Int) - 1 ∧ k ≤ H.length ∧ Up no o w o w' ∧ ∀ (p : Nat) (y : Held), k ≤ p → H[p]? = some y → y.task ≠ task, fun i _ => (i + 1).toNat, ⟨H.length, by rw [wz_id (by omega) (by omega), hn], Nat.le_refl _, .refl, fun p y hp hy => absurd (lt_of_get hy) (by omega)⟩, ?_⟩
  rintro i v ⟨k, rfl, hk, u, hlast⟩ _
  have g1 := g1.up u rfl
  have g2 := g2.up u rfl
  refine If_d (fun h0 => ?_) fun h0 => ⟨o, H, ⟨s, g1, g2⟩, u.of_no, .inl ⟨rfl, rfl⟩⟩
  obtain ⟨q, rfl⟩ : ∃ q, k = q + 1 := ⟨k - 1, by have h0 : (k : Int) - 1 ≥ 0 := h0; omega⟩
  have hq : (((q + 1 : Nat) : Int) - 1) = (q : Int) := by omega
  rw [hq]
  obtain ⟨x, hx⟩ : ∃ x, H[q]? = some x := ⟨H[q]'(by omega), List.getElem?_eq_getElem (by omega)⟩
  refine WA (g1.bx.ld (x := s) rfl (g2.rl.held rfl hx (NewSt_of (by rfl) fun b2 w2 c2 u2 => c2.ld (x := x.task) rfl ?_)))
  have u2' : Up no o v o w2 := Up.of_below u2
  have g1 := g1.up u2' rfl
  have g2 := g2.up u2' rfl
  refine If_eq (fun e => ?_) fun e => ?_
  · refine c2.ld (x := x.sem) rfl (If_ne (fun e2 => ⟨o, H, ⟨s, g1, g2⟩, (u.trans u2').of_no, .inl ⟨rfl, rfl⟩⟩) fun e2 => ?_)
    refine WA (g1.bx.ld (x := s) rfl ?_)
    have hd := delete_spec' g2 hl (i := q) (by omega)
    rw [wz_id (by omega) (by omega)]
    refine hd.imp1 ?_
    rintro s' w3 ⟨g2, u3⟩
    have g1 := g1.up u3 rfl
    exact WA (g1.st (f := 0) (vs := [Value.slice s'.a s'.n s'.c]) (by simp) fun w4 g1 u4 => ⟨o, H.eraseIdx q, ⟨s', g1, g2.up u4 rfl⟩, (((u.trans u2').of_no).trans u3.lk1).trans u4.lk0, .inr ⟨rfl, q, ⟨by omega, ⟨x, hx, e⟩, fun p y hp hy => hlast p y (by omega) hy⟩, rfl⟩⟩)
  · rw [wz_id (by omega) (by omega)]
    refine ⟨⟨q, rfl, by omega, u.trans u2', fun p y hp hy => ?_⟩, ?_⟩
    · by_cases hpq : p = q
      · subst hpq
        rw [hx] at hy
        cases hy
        exact e
      · exact hlast p y (by omega) hy
    show ((q : Int) - 1 + 1).toNat < (((q : Int)) + 1).toNat
    omega
end
end Go.Proofs.YtajilfnceoeaiaaGreat.V
/- trace and meter. -/
namespace Go.Proofs.YtajilfnceoeaiaaGreat.V
open Go Go.RowKit Enc
set_option maxRecDepth 100000
theorem RL.interval' {o : Own} {w : World} {c : Nat} {s : Sl} {l : List Interval} (h : RL o w c s l) {i : Int} {k : Nat} {x : Interval} (hi : i = (k : Int)) (hx : l[k]? = some x) {K : Int → Int → Int → Int → Int → Int → World → Prop} (hk : K x.kind x.from_ x.len x.arg x.task x.cycles w) :
    ((0 : Int) ≤ i ∧ i < ((s.n : Nat) : Int)) ∧ WithAddr s.a fun a => LdN shSleep.cs 0 (a.add (Int.toNat i * 6)) K w := h.interval hi hx hk
theorem Bx.getAt {w : World} {b off j : Nat} {vs : List Value} {v : Value} (h : Bx w b off vs) (hv : vs[j]? = some v) : w.cell? ((⟨b, off, none⟩ : Addr).add j) = some v := by
  rw [Addr.add_mk]; exact h.cell j v hv
/-- One block alone has been written. -/
structure Wr (b : Nat) (w w' : World) : Prop where
  os : w'.os = w.os
  tape : w'.tape = w.tape
  output : w'.output = w.output
  size : w'.heap.size = w.heap.size
  other : ∀ k, k ≠ b → w'.heap[k]? = w.heap[k]?
theorem Wr.up {b c : Nat} {o : Own} {w w' : World} (h : Wr b w w') (hb : o b = c) : Up (only [c]) o w o w' := Up.set1 (b := b) (by simp [only, hb]) h.other h.os h.tape h.output h.size
/-- A write into a block that is new since then. -/
theorem Up.wr {C : Nat → Bool} {o o' : Own} {w w' w'' : World} {b : Nat} (u : Up C o w o' w') (h : Wr b w' w'') (hb : w.heap.size ≤ b) : Up C o w o' w'' :=
  ⟨h.os.trans u.os, h.tape.trans u.tape, h.output.trans u.output, by rw [h.size]; exact u.size, u.own, fun k hk hC => (h.other k (by omega)).trans (u.block k hk hC)⟩
theorem Blk.wr {o : Own} {w : World} {c b f : Nat} {cs vs : List Value} {t : TypeId} {K : World → Prop} (k : Blk o w c b (.cells cs.toArray t (0, 0))) (hl : f + vs.length ≤ cs.length)
    (h : ∀ w', Blk o w' c b (.cells (splice cs f vs).toArray t (0, 0)) → Wr b w w' → K w') : StN vs 0 ((⟨b, 0, none⟩ : Addr).add f) K w := by
  rw [Addr.add_mk, Nat.zero_add]
  exact StN_of k.heap (by simpa using hl) fun w' h1 h2 h3 h4 h5 h6 => h w' ⟨k.own, by simpa using h1⟩ ⟨h3, h4, h5, h6, h2⟩
theorem Blk.wr0 {o : Own} {w : World} {c b : Nat} {cs vs : List Value} {t : TypeId} {K : World → Prop} (k : Blk o w c b (.cells cs.toArray t (0, 0))) (hl : cs.length = vs.length)
    (h : ∀ w', Blk o w' c b (.cells vs.toArray t (0, 0)) → Wr b w w' → K w') : StN vs 0 ⟨b, 0, none⟩ K w := by
  refine StN_of k.heap (by simp [hl]) fun w' h1 h2 h3 h4 h5 h6 => h w' ⟨k.own, ?_⟩ ⟨h3, h4, h5, h6, h2⟩
  rw [h1]
  congr 2
  simp [splice, hl]
theorem Call.impIv {w : World} {P : Program} {f : FuncId} {args : List Value} {K K' : Int → Int → Int → Int → Int → Int → Bool → World → Prop} (h : Call P f args [shInterval, sB] K w) (hk : ∀ a b c d e f g w', K a b c d e f g w' → K' a b c d e f g w') : Call P f args [shInterval, sB] K' w :=
  Calls.mono h fun _ w' ⟨a, b, c, d, e, f, g, h1, h2⟩ => ⟨a, b, c, d, e, f, g, h1, hk _ _ _ _ _ _ _ w' h2⟩
def noInt : Interval := ⟨0, 0, 0, 0, 0, 0⟩
def joinOk (a b : Interval) : Prop := (a.kind = 1 ∨ a.kind = 2 ∨ a.kind = 5) ∧ a.kind = b.kind ∧ a.arg = b.arg ∧ a.task = b.task ∧ b.from_ = wz (a.from_ + a.len)
instance (a b : Interval) : Decidable (joinOk a b) := inferInstanceAs (Decidable (_ ∧ _))
def joinZ (a b : Interval) : Interval := if joinOk a b then { a with len := wz (a.len + b.len), cycles := wz (a.cycles + b.cycles) } else noInt
theorem join_spec (x y : Interval) (w : World) : Call P 200 [x.v, y.v] [shInterval, sB] (fun a b c d e f ok w' => Below w.heap.size w w' ∧ (⟨a, b, c, d, e, f⟩ : Interval) = joinZ x y ∧ ok = decide (joinOk x y)) w := by
  refine f200_of _ _ (New_blk (still w) 90 fun b1 o1 w1 k1 u1 _ => New_blk o1 91 fun b2 o2 w2 k2 u2 _ => New_blk o2 92 fun b3 o3 w3 k3 u3 _ => ?_)
  have k1 := (k1.up u2 rfl).up u3 rfl
  have k2 := k2.up u3 rfl
  have c1 := k1.bx
  have c2 := k2.bx
  have u : Up loc (still w) w o3 w3 := ((u1.trans u2).trans u3).of_no
  have fl : ∀ {K : Int → Int → Int → Int → Int → Int → World → Prop}, (∀ w', Below w.heap.size w w' → K 0 0 0 0 0 0 w') → StN [.int .i64 0, .int .i64 0, .int .i64 0, .int .i64 0, .int .i64 0, .int .i64 0] 0 (⟨b3, 0, none⟩ : Addr) (fun w => LdN shSleep.cs 0 (⟨b3, 0, none⟩ : Addr) K w) w3 := fun {K} hK =>
    k3.st0 (by rfl) fun w4 k3 u4 => k3.bx.ldInterval (x := noInt) (hK w4 (u.trans (u4.loc (by decide))).quietL)
  have no_ : ¬ joinOk x y → ∀ w', Below w.heap.size w w' → Below w.heap.size w w' ∧ (⟨0, 0, 0, 0, 0, 0⟩ : Interval) = joinZ x y ∧ false = decide (joinOk x y) := fun h w' hb => ⟨hb, by rw [joinZ, if_neg h]; rfl, by simp [h]⟩
  have yes : joinOk x y → ∀ {K : Int → Int → Int → Int → Int → Int → World → Prop}, (∀ w', Below w.heap.size w w' → K x.kind x.from_ (wz (x.len + y.len)) x.arg x.task (wz (x.cycles + y.cycles)) w') →
      Ld (.ki .i64) ((⟨b1, 0, none⟩ : Addr).add 2) (fun n38 w => Ld (.ki .i64) ((⟨b2, 0, none⟩ : Addr).add 2) (fun n39 w => Ld (.ki .i64) ((⟨b1, 0, none⟩ : Addr).add 5) (fun n40 w => Ld (.ki .i64) ((⟨b2, 0, none⟩ : Addr).add 5) (fun n41 w =>
        StN [.int .i64 (IntKind.wrap .i64 (n38 + n39))] 0 ((⟨b1, 0, none⟩ : Addr).add 2) (fun w => (w.cell? (((⟨b2, 0, none⟩ : Addr).add 5).add 0) = some (.int .i64 n41)) ∧ StN [.int .i64 (IntKind.wrap .i64 (n40 + n41))] 0 ((⟨b1, 0, none⟩ : Addr).add 5) (fun w => LdN shSleep.cs 0 (⟨b1, 0, none⟩ : Addr) (fun n42 n43 n44 n45 n46 n47 w =>
          StN [.int .i64 n42, .int .i64 n43, .int .i64 n44, .int .i64 n45, .int .i64 n46, .int .i64 n47] 0 (⟨b3, 0, none⟩ : Addr) (fun w => LdN shSleep.cs 0 (⟨b3, 0, none⟩ : Addr) K w) w) w) w) w) w) w) w) w3.drew := fun _ {K} hK => by
    have ud : Up no o3 w3 o3 w3.drew := .drew
    have k1 := k1.up ud rfl
    have k2 := k2.up ud rfl
    have k3 := k3.up ud rfl
    refine k1.bx.ld (x := x.len) rfl (k2.bx.ld (x := y.len) rfl (k1.bx.ld (x := x.cycles) rfl (k2.bx.ld (x := y.cycles) rfl (k1.st (f := 2) (vs := [Value.int .i64 (wz (x.len + y.len))]) (by simp) fun w4 k1 u4 => ?_))))
    have k2 := k2.up u4 rfl
    have k3 := k3.up u4 rfl
    refine ⟨k2.bx.get0 rfl, k1.st (f := 5) (vs := [Value.int .i64 (wz (x.cycles + y.cycles))]) (by simp [splice]) fun w5 k1 u5 => ?_⟩
    have k3 := k3.up u5 rfl
    have k1 : Blk o3 w5 90 b1 (.cells [Value.int .i64 x.kind, .int .i64 x.from_, .int .i64 (wz (x.len + y.len)), .int .i64 x.arg, .int .i64 x.task, .int .i64 (wz (x.cycles + y.cycles))].toArray 66 (0, 0)) := k1
    refine k1.bx.ldInterval (x := ⟨x.kind, x.from_, wz (x.len + y.len), x.arg, x.task, wz (x.cycles + y.cycles)⟩) (k3.st0 (by rfl) fun w6 k3 u6 => k3.bx.ldInterval (x := ⟨x.kind, x.from_, wz (x.len + y.len), x.arg, x.task, wz (x.cycles + y.cycles)⟩) (hK w6 ?_))
    exact ((((u.trans ud.of_no).trans (u4.loc (by decide))).trans (u5.loc (by decide))).trans (u6.loc (by decide))).quietL
  have yz : joinOk x y → joinZ x y = ⟨x.kind, x.from_, wz (x.len + y.len), x.arg, x.task, wz (x.cycles + y.cycles)⟩ := fun h => if_pos h
  refine c1.ld (x := x.kind) rfl (If_eq (fun e1 => ?_) fun e1 => ?_)
  · refine c1.ld (x := x.kind) rfl (c2.ld (x := y.kind) rfl (If_ne (fun e => fl (no_ fun h => e h.2.1)) fun e2 => ?_))
    refine c1.ld (x := x.arg) rfl (c2.ld (x := y.arg) rfl (If_ne (fun e => fl (no_ fun h => e h.2.2.1)) fun e3 => ?_))
    refine c1.ld (x := x.task) rfl (c2.ld (x := y.task) rfl (If_ne (fun e => fl (no_ fun h => e h.2.2.2.1)) fun e4 => ?_))
    refine c2.ld (x := y.from_) rfl (c1.ld (x := x.from_) rfl (c1.ld (x := x.len) rfl (If_ne (fun e => fl (no_ fun h => e h.2.2.2.2)) fun e5 => ?_)))
    have hj : joinOk x y := ⟨.inl e1, e2, e3, e4, e5⟩
    exact yes hj fun w' hb => ⟨hb, (yz hj).symm, by simp [hj]⟩
  refine c1.ld (x := x.kind) rfl (If_eq (fun e1b => ?_) fun e1b => ?_)
  · refine c1.ld (x := x.kind) rfl (c2.ld (x := y.kind) rfl (If_ne (fun e => fl (no_ fun h => e h.2.1)) fun e2 => ?_))
    refine c1.ld (x := x.arg) rfl (c2.ld (x := y.arg) rfl (If_ne (fun e => fl (no_ fun h => e h.2.2.1)) fun e3 => ?_))
    refine c1.ld (x := x.task) rfl (c2.ld (x := y.task) rfl (If_ne (fun e => fl (no_ fun h => e h.2.2.2.1)) fun e4 => ?_))
    refine c2.ld (x := y.from_) rfl (c1.ld (x := x.from_) rfl (c1.ld (x := x.len) rfl (If_ne (fun e => fl (no_ fun h => e h.2.2.2.2)) fun e5 => ?_)))
    have hj : joinOk x y := ⟨.inr (.inl e1b), e2, e3, e4, e5⟩
    exact yes hj fun w' hb => ⟨hb, (yz hj).symm, by simp [hj]⟩
  refine c1.ld (x := x.kind) rfl (If_not (If_eq (fun e1c => ?_) fun e1c => fl (no_ fun h => h.1.elim e1 fun h => h.elim e1b e1c)))
  · refine c1.ld (x := x.kind) rfl (c2.ld (x := y.kind) rfl (If_ne (fun e => fl (no_ fun h => e h.2.1)) fun e2 => ?_))
    refine c1.ld (x := x.arg) rfl (c2.ld (x := y.arg) rfl (If_ne (fun e => fl (no_ fun h => e h.2.2.1)) fun e3 => ?_))
    refine c1.ld (x := x.task) rfl (c2.ld (x := y.task) rfl (If_ne (fun e => fl (no_ fun h => e h.2.2.2.1)) fun e4 => ?_))
    refine c2.ld (x := y.from_) rfl (c1.ld (x := x.from_) rfl (c1.ld (x := x.len) rfl (If_ne (fun e => fl (no_ fun h => e h.2.2.2.2)) fun e5 => ?_)))
    have hj : joinOk x y := ⟨.inr (.inr e1c), e2, e3, e4, e5⟩
    exact yes hj fun w' hb => ⟨hb, (yz hj).symm, by simp [hj]⟩
/-! ### trace -/
/-- The trace, in memory. -/
def TraceR (o : Own) (w : World) (a : Nat) (L : List Interval) : Prop := ∃ s : Sl, Blk o w 12 a (.cells [Value.slice s.a s.n s.c].toArray 135 (0, 0)) ∧ RowL o w 13 66 s L
def trc : Nat → Bool := only [12, 13]
section
variable {o o' : Own} {w w' : World} {a : Nat} {L : List Interval} {C : Nat → Bool}
theorem TraceR.up (h : TraceR o w a L) (u : Up C o w o' w') (h0 : C 12 = false) (h1 : C 13 = false) : TraceR o' w' a L := by
  obtain ⟨s, g1, g2⟩ := h
  exact ⟨s, g1.up u h0, g2.up u h1⟩
theorem TraceR.upno (h : TraceR o w a L) (u : Up no o w o' w') : TraceR o' w' a L := h.up u rfl rfl
theorem Up.tr0 (u : Up (only [12]) o w o' w') : Up trc o w o' w' := u.mono fun d hd => by simp [trc, only] at *; omega
theorem Up.tr1 (u : Up (only [13]) o w o' w') : Up trc o w o' w' := u.mono fun d hd => by simp [trc, only] at *; omega
theorem traceNew_spec (w : World) (o : Own) : Call P 60 [] [sP] (fun p w' => ∃ a o', p = some ⟨a, 0, none⟩ ∧ TraceR o' w' a [] ∧ Up no o w o' w') w :=
  f60_of (New_blk o 12 fun a o1 w1 g1 u1 _ => ⟨a, o1, rfl, ⟨⟨none, 0, 0⟩, g1, .nil⟩, u1⟩)
/-- One interval more: with the last one, or behind it. -/
def addZ (L : List Interval) (i : Interval) : List Interval :=
  match L.getLast? with
  | some x => if joinOk x i then L.dropLast ++ [joinZ x i] else L ++ [i]
  | none => [i]
theorem traceAdd_spec (h : TraceR o w a L) (hl : L.length ≤ 1000000000000) (i : Interval) : Call P 184 [.pointer (some ⟨a, 0, none⟩), i.v] [] (fun w' => ∃ o', TraceR o' w' a (addZ L i) ∧ Up trc o w o' w') w := by
  obtain ⟨s, g1, g2⟩ := h
  refine f184_of _ _ (New_blk o 90 fun b1 o1 w1 k1 u1 _ => If_f ?_)
  have g1 := g1.up u1 rfl
  have g2 := g2.up u1 rfl
  have hn := g2.n
  -- the interval goes behind the list
  have back : ∀ (o1 : Own) (w1 : World), Blk o1 w1 12 a (.cells [Value.slice s.a s.n s.c].toArray 135 (0, 0)) → RowL o1 w1 13 66 s L → Blk o1 w1 90 b1 (.cells i.l.toArray 66 (0, 0)) → Up trc o w o1 w1 → ∀ K : World → Prop, (∀ w', (∃ o', TraceR o' w' a (L ++ [i]) ∧ Up trc o w o' w') → K w') →
      WithAddr (some (⟨a, 0, none⟩ : Addr)) fun a36 => Ld (.ks) (a36.add 0) (fun s37 w => LdN shSleep.cs 0 (⟨b1, 0, none⟩ : Addr) (fun n38 n39 n40 n41 n42 n43 w => New [.int .i64 n38, .int .i64 n39, .int .i64 n40, .int .i64 n41, .int .i64 n42, .int .i64 n43] 66 (fun a44 w =>
        (w.cell? ((a36.add 0).add 0) = some (.slice s37.a s37.n s37.c)) ∧ Sm P (Builtin.append_ #[63, 63] 63 [.slice s37.a s37.n s37.c, .slice (some a44) 1 1].toArray) [sS] (fun s45 w => (w.cell? ((⟨b1, 0, none⟩ : Addr).add 0) = some (.int .i64 n38) ∧ w.cell? ((⟨b1, 0, none⟩ : Addr).add 1) = some (.int .i64 n39) ∧ w.cell? ((⟨b1, 0, none⟩ : Addr).add 2) = some (.int .i64 n40) ∧ w.cell? ((⟨b1, 0, none⟩ : Addr).add 3) = some (.int .i64 n41) ∧ w.cell? ((⟨b1, 0, none⟩ : Addr).add 4) = some (.int .i64 n42) ∧ w.cell? ((⟨b1, 0, none⟩ : Addr).add 5) = some (.int .i64 n43)) ∧ WithAddr (some (⟨a, 0, none⟩ : Addr)) fun a46 => StN [.slice s45.a s45.n s45.c] 0 (a46.add 0) (fun w => K w) w) w) w) w) w1.drew := by
    intro o1 w1 g1 g2 k1 u K hK
    have ud : Up no o1 w1 o1 w1.drew := .drew
    have g1 := g1.up ud rfl
    have g2 := g2.up ud rfl
    have k1 := k1.up ud rfl
    refine WA (g1.bx.ld (x := s) rfl (k1.bx.ldInterval (x := i) (New_blk o1 91 fun b2 o2 w2 k2 u2 _ => ?_)))
    have g1 := g1.up u2 rfl
    have g2 := g2.up u2 rfl
    have k1 := k1.up u2 rfl
    refine ⟨by (first | (apply Bx.getAt; assumption; rfl) | (apply Bx.get0; assumption; rfl) | (apply Bx.get; assumption; rfl) | (apply Bx.get0; apply Blk.bx; assumption; rfl) | (apply Bx.get; apply Blk.bx; assumption; rfl)), RowL.app (x := i) etInterval 63 g2 (k2.rd1 rfl) rfl (by omega) (by unfold maxLen; omega) fun s' o5 w5 g2 u5 => ?_⟩
    have g1 := g1.up u5 rfl
    have k1 := k1.up u5 rfl
    exact ⟨by (repeat' (first | (apply Bx.getAt; assumption; rfl) | (apply Bx.get0; assumption; rfl) | (apply Bx.get; assumption; rfl) | (apply Bx.get0; apply Blk.bx; assumption; rfl) | (apply Bx.get; apply Blk.bx; assumption; rfl) | apply And.intro)), WA (g1.st (f := 0) (vs := [Value.slice s'.a s'.n s'.c]) (by simp) fun w6 g1 u6 => hK w6 ⟨o5, ⟨s', g1, g2.up u6 rfl⟩, ((((u.trans ud.of_no).trans u2.of_no)).trans u5.tr1).trans u6.tr0⟩)⟩
  have hlast : IntKind.wrap .i64 ((s.n : Int) - 1) = (L.length : Int) - 1 := by rw [wz_id (by omega) (by omega), hn]
  refine WA (g1.bx.ld (x := s) rfl (If_d (fun h0 => ?_) fun h0 => ?_))
  · have h0 : 0 < L.length := by rw [hlast] at h0; omega
    obtain ⟨q, hq⟩ : ∃ q, L.length = q + 1 := ⟨L.length - 1, by omega⟩
    obtain ⟨x, hx⟩ : ∃ x, L[q]? = some x := ⟨L[q]'(by omega), List.getElem?_eq_getElem (by omega)⟩
    have hlq : IntKind.wrap .i64 ((s.n : Int) - 1) = (q : Int) := by rw [hlast]; omega
    have hL : L.getLast? = some x := by rw [List.getLast?_eq_getElem?, hq]; exact hx
    have ud : Up no o1 w1 o1 w1.drew := .drew
    have g1 := g1.up ud rfl
    have g2 := g2.up ud rfl
    have k1 := k1.up ud rfl
    have u1 := u1.trans ud
    refine WA (g1.bx.ld (x := s) rfl (g2.rl.at hlq hx fun b off hb => ?_))
    have hadr : (⟨b, off, none⟩ : Addr).add (Int.toNat (IntKind.wrap .i64 ((s.n : Int) - 1)) * 6) = ⟨b, off + q * 6, none⟩ := by rw [hlq, Addr.add_mk, Int.toNat_natCast]
    have hb : Bx w1.drew b (off + q * 6) x.l := hb
    rw [hadr]
    refine hb.ldInterval (x := x) (k1.bx.ldInterval (x := i) ?_)
    have jz : ∀ {n1 n2 n3 n4 n5 n6 : Int}, (⟨n1, n2, n3, n4, n5, n6⟩ : Interval) = joinZ x i → joinOk x i → addZ L i = L.set q ⟨n1, n2, n3, n4, n5, n6⟩ := fun {n1 n2 n3 n4 n5 n6} e hok => by
      rw [e]
      unfold addZ
      rw [hL]
      simp only [if_pos hok]
      have : L = L.dropLast ++ [x] := by
        have hne : L ≠ [] := fun e0 => by rw [e0] at hq; simp at hq
        have hg : L.getLast hne = x := by rw [List.getLast?_eq_some_getLast hne] at hL; exact Option.some.inj hL
        rw [← hg, List.dropLast_concat_getLast]
      have hdl : L.dropLast.length = q := by rw [List.length_dropLast, hq]; rfl
      conv => rhs; rw [this, List.set_append_right _ _ (by omega), hdl, Nat.sub_self]
      rfl
    have nz : ¬ joinOk x i → addZ L i = L ++ [i] := fun hno => by
      unfold addZ
      rw [hL]
      simp only [if_neg hno]
    have u1' : Up trc o w o1 w1.drew := u1.of_no
    -- behind both: the last one is written
    have put : ∀ (o2 : Own) (w2 : World) (ba : Nat) (y : Interval), Blk o2 w2 12 a (.cells [Value.slice s.a s.n s.c].toArray 135 (0, 0)) → RowL o2 w2 13 66 s L → Blk o2 w2 92 ba (.cells y.l.toArray 66 (0, 0)) → Up trc o w o2 w2 → ∀ K : World → Prop, (∀ w', (∃ o', TraceR o' w' a (L.set q y) ∧ Up trc o w o' w') → K w') →
        WithAddr (some (⟨a, 0, none⟩ : Addr)) fun a27 => Ld (.ks) (a27.add 0) (fun s28 w => LdN shSleep.cs 0 (⟨ba, 0, none⟩ : Addr) (fun n29 n30 n31 n32 n33 n34 w => ((0 : Int) ≤ IntKind.wrap .i64 ((s.n : Int) - 1) ∧ IntKind.wrap .i64 ((s.n : Int) - 1) < ((s28.n : Nat) : Int)) ∧ WithAddr s28.a fun a35 =>
          StN [.int .i64 n29, .int .i64 n30, .int .i64 n31, .int .i64 n32, .int .i64 n33, .int .i64 n34] 0 (a35.add (Int.toNat (IntKind.wrap .i64 ((s.n : Int) - 1)) * 6)) (fun w => K w) w) w) w2.drew := by
      intro o2 w2 ba y g1 g2 k2 u K hK
      have ud : Up no o2 w2 o2 w2.drew := .drew
      have g1 := g1.up ud rfl
      have g2 := g2.up ud rfl
      have k2 := k2.up ud rfl
      exact WA (g1.bx.ld (x := s) rfl (k2.bx.ldInterval (x := y) (g2.st (y := y) hlq hx rfl fun w5 g2 u5 => hK w5 ⟨o2, ⟨s, g1.up u5 rfl, g2⟩, (u.trans ud.of_no).trans u5.tr1⟩)))
    -- behind both, in either order
    have fin : ∀ (o3 : Own) (w3 : World) (b2 : Nat) (n1 n2 n3 n4 n5 n6 : Int), w.heap.size ≤ b2 → (⟨n1, n2, n3, n4, n5, n6⟩ : Interval) = joinZ x i → Blk o3 w3 12 a (.cells [Value.slice s.a s.n s.c].toArray 135 (0, 0)) → RowL o3 w3 13 66 s L → Blk o3 w3 90 b1 (.cells i.l.toArray 66 (0, 0)) → Blk o3 w3 92 b2 (.cells [.int .i64 0, .int .i64 0, .int .i64 0, .int .i64 0, .int .i64 0, .int .i64 0].toArray 66 (0, 0)) → Up trc o w o3 w3 →
        ∀ w4, Blk o3 w4 92 b2 (.cells [.int .i64 n1, .int .i64 n2, .int .i64 n3, .int .i64 n4, .int .i64 n5, .int .i64 n6].toArray 66 (0, 0)) → Wr b2 w3 w4 → Blk o3 w4 12 a (.cells [Value.slice s.a s.n s.c].toArray 135 (0, 0)) ∧ RowL o3 w4 13 66 s L ∧ Blk o3 w4 90 b1 (.cells i.l.toArray 66 (0, 0)) ∧ Up trc o w o3 w4 := by
      intro o3 w3 b2 n1 n2 n3 n4 n5 n6 hb2 e g1 g2 k1 k2 u w4 k2' hw
      have u4 := hw.up k2.own
      exact ⟨g1.up u4 rfl, g2.up u4 rfl, k1.up u4 rfl, u.wr hw hb2⟩
    refine ⟨?_, ?_⟩
    · have hj := join_spec x i w1.drew
      refine hj.impIv ?_
      rintro n1 n2 n3 n4 n5 n6 ok w2 ⟨u2, e, rfl⟩
      have u2' : Up no o1 w1.drew o1 w2 := Up.of_below u2
      have g1 := g1.up u2' rfl
      have g2 := g2.up u2' rfl
      have k1 := k1.up u2' rfl
      have hb := hb.below u2
      refine ⟨by (first | (apply Bx.getAt; assumption; rfl) | (apply Bx.get0; assumption; rfl) | (apply Bx.get; assumption; rfl) | (apply Bx.get0; apply Blk.bx; assumption; rfl) | (apply Bx.get; apply Blk.bx; assumption; rfl)), New_blk o1 92 fun b2 o3 w3 k2 u3 hb2 => ?_⟩
      have g1 := g1.up u3 rfl
      have g2 := g2.up u3 rfl
      have k1 := k1.up u3 rfl
      have hb := hb.below u3.below
      have us := (u1.trans u2').size
      refine ⟨by (repeat' (first | (apply Bx.getAt; assumption; rfl) | (apply Bx.get0; assumption; rfl) | (apply Bx.get; assumption; rfl) | (apply Bx.get0; apply Blk.bx; assumption; rfl) | (apply Bx.get; apply Blk.bx; assumption; rfl) | apply And.intro)), by (repeat' (first | (apply Bx.getAt; assumption; rfl) | (apply Bx.get0; assumption; rfl) | (apply Bx.get; assumption; rfl) | (apply Bx.get0; apply Blk.bx; assumption; rfl) | (apply Bx.get; apply Blk.bx; assumption; rfl) | apply And.intro)), by (first | (apply Bx.getAt; assumption; rfl) | (apply Bx.get0; assumption; rfl) | (apply Bx.get; assumption; rfl) | (apply Bx.get0; apply Blk.bx; assumption; rfl) | (apply Bx.get; apply Blk.bx; assumption; rfl)), k2.wr0 (by rfl) fun w4 k2' hw => ?_⟩
      obtain ⟨g1, g2, k1, u4⟩ := fin o3 w3 b2 _ _ _ _ _ _ (by omega) e g1 g2 k1 k2 ((u1'.trans u2'.of_no).trans u3.of_no) w4 k2' hw
      refine If_d (fun hok => ?_) fun hno => ?_
      · rw [jz e hok]
        exact put o3 w4 b2 ⟨n1, n2, n3, n4, n5, n6⟩ g1 g2 k2' u4 _ fun w' h => h
      · rw [nz hno]
        exact back o3 w4 g1 g2 k1 u4 _ fun w' h => h
    · refine New_blk o1 92 fun b2 o3 w3 k2 u3 hb2 => ?_
      have g1 := g1.up u3 rfl
      have g2 := g2.up u3 rfl
      have k1 := k1.up u3 rfl
      have hb := hb.below u3.below
      have us := u1.size
      refine ⟨by (repeat' (first | (apply Bx.getAt; assumption; rfl) | (apply Bx.get0; assumption; rfl) | (apply Bx.get; assumption; rfl) | (apply Bx.get0; apply Blk.bx; assumption; rfl) | (apply Bx.get; apply Blk.bx; assumption; rfl) | apply And.intro)), by (repeat' (first | (apply Bx.getAt; assumption; rfl) | (apply Bx.get0; assumption; rfl) | (apply Bx.get; assumption; rfl) | (apply Bx.get0; apply Blk.bx; assumption; rfl) | (apply Bx.get; apply Blk.bx; assumption; rfl) | apply And.intro)), by (first | (apply Bx.getAt; assumption; rfl) | (apply Bx.get0; assumption; rfl) | (apply Bx.get; assumption; rfl) | (apply Bx.get0; apply Blk.bx; assumption; rfl) | (apply Bx.get; apply Blk.bx; assumption; rfl)), ?_⟩
      have hj := join_spec x i w3
      refine hj.impIv ?_
      rintro n1 n2 n3 n4 n5 n6 ok w2 ⟨u2, e, rfl⟩
      have u2' : Up no o3 w3 o3 w2 := Up.of_below u2
      have g1 := g1.up u2' rfl
      have g2 := g2.up u2' rfl
      have k1 := k1.up u2' rfl
      have k2 := k2.up u2' rfl
      refine ⟨by (first | (apply Bx.getAt; assumption; rfl) | (apply Bx.get0; assumption; rfl) | (apply Bx.get; assumption; rfl) | (apply Bx.get0; apply Blk.bx; assumption; rfl) | (apply Bx.get; apply Blk.bx; assumption; rfl)), k2.wr0 (by rfl) fun w4 k2' hw => ?_⟩
      obtain ⟨g1, g2, k1, u4⟩ := fin o3 w2 b2 _ _ _ _ _ _ (by omega) e g1 g2 k1 k2 ((u1'.trans u3.of_no).trans u2'.of_no) w4 k2' hw
      refine If_d (fun hok => ?_) fun hno => ?_
      · rw [jz e hok]
        exact put o3 w4 b2 ⟨n1, n2, n3, n4, n5, n6⟩ g1 g2 k2' u4 _ fun w' h => h
      · rw [nz hno]
        exact back o3 w4 g1 g2 k1 u4 _ fun w' h => h
  · have hnil : L = [] := List.eq_nil_of_length_eq_zero (by rw [hlast] at h0; omega)
    have ha : addZ L i = L ++ [i] := by rw [hnil]; rfl
    rw [ha]
    exact back o1 w1 g1 g2 k1 u1.of_no _ fun w' h => h
end
end Go.Proofs.YtajilfnceoeaiaaGreat.V
/- Rows made full, copies; the trace as a list; meter. -/
namespace Go.Proofs.YtajilfnceoeaiaaGreat.V
open Go Go.RowKit Enc
set_option maxRecDepth 100000
section
variable {α : Type} [Enc α] {o o' : Own} {w w' : World} {c d : Nat} {t e : TypeId} {by_ : Nat} {s : Sl} {l : List α}
def ZeroIs {α : Type} [Enc α] (e : TypeId) (x : α) : Prop := ((P.info? e).bind (·.zero)).map (fun z => z.cells.toList) = some (enc x)
theorem made_flat {z : Array Value} {x : α} (hz : z.toList = enc x) (n : Nat) : (madeCells z (n * sz α)).toList = (List.replicate n x).flatMap enc := by
  have hsz : z.size = sz α := by rw [← len x, ← hz, Array.length_toList]
  apply List.ext_getElem?
  intro j
  by_cases hj : j < n * sz α
  · have hp := pos (α := α)
    have hk : j / sz α < n := (Nat.div_lt_iff_lt_mul hp).2 hj
    have hr : j % sz α < sz α := Nat.mod_lt _ hp
    have e1 : (enc x)[j % sz α]? = some (z[j % sz α]'(by omega)) := by rw [← hz]; simp [hsz, hr]
    have := flat_get (l := List.replicate n x) (k := j / sz α) (x := x) (by rw [List.getElem?_replicate, if_pos hk]) (j % sz α) _ e1
    rw [Nat.div_add_mod' j (sz α)] at this
    rw [this]
    have hlt : j < (Array.range (n * sz α)).size := by simpa using hj
    simp only [madeCells, Array.toList_map, List.getElem?_map, Array.getElem?_toList]
    rw [Array.getElem?_eq_getElem hlt]
    simp only [Array.getElem_range, Option.map_some, hsz]
    rw [getElem!_pos z _ (by omega)]
  · rw [List.getElem?_eq_none (by rw [Array.length_toList, size_madeCells]; omega), List.getElem?_eq_none (by rw [length_flat, List.length_replicate]; omega)]
/-- A new row of zeros. -/
theorem makeN_of {K : Sl → World → Prop} {x : α} (et : ET t e (sz α) by_) (hx : ZeroIs e x) (o : Own) (c : Nat) {i j : Int} {n : Nat} (hi : i = (n : Int)) (hj : j = (n : Int)) (hb : by_ * n ≤ 140737488355328) (hm : n ≤ maxLen)
    (k : ∀ s' o' w', RowL o' w' c e s' (List.replicate n x) → Up no o w o' w' → K s' w') :
    Sm P (Instr.makeSlice t (.int .i64 i) (.int .i64 j)) [sS] K w := by
  subst hi hj
  obtain ⟨i, z, hi, hz, h1, h2, h3⟩ := et.parts
  have hzc : z.cells.toList = enc x := by
    have := hx
    simp only [ZeroIs, hi, Option.bind_some, hz, Option.map_some] at this
    exact Option.some.inj this
  have hm' := hm
  unfold maxLen at hm'
  have hb' : (i.bytes : Int) * (n : Int) ≤ 281474976710656 := by
    have h : ((i.bytes * n : Nat) : Int) ≤ 281474976710656 := by rw [h2]; omega
    rwa [Int.natCast_mul] at h
  have hr := run_make (P := P) w t e i z et.u hi hz .i64 .i64 n n (by omega) (Int.le_refl _) hb' (by omega)
  refine ⟨_, ⟨some ⟨w.heap.size, 0, none⟩, n, n⟩, ?_, k _ (setO o w.heap.size c) (w.alloc (.cells (madeCells z.cells (n * i.size)) e)) ?_ (Up.alloc _ _)⟩
  · rw [Int.toNat_natCast] at hr
    exact hr
  · refine ⟨?_, fun a ha => ?_⟩
    · rw [h1, ← made_flat hzc n]
      exact World.ownsRow_lit w _ n (Nat.zero_le _) hm (size_madeCells _ _)
    · obtain rfl : a = ⟨w.heap.size, 0, none⟩ := by simpa using ha.symm
      simp [setO]
/-- All of one row copied over another one's elements. -/
theorem copy_of {K : Int → World → Prop} {x : Sl} {l' : List α} (et : ET t e (sz α) by_) (ty : TypeId) (h : RowL o w c e s l) (hx : RL o w d x l') (hlen : l'.length = l.length) (one : (l'.flatMap enc).all Value.oneCell' = true)
    (k : ∀ w', RowL o w' c e s l' → Up (only [c]) o w o w' → K (l.length : Int) w') :
    Sm P (Builtin.copy_ #[t, t] ty [.slice s.a s.n s.c, .slice x.a x.n x.c].toArray) [sI] K w := by
  obtain ⟨i, z, hi, hz, h1, h2, h3⟩ := et.parts
  have hn := h.n
  have hxn := hx.n
  have hmin : Nat.min x.n s.n = l.length := by rw [hxn, hn, hlen]; exact Nat.min_self _
  by_cases hl : l = []
  · subst hl
    have h0 : l' = [] := List.eq_nil_of_length_eq_zero hlen
    subst h0
    refine ⟨w, 0, ?_, k w h .refl⟩
    show (Builtin.copy_ #[t, t] ty #[.slice s.a s.n s.c, .slice x.a x.n x.c]).run P w = .ok (goInt 0) w
    have hs0 : s.n = 0 := hn
    have hx0 : x.n = 0 := hxn
    rw [hs0, hx0]
    cases hsa : s.a <;> cases hxa : x.a <;> simp [Builtin.copy_, run_underlying et.u, Builtin.lenOf, Builtin.firstCells, sizeOf, typeInfo, hi, loadCells, storeCells, loadCellsFrom]
  · have hlp : 0 < l.length := List.length_pos_iff.2 hl
    have hyl := length_flat l'
    have hne : l'.flatMap enc ≠ [] := fun e0 => by
      rw [e0] at hyl
      have := Nat.mul_pos (show 0 < l'.length by omega) (pos (α := α))
      simp at hyl; omega
    obtain ⟨b, off, ha', _, _, hcell⟩ := hx.rd hne
    have hsrc : ∀ j u, (l'.flatMap enc)[j]? = some u → w.cell? ((⟨b, off, none⟩ : Addr).add j) = some u := fun j u hu => by rw [Addr.add_mk]; exact hcell j u hu
    obtain ⟨⟨hln, hr⟩, hh⟩ := id h
    rcases hr with ⟨g1, g2⟩ | ⟨g, cap, cur, g1, g2, g3, g4, g5, g6, g7⟩
    · omega
    simp only [Value.slice.injEq] at g1
    have hfit : 0 + 0 + (l'.flatMap enc).length ≤ cur.size := by
      rw [hyl, hlen, ← hn, g6, Nat.zero_add]
      exact Nat.mul_le_mul_right _ g4
    have hst := run_storeCells_at P g 0 e (l'.flatMap enc) 0 cur w g3 hfit (List.all_eq_true.1 one)
    have hfc := run_firstCells_some (P := P) w (sz α) l.length ⟨b, off, none⟩ x.n x.c (l'.flatMap enc) (by rw [hyl, hlen]) hsrc
    have ho : o g = c := hh _ g1.1
    refine ⟨w.setRow g (cur.toList.take (0 + 0) ++ l'.flatMap enc ++ cur.toList.drop (0 + 0 + (l'.flatMap enc).length)).toArray, (l.length : Int), ?_, k _ ⟨⟨by rw [hyl, hlen, hn], .inr ⟨g, cap, _, by rw [g1.1, g1.2.2], g2, setRow_heap w g cur _ e _ g3, g4, g5, ?_, ?_⟩⟩, hh⟩ (Up.set1 (b := g) (by simp [only, ho]) (fun q hq => setRow_other w g q _ hq) rfl rfl rfl (by simp [World.setRow]))⟩
    · show (Builtin.copy_ #[t, t] ty #[.slice s.a s.n s.c, .slice x.a x.n x.c]).run P w = _
      rw [g1.1, ha']
      simp only [Builtin.copy_, Builtin.lenOf]
      simp [run_underlying et.u, sizeOf, typeInfo, hi, h1, hmin, hfc, hst]
      rfl
    · simp only [List.size_toArray, List.length_append, List.length_take, List.length_drop, Array.length_toList]
      omega
    · have e1 : s.n * sz α = (l'.flatMap enc).length := by rw [hyl, hlen, hn]
      rw [e1]
      simp
end
theorem zNoInt : ZeroIs 66 noInt := by unfold ZeroIs; kernel_rfl
theorem zInt : ZeroIs 3 (0 : Int) := by unfold ZeroIs; kernel_rfl
section
variable {o o' : Own} {w w' : World} {a : Nat} {L : List Interval} {C : Nat → Bool}
theorem traceList_spec (h : TraceR o w a L) (hl : L.length ≤ 1000000000000) : Call P 45 [.pointer (some ⟨a, 0, none⟩)] [sS] (fun s w' => ∃ o', RL o' w' 0 s L ∧ Up no o w o' w') w := by
  obtain ⟨s, g1, g2⟩ := h
  have hn := g2.n
  have c1 := g1.bx
  have r1 := g2.rl.still
  refine f45_of _ (If_f (WA (c1.ld (x := s) rfl ?_)))
  refine makeN_of (x := noInt) etInterval zNoInt (V.still w) 95 (n := L.length) (by rw [hn]) (by rw [hn]) (by omega) (by unfold maxLen; omega) fun s2 o2 w2 r2 u2 => ?_
  refine WA ((c1.below u2.below).ld (x := s) rfl ?_)
  refine copy_of etInterval 3 r2 (RL.up r1 u2 rfl) (by simp) (all_one fun _ => rfl) fun w3 r3 u3 => ?_
  exact Rd.fresh r3.rl (u2.of_no.trans u3) (by decide) rfl o
end
end Go.Proofs.YtajilfnceoeaiaaGreat.V
/- meter. -/
namespace Go.Proofs.YtajilfnceoeaiaaGreat.V
open Go Go.RowKit Enc
set_option maxRecDepth 100000
section
variable {w : World} {P : Program} {f : FuncId} {args : List Value}
theorem Call.impI2 {K K' : Int → Int → World → Prop} (h : Call P f args [shAway] K w) (hk : ∀ a b w', K a b w' → K' a b w') : Call P f args [shAway] K' w :=
  Calls.mono h fun _ w' ⟨a, b, h1, h2⟩ => ⟨a, b, h1, hk _ _ w' h2⟩
theorem Call.impI4 {K K' : Int → Int → Int → Int → World → Prop} (h : Call P f args [shMeter] K w) (hk : ∀ a b c d w', K a b c d w' → K' a b c d w') : Call P f args [shMeter] K' w :=
  Calls.mono h fun _ w' ⟨a, b, c, d, h1, h2⟩ => ⟨a, b, c, d, h1, hk _ _ _ _ w' h2⟩
theorem Call.impI6 {K K' : Int → Int → Int → Int → Int → Int → World → Prop} (h : Call P f args [shInterval] K w) (hk : ∀ a b c d e f w', K a b c d e f w' → K' a b c d e f w') : Call P f args [shInterval] K' w :=
  Calls.mono h fun _ w' ⟨a, b, c, d, e, f, h1, h2⟩ => ⟨a, b, c, d, e, f, h1, hk _ _ _ _ _ _ w' h2⟩
theorem Call.impI2b {K K' : Int → Int → Bool → World → Prop} (h : Call P f args [shAway, sB] K w) (hk : ∀ a b c w', K a b c w' → K' a b c w') : Call P f args [shAway, sB] K' w :=
  Calls.mono h fun _ w' ⟨a, b, c, h1, h2⟩ => ⟨a, b, c, h1, hk _ _ _ w' h2⟩
theorem Call.impJ {K K' : Int → Int → Int → Int → Int → Bool → World → Prop} (h : Call P f args [shJob] K w) (hk : ∀ a b c d e s w', K a b c d e s w' → K' a b c d e s w') : Call P f args [shJob] K' w :=
  Calls.mono h fun _ w' ⟨a, b, c, d, e, s, h1, h2⟩ => ⟨a, b, c, d, e, s, h1, hk _ _ _ _ _ _ w' h2⟩
theorem Call.impJb {K K' : Int → Int → Int → Int → Int → Bool → Bool → World → Prop} (h : Call P f args [shJob, sB] K w) (hk : ∀ a b c d e s g w', K a b c d e s g w' → K' a b c d e s g w') : Call P f args [shJob, sB] K' w :=
  Calls.mono h fun _ w' ⟨a, b, c, d, e, s, g, h1, h2⟩ => ⟨a, b, c, d, e, s, g, h1, hk _ _ _ _ _ _ _ w' h2⟩
theorem Call.impJi {K K' : Int → Int → Int → Int → Int → Bool → Int → World → Prop} (h : Call P f args [shJob, sI] K w) (hk : ∀ a b c d e s g w', K a b c d e s g w' → K' a b c d e s g w') : Call P f args [shJob, sI] K' w :=
  Calls.mono h fun _ w' ⟨a, b, c, d, e, s, g, h1, h2⟩ => ⟨a, b, c, d, e, s, g, h1, hk _ _ _ _ _ _ _ w' h2⟩
theorem Call.imp4 {c d e g : C1} {K K' : c.T → d.T → e.T → g.T → World → Prop} (h : Call P f args [⟨false, [c]⟩, ⟨false, [d]⟩, ⟨false, [e]⟩, ⟨false, [g]⟩] K w) (hk : ∀ x y z u w', K x y z u w' → K' x y z u w') : Call P f args [⟨false, [c]⟩, ⟨false, [d]⟩, ⟨false, [e]⟩, ⟨false, [g]⟩] K' w :=
  Calls.mono h fun _ w' ⟨x, y, z, u, h1, h2⟩ => ⟨x, y, z, u, h1, hk x y z u w' h2⟩
end
def lvlZ (m : Mach) (n : Int) : Level := if n < 0 then ⟨0, 0⟩ else (m.L[n.toNat]?).getD ⟨0, 0⟩
def slpZ (m : Mach) (n : Int) : Sleep := if n < 0 then ⟨0, 0, 0, 0, 0, 0⟩ else (m.S[n.toNat]?).getD ⟨0, 0, 0, 0, 0, 0⟩
section
variable {o : Own} {w : World} {m : Mach}
theorem mlevel_spec (hm : MachR o w m) (n : Int) : Call P 209 [m.p.v, .int .i64 n] [shAway] (fun a b w' => Below w.heap.size w w' ∧ (⟨a, b⟩ : Level) = lvlZ m n) w := by
  have hm := hm.still
  have hn := hm.L.n
  refine f209_of _ _ (New_blk (still w) 90 fun b1 o1 w1 k1 u1 _ => New_blk o1 91 fun b2 o2 w2 k2 u2 _ => ?_)
  have c1 := (k1.up u2 rfl).bx
  have hm := hm.up (u1.trans u2) rfl
  have u : Up loc (still w) w o2 w2 := (u1.trans u2).of_no
  refine If_d (fun h0 => k2.st0 (by rfl) fun w3 k3 u3 => k3.bx.ldLevel (x := ⟨0, 0⟩) ⟨(u.trans (u3.loc (by decide))).quietL, (if_pos h0).symm⟩) fun h0 => ?_
  obtain ⟨k, rfl⟩ : ∃ k : Nat, n = k := ⟨n.toNat, by omega⟩
  refine c1.ld (x := m.p.levels) rfl (If_d (fun h1 => k2.st0 (by rfl) fun w3 k3 u3 => k3.bx.ldLevel (x := ⟨0, 0⟩) ⟨(u.trans (u3.loc (by decide))).quietL, ?_⟩) fun h1 => ?_)
  · have h1 : m.L.length ≤ k := by rw [← hn]; exact Int.ofNat_le.1 h1
    rw [lvlZ, if_neg h0, Int.toNat_natCast, List.getElem?_eq_none h1]
    rfl
  · have h1 : k < m.L.length := by rw [← hn]; exact Nat.lt_of_not_le fun h => h1 (Int.ofNat_le.2 h)
    have hx : m.L[k]? = some m.L[k] := List.getElem?_eq_getElem h1
    refine c1.ld (x := m.p.levels) rfl (hm.L.level rfl hx (k2.st0 (by rfl) fun w3 k3 u3 => k3.bx.ldLevel (x := m.L[k]) ⟨(u.trans (u3.loc (by decide))).quietL, ?_⟩))
    rw [lvlZ, if_neg h0, Int.toNat_natCast, hx]
    rfl
theorem msleep_spec (hm : MachR o w m) (n : Int) : Call P 210 [m.p.v, .int .i64 n] [shInterval] (fun a b c d e f w' => Below w.heap.size w w' ∧ (⟨a, b, c, d, e, f⟩ : Sleep) = slpZ m n) w := by
  have hm := hm.still
  have hn := hm.S.n
  refine f210_of _ _ (New_blk (still w) 90 fun b1 o1 w1 k1 u1 _ => New_blk o1 91 fun b2 o2 w2 k2 u2 _ => ?_)
  have c1 := (k1.up u2 rfl).bx
  have hm := hm.up (u1.trans u2) rfl
  have u : Up loc (still w) w o2 w2 := (u1.trans u2).of_no
  refine If_d (fun h0 => k2.st0 (by rfl) fun w3 k3 u3 => k3.bx.ldSleep (x := ⟨0, 0, 0, 0, 0, 0⟩) ⟨(u.trans (u3.loc (by decide))).quietL, (if_pos h0).symm⟩) fun h0 => ?_
  obtain ⟨k, rfl⟩ : ∃ k : Nat, n = k := ⟨n.toNat, by omega⟩
  refine c1.ld (x := m.p.sleeps) rfl (If_d (fun h1 => k2.st0 (by rfl) fun w3 k3 u3 => k3.bx.ldSleep (x := ⟨0, 0, 0, 0, 0, 0⟩) ⟨(u.trans (u3.loc (by decide))).quietL, ?_⟩) fun h1 => ?_)
  · have h1 : m.S.length ≤ k := by rw [← hn]; exact Int.ofNat_le.1 h1
    rw [slpZ, if_neg h0, Int.toNat_natCast, List.getElem?_eq_none h1]
    rfl
  · have h1 : k < m.S.length := by rw [← hn]; exact Nat.lt_of_not_le fun h => h1 (Int.ofNat_le.2 h)
    have hx : m.S[k]? = some m.S[k] := List.getElem?_eq_getElem h1
    refine c1.ld (x := m.p.sleeps) rfl (hm.S.sleep rfl hx (k2.st0 (by rfl) fun w3 k3 u3 => k3.bx.ldSleep (x := m.S[k]) ⟨(u.trans (u3.loc (by decide))).quietL, ?_⟩))
    rw [slpZ, if_neg h0, Int.toNat_natCast, hx]
    rfl
def ofZ (m : Mach) (i : Interval) : Int :=
  if i.kind = 1 then wz (i.cycles * (lvlZ m i.arg).e) else if i.kind = 2 then wz (i.len * m.p.idle) else if i.kind = 3 then m.p.switchE else if i.kind = 4 then (slpZ m i.arg).enterE else if i.kind = 5 then wz (i.len * (slpZ m i.arg).power) else if i.kind = 6 then (slpZ m i.arg).exitE else 0
theorem mof_spec (hm : MachR o w m) (i : Interval) : Call P 201 [m.p.v, i.v] [sI] (fun r w' => Below w.heap.size w w' ∧ r = ofZ m i) w := by
  refine f201_of _ _ (New_of fun b1 w1 c1 u1 => New_of fun b2 w2 c2 u2 => ?_)
  have c1 := c1.below u2
  have hm := (hm.below u1).below u2
  have u := u1.on u2
  refine c2.ld (x := i.kind) rfl (If_eq (fun e1 => ?_) fun e1 => ?_)
  · have c1 := c1.drew
    have c2 := c2.drew
    refine c2.ld (x := i.cycles) rfl (c1.ldPlat (x := m.p) (c2.ld (x := i.arg) rfl ?_))
    have hl := mlevel_spec (hm.below bdrew) i.arg
    refine hl.impI2 ?_
    rintro a b w3 ⟨u3, e⟩
    have c2 := c2.below u3
    refine ⟨by (first | (apply Bx.getAt; assumption; rfl) | (apply Bx.get0; assumption; rfl) | (apply Bx.get; assumption; rfl) | (apply Bx.get0; apply Blk.bx; assumption; rfl) | (apply Bx.get; apply Blk.bx; assumption; rfl)), u.drew.on u3, ?_⟩
    rw [ofZ, if_pos e1, ← e]
  refine If_eq (fun e2 => ?_) fun e2 => ?_
  · exact c2.ld (x := i.len) rfl (c1.ld (x := m.p.idle) rfl ⟨u, by rw [ofZ, if_neg e1, if_pos e2]⟩)
  refine If_eq (fun e3 => ?_) fun e3 => ?_
  · exact c1.ld (x := m.p.switchE) rfl ⟨u, by rw [ofZ, if_neg e1, if_neg e2, if_pos e3]⟩
  refine If_eq (fun e4 => ?_) fun e4 => ?_
  · refine c1.ldPlat (x := m.p) (c2.ld (x := i.arg) rfl ?_)
    have hl := msleep_spec hm i.arg
    refine hl.impI6 ?_
    rintro a b c d e f w3 ⟨u3, e⟩
    refine ⟨u.on u3, ?_⟩
    rw [ofZ, if_neg e1, if_neg e2, if_neg e3, if_pos e4, ← e]
  refine If_eq (fun e5 => ?_) fun e5 => ?_
  · have c1 := c1.drew
    have c2 := c2.drew
    refine c2.ld (x := i.len) rfl (c1.ldPlat (x := m.p) (c2.ld (x := i.arg) rfl ?_))
    have hl := msleep_spec (hm.below bdrew) i.arg
    refine hl.impI6 ?_
    rintro a b c d e f w3 ⟨u3, e⟩
    have c2 := c2.below u3
    refine ⟨by (first | (apply Bx.getAt; assumption; rfl) | (apply Bx.get0; assumption; rfl) | (apply Bx.get; assumption; rfl) | (apply Bx.get0; apply Blk.bx; assumption; rfl) | (apply Bx.get; apply Blk.bx; assumption; rfl)), u.drew.on u3, ?_⟩
    rw [ofZ, if_neg e1, if_neg e2, if_neg e3, if_neg e4, if_pos e5, ← e]
  refine If_eq (fun e6 => ?_) fun e6 => ?_
  · refine c1.ldPlat (x := m.p) (c2.ld (x := i.arg) rfl ?_)
    have hl := msleep_spec hm i.arg
    refine hl.impI6 ?_
    rintro a b c d e f w3 ⟨u3, e⟩
    refine ⟨u.on u3, ?_⟩
    rw [ofZ, if_neg e1, if_neg e2, if_neg e3, if_neg e4, if_neg e5, if_pos e6, ← e]
  · exact ⟨u, by rw [ofZ, if_neg e1, if_neg e2, if_neg e3, if_neg e4, if_neg e5, if_neg e6]⟩
def addM (m : Mach) (x : Meter) (i : Interval) : Meter :=
  if i.kind = 1 then { x with run := wz (x.run + ofZ m i) } else if i.kind = 2 then { x with idle := wz (x.idle + ofZ m i) } else if i.kind = 3 then { x with switch := wz (x.switch + ofZ m i) } else
  if i.kind = 4 ∨ i.kind = 5 ∨ i.kind = 6 then { x with sleep := wz (x.sleep + ofZ m i) } else x
theorem madd_spec (hm : MachR o w m) (x : Meter) (i : Interval) : Call P 185 [x.v, m.p.v, i.v] [shMeter] (fun a b c d w' => Below w.heap.size w w' ∧ (⟨a, b, c, d⟩ : Meter) = addM m x i) w := by
  refine f185_of _ _ _ (New_blk (still w) 90 fun b1 o1 w1 k1 u1 _ => New_blk o1 91 fun b2 o2 w2 k2 u2 _ => New_blk o2 92 fun b3 o3 w3 k3 u3 _ => New_blk o3 93 fun b4 o4 w4 k4 u4 _ => ?_)
  have k1 := ((k1.up u2 rfl).up u3 rfl).up u4 rfl
  have k2 := (k2.up u3 rfl).up u4 rfl
  have k3 := k3.up u4 rfl
  have u : Up no (still w) w o4 w4 := ((u1.trans u2).trans u3).trans u4
  refine k2.bx.ldPlat (x := m.p) (k3.bx.ldInterval (x := i) ?_)
  have ho := mof_spec (hm.below u.below) i
  refine ho.imp1 ?_
  rintro r w5 ⟨u5, rfl⟩
  have u5 : Up no o4 w4 o4 w5 := Up.of_below u5
  have k1 := k1.up u5 rfl
  have k3 := k3.up u5 rfl
  have k4 := k4.up u5 rfl
  have u : Up loc (still w) w o4 w5 := (u.trans u5).of_no
  have fin : ∀ (w6 : World) (y : Meter), Blk o4 w6 90 b1 (.cells y.l.toArray 68 (0, 0)) → Blk o4 w6 93 b4 (.cells [.int .i64 0, .int .i64 0, .int .i64 0, .int .i64 0].toArray 68 (0, 0)) → Up loc (still w) w o4 w6 → ∀ K : Int → Int → Int → Int → World → Prop, (∀ w', Below w.heap.size w w' → K y.run y.idle y.switch y.sleep w') →
      LdN shMeter.cs 0 (⟨b1, 0, none⟩ : Addr) (fun n1 n2 n3 n4 w => StN [.int .i64 n1, .int .i64 n2, .int .i64 n3, .int .i64 n4] 0 (⟨b4, 0, none⟩ : Addr) (fun w => LdN shMeter.cs 0 (⟨b4, 0, none⟩ : Addr) K w) w) w6 := by
    intro w6 y k1 k4 u K hK
    exact k1.bx.ldMeter (x := y) (k4.st0 (by rfl) fun w7 k7 u7 => k7.bx.ldMeter (x := y) (hK w7 (u.trans (u7.loc (by decide))).quietL))
  refine k3.bx.ld (x := i.kind) rfl (If_eq (fun e1 => ?_) fun e1 => ?_)
  · refine k1.bx.ld (x := x.run) rfl (k1.st (f := 0) (vs := [Value.int .i64 (wz (x.run + ofZ m i))]) (by simp) fun w6 k1 u6 => ?_)
    exact fin w6 { x with run := wz (x.run + ofZ m i) } k1 (k4.up u6 rfl) (u.trans (u6.loc (by decide))) _ fun w' hb => ⟨hb, (if_pos e1).symm⟩
  refine If_eq (fun e2 => ?_) fun e2 => ?_
  · refine k1.bx.ld (x := x.idle) rfl (k1.st (f := 1) (vs := [Value.int .i64 (wz (x.idle + ofZ m i))]) (by simp) fun w6 k1 u6 => ?_)
    exact fin w6 { x with idle := wz (x.idle + ofZ m i) } k1 (k4.up u6 rfl) (u.trans (u6.loc (by decide))) _ fun w' hb => ⟨hb, by rw [addM, if_neg e1, if_pos e2]⟩
  refine If_eq (fun e3 => ?_) fun e3 => ?_
  · refine k1.bx.ld (x := x.switch) rfl (k1.st (f := 2) (vs := [Value.int .i64 (wz (x.switch + ofZ m i))]) (by simp) fun w6 k1 u6 => ?_)
    exact fin w6 { x with switch := wz (x.switch + ofZ m i) } k1 (k4.up u6 rfl) (u.trans (u6.loc (by decide))) _ fun w' hb => ⟨hb, by rw [addM, if_neg e1, if_neg e2, if_pos e3]⟩
  have slp : (i.kind = 4 ∨ i.kind = 5 ∨ i.kind = 6) → ∀ K : Int → Int → Int → Int → World → Prop, (∀ w', Below w.heap.size w w' → K x.run x.idle x.switch (wz (x.sleep + ofZ m i)) w') →
      Ld (.ki .i64) ((⟨b1, 0, none⟩ : Addr).add 3) (fun n49 w => StN [.int .i64 (IntKind.wrap .i64 (n49 + ofZ m i))] 0 ((⟨b1, 0, none⟩ : Addr).add 3) (fun w => LdN shMeter.cs 0 (⟨b1, 0, none⟩ : Addr) (fun n1 n2 n3 n4 w => StN [.int .i64 n1, .int .i64 n2, .int .i64 n3, .int .i64 n4] 0 (⟨b4, 0, none⟩ : Addr) (fun w => LdN shMeter.cs 0 (⟨b4, 0, none⟩ : Addr) K w) w) w) w) w5 := by
    intro _ K hK
    refine k1.bx.ld (x := x.sleep) rfl (k1.st (f := 3) (vs := [Value.int .i64 (wz (x.sleep + ofZ m i))]) (by simp) fun w6 k1 u6 => ?_)
    exact fin w6 { x with sleep := wz (x.sleep + ofZ m i) } k1 (k4.up u6 rfl) (u.trans (u6.loc (by decide))) K hK
  have sz : (i.kind = 4 ∨ i.kind = 5 ∨ i.kind = 6) → (⟨x.run, x.idle, x.switch, wz (x.sleep + ofZ m i)⟩ : Meter) = addM m x i := fun h => by rw [addM, if_neg e1, if_neg e2, if_neg e3, if_pos h]
  refine If_eq (fun e4 => If_eq (fun _ => slp (.inl e4) _ fun w' hb => ⟨hb, sz (.inl e4)⟩) fun h => absurd e4 h) fun e4 => ?_
  refine If_eq (fun e5 => If_eq (fun _ => slp (.inr (.inl e5)) _ fun w' hb => ⟨hb, sz (.inr (.inl e5))⟩) fun h => absurd e5 h) fun e5 => ?_
  refine If_eq (fun e6 => slp (.inr (.inr e6)) _ fun w' hb => ⟨hb, sz (.inr (.inr e6))⟩) fun e6 => ?_
  exact fin w5 x k1 k4 u _ fun w' hb => ⟨hb, by rw [addM, if_neg e1, if_neg e2, if_neg e3, if_neg (fun h => h.elim e4 fun h => h.elim e5 e6)]⟩
end
end Go.Proofs.YtajilfnceoeaiaaGreat.V
