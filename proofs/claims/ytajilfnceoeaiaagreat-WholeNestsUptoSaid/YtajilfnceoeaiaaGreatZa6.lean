/- Parts of the proof: Slices: copies, cuts, the ends that are cleared, A heap in a list. Plain, The heap, in memory, The heap's functions: what is in it is a map from numbers to keys, math/bits.Len, off the shelf, Sorting jobs, Ranging over a map, the iterator in whatever block. Own masks, ready: the jobs that there are. -/
import Derived.Test.YtajilfnceoeaiaaGreatZa5
import Derived.Shelf.Small.Bits
import Derived.Test.YtajilfnceoeaiaaGreatProg
set_option linter.unusedVariables false
set_option linter.unusedSimpArgs false
/- Slices: copies, cuts, the ends that are cleared. -/
namespace Go.Proofs.YtajilfnceoeaiaaGreat.V
open Go Go.RowKit Enc
set_option maxRecDepth 100000
/-- An element's zero is in cells. -/
def OneZ (e : TypeId) : Prop := ((P.info? e).bind (·.zero)).map (fun z => z.cells.toList.all Value.oneCell') = some true
theorem ozInt : OneZ 3 := by unfold OneZ; kernel_rfl
theorem ozTask : OneZ 37 := by unfold OneZ; kernel_rfl
theorem ozHeld : OneZ 76 := by unfold OneZ; kernel_rfl
section
variable {α : Type} [Enc α] {o o' : Own} {w w' : World} {c d : Nat} {t e : TypeId} {by_ : Nat} {s : Sl} {l : List α}
theorem et_elem {sz' : Nat} (et : ET t e sz' by_) : P.elem t = e := by simp [Program.elem, et.u]
theorem et_size {sz' : Nat} (et : ET t e sz' by_) (w : World) : (sizeOf e).run P w = .ok sz' w := by
  obtain ⟨i, z, hi, hz, h1, h2, h3⟩ := et.parts
  simp [sizeOf, typeInfo, hi, h1]
theorem zeroCells_one {z : Array Value} {n : Nat} (h : z.toList.all Value.oneCell' = true) (hp : 0 < z.size) : ∀ v ∈ (Builtin.zeroCells z n).toList, v.oneCell' = true := by
  intro v hv
  simp only [Builtin.zeroCells, Array.toList_map, List.mem_map] at hv
  obtain ⟨i, _, rfl⟩ := hv
  have hlt : i % z.size < z.size := Nat.mod_lt _ hp
  rw [List.all_eq_true] at h
  apply h
  rw [getElem!_pos z _ hlt]
  simp
theorem setRow_self' {w : World} {g z : Nat} {cur : Array Value} {e : TypeId} (hg : w.heap[g]? = some (.cells cur e (0, 0))) : w.setRow g (cur.toList.take (0 * z) ++ [] ++ cur.toList.drop (0 * z + ([] : List Value).length)).toArray = w := by
  simp only [Nat.zero_mul, List.take_zero, List.nil_append, List.length_nil, Nat.add_zero, List.drop_zero, Array.toArray_toList]
  exact setRow_self w g cur e (0, 0) hg
/-- A copy of a slice. -/
theorem clone_of {g : Nat} {x : Sl} {a : Addr} {K : Sl → World → Prop} {cur : Array Value} (et : ET t e (sz α) by_) (o : Own) (d : Nat) (ty : TypeId) (hx : RL o w c x l) (ha : x.a = some a) (hg : w.heap[g]? = some (.cells cur e (0, 0))) (one : (l.flatMap enc).all Value.oneCell' = true) (hb : l.length * by_ ≤ 140737488355328)
    (k : ∀ s' o' w', RL o' w' d s' l → (l ≠ [] → RowL o' w' d e s' l) → Up no o w o' w' → s'.n ≤ s'.c → K s' w') :
    Sm P (Builtin.append_ #[t, t] ty [.slice (some ⟨g, 0, none⟩) 0 0, .slice x.a x.n x.c].toArray) [sS] K w := by
  obtain ⟨i, z, hi, hz, h1, h2, h3⟩ := et.parts
  have hn := hx.n
  have hm := hx.max
  have hyl := length_flat l
  by_cases hl : l = []
  · subst hl
    have h0 : x.n = 0 := hn
    have hrun := run_append_room (P := P) w t ty e i et.u hi g 0 0 cur hg a 0 x.c [] (by simp) (by simp) (by simp) (by omega) (by simp)
    rw [setRow_self' hg] at hrun
    refine ⟨w, ⟨some ⟨g, 0, none⟩, 0, 0⟩, ?_, k _ o w (Rd.nil rfl) (fun h => absurd rfl h) .refl (Nat.le_refl _)⟩
    rw [ha, h0]; exact hrun
  · have hne : l.flatMap enc ≠ [] := fun e0 => by
      rw [e0] at hyl
      have : 0 < l.length := List.length_pos_iff.2 hl
      have := Nat.mul_pos this (pos (α := α))
      simp at hyl; omega
    obtain ⟨b, off, ha', _, _, hcell⟩ := hx.rd hne
    rw [ha] at ha'
    cases ha'
    have hnews : ∀ j u, (l.flatMap enc)[j]? = some u → w.cell? ((⟨b, off, none⟩ : Addr).add j) = some u := fun j u hu => by rw [Addr.add_mk]; exact hcell j u hu
    have hpos : 0 < l.length := List.length_pos_iff.2 hl
    have hm' : l.length ≤ 9223372036854775807 := by rw [hn] at hm; unfold maxLen at hm; omega
    have hrun := run_append_grow (P := P) w t ty e i z et.u hi hz ⟨g, 0, none⟩ 0 0 [] (by simp) (by simp) ⟨b, off, none⟩ l.length x.c (l.flatMap enc) (by rw [hyl, h1]) hnews (by omega) (by omega) (growslice_fits (by omega) (by rw [h2, Nat.zero_add]; exact hb))
    simp only [Nat.zero_add, Array.empty_append] at hrun
    have hge := grownCap_ge w l.length 0 e
    have hcm : grownCap w l.length 0 e ≤ maxLen := grownCap_le_maxLen w l.length 0 e (by rw [hn] at hm; exact hm)
    have hrow : RowL (setO o w.heap.size d) (w.drew.alloc (.cells ((l.flatMap enc).toArray ++ Builtin.zeroCells z.cells (grownCap w l.length 0 e - l.length)) e)) d e ⟨some ⟨w.heap.size, 0, none⟩, l.length, grownCap w l.length 0 e⟩ l := by
      refine ⟨⟨hyl, .inr ⟨w.heap.size, _, _, rfl, Nat.zero_le _, heap_alloc_new w.drew _, hge, hcm, ?_, ?_⟩⟩, fun a ha => ?_⟩
      · simp only [Array.size_append, List.size_toArray, size_zeroCells, h3, hyl, ← Nat.add_mul]
        congr 1
        omega
      · simp only [Array.toList_append]
        rw [← hyl]
        exact List.take_left
      · obtain rfl : a = ⟨w.heap.size, 0, none⟩ := by simpa using ha.symm
        simp [setO]
    refine ⟨_, ⟨some ⟨w.heap.size, 0, none⟩, l.length, grownCap w l.length 0 e⟩, ?_, k _ _ _ hrow.rl (fun _ => hrow) (Up.drew.trans (Up.alloc (w := w.drew) _ d)) hge⟩
    rw [ha, hn]; exact hrun
/-- A slice cut to its length. -/
theorem clip_of {K : Sl → World → Prop} (et : ET t e (sz α) by_) (h : RL o w c s l) (hc : s.n ≤ s.c) (k : ∀ s', RL o w c s' l → K s' w) :
    Sm P (Instr.sliceAt t (.slice s.a s.n s.c) none (some (.int .i64 (s.n : Int))) (some (.int .i64 (s.n : Int)))) [sS] K w := by
  have hel := et_elem et
  have hso := et_size et w
  have hrun : (Instr.sliceAt t (.slice s.a s.n s.c) none (some (.int .i64 (s.n : Int))) (some (.int .i64 (s.n : Int)))).run P w = .ok (sliced s.a 0 s.n s.n (sz α)) w := by
    rw [run_sliceAt_slice w t _ _ _ _ (by rw [hel]; exact et.u), run_slice_hm w t s.a s.n s.c (by rw [hel]; exact et.u) .i64 .i64 (s.n : Int) (s.n : Int) (by omega) (by omega) (by omega), hel, hso]
    simp
  have hsl : sliced s.a 0 s.n s.n (sz α) = .slice s.a s.n s.n := by
    unfold sliced
    split
    · rfl
    · cases s.a with
      | none => rfl
      | some a => simp [Addr.add, Nat.zero_mul]
  refine ⟨w, ⟨s.a, s.n, s.n⟩, ?_, k _ ⟨h.len, h.max, h.rd⟩⟩
  rw [hrun, hsl]; rfl
theorem Row.cap {xs : List Value} {z : Nat} (h : Row o w c e z s xs) : s.n ≤ s.c := by
  obtain ⟨⟨hlen, hr⟩, hh⟩ := h
  rcases hr with ⟨h1, h2⟩ | ⟨g, cap, cur, h1, h2, h3, h4, h5, h6, h7⟩
  · rw [h2]; exact Nat.zero_le _
  · simp only [Value.slice.injEq] at h1
    omega
/-- Behind the k-th element all is cleared, and cut off. -/
theorem clearTail_of {K : Sl → World → Prop} (et : ET t e (sz α) by_) (oz : OneZ e) (h : RowL o w c e s l) {i : Int} {k : Nat} (hi : i = (k : Int)) (hk : k ≤ l.length)
    (hK : ∀ s' w', RowL o w' c e s' (l.take k) → Up (only [c]) o w o w' → K s' w') :
    Sm P (Instr.sliceAt t (.slice s.a s.n s.c) (some (.int .i64 i)) none none) [sS] (fun s1 w => Sm P (Builtin.clear_ #[t] 0 [.slice s1.a s1.n s1.c].toArray) [] (fun w => Sm P (Instr.sliceAt t (.slice s.a s.n s.c) none (some (.int .i64 i)) none) [sS] (fun s2 w => K s2 w) w) w) w := by
  subst hi
  obtain ⟨i, z, hi, hz, h1, h2, h3⟩ := et.parts
  have hn := h.n
  have hel := et_elem et
  have hso := et_size et w
  have hcap := Row.cap h
  have hrun : (Instr.sliceAt t (.slice s.a s.n s.c) (some (.int .i64 (k : Int))) none none).run P w = .ok (sliced s.a k s.n s.c (sz α)) w := by
    rw [run_sliceAt_slice w t _ _ _ _ (by rw [hel]; exact et.u), run_slice_l w t s.a s.n s.c (by rw [hel]; exact et.u) .i64 (k : Int) (by omega) (by omega), hel, hso]
    simp
  obtain ⟨a', hsl⟩ : ∃ a', sliced s.a k s.n s.c (sz α) = .slice a' (s.n - k) (s.c - k) := ⟨_, rfl⟩
  refine ⟨w, ⟨a', s.n - k, s.c - k⟩, by rw [hrun, hsl]; rfl, ?_⟩
  have ozz : z.cells.toList.all Value.oneCell' = true := by
    have := oz
    simp only [OneZ, hi, Option.bind_some, hz, Option.map_some] at this
    exact Option.some.inj this
  have hzs : 0 < z.cells.size := by rw [h3]; exact pos (α := α)
  by_cases hkn : k = s.n
  · have h0 : s.n - k = 0 := by omega
    refine ⟨w, ?_, RowL.cut et h rfl hk fun s' hs' => hK s' w hs' .refl⟩
    rw [h0]
    show (Builtin.clear_ #[t] 0 #[.slice a' 0 (s.c - k)]).run P w = .ok (.tuple #[]) w
    cases a' with
    | none => simp [Builtin.clear_, run_underlying et.u]
    | some a' => simp [Builtin.clear_, run_underlying et.u]
  · have hkl : k < s.n := by omega
    obtain ⟨⟨hlen, hr⟩, hh⟩ := id h
    rcases hr with ⟨g1, g2⟩ | ⟨g, cap, cur, g1, g2, g3, g4, g5, g6, g7⟩
    · omega
    · simp only [Value.slice.injEq] at g1
      have hne : s.c ≠ k := by omega
      have ha' : a' = some ⟨g, k * sz α, none⟩ := by
        have : sliced s.a k s.n s.c (sz α) = .slice (some ⟨g, k * sz α, none⟩) (s.n - k) (s.c - k) := by
          simp only [sliced, hne, if_false, g1.1, Option.map_some, Addr.add_mk, Nat.zero_add]
        rw [hsl] at this
        simpa using this
      have hcl : (Builtin.zeroCells z.cells (s.n - k)).toList.length = (s.n - k) * sz α := by simp [size_zeroCells, h3]
      have hfit : k * sz α + 0 + (Builtin.zeroCells z.cells (s.n - k)).toList.length ≤ cur.size := by
        rw [hcl, g6, Nat.add_zero, ← Nat.add_mul]
        exact Nat.mul_le_mul_right _ (by omega)
      have hst := run_storeCells_at P g (k * sz α) e (Builtin.zeroCells z.cells (s.n - k)).toList 0 cur w g3 hfit (zeroCells_one ozz hzs)
      refine ⟨w.setRow g (cur.toList.take (k * sz α + 0) ++ (Builtin.zeroCells z.cells (s.n - k)).toList ++ cur.toList.drop (k * sz α + 0 + (Builtin.zeroCells z.cells (s.n - k)).toList.length)).toArray, ?_, ?_⟩
      · show (Builtin.clear_ #[t] 0 #[.slice a' (s.n - k) (s.c - k)]).run P w = .ok (.tuple #[]) _
        rw [ha']
        have hnk : s.n - k ≠ 0 := by omega
        obtain ⟨q, hq⟩ : ∃ q, s.n - k = q + 1 := ⟨s.n - k - 1, by omega⟩
        have hzv : (zeroValue e).run P w = .ok z w := by simp [zeroValue, typeInfo, hi, hz, Result.andThen]
        rw [hq] at hst ⊢
        simp [Builtin.clear_, run_underlying et.u, hzv, hst]
      · have hrow : RowL o (w.setRow g (cur.toList.take (k * sz α + 0) ++ (Builtin.zeroCells z.cells (s.n - k)).toList ++ cur.toList.drop (k * sz α + 0 + (Builtin.zeroCells z.cells (s.n - k)).toList.length)).toArray) c e ⟨s.a, k, s.c⟩ (l.take k) := by
          refine ⟨⟨by rw [length_flat, List.length_take, Nat.min_eq_left hk], .inr ⟨g, cap, _, by rw [g1.1, g1.2.2], Nat.zero_le _, setRow_heap w g cur _ e _ g3, by have := g1.2.1; show k ≤ cap; omega, g5, ?_, ?_⟩⟩, fun a ha => hh a ha⟩
          · simp only [List.size_toArray, List.length_append, List.length_take, List.length_drop, Array.length_toList, hcl, Nat.add_zero] at hfit ⊢
            omega
          · have hfl : (l.take k).flatMap enc = (l.flatMap enc).take (k * sz α) := by
              have h5 : l.flatMap enc = (l.take k).flatMap enc ++ (l.drop k).flatMap enc := by rw [← List.flatMap_append, List.take_append_drop]
              rw [h5, List.take_left' (by rw [length_flat, List.length_take, Nat.min_eq_left hk])]
            rw [hfl, ← g7, List.take_take, Nat.min_eq_left (Nat.mul_le_mul_right _ (by omega))]
            simp only [Nat.add_zero, List.append_assoc] 
            rw [List.take_append_of_le_length (by simp only [List.length_take, Array.length_toList]; have : k * sz α ≤ cur.size := by rw [g6]; exact Nat.mul_le_mul_right _ (by omega)
                                                  omega)]
            rw [List.take_take, Nat.min_self]
        have ho : o g = c := hh _ g1.1
        refine ⟨_, ⟨s.a, k, s.c⟩, ?_, hK _ _ hrow (Up.set1 (b := g) (by simp [only, ho]) (fun q hq => setRow_other w g q _ hq) rfl rfl rfl (by simp [World.setRow]))⟩
        have hso' := et_size et (w.setRow g (cur.toList.take (k * sz α + 0) ++ (Builtin.zeroCells z.cells (s.n - k)).toList ++ cur.toList.drop (k * sz α + 0 + (Builtin.zeroCells z.cells (s.n - k)).toList.length)).toArray)
        rw [run_sliceAt_slice _ t _ _ _ _ (by rw [hel]; exact et.u), run_slice_h _ t s.a s.n s.c (by rw [hel]; exact et.u) .i64 (k : Int) (by omega) (by omega), hel, hso']
        simp only [Result.andThen_ok, Int.toNat_natCast]
        have : sliced s.a 0 k s.c (sz α) = .slice s.a k s.c := by
          unfold sliced
          split
          · rfl
          · rw [g1.1]; simp [Addr.add, Nat.zero_mul]
        rw [this]; rfl
end
end Go.Proofs.YtajilfnceoeaiaaGreat.V
/- A heap in a list. Plain. -/
namespace Go.Proofs.YtajilfnceoeaiaaGreat.V
open Go Go.RowKit
def Item.lt (a b : Item) : Prop := a.key < b.key ∨ (a.key = b.key ∧ a.id < b.id)
instance (a b : Item) : Decidable (a.lt b) := inferInstanceAs (Decidable (_ ∨ _))
theorem Item.not_lt_trans {a b c : Item} (h : ¬ b.lt a) (k : ¬ c.lt b) : ¬ c.lt a := by
  simp only [Item.lt] at *; omega
theorem Item.lt_not {a b : Item} (h : a.lt b) : ¬ b.lt a := by
  simp only [Item.lt] at *; omega
theorem lt_of_get {α : Type} {l : List α} {i : Nat} {x : α} (h : l[i]? = some x) : i < l.length := (List.getElem?_eq_some_iff.1 h).1
section
variable {α : Type}
/-- Two places changed. -/
def sw (l : List α) (i j : Nat) (x y : α) : List α := (l.set i y).set j x
variable {l : List α} {i j : Nat} {x y : α}
theorem sw_len : (sw l i j x y).length = l.length := by simp [sw]
theorem sw_get (hx : l[i]? = some x) (hy : l[j]? = some y) (q : Nat) : (sw l i j x y)[q]? = if q = j then some x else if q = i then some y else l[q]? := by
  have hi := lt_of_get hx
  have hj := lt_of_get hy
  simp only [sw, List.getElem?_set, List.length_set]
  by_cases h1 : j = q
  · subst h1; simp [hj]
  · by_cases h2 : i = q
    · subst h2; simp [h1, Ne.symm h1, hi]
    · simp [h1, h2, Ne.symm h1, Ne.symm h2]
theorem sw_mem (hx : l[i]? = some x) (hy : l[j]? = some y) (z : α) : z ∈ sw l i j x y ↔ z ∈ l := by
  simp only [List.mem_iff_getElem?, sw_get hx hy]
  constructor
  · rintro ⟨q, hq⟩
    by_cases h1 : q = j
    · rw [if_pos h1] at hq; exact ⟨i, hx.trans hq⟩
    · rw [if_neg h1] at hq
      by_cases h2 : q = i
      · rw [if_pos h2] at hq; exact ⟨j, hy.trans hq⟩
      · rw [if_neg h2] at hq; exact ⟨q, hq⟩
  · rintro ⟨q, hq⟩
    by_cases h1 : q = j
    · subst h1
      rw [hy] at hq
      cases hq
      by_cases h2 : i = q
      · subst h2
        refine ⟨i, ?_⟩
        rw [if_pos rfl, ← hx, hy]
      · exact ⟨i, by rw [if_neg h2, if_pos rfl]⟩
    · by_cases h2 : q = i
      · subst h2
        rw [hx] at hq
        cases hq
        exact ⟨j, by rw [if_pos rfl]⟩
      · exact ⟨q, by rw [if_neg h1, if_neg h2]; exact hq⟩
end
section
variable {l : List Item} {i j : Nat} {x y : Item}
/-- Where each stands. -/
structure HInv (l : List Item) (m : List (Int × Int)) : Prop where
  fwd : ∀ (i : Nat) (x : Item), l[i]? = some x → mget m x.id = some (i : Int)
  bwd : ∀ (k n : Int), mget m k = some n → ∃ (i : Nat) (x : Item), n = (i : Int) ∧ l[i]? = some x ∧ x.id = k
theorem HInv.inj {m : List (Int × Int)} (h : HInv l m) (hx : l[i]? = some x) (hy : l[j]? = some y) (e : x.id = y.id) : i = j := by
  have h1 := h.fwd i x hx
  rw [e, h.fwd j y hy] at h1
  exact (Int.ofNat_inj.1 (Option.some.inj h1)).symm
theorem HInv.uniq {m : List (Int × Int)} (h : HInv l m) (hx : x ∈ l) (hy : y ∈ l) (e : x.id = y.id) : x = y := by
  obtain ⟨i, hi⟩ := List.mem_iff_getElem?.1 hx
  obtain ⟨j, hj⟩ := List.mem_iff_getElem?.1 hy
  have := h.inj hi hj e
  subst this
  rw [hi] at hj
  exact Option.some.inj hj
theorem HInv.swap {m : List (Int × Int)} (h : HInv l m) (hx : l[i]? = some x) (hy : l[j]? = some y) : HInv (sw l i j x y) (mset (mset m y.id (i : Int)) x.id (j : Int)) := by
  constructor
  · intro q z hz
    rw [sw_get hx hy] at hz
    simp only [mget_mset]
    by_cases h1 : q = j
    · rw [if_pos h1] at hz; cases hz; rw [if_pos rfl, h1]
    · rw [if_neg h1] at hz
      by_cases h2 : q = i
      · rw [if_pos h2] at hz; cases hz
        have hne : x.id ≠ y.id := fun e => h1 (h2.trans (h.inj hx hy e))
        rw [if_neg hne, if_pos rfl, h2]
      · rw [if_neg h2] at hz
        have e1 : x.id ≠ z.id := fun e => h2 (h.inj hz hx e.symm)
        have e2 : y.id ≠ z.id := fun e => h1 (h.inj hz hy e.symm)
        rw [if_neg e1, if_neg e2]
        exact h.fwd q z hz
  · intro k n hk
    simp only [mget_mset] at hk
    by_cases h1 : x.id = k
    · rw [if_pos h1] at hk; cases hk
      exact ⟨j, x, rfl, by rw [sw_get hx hy, if_pos rfl], h1⟩
    · rw [if_neg h1] at hk
      by_cases h2 : y.id = k
      · rw [if_pos h2] at hk; cases hk
        have hij : i ≠ j := fun e => by
          subst e
          rw [hx] at hy
          cases hy
          exact h1 h2
        exact ⟨i, y, rfl, by rw [sw_get hx hy, if_neg hij, if_pos rfl], h2⟩
      · rw [if_neg h2] at hk
        obtain ⟨q, z, e1, e2, e3⟩ := h.bwd k n hk
        have hqi : q ≠ i := fun e => by subst e; rw [hx] at e2; cases e2; exact h1 e3
        have hqj : q ≠ j := fun e => by subst e; rw [hy] at e2; cases e2; exact h2 e3
        exact ⟨q, z, e1, by rw [sw_get hx hy, if_neg hqj, if_neg hqi]; exact e2, e3⟩
theorem HInv.put {m : List (Int × Int)} (h : HInv l m) (hx : l[i]? = some x) (hid : x.id = y.id) : HInv (l.set i y) (mset m y.id (i : Int)) := by
  have hi := lt_of_get hx
  constructor
  · intro q z hz
    rw [List.getElem?_set] at hz
    rw [mget_mset]
    by_cases h1 : i = q
    · subst h1
      rw [if_pos rfl, if_pos hi] at hz
      cases hz
      rw [if_pos rfl]
    · rw [if_neg h1] at hz
      rw [if_neg (fun e => h1 (h.inj hx hz (hid.trans e)))]
      exact h.fwd q z hz
  · intro k n hk
    rw [mget_mset] at hk
    by_cases h1 : y.id = k
    · rw [if_pos h1] at hk
      cases hk
      exact ⟨i, y, rfl, by rw [List.getElem?_set, if_pos rfl, if_pos hi], h1⟩
    · rw [if_neg h1] at hk
      obtain ⟨q, z, e1, e2, e3⟩ := h.bwd k n hk
      have : i ≠ q := fun e => by subst e; rw [hx] at e2; cases e2; exact h1 (hid.symm.trans e3)
      exact ⟨q, z, e1, by rw [List.getElem?_set, if_neg this]; exact e2, e3⟩
theorem HInv.push {m : List (Int × Int)} (h : HInv l m) (hn : mget m y.id = none) : HInv (l ++ [y]) (mset m y.id (l.length : Int)) := by
  constructor
  · intro q z hz
    rw [mget_mset]
    by_cases h1 : q < l.length
    · rw [List.getElem?_append_left h1] at hz
      have := h.fwd q z hz
      rw [if_neg (fun e => by rw [e, this] at hn; cases hn)]
      exact this
    · rw [List.getElem?_append_right (by omega)] at hz
      have hlt := lt_of_get hz
      simp only [List.length_singleton] at hlt
      have hq : q - l.length = 0 := by omega
      rw [hq] at hz
      cases hz
      rw [if_pos rfl, show q = l.length by omega]
  · intro k n hk
    rw [mget_mset] at hk
    by_cases h1 : y.id = k
    · rw [if_pos h1] at hk
      cases hk
      exact ⟨l.length, y, rfl, by simp, h1⟩
    · rw [if_neg h1] at hk
      obtain ⟨q, z, e1, e2, e3⟩ := h.bwd k n hk
      exact ⟨q, z, e1, by rw [List.getElem?_append_left (lt_of_get e2)]; exact e2, e3⟩
theorem HInv.less {m : List (Int × Int)} (h : HInv l m) (hn : (m.map (·.1)).Nodup) {j : Nat} (hj : j + 1 = l.length) (hx : l[j]? = some x) : HInv (l.take j) (mdel m x.id) := by
  constructor
  · intro q z hz
    have hlt := lt_of_get hz
    simp only [List.length_take] at hlt
    rw [List.getElem?_take_of_lt (by omega)] at hz
    rw [mget_mdel hn, if_neg (fun e => by have := h.inj hx hz e; omega)]
    exact h.fwd q z hz
  · intro k n hk
    rw [mget_mdel hn] at hk
    by_cases h1 : x.id = k
    · rw [if_pos h1] at hk; cases hk
    · rw [if_neg h1] at hk
      obtain ⟨q, z, e1, e2, e3⟩ := h.bwd k n hk
      have hlt := lt_of_get e2
      have : q ≠ j := fun e => by subst e; rw [hx] at e2; cases e2; exact h1 e3
      exact ⟨q, z, e1, by rw [List.getElem?_take_of_lt (by omega)]; exact e2, e3⟩
/-! ### Order -/
def Edge (l : List Item) (i : Nat) : Prop := ∀ x p, l[i]? = some x → l[(i - 1) / 2]? = some p → ¬ x.lt p
def Bridge (l : List Item) (n : Nat) : Prop := ∀ j, 0 < n → 0 < j → (j - 1) / 2 = n → ∀ x p, l[j]? = some x → l[(n - 1) / 2]? = some p → ¬ x.lt p
/-- In order, but maybe between a place and its neighbours. -/
def UpEx (l : List Item) (n : Nat) : Prop := (∀ i, 0 < i → i ≠ n → (i - 1) / 2 ≠ n → Edge l i) ∧ Bridge l n
/-- In order, but maybe between a place and those below it. -/
def DownEx (l : List Item) (n : Nat) : Prop := (∀ i, 0 < i → (i - 1) / 2 ≠ n → Edge l i) ∧ Bridge l n
def Ord (l : List Item) : Prop := ∀ i, 0 < i → Edge l i
theorem UpEx.stop0 (h : UpEx l 0) : DownEx l 0 := ⟨fun i h0 hp => h.1 i h0 (by omega) hp, h.2⟩
theorem UpEx.stop {n : Nat} {p : Item} (h : UpEx l n) (hx : l[n]? = some x) (hp : l[(n - 1) / 2]? = some p) (hle : ¬ x.lt p) : DownEx l n := by
  refine ⟨fun i h0 hpn => ?_, h.2⟩
  by_cases hi : i = n
  · subst hi
    intro x' p' h1 h2
    rw [hx] at h1; rw [hp] at h2
    cases h1; cases h2
    exact hle
  · exact h.1 i h0 hi hpn
theorem UpEx.step {n : Nat} {p : Item} (h : UpEx l n) (h0 : 0 < n) (hx : l[n]? = some x) (hp : l[(n - 1) / 2]? = some p) (hlt : x.lt p) : UpEx (sw l n ((n - 1) / 2) x p) ((n - 1) / 2) := by
  have hpn : (n - 1) / 2 ≠ n := by omega
  constructor
  · intro i hi0 hi1 hi2 a b ha hb
    rw [sw_get hx hp] at ha hb
    rw [if_neg hi1] at ha
    rw [if_neg hi2] at hb
    by_cases hin : i = n
    · subst hin; exact absurd rfl hi2
    rw [if_neg hin] at ha
    by_cases hpi : (i - 1) / 2 = n
    · rw [if_pos hpi] at hb
      cases hb
      exact h.2 i h0 hi0 hpi a p ha hp
    · rw [if_neg hpi] at hb
      exact h.1 i hi0 hin hpi a b ha hb
  · intro j hq0 hj0 hjp a b ha hb
    rw [sw_get hx hp] at ha hb
    have hjq : j ≠ (n - 1) / 2 := by omega
    have hb1 : ((n - 1) / 2 - 1) / 2 ≠ (n - 1) / 2 := by omega
    have hb2 : ((n - 1) / 2 - 1) / 2 ≠ n := by omega
    rw [if_neg hjq] at ha
    rw [if_neg hb1, if_neg hb2] at hb
    have hpe : ¬ p.lt b := h.1 ((n - 1) / 2) hq0 hpn (by omega) p b hp hb
    by_cases hjn : j = n
    · rw [if_pos hjn] at ha
      cases ha
      exact hpe
    · rw [if_neg hjn] at ha
      have : ¬ a.lt p := h.1 j hj0 hjn (by omega) a p ha (by rw [hjp]; exact hp)
      exact Item.not_lt_trans hpe this
theorem DownEx.stop {n : Nat} (h : DownEx l n) (hx : l[n]? = some x) (hk : ∀ j, 0 < j → (j - 1) / 2 = n → ∀ y, l[j]? = some y → ¬ y.lt x) : Ord l := by
  intro i h0
  by_cases hp : (i - 1) / 2 = n
  · intro a b ha hb
    rw [hp, hx] at hb
    cases hb
    exact hk i h0 hp a ha
  · exact h.1 i h0 hp
theorem DownEx.step {n k : Nat} (h : DownEx l n) (hk0 : 0 < k) (hkn : (k - 1) / 2 = n) (hx : l[n]? = some x) (hy : l[k]? = some y) (hlt : y.lt x) (hb : ∀ j, 0 < j → (j - 1) / 2 = n → ∀ z, l[j]? = some z → ¬ z.lt y) : DownEx (sw l n k x y) k := by
  have hkn' : k ≠ n := by omega
  constructor
  · intro i hi0 hip a b ha hb'
    rw [sw_get hx hy] at ha hb'
    rw [if_neg hip] at hb'
    by_cases hik : i = k
    · rw [if_pos hik] at ha
      cases ha
      subst hik
      rw [if_pos hkn] at hb'
      cases hb'
      exact Item.lt_not hlt
    · rw [if_neg hik] at ha
      by_cases hin : i = n
      · rw [if_pos hin] at ha
        cases ha
        subst hin
        have h1 : (i - 1) / 2 ≠ i := by omega
        rw [if_neg h1] at hb'
        exact h.2 k hi0 hk0 hkn y b hy hb'
      · rw [if_neg hin] at ha
        by_cases hpn : (i - 1) / 2 = n
        · rw [if_pos hpn] at hb'
          cases hb'
          exact hb i hi0 hpn a ha
        · rw [if_neg hpn] at hb'
          exact h.1 i hi0 hpn a b ha hb'
  · intro j _ hj0 hjk a b ha hb'
    rw [sw_get hx hy] at ha hb'
    have h1 : j ≠ k := by omega
    have h2 : j ≠ n := by omega
    rw [if_neg h1, if_neg h2] at ha
    rw [hkn, if_neg (Ne.symm hkn'), if_pos rfl] at hb'
    cases hb'
    exact h.1 j hj0 (by omega) a y ha (by rw [hjk]; exact hy)
theorem Ord.top (h : Ord l) (h0 : l[0]? = some x) : ∀ (i : Nat) (y : Item), l[i]? = some y → ¬ y.lt x := by
  intro i
  induction i using Nat.strongRecOn with
  | _ i ih =>
    intro y hy
    by_cases hi : i = 0
    · subst hi
      rw [h0] at hy
      cases hy
      simp only [Item.lt]; omega
    · have hlt := lt_of_get hy
      obtain ⟨p, hp⟩ : ∃ p, l[(i - 1) / 2]? = some p := ⟨l[(i - 1) / 2]'(by omega), List.getElem?_eq_getElem (by omega)⟩
      exact Item.not_lt_trans (ih _ (by omega) p hp) (h i (by omega) y p hy hp)
/-- Another item at one place: in order but there. -/
theorem Ord.put (h : Ord l) (n : Nat) (z : Item) (hn : n < l.length) : UpEx (l.set n z) n := by
  constructor
  · intro i h0 hi hp a b ha hb
    rw [List.getElem?_set, if_neg (Ne.symm hi)] at ha
    rw [List.getElem?_set, if_neg (Ne.symm hp)] at hb
    exact h i h0 a b ha hb
  · intro j h0 hj hp a b ha hb
    have h1 : n ≠ j := by omega
    have h2 : n ≠ (n - 1) / 2 := by omega
    rw [List.getElem?_set, if_neg h1] at ha
    rw [List.getElem?_set, if_neg h2] at hb
    have hlt := lt_of_get ha
    have hnl : l[n]? = some l[n] := List.getElem?_eq_getElem hn
    exact Item.not_lt_trans (h n h0 _ b hnl hb) (h j hj a _ ha (by rw [hp]; exact hnl))
/-- One more at the end. -/
theorem Ord.more (h : Ord l) (z : Item) : UpEx (l ++ [z]) l.length := by
  constructor
  · intro i h0 hi hp a b ha hb
    have hlt := lt_of_get ha
    simp only [List.length_append, List.length_singleton] at hlt
    rw [List.getElem?_append_left (by omega)] at ha
    rw [List.getElem?_append_left (by omega)] at hb
    exact h i h0 a b ha hb
  · intro j h0 hj hp a b ha hb
    have hlt := lt_of_get ha
    simp only [List.length_append, List.length_singleton] at hlt
    omega
/-- The last one in another one's place, and the end cut: in order but there. -/
theorem Ord.less (h : Ord l) (hx : l[i]? = some x) {j : Nat} (hj : j + 1 = l.length) (hy : l[j]? = some y) (hij : i < j) : UpEx ((sw l i j x y).take j) i := by
  have hg : ∀ q a, ((sw l i j x y).take j)[q]? = some a → q < j ∧ (l.set i y)[q]? = some a := by
    intro q a hq
    have hlt := lt_of_get hq
    simp only [List.length_take, sw_len] at hlt
    rw [List.getElem?_take_of_lt (by omega), sw_get hx hy, if_neg (by omega)] at hq
    refine ⟨by omega, ?_⟩
    rw [List.getElem?_set]
    by_cases h1 : i = q
    · subst h1
      rw [if_pos rfl] at hq
      rw [if_pos rfl, if_pos (lt_of_get hx)]
      exact hq
    · rw [if_neg (Ne.symm h1)] at hq
      rw [if_neg h1]
      exact hq
  have hp := h.put i y (lt_of_get hx)
  exact ⟨fun q h0 h1 h2 a b ha hb => hp.1 q h0 h1 h2 a b (hg q a ha).2 (hg _ b hb).2, fun q h0 h1 h2 a b ha hb => hp.2 q h0 h1 h2 a b (hg q a ha).2 (hg _ b hb).2⟩
theorem Ord.cut (h : Ord l) (k : Nat) : Ord (l.take k) := by
  intro i h0 a b ha hb
  have h1 := lt_of_get ha
  have h2 := lt_of_get hb
  simp only [List.length_take] at h1 h2
  rw [List.getElem?_take_of_lt (by omega)] at ha hb
  exact h i h0 a b ha hb
end
end Go.Proofs.YtajilfnceoeaiaaGreat.V
/- The heap, in memory. -/
namespace Go.Proofs.YtajilfnceoeaiaaGreat.V
open Go Go.RowKit Enc
set_option maxRecDepth 100000
/-- The colours of a heap: of its head, its list and its map. -/
def hc (c : Nat) : Nat → Bool := fun d => d == c || d == c + 1 || d == c + 2
/-- A heap in memory. -/
def HeapR (o : Own) (w : World) (c a : Nat) (l : List Item) (m : List (Int × Int)) : Prop :=
  ∃ s b, Blk o w c a (.cells [Value.slice s.a s.n s.c, Value.map (some b)].toArray 174 (0, 0)) ∧ RowL o w (c + 1) 187 s l ∧ MapR o w (c + 2) b (Value.int .i64) m
section
variable {o o' : Own} {w w' : World} {c a : Nat} {l : List Item} {m : List (Int × Int)} {C : Nat → Bool}
theorem HeapR.up (h : HeapR o w c a l m) (u : Up C o w o' w') (h0 : C c = false) (h1 : C (c + 1) = false) (h2 : C (c + 2) = false) : HeapR o' w' c a l m := by
  obtain ⟨s, b, g1, g2, g3⟩ := h
  exact ⟨s, b, g1.up u h0, g2.up u h1, g3.up u h2⟩
theorem Up.hc0 (u : Up (only [c]) o w o' w') : Up (hc c) o w o' w' := u.mono fun d hd => by simp [hc, only] at *; omega
theorem Up.hc1 (u : Up (only [c + 1]) o w o' w') : Up (hc c) o w o' w' := u.mono fun d hd => by simp [hc, only] at *; omega
theorem Up.hc2 (u : Up (only [c + 2]) o w o' w') : Up (hc c) o w o' w' := u.mono fun d hd => by simp [hc, only] at *; omega
theorem only_ne {c d : Nat} (h : d ≠ c) : only [c] d = false := by simp [only, h]
theorem ahead_spec (x y : Item) (w : World) : Call P 174 [x.v, y.v] [sB] (fun b w' => Below w.heap.size w w' ∧ b = decide (x.lt y)) w := by
  refine f174_of _ _ (New_of fun b1 w1 c1 u1 => New_of fun b2 w2 c2 u2 => ?_)
  have c1 := c1.below u2
  have u := u1.on u2
  refine c1.ld (x := x.key) rfl (c2.ld (x := y.key) rfl (If_d (fun h => ⟨u, ?_⟩) fun h => ?_))
  · exact (decide_eq_true (Or.inl h)).symm
  · refine c1.ld (x := x.key) rfl (c2.ld (x := y.key) rfl (If_eq (fun h2 => ?_) fun h2 => ⟨u, ?_⟩))
    · refine c1.ld (x := x.id) rfl (c2.ld (x := y.id) rfl ⟨u, ?_⟩)
      refine decide_eq_decide.2 ⟨fun h3 => .inr ⟨h2, h3⟩, fun h3 => h3.elim (fun h4 => absurd h4 h) fun h4 => h4.2⟩
    · exact (decide_eq_false (fun h3 => h3.elim h fun h4 => h2 h4.1)).symm
theorem swap_spec (h : HeapR o w c a l m) (hi : HInv l m) {i j : Nat} {x y : Item} (hx : l[i]? = some x) (hy : l[j]? = some y) :
    Call P 173 [.pointer (some ⟨a, 0, none⟩), .int .i64 i, .int .i64 j] [] (fun w' => HeapR o w' c a (sw l i j x y) (mset (mset m y.id (i : Int)) x.id (j : Int)) ∧ Up (hc c) o w o w') w := by
  obtain ⟨s, b, g1, g2, g3⟩ := h
  have u0 : Up (hc c) o w o w.drew := Up.drew
  replace g1 := g1.up (C := no) (Up.drew) rfl
  replace g2 := g2.up (C := no) (Up.drew) rfl
  replace g3 := g3.up (C := no) (Up.drew) rfl
  have gx := g1.bx
  refine f173_of _ _ _ (WA (gx.ld (x := s) rfl (WA (gx.ld (x := s) rfl (WA (gx.ld (x := s) rfl (g2.rl.item rfl hy (WA (gx.ld (x := s) rfl (g2.rl.item rfl hx (g2.st (y := y) rfl hx rfl fun w1 g2 u1 => ?_)))))))))))
  replace g1 := g1.up u1 (only_ne (by omega))
  replace g3 := g3.up u1 (only_ne (by omega))
  have hy' : (l.set i y)[j]? = some (if i = j then y else y) := by
    rw [List.getElem?_set]
    by_cases e : i = j
    · subst e; simp [lt_of_get hx]
    · simp [e, hy]
  refine g2.st (y := x) rfl hy' rfl fun w2 g2 u2 => ?_
  replace g1 := (g1.up u2 (only_ne (by omega))).up (C := no) Up.drew rfl
  replace g3 := (g3.up u2 (only_ne (by omega))).up (C := no) Up.drew rfl
  replace g2 := g2.up (C := no) Up.drew rfl
  have u3 : Up (hc c) o w o w2.drew := (u0.trans (u1.hc1.trans u2.hc1)).trans Up.drew
  have hsx : (sw l i j x y)[i]? = some (if i = j then x else y) := by
    rw [sw_get hx hy]
    by_cases e : i = j <;> simp [e]
  have hsy : (sw l i j x y)[j]? = some x := by rw [sw_get hx hy]; simp
  have gx := g1.bx
  have hx2 : y = if i = j then x else y := by
    by_cases e : i = j
    · subst e; rw [hx] at hy; cases hy; simp
    · simp [e]
  rw [← hx2] at hsx
  refine WA (gx.ld (x := some b) rfl (WA (gx.ld (x := s) rfl (g2.rl.fld (f := 1) (e := .ki .i64) (y := y.id) rfl hsx rfl rfl (WA (gx.ld (x := some b) rfl (WA (gx.ld (x := s) rfl (g2.rl.fld (f := 1) (e := .ki .i64) (y := x.id) rfl hsy rfl rfl ?_)))))))))
  refine mapEntry_of mtInt g3 y.id fun z n w4 u4 st => ⟨?_, st i _ fun w5 g3 u5 => mapEntry_of mtInt g3 x.id fun z2 n2 w6 u6 st2 => st2 j _ fun w7 g3 u7 => ?_⟩
  · exact (g1.up u4 (only_ne (by omega))).bx.get0 rfl
  · have u := ((u4.trans u5).trans u6).trans u7
    exact ⟨⟨s, b, g1.up u (only_ne (by omega)), g2.up u (only_ne (by omega)), g3⟩, u3.trans u.hc2⟩
theorem wzi {x : Int} (h : -9223372036854775808 ≤ x) (k : x ≤ 9223372036854775807) : wz x = x := wz_id h k
/-- The same items. -/
def Same (l l' : List Item) : Prop := l'.length = l.length ∧ ∀ z, z ∈ l' ↔ z ∈ l
theorem Same.refl : Same l l := ⟨rfl, fun _ => Iff.rfl⟩
theorem Same.trans {l' l'' : List Item} (h : Same l l') (k : Same l' l'') : Same l l'' := ⟨k.1.trans h.1, fun z => (k.2 z).trans (h.2 z)⟩
theorem Same.sw {l : List Item} {i j : Nat} {x y : Item} (hx : l[i]? = some x) (hy : l[j]? = some y) : Same l (sw l i j x y) := ⟨sw_len, sw_mem hx hy⟩
theorem half_eq {k : Nat} (h0 : 0 < k) (h : k ≤ 1000) : IntKind.wrap .i64 (Int.tdiv (IntKind.wrap .i64 ((k : Int) - 1)) 2) = (((k - 1) / 2 : Nat) : Int) := by
  have h1 : IntKind.wrap .i64 ((k : Int) - 1) = ((k - 1 : Nat) : Int) := by rw [wz_id (by omega) (by omega)]; omega
  have h2 : Int.tdiv (((k - 1 : Nat) : Int)) 2 = (((k - 1) / 2 : Nat) : Int) := rfl
  rw [h1, h2, wz_id (by omega) (by omega)]
theorem up_spec (h : HeapR o w c a l m) (hi : HInv l m) (hl : l.length ≤ 1000) {n : Nat} {x : Item} (hx : l[n]? = some x) (he : UpEx l n) :
    Call P 144 [.pointer (some ⟨a, 0, none⟩), .int .i64 n] [] (fun w' => ∃ l' m' k, HeapR o w' c a l' m' ∧ HInv l' m' ∧ DownEx l' k ∧ l'[k]? = some x ∧ Same l l' ∧ Up (hc c) o w o w') w := by
  refine f144_of _ _ ⟨fun i w' => ∃ (k : Nat) (l' : List Item) (m' : List (Int × Int)), i = k ∧ HeapR o w' c a l' m' ∧ HInv l' m' ∧ UpEx l' k ∧ l'[k]? = some x ∧ Same l l' ∧ Up (hc c) o w o w', fun i _ => i.toNat,
    ⟨n, l, m, rfl, h, hi, he, hx, .refl, .refl⟩, ?_⟩
  rintro i v ⟨k, l', m', rfl, g, gi, ge, gx, gs, u⟩ _
  have g0 := g.up (C := no) (o' := o) (w' := v.drew) (Up.drew (C := no)) rfl rfl rfl
  have u0 : Up (hc c) o w o v.drew := u.trans Up.drew
  have hk := lt_of_get gx
  rw [gs.1] at hk
  refine If_d (fun h0 => ?_) fun h0 => ?_
  · have h0 : 0 < k := by omega
    obtain ⟨s, b, g1, g2, g3⟩ := g0
    have hh := half_eq h0 (by omega)
    obtain ⟨p, gp⟩ : ∃ p, l'[(k - 1) / 2]? = some p := ⟨l'[(k - 1) / 2]'(by rw [gs.1]; omega), List.getElem?_eq_getElem (by rw [gs.1]; omega)⟩
    refine WA (g1.bx.ld (x := s) rfl (g2.rl.item rfl gx (WA (g1.bx.ld (x := s) rfl ⟨by decide, ?_⟩))))
    refine g2.rl.item hh gp ?_
    have hc' := ahead_spec x p v.drew
    refine hc'.imp1 ?_
    rintro r w1 ⟨u1, rfl⟩
    have c1 := g1.bx.below u1
    refine ⟨c1.get0 rfl, c1.get0 rfl, If_d (fun hlt => ⟨by decide, ?_⟩) fun hlt => ?_⟩
    · have g : HeapR o w1 c a l' m' := ⟨s, b, g1.up (Up.of_below (C := no) u1) rfl, g2.up (Up.of_below (C := no) u1) rfl, g3.up (Up.of_below (C := no) u1) rfl⟩
      have hs := swap_spec g gi gx gp
      rw [hh]
      refine hs.imp0 ?_
      rintro w2 ⟨g, u2⟩
      refine ⟨by decide, ⟨(k - 1) / 2, _, _, rfl, g, gi.swap gx gp, ge.step h0 gx gp hlt, by rw [sw_get gx gp, if_pos rfl], gs.trans (.sw gx gp), (u0.trans (Up.of_below u1)).trans u2⟩, ?_⟩
      show Int.toNat (((k - 1) / 2 : Nat) : Int) < Int.toNat (k : Int)
      omega
    · exact ⟨l', m', k, ⟨s, b, g1.up (Up.of_below (C := no) u1) rfl, g2.up (Up.of_below (C := no) u1) rfl, g3.up (Up.of_below (C := no) u1) rfl⟩, gi, ge.stop gx gp hlt, gx, gs, u0.trans (Up.of_below u1)⟩
  · have h0 : k = 0 := by omega
    subst h0
    exact ⟨l', m', 0, g0, gi, ge.stop0, gx, gs, u0⟩
theorem down_spec (h : HeapR o w c a l m) (hi : HInv l m) (hl : l.length ≤ 1000) {n : Nat} {x : Item} (hx : l[n]? = some x) (he : DownEx l n) :
    Call P 145 [.pointer (some ⟨a, 0, none⟩), .int .i64 n] [] (fun w' => ∃ l' m', HeapR o w' c a l' m' ∧ HInv l' m' ∧ Ord l' ∧ Same l l' ∧ Up (hc c) o w o w') w := by
  refine f145_of _ _ ⟨fun i w' => ∃ (k : Nat) (l' : List Item) (m' : List (Int × Int)), i = k ∧ HeapR o w' c a l' m' ∧ HInv l' m' ∧ DownEx l' k ∧ l'[k]? = some x ∧ Same l l' ∧ Up (hc c) o w o w', fun i _ => l.length - i.toNat,
    ⟨n, l, m, rfl, h, hi, he, hx, .refl, .refl⟩, ?_⟩
  rintro i v ⟨k, l', m', rfl, g, gi, ge, gx, gs, u⟩ _
  have hk := lt_of_get gx
  rw [gs.1] at hk
  refine New_of fun b5 w1 c5 u1 => ?_
  have g := g.up (C := no) (o' := o) (w' := w1) (Up.of_below u1) rfl rfl rfl
  have u := u.trans (Up.of_below (o := o) u1)
  have hkid : ∀ t, t < 2 → [Value.int .i64 (wz (wz (2 * (k : Int)) + 1)), Value.int .i64 (wz (wz (2 * (k : Int)) + 2))][t]? = some (Value.int .i64 ((2 * k + 1 + t : Nat) : Int)) := by
    intro t ht
    have e0 : wz (2 * (k : Int)) = 2 * (k : Int) := wzi (by omega) (by omega)
    have e1 : wz (2 * (k : Int) + 1) = ((2 * k + 1 + 0 : Nat) : Int) := by rw [wzi (by omega) (by omega)]; omega
    have e2 : wz (2 * (k : Int) + 2) = ((2 * k + 1 + 1 : Nat) : Int) := by rw [wzi (by omega) (by omega)]; omega
    rw [e0, e1, e2]
    match t, ht with
    | 0, _ => rfl
    | 1, _ => rfl
  refine ⟨fun i j w' => ∃ (q t : Nat) (y : Item), i = q ∧ j = t ∧ t ≤ 2 ∧ HeapR o w' c a l' m' ∧ Up (hc c) o w o w' ∧ Below w1.heap.size w1 w' ∧ l'[q]? = some y ∧ ((q = k ∧ y = x) ∨ (0 < q ∧ (q - 1) / 2 = k ∧ y.lt x)) ∧
      ∀ e z, e < t → l'[2 * k + 1 + e]? = some z → ¬ z.lt y, fun _ j _ => 2 - j.toNat, ⟨k, 0, x, rfl, rfl, by omega, g, u, Below.refl _ _, gx, .inl ⟨rfl, rfl⟩, fun e z he => by omega⟩, ?_⟩
  rintro i j w2 ⟨q, t, y, rfl, rfl, ht, g, u, u2, gy, hq, hb⟩ _
  refine If_d (fun h2 => ?_) fun h2 => ?_
  · have h2 : t < 2 := by omega
    refine ⟨⟨by omega, by omega⟩, ?_⟩
    rw [Int.toNat_natCast, Nat.mul_one]
    refine (c5.below u2).ld (c := .ki .i64) (x := ((2 * k + 1 + t : Nat) : Int)) (hkid t h2) ?_
    have hwt : IntKind.wrap .i64 ((t : Int) + 1) = ((t + 1 : Nat) : Int) := by rw [wz_id (by omega) (by omega)]; omega
    have u2 := u2.on bdrew
    have u := u.trans (Up.drew (o := o) (w := w2))
    obtain ⟨s, b, g1, g2, g3⟩ := g.up (C := no) (o' := o) (w' := w2.drew) Up.drew rfl rfl rfl
    have hn := g2.n
    rw [hwt]
    refine WA (g1.bx.ld (x := s) rfl (If_d (fun h3 => ?_) fun h3 => ?_))
    · have h3 : 2 * k + 1 + t < s.n := Int.ofNat_lt.1 h3
      obtain ⟨z, gz⟩ : ∃ z, l'[2 * k + 1 + t]? = some z := ⟨l'[2 * k + 1 + t]'(by omega), List.getElem?_eq_getElem (by omega)⟩
      refine WA (g1.bx.ld (x := s) rfl (g2.rl.item rfl gz (WA (g1.bx.ld (x := s) rfl (g2.rl.item rfl gy ?_)))))
      have hc' := ahead_spec z y w2.drew
      refine hc'.imp1 ?_
      rintro r w3 ⟨u3, rfl⟩
      have c1 := g1.bx.below u3
      have g : HeapR o w3 c a l' m' := ⟨s, b, g1.up (Up.of_below (C := no) u3) rfl, g2.up (Up.of_below (C := no) u3) rfl, g3.up (Up.of_below (C := no) u3) rfl⟩
      have u := u.trans (Up.of_below (o := o) u3)
      have u2 := u2.on u3
      refine ⟨c1.get0 rfl, c1.get0 rfl, c1.get0 rfl, If_d (fun hlt => ?_) fun hlt => ?_⟩
      · refine ⟨⟨2 * k + 1 + t, t + 1, z, rfl, rfl, by omega, g, u, u2, gz, .inr ⟨by omega, by omega, ?_⟩, fun e z' he hz' => ?_⟩, by simp; omega⟩
        · rcases hq with ⟨_, rfl⟩ | ⟨_, _, h4⟩
          · exact hlt
          · simp only [Item.lt] at *; omega
        · by_cases het : e = t
          · subst het
            rw [gz] at hz'
            cases hz'
            simp only [Item.lt]; omega
          · have := hb e z' (by omega) hz'
            simp only [Item.lt] at *; omega
      · refine ⟨⟨q, t + 1, y, rfl, rfl, by omega, g, u, u2, gy, hq, fun e z' he hz' => ?_⟩, by simp; omega⟩
        by_cases het : e = t
        · subst het
          rw [gz] at hz'
          cases hz'
          exact hlt
        · exact hb e z' (by omega) hz'
    · refine ⟨⟨q, t + 1, y, rfl, rfl, by omega, ⟨s, b, g1, g2, g3⟩, u, u2, gy, hq, fun e z' he hz' => ?_⟩, by simp; omega⟩
      have h3 : ¬ 2 * k + 1 + t < s.n := fun q => h3 (Int.ofNat_lt.2 q)
      by_cases het : e = t
      · subst het
        have := lt_of_get hz'
        omega
      · exact hb e z' (by omega) hz'
  · have h2 : t = 2 := by omega
    subst h2
    have hall : ∀ j, 0 < j → (j - 1) / 2 = k → ∀ z, l'[j]? = some z → ¬ z.lt y := by
      intro j h0 hj z hz
      have : j = 2 * k + 1 + 0 ∨ j = 2 * k + 1 + 1 := by omega
      rcases this with rfl | rfl
      · exact hb 0 z (by omega) hz
      · exact hb 1 z (by omega) hz
    refine If_eq (fun e => ?_) fun e => ?_
    · rcases hq with ⟨_, rfl⟩ | ⟨h4, h5, _⟩
      · exact ⟨l', m', g, gi, ge.stop gx hall, gs, u⟩
      · omega
    · rcases hq with ⟨rfl, _⟩ | ⟨h4, h5, h6⟩
      · exact absurd rfl e
      have hs := swap_spec g gi gx gy
      refine hs.imp0 ?_
      rintro w3 ⟨g, u3⟩
      have hql := lt_of_get gy
      refine ⟨⟨q, _, _, rfl, g, gi.swap gx gy, ge.step h4 h5 gx gy h6 hall, by rw [sw_get gx gy, if_pos rfl], gs.trans (.sw gx gy), u.trans u3⟩, ?_⟩
      rw [gs.1] at hql
      show l.length - Int.toNat (q : Int) < l.length - Int.toNat (k : Int)
      omega
end
end Go.Proofs.YtajilfnceoeaiaaGreat.V
/- The heap's functions: what is in it is a map from numbers to keys. -/
namespace Go.Proofs.YtajilfnceoeaiaaGreat.V
open Go Go.RowKit Enc
set_option maxRecDepth 100000
theorem nodup_le : ∀ (n : Nat) (l : List Nat), l.Nodup → (∀ x ∈ l, x < n) → l.length ≤ n
  | 0, l, _, h => by
    cases l with
    | nil => simp
    | cons x l => exact absurd (h x (.head _)) (by omega)
  | n + 1, l, hn, h => by
    have h1 := nodup_le n (l.erase n) (hn.erase n) fun x hx => by
      have h2 := h x (List.mem_of_mem_erase hx)
      have h3 : x ≠ n := fun e => by subst e; exact absurd hx (hn.not_mem_erase)
      omega
    have h2 := List.length_erase (a := n) (l := l)
    split at h2 <;> omega
/-- What is in a heap. -/
structure Cont (l : List Item) (f : Int → Option Int) : Prop where
  iff : ∀ k v, f k = some v ↔ (⟨v, k⟩ : Item) ∈ l
  range : ∀ x ∈ l, 0 ≤ x.id ∧ x.id < 8
def HeapF (o : Own) (w : World) (c a : Nat) (f : Int → Option Int) : Prop := ∃ l m, HeapR o w c a l m ∧ HInv l m ∧ Ord l ∧ Cont l f
def upd {α : Type} (f : Int → α) (k : Int) (v : α) : Int → α := fun q => if q = k then v else f q
section
variable {o o' : Own} {w w' : World} {c a : Nat} {l : List Item} {m : List (Int × Int)} {C : Nat → Bool} {f : Int → Option Int}
theorem HeapF.up (h : HeapF o w c a f) (u : Up C o w o' w') (h0 : C c = false) (h1 : C (c + 1) = false) (h2 : C (c + 2) = false) : HeapF o' w' c a f := by
  obtain ⟨l, m, g, r⟩ := h
  exact ⟨l, m, g.up u h0 h1 h2, r⟩
theorem HeapF.upno (h : HeapF o w c a f) (u : Up no o w o' w') : HeapF o' w' c a f := h.up u rfl rfl rfl
theorem HInv.len8 (h : HInv l m) (hr : ∀ x ∈ l, 0 ≤ x.id ∧ x.id < 8) : l.length ≤ 8 := by
  have := nodup_le 8 (l.map fun x => x.id.toNat) ?_ ?_
  · simpa using this
  · rw [List.Nodup, List.pairwise_map, List.pairwise_iff_getElem]
    intro i j hi hj hij e
    have h1 := hr _ (List.getElem_mem hi)
    have h2 := hr _ (List.getElem_mem hj)
    have := h.inj (List.getElem?_eq_getElem hi) (List.getElem?_eq_getElem hj) (by omega)
    omega
  · intro x hx
    obtain ⟨y, hy, rfl⟩ := List.mem_map.1 hx
    have := hr y hy
    omega
theorem Cont.same {l' : List Item} (h : Cont l f) (s : Same l l') : Cont l' f := ⟨fun k v => (h.iff k v).trans (s.2 _).symm, fun x hx => h.range x ((s.2 x).1 hx)⟩
theorem Cont.get (h : Cont l f) (hi : HInv l m) {k n : Int} (hk : mget m k = some n) : ∃ (i : Nat) (v : Int), n = i ∧ l[i]? = some ⟨v, k⟩ ∧ f k = some v := by
  obtain ⟨i, x, h1, h2, h3⟩ := hi.bwd k n hk
  obtain ⟨v, k'⟩ := x
  dsimp only at h3
  subst h3
  exact ⟨i, v, h1, h2, (h.iff _ _).2 (List.mem_of_getElem? h2)⟩
theorem Cont.none (h : Cont l f) (hi : HInv l m) {k : Int} (hk : mget m k = none) : f k = none := by
  cases hf : f k with
  | none => rfl
  | some v =>
    obtain ⟨i, h1⟩ := List.mem_iff_getElem?.1 ((h.iff k v).1 hf)
    have := hi.fwd i _ h1
    rw [hk] at this
    cases this
theorem heapNew_spec (w : World) (o : Own) (c : Nat) : Call P 92 [] [sP] (fun p w' => ∃ a o', p = some ⟨a, 0, none⟩ ∧ HeapF o' w' c a (fun _ => none) ∧ Up no o w o' w') w := by
  refine f92_of (makeMap_of o (c + 2) (Value.int .i64) fun b o1 w1 g3 u1 => New_blk o1 c fun a o2 w2 g1 u2 _ => ⟨a, o2, rfl, ⟨[], [], ⟨⟨none, 0, 0⟩, b, g1, .nil, g3.up u2 rfl⟩, ⟨fun i x h => by simp at h, fun k n h => by simp [mget] at h⟩, fun i _ x p h => by simp at h, ⟨fun k v => by simp, fun x h => by simp at h⟩⟩, u1.trans u2⟩)
theorem heapLen_spec (h : HeapR o w c a l m) : Call P 143 [.pointer (some ⟨a, 0, none⟩)] [sI] (fun n w' => n = l.length ∧ w' = w) w := by
  obtain ⟨s, b, g1, g2, g3⟩ := h
  exact f143_of _ (If_f (WA (g1.bx.ld (x := s) rfl ⟨by rw [g2.n], rfl⟩)))
/-- The first one, if there is one. -/
def TopOf (f : Int → Option Int) (id key : Int) (ok : Bool) : Prop :=
  if ok then f id = some key ∧ (∀ k v, f k = some v → key < v ∨ (key = v ∧ id ≤ k)) ∧ 0 ≤ id ∧ id < 8 else (∀ k, f k = none) ∧ id = 0 ∧ key = 0
theorem TopOf.uniq {f : Int → Option Int} {id key id2 key2 : Int} {ok ok2 : Bool} (h : TopOf f id key ok) (k : TopOf f id2 key2 ok2) : id2 = id ∧ key2 = key ∧ ok2 = ok := by
  cases ok <;> cases ok2
  · exact ⟨k.2.1.trans h.2.1.symm, k.2.2.trans h.2.2.symm, rfl⟩
  · have := h.1 id2
    rw [k.1] at this
    cases this
  · have := k.1 id
    rw [h.1] at this
    cases this
  · have h1 := h.2.1 _ _ k.1
    have h2 := k.2.1 _ _ h.1
    exact ⟨by omega, by omega, rfl⟩
theorem heapTop_spec (h : HeapF o w c a f) : Call P 111 [.pointer (some ⟨a, 0, none⟩)] [sI, sI, sB] (fun id key ok w' => Below w.heap.size w w' ∧ TopOf f id key ok) w := by
  obtain ⟨l, m, g, gi, go, gc⟩ := h
  have hl := heapLen_spec g
  refine f111_of _ (hl.imp1 ?_)
  rintro n w1 ⟨rfl, rfl⟩
  refine If_eq (fun h0 => ?_) fun h0 => ?_
  · have : l = [] := List.eq_nil_of_length_eq_zero (by omega)
    subst this
    refine ⟨Below.refl _ _, fun k => ?_, rfl, rfl⟩
    cases hf : f k with
    | none => rfl
    | some v => exact absurd ((gc.iff k v).1 hf) (by simp)
  · obtain ⟨s, b, g1, g2, g3⟩ := g.up (C := no) (o' := o) (w' := w1.drew) Up.drew rfl rfl rfl
    obtain ⟨x, hx⟩ : ∃ x, l[0]? = some x := ⟨l[0]'(by omega), List.getElem?_eq_getElem (by omega)⟩
    refine WA (g1.bx.ld (x := s) rfl (g2.rl.fld (k := 0) (f := 1) (e := .ki .i64) (y := x.id) rfl hx rfl rfl (WA (g1.bx.ld (x := s) rfl (g2.rl.fld (k := 0) (f := 0) (e := .ki .i64) (y := x.key) rfl hx rfl rfl ⟨bdrew, ?_⟩)))))
    have hm := List.mem_of_getElem? hx
    refine ⟨(gc.iff _ _).2 hm, fun k v hf => ?_, gc.range x hm⟩
    obtain ⟨i, h1⟩ := List.mem_iff_getElem?.1 ((gc.iff k v).1 hf)
    have := go.top hx i _ h1
    simp only [Item.lt] at this
    omega
theorem heapKey_spec (h : HeapF o w c a f) (id : Int) : Call P 133 [.pointer (some ⟨a, 0, none⟩), .int .i64 id] [sI, sB] (fun key ok w' => w' = w ∧ ok = (f id).isSome ∧ key = (f id).getD 0) w := by
  obtain ⟨l, m, ⟨s, b, g1, g2, g3⟩, gi, go, gc⟩ := h
  have hlk := lookup_run (z := (0 : Int)) mtInt g3 id true
  cases hk : mget m id with
  | none =>
    rw [hk] at hlk
    refine f133_of _ _ (If_f (WA (g1.bx.ld (x := some b) rfl ⟨w, (0 : Int), false, hlk, ?_⟩)))
    exact If_t ⟨rfl, by rw [gc.none gi hk]; rfl, by rw [gc.none gi hk]; rfl⟩
  | some n =>
    obtain ⟨i, v, rfl, h2, h3⟩ := gc.get gi hk
    rw [hk] at hlk
    refine f133_of _ _ (If_f (WA (g1.bx.ld (x := some b) rfl ⟨w, (i : Int), true, hlk, ?_⟩)))
    exact If_f (WA (g1.bx.ld (x := s) rfl (g2.rl.fld (f := 0) (e := .ki .i64) (y := v) rfl h2 rfl rfl ⟨rfl, by rw [h3]; rfl, by rw [h3]; rfl⟩)))
theorem heapPush_spec (h : HeapF o w c a f) {id key : Int} (h0 : 0 ≤ id) (h8 : id < 8) : Call P 113 [.pointer (some ⟨a, 0, none⟩), .int .i64 id, .int .i64 key] [] (fun w' => ∃ o', HeapF o' w' c a (upd f id (some key)) ∧ Up (hc c) o w o' w') w := by
  obtain ⟨l, m, ⟨s, b, g1, g2, g3⟩, gi, go, gc⟩ := h
  have hl8 := gi.len8 gc.range
  -- behind the store of the item: it rises, it sinks
  have fin : ∀ (o1 : Own) (w1 : World) (l1 : List Item) (m1 : List (Int × Int)) (i : Nat) (K : World → Prop), HeapR o1 w1 c a l1 m1 → HInv l1 m1 → l1.length ≤ 1000 → l1[i]? = some ⟨key, id⟩ → UpEx l1 i → Cont l1 (upd f id (some key)) → Up (hc c) o w o1 w1 →
      (∀ w', (∃ o', HeapF o' w' c a (upd f id (some key)) ∧ Up (hc c) o w o' w') → K w') →
      Call P 144 [.pointer (some ⟨a, 0, none⟩), .int .i64 i] [] (fun w => WithAddr (some ⟨a, 0, none⟩) fun a19 => Ld (.km) (a19.add 1) (fun m20 w => Sm P (Instr.lookup 146 (.map m20) (.int .i64 id) false) [sI] (fun n21 w => Call P 145 [.pointer (some ⟨a, 0, none⟩), .int .i64 n21] [] (fun w => K w) w) w) w) w1 := by
    intro o1 w1 l1 m1 i K g gi hl hx he hc u hK
    have hu := up_spec g gi hl hx he
    refine hu.imp0 ?_
    rintro w2 ⟨l2, m2, k, ⟨s, b, g1, g2, g3⟩, gi2, gd, hk, hs, u2⟩
    have hlen : l2.length ≤ 1000 := by rw [hs.1]; exact hl
    refine WA (g1.bx.ld (x := some b) rfl ⟨w2, (k : Int), ?_, ?_⟩)
    · have := lookup_run (z := (0 : Int)) mtInt g3 id false
      rw [gi2.fwd k _ hk] at this
      exact this
    · have hd := down_spec ⟨s, b, g1, g2, g3⟩ gi2 hlen hk gd
      refine hd.imp0 ?_
      rintro w3 ⟨l3, m3, g, gi3, go3, hs3, u3⟩
      exact hK w3 ⟨o1, ⟨l3, m3, g, gi3, go3, hc.same (hs.trans hs3)⟩, (u.trans u2).trans u3⟩
  have hlk := lookup_run (z := (0 : Int)) mtInt g3 id true
  cases hk : mget m id with
  | none =>
    rw [hk] at hlk
    refine f113_of _ _ _ (If_f (WA (g1.bx.ld (x := some b) rfl ⟨w, (0 : Int), false, hlk, ?_⟩)))
    have hn := g2.n
    refine If_t (WA (g1.bx.ld (x := s) rfl (WA (g1.bx.ld (x := s) rfl (New_blk o (c + 9) fun d o1 w1 k1 u1 _ => ?_)))))
    refine RowL.app (x := (⟨0, 0⟩ : Item)) etItem 172 (g2.up u1 rfl) (k1.rd1 rfl) rfl (by omega) (by unfold maxLen; omega) fun s' o2 w2 g2 u2 => ?_
    have g1 := (g1.up u1 rfl).up u2 (only_ne (by omega))
    have g3 := (g3.up u1 rfl).up u2 (only_ne (by omega))
    refine WA (g1.st (f := 0) (vs := [Value.slice s'.a s'.n s'.c]) (by simp) fun w3 g1 u3 => ?_)
    have u4 : Up no o2 w3 o2 w3.drew := Up.drew
    have g1 : Blk o2 w3.drew c a (.cells [Value.slice s'.a s'.n s'.c, Value.map (some b)].toArray 174 (0, 0)) := g1.up u4 rfl
    have g2 := (g2.up u3 (only_ne (by omega))).up u4 rfl
    have g3 := (g3.up u3 (only_ne (by omega))).up u4 rfl
    have hz : (l ++ [(⟨0, 0⟩ : Item)])[l.length]? = some ⟨0, 0⟩ := by simp
    refine WA (g1.bx.ld (x := s') rfl (WA (g1.bx.ld (x := some b) rfl (g2.st (y := (⟨key, id⟩ : Item)) (k := l.length) (by rw [hn]) hz rfl fun w5 g2 u5 => ?_))))
    have g1 := g1.up u5 (only_ne (by omega))
    have g3 := g3.up u5 (only_ne (by omega))
    refine mapEntry_of mtInt g3 id fun z n w6 u6 st => st s.n _ fun w7 g3 u7 => ?_
    have g1 := (g1.up u6 (only_ne (by omega))).up u7 (only_ne (by omega))
    have g2 := (g2.up u6 (only_ne (by omega))).up u7 (only_ne (by omega))
    have hset : (l ++ [(⟨0, 0⟩ : Item)]).set l.length ⟨key, id⟩ = l ++ [⟨key, id⟩] := by simp
    rw [hset] at g2
    rw [hn] at g3
    have u : Up (hc c) o w o2 w7 := ((((((u1.of_no).trans u2.hc1).trans u3.hc0).trans u4.of_no).trans u5.hc1).trans u6.hc2).trans u7.hc2
    have := fin o2 w7 (l ++ [⟨key, id⟩]) _ l.length _ ⟨s', b, g1, g2, g3⟩ (gi.push (y := ⟨key, id⟩) hk) (by simp; omega) (by simp) (go.more _) ?_ u (fun w' h => h)
    · rw [hn]; exact this
    · have hf := gc.none gi hk
      constructor
      · intro q v
        simp only [upd, List.mem_append, List.mem_singleton, Item.mk.injEq]
        by_cases e : q = id
        · subst e
          rw [if_pos rfl]
          constructor
          · intro h; cases h; exact .inr ⟨rfl, rfl⟩
          · rintro (h | ⟨rfl, _⟩)
            · rw [(gc.iff _ _).2 h] at hf; cases hf
            · rfl
        · rw [if_neg e, gc.iff]
          exact ⟨fun h => .inl h, fun h => h.elim (fun h => h) fun h => absurd h.2 e⟩
      · intro x hx
        simp only [List.mem_append, List.mem_singleton] at hx
        rcases hx with hx | rfl
        · exact gc.range x hx
        · exact ⟨h0, h8⟩
  | some n =>
    obtain ⟨i, v, rfl, hi, hf⟩ := gc.get gi hk
    rw [hk] at hlk
    refine f113_of _ _ _ (If_f (WA (g1.bx.ld (x := some b) rfl ⟨w, (i : Int), true, hlk, ?_⟩)))
    have u4 : Up no o w o w.drew := Up.drew
    have g1 := g1.up u4 rfl
    have g2 := g2.up u4 rfl
    have g3 := g3.up u4 rfl
    refine If_f (WA (g1.bx.ld (x := s) rfl (WA (g1.bx.ld (x := some b) rfl (g2.st (y := (⟨key, id⟩ : Item)) (k := i) rfl hi rfl fun w5 g2 u5 => ?_)))))
    have g1 := g1.up u5 (only_ne (by omega))
    have g3 := g3.up u5 (only_ne (by omega))
    refine mapEntry_of mtInt g3 id fun z n w6 u6 st => st i _ fun w7 g3 u7 => ?_
    have g1 := (g1.up u6 (only_ne (by omega))).up u7 (only_ne (by omega))
    have g2 := (g2.up u6 (only_ne (by omega))).up u7 (only_ne (by omega))
    have u : Up (hc c) o w o w7 := ((u4.of_no.trans u5.hc1).trans u6.hc2).trans u7.hc2
    refine fin o w7 (l.set i ⟨key, id⟩) _ i _ ⟨s, b, g1, g2, g3⟩ (gi.put (y := ⟨key, id⟩) hi rfl) (by simp; omega) (by rw [List.getElem?_set, if_pos rfl, if_pos (lt_of_get hi)]) (go.put i _ (lt_of_get hi)) ?_ u (fun w' h => h)
    have hmem : ∀ y : Item, y ∈ l.set i ⟨key, id⟩ ↔ y = ⟨key, id⟩ ∨ (y ∈ l ∧ y.id ≠ id) := by
      intro y
      rw [List.mem_iff_getElem?]
      constructor
      · rintro ⟨j, hj⟩
        rw [List.getElem?_set] at hj
        by_cases e : i = j
        · subst e
          rw [if_pos rfl, if_pos (lt_of_get hi)] at hj
          exact .inl (Option.some.inj hj).symm
        · rw [if_neg e] at hj
          exact .inr ⟨List.mem_of_getElem? hj, fun e2 => e (gi.inj hi hj e2.symm)⟩
      · rintro (rfl | ⟨h1, h2⟩)
        · exact ⟨i, by rw [List.getElem?_set, if_pos rfl, if_pos (lt_of_get hi)]⟩
        · obtain ⟨j, hj⟩ := List.mem_iff_getElem?.1 h1
          refine ⟨j, ?_⟩
          rw [List.getElem?_set, if_neg]
          · exact hj
          · intro e
            subst e
            rw [hi] at hj
            cases hj
            exact h2 rfl
    constructor
    · intro q v'
      rw [hmem]
      simp only [upd, Item.mk.injEq]
      by_cases e : q = id
      · subst e
        rw [if_pos rfl]
        constructor
        · intro h; cases h; exact .inl ⟨rfl, rfl⟩
        · rintro (⟨rfl, _⟩ | h)
          · rfl
          · exact absurd rfl h.2
      · rw [if_neg e, gc.iff]
        exact ⟨fun h => .inr ⟨h, e⟩, fun h => h.elim (fun h => absurd h.2 e) fun h => h.1⟩
    · intro x hx
      rcases (hmem x).1 hx with rfl | h
      · exact ⟨h0, h8⟩
      · exact gc.range x h.1
theorem heapRemove_spec (h : HeapF o w c a f) (id : Int) : Call P 142 [.pointer (some ⟨a, 0, none⟩), .int .i64 id] [sB] (fun r w' => r = (f id).isSome ∧ HeapF o w' c a (upd f id none) ∧ Up (hc c) o w o w') w := by
  obtain ⟨l, m, ⟨s, b, g1, g2, g3⟩, gi, go, gc⟩ := h
  have hl8 := gi.len8 gc.range
  have hlk := lookup_run (z := (0 : Int)) mtInt g3 id true
  cases hk : mget m id with
  | none =>
    rw [hk] at hlk
    refine f142_of _ _ (If_f (WA (g1.bx.ld (x := some b) rfl ⟨w, (0 : Int), false, hlk, ?_⟩)))
    have hf := gc.none gi hk
    refine If_t ⟨by rw [hf]; rfl, ⟨l, m, ⟨s, b, g1, g2, g3⟩, gi, go, ?_⟩, .refl⟩
    have : upd f id none = f := by
      funext q
      simp only [upd]
      by_cases e : q = id
      · rw [if_pos e, e, hf]
      · rw [if_neg e]
    rw [this]
    exact gc
  | some n =>
    obtain ⟨i, v, rfl, hi, hf⟩ := gc.get gi hk
    rw [hk] at hlk
    refine f142_of _ _ (If_f (WA (g1.bx.ld (x := some b) rfl ⟨w, (i : Int), true, hlk, ?_⟩)))
    have hn := g2.n
    have hnd := g3.nodup
    have hil := lt_of_get hi
    obtain ⟨j, hj⟩ : ∃ j, j + 1 = l.length := ⟨l.length - 1, by omega⟩
    have hlast : IntKind.wrap .i64 ((s.n : Int) - 1) = (j : Int) := by rw [wz_id (by omega) (by omega)]; omega
    obtain ⟨y, hy⟩ : ∃ y, l[j]? = some y := ⟨l[j]'(by omega), List.getElem?_eq_getElem (by omega)⟩
    refine If_f (WA (g1.bx.ld (x := s) rfl ?_))
    have hs := swap_spec ⟨s, b, g1, g2, g3⟩ gi hi hy
    rw [hlast]
    refine hs.imp0 ?_
    rintro w1 ⟨⟨s, b, g1, g2, g3⟩, u1⟩
    have hsn := g2.n
    rw [sw_len] at hsn
    refine WA (g1.bx.ld (x := s) rfl (g2.cut etItem (k := j) rfl (by rw [sw_len]; omega) fun s' g2 => ?_))
    refine WA (g1.st (f := 0) (vs := [Value.slice s'.a s'.n s'.c]) (by simp) fun w2 g1 u2 => ?_)
    have g2 := g2.up u2 (only_ne (by omega))
    have g3 := g3.up u2 (only_ne (by omega))
    have g1 : Blk o w2 c a (.cells [Value.slice s'.a s'.n s'.c, Value.map (some b)].toArray 174 (0, 0)) := g1
    refine WA (g1.bx.ld (x := some b) rfl (delete_of mtInt g3 id fun w3 g3 u3 => ?_))
    have g1 := g1.up u3 (only_ne (by omega))
    have g2 := g2.up u3 (only_ne (by omega))
    have gsw := gi.swap hi hy
    have hxj : (sw l i j ⟨v, id⟩ y)[j]? = some ⟨v, id⟩ := by rw [sw_get hi hy, if_pos rfl]
    have gi' : HInv ((sw l i j ⟨v, id⟩ y).take j) (mdel (mset (mset m y.id (i : Int)) id (j : Int)) id) :=
      gsw.less (x := ⟨v, id⟩) (mset_nodup (mset_nodup hnd _ _) _ _) (by rw [sw_len]; exact hj) hxj
    have u : Up (hc c) o w o w3 := (u1.trans u2.hc0).trans u3.hc2
    have hmem : ∀ z : Item, z ∈ (sw l i j ⟨v, id⟩ y).take j ↔ z ∈ l ∧ z.id ≠ id := by
      intro z
      constructor
      · intro hz
        obtain ⟨q, hq⟩ := List.mem_iff_getElem?.1 hz
        have hlt := lt_of_get hq
        simp only [List.length_take] at hlt
        rw [List.getElem?_take_of_lt (by omega)] at hq
        refine ⟨(sw_mem hi hy z).1 (List.mem_of_getElem? hq), fun e => ?_⟩
        have := gsw.inj hq hxj e
        omega
      · rintro ⟨h1, h2⟩
        obtain ⟨q, hq⟩ := List.mem_iff_getElem?.1 ((sw_mem hi hy z).2 h1)
        have hlt := lt_of_get hq
        rw [sw_len] at hlt
        have hqj : q ≠ j := fun e => by
          subst e
          rw [hxj] at hq
          cases hq
          exact h2 rfl
        exact List.mem_iff_getElem?.2 ⟨q, by rw [List.getElem?_take_of_lt (by omega)]; exact hq⟩
    have gc' : Cont ((sw l i j ⟨v, id⟩ y).take j) (upd f id none) := by
      constructor
      · intro q v'
        rw [hmem]
        simp only [upd]
        by_cases e : q = id
        · rw [if_pos e]
          exact ⟨fun h => (by cases h), fun h => absurd e h.2⟩
        · rw [if_neg e, gc.iff]
          exact ⟨fun h => ⟨h, e⟩, fun h => h.1⟩
      · intro x hx
        exact gc.range x ((hmem x).1 hx).1
    have hlen : ((sw l i j ⟨v, id⟩ y).take j).length = j := by rw [List.length_take, sw_len]; omega
    have hr : true = (f id).isSome := by rw [hf]; rfl
    refine If_d (fun hij => ?_) fun hij => ?_
    · have hij : i < j := Int.ofNat_lt.1 hij
      have hyi : ((sw l i j ⟨v, id⟩ y).take j)[i]? = some y := by rw [List.getElem?_take_of_lt hij, sw_get hi hy, if_neg (by omega), if_pos rfl]
      refine WA (g1.bx.ld (x := s') rfl (g2.rl.fld (f := 1) (e := .ki .i64) (y := y.id) rfl hyi rfl rfl ?_))
      have hu := up_spec ⟨s', b, g1, g2, g3⟩ gi' (by rw [hlen]; omega) hyi (go.less hi hj hy hij)
      refine hu.imp0 ?_
      rintro w4 ⟨l2, m2, k, ⟨s, b, g1, g2, g3⟩, gi2, gd, hk2, hs2, u4⟩
      refine WA (g1.bx.ld (x := some b) rfl ⟨w4, (k : Int), ?_, ?_⟩)
      · have := lookup_run (z := (0 : Int)) mtInt g3 y.id false
        rw [gi2.fwd k _ hk2] at this
        exact this
      · have hd := down_spec ⟨s, b, g1, g2, g3⟩ gi2 (by rw [hs2.1, hlen]; omega) hk2 gd
        refine hd.imp0 ?_
        rintro w5 ⟨l3, m3, g, gi3, go3, hs3, u5⟩
        exact ⟨hr, ⟨l3, m3, g, gi3, go3, gc'.same (hs2.trans hs3)⟩, (u.trans u4).trans u5⟩
    · have hij : i = j := by
        have : ¬ i < j := fun h => hij (Int.ofNat_lt.2 h)
        omega
      subst hij
      refine ⟨hr, ⟨_, _, ⟨s', b, g1, g2, g3⟩, gi', ?_, gc'⟩, u⟩
      rw [hi] at hy
      cases hy
      have : sw l i i ⟨v, id⟩ ⟨v, id⟩ = l := by
        apply List.ext_getElem?
        intro q
        rw [sw_get hi hi]
        by_cases e : q = i
        · rw [if_pos e, e, hi]
        · rw [if_neg e, if_neg e]
      rw [this]
      exact go.cut _
theorem heapPop_spec (h : HeapF o w c a f) : Call P 112 [.pointer (some ⟨a, 0, none⟩)] [sI, sI, sB] (fun id key ok w' => TopOf f id key ok ∧ HeapF o w' c a (if ok then upd f id none else f) ∧ Up (hc c) o w o w') w := by
  have ht := heapTop_spec h
  refine f112_of _ (ht.imp3 ?_)
  rintro id key ok w1 ⟨u1, hok⟩
  have h := h.up (C := no) (o' := o) (Up.of_below u1) rfl rfl rfl
  refine If_b (fun e => ?_) fun e => ?_
  · have hr := heapRemove_spec h id
    refine hr.imp1 ?_
    rintro r w2 ⟨_, h, u2⟩
    exact ⟨hok, by rw [if_pos e]; exact h, (Up.of_below u1).trans u2⟩
  · exact ⟨hok, by rw [if_neg (by rw [e]; decide)]; exact h, Up.of_below u1⟩
end
end Go.Proofs.YtajilfnceoeaiaaGreat.V
/- math/bits.Len, off the shelf. -/
namespace Go.Proofs
open Go.Shelf
def Tryz.lays129_ren : Go.Shelf.Ren := ⟨fun | 129 => 156 | n => n, fun | 53 => 198 | 3 => 3 | 4 => 4 | 46 => 169 | 5 => 5 | 9 => 9 | n => n, fun n => n⟩
theorem Tryz.lays129 : Lays.n129 Tryz.prog Tryz.lays129_ren := {
  mixed := by kernel_rfl
  f129 := Tryz.func156.trans (congrArg some (by kernel_rfl))
  t3 := Tryz.underlying3
  a3 := Tryz.isAgg3
  z3 := Tryz.sizeOf3
  v3 := Tryz.zeroValue3
  t4 := Tryz.underlying4
  a4 := Tryz.isAgg4
  z4 := Tryz.sizeOf4
  v4 := Tryz.zeroValue4
  t5 := Tryz.underlying5
  a5 := Tryz.isAgg5
  z5 := Tryz.sizeOf5
  v5 := Tryz.zeroValue5
  t9 := Tryz.underlying9
  a9 := Tryz.isAgg9
  z9 := Tryz.sizeOf9
  v9 := Tryz.zeroValue9
  t46 := Tryz.underlying169
  a46 := Tryz.isAgg169
  z46 := Tryz.sizeOf169
  v46 := Tryz.zeroValue169
  t53 := Tryz.underlying198
  a53 := Tryz.isAgg198
  z53 := Tryz.sizeOf198
  v53 := Tryz.zeroValue198 }
theorem Tryz.bits_Len64 (x : Int) (w : World) (h0 : 0 ≤ x) (h1 : x ≤ 18446744073709551615) :
    Calls Tryz.prog 156 #[.int .u64 x] w fun e w' => e = .returned (.int .i64 (Lib.bitLen x.toNat)) ∧ w' = w := Any.bits_Len64 Tryz.lays129 x w h0 h1
end Go.Proofs
/- Sorting jobs. -/
namespace Go.Proofs.YtajilfnceoeaiaaGreat.V
open Go Go.RowKit Enc
set_option maxRecDepth 100000
/-- math/bits.Len -/
theorem f118_of (x : Int) {K : Int → World → Prop} {w : World} (vc :
 Call P 156 [.int .u64 x] [sI] (fun n1 w =>
 K n1 w) w) : Call P 118 [.int .u64 x] [sI] K w :=
  call_of (H := ⟨[], [], [], []⟩) Tryz.func118 (by kernel_rfl) (by kernel_rfl) vc
theorem nan_spec (x : Int) (w : World) : Call P 157 [.int .i64 x] [sB] (fun b w' => w' = w ∧ b = false) w := by
  refine f157_of _ ?_
  exact ⟨rfl, by simp⟩
def cmpZ (x y : Int) : Int := if x < y then -1 else if x > y then 1 else 0
theorem cmpZ_is (x y : Int) : (cmpZ x y = -1 ∧ x < y) ∨ (cmpZ x y = 1 ∧ x > y) ∨ (cmpZ x y = 0 ∧ x = y) := by
  unfold cmpZ
  split
  · omega
  · split <;> omega
theorem cmp_spec (x y : Int) (w : World) : Call P 120 [.int .i64 x, .int .i64 y] [sI] (fun n w' => w' = w ∧ n = cmpZ x y) w := by
  refine f120_of _ _ ((nan_spec x w).imp1 ?_)
  rintro b1 w1 ⟨rfl, rfl⟩
  refine (nan_spec y w1).imp1 ?_
  rintro b2 w2 ⟨rfl, rfl⟩
  refine If_f (If_f (If_d (fun h => ⟨rfl, by rw [cmpZ, if_pos h]⟩) fun h => If_d (fun h2 => ⟨rfl, by rw [cmpZ, if_neg h, if_pos h2]⟩) fun h2 => ⟨rfl, by rw [cmpZ, if_neg h, if_neg h2]⟩))
theorem or_spec {b : Nat} {x y : Int} {w : World} (h : Bx w b 0 [.int .i64 x, .int .i64 y]) : Call P 119 [.slice (some ⟨b, 0, none⟩) 2 2] [sI] (fun n w' => w' = w ∧ n = if x ≠ 0 then x else y) w := by
  refine f119_of ⟨some ⟨b, 0, none⟩, 2, 2⟩ ⟨fun i w' => w' = w ∧ (i = 0 ∨ i = 1 ∨ i = 2) ∧ (1 ≤ i → x = 0) ∧ (2 ≤ i → y = 0), fun i _ => 2 - i.toNat, ⟨rfl, .inl rfl, by omega, by omega⟩, ?_⟩
  rintro i v ⟨rfl, hi, h1, h2⟩ _
  refine If_d (fun hlt => ?_) fun hlt => ?_
  · have hlt : i < 2 := hlt
    refine ⟨⟨by omega, hlt⟩, ?_⟩
    have hw0 : IntKind.wrap .i64 ((0 : Int) + 1) = 1 := rfl
    have hw1 : IntKind.wrap .i64 ((1 : Int) + 1) = 2 := rfl
    rcases hi with rfl | rfl | rfl
    · refine WA (h.ld (c := .ki .i64) (x := x) (f := 0) rfl (If_ne (fun e => ⟨rfl, by rw [if_pos e]⟩) fun e => ?_))
      rw [hw0]
      exact ⟨⟨rfl, .inr (.inl rfl), fun _ => e, fun h => absurd h (by decide)⟩, show 2 - Int.toNat 1 < 2 - Int.toNat 0 by decide⟩
    · refine WA (h.ld (c := .ki .i64) (x := y) (f := 1) rfl (If_ne (fun e => ⟨rfl, ?_⟩) fun e => ?_))
      · rw [if_neg (fun h3 => h3 (h1 (by decide)))]
      · rw [hw1]
        exact ⟨⟨rfl, .inr (.inr rfl), fun _ => h1 (by decide), fun _ => e⟩, show 2 - Int.toNat 2 < 2 - Int.toNat 1 by decide⟩
    · exact absurd hlt (by decide)
  · have hlt : ¬ i < 2 := hlt
    have : i = 2 := by omega
    subst this
    exact ⟨rfl, by rw [if_neg (fun h3 => h3 (h1 (by decide))), h2 (by decide)]⟩
/-- Which of two jobs comes first. -/
def Job.lt (a b : Job) : Prop := a.deadline < b.deadline ∨ (a.deadline = b.deadline ∧ a.task < b.task)
theorem Job.not_lt_trans {a b c : Job} (h : ¬ b.lt a) (k : ¬ c.lt b) : ¬ c.lt a := by
  simp only [Job.lt] at *; omega
theorem Job.lt_not {a b : Job} (h : a.lt b) : ¬ b.lt a := by
  simp only [Job.lt] at *; omega
theorem order_spec (x y : Job) (w : World) : Call P 75 [x.v, y.v] [sI] (fun n w' => Below w.heap.size w w' ∧ (n < 0 ↔ x.lt y)) w := by
  refine f75_of _ _ (New_of fun b1 w1 c1 u1 => New_of fun b2 w2 c2 u2 => ?_)
  have c1 := (c1.below u2).drew
  have c2 := c2.drew
  have u := (u1.on u2).drew
  refine c1.ld (x := x.deadline) rfl (c2.ld (x := y.deadline) rfl (c1.ld (x := x.task) rfl (c2.ld (x := y.task) rfl ?_)))
  have hc := cmp_spec x.deadline y.deadline w2.drew
  refine hc.imp1 ?_
  rintro r w3 ⟨rfl, rfl⟩
  (repeat (refine ⟨by (first | (apply Bx.get0; assumption; rfl) | (apply Bx.get; assumption; rfl) | (apply Bx.get0; apply Blk.bx; assumption; rfl) | (apply Bx.get; apply Blk.bx; assumption; rfl)), ?_⟩))
  have hc := cmp_spec x.task y.task w2.drew
  refine hc.imp1 ?_
  rintro r w3 ⟨rfl, rfl⟩
  (repeat (refine ⟨by (first | (apply Bx.get0; assumption; rfl) | (apply Bx.get; assumption; rfl) | (apply Bx.get0; apply Blk.bx; assumption; rfl) | (apply Bx.get; apply Blk.bx; assumption; rfl)), ?_⟩))
  refine New_of fun b3 w3 c3 u3 => ?_
  have c1 := c1.below u3
  have c2 := c2.below u3
  (repeat (refine ⟨by (first | (apply Bx.get0; assumption; rfl) | (apply Bx.get; assumption; rfl) | (apply Bx.get0; apply Blk.bx; assumption; rfl) | (apply Bx.get; apply Blk.bx; assumption; rfl)), ?_⟩))
  have ho := or_spec c3
  refine ho.imp1 ?_
  rintro r w3 ⟨rfl, rfl⟩
  (repeat (refine ⟨by (first | (apply Bx.get0; assumption; rfl) | (apply Bx.get; assumption; rfl) | (apply Bx.get0; apply Blk.bx; assumption; rfl) | (apply Bx.get; apply Blk.bx; assumption; rfl)), ?_⟩))
  refine ⟨u.on u3, ?_⟩
  have h1 := cmpZ_is x.deadline y.deadline
  have h2 := cmpZ_is x.task y.task
  show ((if cmpZ x.deadline y.deadline ≠ 0 then cmpZ x.deadline y.deadline else cmpZ x.task y.task) : Int) < 0 ↔ _
  unfold Job.lt
  split <;> omega
/-- The same ones. -/
def SameL {α : Type} (l l' : List α) : Prop := l'.length = l.length ∧ (∀ z, z ∈ l' ↔ z ∈ l) ∧ ∀ g : α → Int, (∀ (i j : Nat) (x y : α), l[i]? = some x → l[j]? = some y → g x = g y → i = j) → ∀ (i j : Nat) (x y : α), l'[i]? = some x → l'[j]? = some y → g x = g y → i = j
theorem SameL.refl {α : Type} {l : List α} : SameL l l := ⟨rfl, fun _ => Iff.rfl, fun _ h => h⟩
theorem SameL.trans {α : Type} {l l' l'' : List α} (h : SameL l l') (k : SameL l' l'') : SameL l l'' := ⟨k.1.trans h.1, fun z => (k.2.1 z).trans (h.2.1 z), fun g hg => k.2.2 g (h.2.2 g hg)⟩
theorem SameL.sw {α : Type} {l : List α} {i j : Nat} {x y : α} (hx : l[i]? = some x) (hy : l[j]? = some y) : SameL l (V.sw l i j x y) := by
  refine ⟨sw_len, sw_mem hx hy, fun g hg p q a b ha hb e => ?_⟩
  rw [sw_get hx hy] at ha hb
  by_cases p1 : p = j
  · rw [if_pos p1] at ha; cases ha
    by_cases q1 : q = j
    · omega
    · rw [if_neg q1] at hb
      by_cases q2 : q = i
      · rw [if_pos q2] at hb; cases hb
        have := hg i j x y hx hy e
        omega
      · rw [if_neg q2] at hb
        have := hg i q x b hx hb e
        omega
  · rw [if_neg p1] at ha
    by_cases p2 : p = i
    · rw [if_pos p2] at ha; cases ha
      by_cases q1 : q = j
      · rw [if_pos q1] at hb; cases hb
        have := hg j i y x hy hx e
        omega
      · rw [if_neg q1] at hb
        by_cases q2 : q = i
        · omega
        · rw [if_neg q2] at hb
          have := hg j q y b hy hb e
          omega
    · rw [if_neg p2] at ha
      by_cases q1 : q = j
      · rw [if_pos q1] at hb; cases hb
        have := hg p i a x ha hx e
        omega
      · rw [if_neg q1] at hb
        by_cases q2 : q = i
        · rw [if_pos q2] at hb; cases hb
          have := hg p j a y ha hy e
          omega
        · rw [if_neg q2] at hb
          exact hg p q a b ha hb e
/-- In order up to a place, but maybe at one. -/
def InsEx (l : List Job) (i j : Nat) : Prop := ∀ p q x y, p < q → q ≤ i → q ≠ j → l[p]? = some x → l[q]? = some y → ¬ y.lt x
theorem InsEx.step {l : List Job} {i j : Nat} {x y : Job} (h : InsEx l i j) (hj : 0 < j) (hji : j ≤ i) (hx : l[j]? = some x) (hy : l[j - 1]? = some y) (hlt : x.lt y) : InsEx ((l.set j y).set (j - 1) x) i (j - 1) := by
  intro p q a b hpq hqi hqj ha hb
  have hg := sw_get hx hy
  simp only [sw] at hg
  rw [hg] at ha hb
  rw [if_neg hqj] at hb
  by_cases q2 : q = j
  · rw [if_pos q2] at hb; cases hb
    by_cases p1 : p = j - 1
    · rw [if_pos p1] at ha; cases ha
      exact Job.lt_not hlt
    · rw [if_neg p1, if_neg (by omega)] at ha
      exact h p (j - 1) a y (by omega) (by omega) (by omega) ha hy
  · rw [if_neg q2] at hb
    by_cases p1 : p = j - 1
    · rw [if_pos p1] at ha; cases ha
      exact h j q x b (by omega) hqi q2 hx hb
    · rw [if_neg p1] at ha
      by_cases p2 : p = j
      · rw [if_pos p2] at ha; cases ha
        exact h (j - 1) q y b (by omega) hqi q2 hy hb
      · rw [if_neg p2] at ha
        exact h p q a b hpq hqi q2 ha hb
def SortedTo (l : List Job) (n : Nat) : Prop := ∀ p q x y, p < q → q < n → l[p]? = some x → l[q]? = some y → ¬ y.lt x
theorem InsEx.stop {l : List Job} {i j : Nat} {x : Job} (h : InsEx l i j) (hji : j ≤ i) (hx : l[j]? = some x) (hs : j = 0 ∨ ∃ y, l[j - 1]? = some y ∧ ¬ x.lt y) : SortedTo l (i + 1) := by
  intro p q a b hpq hq ha hb
  by_cases hqj : q = j
  · subst hqj
    rw [hx] at hb; cases hb
    rcases hs with h0 | ⟨y, hy, hn⟩
    · omega
    · by_cases hp : p = q - 1
      · subst hp
        rw [hy] at ha; cases ha
        exact hn
      · exact Job.not_lt_trans (h p (q - 1) a y (by omega) (by omega) (by omega) ha hy) hn
  · exact h p q a b hpq (by omega) hqj ha hb
section
variable {o o' : Own} {w w' : World} {c : Nat} {s : Sl} {l : List Job}
theorem insertion_spec (h : RowL o w c 50 s l) (hl : l.length ≤ 1000) :
    Call P 147 [.slice s.a s.n s.c, .int .i64 0, .int .i64 (s.n : Int), .func (.func 75) #[] #[]] [] (fun w' => ∃ l', RowL o w' c 50 s l' ∧ SameL l l' ∧ SortedTo l' l'.length ∧ Up (only [c]) o w o w') w := by
  have hn := h.n
  refine f147_of _ _ _ ⟨fun i w' => ∃ (k : Nat) (l' : List Job), i = k ∧ 1 ≤ k ∧ RowL o w' c 50 s l' ∧ SameL l l' ∧ SortedTo l' k ∧ Up (only [c]) o w o w', fun i _ => l.length - i.toNat,
    ⟨1, l, rfl, Nat.le_refl _, h, .refl, fun p q x y h1 h2 => by omega, .refl⟩, ?_⟩
  rintro i v ⟨k, l', rfl, hk, h, hs, hso, u⟩ _
  have hn' := h.n
  refine If_d (fun hlt => ?_) fun hlt => ?_
  · have hlt : k < s.n := Int.ofNat_lt.1 hlt
    have hw : IntKind.wrap .i64 ((k : Int) + 1) = ((k + 1 : Nat) : Int) := by rw [wz_id (by omega) (by omega)]; omega
    refine ⟨fun j w' => ∃ (q : Nat) (l' : List Job), j = q ∧ q ≤ k ∧ RowL o w' c 50 s l' ∧ SameL l l' ∧ InsEx l' k q ∧ Up (only [c]) o w o w', fun j _ => j.toNat,
      ⟨k, l', rfl, Nat.le_refl _, h, hs, fun p q x y h1 h2 h3 => hso p q x y h1 (by omega), u⟩, ?_⟩
    rintro j v2 ⟨q, l2, rfl, hq, h, hs, hi, u⟩ _
    have hn2 := h.n
    have hql : q < l2.length := by omega
    have h := h.up (C := no) (o' := o) (w' := v2.drew) Up.drew rfl
    have u : Up (only [c]) o w o v2.drew := u.trans Up.drew
    have hx : l2[q]? = some l2[q] := List.getElem?_eq_getElem hql
    refine If_d (fun hj => ?_) fun hj => ?_
    · have hj : 0 < q := by omega
      have hm : IntKind.wrap .i64 ((q : Int) - 1) = ((q - 1 : Nat) : Int) := by rw [wz_id (by omega) (by omega)]; omega
      have hy : l2[q - 1]? = some l2[q - 1] := List.getElem?_eq_getElem (by omega)
      refine h.rl.job rfl hx (h.rl.job hm hy ?_)
      have ho := order_spec l2[q] l2[q - 1] v2.drew
      refine ho.imp1 ?_
      rintro r w3 ⟨u3, hr⟩
      have h := h.up (C := no) (o' := o) (Up.of_below u3) rfl
      have u := u.trans (Up.of_below (o := o) u3)
      refine If_d (fun hlt2 => ?_) fun hlt2 => ?_
      · have h := h.up (C := no) (o' := o) (w' := w3.drew) Up.drew rfl
        have u : Up (only [c]) o w o w3.drew := u.trans Up.drew
        refine h.rl.job hm hy (h.rl.job rfl hx (h.st (y := l2[q - 1]) rfl hx rfl fun w4 h u4 => ?_))
        have hy2 : (l2.set q l2[q - 1])[q - 1]? = some l2[q - 1] := by rw [List.getElem?_set, if_neg (by omega)]; exact hy
        refine h.st (y := l2[q]) hm hy2 rfl fun w5 h u5 => ?_
        refine ⟨⟨q - 1, _, hm, by omega, h, hs.trans (SameL.sw hx hy), hi.step hj hq hx hy (hr.1 hlt2), (u.trans u4).trans u5⟩, ?_⟩
        show (IntKind.wrap .i64 ((q : Int) - 1)).toNat < Int.toNat (q : Int)
        rw [hm]
        omega
      · refine ⟨⟨k + 1, l2, hw, by omega, h, hs, hi.stop hq hx (.inr ⟨_, hy, fun h => hlt2 (hr.2 h)⟩), u⟩, ?_⟩
        show l.length - (IntKind.wrap .i64 ((k : Int) + 1)).toNat < l.length - Int.toNat (k : Int)
        rw [hw]
        omega
    · have hj : q = 0 := by omega
      subst hj
      refine ⟨⟨k + 1, l2, hw, by omega, h, hs, hi.stop hq hx (.inl rfl), u⟩, ?_⟩
      show l.length - (IntKind.wrap .i64 ((k : Int) + 1)).toNat < l.length - Int.toNat (k : Int)
      rw [hw]
      omega
  · have hlt : ¬ k < s.n := fun h => hlt (Int.ofNat_lt.2 h)
    exact ⟨l', h, hs, fun p q x y h1 h2 => hso p q x y h1 (by omega), u⟩
theorem len64_spec (x : Int) (w : World) (h0 : 0 ≤ x) (h1 : x ≤ 18446744073709551615) : Call P 118 [.int .u64 x] [sI] (fun _ w' => w' = w) w := by
  refine f118_of _ ?_
  refine Calls.mono (Tryz.bits_Len64 x w h0 h1) ?_
  rintro e w' ⟨rfl, rfl⟩
  exact ⟨_, rfl, rfl⟩
theorem sort_spec (h : RowL o w c 50 s l) (hl : l.length ≤ 12) :
    Call P 74 [.slice s.a s.n s.c, .func (.func 75) #[] #[]] [] (fun w' => ∃ l', RowL o w' c 50 s l' ∧ SameL l l' ∧ SortedTo l' l'.length ∧ Up (only [c]) o w o w') w := by
  have hn := h.n
  have hw : IntKind.wrap .u64 (s.n : Int) = s.n := by simp only [IntKind.wrap, IntKind.bits, IntKind.signed]; first | omega | (simp; omega)
  have hb := len64_spec (IntKind.wrap .u64 (s.n : Int)) w (by omega) (by omega)
  refine f74_of _ (hb.imp1 ?_)
  rintro n w1 rfl
  refine f117_of _ _ _ _ ⟨fun a b _ _ _ w' => a = 0 ∧ b = s.n ∧ w' = w1, fun _ _ _ _ _ _ => 0, ⟨rfl, rfl, rfl⟩, ?_⟩
  rintro a b n3 b4 b5 v ⟨rfl, rfl, rfl⟩ _
  refine If_d (fun _ => ?_) fun hlt => ?_
  · have hi := insertion_spec h (by omega)
    exact hi.imp0 fun _ h => h
  · refine hlt ?_
    rw [wz_id (by omega) (by omega)]
    omega
end
end Go.Proofs.YtajilfnceoeaiaaGreat.V
/- Ranging over a map, the iterator in whatever block. Own masks. -/
namespace Go.Proofs.YtajilfnceoeaiaaGreat.V
open Go Go.RowKit Enc Go.MapKept
set_option maxRecDepth 100000
section
variable {o : Own} {w : World} {c d it bm since c0 clock : Nat} {seen : Array Nat} {es : Array MapEntry}
theorem range_of {t k e : TypeId} (ht : P.underlying t = some (.map k e)) (o : Own) (d : Nat) (hb : w.heap[bm]? = some (.map es clock)) {K : Option Addr → World → Prop}
    (hk : ∀ b o' w', Blk o' w' d b (.mapIter (some bm) clock #[] clock) → Up no o w o' w' → K (some ⟨b, 0, none⟩) w') : Sm P (Instr.range t (.map (some bm))) [sP] K w :=
  ⟨_, some ⟨w.heap.size, 0, none⟩, run_range_map (P := P) w t k e bm es clock ht hb, hk _ (setO o w.heap.size d) _ (Blk.new _ _) (Up.alloc _ _)⟩
theorem next_run (hit : Blk o w d it (.mapIter (some bm) since seen c0)) (hb : w.heap[bm]? = some (.map es clock)) (hold : ∀ x ∈ es.toList, x.born < since) (hsc : since ≤ c0) :
    ((leftOf es seen).size = 0 ∧ (Instr.next (.pointer (some ⟨it, 0, none⟩)) false 0).run P w = .ok (.tuple #[.bool false]) w) ∨
    ∃ e ∈ (leftOf es seen).toList, ∃ w' : World, Blk o w' d it (.mapIter (some bm) since (seen.push e.born) clock) ∧ Up (only [d]) o w o w' ∧ (Instr.next (.pointer (some ⟨it, 0, none⟩)) false 0).run P w = .ok (.tuple #[.bool true, e.key, e.val]) w' := by
  have hi := hit.heap
  simp only [Instr.next, getObj, Sem.run_bind, Sem.run, hi, hb, Result.andThen, next_test_false seen es since c0 hold hsc, Bool.false_eq_true, if_false]
  unfold leftOf
  have hmem : ∀ x ∈ (Array.filter (fun e => !seen.contains e.born) es).toList, x.born < since := fun x hx => hold x (by simp at hx ⊢; exact hx.1)
  generalize Array.filter (fun e => !seen.contains e.born) es = L at hmem ⊢
  have e1 : L.filter (fun x => decide (x.born < since)) = L := Array.filter_eq_self.2 (fun x hx => by simpa using hmem x (by simpa using hx))
  have e2 : L.filter (fun x => decide (x.born ≥ since)) = #[] := by
    rw [Array.filter_eq_empty_iff]
    intro x hx
    have := hmem x (by simpa using hx)
    simp
    omega
  simp only [e1, e2, Array.append_empty]
  by_cases h0 : L.size = 0
  · left
    have : L = #[] := Array.eq_empty_of_size_eq_zero h0
    subst this
    refine ⟨rfl, ?_⟩
    simp [choose, Sem.run, Question.forced]
  · right
    have hne : L.isEmpty = false := by simp [Array.isEmpty, h0]
    simp only [hne, Bool.false_eq_true, if_false, Array.empty_append, Array.size_map]
    have hch : ∃ (j : Nat) (w1 : World), j < L.size ∧ Up no o w o w1 ∧ (choose (Question.mapNext L.size)).run P w = .ok j w1 := by
      by_cases hf : L.size ≤ 1
      · exact ⟨0, w, by omega, .refl, by simp [choose, Sem.run, Question.forced, hf]⟩
      · exact ⟨_, w.drew, Nat.mod_lt _ (by omega), .drew, by
          simp only [choose, Sem.run, Question.forced, decide_eq_true_eq, hf, if_false, Question.cut]
          rfl⟩
    obtain ⟨j, w1, hj, hal, hrun⟩ := hch
    have hit1 := hit.up hal rfl
    obtain ⟨b2, u2⟩ := up_set (y := .mapIter (some bm) since (seen.push L[j].born) clock) hit1 (.mapIter (some bm) since (seen.push L[j].born) clock)
    have hset : (setObj it (.mapIter (some bm) since (seen.push L[j].born) clock)).run P w1 = .ok () { w1 with heap := w1.heap.setIfInBounds it (.mapIter (some bm) since (seen.push L[j].born) clock) } := by
      simp only [setObj, Sem.run, hit1.heap]
    refine ⟨L[j], by simp, _, b2, (hal.of_no).trans u2, ?_⟩
    simp only [hrun, Array.getElem?_map, Array.getElem?_eq_getElem hj, Option.map_some, Sem.run_bind, hset, Result.andThen]
    rfl
theorem entry_run {e : MapEntry} (hit : Blk o w d it (.mapIter (some bm) since (seen.push e.born) clock)) (hb : w.heap[bm]? = some (.map es clock)) (he : e ∈ es.toList) (hn : (es.toList.map (·.born)).Nodup) :
    (Instr.entry (.pointer (some ⟨it, 0, none⟩))).run P w = .ok (.tuple #[e.key, e.val]) w := by
  have hf : es.find? (·.born == e.born) = some e := by rw [← Array.find?_toList]; exact find_born e es.toList hn he
  have hi := hit.heap
  simp only [Instr.entry, getObj, Sem.run_bind, Sem.run, hi, hb, Result.andThen, Array.back?_push, bne_self_eq_false, Bool.false_eq_true, if_false, hf]
  rfl
end
end Go.Proofs.YtajilfnceoeaiaaGreat.V
/- ready: the jobs that there are. -/
namespace Go.Proofs.YtajilfnceoeaiaaGreat.V
open Go Go.RowKit Enc Go.MapKept
set_option maxRecDepth 100000
def rng (c : Nat) : Nat → Bool := fun d => decide (c ≤ d ∧ d < c + 5)
theorem Job.v_inj {x y : Job} (h : x.v = y.v) : x = y := by
  cases x; cases y
  simp [Job.v] at h
  simp [h]
/-- The jobs in a set, in memory. -/
def SetR (o : Own) (w : World) (c a : Nat) (f : Int → Option Job) : Prop :=
  ∃ ah b g l, Blk o w (c + 3) a (.cells [Value.pointer (some ⟨ah, 0, none⟩), Value.map (some b)].toArray 130 (0, 0)) ∧ HeapF o w c ah g ∧ MapR o w (c + 4) b Job.v l ∧ (∀ k, mget l k = f k) ∧ ∀ k x, f k = some x → x.task = k ∧ 0 ≤ k ∧ k < 8
/-- All jobs, in order. -/
structure ListOf (f : Int → Option Job) (L : List Job) : Prop where
  iff : ∀ x : Job, x ∈ L ↔ f x.task = some x
  sorted : ∀ (p q : Nat) (x y : Job), p < q → L[p]? = some x → L[q]? = some y → x.lt y
section
variable {o o' : Own} {w w' : World} {c a : Nat} {f : Int → Option Job} {C : Nat → Bool}
theorem SetR.up (h : SetR o w c a f) (u : Up C o w o' w') (h0 : ∀ d, c ≤ d → d < c + 5 → C d = false) : SetR o' w' c a f := by
  obtain ⟨ah, b, g, l, h1, h2, h3, h4⟩ := h
  exact ⟨ah, b, g, l, h1.up u (h0 _ (by omega) (by omega)), h2.up u (h0 _ (by omega) (by omega)) (h0 _ (by omega) (by omega)) (h0 _ (by omega) (by omega)), h3.up u (h0 _ (by omega) (by omega)), h4⟩
theorem Up.rng_hc (u : Up (hc c) o w o' w') : Up (rng c) o w o' w' := u.mono fun d hd => by simp [hc, rng] at *; omega
theorem Up.rng1 {d : Nat} (u : Up (only [d]) o w o' w') (h1 : c ≤ d) (h2 : d < c + 5) : Up (rng c) o w o' w' := u.mono fun d hd => by simp [only, rng] at *; omega
theorem hc_no {d : Nat} (h : d < c ∨ c + 3 ≤ d) : hc c d = false := by simp [hc]; omega
theorem setNew_spec (w : World) (o : Own) (c : Nat) : Call P 56 [] [sP] (fun p w' => ∃ a o', p = some ⟨a, 0, none⟩ ∧ SetR o' w' c a (fun _ => none) ∧ Up no o w o' w') w := by
  have hn := heapNew_spec w o c
  refine f56_of (hn.imp1 ?_)
  rintro p w1 ⟨ah, o1, rfl, h1, u1⟩
  exact makeMap_of o1 (c + 4) Job.v fun b o2 w2 g3 u2 => New_blk o2 (c + 3) fun a o3 w3 g1 u3 _ => ⟨a, o3, rfl, ⟨ah, b, _, [], g1, (h1.upno u2).upno u3, g3.up u3 rfl, fun k => rfl, fun k x h => by cases h⟩, (u1.trans u2).trans u3⟩
theorem put_spec (h : SetR o w c a f) (hc90 : c + 5 ≤ 90) (j : Job) (h0 : 0 ≤ j.task) (h8 : j.task < 8) : Call P 70 [.pointer (some ⟨a, 0, none⟩), j.v] [] (fun w' => ∃ o', SetR o' w' c a (upd f j.task (some j)) ∧ Up (rng c) o w o' w') w := by
  obtain ⟨ah, b, g, l, h1, h2, h3, h4, h5⟩ := h
  refine f70_of _ _ (New_blk o 90 fun bj o1 w1 k1 u1 _ => If_f ?_)
  have u2 : Up no o w o1 w1.drew := u1.trans .drew
  have h1 := h1.up u2 rfl
  have h2 := h2.upno u2
  have h3 := h3.up u2 rfl
  have k1 := k1.up (C := no) (o' := o1) (w' := w1.drew) .drew rfl
  refine WA (h1.bx.ld (x := some ⟨ah, 0, none⟩) rfl (k1.bx.ld (x := j.task) rfl (k1.bx.ld (x := j.deadline) rfl ?_)))
  have hp := heapPush_spec h2 (key := j.deadline) h0 h8
  refine hp.imp0 ?_
  rintro w2 ⟨o2, h2, u3⟩
  have u4 : Up no o2 w2 o2 w2.drew := .drew
  have h1 := (h1.up u3 (hc_no (by omega))).up u4 rfl
  have h2 := h2.upno u4
  have h3 := (h3.up u3 (hc_no (by omega))).up u4 rfl
  have k1 := (k1.up u3 (hc_no (by omega))).up u4 rfl
  refine WA (h1.bx.ld (x := some b) rfl (k1.bx.ld (x := j.task) rfl (k1.bx.ldJob (x := j) (mapUpdate_of mtJob h3 j.task j fun w3 h3 u5 => ?_))))
  refine ⟨o2, ⟨ah, b, _, _, h1.up u5 (only_ne (by omega)), h2.up u5 (only_ne (by omega)) (only_ne (by omega)) (only_ne (by omega)), h3, fun k => ?_, fun k x hk => ?_⟩, ((u2.of_no.trans u3.rng_hc).trans u4.of_no).trans (u5.rng1 (by omega) (by omega))⟩
  · rw [mget_mset, h4]
    simp only [upd]
    by_cases e : j.task = k
    · rw [if_pos e, if_pos e.symm]
    · rw [if_neg e, if_neg (Ne.symm e)]
  · simp only [upd] at hk
    by_cases e : k = j.task
    · rw [if_pos e] at hk; cases hk
      exact ⟨e.symm, by omega, by omega⟩
    · rw [if_neg e] at hk
      exact h5 k x hk
theorem drop_spec (h : SetR o w c a f) (task : Int) : Call P 187 [.pointer (some ⟨a, 0, none⟩), .int .i64 task] [sB] (fun _ w' => SetR o w' c a (upd f task none) ∧ Up (rng c) o w o w') w := by
  obtain ⟨ah, b, g, l, h1, h2, h3, h4, h5⟩ := h
  refine f187_of _ _ (If_f (WA (h1.bx.ld (x := some b) rfl (delete_of mtJob h3 task fun w1 h3' u1 => ?_))))
  have h1 := h1.up u1 (only_ne (by omega))
  have h2 := h2.up u1 (only_ne (by omega)) (only_ne (by omega)) (only_ne (by omega))
  refine WA (h1.bx.ld (x := some ⟨ah, 0, none⟩) rfl ?_)
  have hr := heapRemove_spec h2 task
  refine hr.imp1 ?_
  rintro r w2 ⟨_, h2, u2⟩
  refine ⟨⟨ah, b, _, _, h1.up u2 (hc_no (by omega)), h2, h3'.up u2 (hc_no (by omega)), fun k => ?_, fun k x hk => ?_⟩, (u1.rng1 (by omega) (by omega)).trans u2.rng_hc⟩
  · rw [mget_mdel h3.nodup, h4]
    simp only [upd]
    by_cases e : task = k
    · rw [if_pos e, if_pos e.symm]
    · rw [if_neg e, if_neg (Ne.symm e)]
  · simp only [upd] at hk
    by_cases e : k = task
    · rw [if_pos e] at hk; cases hk
    · rw [if_neg e] at hk
      exact h5 k x hk
def noJob : Job := ⟨0, 0, 0, 0, 0, false⟩
theorem get_spec (h : SetR o w c a f) (task : Int) : Call P 100 [.pointer (some ⟨a, 0, none⟩), .int .i64 task] [shJob, sB] (fun a b c d e s ok w' => Below w.heap.size w w' ∧ (⟨a, b, c, d, e, s⟩ : Job) = (f task).getD noJob ∧ ok = (f task).isSome) w := by
  obtain ⟨ah, b, g, l, h1, h2, h3, h4, h5⟩ := h
  refine f100_of _ _ (New_blk (still w) 90 fun b1 o1 w1 k1 u1 _ => If_f ?_)
  have h1' : Bx w1 a 0 _ := h1.bx.below u1.below
  have h3' : MapR (still w1) w1 0 b Job.v l := by
    obtain ⟨es, clock, g1, g2⟩ := h3
    exact ⟨es, clock, ⟨by simp [still]; have := lt_of_heap g1.heap; have := u1.size; omega, (u1.block b (lt_of_heap g1.heap) rfl).trans g1.heap⟩, g2⟩
  have hlk := lookup_run (z := noJob) mtJob h3' task true
  rw [h4] at hlk
  refine WA (h1'.ld (x := some b) rfl ⟨w1, _, _, _, _, _, _, _, hlk, ?_⟩)
  refine New_blk o1 91 fun b2 o2 w2 k2 u2 _ => ?_
  generalize (f task).getD noJob = x
  refine k2.st0 (by rfl) fun w3 k2 u3 => k2.bx.ldJob (x := x) ?_
  have k1 := (k1.up u2 rfl).up u3 rfl
  refine k1.st0 (by rfl) fun w4 k1 u4 => k1.bx.ldJob (x := x) ⟨?_, rfl, rfl⟩
  exact (((u1.trans u2).of_no.trans (u3.loc (by decide))).trans (u4.loc (by decide))).quietL
theorem Rd.fresh {D : Nat → Bool} {d z : Nat} {s : Sl} {xs : List Value} (h : Rd o' w' d z s xs) (u : Up D (V.still w) w o' w') (hd : d ≠ 0) (h0 : D 0 = false) (o : Own) : ∃ o2, Rd o2 w' 0 z s xs ∧ Up no o w o2 w' := by
  refine ⟨fun b => if b < w.heap.size then o b else 0, ⟨h.len, h.max, fun hne => ?_⟩, ⟨u.os, u.tape, u.output, u.size, fun b hb => by simp [hb], fun b hb _ => u.block b hb (by simp [V.still, hb, h0])⟩⟩
  obtain ⟨b, off, g1, g2, g3, g4⟩ := h.rd hne
  refine ⟨b, off, g1, ?_, g3, g4⟩
  have : ¬ b < w.heap.size := fun hb => by
    have := u.own b hb
    rw [g2] at this
    simp [V.still, hb] at this
    exact hd this
  simp [this]
theorem ListOf.len {L : List Job} (h : ListOf f L) (h5 : ∀ k x, f k = some x → x.task = k ∧ 0 ≤ k ∧ k < 8) : L.length ≤ 8 := by
  have := nodup_le 8 (L.map fun x => x.task.toNat) ?_ ?_
  · simpa using this
  · rw [List.Nodup, List.pairwise_map, List.pairwise_iff_getElem]
    intro i j hi hj hij e
    have h1 := h5 _ _ ((h.iff _).1 (List.getElem_mem hi))
    have h2 := h5 _ _ ((h.iff _).1 (List.getElem_mem hj))
    have h3 := h.sorted i j _ _ hij (List.getElem?_eq_getElem hi) (List.getElem?_eq_getElem hj)
    have e1 := (h.iff _).1 (List.getElem_mem hi)
    have e2 := (h.iff _).1 (List.getElem_mem hj)
    have et : L[i].task = L[j].task := by omega
    rw [et, e2] at e1
    have := Option.some.inj e1
    rw [this] at h3
    simp only [Job.lt] at h3
    omega
  · intro x hx
    obtain ⟨y, hy, rfl⟩ := List.mem_map.1 hx
    have := h5 _ _ ((h.iff _).1 hy)
    omega
theorem list_spec (h : SetR o w c a f) : Call P 40 [.pointer (some ⟨a, 0, none⟩)] [sS] (fun s w' => ∃ L o', RL o' w' 0 s L ∧ ListOf f L ∧ L.length ≤ 8 ∧ Up no o w o' w') w := by
  obtain ⟨ah, b, g, l, h1, h2, h3, h4, h5⟩ := h
  have h1' := h1.bx
  obtain ⟨es, clock, m1, m2, m3⟩ := h3
  have hbm := lt_of_heap m1.heap
  have hb0 : Blk (still w) w 0 b (.map es clock) := ⟨by simp [still, hbm], m1.heap⟩
  have hlen : l.length ≤ 8 := by
    have hnd := MapR.nodup ⟨es, clock, m1, m2, m3⟩
    have := nodup_le 8 (l.map fun x => x.1.toNat) ?_ ?_
    · simpa using this
    · rw [List.Nodup, List.pairwise_map] at hnd ⊢
      refine List.Pairwise.imp_of_mem (fun {x y} hx hy hne e => hne ?_) hnd
      have e1 := h5 x.1 x.2 (by rw [← h4]; exact mget_of_mem (by rw [List.Nodup, List.pairwise_map]; exact hnd) hx)
      have e2 := h5 y.1 y.2 (by rw [← h4]; exact mget_of_mem (by rw [List.Nodup, List.pairwise_map]; exact hnd) hy)
      omega
    · intro x hx
      obtain ⟨y, hy, rfl⟩ := List.mem_map.1 hx
      have := h5 y.1 y.2 (by rw [← h4]; exact mget_of_mem hnd hy)
      omega
  have hent : ∀ e ∈ es.toList, ∃ x : Job, e.key = .int .i64 x.task ∧ e.val = x.v ∧ f x.task = some x := by
    intro e he
    have : (e.key, e.val) ∈ l.map fun x => (Value.int .i64 x.1, x.2.v) := by rw [← m3]; exact List.mem_map.2 ⟨e, he, rfl⟩
    obtain ⟨y, hy, e3⟩ := List.mem_map.1 this
    simp only [Prod.mk.injEq] at e3
    have e4 : f y.1 = some y.2 := by rw [← h4]; exact mget_of_mem (MapR.nodup ⟨es, clock, m1, m2, m3⟩) hy
    have e5 := (h5 _ _ e4).1
    exact ⟨y.2, by rw [e5]; exact e3.1.symm, e3.2.symm, by rw [e5]; exact e4⟩
  refine f40_of _ (If_f (WA (h1'.ld (x := some b) rfl (len_of mtJob ⟨es, clock, m1, m2, m3⟩ ?_))))
  refine make0_of (α := Job) etJob (still w) 99 rfl (by omega) (by unfold maxLen; omega) fun s4 o1 w1 r1 u1 => ?_
  refine WA ((h1'.below u1.below).ld (x := some b) rfl ?_)
  refine range_of mtJob.u o1 98 (hb0.up u1 rfl).heap fun it o2 w2 it2 u2 => ?_
  refine ⟨fun s w' => ∃ o' seen c0 J, Blk o' w' 98 it (.mapIter (some b) clock seen c0) ∧ clock ≤ c0 ∧ RowL o' w' 99 50 s J ∧ Up (only [98, 99]) (still w) w o' w' ∧ (∀ x : Job, x ∈ J ↔ ∃ e ∈ es.toList, seen.contains e.born = true ∧ e.val = x.v) ∧
      (∀ (i j : Nat) (x y : Job), J[i]? = some x → J[j]? = some y → x.task = y.task → i = j) ∧ J.length ≤ 8, fun _ w' => (leftOf es (w'.iterSeen it)).size, ⟨o2, #[], clock, [], it2, Nat.le_refl _, r1.up u2 rfl, (u1.trans u2).of_no, by simp, fun i j x y hx => by simp at hx, by simp⟩, ?_⟩
  rintro s v ⟨o', seen, c0, J, it', hc0, r, u, hJ, hinj, hJl⟩ _
  have hb' := hb0.up u rfl
  rcases next_run it' hb'.heap m2.1 hc0 with ⟨hl0, hrun⟩ | ⟨e, hel, w3, it3, u3, hrun⟩
  · refine .inl ⟨v, hrun, ?_⟩
    have hs := sort_spec r (by omega)
    refine hs.imp0 ?_
    rintro w4 ⟨J', r', hsame, hso, u4⟩
    have u' : Up (only [98, 99]) (still w) w o' w4 := u.trans (u4.mono fun d hd => by simp [only] at *; omega)
    obtain ⟨o5, r5, u5⟩ := Rd.fresh r'.rl u' (by decide) rfl o
    have hall : ∀ x : Job, x ∈ J ↔ f x.task = some x := by
      intro x
      rw [hJ]
      constructor
      · rintro ⟨e, he, _, hv⟩
        obtain ⟨y, _, hy, hf⟩ := hent e he
        have : y = x := Job.v_inj (hy.symm.trans hv)
        subst this
        exact hf
      · intro hf
        rw [← h4] at hf
        have hm := mem_of_mget hf
        have : (Value.int .i64 x.task, x.v) ∈ es.toList.map (fun e => (e.key, e.val)) := by rw [m3]; exact List.mem_map.2 ⟨_, hm, rfl⟩
        obtain ⟨e, he, e3⟩ := List.mem_map.1 this
        simp only [Prod.mk.injEq] at e3
        refine ⟨e, he, ?_, e3.2⟩
        cases hc : seen.contains e.born with
        | true => rfl
        | false =>
          have hmem : e ∈ leftOf es seen := by
            unfold leftOf
            exact Array.mem_filter.2 ⟨Array.mem_toList_iff.1 he, by rw [hc]; rfl⟩
          have := Array.eq_empty_of_size_eq_zero hl0
          rw [this] at hmem
          simp at hmem
    refine ⟨J', o5, r5, ⟨fun x => (hsame.2.1 x).trans (hall x), fun p q x y hpq hx hy => ?_⟩, by rw [hsame.1]; exact hJl, u5⟩
    have hn := hso p q x y hpq (lt_of_get hy) hx hy
    have hne : x.task ≠ y.task := fun e => by
      have := hsame.2.2 (·.task) hinj p q x y hx hy e
      omega
    simp only [Job.lt] at *
    omega
  · obtain ⟨he, hns⟩ := mem_left hel
    obtain ⟨x, hk, hv, hf⟩ := hent e he
    rw [hk, hv] at hrun
    refine .inr ⟨_, _, w3, hrun, ?_⟩
    have hb3 := hb0.up (u.trans (u3.mono (D := only [98, 99]) fun d hd => by simp [only] at *; omega)) rfl
    have hrun2 := entry_run it3 hb3.heap he m2.2.1
    rw [hk, hv] at hrun2
    refine ⟨w3, x.task, x.task, x.release, x.deadline, x.left, x.real, x.started, hrun2, ?_⟩
    refine NewSt_of rfl fun b4 w4 c4 u4 => c4.ldJob (x := x) ?_
    refine New_blk o' 97 fun b5 o5 w5 k5 u5 _ => ?_
    have r := ((r.up u3 rfl).up (C := no) (o' := o') (Up.of_below u4) rfl).up u5 rfl
    refine RowL.app (x := x) etJob 47 r (k5.rd1 rfl) rfl (by omega) (by unfold maxLen; omega) fun s6 o6 w6 r6 u6 => ?_
    have it6 := ((it3.up (C := no) (o' := o') (Up.of_below u4) rfl).up u5 rfl).up u6 rfl
    have hfresh : ∀ (i : Nat) (y : Job), J[i]? = some y → y.task ≠ x.task := by
      intro i y hy ey
      obtain ⟨e', he', hs', hv'⟩ := (hJ y).1 (List.mem_of_getElem? hy)
      obtain ⟨y', hk', hv2, _⟩ := hent e' he'
      have : y' = y := Job.v_inj (hv2.symm.trans hv')
      subst this
      have hkk : e'.key = e.key := by rw [hk', hk, ey]
      have hnk := m2.2.2
      rw [List.Nodup, List.pairwise_map] at hnk
      have : e' = e := by
        obtain ⟨i1, hi1⟩ := List.mem_iff_getElem.1 he'
        obtain ⟨i2, hi2⟩ := List.mem_iff_getElem.1 he
        obtain ⟨l1, rfl⟩ := hi1
        obtain ⟨l2, rfl⟩ := hi2
        rw [List.pairwise_iff_getElem] at hnk
        rcases Nat.lt_trichotomy i1 i2 with h | h | h
        · exact absurd hkk (hnk i1 i2 l1 l2 h)
        · subst h; rfl
        · exact absurd hkk.symm (hnk i2 i1 l2 l1 h)
      rw [this, hns] at hs'
      cases hs'
    have hinj' : ∀ (i j : Nat) (a b : Job), (J ++ [x])[i]? = some a → (J ++ [x])[j]? = some b → a.task = b.task → i = j := by
      intro i j a b ha hb e
      rw [List.getElem?_append] at ha hb
      have hi1 : ∀ {i : Nat} {a : Job}, [x][i]? = some a → i = 0 ∧ a = x := by
        intro i a h
        have := lt_of_get h
        simp at this
        subst this
        simp at h
        exact ⟨rfl, h.symm⟩
      by_cases h1 : i < J.length
      · rw [if_pos h1] at ha
        by_cases h2 : j < J.length
        · rw [if_pos h2] at hb
          exact hinj i j a b ha hb e
        · rw [if_neg h2] at hb
          obtain ⟨_, rfl⟩ := hi1 hb
          exact absurd e (hfresh i a ha)
      · rw [if_neg h1] at ha
        obtain ⟨h3, rfl⟩ := hi1 ha
        by_cases h2 : j < J.length
        · rw [if_pos h2] at hb
          exact absurd e.symm (hfresh j b hb)
        · rw [if_neg h2] at hb
          obtain ⟨h4, rfl⟩ := hi1 hb
          omega
    have hJ' : ∀ y : Job, y ∈ J ++ [x] ↔ ∃ e' ∈ es.toList, (seen.push e.born).contains e'.born = true ∧ e'.val = y.v := by
      intro y
      rw [List.mem_append, List.mem_singleton, hJ]
      constructor
      · rintro (⟨e', h1, h2, h3⟩ | rfl)
        · exact ⟨e', h1, by rw [contains_push, h2]; rfl, h3⟩
        · exact ⟨e, he, by rw [contains_push, beq_self_eq_true, Bool.or_true], hv⟩
      · rintro ⟨e', h1, h2, h3⟩
        rw [contains_push, Bool.or_eq_true] at h2
        rcases h2 with h2 | h2
        · exact .inl ⟨e', h1, h2, h3⟩
        · have hbb : e'.born = e.born := by simpa using h2
          have hnb := m2.2.1
          have : e' = e := by
            have q1 := find_born e es.toList hnb he
            have q2 := find_born e' es.toList hnb h1
            rw [hbb, q1] at q2
            exact (Option.some.inj q2).symm
          subst this
          exact .inr (Job.v_inj (h3.symm.trans hv))
    have u6' : Up (only [98, 99]) (still w) w o6 w6 := ((u.trans (u3.mono fun d hd => by simp [only] at *; omega)).trans ((Up.of_below u4).trans u5.of_no)).trans (u6.mono fun d hd => by simp [only] at *; omega)
    refine ⟨⟨o6, seen.push e.born, clock, J ++ [x], it6, Nat.le_refl _, r6, u6', hJ', hinj', ?_⟩, ?_⟩
    · have := nodup_le 8 ((J ++ [x]).map fun x => x.task.toNat) ?_ ?_
      · simpa using this
      · rw [List.Nodup, List.pairwise_map, List.pairwise_iff_getElem]
        intro i j hi hj hij e
        have e1 : ∀ y ∈ J ++ [x], 0 ≤ y.task := by
          intro y hy
          obtain ⟨e', h1, _, h3⟩ := (hJ' y).1 hy
          obtain ⟨y', _, hv2, hf2⟩ := hent e' h1
          have : y' = y := Job.v_inj (hv2.symm.trans h3)
          subst this
          exact (h5 _ _ hf2).2.1
        have q1 := e1 _ (List.getElem_mem hi)
        have q2 := e1 _ (List.getElem_mem hj)
        have := hinj' i j _ _ (List.getElem?_eq_getElem hi) (List.getElem?_eq_getElem hj) (by omega)
        omega
      · intro z hz
        obtain ⟨y, hy, rfl⟩ := List.mem_map.1 hz
        obtain ⟨e', h1, _, h3⟩ := (hJ' y).1 hy
        obtain ⟨y', _, hv2, hf2⟩ := hent e' h1
        have : y' = y := Job.v_inj (hv2.symm.trans h3)
        subst this
        have := h5 _ _ hf2
        omega
    · have s1 : w6.iterSeen it = seen.push e.born := by unfold World.iterSeen; rw [it6.heap]
      have s2 : v.iterSeen it = seen := by unfold World.iterSeen; rw [it'.heap]
      show (leftOf es (w6.iterSeen it)).size < (leftOf es (v.iterSeen it)).size
      rw [s1, s2]
      exact left_shrinks es seen e hel
theorem last_spec (h : SetR o w c a f) : Call P 130 [.pointer (some ⟨a, 0, none⟩)] [sI] (fun n w' => (∃ L, ListOf f L ∧ L.length ≤ 8 ∧ n = (match L.getLast? with | some x => x.deadline | none => 0)) ∧ Below w.heap.size w w') w := by
  have hl := list_spec h
  refine f130_of _ (hl.imp1 ?_)
  rintro s w1 ⟨L, o1, r, hL, hlen, u⟩
  have hn := r.n
  refine If_eq (fun e => ⟨⟨L, hL, hlen, ?_⟩, u.below⟩) fun e => ?_
  · have : L = [] := List.eq_nil_of_length_eq_zero (by omega)
    rw [this]
    rfl
  · have hx : L[L.length - 1]? = some (L[L.length - 1]'(by omega)) := List.getElem?_eq_getElem (by omega)
    have hi : IntKind.wrap .i64 ((s.n : Int) - 1) = ((L.length - 1 : Nat) : Int) := by rw [wz_id (by omega) (by omega)]; omega
    refine r.fld (f := 2) (e := .ki .i64) (y := (L[L.length - 1]'(by omega)).deadline) hi hx rfl rfl ⟨⟨L, hL, hlen, ?_⟩, u.below⟩
    rw [List.getLast?_eq_getElem?, hx]
end
end Go.Proofs.YtajilfnceoeaiaaGreat.V
