/- (*book).event of the package stats: one event more is booked. By hand (the drawn regions' rows by drawn.py). -/
import Derived.Test.YtfimgecceneagaaPAllx0
import Derived.Test.YtfimgecceneagaaArr
namespace Go.Proofs.Ytfimgecceneagaa.PAll
open Go.RowKit Go.Proofs.YtfimgecceneagaaW.PrintWords Go.Proofs.YtfimgecceneagaaW.PrintLast Go.Proofs.Ytfimgecceneagaa.Arr
set_option linter.unusedVariables false
set_option linter.unusedSimpArgs false
attribute [local go_sem] maxTwo

/-- The longest time of task t's row. -/
def lng (v : Nat → Int) (t : Nat) (at_ : Int) : Nat → Int :=
  if v (t * 6) > 0 then upd v (t * 6 + 5) (gr (v (t * 6 + 5)) (wrap64 (at_ - v (36 + t * 4 + 2)))) else v
/-- One event more. -/
def evt (v : Nat → Int) (kind : Int) (t : Nat) (at_ due : Int) : Nat → Int :=
  if kind = 1 then upd (upd (upd (upd (upd v (t * 6) (wrap64 (v (t * 6) + 1))) (36 + t * 4) 1) (36 + t * 4 + 1) t) (36 + t * 4 + 2) at_) (36 + t * 4 + 3) due
  else if kind = 2 then lng (upd v (t * 6 + 1) (wrap64 (v (t * 6 + 1) + 1))) t at_
  else if kind = 3 then lng (upd v (t * 6 + 2) (wrap64 (v (t * 6 + 2) + 1))) t at_
  else v

def event.T1 : Bool × List (List Nat × List Nat) := (true, [([], []), ([], []), ([1], [1]), ([0], [0]), ([3], [3]), ([4, 2], [2, 4]), ([5, 0, 1, 2, 3, 4, 5], [5])])
def event.B1 : List Nat := [0, 0, 2, 1, 9, 31, 63]
theorem event.tab1 : rtab .any (opsOf Try.f33 1) = event.T1 := by kernel_rfl
theorem event.bits1 : waitsOk event.T1.2 event.B1 = true := by kernel_rfl
def event.T5 : Bool × List (List Nat × List Nat) := (true, [([], []), ([], []), ([1], [1]), ([], []), ([0], [0]), ([4], [4]), ([5, 2, 0, 1, 2, 3], [2, 5]), ([6, 3, 0, 1, 2, 3], [3, 6])])
def event.B5 : List Nat := [0, 0, 2, 0, 1, 17, 63, 127]
theorem event.tab5 : rtab .any (opsOf Try.f33 5) = event.T5 := by kernel_rfl
theorem event.bits5 : waitsOk event.T5.2 event.B5 = true := by kernel_rfl
def event.T11 : Bool × List (List Nat × List Nat) := (true, [([], []), ([], []), ([1], [1]), ([2], [2]), ([3], [3]), ([], []), ([5], [5]), ([], []), ([], []), ([8], [8]), ([7], [7]), ([10], [10]), ([11, 9], [9, 11]), ([12], [12]), ([13], [13]), ([6, 14], [6, 14]), ([4, 15], [4, 15]), ([0, 0, 1, 2, 3, 4, 5, 6, 7, 8, 9, 10, 11, 12, 13, 14, 15, 16], [0]), ([17, 0, 1, 2, 3, 4, 5, 6, 7, 8, 9, 10, 11, 12, 13, 14, 15, 16], [17]), ([18, 16, 0, 1, 2, 3, 4, 5, 6, 7, 8, 9, 10, 11, 12, 13, 14, 15, 16], [16, 18])])
def event.B11 : List Nat := [0, 0, 2, 6, 14, 0, 32, 0, 0, 256, 128, 1152, 3968, 8064, 16256, 32736, 65534, 131071, 262143, 524287]
theorem event.tab11 : rtab .any (opsOf Try.f33 11) = event.T11 := by kernel_rfl
theorem event.bits11 : waitsOk event.T11.2 event.B11 = true := by kernel_rfl
set_option maxHeartbeats 8000000 in
set_option maxRecDepth 100000 in
theorem event.calls1 (v : Nat → Int) (t at_ due : Int) (t0 : 0 ≤ t) (t1 : t < 6) (g base : Nat) (w : World) (hbg : base ≤ g) (hg : w.heap[g]? = some (.cells (arrN 60 v) 77 (0, 0))) :
    Calls Try.prog 33 #[.pointer (some ⟨g, 0, none⟩), .agg #[.int .i64 1, .int .i64 t, .int .i64 at_, .int .i64 due]] w fun e w' => e = .returned (.tuple #[]) ∧ w'.heap[g]? = some (.cells (arrN 60 (evt v 1 t.toNat at_ due)) 77 (0, 0)) ∧ Below base w w' ∧ (∀ j, j < w.heap.size → j ≠ g → w'.heap[j]? = w.heap[j]?) := by
  have hu63 := Try.underlying63
  have hu77 := Try.underlying77
  have hu50 := Try.underlying50
  have hu75 := Try.underlying75
  have hu49 := Try.underlying49
  have e0 := eq_true t0
  have e1 := eq_true t1
  have h3 : ((t.toNat : Nat) : Int) = t := by omega
  go_enter Try.func33, Try.ntmps33
  go_upto_region 1 with (first | ((with_reducible refine gate_dst (N := 3) rfl ?_); refine box_event ?hg (N := 3) ?hd (cs := #[.int .i64 1, .int .i64 t, .int .i64 at_, .int .i64 due]) (t := 63) ?hr ?_; (case hd => rfl); (case hg => rfl); (case hr => first | (go_simp; done) | (go_simp; rfl)); intro gb1 hg1 w2 hbox hb))
  have BKg := Aside0.mk (blk_below (g := g) (o := .cells (arrN 60 v) 77 (0, 0)) hg hb)
  have BK1 := Aside0.mk hbox
  have hne : g ≠ gb1 := by have := blk_lt hg; omega
  have hne' : gb1 ≠ g := hne.symm
  have HB : Aside0 (Below base w w2) := ⟨hb.mono (by have := blk_lt hg; omega)⟩
  have FA : Aside0 (∀ j, j < w.heap.size → j ≠ g → w2.heap[j]? = w.heap[j]?) := ⟨fun j hj _ => hb.block j hj⟩
  clear hb hbox hg1 hg
  refine start_ (n := 7) (S := fun w' => w'.cell? ⟨gb1, 1, none⟩ = some (.int .i64 t)) (ds := []) #[false, false, false, false, false, false, false] (by kernel_rfl) rfl rfl ((blk_cell (blk_drew BK1.out) 1).trans rfl) (fun hHeld => ?_); refine with_tabW event.tab1 event.bits1 (fun HT_ HW_ => ?_)
  refine pure_ (i := 0) (N := some 5) (v := ?_) (a' := ?_) #[true, false, false, false, false, false, false] rfl rfl (any_of HT_.out (by kernel_rfl)) (fun _ _ _ h => h) (Or.inl ⟨by rfl, ?_⟩) ?_ ?_; rotate_left; (· (intro w'; go_simp; with_reducible rfl)); rotate_left; (· (simp only [Act.put, List.setIfInBounds_toArray, List.set_cons_zero, List.set_cons_succ, i64_w, i32_w]; rfl))
  refine pure_ (i := 1) (N := some 6) (v := ?_) (a' := ?_) #[true, true, false, false, false, false, false] rfl rfl (any_of HT_.out (by kernel_rfl)) (fun _ _ _ h => h) (Or.inl ⟨by rfl, ?_⟩) ?_ ?_; rotate_left; (· (intro w'; go_simp; with_reducible rfl)); rotate_left; (· (simp only [Act.put, List.setIfInBounds_toArray, List.set_cons_zero, List.set_cons_succ, i64_w, i32_w]; rfl))
  refine pure_ (i := 3) (N := some 8) (v := ?_) (a' := ?_) #[true, true, false, true, false, false, false] rfl rfl (any_of HT_.out (by kernel_rfl)) (fun _ _ _ h => h) (Or.inl ⟨by rfl, ?_⟩) ?_ ?_; rotate_left; (· (intro w'; go_simp; with_reducible rfl)); rotate_left; (· (simp only [Act.put, List.setIfInBounds_toArray, List.set_cons_zero, List.set_cons_succ, i64_w, i32_w]; rfl))
  refine pure_ (i := 4) (N := some 9) (v := ?_) (a' := ?_) #[true, true, false, true, true, false, false] rfl rfl (any_of HT_.out (by kernel_rfl)) (fun _ _ _ h => h) (Or.inl ⟨by rfl, ?_⟩) ?_ ?_; rotate_left; (· (intro w'; go_simp; with_reducible rfl)); rotate_left; (· (simp only [Act.put, List.setIfInBounds_toArray, List.set_cons_zero, List.set_cons_succ, i64_w, i32_w]; rfl))
  refine take_ (i := 2) (N := some 7) (v := ?_) (a' := ?_) #[true, true, true, true, true, false, false] rfl rfl (take_ofW HT_.out HW_.out (by kernel_rfl)) (fun _ _ _ h => h) (Or.inl ⟨by rfl, ?_⟩) hHeld ?_ ?_; rotate_left; (· (rintro w' s0; go_simp; with_reducible rfl)); rotate_left; (· (simp only [Act.put, List.setIfInBounds_toArray, List.set_cons_zero, List.set_cons_succ, i64_w, i32_w]; rfl))
  refine pure_ (i := 5) (N := some 10) (v := ?_) (a' := ?_) #[true, true, true, true, true, true, false] rfl rfl (any_of HT_.out (by kernel_rfl)) (fun _ _ _ h => h) (Or.inl ⟨by rfl, ?_⟩) ?_ ?_; rotate_left; (· (intro w'; go_simp; with_reducible rfl)); rotate_left; (· (simp only [Act.put, List.setIfInBounds_toArray, List.set_cons_zero, List.set_cons_succ, i64_w, i32_w]; rfl))
  refine pure_ (i := 6) (N := some 4) (v := ?_) (a' := ?_) #[true, true, true, true, true, true, true] rfl rfl (any_of HT_.out (by kernel_rfl)) (fun _ _ _ h => h) (Or.inl ⟨by rfl, ?_⟩) ?_ ?_; rotate_left; (· (intro w'; go_simp; with_reducible rfl)); rotate_left; (· (simp only [Act.put, List.setIfInBounds_toArray, List.set_cons_zero, List.set_cons_succ, i64_w, i32_w]; rfl))
  refine done_ (done_of HT_.out (by kernel_rfl)) ?_
  have n0_ := Aside0.mk (blk_drew BKg.out); have n1_ := Aside0.mk (blk_drew BK1.out); have n2_ := Aside0.mk (below_drew1 HB.out); have n3_ : Aside0 (∀ j, j < w.heap.size → j ≠ g → w2.drew.heap[j]? = w.heap[j]?) := ⟨fun j hj hn => FA.out j hj hn⟩; clear BKg BK1 HB FA hHeld HT_ HW_; have BKg := n0_; have BK1 := n1_; have HB := n2_; have FA := n3_; clear n0_ n1_ n2_ n3_
  generalize w2.drew = w3 at BKg BK1 HB FA ⊢
  have q0 : w3.cell? ⟨gb1, 0, none⟩ = some (.int .i64 1) := (blk_cell BK1.out 0).trans rfl
  have q1 : w3.cell? ⟨g, t.toNat * 6, none⟩ = some (.int .i64 (v (t.toNat * 6))) := arrN_cell BKg.out _ (by omega)
  have q2 := blk_frozen BKg.out (t.toNat * 6)
  go_upto_region 5 with (fail)
  have n0_ := Aside0.mk (arrN_put BKg.out (t.toNat * 6) (wrap64 (v (t.toNat * 6) + 1))); have n1_ := Aside0.mk (blk_far BK1.out hne' (p := ⟨g, t.toNat * 6, none⟩) (.int .i64 (wrap64 (v (t.toNat * 6) + 1)))); have n2_ : Aside0 (Below base w (w3.setCell ⟨g, t.toNat * 6, none⟩ (.int .i64 (wrap64 (v (t.toNat * 6) + 1))))) := ⟨HB.out.setCell hbg _⟩; have n3_ : Aside0 (∀ j, j < w.heap.size → j ≠ g → (w3.setCell ⟨g, t.toNat * 6, none⟩ (.int .i64 (wrap64 (v (t.toNat * 6) + 1)))).heap[j]? = w.heap[j]?) := ⟨fun j hj hn => (Below.heap_setCell w3 ⟨g, t.toNat * 6, none⟩ _ j hn).trans (FA.out j hj hn)⟩; clear BKg BK1 HB FA q0 q1 q2; have BKg := n0_; have BK1 := n1_; have HB := n2_; have FA := n3_; clear n0_ n1_ n2_ n3_
  generalize (w3.setCell ⟨g, t.toNat * 6, none⟩ (.int .i64 (wrap64 (v (t.toNat * 6) + 1)))) = w4 at BKg BK1 HB FA ⊢
  obtain ⟨u, hu⟩ : ∃ u, Aside0 (u = upd v (t.toNat * 6) (wrap64 (v (t.toNat * 6) + 1))) := ⟨_, ⟨rfl⟩⟩
  rw [← hu.out] at BKg
  have r0 : w4.cell? ⟨g, 36 + t.toNat * 4, none⟩ = some (.int .i64 (u (36 + t.toNat * 4))) := arrN_cell BKg.out _ (by omega)
  have f0 := blk_frozen BKg.out (36 + t.toNat * 4)
  have r1 : w4.cell? ⟨g, 36 + t.toNat * 4 + 1, none⟩ = some (.int .i64 (u (36 + t.toNat * 4 + 1))) := arrN_cell BKg.out _ (by omega)
  have f1 := blk_frozen BKg.out (36 + t.toNat * 4 + 1)
  have r2 : w4.cell? ⟨g, 36 + t.toNat * 4 + 2, none⟩ = some (.int .i64 (u (36 + t.toNat * 4 + 2))) := arrN_cell BKg.out _ (by omega)
  have f2 := blk_frozen BKg.out (36 + t.toNat * 4 + 2)
  have r3 : w4.cell? ⟨g, 36 + t.toNat * 4 + 3, none⟩ = some (.int .i64 (u (36 + t.toNat * 4 + 3))) := arrN_cell BKg.out _ (by omega)
  have f3 := blk_frozen BKg.out (36 + t.toNat * 4 + 3)
  refine start_ (n := 8) (S := fun w' => w'.cell? ⟨gb1, 0, none⟩ = some (.int .i64 1) ∧ w'.cell? ⟨gb1, 1, none⟩ = some (.int .i64 t) ∧ w'.cell? ⟨gb1, 2, none⟩ = some (.int .i64 at_) ∧ w'.cell? ⟨gb1, 3, none⟩ = some (.int .i64 due)) (ds := [7]) #[false, false, false, false, false, false, false, false] (by kernel_rfl) rfl rfl ⟨(blk_cell (blk_drew BK1.out) 0).trans rfl, (blk_cell (blk_drew BK1.out) 1).trans rfl, (blk_cell (blk_drew BK1.out) 2).trans rfl, (blk_cell (blk_drew BK1.out) 3).trans rfl⟩ (fun hHeld => ?_); refine with_tabW event.tab5 event.bits5 (fun HT_ HW_ => ?_)
  refine pure_ (i := 0) (N := some 22) (v := ?_) (a' := ?_) #[true, false, false, false, false, false, false, false] rfl rfl (any_of HT_.out (by kernel_rfl)) (fun _ _ _ h => h) (Or.inl ⟨by rfl, ?_⟩) ?_ ?_; rotate_left; (· (intro w'; go_simp; with_reducible rfl)); rotate_left; (· (simp only [Act.put, List.setIfInBounds_toArray, List.set_cons_zero, List.set_cons_succ, i64_w, i32_w]; rfl))
  refine pure_ (i := 1) (N := some 23) (v := ?_) (a' := ?_) #[true, true, false, false, false, false, false, false] rfl rfl (any_of HT_.out (by kernel_rfl)) (fun _ _ _ h => h) (Or.inl ⟨by rfl, ?_⟩) ?_ ?_; rotate_left; (· (intro w'; go_simp; with_reducible rfl)); rotate_left; (· (simp only [Act.put, List.setIfInBounds_toArray, List.set_cons_zero, List.set_cons_succ, i64_w, i32_w]; rfl))
  refine pure_ (i := 4) (N := some 26) (v := ?_) (a' := ?_) #[true, true, false, false, true, false, false, false] rfl rfl (any_of HT_.out (by kernel_rfl)) (fun _ _ _ h => h) (Or.inl ⟨by rfl, ?_⟩) ?_ ?_; rotate_left; (· (intro w'; go_simp; with_reducible rfl)); rotate_left; (· (simp only [Act.put, List.setIfInBounds_toArray, List.set_cons_zero, List.set_cons_succ, i64_w, i32_w]; rfl))
  refine pure_ (i := 5) (N := some 27) (v := ?_) (a' := ?_) #[true, true, false, false, true, true, false, false] rfl rfl (any_of HT_.out (by kernel_rfl)) (fun _ _ _ h => h) (Or.inl ⟨by rfl, ?_⟩) ?_ ?_; rotate_left; (· (intro w'; go_simp; with_reducible rfl)); rotate_left; (· (simp only [Act.put, List.setIfInBounds_toArray, List.set_cons_zero, List.set_cons_succ, i64_w, i32_w]; rfl))
  refine take_ (i := 2) (N := some 24) (v := ?_) (a' := ?_) #[true, true, true, false, true, true, false, false] rfl rfl (take_ofW HT_.out HW_.out (by kernel_rfl)) (fun _ _ _ h => h) (Or.inl ⟨by rfl, ?_⟩) hHeld ?_ ?_; rotate_left; (· (rintro w' ⟨s0, s1, s2, s3⟩; go_simp; with_reducible rfl)); rotate_left; (· (simp only [Act.put, List.setIfInBounds_toArray, List.set_cons_zero, List.set_cons_succ, i64_w, i32_w]; rfl))
  refine take_ (i := 3) (N := some 25) (v := ?_) (a' := ?_) #[true, true, true, true, true, true, false, false] rfl rfl (take_ofW HT_.out HW_.out (by kernel_rfl)) (fun _ _ _ h => h) (Or.inl ⟨by rfl, ?_⟩) hHeld ?_ ?_; rotate_left; (· (rintro w' ⟨s0, s1, s2, s3⟩; go_simp; with_reducible rfl)); rotate_left; (· (simp only [Act.put, List.setIfInBounds_toArray, List.set_cons_zero, List.set_cons_succ, i64_w, i32_w]; rfl))
  refine pure_ (i := 6) (N := some 28) (v := ?_) (a' := ?_) #[true, true, true, true, true, true, true, false] rfl rfl (any_of HT_.out (by kernel_rfl)) (fun _ _ _ h => h) (Or.inl ⟨by rfl, ?_⟩) ?_ ?_; rotate_left; (· (intro w'; go_simp; with_reducible rfl)); rotate_left; (· (simp only [Act.put, List.setIfInBounds_toArray, List.set_cons_zero, List.set_cons_succ, i64_w, i32_w]; rfl))
  -- ONE 7
  refine last_ (i := 7) (N := none) #[true, true, true, true, true, true, true, true] rfl rfl (one_of HT_.out (by kernel_rfl)) (by decide) (fun K hK => ?_)
  refine skip_ (w1 := ?_) (by rfl) rfl ?_ ?_
  rotate_left
  · go_simp
    rfl
  refine hK.out _ _ ?_
  clear hK K
  refine done_ (done_of HT_.out (by kernel_rfl)) ?_
  have n0_ := Aside0.mk (blk_drew (arrN_put (arrN_put (arrN_put (arrN_put BKg.out (36 + t.toNat * 4) 1) (36 + t.toNat * 4 + 1) t) (36 + t.toNat * 4 + 2) at_) (36 + t.toNat * 4 + 3) due))
  have n1_ := Aside0.mk (((((HB.out.setCell (p := ⟨g, 36 + t.toNat * 4, none⟩) hbg (.int .i64 1)).setCell (p := ⟨g, 36 + t.toNat * 4 + 1, none⟩) hbg (.int .i64 t)).setCell (p := ⟨g, 36 + t.toNat * 4 + 2, none⟩) hbg (.int .i64 at_)).setCell (p := ⟨g, 36 + t.toNat * 4 + 3, none⟩) hbg (.int .i64 due)).drew)
  have n3_ : Aside0 (∀ j, j < w.heap.size → j ≠ g → (((((w4.setCell ⟨g, 36 + t.toNat * 4, none⟩ (.int .i64 1)).setCell ⟨g, 36 + t.toNat * 4 + 1, none⟩ (.int .i64 t)).setCell ⟨g, 36 + t.toNat * 4 + 2, none⟩ (.int .i64 at_)).setCell ⟨g, 36 + t.toNat * 4 + 3, none⟩ (.int .i64 due)).drew).heap[j]? = w.heap[j]?) := ⟨fun j hj hn => (Below.heap_setCell _ ⟨g, _, none⟩ _ j hn).trans ((Below.heap_setCell _ ⟨g, _, none⟩ _ j hn).trans ((Below.heap_setCell _ ⟨g, _, none⟩ _ j hn).trans ((Below.heap_setCell _ ⟨g, _, none⟩ _ j hn).trans (FA.out j hj hn))))⟩
  clear BKg BK1 HB FA r0 r1 r2 r3 f0 f1 f2 f3 hHeld HT_ HW_
  generalize ((((w4.setCell ⟨g, 36 + t.toNat * 4, none⟩ (.int .i64 1)).setCell ⟨g, 36 + t.toNat * 4 + 1, none⟩ (.int .i64 t)).setCell ⟨g, 36 + t.toNat * 4 + 2, none⟩ (.int .i64 at_)).setCell ⟨g, 36 + t.toNat * 4 + 3, none⟩ (.int .i64 due)).drew = w5 at n0_ n1_ n3_ ⊢
  try go_wp2
  refine bodyPost_ret (v := .tuple #[]) (results_list (rs := []) (vs := []) rfl (by decide) .nil) rfl ?_
  refine ⟨rfl, ?_, n1_.out, n3_.out⟩
  have n2_ := n0_.out
  rw [hu.out] at n2_
  simp only [evt, if_pos, h3]
  exact n2_
set_option maxHeartbeats 8000000 in
set_option maxRecDepth 100000 in
theorem event.calls2 (v : Nat → Int) (t at_ due : Int) (t0 : 0 ≤ t) (t1 : t < 6) (g base : Nat) (w : World) (hbg : base ≤ g) (hg : w.heap[g]? = some (.cells (arrN 60 v) 77 (0, 0))) :
    Calls Try.prog 33 #[.pointer (some ⟨g, 0, none⟩), .agg #[.int .i64 2, .int .i64 t, .int .i64 at_, .int .i64 due]] w fun e w' => e = .returned (.tuple #[]) ∧ w'.heap[g]? = some (.cells (arrN 60 (evt v 2 t.toNat at_ due)) 77 (0, 0)) ∧ Below base w w' ∧ (∀ j, j < w.heap.size → j ≠ g → w'.heap[j]? = w.heap[j]?) := by
  have hu63 := Try.underlying63
  have hu77 := Try.underlying77
  have hu50 := Try.underlying50
  have hu75 := Try.underlying75
  have hu49 := Try.underlying49
  have e0 := eq_true t0
  have e1 := eq_true t1
  have h3 : ((t.toNat : Nat) : Int) = t := by omega
  go_enter Try.func33, Try.ntmps33
  go_upto_region 1 with (first | ((with_reducible refine gate_dst (N := 3) rfl ?_); refine box_event ?hg (N := 3) ?hd (cs := #[.int .i64 2, .int .i64 t, .int .i64 at_, .int .i64 due]) (t := 63) ?hr ?_; (case hd => rfl); (case hg => rfl); (case hr => first | (go_simp; done) | (go_simp; rfl)); intro gb1 hg1 w2 hbox hb))
  have BKg := Aside0.mk (blk_below (g := g) (o := .cells (arrN 60 v) 77 (0, 0)) hg hb)
  have BK1 := Aside0.mk hbox
  have hne : g ≠ gb1 := by have := blk_lt hg; omega
  have hne' : gb1 ≠ g := hne.symm
  have HB : Aside0 (Below base w w2) := ⟨hb.mono (by have := blk_lt hg; omega)⟩
  have FA : Aside0 (∀ j, j < w.heap.size → j ≠ g → w2.heap[j]? = w.heap[j]?) := ⟨fun j hj _ => hb.block j hj⟩
  clear hb hbox hg1 hg
  refine start_ (n := 7) (S := fun w' => w'.cell? ⟨gb1, 1, none⟩ = some (.int .i64 t)) (ds := []) #[false, false, false, false, false, false, false] (by kernel_rfl) rfl rfl ((blk_cell (blk_drew BK1.out) 1).trans rfl) (fun hHeld => ?_); refine with_tabW event.tab1 event.bits1 (fun HT_ HW_ => ?_)
  refine pure_ (i := 0) (N := some 5) (v := ?_) (a' := ?_) #[true, false, false, false, false, false, false] rfl rfl (any_of HT_.out (by kernel_rfl)) (fun _ _ _ h => h) (Or.inl ⟨by rfl, ?_⟩) ?_ ?_; rotate_left; (· (intro w'; go_simp; with_reducible rfl)); rotate_left; (· (simp only [Act.put, List.setIfInBounds_toArray, List.set_cons_zero, List.set_cons_succ, i64_w, i32_w]; rfl))
  refine pure_ (i := 1) (N := some 6) (v := ?_) (a' := ?_) #[true, true, false, false, false, false, false] rfl rfl (any_of HT_.out (by kernel_rfl)) (fun _ _ _ h => h) (Or.inl ⟨by rfl, ?_⟩) ?_ ?_; rotate_left; (· (intro w'; go_simp; with_reducible rfl)); rotate_left; (· (simp only [Act.put, List.setIfInBounds_toArray, List.set_cons_zero, List.set_cons_succ, i64_w, i32_w]; rfl))
  refine pure_ (i := 3) (N := some 8) (v := ?_) (a' := ?_) #[true, true, false, true, false, false, false] rfl rfl (any_of HT_.out (by kernel_rfl)) (fun _ _ _ h => h) (Or.inl ⟨by rfl, ?_⟩) ?_ ?_; rotate_left; (· (intro w'; go_simp; with_reducible rfl)); rotate_left; (· (simp only [Act.put, List.setIfInBounds_toArray, List.set_cons_zero, List.set_cons_succ, i64_w, i32_w]; rfl))
  refine pure_ (i := 4) (N := some 9) (v := ?_) (a' := ?_) #[true, true, false, true, true, false, false] rfl rfl (any_of HT_.out (by kernel_rfl)) (fun _ _ _ h => h) (Or.inl ⟨by rfl, ?_⟩) ?_ ?_; rotate_left; (· (intro w'; go_simp; with_reducible rfl)); rotate_left; (· (simp only [Act.put, List.setIfInBounds_toArray, List.set_cons_zero, List.set_cons_succ, i64_w, i32_w]; rfl))
  refine take_ (i := 2) (N := some 7) (v := ?_) (a' := ?_) #[true, true, true, true, true, false, false] rfl rfl (take_ofW HT_.out HW_.out (by kernel_rfl)) (fun _ _ _ h => h) (Or.inl ⟨by rfl, ?_⟩) hHeld ?_ ?_; rotate_left; (· (rintro w' s0; go_simp; with_reducible rfl)); rotate_left; (· (simp only [Act.put, List.setIfInBounds_toArray, List.set_cons_zero, List.set_cons_succ, i64_w, i32_w]; rfl))
  refine pure_ (i := 5) (N := some 10) (v := ?_) (a' := ?_) #[true, true, true, true, true, true, false] rfl rfl (any_of HT_.out (by kernel_rfl)) (fun _ _ _ h => h) (Or.inl ⟨by rfl, ?_⟩) ?_ ?_; rotate_left; (· (intro w'; go_simp; with_reducible rfl)); rotate_left; (· (simp only [Act.put, List.setIfInBounds_toArray, List.set_cons_zero, List.set_cons_succ, i64_w, i32_w]; rfl))
  refine pure_ (i := 6) (N := some 4) (v := ?_) (a' := ?_) #[true, true, true, true, true, true, true] rfl rfl (any_of HT_.out (by kernel_rfl)) (fun _ _ _ h => h) (Or.inl ⟨by rfl, ?_⟩) ?_ ?_; rotate_left; (· (intro w'; go_simp; with_reducible rfl)); rotate_left; (· (simp only [Act.put, List.setIfInBounds_toArray, List.set_cons_zero, List.set_cons_succ, i64_w, i32_w]; rfl))
  refine done_ (done_of HT_.out (by kernel_rfl)) ?_
  have n0_ := Aside0.mk (blk_drew BKg.out); have n1_ := Aside0.mk (blk_drew BK1.out); have n2_ := Aside0.mk (below_drew1 HB.out); have n3_ : Aside0 (∀ j, j < w.heap.size → j ≠ g → w2.drew.heap[j]? = w.heap[j]?) := ⟨fun j hj hn => FA.out j hj hn⟩; clear BKg BK1 HB FA hHeld HT_ HW_; have BKg := n0_; have BK1 := n1_; have HB := n2_; have FA := n3_; clear n0_ n1_ n2_ n3_
  generalize w2.drew = w3 at BKg BK1 HB FA ⊢
  have q0 : w3.cell? ⟨gb1, 0, none⟩ = some (.int .i64 2) := (blk_cell BK1.out 0).trans rfl
  have q1 : w3.cell? ⟨g, t.toNat * 6 + 1, none⟩ = some (.int .i64 (v (t.toNat * 6 + 1))) := arrN_cell BKg.out _ (by omega)
  have q2 := blk_frozen BKg.out (t.toNat * 6 + 1)
  go_upto_region 10 with (fail)
  have n0_ := Aside0.mk (arrN_put BKg.out (t.toNat * 6 + 1) (wrap64 (v (t.toNat * 6 + 1) + 1))); have n1_ := Aside0.mk (blk_far BK1.out hne' (p := ⟨g, t.toNat * 6 + 1, none⟩) (.int .i64 (wrap64 (v (t.toNat * 6 + 1) + 1)))); have n2_ : Aside0 (Below base w (w3.setCell ⟨g, t.toNat * 6 + 1, none⟩ (.int .i64 (wrap64 (v (t.toNat * 6 + 1) + 1))))) := ⟨HB.out.setCell hbg _⟩; have n3_ : Aside0 (∀ j, j < w.heap.size → j ≠ g → (w3.setCell ⟨g, t.toNat * 6 + 1, none⟩ (.int .i64 (wrap64 (v (t.toNat * 6 + 1) + 1)))).heap[j]? = w.heap[j]?) := ⟨fun j hj hn => (Below.heap_setCell w3 ⟨g, t.toNat * 6 + 1, none⟩ _ j hn).trans (FA.out j hj hn)⟩; clear BKg BK1 HB FA q0 q1 q2; have BKg := n0_; have BK1 := n1_; have HB := n2_; have FA := n3_; clear n0_ n1_ n2_ n3_
  generalize (w3.setCell ⟨g, t.toNat * 6 + 1, none⟩ (.int .i64 (wrap64 (v (t.toNat * 6 + 1) + 1)))) = w4 at BKg BK1 HB FA ⊢
  obtain ⟨u, hu⟩ : ∃ u, Aside0 (u = upd v (t.toNat * 6 + 1) (wrap64 (v (t.toNat * 6 + 1) + 1))) := ⟨_, ⟨rfl⟩⟩
  rw [← hu.out] at BKg
  have r0 : w4.cell? ⟨g, t.toNat * 6, none⟩ = some (.int .i64 (u (t.toNat * 6))) := arrN_cell BKg.out _ (by omega)
  by_cases hpos : u (t.toNat * 6) > 0
  case neg =>
    have p1 : decide (0 < u (t.toNat * 6)) = false := decide_eq_false hpos
    go_wp2
    refine bodyPost_end (v := .tuple #[]) (results_list (rs := []) (vs := []) rfl (by decide) .nil) rfl ?_
    refine ⟨rfl, ?_, HB.out, FA.out⟩
    have e : evt v 2 t.toNat at_ due = u := by unfold evt; rw [if_neg (by omega), if_pos rfl]; unfold lng; rw [← hu.out, if_neg (show ¬ u (t.toNat * 6) > 0 by omega)]
    rw [e]; exact BKg.out
  have p1 : decide (0 < u (t.toNat * 6)) = true := decide_eq_true hpos
  go_upto_region 11 with (fail)
  clear r0
  have r0 : w4.cell? ⟨g, t.toNat * 6 + 5, none⟩ = some (.int .i64 (u (t.toNat * 6 + 5))) := arrN_cell BKg.out _ (by omega)
  have f0 := blk_frozen BKg.out (t.toNat * 6 + 5)
  refine start_ (n := 20) (S := fun w' => w'.cell? ⟨g, t.toNat * 6 + 5, none⟩ = some (.int .i64 (u (t.toNat * 6 + 5))) ∧ w'.cell? ⟨gb1, 2, none⟩ = some (.int .i64 at_) ∧ w'.cell? ⟨gb1, 1, none⟩ = some (.int .i64 t) ∧ w'.cell? ⟨g, 36 + t.toNat * 4 + 2, none⟩ = some (.int .i64 (u (36 + t.toNat * 4 + 2)))) (ds := [19]) #[false, false, false, false, false, false, false, false, false, false, false, false, false, false, false, false, false, false, false, false] (by kernel_rfl) rfl rfl ⟨arrN_cell (blk_drew BKg.out) _ (by omega), (blk_cell (blk_drew BK1.out) 2).trans rfl, (blk_cell (blk_drew BK1.out) 1).trans rfl, arrN_cell (blk_drew BKg.out) _ (by omega)⟩ (fun hHeld => ?_); refine with_tabW event.tab11 event.bits11 (fun HT_ HW_ => ?_)
  refine pure_ (i := 0) (N := some 52) (v := ?_) (a' := ?_) #[true, false, false, false, false, false, false, false, false, false, false, false, false, false, false, false, false, false, false, false] rfl rfl (any_of HT_.out (by kernel_rfl)) (fun _ _ _ h => h) (Or.inl ⟨by rfl, ?_⟩) ?_ ?_; rotate_left; (· (intro w'; go_simp; with_reducible rfl)); rotate_left; (· (simp only [Act.put, List.setIfInBounds_toArray, List.set_cons_zero, List.set_cons_succ, i64_w, i32_w]; rfl))
  refine pure_ (i := 1) (N := some 53) (v := ?_) (a' := ?_) #[true, true, false, false, false, false, false, false, false, false, false, false, false, false, false, false, false, false, false, false] rfl rfl (any_of HT_.out (by kernel_rfl)) (fun _ _ _ h => h) (Or.inl ⟨by rfl, ?_⟩) ?_ ?_; rotate_left; (· (intro w'; go_simp; with_reducible rfl)); rotate_left; (· (simp only [Act.put, List.setIfInBounds_toArray, List.set_cons_zero, List.set_cons_succ, i64_w, i32_w]; rfl))
  refine pure_ (i := 2) (N := some 54) (v := ?_) (a' := ?_) #[true, true, true, false, false, false, false, false, false, false, false, false, false, false, false, false, false, false, false, false] rfl rfl (any_of HT_.out (by kernel_rfl)) (fun _ _ _ h => h) (Or.inl ⟨by rfl, ?_⟩) ?_ ?_; rotate_left; (· (intro w'; go_simp; with_reducible rfl)); rotate_left; (· (simp only [Act.put, List.setIfInBounds_toArray, List.set_cons_zero, List.set_cons_succ, i64_w, i32_w]; rfl))
  refine pure_ (i := 3) (N := some 55) (v := ?_) (a' := ?_) #[true, true, true, true, false, false, false, false, false, false, false, false, false, false, false, false, false, false, false, false] rfl rfl (any_of HT_.out (by kernel_rfl)) (fun _ _ _ h => h) (Or.inl ⟨by rfl, ?_⟩) ?_ ?_; rotate_left; (· (intro w'; go_simp; with_reducible rfl)); rotate_left; (· (simp only [Act.put, List.setIfInBounds_toArray, List.set_cons_zero, List.set_cons_succ, i64_w, i32_w]; rfl))
  refine pure_ (i := 5) (N := some 57) (v := ?_) (a' := ?_) #[true, true, true, true, false, true, false, false, false, false, false, false, false, false, false, false, false, false, false, false] rfl rfl (any_of HT_.out (by kernel_rfl)) (fun _ _ _ h => h) (Or.inl ⟨by rfl, ?_⟩) ?_ ?_; rotate_left; (· (intro w'; go_simp; with_reducible rfl)); rotate_left; (· (simp only [Act.put, List.setIfInBounds_toArray, List.set_cons_zero, List.set_cons_succ, i64_w, i32_w]; rfl))
  refine pure_ (i := 7) (N := some 59) (v := ?_) (a' := ?_) #[true, true, true, true, false, true, false, true, false, false, false, false, false, false, false, false, false, false, false, false] rfl rfl (any_of HT_.out (by kernel_rfl)) (fun _ _ _ h => h) (Or.inl ⟨by rfl, ?_⟩) ?_ ?_; rotate_left; (· (intro w'; go_simp; with_reducible rfl)); rotate_left; (· (simp only [Act.put, List.setIfInBounds_toArray, List.set_cons_zero, List.set_cons_succ, i64_w, i32_w]; rfl))
  refine pure_ (i := 8) (N := some 60) (v := ?_) (a' := ?_) #[true, true, true, true, false, true, false, true, true, false, false, false, false, false, false, false, false, false, false, false] rfl rfl (any_of HT_.out (by kernel_rfl)) (fun _ _ _ h => h) (Or.inl ⟨by rfl, ?_⟩) ?_ ?_; rotate_left; (· (intro w'; go_simp; with_reducible rfl)); rotate_left; (· (simp only [Act.put, List.setIfInBounds_toArray, List.set_cons_zero, List.set_cons_succ, i64_w, i32_w]; rfl))
  refine pure_ (i := 10) (N := some 62) (v := ?_) (a' := ?_) #[true, true, true, true, false, true, false, true, true, false, true, false, false, false, false, false, false, false, false, false] rfl rfl (any_of HT_.out (by kernel_rfl)) (fun _ _ _ h => h) (Or.inl ⟨by rfl, ?_⟩) ?_ ?_; rotate_left; (· (intro w'; go_simp; with_reducible rfl)); rotate_left; (· (simp only [Act.put, List.setIfInBounds_toArray, List.set_cons_zero, List.set_cons_succ, i64_w, i32_w]; rfl))
  refine pure_ (i := 11) (N := some 63) (v := ?_) (a' := ?_) #[true, true, true, true, false, true, false, true, true, false, true, true, false, false, false, false, false, false, false, false] rfl rfl (any_of HT_.out (by kernel_rfl)) (fun _ _ _ h => h) (Or.inl ⟨by rfl, ?_⟩) ?_ ?_; rotate_left; (· (intro w'; go_simp; with_reducible rfl)); rotate_left; (· (simp only [Act.put, List.setIfInBounds_toArray, List.set_cons_zero, List.set_cons_succ, i64_w, i32_w]; rfl))
  refine take_ (i := 4) (N := some 56) (v := ?_) (a' := ?_) #[true, true, true, true, true, true, false, true, true, false, true, true, false, false, false, false, false, false, false, false] rfl rfl (take_ofW HT_.out HW_.out (by kernel_rfl)) (fun _ _ _ h => h) (Or.inl ⟨by rfl, ?_⟩) hHeld ?_ ?_; rotate_left; (· (rintro w' ⟨s0, s1, s2, s3⟩; go_simp; with_reducible rfl)); rotate_left; (· (simp only [Act.put, List.setIfInBounds_toArray, List.set_cons_zero, List.set_cons_succ, i64_w, i32_w]; rfl))
  refine take_ (i := 6) (N := some 58) (v := ?_) (a' := ?_) #[true, true, true, true, true, true, true, true, true, false, true, true, false, false, false, false, false, false, false, false] rfl rfl (take_ofW HT_.out HW_.out (by kernel_rfl)) (fun _ _ _ h => h) (Or.inl ⟨by rfl, ?_⟩) hHeld ?_ ?_; rotate_left; (· (rintro w' ⟨s0, s1, s2, s3⟩; go_simp; with_reducible rfl)); rotate_left; (· (simp only [Act.put, List.setIfInBounds_toArray, List.set_cons_zero, List.set_cons_succ, i64_w, i32_w]; rfl))
  refine take_ (i := 9) (N := some 61) (v := ?_) (a' := ?_) #[true, true, true, true, true, true, true, true, true, true, true, true, false, false, false, false, false, false, false, false] rfl rfl (take_ofW HT_.out HW_.out (by kernel_rfl)) (fun _ _ _ h => h) (Or.inl ⟨by rfl, ?_⟩) hHeld ?_ ?_; rotate_left; (· (rintro w' ⟨s0, s1, s2, s3⟩; go_simp; with_reducible rfl)); rotate_left; (· (simp only [Act.put, List.setIfInBounds_toArray, List.set_cons_zero, List.set_cons_succ, i64_w, i32_w]; rfl))
  refine pure_ (i := 12) (N := some 64) (v := ?_) (a' := ?_) #[true, true, true, true, true, true, true, true, true, true, true, true, true, false, false, false, false, false, false, false] rfl rfl (any_of HT_.out (by kernel_rfl)) (fun _ _ _ h => h) (Or.inl ⟨by rfl, ?_⟩) ?_ ?_; rotate_left; (· (intro w'; go_simp; with_reducible rfl)); rotate_left; (· (simp only [Act.put, List.setIfInBounds_toArray, List.set_cons_zero, List.set_cons_succ, i64_w, i32_w]; rfl))
  refine pure_ (i := 13) (N := some 65) (v := ?_) (a' := ?_) #[true, true, true, true, true, true, true, true, true, true, true, true, true, true, false, false, false, false, false, false] rfl rfl (any_of HT_.out (by kernel_rfl)) (fun _ _ _ h => h) (Or.inl ⟨by rfl, ?_⟩) ?_ ?_; rotate_left; (· (intro w'; go_simp; with_reducible rfl)); rotate_left; (· (simp only [Act.put, List.setIfInBounds_toArray, List.set_cons_zero, List.set_cons_succ, i64_w, i32_w]; rfl))
  refine take_ (i := 14) (N := some 66) (v := ?_) (a' := ?_) #[true, true, true, true, true, true, true, true, true, true, true, true, true, true, true, false, false, false, false, false] rfl rfl (take_ofW HT_.out HW_.out (by kernel_rfl)) (fun _ _ _ h => h) (Or.inl ⟨by rfl, ?_⟩) hHeld ?_ ?_; rotate_left; (· (rintro w' ⟨s0, s1, s2, s3⟩; go_simp; with_reducible rfl)); rotate_left; (· (simp only [Act.put, List.setIfInBounds_toArray, List.set_cons_zero, List.set_cons_succ, i64_w, i32_w]; rfl))
  refine pure_ (i := 15) (N := some 67) (v := ?_) (a' := ?_) #[true, true, true, true, true, true, true, true, true, true, true, true, true, true, true, true, false, false, false, false] rfl rfl (any_of HT_.out (by kernel_rfl)) (fun _ _ _ h => h) (Or.inl ⟨by rfl, ?_⟩) ?_ ?_; rotate_left; (· (intro w'; go_simp; with_reducible rfl)); rotate_left; (· (simp only [Act.put, List.setIfInBounds_toArray, List.set_cons_zero, List.set_cons_succ, i64_w, i32_w]; rfl))
  -- ONE 16
  refine pure_ (i := 16) (N := some 68) (v := ?_) (a' := ?_) #[true, true, true, true, true, true, true, true, true, true, true, true, true, true, true, true, true, false, false, false] rfl rfl (any_of HT_.out (by kernel_rfl)) (fun _ _ _ h => h) (Or.inl ⟨by rfl, ?_⟩) ?_ ?_; rotate_left; (· (intro w'; go_simp; with_reducible rfl)); rotate_left; (· (simp only [Act.put, List.setIfInBounds_toArray, List.set_cons_zero, List.set_cons_succ, i64_w, i32_w]; rfl))
  refine pure_ (i := 17) (N := some 69) (v := ?_) (a' := ?_) #[true, true, true, true, true, true, true, true, true, true, true, true, true, true, true, true, true, true, false, false] rfl rfl (any_of HT_.out (by kernel_rfl)) (fun _ _ _ h => h) (Or.inl ⟨by rfl, ?_⟩) ?_ ?_; rotate_left; (· (intro w'; go_simp; with_reducible rfl)); rotate_left; (· (simp only [Act.put, List.setIfInBounds_toArray, List.set_cons_zero, List.set_cons_succ, i64_w, i32_w]; rfl))
  refine pure_ (i := 18) (N := some 70) (v := ?_) (a' := ?_) #[true, true, true, true, true, true, true, true, true, true, true, true, true, true, true, true, true, true, true, false] rfl rfl (any_of HT_.out (by kernel_rfl)) (fun _ _ _ h => h) (Or.inl ⟨by rfl, ?_⟩) ?_ ?_; rotate_left; (· (intro w'; go_simp; with_reducible rfl)); rotate_left; (· (simp only [Act.put, List.setIfInBounds_toArray, List.set_cons_zero, List.set_cons_succ, i64_w, i32_w]; rfl))
  -- ONE 19
  refine last_ (i := 19) (N := none) #[true, true, true, true, true, true, true, true, true, true, true, true, true, true, true, true, true, true, true, true] rfl rfl (one_of HT_.out (by kernel_rfl)) (by decide) (fun K hK => ?_)
  refine skip_ (w1 := ?_) (by rfl) rfl ?_ ?_
  rotate_left
  · go_simp
    rfl
  refine hK.out _ _ ?_
  clear hK K
  refine done_ (done_of HT_.out (by kernel_rfl)) ?_
  have n0_ := Aside0.mk (blk_drew (arrN_put BKg.out (t.toNat * 6 + 5) (gr (u (t.toNat * 6 + 5)) (wrap64 (at_ - u (36 + t.toNat * 4 + 2))))))
  have n1_ := Aside0.mk ((HB.out.setCell (p := ⟨g, t.toNat * 6 + 5, none⟩) hbg (.int .i64 (gr (u (t.toNat * 6 + 5)) (wrap64 (at_ - u (36 + t.toNat * 4 + 2)))))).drew)
  have n3_ : Aside0 (∀ j, j < w.heap.size → j ≠ g → ((w4.setCell ⟨g, t.toNat * 6 + 5, none⟩ (.int .i64 (gr (u (t.toNat * 6 + 5)) (wrap64 (at_ - u (36 + t.toNat * 4 + 2)))))).drew).heap[j]? = w.heap[j]?) := ⟨fun j hj hn => (Below.heap_setCell _ ⟨g, _, none⟩ _ j hn).trans (FA.out j hj hn)⟩
  clear BKg BK1 HB FA r0 f0 hHeld HT_ HW_
  generalize (w4.setCell ⟨g, t.toNat * 6 + 5, none⟩ (.int .i64 (gr (u (t.toNat * 6 + 5)) (wrap64 (at_ - u (36 + t.toNat * 4 + 2)))))).drew = w5 at n0_ n1_ n3_ ⊢
  try go_wp2
  refine bodyPost_end (v := .tuple #[]) (results_list (rs := []) (vs := []) rfl (by decide) .nil) rfl ?_
  refine ⟨rfl, ?_, n1_.out, n3_.out⟩
  have e : evt v 2 t.toNat at_ due = upd u (t.toNat * 6 + 5) (gr (u (t.toNat * 6 + 5)) (wrap64 (at_ - u (36 + t.toNat * 4 + 2)))) := by unfold evt; rw [if_neg (by omega), if_pos rfl]; unfold lng; rw [← hu.out, if_pos (show u (t.toNat * 6) > 0 by omega)]
  rw [e]; exact n0_.out
set_option maxHeartbeats 8000000 in
set_option maxRecDepth 100000 in
theorem event.calls3 (v : Nat → Int) (t at_ due : Int) (t0 : 0 ≤ t) (t1 : t < 6) (g base : Nat) (w : World) (hbg : base ≤ g) (hg : w.heap[g]? = some (.cells (arrN 60 v) 77 (0, 0))) :
    Calls Try.prog 33 #[.pointer (some ⟨g, 0, none⟩), .agg #[.int .i64 3, .int .i64 t, .int .i64 at_, .int .i64 due]] w fun e w' => e = .returned (.tuple #[]) ∧ w'.heap[g]? = some (.cells (arrN 60 (evt v 3 t.toNat at_ due)) 77 (0, 0)) ∧ Below base w w' ∧ (∀ j, j < w.heap.size → j ≠ g → w'.heap[j]? = w.heap[j]?) := by
  have hu63 := Try.underlying63
  have hu77 := Try.underlying77
  have hu50 := Try.underlying50
  have hu75 := Try.underlying75
  have hu49 := Try.underlying49
  have e0 := eq_true t0
  have e1 := eq_true t1
  have h3 : ((t.toNat : Nat) : Int) = t := by omega
  go_enter Try.func33, Try.ntmps33
  go_upto_region 1 with (first | ((with_reducible refine gate_dst (N := 3) rfl ?_); refine box_event ?hg (N := 3) ?hd (cs := #[.int .i64 3, .int .i64 t, .int .i64 at_, .int .i64 due]) (t := 63) ?hr ?_; (case hd => rfl); (case hg => rfl); (case hr => first | (go_simp; done) | (go_simp; rfl)); intro gb1 hg1 w2 hbox hb))
  have BKg := Aside0.mk (blk_below (g := g) (o := .cells (arrN 60 v) 77 (0, 0)) hg hb)
  have BK1 := Aside0.mk hbox
  have hne : g ≠ gb1 := by have := blk_lt hg; omega
  have hne' : gb1 ≠ g := hne.symm
  have HB : Aside0 (Below base w w2) := ⟨hb.mono (by have := blk_lt hg; omega)⟩
  have FA : Aside0 (∀ j, j < w.heap.size → j ≠ g → w2.heap[j]? = w.heap[j]?) := ⟨fun j hj _ => hb.block j hj⟩
  clear hb hbox hg1 hg
  refine start_ (n := 7) (S := fun w' => w'.cell? ⟨gb1, 1, none⟩ = some (.int .i64 t)) (ds := []) #[false, false, false, false, false, false, false] (by kernel_rfl) rfl rfl ((blk_cell (blk_drew BK1.out) 1).trans rfl) (fun hHeld => ?_); refine with_tabW event.tab1 event.bits1 (fun HT_ HW_ => ?_)
  refine pure_ (i := 0) (N := some 5) (v := ?_) (a' := ?_) #[true, false, false, false, false, false, false] rfl rfl (any_of HT_.out (by kernel_rfl)) (fun _ _ _ h => h) (Or.inl ⟨by rfl, ?_⟩) ?_ ?_; rotate_left; (· (intro w'; go_simp; with_reducible rfl)); rotate_left; (· (simp only [Act.put, List.setIfInBounds_toArray, List.set_cons_zero, List.set_cons_succ, i64_w, i32_w]; rfl))
  refine pure_ (i := 1) (N := some 6) (v := ?_) (a' := ?_) #[true, true, false, false, false, false, false] rfl rfl (any_of HT_.out (by kernel_rfl)) (fun _ _ _ h => h) (Or.inl ⟨by rfl, ?_⟩) ?_ ?_; rotate_left; (· (intro w'; go_simp; with_reducible rfl)); rotate_left; (· (simp only [Act.put, List.setIfInBounds_toArray, List.set_cons_zero, List.set_cons_succ, i64_w, i32_w]; rfl))
  refine pure_ (i := 3) (N := some 8) (v := ?_) (a' := ?_) #[true, true, false, true, false, false, false] rfl rfl (any_of HT_.out (by kernel_rfl)) (fun _ _ _ h => h) (Or.inl ⟨by rfl, ?_⟩) ?_ ?_; rotate_left; (· (intro w'; go_simp; with_reducible rfl)); rotate_left; (· (simp only [Act.put, List.setIfInBounds_toArray, List.set_cons_zero, List.set_cons_succ, i64_w, i32_w]; rfl))
  refine pure_ (i := 4) (N := some 9) (v := ?_) (a' := ?_) #[true, true, false, true, true, false, false] rfl rfl (any_of HT_.out (by kernel_rfl)) (fun _ _ _ h => h) (Or.inl ⟨by rfl, ?_⟩) ?_ ?_; rotate_left; (· (intro w'; go_simp; with_reducible rfl)); rotate_left; (· (simp only [Act.put, List.setIfInBounds_toArray, List.set_cons_zero, List.set_cons_succ, i64_w, i32_w]; rfl))
  refine take_ (i := 2) (N := some 7) (v := ?_) (a' := ?_) #[true, true, true, true, true, false, false] rfl rfl (take_ofW HT_.out HW_.out (by kernel_rfl)) (fun _ _ _ h => h) (Or.inl ⟨by rfl, ?_⟩) hHeld ?_ ?_; rotate_left; (· (rintro w' s0; go_simp; with_reducible rfl)); rotate_left; (· (simp only [Act.put, List.setIfInBounds_toArray, List.set_cons_zero, List.set_cons_succ, i64_w, i32_w]; rfl))
  refine pure_ (i := 5) (N := some 10) (v := ?_) (a' := ?_) #[true, true, true, true, true, true, false] rfl rfl (any_of HT_.out (by kernel_rfl)) (fun _ _ _ h => h) (Or.inl ⟨by rfl, ?_⟩) ?_ ?_; rotate_left; (· (intro w'; go_simp; with_reducible rfl)); rotate_left; (· (simp only [Act.put, List.setIfInBounds_toArray, List.set_cons_zero, List.set_cons_succ, i64_w, i32_w]; rfl))
  refine pure_ (i := 6) (N := some 4) (v := ?_) (a' := ?_) #[true, true, true, true, true, true, true] rfl rfl (any_of HT_.out (by kernel_rfl)) (fun _ _ _ h => h) (Or.inl ⟨by rfl, ?_⟩) ?_ ?_; rotate_left; (· (intro w'; go_simp; with_reducible rfl)); rotate_left; (· (simp only [Act.put, List.setIfInBounds_toArray, List.set_cons_zero, List.set_cons_succ, i64_w, i32_w]; rfl))
  refine done_ (done_of HT_.out (by kernel_rfl)) ?_
  have n0_ := Aside0.mk (blk_drew BKg.out); have n1_ := Aside0.mk (blk_drew BK1.out); have n2_ := Aside0.mk (below_drew1 HB.out); have n3_ : Aside0 (∀ j, j < w.heap.size → j ≠ g → w2.drew.heap[j]? = w.heap[j]?) := ⟨fun j hj hn => FA.out j hj hn⟩; clear BKg BK1 HB FA hHeld HT_ HW_; have BKg := n0_; have BK1 := n1_; have HB := n2_; have FA := n3_; clear n0_ n1_ n2_ n3_
  generalize w2.drew = w3 at BKg BK1 HB FA ⊢
  have q0 : w3.cell? ⟨gb1, 0, none⟩ = some (.int .i64 3) := (blk_cell BK1.out 0).trans rfl
  have q1 : w3.cell? ⟨g, t.toNat * 6 + 2, none⟩ = some (.int .i64 (v (t.toNat * 6 + 2))) := arrN_cell BKg.out _ (by omega)
  have q2 := blk_frozen BKg.out (t.toNat * 6 + 2)
  go_upto_region 10 with (fail)
  have n0_ := Aside0.mk (arrN_put BKg.out (t.toNat * 6 + 2) (wrap64 (v (t.toNat * 6 + 2) + 1))); have n1_ := Aside0.mk (blk_far BK1.out hne' (p := ⟨g, t.toNat * 6 + 2, none⟩) (.int .i64 (wrap64 (v (t.toNat * 6 + 2) + 1)))); have n2_ : Aside0 (Below base w (w3.setCell ⟨g, t.toNat * 6 + 2, none⟩ (.int .i64 (wrap64 (v (t.toNat * 6 + 2) + 1))))) := ⟨HB.out.setCell hbg _⟩; have n3_ : Aside0 (∀ j, j < w.heap.size → j ≠ g → (w3.setCell ⟨g, t.toNat * 6 + 2, none⟩ (.int .i64 (wrap64 (v (t.toNat * 6 + 2) + 1)))).heap[j]? = w.heap[j]?) := ⟨fun j hj hn => (Below.heap_setCell w3 ⟨g, t.toNat * 6 + 2, none⟩ _ j hn).trans (FA.out j hj hn)⟩; clear BKg BK1 HB FA q0 q1 q2; have BKg := n0_; have BK1 := n1_; have HB := n2_; have FA := n3_; clear n0_ n1_ n2_ n3_
  generalize (w3.setCell ⟨g, t.toNat * 6 + 2, none⟩ (.int .i64 (wrap64 (v (t.toNat * 6 + 2) + 1)))) = w4 at BKg BK1 HB FA ⊢
  obtain ⟨u, hu⟩ : ∃ u, Aside0 (u = upd v (t.toNat * 6 + 2) (wrap64 (v (t.toNat * 6 + 2) + 1))) := ⟨_, ⟨rfl⟩⟩
  rw [← hu.out] at BKg
  have r0 : w4.cell? ⟨g, t.toNat * 6, none⟩ = some (.int .i64 (u (t.toNat * 6))) := arrN_cell BKg.out _ (by omega)
  by_cases hpos : u (t.toNat * 6) > 0
  case neg =>
    have p1 : decide (0 < u (t.toNat * 6)) = false := decide_eq_false hpos
    go_wp2
    refine bodyPost_end (v := .tuple #[]) (results_list (rs := []) (vs := []) rfl (by decide) .nil) rfl ?_
    refine ⟨rfl, ?_, HB.out, FA.out⟩
    have e : evt v 3 t.toNat at_ due = u := by unfold evt; rw [if_neg (by omega), if_neg (by omega), if_pos rfl]; unfold lng; rw [← hu.out, if_neg (show ¬ u (t.toNat * 6) > 0 by omega)]
    rw [e]; exact BKg.out
  have p1 : decide (0 < u (t.toNat * 6)) = true := decide_eq_true hpos
  go_upto_region 11 with (fail)
  clear r0
  have r0 : w4.cell? ⟨g, t.toNat * 6 + 5, none⟩ = some (.int .i64 (u (t.toNat * 6 + 5))) := arrN_cell BKg.out _ (by omega)
  have f0 := blk_frozen BKg.out (t.toNat * 6 + 5)
  refine start_ (n := 20) (S := fun w' => w'.cell? ⟨g, t.toNat * 6 + 5, none⟩ = some (.int .i64 (u (t.toNat * 6 + 5))) ∧ w'.cell? ⟨gb1, 2, none⟩ = some (.int .i64 at_) ∧ w'.cell? ⟨gb1, 1, none⟩ = some (.int .i64 t) ∧ w'.cell? ⟨g, 36 + t.toNat * 4 + 2, none⟩ = some (.int .i64 (u (36 + t.toNat * 4 + 2)))) (ds := [19]) #[false, false, false, false, false, false, false, false, false, false, false, false, false, false, false, false, false, false, false, false] (by kernel_rfl) rfl rfl ⟨arrN_cell (blk_drew BKg.out) _ (by omega), (blk_cell (blk_drew BK1.out) 2).trans rfl, (blk_cell (blk_drew BK1.out) 1).trans rfl, arrN_cell (blk_drew BKg.out) _ (by omega)⟩ (fun hHeld => ?_); refine with_tabW event.tab11 event.bits11 (fun HT_ HW_ => ?_)
  refine pure_ (i := 0) (N := some 52) (v := ?_) (a' := ?_) #[true, false, false, false, false, false, false, false, false, false, false, false, false, false, false, false, false, false, false, false] rfl rfl (any_of HT_.out (by kernel_rfl)) (fun _ _ _ h => h) (Or.inl ⟨by rfl, ?_⟩) ?_ ?_; rotate_left; (· (intro w'; go_simp; with_reducible rfl)); rotate_left; (· (simp only [Act.put, List.setIfInBounds_toArray, List.set_cons_zero, List.set_cons_succ, i64_w, i32_w]; rfl))
  refine pure_ (i := 1) (N := some 53) (v := ?_) (a' := ?_) #[true, true, false, false, false, false, false, false, false, false, false, false, false, false, false, false, false, false, false, false] rfl rfl (any_of HT_.out (by kernel_rfl)) (fun _ _ _ h => h) (Or.inl ⟨by rfl, ?_⟩) ?_ ?_; rotate_left; (· (intro w'; go_simp; with_reducible rfl)); rotate_left; (· (simp only [Act.put, List.setIfInBounds_toArray, List.set_cons_zero, List.set_cons_succ, i64_w, i32_w]; rfl))
  refine pure_ (i := 2) (N := some 54) (v := ?_) (a' := ?_) #[true, true, true, false, false, false, false, false, false, false, false, false, false, false, false, false, false, false, false, false] rfl rfl (any_of HT_.out (by kernel_rfl)) (fun _ _ _ h => h) (Or.inl ⟨by rfl, ?_⟩) ?_ ?_; rotate_left; (· (intro w'; go_simp; with_reducible rfl)); rotate_left; (· (simp only [Act.put, List.setIfInBounds_toArray, List.set_cons_zero, List.set_cons_succ, i64_w, i32_w]; rfl))
  refine pure_ (i := 3) (N := some 55) (v := ?_) (a' := ?_) #[true, true, true, true, false, false, false, false, false, false, false, false, false, false, false, false, false, false, false, false] rfl rfl (any_of HT_.out (by kernel_rfl)) (fun _ _ _ h => h) (Or.inl ⟨by rfl, ?_⟩) ?_ ?_; rotate_left; (· (intro w'; go_simp; with_reducible rfl)); rotate_left; (· (simp only [Act.put, List.setIfInBounds_toArray, List.set_cons_zero, List.set_cons_succ, i64_w, i32_w]; rfl))
  refine pure_ (i := 5) (N := some 57) (v := ?_) (a' := ?_) #[true, true, true, true, false, true, false, false, false, false, false, false, false, false, false, false, false, false, false, false] rfl rfl (any_of HT_.out (by kernel_rfl)) (fun _ _ _ h => h) (Or.inl ⟨by rfl, ?_⟩) ?_ ?_; rotate_left; (· (intro w'; go_simp; with_reducible rfl)); rotate_left; (· (simp only [Act.put, List.setIfInBounds_toArray, List.set_cons_zero, List.set_cons_succ, i64_w, i32_w]; rfl))
  refine pure_ (i := 7) (N := some 59) (v := ?_) (a' := ?_) #[true, true, true, true, false, true, false, true, false, false, false, false, false, false, false, false, false, false, false, false] rfl rfl (any_of HT_.out (by kernel_rfl)) (fun _ _ _ h => h) (Or.inl ⟨by rfl, ?_⟩) ?_ ?_; rotate_left; (· (intro w'; go_simp; with_reducible rfl)); rotate_left; (· (simp only [Act.put, List.setIfInBounds_toArray, List.set_cons_zero, List.set_cons_succ, i64_w, i32_w]; rfl))
  refine pure_ (i := 8) (N := some 60) (v := ?_) (a' := ?_) #[true, true, true, true, false, true, false, true, true, false, false, false, false, false, false, false, false, false, false, false] rfl rfl (any_of HT_.out (by kernel_rfl)) (fun _ _ _ h => h) (Or.inl ⟨by rfl, ?_⟩) ?_ ?_; rotate_left; (· (intro w'; go_simp; with_reducible rfl)); rotate_left; (· (simp only [Act.put, List.setIfInBounds_toArray, List.set_cons_zero, List.set_cons_succ, i64_w, i32_w]; rfl))
  refine pure_ (i := 10) (N := some 62) (v := ?_) (a' := ?_) #[true, true, true, true, false, true, false, true, true, false, true, false, false, false, false, false, false, false, false, false] rfl rfl (any_of HT_.out (by kernel_rfl)) (fun _ _ _ h => h) (Or.inl ⟨by rfl, ?_⟩) ?_ ?_; rotate_left; (· (intro w'; go_simp; with_reducible rfl)); rotate_left; (· (simp only [Act.put, List.setIfInBounds_toArray, List.set_cons_zero, List.set_cons_succ, i64_w, i32_w]; rfl))
  refine pure_ (i := 11) (N := some 63) (v := ?_) (a' := ?_) #[true, true, true, true, false, true, false, true, true, false, true, true, false, false, false, false, false, false, false, false] rfl rfl (any_of HT_.out (by kernel_rfl)) (fun _ _ _ h => h) (Or.inl ⟨by rfl, ?_⟩) ?_ ?_; rotate_left; (· (intro w'; go_simp; with_reducible rfl)); rotate_left; (· (simp only [Act.put, List.setIfInBounds_toArray, List.set_cons_zero, List.set_cons_succ, i64_w, i32_w]; rfl))
  refine take_ (i := 4) (N := some 56) (v := ?_) (a' := ?_) #[true, true, true, true, true, true, false, true, true, false, true, true, false, false, false, false, false, false, false, false] rfl rfl (take_ofW HT_.out HW_.out (by kernel_rfl)) (fun _ _ _ h => h) (Or.inl ⟨by rfl, ?_⟩) hHeld ?_ ?_; rotate_left; (· (rintro w' ⟨s0, s1, s2, s3⟩; go_simp; with_reducible rfl)); rotate_left; (· (simp only [Act.put, List.setIfInBounds_toArray, List.set_cons_zero, List.set_cons_succ, i64_w, i32_w]; rfl))
  refine take_ (i := 6) (N := some 58) (v := ?_) (a' := ?_) #[true, true, true, true, true, true, true, true, true, false, true, true, false, false, false, false, false, false, false, false] rfl rfl (take_ofW HT_.out HW_.out (by kernel_rfl)) (fun _ _ _ h => h) (Or.inl ⟨by rfl, ?_⟩) hHeld ?_ ?_; rotate_left; (· (rintro w' ⟨s0, s1, s2, s3⟩; go_simp; with_reducible rfl)); rotate_left; (· (simp only [Act.put, List.setIfInBounds_toArray, List.set_cons_zero, List.set_cons_succ, i64_w, i32_w]; rfl))
  refine take_ (i := 9) (N := some 61) (v := ?_) (a' := ?_) #[true, true, true, true, true, true, true, true, true, true, true, true, false, false, false, false, false, false, false, false] rfl rfl (take_ofW HT_.out HW_.out (by kernel_rfl)) (fun _ _ _ h => h) (Or.inl ⟨by rfl, ?_⟩) hHeld ?_ ?_; rotate_left; (· (rintro w' ⟨s0, s1, s2, s3⟩; go_simp; with_reducible rfl)); rotate_left; (· (simp only [Act.put, List.setIfInBounds_toArray, List.set_cons_zero, List.set_cons_succ, i64_w, i32_w]; rfl))
  refine pure_ (i := 12) (N := some 64) (v := ?_) (a' := ?_) #[true, true, true, true, true, true, true, true, true, true, true, true, true, false, false, false, false, false, false, false] rfl rfl (any_of HT_.out (by kernel_rfl)) (fun _ _ _ h => h) (Or.inl ⟨by rfl, ?_⟩) ?_ ?_; rotate_left; (· (intro w'; go_simp; with_reducible rfl)); rotate_left; (· (simp only [Act.put, List.setIfInBounds_toArray, List.set_cons_zero, List.set_cons_succ, i64_w, i32_w]; rfl))
  refine pure_ (i := 13) (N := some 65) (v := ?_) (a' := ?_) #[true, true, true, true, true, true, true, true, true, true, true, true, true, true, false, false, false, false, false, false] rfl rfl (any_of HT_.out (by kernel_rfl)) (fun _ _ _ h => h) (Or.inl ⟨by rfl, ?_⟩) ?_ ?_; rotate_left; (· (intro w'; go_simp; with_reducible rfl)); rotate_left; (· (simp only [Act.put, List.setIfInBounds_toArray, List.set_cons_zero, List.set_cons_succ, i64_w, i32_w]; rfl))
  refine take_ (i := 14) (N := some 66) (v := ?_) (a' := ?_) #[true, true, true, true, true, true, true, true, true, true, true, true, true, true, true, false, false, false, false, false] rfl rfl (take_ofW HT_.out HW_.out (by kernel_rfl)) (fun _ _ _ h => h) (Or.inl ⟨by rfl, ?_⟩) hHeld ?_ ?_; rotate_left; (· (rintro w' ⟨s0, s1, s2, s3⟩; go_simp; with_reducible rfl)); rotate_left; (· (simp only [Act.put, List.setIfInBounds_toArray, List.set_cons_zero, List.set_cons_succ, i64_w, i32_w]; rfl))
  refine pure_ (i := 15) (N := some 67) (v := ?_) (a' := ?_) #[true, true, true, true, true, true, true, true, true, true, true, true, true, true, true, true, false, false, false, false] rfl rfl (any_of HT_.out (by kernel_rfl)) (fun _ _ _ h => h) (Or.inl ⟨by rfl, ?_⟩) ?_ ?_; rotate_left; (· (intro w'; go_simp; with_reducible rfl)); rotate_left; (· (simp only [Act.put, List.setIfInBounds_toArray, List.set_cons_zero, List.set_cons_succ, i64_w, i32_w]; rfl))
  -- ONE 16
  refine pure_ (i := 16) (N := some 68) (v := ?_) (a' := ?_) #[true, true, true, true, true, true, true, true, true, true, true, true, true, true, true, true, true, false, false, false] rfl rfl (any_of HT_.out (by kernel_rfl)) (fun _ _ _ h => h) (Or.inl ⟨by rfl, ?_⟩) ?_ ?_; rotate_left; (· (intro w'; go_simp; with_reducible rfl)); rotate_left; (· (simp only [Act.put, List.setIfInBounds_toArray, List.set_cons_zero, List.set_cons_succ, i64_w, i32_w]; rfl))
  refine pure_ (i := 17) (N := some 69) (v := ?_) (a' := ?_) #[true, true, true, true, true, true, true, true, true, true, true, true, true, true, true, true, true, true, false, false] rfl rfl (any_of HT_.out (by kernel_rfl)) (fun _ _ _ h => h) (Or.inl ⟨by rfl, ?_⟩) ?_ ?_; rotate_left; (· (intro w'; go_simp; with_reducible rfl)); rotate_left; (· (simp only [Act.put, List.setIfInBounds_toArray, List.set_cons_zero, List.set_cons_succ, i64_w, i32_w]; rfl))
  refine pure_ (i := 18) (N := some 70) (v := ?_) (a' := ?_) #[true, true, true, true, true, true, true, true, true, true, true, true, true, true, true, true, true, true, true, false] rfl rfl (any_of HT_.out (by kernel_rfl)) (fun _ _ _ h => h) (Or.inl ⟨by rfl, ?_⟩) ?_ ?_; rotate_left; (· (intro w'; go_simp; with_reducible rfl)); rotate_left; (· (simp only [Act.put, List.setIfInBounds_toArray, List.set_cons_zero, List.set_cons_succ, i64_w, i32_w]; rfl))
  -- ONE 19
  refine last_ (i := 19) (N := none) #[true, true, true, true, true, true, true, true, true, true, true, true, true, true, true, true, true, true, true, true] rfl rfl (one_of HT_.out (by kernel_rfl)) (by decide) (fun K hK => ?_)
  refine skip_ (w1 := ?_) (by rfl) rfl ?_ ?_
  rotate_left
  · go_simp
    rfl
  refine hK.out _ _ ?_
  clear hK K
  refine done_ (done_of HT_.out (by kernel_rfl)) ?_
  have n0_ := Aside0.mk (blk_drew (arrN_put BKg.out (t.toNat * 6 + 5) (gr (u (t.toNat * 6 + 5)) (wrap64 (at_ - u (36 + t.toNat * 4 + 2))))))
  have n1_ := Aside0.mk ((HB.out.setCell (p := ⟨g, t.toNat * 6 + 5, none⟩) hbg (.int .i64 (gr (u (t.toNat * 6 + 5)) (wrap64 (at_ - u (36 + t.toNat * 4 + 2)))))).drew)
  have n3_ : Aside0 (∀ j, j < w.heap.size → j ≠ g → ((w4.setCell ⟨g, t.toNat * 6 + 5, none⟩ (.int .i64 (gr (u (t.toNat * 6 + 5)) (wrap64 (at_ - u (36 + t.toNat * 4 + 2)))))).drew).heap[j]? = w.heap[j]?) := ⟨fun j hj hn => (Below.heap_setCell _ ⟨g, _, none⟩ _ j hn).trans (FA.out j hj hn)⟩
  clear BKg BK1 HB FA r0 f0 hHeld HT_ HW_
  generalize (w4.setCell ⟨g, t.toNat * 6 + 5, none⟩ (.int .i64 (gr (u (t.toNat * 6 + 5)) (wrap64 (at_ - u (36 + t.toNat * 4 + 2)))))).drew = w5 at n0_ n1_ n3_ ⊢
  try go_wp2
  refine bodyPost_end (v := .tuple #[]) (results_list (rs := []) (vs := []) rfl (by decide) .nil) rfl ?_
  refine ⟨rfl, ?_, n1_.out, n3_.out⟩
  have e : evt v 3 t.toNat at_ due = upd u (t.toNat * 6 + 5) (gr (u (t.toNat * 6 + 5)) (wrap64 (at_ - u (36 + t.toNat * 4 + 2)))) := by unfold evt; rw [if_neg (by omega), if_neg (by omega), if_pos rfl]; unfold lng; rw [← hu.out, if_pos (show u (t.toNat * 6) > 0 by omega)]
  rw [e]; exact n0_.out
set_option maxHeartbeats 8000000 in
set_option maxRecDepth 100000 in
theorem event.calls0 (v : Nat → Int) (kind t at_ due : Int) (t0 : 0 ≤ t) (t1 : t < 6) (k1 : kind ≠ 1) (k2 : kind ≠ 2) (k3 : kind ≠ 3) (g base : Nat) (w : World) (hbg : base ≤ g) (hg : w.heap[g]? = some (.cells (arrN 60 v) 77 (0, 0))) :
    Calls Try.prog 33 #[.pointer (some ⟨g, 0, none⟩), .agg #[.int .i64 kind, .int .i64 t, .int .i64 at_, .int .i64 due]] w fun e w' => e = .returned (.tuple #[]) ∧ w'.heap[g]? = some (.cells (arrN 60 (evt v kind t.toNat at_ due)) 77 (0, 0)) ∧ Below base w w' ∧ (∀ j, j < w.heap.size → j ≠ g → w'.heap[j]? = w.heap[j]?) := by
  have hu63 := Try.underlying63
  have hu77 := Try.underlying77
  have hu50 := Try.underlying50
  have hu75 := Try.underlying75
  have hu49 := Try.underlying49
  have e0 := eq_true t0
  have e1 := eq_true t1
  have h3 : ((t.toNat : Nat) : Int) = t := by omega
  go_enter Try.func33, Try.ntmps33
  go_upto_region 1 with (first | ((with_reducible refine gate_dst (N := 3) rfl ?_); refine box_event ?hg (N := 3) ?hd (cs := #[.int .i64 kind, .int .i64 t, .int .i64 at_, .int .i64 due]) (t := 63) ?hr ?_; (case hd => rfl); (case hg => rfl); (case hr => first | (go_simp; done) | (go_simp; rfl)); intro gb1 hg1 w2 hbox hb))
  have BKg := Aside0.mk (blk_below (g := g) (o := .cells (arrN 60 v) 77 (0, 0)) hg hb)
  have BK1 := Aside0.mk hbox
  have hne : g ≠ gb1 := by have := blk_lt hg; omega
  have hne' : gb1 ≠ g := hne.symm
  have HB : Aside0 (Below base w w2) := ⟨hb.mono (by have := blk_lt hg; omega)⟩
  have FA : Aside0 (∀ j, j < w.heap.size → j ≠ g → w2.heap[j]? = w.heap[j]?) := ⟨fun j hj _ => hb.block j hj⟩
  clear hb hbox hg1 hg
  refine start_ (n := 7) (S := fun w' => w'.cell? ⟨gb1, 1, none⟩ = some (.int .i64 t)) (ds := []) #[false, false, false, false, false, false, false] (by kernel_rfl) rfl rfl ((blk_cell (blk_drew BK1.out) 1).trans rfl) (fun hHeld => ?_); refine with_tabW event.tab1 event.bits1 (fun HT_ HW_ => ?_)
  refine pure_ (i := 0) (N := some 5) (v := ?_) (a' := ?_) #[true, false, false, false, false, false, false] rfl rfl (any_of HT_.out (by kernel_rfl)) (fun _ _ _ h => h) (Or.inl ⟨by rfl, ?_⟩) ?_ ?_; rotate_left; (· (intro w'; go_simp; with_reducible rfl)); rotate_left; (· (simp only [Act.put, List.setIfInBounds_toArray, List.set_cons_zero, List.set_cons_succ, i64_w, i32_w]; rfl))
  refine pure_ (i := 1) (N := some 6) (v := ?_) (a' := ?_) #[true, true, false, false, false, false, false] rfl rfl (any_of HT_.out (by kernel_rfl)) (fun _ _ _ h => h) (Or.inl ⟨by rfl, ?_⟩) ?_ ?_; rotate_left; (· (intro w'; go_simp; with_reducible rfl)); rotate_left; (· (simp only [Act.put, List.setIfInBounds_toArray, List.set_cons_zero, List.set_cons_succ, i64_w, i32_w]; rfl))
  refine pure_ (i := 3) (N := some 8) (v := ?_) (a' := ?_) #[true, true, false, true, false, false, false] rfl rfl (any_of HT_.out (by kernel_rfl)) (fun _ _ _ h => h) (Or.inl ⟨by rfl, ?_⟩) ?_ ?_; rotate_left; (· (intro w'; go_simp; with_reducible rfl)); rotate_left; (· (simp only [Act.put, List.setIfInBounds_toArray, List.set_cons_zero, List.set_cons_succ, i64_w, i32_w]; rfl))
  refine pure_ (i := 4) (N := some 9) (v := ?_) (a' := ?_) #[true, true, false, true, true, false, false] rfl rfl (any_of HT_.out (by kernel_rfl)) (fun _ _ _ h => h) (Or.inl ⟨by rfl, ?_⟩) ?_ ?_; rotate_left; (· (intro w'; go_simp; with_reducible rfl)); rotate_left; (· (simp only [Act.put, List.setIfInBounds_toArray, List.set_cons_zero, List.set_cons_succ, i64_w, i32_w]; rfl))
  refine take_ (i := 2) (N := some 7) (v := ?_) (a' := ?_) #[true, true, true, true, true, false, false] rfl rfl (take_ofW HT_.out HW_.out (by kernel_rfl)) (fun _ _ _ h => h) (Or.inl ⟨by rfl, ?_⟩) hHeld ?_ ?_; rotate_left; (· (rintro w' s0; go_simp; with_reducible rfl)); rotate_left; (· (simp only [Act.put, List.setIfInBounds_toArray, List.set_cons_zero, List.set_cons_succ, i64_w, i32_w]; rfl))
  refine pure_ (i := 5) (N := some 10) (v := ?_) (a' := ?_) #[true, true, true, true, true, true, false] rfl rfl (any_of HT_.out (by kernel_rfl)) (fun _ _ _ h => h) (Or.inl ⟨by rfl, ?_⟩) ?_ ?_; rotate_left; (· (intro w'; go_simp; with_reducible rfl)); rotate_left; (· (simp only [Act.put, List.setIfInBounds_toArray, List.set_cons_zero, List.set_cons_succ, i64_w, i32_w]; rfl))
  refine pure_ (i := 6) (N := some 4) (v := ?_) (a' := ?_) #[true, true, true, true, true, true, true] rfl rfl (any_of HT_.out (by kernel_rfl)) (fun _ _ _ h => h) (Or.inl ⟨by rfl, ?_⟩) ?_ ?_; rotate_left; (· (intro w'; go_simp; with_reducible rfl)); rotate_left; (· (simp only [Act.put, List.setIfInBounds_toArray, List.set_cons_zero, List.set_cons_succ, i64_w, i32_w]; rfl))
  refine done_ (done_of HT_.out (by kernel_rfl)) ?_
  have n0_ := Aside0.mk (blk_drew BKg.out); have n1_ := Aside0.mk (blk_drew BK1.out); have n2_ := Aside0.mk (below_drew1 HB.out); have n3_ : Aside0 (∀ j, j < w.heap.size → j ≠ g → w2.drew.heap[j]? = w.heap[j]?) := ⟨fun j hj hn => FA.out j hj hn⟩; clear BKg BK1 HB FA hHeld HT_ HW_; have BKg := n0_; have BK1 := n1_; have HB := n2_; have FA := n3_; clear n0_ n1_ n2_ n3_
  generalize w2.drew = w3 at BKg BK1 HB FA ⊢
  have q0 : w3.cell? ⟨gb1, 0, none⟩ = some (.int .i64 kind) := (blk_cell BK1.out 0).trans rfl
  have p1 : (kind == 1) = false := beq_eq_false_iff_ne.mpr k1
  have p2 : (kind == 2) = false := beq_eq_false_iff_ne.mpr k2
  have p3 : (kind == 3) = false := beq_eq_false_iff_ne.mpr k3
  go_wp2
  refine bodyPost_ret (v := .tuple #[]) (results_list (rs := []) (vs := []) rfl (by decide) .nil) rfl ?_
  refine ⟨rfl, ?_, HB.out, FA.out⟩
  have e : evt v kind t.toNat at_ due = v := by unfold evt; rw [if_neg k1, if_neg k2, if_neg k3]
  rw [e]; exact BKg.out
theorem event.calls (v : Nat → Int) (kind t at_ due : Int) (t0 : 0 ≤ t) (t1 : t < 6) (g base : Nat) (w : World) (hbg : base ≤ g) (hg : w.heap[g]? = some (.cells (arrN 60 v) 77 (0, 0))) :
    Calls Try.prog 33 #[.pointer (some ⟨g, 0, none⟩), .agg #[.int .i64 kind, .int .i64 t, .int .i64 at_, .int .i64 due]] w fun e w' => e = .returned (.tuple #[]) ∧ w'.heap[g]? = some (.cells (arrN 60 (evt v kind t.toNat at_ due)) 77 (0, 0)) ∧ Below base w w' ∧ (∀ j, j < w.heap.size → j ≠ g → w'.heap[j]? = w.heap[j]?) := by
  by_cases k1 : kind = 1
  · subst k1; exact event.calls1 v t at_ due t0 t1 g base w hbg hg
  by_cases k2 : kind = 2
  · subst k2; exact event.calls2 v t at_ due t0 t1 g base w hbg hg
  by_cases k3 : kind = 3
  · subst k3; exact event.calls3 v t at_ due t0 t1 g base w hbg hg
  exact event.calls0 v kind t at_ due t0 t1 k1 k2 k3 g base w hbg hg
end Go.Proofs.Ytfimgecceneagaa.PAll
