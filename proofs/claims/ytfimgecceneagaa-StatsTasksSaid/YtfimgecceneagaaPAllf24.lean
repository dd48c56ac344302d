/- Of of the reference 25: what one task has had, by the document. By hand (the drawn regions' rows by drawn.py). -/
import Derived.Test.YtfimgecceneagaaBook
import Derived.Test.YtfimgecceneagaaS53
import Derived.Test.YtfimgecceneagaaPAllf15
import Derived.Test.YtfimgecceneagaaPAllf34
import Derived.Test.YtfimgecceneagaaPAllf22
namespace Go.Proofs.Ytfimgecceneagaa.PAll
open Go.RowKit Go.Proofs.YtfimgecceneagaaW.PrintWords Go.Proofs.YtfimgecceneagaaW.PrintLast Go.Proofs.Ytfimgecceneagaa.Arr Go.Proofs.Ytfimgecceneagaa.Wp
set_option linter.unusedVariables false
set_option linter.unusedSimpArgs false
/-- The row, the last release's moment, and whether there was one. -/
abbrev OfS := (Nat → Int) × Int × Bool
def mxx (a b : Int) : Int := if a > b then a else b
def lngO (s : OfS) (at_ : Int) : OfS := if s.2.2 = true then (upd s.1 5 (mxx (s.1 5) (wrap64 (at_ - s.2.1))), s.2.1, s.2.2) else s
def evO (n : Int) (s : OfS) (e : S63) : OfS :=
  if e.f1 = n then
    if e.f0 = 1 then (upd s.1 0 (wrap64 (s.1 0 + 1)), e.f2, true)
    else if e.f0 = 2 then lngO (upd s.1 1 (wrap64 (s.1 1 + 1)), s.2.1, s.2.2) e.f2
    else if e.f0 = 3 then lngO (upd s.1 2 (wrap64 (s.1 2 + 1)), s.2.1, s.2.2) e.f2
    else s
  else s
def zeroS : OfS := (zeroB, 0, false)
def afterO (n : Int) (es : List S63) (k : Nat) : OfS := (es.take k).foldl (evO n) zeroS
theorem afterO_succ (n : Int) (es : List S63) (i : Int) (h0 : 0 ≤ i) (h1 : i < es.length) : afterO n es (i + 1).toNat = evO n (afterO n es i.toNat) (rd_T63 es i) := by
  have h : i.toNat < es.length := by omega
  rw [show (i + 1).toNat = i.toNat + 1 by omega]
  unfold afterO rd_T63
  rw [List.take_add_one, List.foldl_append, List.getElem?_eq_getElem h]
  simp [List.getD_eq_getElem?_getD, List.getElem?_eq_getElem h]
theorem afterO_all (n : Int) (es : List S63) (i : Int) (h : ¬ i < es.length) : afterO n es i.toNat = es.foldl (evO n) zeroS := by
  unfold afterO; rw [List.take_of_length_le (by omega)]
def runO (ls : List S66) (ss : List S69) (idle swE n : Int) (v : Nat → Int) (i : S28) : Nat → Int :=
  if i.f0 = 1 ∧ i.f4 = n then upd (upd v 3 (wrap64 (v 3 + i.f5))) 4 (wrap64 (v 4 + ofW ls ss idle swE i.f0 i.f2 i.f3 i.f5)) else v
def runsO (ls : List S66) (ss : List S69) (idle swE n : Int) (v : Nat → Int) (l : List S28) (k : Nat) : Nat → Int := (l.take k).foldl (runO ls ss idle swE n) v
theorem runsO_succ (ls : List S66) (ss : List S69) (idle swE n : Int) (v : Nat → Int) (l : List S28) (i : Int) (h0 : 0 ≤ i) (h1 : i < l.length) : runsO ls ss idle swE n v l (i + 1).toNat = runO ls ss idle swE n (runsO ls ss idle swE n v l i.toNat) (rd_T28 l i) := by
  have h : i.toNat < l.length := by omega
  rw [show (i + 1).toNat = i.toNat + 1 by omega]
  unfold runsO rd_T28
  rw [List.take_add_one, List.foldl_append, List.getElem?_eq_getElem h]
  simp [List.getD_eq_getElem?_getD, List.getElem?_eq_getElem h]
theorem runsO_all (ls : List S66) (ss : List S69) (idle swE n : Int) (v : Nat → Int) (l : List S28) (i : Int) (h : ¬ i < l.length) : runsO ls ss idle swE n v l i.toNat = l.foldl (runO ls ss idle swE n) v := by
  unfold runsO; rw [List.take_of_length_le (by omega)]
/-- What one task has had, by the document. -/
def ofV (ls : List S66) (ss : List S69) (idle swE : Int) (l : List S28) (es : List S63) (n : Int) : Nat → Int := l.foldl (runO ls ss idle swE n) (es.foldl (evO n) zeroS).1
theorem arrN_size' (n : Nat) (v : Nat → Int) : (arrN n v).size = n := by simp [arrN]
theorem zeros6 : (#[.int .i64 0, .int .i64 0, .int .i64 0, .int .i64 0, .int .i64 0, .int .i64 0] : Array Value) = arrN 6 zeroB := by rfl
theorem six (v : Nat → Int) : arrN 6 v = #[.int .i64 (v 0), .int .i64 (v 1), .int .i64 (v 2), .int .i64 (v 3), .int .i64 (v 4), .int .i64 (v 5)] := by rfl
theorem maxO (a b : Int) : dormouseref01_Max.f a b = some (mxx a b) := by unfold dormouseref01_Max.f mxx; split <;> rfl
def ofr.T9 : Bool × List (List Nat × List Nat) := (true, [([], []), ([0], [0]), ([1], [1]), ([], []), ([3], [3]), ([0, 1, 2], []), ([5, 2, 0, 1, 2], [2, 5]), ([4, 6, 0, 1, 2, 3, 4, 5, 6], [4]), ([7, 0, 1, 2, 3, 4, 5, 6, 7], [])])
def ofr.B9 : List Nat := [0, 1, 3, 0, 8, 7, 39, 127, 255]
theorem ofr.tab9 : rtab .any (opsOf Try.f24 9) = ofr.T9 := by kernel_rfl
theorem ofr.bits9 : waitsOk ofr.T9.2 ofr.B9 = true := by kernel_rfl
def ofr.T20 : Bool × List (List Nat × List Nat) := (true, [([], []), ([0], [0]), ([], []), ([], []), ([2, 3], [2, 3]), ([4], [4]), ([5], [5]), ([1, 6], [1, 6]), ([], []), ([8], [8]), ([], []), ([], []), ([], []), ([11, 12], [11, 12]), ([13], [13]), ([10, 14], [10, 14]), ([9, 15], [9, 15]), ([0, 1, 2, 3, 4, 5, 6, 7, 8, 9], []), ([17, 7, 15, 0, 1, 2, 3, 4, 5, 6, 7, 8, 9], [7, 17]), ([0, 1, 2, 3, 4, 5, 6, 7, 8, 9, 10, 11, 12, 13, 14, 15, 16, 17, 18], []), ([19, 16, 18, 0, 1, 2, 3, 4, 5, 6, 7, 8, 9, 10, 11, 12, 13, 14, 15, 16, 17, 18], [16, 19])])
def ofr.B20 : List Nat := [0, 1, 0, 0, 12, 28, 60, 127, 0, 256, 0, 0, 0, 6144, 14336, 31744, 65280, 1023, 196607, 524287, 1048575]
theorem ofr.tab20 : rtab .any (opsOf Try.f24 20) = ofr.T20 := by kernel_rfl
theorem ofr.bits20 : waitsOk ofr.T20.2 ofr.B20 = true := by kernel_rfl
set_option maxHeartbeats 16000000 in
set_option maxRecDepth 100000 in
theorem ref25_Of.calls (A0_0 : Option Addr) (c0_0 : Nat) (l0_0 : List (S66)) (A0_1 : Option Addr) (c0_1 : Nat) (l0_1 : List (S69)) (A0_2 : Option Addr) (c0_2 : Nat) (l0_2 : List (S72)) (a0_3 a0_4 a0_5 a0_6 a0_7 a0_8 : Int) (A1 : Option Addr) (c1 : Nat) (l1 : List (S28)) (A2 : Option Addr) (c2 : Nat) (l2 : List (S63)) (n : Int) (w : World)
    (hr0_0 : Kd.C k66 w A0_0 l0_0.length l0_0) (hc0_0 : l0_0.length ≤ c0_0) (hr0_1 : Kd.C k69 w A0_1 l0_1.length l0_1) (hc0_1 : l0_1.length ≤ c0_1) (hr0_2 : Kd.C k72 w A0_2 l0_2.length l0_2) (hc0_2 : l0_2.length ≤ c0_2) (hr1 : Kd.C k28 w A1 l1.length l1) (hc1 : l1.length ≤ c1) (hr2 : Kd.C k63 w A2 l2.length l2) (hc2 : l2.length ≤ c2)
    (hl1 : l1.length ≤ 9223372036854775000) (hl2 : l2.length ≤ 9223372036854775000) :
    Calls Try.prog 24 #[.agg #[.slice A0_0 l0_0.length c0_0, .slice A0_1 l0_1.length c0_1, .slice A0_2 l0_2.length c0_2, .int .i64 a0_3, .int .i64 a0_4, .int .i64 a0_5, .int .i64 a0_6, .int .i64 a0_7, .int .i64 a0_8], .slice A1 l1.length c1, .slice A2 l2.length c2, .int .i64 n] w fun e w' => e = .returned (.agg (arrN 6 (ofV l0_0 l0_1 a0_3 a0_6 l1 l2 n))) ∧ Below w.heap.size w w' := by
  have hu26 := Try.underlying26
  have hu28 := Try.underlying28
  have hu63 := Try.underlying63
  have hu53 := Try.underlying53
  have HR0_0 := Aside0.mk hr0_0
  have HC0_0 := Aside0.mk hc0_0
  have HR0_1 := Aside0.mk hr0_1
  have HC0_1 := Aside0.mk hc0_1
  have HR0_2 := Aside0.mk hr0_2
  have HC0_2 := Aside0.mk hc0_2
  have HR1 := Aside0.mk hr1
  have HC1 := Aside0.mk hc1
  have HR2 := Aside0.mk hr2
  have HC2 := Aside0.mk hc2
  have HL1 := Aside0.mk hl1
  have HL2 := Aside0.mk hl2
  clear hr0_0 hc0_0 hr0_1 hc0_1 hr0_2 hc0_2 hr1 hc1 hr2 hc2 hl1 hl2
  have HB := Aside0.mk (Below.refl w.heap.size w)
  go_enter Try.func24, Try.ntmps24
  go_upto_region 2 with (first | ((with_reducible refine gate_dst (N := 4) rfl ?_); refine box_event ?hg (N := 4) ?hd (cs := #[.slice A0_0 l0_0.length c0_0, .slice A0_1 l0_1.length c0_1, .slice A0_2 l0_2.length c0_2, .int .i64 a0_3, .int .i64 a0_4, .int .i64 a0_5, .int .i64 a0_6, .int .i64 a0_7, .int .i64 a0_8]) (t := 26) ?hr ?_; (case hd => rfl); (case hg => rfl); (case hr => first | (go_simp; done) | (go_simp; rfl)); intro gp hg w2 hbox hb; have n0_ := Aside0.mk (below_step HB.out hb); have n1_ := Aside0.mk hbox; have n2_ := Aside0.mk ((by rw [hg]; exact (below_size HB.out)) : w.heap.size ≤ gp); clear HB; have HB := n0_; have BKp := n1_; have GEp := n2_; clear n0_ n1_ n2_; clear hb hbox hg) | ((with_reducible refine gate_dst (N := 8) rfl ?_); refine box_event ?hg (N := 8) ?hd (cs := #[.int .i64 0, .int .i64 0, .int .i64 0, .int .i64 0, .int .i64 0, .int .i64 0]) (t := 53) ?hr ?_; (case hd => rfl); (case hg => rfl); (case hr => first | (go_simp; done) | (go_simp; rfl)); intro gr hg w3 hbox hb; have n0_ := Aside0.mk (below_step HB.out hb); have n1_ := Aside0.mk hbox; have n2_ := Aside0.mk ((by rw [hg]; exact (below_size HB.out)) : w.heap.size ≤ gr); have n3_ := Aside0.mk (blk_below BKp.out hb); have n4_ : Aside0 (gp < gr) := ⟨by rw [hg]; exact blk_lt BKp.out⟩; clear HB BKp; have HB := n0_; have BKr := n1_; have GEr := n2_; have BKp := n3_; have LTpr := n4_; clear n0_ n1_ n2_ n3_ n4_; clear hb hbox hg) | ((with_reducible refine gate_dst (N := 9) rfl ?_); refine box_event ?hg (N := 9) ?hd (cs := #[.int .i64 0, .int .i64 0, .int .i64 0, .int .i64 0, .int .i64 0, .int .i64 0]) (t := 53) ?hr ?_; (case hd => rfl); (case hg => rfl); (case hr => first | (go_simp; done) | (go_simp; rfl)); intro gb hg w4 hbox hb; have n0_ := Aside0.mk (below_step HB.out hb); have n1_ := Aside0.mk hbox; have n2_ := Aside0.mk ((by rw [hg]; exact (below_size HB.out)) : w.heap.size ≤ gb); have n3_ := Aside0.mk (blk_below BKp.out hb); have n4_ := Aside0.mk (blk_below BKr.out hb); have n5_ : Aside0 (gr < gb) := ⟨by rw [hg]; exact blk_lt BKr.out⟩; clear HB BKp BKr; have HB := n0_; have BKb := n1_; have GEb := n2_; have BKp := n3_; have BKr := n4_; have LTrb := n5_; clear n0_ n1_ n2_ n3_ n4_ n5_; clear hb hbox hg))
  rw [zeros6] at BKb
  have npb : gp ≠ gb := by have := LTpr.out; have := LTrb.out; omega
  have nrb : gr ≠ gb := by have := LTrb.out; omega
  have nbp := npb.symm
  have nbr := nrb.symm
  go_wp2
  go_loopg [10, 11, 12] (l2.length + 1) (fun kq v10 v11 v12 w' => ∃ (i : Int) (v : Nat → Int) (last : Int) (some_ : Bool), v10 = .int .i64 last ∧ v11 = .bool some_ ∧ v12 = .int .i64 i ∧ Aside0 (0 ≤ i ∧ (kq : Int) + i = l2.length + 1) ∧ Aside0 (afterO n l2 i.toNat = (v, last, some_)) ∧ Aside0 (w'.heap[gp]? = some (.cells #[.slice A0_0 l0_0.length c0_0, .slice A0_1 l0_1.length c0_1, .slice A0_2 l0_2.length c0_2, .int .i64 a0_3, .int .i64 a0_4, .int .i64 a0_5, .int .i64 a0_6, .int .i64 a0_7, .int .i64 a0_8] 26 (0, 0))) ∧ Aside0 (w'.heap[gr]? = some (.cells #[.int .i64 0, .int .i64 0, .int .i64 0, .int .i64 0, .int .i64 0, .int .i64 0] 53 (0, 0))) ∧ Aside0 (w'.heap[gb]? = some (.cells (arrN 6 v) 53 (0, 0))) ∧ Aside0 (Below w.heap.size w w'))
  case atStart => exact ⟨0, zeroB, 0, false, rfl, rfl, rfl, ⟨by omega, by omega⟩, ⟨rfl⟩, ⟨BKp.out⟩, ⟨BKr.out⟩, ⟨BKb.out⟩, ⟨HB.out⟩⟩
  case round =>
  clear BKp BKr BKb HB
  obtain ⟨i, v, last, some_, rfl, rfl, rfl, HI, HS, BKp, BKr, BKb, HB⟩ := hrel
  have hi0 := HI.out.1
  by_cases c : i < (l2.length : Int)
  case neg =>
    have c0 : decide (i < (l2.length : Int)) = false := decide_eq_false c
    have HS1 : Aside0 ((l2.foldl (evO n) zeroS).1 = v) := ⟨by rw [← afterO_all n l2 i c, HS.out]⟩
    clear HI hi0 c HS
    go_wp2
    go_loopg [14] (l1.length + 1) (fun kq v14 w' => ∃ (i : Int), v14 = .int .i64 i ∧ Aside0 (0 ≤ i ∧ (kq : Int) + i = l1.length + 1) ∧ Aside0 (w'.heap[gp]? = some (.cells #[.slice A0_0 l0_0.length c0_0, .slice A0_1 l0_1.length c0_1, .slice A0_2 l0_2.length c0_2, .int .i64 a0_3, .int .i64 a0_4, .int .i64 a0_5, .int .i64 a0_6, .int .i64 a0_7, .int .i64 a0_8] 26 (0, 0))) ∧ Aside0 (w'.heap[gr]? = some (.cells #[.int .i64 0, .int .i64 0, .int .i64 0, .int .i64 0, .int .i64 0, .int .i64 0] 53 (0, 0))) ∧ Aside0 (w'.heap[gb]? = some (.cells (arrN 6 (runsO l0_0 l0_1 a0_3 a0_6 n v l1 i.toNat)) 53 (0, 0))) ∧ Aside0 (Below w.heap.size w w'))
    case atStart => exact ⟨0, rfl, ⟨by omega, by omega⟩, ⟨BKp.out⟩, ⟨BKr.out⟩, ⟨BKb.out⟩, ⟨HB.out⟩⟩
    case round =>
    clear BKp BKr BKb HB
    obtain ⟨i, rfl, HI, BKp, BKr, BKb, HB⟩ := hrel
    have hi0 := HI.out.1
    by_cases c : i < (l1.length : Int)
    case neg =>
      have c0 : decide (i < (l1.length : Int)) = false := decide_eq_false c
      rw [runsO_all l0_0 l0_1 a0_3 a0_6 n v l1 i c] at BKb
      clear HI hi0 c
      obtain ⟨v1, hv1⟩ : ∃ v1, Aside0 (v1 = l1.foldl (runO l0_0 l0_1 a0_3 a0_6 n) v) := ⟨_, ⟨rfl⟩⟩
      rw [← hv1.out] at BKb
      have a0 : wr.cell? ⟨gb, 0, none⟩ = some (.int .i64 (v1 0)) := arrN_cell BKb.out 0 (by omega)
      have b0 : wr.cell? ⟨gr, 0, none⟩ = some (.int .i64 0) := (blk_cell BKr.out 0).trans rfl
      have d0 := blk_frozen BKr.out 0
      have a1 : wr.cell? ⟨gb, 1, none⟩ = some (.int .i64 (v1 1)) := arrN_cell BKb.out 1 (by omega)
      have b1 : wr.cell? ⟨gr, 1, none⟩ = some (.int .i64 0) := (blk_cell BKr.out 1).trans rfl
      have d1 := blk_frozen BKr.out 1
      have a2 : wr.cell? ⟨gb, 2, none⟩ = some (.int .i64 (v1 2)) := arrN_cell BKb.out 2 (by omega)
      have b2 : wr.cell? ⟨gr, 2, none⟩ = some (.int .i64 0) := (blk_cell BKr.out 2).trans rfl
      have d2 := blk_frozen BKr.out 2
      have a3 : wr.cell? ⟨gb, 3, none⟩ = some (.int .i64 (v1 3)) := arrN_cell BKb.out 3 (by omega)
      have b3 : wr.cell? ⟨gr, 3, none⟩ = some (.int .i64 0) := (blk_cell BKr.out 3).trans rfl
      have d3 := blk_frozen BKr.out 3
      have a4 : wr.cell? ⟨gb, 4, none⟩ = some (.int .i64 (v1 4)) := arrN_cell BKb.out 4 (by omega)
      have b4 : wr.cell? ⟨gr, 4, none⟩ = some (.int .i64 0) := (blk_cell BKr.out 4).trans rfl
      have d4 := blk_frozen BKr.out 4
      have a5 : wr.cell? ⟨gb, 5, none⟩ = some (.int .i64 (v1 5)) := arrN_cell BKb.out 5 (by omega)
      have b5 : wr.cell? ⟨gr, 5, none⟩ = some (.int .i64 0) := (blk_cell BKr.out 5).trans rfl
      have d5 := blk_frozen BKr.out 5
      go_wp2
      refine bodyPost_ret (results_cell_row rfl _ _ gr 53 (arrN 6 v1) (0, 0) _ (by rfl) (by rw [six]; refine blk_put (cs := #[.int .i64 (v1 0), .int .i64 (v1 1), .int .i64 (v1 2), .int .i64 (v1 3), .int .i64 (v1 4), .int .i64 0]) ?_ 5 _ rfl; refine blk_put (cs := #[.int .i64 (v1 0), .int .i64 (v1 1), .int .i64 (v1 2), .int .i64 (v1 3), .int .i64 0, .int .i64 0]) ?_ 4 _ rfl; refine blk_put (cs := #[.int .i64 (v1 0), .int .i64 (v1 1), .int .i64 (v1 2), .int .i64 0, .int .i64 0, .int .i64 0]) ?_ 3 _ rfl; refine blk_put (cs := #[.int .i64 (v1 0), .int .i64 (v1 1), .int .i64 0, .int .i64 0, .int .i64 0, .int .i64 0]) ?_ 2 _ rfl; refine blk_put (cs := #[.int .i64 (v1 0), .int .i64 0, .int .i64 0, .int .i64 0, .int .i64 0, .int .i64 0]) ?_ 1 _ rfl; refine blk_put (cs := #[.int .i64 0, .int .i64 0, .int .i64 0, .int .i64 0, .int .i64 0, .int .i64 0]) ?_ 0 _ rfl; exact BKr.out) Try.underlying53 rfl (by rw [arrN_size']; kernel_rfl)) rfl ?_
      refine ⟨?_, ?_⟩
      · rw [hv1.out, ← HS1.out]; rfl
      · repeat (first | (with_reducible exact HB.out) | (with_reducible refine below_set ?_ GEr.out))
    obtain ⟨ad, e1, hx0, hx1, hx2, hx3, hx4, hx5⟩ := at_T28 HR1.out i hi0 c
    cases e1
    have hw0 := (HB.out.cell (World.block_lt_of_cell? w _ hx0)).trans hx0
    have HX0 := Aside0.mk hx0
    have hw1 := (HB.out.cell (World.block_lt_of_cell? w _ hx1)).trans hx1
    have HX1 := Aside0.mk hx1
    have hw2 := (HB.out.cell (World.block_lt_of_cell? w _ hx2)).trans hx2
    have HX2 := Aside0.mk hx2
    have hw3 := (HB.out.cell (World.block_lt_of_cell? w _ hx3)).trans hx3
    have HX3 := Aside0.mk hx3
    have hw4 := (HB.out.cell (World.block_lt_of_cell? w _ hx4)).trans hx4
    have HX4 := Aside0.mk hx4
    have hw5 := (HB.out.cell (World.block_lt_of_cell? w _ hx5)).trans hx5
    have HX5 := Aside0.mk hx5
    clear hx0 hx1 hx2 hx3 hx4 hx5
    have c0 : decide (i < (l1.length : Int)) = true := decide_eq_true c
    have p0 := eq_true hi0
    have q0 := eq_true c
    cases gk with
    | zero => exact absurd HI.out.2 (by omega)
    | succ k1 =>
    have HI1 : Aside0 (0 ≤ i + 1 ∧ (k1 : Int) + (i + 1) = l1.length + 1) := ⟨by have := HI.out.2; omega⟩
    have next : wrap64 (i + 1) = i + 1 := wrap_id (by omega) (by have := HL1.out; omega)
    have hsucc := Aside0.mk (runsO_succ l0_0 l0_1 a0_3 a0_6 n v l1 i hi0 c)
    by_cases kr : (rd_T28 l1 i).f0 = 1
    case neg =>
      have kb : ((rd_T28 l1 i).f0 == 1) = false := beq_eq_false_iff_ne.mpr kr
      have eb : runO l0_0 l0_1 a0_3 a0_6 n (runsO l0_0 l0_1 a0_3 a0_6 n v l1 i.toNat) (rd_T28 l1 i) = runsO l0_0 l0_1 a0_3 a0_6 n v l1 i.toNat := by unfold runO; rw [if_neg (fun h => kr h.1)]
      go_wp2
      go_roundg k1
      case measure => omega
      case rel => exact ⟨i + 1, by first | rfl | rw [next], HI1, ⟨BKp.out⟩, ⟨BKr.out⟩, ⟨by rw [hsucc.out, eb]; exact BKb.out⟩, ⟨HB.out⟩⟩
    have krb : ((rd_T28 l1 i).f0 == 1) = true := beq_iff_eq.mpr kr
    have hkr := Aside0.mk kr
    clear kr
    by_cases kt : (rd_T28 l1 i).f4 = n
    case neg =>
      have kb : ((rd_T28 l1 i).f4 == n) = false := beq_eq_false_iff_ne.mpr kt
      have eb : runO l0_0 l0_1 a0_3 a0_6 n (runsO l0_0 l0_1 a0_3 a0_6 n v l1 i.toNat) (rd_T28 l1 i) = runsO l0_0 l0_1 a0_3 a0_6 n v l1 i.toNat := by unfold runO; rw [if_neg (fun h => kt h.2)]
      go_wp2
      go_roundg k1
      case measure => omega
      case rel => exact ⟨i + 1, by first | rfl | rw [next], HI1, ⟨BKp.out⟩, ⟨BKr.out⟩, ⟨by rw [hsucc.out, eb]; exact BKb.out⟩, ⟨HB.out⟩⟩
    have ktb : ((rd_T28 l1 i).f4 == n) = true := beq_iff_eq.mpr kt
    have hkt := Aside0.mk kt
    clear kt
    go_upto_region 20 with (fail)
    obtain ⟨V, hV⟩ : ∃ V, Aside0 (V = runsO l0_0 l0_1 a0_3 a0_6 n v l1 i.toNat) := ⟨_, ⟨rfl⟩⟩
    rw [← hV.out] at BKb hsucc
    have eb : runO l0_0 l0_1 a0_3 a0_6 n V (rd_T28 l1 i) = upd (upd V 3 (wrap64 (V 3 + (rd_T28 l1 i).f5))) 4 (wrap64 (V 4 + ofW l0_0 l0_1 a0_3 a0_6 (rd_T28 l1 i).f0 (rd_T28 l1 i).f2 (rd_T28 l1 i).f3 (rd_T28 l1 i).f5)) := by unfold runO; rw [if_pos ⟨hkr.out, hkt.out⟩]
    refine start_ (n := 21) (S := fun w' => w'.cell? ⟨gb, 3, none⟩ = some (.int .i64 (V 3)) ∧ w'.cell? ⟨gb, 4, none⟩ = some (.int .i64 (V 4)) ∧ w'.cell? ⟨gp, 0, none⟩ = some (.slice A0_0 l0_0.length c0_0) ∧ w'.cell? ⟨gp, 1, none⟩ = some (.slice A0_1 l0_1.length c0_1) ∧ w'.cell? ⟨gp, 2, none⟩ = some (.slice A0_2 l0_2.length c0_2) ∧ w'.cell? ⟨gp, 3, none⟩ = some (.int .i64 a0_3) ∧ w'.cell? ⟨gp, 4, none⟩ = some (.int .i64 a0_4) ∧ w'.cell? ⟨gp, 5, none⟩ = some (.int .i64 a0_5) ∧ w'.cell? ⟨gp, 6, none⟩ = some (.int .i64 a0_6) ∧ w'.cell? ⟨gp, 7, none⟩ = some (.int .i64 a0_7) ∧ w'.cell? ⟨gp, 8, none⟩ = some (.int .i64 a0_8) ∧ w'.cell? (ad.add (i.toNat * 6)) = some (.int .i64 (rd_T28 l1 i).f0) ∧ w'.cell? ⟨(ad.add (i.toNat * 6)).block, (ad.add (i.toNat * 6)).off + 1, none⟩ = some (.int .i64 (rd_T28 l1 i).f1) ∧ w'.cell? ⟨(ad.add (i.toNat * 6)).block, (ad.add (i.toNat * 6)).off + 2, none⟩ = some (.int .i64 (rd_T28 l1 i).f2) ∧ w'.cell? ⟨(ad.add (i.toNat * 6)).block, (ad.add (i.toNat * 6)).off + 3, none⟩ = some (.int .i64 (rd_T28 l1 i).f3) ∧ w'.cell? ⟨(ad.add (i.toNat * 6)).block, (ad.add (i.toNat * 6)).off + 4, none⟩ = some (.int .i64 (rd_T28 l1 i).f4) ∧ w'.cell? ⟨(ad.add (i.toNat * 6)).block, (ad.add (i.toNat * 6)).off + 5, none⟩ = some (.int .i64 (rd_T28 l1 i).f5)) (ds := [18, 20]) #[false, false, false, false, false, false, false, false, false, false, false, false, false, false, false, false, false, false, false, false, false] (by kernel_rfl) rfl rfl ⟨arrN_cell (blk_drew BKb.out) 3 (by omega), arrN_cell (blk_drew BKb.out) 4 (by omega), (blk_cell (blk_drew BKp.out) 0).trans rfl, (blk_cell (blk_drew BKp.out) 1).trans rfl, (blk_cell (blk_drew BKp.out) 2).trans rfl, (blk_cell (blk_drew BKp.out) 3).trans rfl, (blk_cell (blk_drew BKp.out) 4).trans rfl, (blk_cell (blk_drew BKp.out) 5).trans rfl, (blk_cell (blk_drew BKp.out) 6).trans rfl, (blk_cell (blk_drew BKp.out) 7).trans rfl, (blk_cell (blk_drew BKp.out) 8).trans rfl, ((HB.out.drew.cell (World.block_lt_of_cell? w _ HX0.out)).trans HX0.out), ((HB.out.drew.cell (World.block_lt_of_cell? w _ HX1.out)).trans HX1.out), ((HB.out.drew.cell (World.block_lt_of_cell? w _ HX2.out)).trans HX2.out), ((HB.out.drew.cell (World.block_lt_of_cell? w _ HX3.out)).trans HX3.out), ((HB.out.drew.cell (World.block_lt_of_cell? w _ HX4.out)).trans HX4.out), ((HB.out.drew.cell (World.block_lt_of_cell? w _ HX5.out)).trans HX5.out)⟩ (fun hHeld => ?_); refine with_tabW ofr.tab20 ofr.bits20 (fun HT_ HW_ => ?_)
    have n0_ := Aside0.mk (blk_drew BKb.out); have n1_ := Aside0.mk (blk_drew BKp.out); have n2_ := Aside0.mk (blk_drew BKr.out); have n3_ := Aside0.mk (HB.out.drew); clear BKb BKp BKr HB hw0 hw1 hw2 hw3 hw4 hw5; have BKb := n0_; have BKp := n1_; have BKr := n2_; have HB := n3_; clear n0_ n1_ n2_ n3_; generalize wr.drew = w11 at BKb BKp BKr HB hHeld ⊢
    refine pure_ (i := 0) (N := some 92) (v := ?_) (a' := ?_) #[true, false, false, false, false, false, false, false, false, false, false, false, false, false, false, false, false, false, false, false, false] rfl rfl (any_of HT_.out (by kernel_rfl)) (fun _ _ _ h => h) (Or.inl ⟨by rfl, ?_⟩) ?_ ?_; rotate_left; (· (intro w'; go_simp; with_reducible rfl)); rotate_left; (· (simp only [Act.put, List.setIfInBounds_toArray, List.set_cons_zero, List.set_cons_succ, i64_w, i32_w]; rfl))
    refine pure_ (i := 2) (N := some 94) (v := ?_) (a' := ?_) #[true, false, true, false, false, false, false, false, false, false, false, false, false, false, false, false, false, false, false, false, false] rfl rfl (any_of HT_.out (by kernel_rfl)) (fun _ _ _ h => h) (Or.inl ⟨by rfl, ?_⟩) ?_ ?_; rotate_left; (· (intro w'; go_simp; with_reducible rfl)); rotate_left; (· (simp only [Act.put, List.setIfInBounds_toArray, List.set_cons_zero, List.set_cons_succ, i64_w, i32_w]; rfl))
    refine pure_ (i := 3) (N := some 95) (v := ?_) (a' := ?_) #[true, false, true, true, false, false, false, false, false, false, false, false, false, false, false, false, false, false, false, false, false] rfl rfl (any_of HT_.out (by kernel_rfl)) (fun _ _ _ h => h) (Or.inl ⟨by rfl, ?_⟩) ?_ ?_; rotate_left; (· (intro w'; go_simp; with_reducible rfl)); rotate_left; (· (simp only [Act.put, List.setIfInBounds_toArray, List.set_cons_zero, List.set_cons_succ, i64_w, i32_w]; rfl))
    refine pure_ (i := 4) (N := some 96) (v := ?_) (a' := ?_) #[true, false, true, true, true, false, false, false, false, false, false, false, false, false, false, false, false, false, false, false, false] rfl rfl (any_of HT_.out (by kernel_rfl)) (fun _ _ _ h => h) (Or.inl ⟨by rfl, ?_⟩) ?_ ?_; rotate_left; (· (intro w'; go_simp; with_reducible rfl)); rotate_left; (· (simp only [Act.put, List.setIfInBounds_toArray, List.set_cons_zero, List.set_cons_succ, i64_w, i32_w]; rfl))
    refine pure_ (i := 5) (N := some 97) (v := ?_) (a' := ?_) #[true, false, true, true, true, true, false, false, false, false, false, false, false, false, false, false, false, false, false, false, false] rfl rfl (any_of HT_.out (by kernel_rfl)) (fun _ _ _ h => h) (Or.inl ⟨by rfl, ?_⟩) ?_ ?_; rotate_left; (· (intro w'; go_simp; with_reducible rfl)); rotate_left; (· (simp only [Act.put, List.setIfInBounds_toArray, List.set_cons_zero, List.set_cons_succ, i64_w, i32_w]; rfl))
    refine pure_ (i := 8) (N := some 100) (v := ?_) (a' := ?_) #[true, false, true, true, true, true, false, false, true, false, false, false, false, false, false, false, false, false, false, false, false] rfl rfl (any_of HT_.out (by kernel_rfl)) (fun _ _ _ h => h) (Or.inl ⟨by rfl, ?_⟩) ?_ ?_; rotate_left; (· (intro w'; go_simp; with_reducible rfl)); rotate_left; (· (simp only [Act.put, List.setIfInBounds_toArray, List.set_cons_zero, List.set_cons_succ, i64_w, i32_w]; rfl))
    refine pure_ (i := 11) (N := some 103) (v := ?_) (a' := ?_) #[true, false, true, true, true, true, false, false, true, false, false, true, false, false, false, false, false, false, false, false, false] rfl rfl (any_of HT_.out (by kernel_rfl)) (fun _ _ _ h => h) (Or.inl ⟨by rfl, ?_⟩) ?_ ?_; rotate_left; (· (intro w'; go_simp; with_reducible rfl)); rotate_left; (· (simp only [Act.put, List.setIfInBounds_toArray, List.set_cons_zero, List.set_cons_succ, i64_w, i32_w]; rfl))
    refine pure_ (i := 12) (N := some 104) (v := ?_) (a' := ?_) #[true, false, true, true, true, true, false, false, true, false, false, true, true, false, false, false, false, false, false, false, false] rfl rfl (any_of HT_.out (by kernel_rfl)) (fun _ _ _ h => h) (Or.inl ⟨by rfl, ?_⟩) ?_ ?_; rotate_left; (· (intro w'; go_simp; with_reducible rfl)); rotate_left; (· (simp only [Act.put, List.setIfInBounds_toArray, List.set_cons_zero, List.set_cons_succ, i64_w, i32_w]; rfl))
    refine pure_ (i := 13) (N := some 105) (v := ?_) (a' := ?_) #[true, false, true, true, true, true, false, false, true, false, false, true, true, true, false, false, false, false, false, false, false] rfl rfl (any_of HT_.out (by kernel_rfl)) (fun _ _ _ h => h) (Or.inl ⟨by rfl, ?_⟩) ?_ ?_; rotate_left; (· (intro w'; go_simp; with_reducible rfl)); rotate_left; (· (simp only [Act.put, List.setIfInBounds_toArray, List.set_cons_zero, List.set_cons_succ, i64_w, i32_w]; rfl))
    refine take_ (i := 1) (N := some 93) (v := ?_) (a' := ?_) #[true, true, true, true, true, true, false, false, true, false, false, true, true, true, false, false, false, false, false, false, false] rfl rfl (take_ofW HT_.out HW_.out (by kernel_rfl)) (fun _ _ _ h => h) (Or.inl ⟨by rfl, ?_⟩) hHeld ?_ ?_; rotate_left; (· (rintro w' ⟨s0, s1, s2, s3, s4, s5, s6, s7, s8, s9, s10, s11, s12, s13, s14, s15, s16⟩; go_simp; with_reducible rfl)); rotate_left; (· (simp only [Act.put, List.setIfInBounds_toArray, List.set_cons_zero, List.set_cons_succ, i64_w, i32_w]; rfl))
    refine take_ (i := 6) (N := some 98) (v := ?_) (a' := ?_) #[true, true, true, true, true, true, true, false, true, false, false, true, true, true, false, false, false, false, false, false, false] rfl rfl (take_ofW HT_.out HW_.out (by kernel_rfl)) (fun _ _ _ h => h) (Or.inl ⟨by rfl, ?_⟩) hHeld ?_ ?_; rotate_left; (· (rintro w' ⟨s0, s1, s2, s3, s4, s5, s6, s7, s8, s9, s10, s11, s12, s13, s14, s15, s16⟩; go_simp; with_reducible rfl)); rotate_left; (· (simp only [Act.put, List.setIfInBounds_toArray, List.set_cons_zero, List.set_cons_succ, i64_w, i32_w]; rfl))
    refine pure_ (i := 7) (N := some 99) (v := ?_) (a' := ?_) #[true, true, true, true, true, true, true, true, true, false, false, true, true, true, false, false, false, false, false, false, false] rfl rfl (any_of HT_.out (by kernel_rfl)) (fun _ _ _ h => h) (Or.inl ⟨by rfl, ?_⟩) ?_ ?_; rotate_left; (· (intro w'; go_simp; with_reducible rfl)); rotate_left; (· (simp only [Act.put, List.setIfInBounds_toArray, List.set_cons_zero, List.set_cons_succ, i64_w, i32_w]; rfl))
    refine take_ (i := 9) (N := some 101) (v := ?_) (a' := ?_) #[true, true, true, true, true, true, true, true, true, true, false, true, true, true, false, false, false, false, false, false, false] rfl rfl (take_ofW HT_.out HW_.out (by kernel_rfl)) (fun _ _ _ h => h) (Or.inl ⟨by rfl, ?_⟩) hHeld ?_ ?_; rotate_left; (· (rintro w' ⟨s0, s1, s2, s3, s4, s5, s6, s7, s8, s9, s10, s11, s12, s13, s14, s15, s16⟩; go_simp; with_reducible rfl)); rotate_left; (· (simp only [Act.put, List.setIfInBounds_toArray, List.set_cons_zero, List.set_cons_succ, i64_w, i32_w]; rfl))
    refine pure_ (i := 17) (N := some 109) (v := ?_) (a' := ?_) #[true, true, true, true, true, true, true, true, true, true, false, true, true, true, false, false, false, true, false, false, false] rfl rfl (any_of HT_.out (by kernel_rfl)) (fun _ _ _ h => h) (Or.inl ⟨by rfl, ?_⟩) ?_ ?_; rotate_left; (· (intro w'; go_simp; with_reducible rfl)); rotate_left; (· (simp only [Act.put, List.setIfInBounds_toArray, List.set_cons_zero, List.set_cons_succ, i64_w, i32_w]; rfl))
    refine take_ (i := 10) (N := some 102) (v := ?_) (a' := ?_) #[true, true, true, true, true, true, true, true, true, true, true, true, true, true, false, false, false, true, false, false, false] rfl rfl (take_ofW HT_.out HW_.out (by kernel_rfl)) (fun _ _ _ h => h) (Or.inl ⟨by rfl, ?_⟩) hHeld ?_ ?_; rotate_left; (· (rintro w' ⟨s0, s1, s2, s3, s4, s5, s6, s7, s8, s9, s10, s11, s12, s13, s14, s15, s16⟩; go_simp; with_reducible rfl)); rotate_left; (· (simp only [Act.put, List.setIfInBounds_toArray, List.set_cons_zero, List.set_cons_succ, i64_w, i32_w]; rfl))
    refine take_ (i := 14) (N := some 106) (v := ?_) (a' := ?_) #[true, true, true, true, true, true, true, true, true, true, true, true, true, true, true, false, false, true, false, false, false] rfl rfl (take_ofW HT_.out HW_.out (by kernel_rfl)) (fun _ _ _ h => h) (Or.inl ⟨by rfl, ?_⟩) hHeld ?_ ?_; rotate_left; (· (rintro w' ⟨s0, s1, s2, s3, s4, s5, s6, s7, s8, s9, s10, s11, s12, s13, s14, s15, s16⟩; go_simp; with_reducible rfl)); rotate_left; (· (simp only [Act.put, List.setIfInBounds_toArray, List.set_cons_zero, List.set_cons_succ, i64_w, i32_w]; rfl))
    -- ONE 15
    refine one_ (i := 15) (N := some 107) #[true, true, true, true, true, true, true, true, true, true, true, true, true, true, true, true, false, true, false, false, false] rfl rfl (one_of HT_.out (by kernel_rfl)) (by decide) (fun K hK => ?_)
    refine goes_ Try.func15 (by kernel_rfl) rfl #[.agg #[.slice A0_0 l0_0.length c0_0, .slice A0_1 l0_1.length c0_1, .slice A0_2 l0_2.length c0_2, .int .i64 a0_3, .int .i64 a0_4, .int .i64 a0_5, .int .i64 a0_6, .int .i64 a0_7, .int .i64 a0_8], .agg #[.int .i64 (rd_T28 l1 i).f0, .int .i64 (rd_T28 l1 i).f1, .int .i64 (rd_T28 l1 i).f2, .int .i64 (rd_T28 l1 i).f3, .int .i64 (rd_T28 l1 i).f4, .int .i64 (rd_T28 l1 i).f5]] (by rfl) rfl rfl (by (try simp only [List.map_toArray, List.map_cons, List.map_nil]); first | done | rfl | (simp only [List.length_drop, List.length_take]; rfl)) ?_
    obtain ⟨_, rfl, KE, hKE⟩ := energy_is l0_0 l0_1 l0_2 a0_3 a0_4 a0_5 a0_6 a0_7 a0_8 (rd_T28 l1 i).f0 (rd_T28 l1 i).f1 (rd_T28 l1 i).f2 (rd_T28 l1 i).f3 (rd_T28 l1 i).f4 (rd_T28 l1 i).f5
    with_reducible refine (dormouseref01_Energy.calls KE _ _ l0_0 _ _ l0_1 _ _ l0_2 a0_3 a0_4 a0_5 a0_6 a0_7 a0_8 (rd_T28 l1 i).f0 (rd_T28 l1 i).f1 (rd_T28 l1 i).f2 (rd_T28 l1 i).f3 (rd_T28 l1 i).f4 (rd_T28 l1 i).f5 _ _ ?side1 ?side2 ?side3 ?side4 ?side5 ?side6 (hKE KE (Nat.le_refl _))).mono ?_
    (case side1 => exact (Kd.C_below HR0_0.out HB.out))
    (case side2 => exact HC0_0.out)
    (case side3 => exact (Kd.C_below HR0_1.out HB.out))
    (case side4 => exact HC0_1.out)
    (case side5 => exact (Kd.C_below HR0_2.out HB.out))
    (case side6 => exact HC0_2.out)
    rintro e w12 ⟨rfl, hb⟩
    refine ⟨_, rfl, ?_⟩
    have n0_ := Aside0.mk (blk_below BKb.out hb); have n1_ := Aside0.mk (blk_below BKp.out hb); have n2_ := Aside0.mk (blk_below BKr.out hb); have n4_ := Aside0.mk (below_step HB.out hb); clear BKb BKp BKr HB hb hKE KE; have BKb := n0_; have BKp := n1_; have BKr := n2_; have HB := n4_; clear n0_ n1_ n2_ n4_
    refine hK.out _ _ ⟨arrN_cell BKb.out 3 (by omega), arrN_cell BKb.out 4 (by omega), (blk_cell BKp.out 0).trans rfl, (blk_cell BKp.out 1).trans rfl, (blk_cell BKp.out 2).trans rfl, (blk_cell BKp.out 3).trans rfl, (blk_cell BKp.out 4).trans rfl, (blk_cell BKp.out 5).trans rfl, (blk_cell BKp.out 6).trans rfl, (blk_cell BKp.out 7).trans rfl, (blk_cell BKp.out 8).trans rfl, ((HB.out.cell (World.block_lt_of_cell? w _ HX0.out)).trans HX0.out), ((HB.out.cell (World.block_lt_of_cell? w _ HX1.out)).trans HX1.out), ((HB.out.cell (World.block_lt_of_cell? w _ HX2.out)).trans HX2.out), ((HB.out.cell (World.block_lt_of_cell? w _ HX3.out)).trans HX3.out), ((HB.out.cell (World.block_lt_of_cell? w _ HX4.out)).trans HX4.out), ((HB.out.cell (World.block_lt_of_cell? w _ HX5.out)).trans HX5.out)⟩ (fun hHeld => ?_)
    clear hK K
    refine norm_ (a' := ?_) ?_ ?_
    rotate_left
    · show Act.put _ (some 107) _ = _
      simp only [Act.put, List.setIfInBounds_toArray, List.set_cons_zero, List.set_cons_succ, i64_w, i32_w]
      rfl
    refine pure_ (i := 16) (N := some 108) (v := ?_) (a' := ?_) #[true, true, true, true, true, true, true, true, true, true, true, true, true, true, true, true, true, true, false, false, false] rfl rfl (any_of HT_.out (by kernel_rfl)) (fun _ _ _ h => h) (Or.inl ⟨by rfl, ?_⟩) ?_ ?_; rotate_left; (· (intro w'; go_simp; with_reducible rfl)); rotate_left; (· (simp only [Act.put, List.setIfInBounds_toArray, List.set_cons_zero, List.set_cons_succ, i64_w, i32_w]; rfl))
    -- ONE 18
    have a3 : w12.cell? ⟨gb, 3, none⟩ = some (.int .i64 (V 3)) := arrN_cell BKb.out 3 (by omega)
    have d3 := blk_frozen BKb.out 3
    have a4 : w12.cell? ⟨gb, 4, none⟩ = some (.int .i64 (V 4)) := arrN_cell BKb.out 4 (by omega)
    have d4 := blk_frozen BKb.out 4
    refine last_ (i := 18) (N := none) #[true, true, true, true, true, true, true, true, true, true, true, true, true, true, true, true, true, true, true, false, false] rfl rfl (one_of HT_.out (by kernel_rfl)) (by decide) (fun K hK => ?_)
    refine skip_ (w1 := ?_) (by rfl) rfl ?_ ?_
    rotate_left
    · go_simp
      rfl
    refine hK.out _ _ ?_
    clear hK K
    refine pure_ (i := 19) (N := some 110) (v := ?_) (a' := ?_) #[true, true, true, true, true, true, true, true, true, true, true, true, true, true, true, true, true, true, true, true, false] rfl rfl (any_of HT_.out (by kernel_rfl)) (fun _ _ _ h => h) (Or.inl ⟨by rfl, ?_⟩) ?_ ?_; rotate_left; (· (intro w'; go_simp; with_reducible rfl)); rotate_left; (· (simp only [Act.put, List.setIfInBounds_toArray, List.set_cons_zero, List.set_cons_succ, i64_w, i32_w]; rfl))
    -- ONE 20
    refine last_ (i := 20) (N := none) #[true, true, true, true, true, true, true, true, true, true, true, true, true, true, true, true, true, true, true, true, true] rfl rfl (one_of HT_.out (by kernel_rfl)) (by decide) (fun K hK => ?_)
    refine skip_ (w1 := ?_) (by rfl) rfl ?_ ?_
    rotate_left
    · go_simp
      rfl
    refine hK.out _ _ ?_
    clear hK K
    refine done_ (done_of HT_.out (by kernel_rfl)) ?_
    try go_wp2
    go_roundg k1
    case measure => omega
    case rel => exact ⟨i + 1, by first | rfl | rw [next], HI1, ⟨by (repeat (with_reducible refine blk_far ?_ npb _)); exact BKp.out⟩, ⟨by (repeat (with_reducible refine blk_far ?_ nrb _)); exact BKr.out⟩, ⟨by rw [hsucc.out, eb]; exact arrN_put (arrN_put BKb.out 3 _) 4 _⟩, ⟨by repeat (first | (with_reducible exact HB.out) | (with_reducible refine below_set ?_ GEb.out))⟩⟩
  obtain ⟨ad, e1, hx0, hx1, hx2, hx3⟩ := at_T63 HR2.out i hi0 c
  cases e1
  have hw0 := (HB.out.cell (World.block_lt_of_cell? w _ hx0)).trans hx0
  have hw1 := (HB.out.cell (World.block_lt_of_cell? w _ hx1)).trans hx1
  have hw2 := (HB.out.cell (World.block_lt_of_cell? w _ hx2)).trans hx2
  have hw3 := (HB.out.cell (World.block_lt_of_cell? w _ hx3)).trans hx3
  clear hx0 hx1 hx2 hx3
  have c0 : decide (i < (l2.length : Int)) = true := decide_eq_true c
  have p0 := eq_true hi0
  have q0 := eq_true c
  cases gk with
  | zero => exact absurd HI.out.2 (by omega)
  | succ k1 =>
  have HI1 : Aside0 (0 ≤ i + 1 ∧ (k1 : Int) + (i + 1) = l2.length + 1) := ⟨by have := HI.out.2; omega⟩
  have next : wrap64 (i + 1) = i + 1 := wrap_id (by omega) (by have := HL2.out; omega)
  have hsucc := Aside0.mk (afterO_succ n l2 i hi0 c)
  go_upto_region 7 with (first | ((with_reducible refine gate_dst (N := 13) rfl ?_); refine box_event ?hg (N := 13) ?hd (cs := #[.int .i64 0, .int .i64 0, .int .i64 0, .int .i64 0]) (t := 63) ?hr ?_; (case hd => rfl); (case hg => rfl); (case hr => first | (go_simp; done) | (go_simp; rfl)); intro ge hg w6 hbox hb; have n0_ := Aside0.mk (below_step HB.out hb); have n1_ := Aside0.mk hbox; have n2_ := Aside0.mk ((by rw [hg]; exact (below_size HB.out)) : w.heap.size ≤ ge); have n3_ := Aside0.mk (blk_below (g := gp) BKp.out hb); have n4_ := Aside0.mk (blk_below (g := gr) BKr.out hb); have n5_ := Aside0.mk (blk_below (g := gb) BKb.out hb); have nbe : gb ≠ ge := (by have := blk_lt BKb.out; omega); have nre : gr ≠ ge := (by have := blk_lt BKr.out; omega); have npe : gp ≠ ge := (by have := blk_lt BKp.out; omega); have neb := nbe.symm; have ner := nre.symm; have nep := npe.symm; clear HB BKp BKr BKb; have HB := n0_; have BKe := n1_; have GEe := n2_; have BKp := n3_; have BKr := n4_; have BKb := n5_; clear n0_ n1_ n2_ n3_ n4_ n5_; clear hb hbox hg; have z0 : w6.cell? ⟨ge, 0, none⟩ = some (.int .i64 0) := (blk_cell BKe.out 0).trans rfl; have y0 := blk_frozen BKe.out 0; have z1 : w6.cell? ⟨ge, 1, none⟩ = some (.int .i64 0) := (blk_cell BKe.out 1).trans rfl; have y1 := blk_frozen BKe.out 1; have z2 : w6.cell? ⟨ge, 2, none⟩ = some (.int .i64 0) := (blk_cell BKe.out 2).trans rfl; have y2 := blk_frozen BKe.out 2; have z3 : w6.cell? ⟨ge, 3, none⟩ = some (.int .i64 0) := (blk_cell BKe.out 3).trans rfl; have y3 := blk_frozen BKe.out 3))
  have m0_ : Aside0 ((((((w6.setCell ⟨ge, 0, none⟩ (.int .i64 (rd_T63 l2 i).f0)).setCell ⟨ge, 1, none⟩ (.int .i64 (rd_T63 l2 i).f1)).setCell ⟨ge, 2, none⟩ (.int .i64 (rd_T63 l2 i).f2)).setCell ⟨ge, 3, none⟩ (.int .i64 (rd_T63 l2 i).f3))).heap[ge]? = some (.cells #[.int .i64 (rd_T63 l2 i).f0, .int .i64 (rd_T63 l2 i).f1, .int .i64 (rd_T63 l2 i).f2, .int .i64 (rd_T63 l2 i).f3] 63 (0, 0))) := ⟨by refine blk_put (cs := #[.int .i64 (rd_T63 l2 i).f0, .int .i64 (rd_T63 l2 i).f1, .int .i64 (rd_T63 l2 i).f2, .int .i64 0]) ?_ 3 _ rfl; refine blk_put (cs := #[.int .i64 (rd_T63 l2 i).f0, .int .i64 (rd_T63 l2 i).f1, .int .i64 0, .int .i64 0]) ?_ 2 _ rfl; refine blk_put (cs := #[.int .i64 (rd_T63 l2 i).f0, .int .i64 0, .int .i64 0, .int .i64 0]) ?_ 1 _ rfl; refine blk_put (cs := #[.int .i64 0, .int .i64 0, .int .i64 0, .int .i64 0]) ?_ 0 _ rfl; exact BKe.out⟩
  have m1_ : Aside0 ((((((w6.setCell ⟨ge, 0, none⟩ (.int .i64 (rd_T63 l2 i).f0)).setCell ⟨ge, 1, none⟩ (.int .i64 (rd_T63 l2 i).f1)).setCell ⟨ge, 2, none⟩ (.int .i64 (rd_T63 l2 i).f2)).setCell ⟨ge, 3, none⟩ (.int .i64 (rd_T63 l2 i).f3))).heap[gp]? = some (.cells #[.slice A0_0 l0_0.length c0_0, .slice A0_1 l0_1.length c0_1, .slice A0_2 l0_2.length c0_2, .int .i64 a0_3, .int .i64 a0_4, .int .i64 a0_5, .int .i64 a0_6, .int .i64 a0_7, .int .i64 a0_8] 26 (0, 0))) := ⟨by repeat (first | (with_reducible exact BKp.out) | (with_reducible refine blk_far ?_ npe _))⟩
  have m2_ : Aside0 ((((((w6.setCell ⟨ge, 0, none⟩ (.int .i64 (rd_T63 l2 i).f0)).setCell ⟨ge, 1, none⟩ (.int .i64 (rd_T63 l2 i).f1)).setCell ⟨ge, 2, none⟩ (.int .i64 (rd_T63 l2 i).f2)).setCell ⟨ge, 3, none⟩ (.int .i64 (rd_T63 l2 i).f3))).heap[gr]? = some (.cells #[.int .i64 0, .int .i64 0, .int .i64 0, .int .i64 0, .int .i64 0, .int .i64 0] 53 (0, 0))) := ⟨by repeat (first | (with_reducible exact BKr.out) | (with_reducible refine blk_far ?_ nre _))⟩
  have m3_ : Aside0 ((((((w6.setCell ⟨ge, 0, none⟩ (.int .i64 (rd_T63 l2 i).f0)).setCell ⟨ge, 1, none⟩ (.int .i64 (rd_T63 l2 i).f1)).setCell ⟨ge, 2, none⟩ (.int .i64 (rd_T63 l2 i).f2)).setCell ⟨ge, 3, none⟩ (.int .i64 (rd_T63 l2 i).f3))).heap[gb]? = some (.cells (arrN 6 v) 53 (0, 0))) := ⟨by repeat (first | (with_reducible exact BKb.out) | (with_reducible refine blk_far ?_ nbe _))⟩
  have m4_ : Aside0 (Below w.heap.size w (((((w6.setCell ⟨ge, 0, none⟩ (.int .i64 (rd_T63 l2 i).f0)).setCell ⟨ge, 1, none⟩ (.int .i64 (rd_T63 l2 i).f1)).setCell ⟨ge, 2, none⟩ (.int .i64 (rd_T63 l2 i).f2)).setCell ⟨ge, 3, none⟩ (.int .i64 (rd_T63 l2 i).f3)))) := ⟨by repeat (first | (with_reducible exact HB.out) | (with_reducible refine below_set ?_ GEe.out))⟩
  clear BKe BKp BKr BKb HB z0 z1 z2 z3 y0 y1 y2 y3 hw0 hw1 hw2 hw3 p0 q0 c0
  have BKe := m0_; have BKp := m1_; have BKr := m2_; have BKb := m3_; have HB := m4_
  clear m0_ m1_ m2_ m3_ m4_
  generalize (((((w6.setCell ⟨ge, 0, none⟩ (.int .i64 (rd_T63 l2 i).f0)).setCell ⟨ge, 1, none⟩ (.int .i64 (rd_T63 l2 i).f1)).setCell ⟨ge, 2, none⟩ (.int .i64 (rd_T63 l2 i).f2)).setCell ⟨ge, 3, none⟩ (.int .i64 (rd_T63 l2 i).f3))) = w7 at BKe BKp BKr BKb HB ⊢
  rw [HS.out] at hsucc
  have s0 : w7.cell? ⟨ge, 0, none⟩ = some (.int .i64 (rd_T63 l2 i).f0) := (blk_cell BKe.out 0).trans rfl
  have s1 : w7.cell? ⟨ge, 1, none⟩ = some (.int .i64 (rd_T63 l2 i).f1) := (blk_cell BKe.out 1).trans rfl
  have s2 : w7.cell? ⟨ge, 2, none⟩ = some (.int .i64 (rd_T63 l2 i).f2) := (blk_cell BKe.out 2).trans rfl
  have a0 : w7.cell? ⟨gb, 0, none⟩ = some (.int .i64 (v 0)) := arrN_cell BKb.out 0 (by omega)
  have d0 := blk_frozen BKb.out 0
  have a1 : w7.cell? ⟨gb, 1, none⟩ = some (.int .i64 (v 1)) := arrN_cell BKb.out 1 (by omega)
  have d1 := blk_frozen BKb.out 1
  have a2 : w7.cell? ⟨gb, 2, none⟩ = some (.int .i64 (v 2)) := arrN_cell BKb.out 2 (by omega)
  have d2 := blk_frozen BKb.out 2
  have a5 : w7.cell? ⟨gb, 5, none⟩ = some (.int .i64 (v 5)) := arrN_cell BKb.out 5 (by omega)
  have d5 := blk_frozen BKb.out 5
  by_cases kn : (rd_T63 l2 i).f1 = n
  case neg =>
    have knb : ((rd_T63 l2 i).f1 != n) = true := bne_iff_ne.mpr kn
    have ee : evO n (v, last, some_) (rd_T63 l2 i) = (v, last, some_) := by unfold evO; rw [if_neg kn]
    go_wp2
    go_roundg k1
    case measure => omega
    case rel => exact ⟨i + 1, v, last, some_, rfl, rfl, by first | rfl | rw [next], HI1, ⟨by rw [hsucc.out, ee]⟩, ⟨BKp.out⟩, ⟨BKr.out⟩, ⟨BKb.out⟩, ⟨HB.out⟩⟩
  have knb : ((rd_T63 l2 i).f1 != n) = false := bne_eq_false_iff_eq.mpr kn
  have hkn := Aside0.mk kn
  clear kn
  by_cases k1_ : (rd_T63 l2 i).f0 = 1
  · have kb1 : ((rd_T63 l2 i).f0 == 1) = true := beq_iff_eq.mpr k1_
    have kb2 : ((rd_T63 l2 i).f0 == 2) = false := by rw [k1_]; rfl
    have kb3 : ((rd_T63 l2 i).f0 == 3) = false := by rw [k1_]; rfl
    have hk1 := Aside0.mk k1_
    clear k1_
    go_upto_region 9 with (fail)
    refine start_ (n := 9) (S := fun w' => w'.cell? ⟨ge, 2, none⟩ = some (.int .i64 (rd_T63 l2 i).f2)) (ds := []) #[false, false, false, false, false, false, false, false, false] (by kernel_rfl) rfl rfl ((blk_cell (blk_drew BKe.out) 2).trans rfl) (fun hHeld => ?_); refine with_tabW ofr.tab9 ofr.bits9 (fun HT_ HW_ => ?_)
    have n0_ := Aside0.mk (blk_drew BKe.out); have n1_ := Aside0.mk (blk_drew BKp.out); have n2_ := Aside0.mk (blk_drew BKr.out); have n3_ := Aside0.mk (blk_drew BKb.out); have n4_ := Aside0.mk (HB.out.drew); clear BKe BKp BKr BKb HB s0 s1 s2 a0 a1 a2 a5 d0 d1 d2 d5; have BKe := n0_; have BKp := n1_; have BKr := n2_; have BKb := n3_; have HB := n4_; clear n0_ n1_ n2_ n3_ n4_; generalize w7.drew = w8 at BKe BKp BKr BKb HB hHeld ⊢
    refine pure_ (i := 0) (N := some 32) (v := ?_) (a' := ?_) #[true, false, false, false, false, false, false, false, false] rfl rfl (any_of HT_.out (by kernel_rfl)) (fun _ _ _ h => h) (Or.inl ⟨by rfl, ?_⟩) ?_ ?_; rotate_left; (· (intro w'; go_simp; with_reducible rfl)); rotate_left; (· (simp only [Act.put, List.setIfInBounds_toArray, List.set_cons_zero, List.set_cons_succ, i64_w, i32_w]; rfl))
    refine pure_ (i := 3) (N := some 35) (v := ?_) (a' := ?_) #[true, false, false, true, false, false, false, false, false] rfl rfl (any_of HT_.out (by kernel_rfl)) (fun _ _ _ h => h) (Or.inl ⟨by rfl, ?_⟩) ?_ ?_; rotate_left; (· (intro w'; go_simp; with_reducible rfl)); rotate_left; (· (simp only [Act.put, List.setIfInBounds_toArray, List.set_cons_zero, List.set_cons_succ, i64_w, i32_w]; rfl))
    refine take_ (i := 4) (N := some 36) (v := ?_) (a' := ?_) #[true, false, false, true, true, false, false, false, false] rfl rfl (take_ofW HT_.out HW_.out (by kernel_rfl)) (fun _ _ _ h => h) (Or.inl ⟨by rfl, ?_⟩) hHeld ?_ ?_; rotate_left; (· (rintro w' s0; go_simp; with_reducible rfl)); rotate_left; (· (simp only [Act.put, List.setIfInBounds_toArray, List.set_cons_zero, List.set_cons_succ, i64_w, i32_w]; rfl))
    -- ONE 1
    refine one_ (i := 1) (N := some 33) #[true, true, false, true, true, false, false, false, false] rfl rfl (one_of HT_.out (by kernel_rfl)) (by decide) (fun K hK => ?_)
    have a0 : w8.cell? ⟨gb, 0, none⟩ = some (.int .i64 (v 0)) := arrN_cell BKb.out 0 (by omega)
    have d0 := blk_frozen BKb.out 0
    refine value_ (w1 := w8) (v := .int .i64 (v 0)) (by rfl) rfl (by first | (go_simp; done) | (go_simp; rfl)) ?_
    refine hK.out _ _ ((blk_cell BKe.out 2).trans rfl) (fun hHeld => ?_)
    clear hK K
    refine norm_ (a' := ?_) ?_ ?_
    rotate_left
    · show Act.put _ (some 33) _ = _
      simp only [Act.put, List.setIfInBounds_toArray, List.set_cons_zero, List.set_cons_succ, i64_w, i32_w]
      rfl
    refine pure_ (i := 2) (N := some 34) (v := ?_) (a' := ?_) #[true, true, true, true, true, false, false, false, false] rfl rfl (any_of HT_.out (by kernel_rfl)) (fun _ _ _ h => h) (Or.inl ⟨by rfl, ?_⟩) ?_ ?_; rotate_left; (· (intro w'; go_simp; with_reducible rfl)); rotate_left; (· (simp only [Act.put, List.setIfInBounds_toArray, List.set_cons_zero, List.set_cons_succ, i64_w, i32_w]; rfl))
    refine pure_ (i := 5) (N := some 37) (v := ?_) (a' := ?_) #[true, true, true, true, true, true, false, false, false] rfl rfl (any_of HT_.out (by kernel_rfl)) (fun _ _ _ h => h) (Or.inl ⟨by rfl, ?_⟩) ?_ ?_; rotate_left; (· (intro w'; go_simp; with_reducible rfl)); rotate_left; (· (simp only [Act.put, List.setIfInBounds_toArray, List.set_cons_zero, List.set_cons_succ, i64_w, i32_w]; rfl))
    -- ONE 6
    refine one_ (i := 6) (N := none) #[true, true, true, true, true, true, true, false, false] rfl rfl (one_of HT_.out (by kernel_rfl)) (by decide) (fun K hK => ?_)
    refine skip_ (w1 := w8.setCell ⟨gb, 0, none⟩ (.int .i64 (wrap64 (v 0 + 1)))) (by rfl) rfl (by first | (go_simp; done) | (go_simp; rfl)) ?_
    refine hK.out _ _ ((blk_cell (blk_far BKe.out neb _) 2).trans rfl) (fun hHeld => ?_)
    clear hK K
    refine pure_ (i := 7) (N := some 10) (v := ?_) (a' := ?_) #[true, true, true, true, true, true, true, true, false] rfl rfl (any_of HT_.out (by kernel_rfl)) (fun _ _ _ h => h) (Or.inl ⟨by rfl, ?_⟩) ?_ ?_; rotate_left; (· (intro w'; go_simp; with_reducible rfl)); rotate_left; (· (simp only [Act.put, List.setIfInBounds_toArray, List.set_cons_zero, List.set_cons_succ, i64_w, i32_w]; rfl))
    refine pure_ (i := 8) (N := some 11) (v := ?_) (a' := ?_) #[true, true, true, true, true, true, true, true, true] rfl rfl (any_of HT_.out (by kernel_rfl)) (fun _ _ _ h => h) (Or.inl ⟨by rfl, ?_⟩) ?_ ?_; rotate_left; (· (intro w'; go_simp; with_reducible rfl)); rotate_left; (· (simp only [Act.put, List.setIfInBounds_toArray, List.set_cons_zero, List.set_cons_succ, i64_w, i32_w]; rfl))
    refine done_ (done_of HT_.out (by kernel_rfl)) ?_
    have ee : evO n (v, last, some_) (rd_T63 l2 i) = (upd v 0 (wrap64 (v 0 + 1)), (rd_T63 l2 i).f2, true) := by unfold evO; rw [if_pos hkn.out, if_pos hk1.out]
    have m0_ : Aside0 ((w8.setCell ⟨gb, 0, none⟩ (.int .i64 (wrap64 (v 0 + 1)))).heap[gb]? = some (.cells (arrN 6 (upd v 0 (wrap64 (v 0 + 1)))) 53 (0, 0))) := ⟨arrN_put BKb.out 0 _⟩
    have m1_ := Aside0.mk (blk_far BKp.out (p := ⟨gb, 0, none⟩) npb (.int .i64 (wrap64 (v 0 + 1))))
    have m2_ := Aside0.mk (blk_far BKr.out (p := ⟨gb, 0, none⟩) nrb (.int .i64 (wrap64 (v 0 + 1))))
    have m3_ := Aside0.mk (blk_far BKe.out (p := ⟨gb, 0, none⟩) neb (.int .i64 (wrap64 (v 0 + 1))))
    have m4_ := Aside0.mk (HB.out.setCell (p := ⟨gb, 0, none⟩) GEb.out (.int .i64 (wrap64 (v 0 + 1))))
    clear BKb BKp BKr BKe HB a0 d0 hHeld HT_ HW_
    have BKb := m0_; have BKp := m1_; have BKr := m2_; have BKe := m3_; have HB := m4_
    clear m0_ m1_ m2_ m3_ m4_
    generalize (w8.setCell ⟨gb, 0, none⟩ (.int .i64 (wrap64 (v 0 + 1)))) = w9 at BKb BKp BKr BKe HB ⊢
    have s0 : w9.cell? ⟨ge, 0, none⟩ = some (.int .i64 (rd_T63 l2 i).f0) := (blk_cell BKe.out 0).trans rfl
    go_wp2
    go_roundg k1
    case measure => omega
    case rel => exact ⟨i + 1, _, _, true, rfl, rfl, by first | rfl | rw [next], HI1, ⟨by rw [hsucc.out, ee]⟩, ⟨BKp.out⟩, ⟨BKr.out⟩, ⟨BKb.out⟩, ⟨HB.out⟩⟩
  by_cases k2_ : (rd_T63 l2 i).f0 = 2
  · have kb1 : ((rd_T63 l2 i).f0 == 1) = false := by rw [k2_]; rfl
    have kb2 : ((rd_T63 l2 i).f0 == 2) = true := beq_iff_eq.mpr k2_
    have kb3 : ((rd_T63 l2 i).f0 == 3) = false := by rw [k2_]; rfl
    have hk2 := Aside0.mk k2_
    clear k2_
    have ee : evO n (v, last, some_) (rd_T63 l2 i) = lngO (upd v 1 (wrap64 (v 1 + 1)), last, some_) (rd_T63 l2 i).f2 := by unfold evO; rw [if_pos hkn.out, if_neg (by have := hk2.out; omega), if_pos hk2.out]
    go_upto_region 14 with (fail)
    have m0_ : Aside0 ((w7.setCell ⟨gb, 1, none⟩ (.int .i64 (wrap64 (v 1 + 1)))).heap[gb]? = some (.cells (arrN 6 (upd v 1 (wrap64 (v 1 + 1)))) 53 (0, 0))) := ⟨arrN_put BKb.out 1 _⟩
    have m1_ := Aside0.mk (blk_far BKp.out (p := ⟨gb, 1, none⟩) npb (.int .i64 (wrap64 (v 1 + 1))))
    have m2_ := Aside0.mk (blk_far BKr.out (p := ⟨gb, 1, none⟩) nrb (.int .i64 (wrap64 (v 1 + 1))))
    have m3_ := Aside0.mk (blk_far BKe.out (p := ⟨gb, 1, none⟩) neb (.int .i64 (wrap64 (v 1 + 1))))
    have m4_ := Aside0.mk (HB.out.setCell (p := ⟨gb, 1, none⟩) GEb.out (.int .i64 (wrap64 (v 1 + 1))))
    clear BKb BKp BKr BKe HB s0 s1 s2 a0 a1 a2 a5 d0 d1 d2 d5
    have BKb := m0_; have BKp := m1_; have BKr := m2_; have BKe := m3_; have HB := m4_
    clear m0_ m1_ m2_ m3_ m4_
    generalize (w7.setCell ⟨gb, 1, none⟩ (.int .i64 (wrap64 (v 1 + 1)))) = w8 at BKb BKp BKr BKe HB ⊢
    obtain ⟨u, hu⟩ : ∃ u, Aside0 (u = upd v 1 (wrap64 (v 1 + 1))) := ⟨_, ⟨rfl⟩⟩
    rw [← hu.out] at BKb ee
    have s0 : w8.cell? ⟨ge, 0, none⟩ = some (.int .i64 (rd_T63 l2 i).f0) := (blk_cell BKe.out 0).trans rfl
    have s2 : w8.cell? ⟨ge, 2, none⟩ = some (.int .i64 (rd_T63 l2 i).f2) := (blk_cell BKe.out 2).trans rfl
    have a5 : w8.cell? ⟨gb, 5, none⟩ = some (.int .i64 (u 5)) := arrN_cell BKb.out 5 (by omega)
    have d5 := blk_frozen BKb.out 5
    cases some_
    · have ee2 : lngO (u, last, false) (rd_T63 l2 i).f2 = (u, last, false) := rfl
      go_wp2
      go_roundg k1
      case measure => omega
      case rel => exact ⟨i + 1, _, _, false, rfl, rfl, by first | rfl | rw [next], HI1, ⟨by rw [hsucc.out, ee, ee2]⟩, ⟨BKp.out⟩, ⟨BKr.out⟩, ⟨BKb.out⟩, ⟨HB.out⟩⟩
    have ee2 : lngO (u, last, true) (rd_T63 l2 i).f2 = (upd u 5 (mxx (u 5) (wrap64 ((rd_T63 l2 i).f2 - last))), last, true) := rfl
    go_wp2_with (first | ((with_reducible refine gate_callee (f := 34) rfl ?_); refine goesL_ (some 69) rfl rfl Try.func34 (by kernel_rfl) rfl #[.int .i64 (u 5), .int .i64 (wrap64 ((rd_T63 l2 i).f2 - last))] rfl (by (try simp only [List.map_toArray, List.map_cons, List.map_nil]); first | done | rfl | (simp only [List.length_drop, List.length_take]; rfl)) ?_; (with_reducible refine (dormouseref01_Max.calls _ _ _ _ (maxO _ _)).mono ?_); rintro e w9 ⟨rfl, ⟨nd, rfl⟩⟩; refine ⟨_, rfl, ?_⟩))
    go_roundg k1
    case measure => omega
    case rel => exact ⟨i + 1, _, _, true, rfl, rfl, by first | rfl | rw [next], HI1, ⟨by rw [hsucc.out, ee, ee2]⟩, ⟨by (repeat (first | (with_reducible refine blk_drewN ?_ _) | (with_reducible refine blk_drew ?_) | (with_reducible refine blk_far ?_ npb _))); exact BKp.out⟩, ⟨by (repeat (first | (with_reducible refine blk_drewN ?_ _) | (with_reducible refine blk_drew ?_) | (with_reducible refine blk_far ?_ nrb _))); exact BKr.out⟩, ⟨by (repeat (first | (with_reducible refine blk_drewN ?_ _) | (with_reducible refine blk_drew ?_))); refine arrN_put ?_ 5 _; (repeat (first | (with_reducible refine blk_drewN ?_ _) | (with_reducible refine blk_drew ?_))); exact BKb.out⟩, ⟨by repeat (first | (with_reducible exact HB.out) | (with_reducible first | apply below_alloc | apply pw_below_drewN | apply below_drew1) | (with_reducible refine below_set ?_ GEb.out))⟩⟩
  by_cases k3_ : (rd_T63 l2 i).f0 = 3
  · have kb1 : ((rd_T63 l2 i).f0 == 1) = false := by rw [k3_]; rfl
    have kb2 : ((rd_T63 l2 i).f0 == 2) = false := by rw [k3_]; rfl
    have kb3 : ((rd_T63 l2 i).f0 == 3) = true := beq_iff_eq.mpr k3_
    have hk3 := Aside0.mk k3_
    clear k3_
    have ee : evO n (v, last, some_) (rd_T63 l2 i) = lngO (upd v 2 (wrap64 (v 2 + 1)), last, some_) (rd_T63 l2 i).f2 := by unfold evO; rw [if_pos hkn.out, if_neg (by have := hk3.out; omega), if_neg (by have := hk3.out; omega), if_pos hk3.out]
    go_upto_region 14 with (fail)
    have m0_ : Aside0 ((w7.setCell ⟨gb, 2, none⟩ (.int .i64 (wrap64 (v 2 + 1)))).heap[gb]? = some (.cells (arrN 6 (upd v 2 (wrap64 (v 2 + 1)))) 53 (0, 0))) := ⟨arrN_put BKb.out 2 _⟩
    have m1_ := Aside0.mk (blk_far BKp.out (p := ⟨gb, 2, none⟩) npb (.int .i64 (wrap64 (v 2 + 1))))
    have m2_ := Aside0.mk (blk_far BKr.out (p := ⟨gb, 2, none⟩) nrb (.int .i64 (wrap64 (v 2 + 1))))
    have m3_ := Aside0.mk (blk_far BKe.out (p := ⟨gb, 2, none⟩) neb (.int .i64 (wrap64 (v 2 + 1))))
    have m4_ := Aside0.mk (HB.out.setCell (p := ⟨gb, 2, none⟩) GEb.out (.int .i64 (wrap64 (v 2 + 1))))
    clear BKb BKp BKr BKe HB s0 s1 s2 a0 a1 a2 a5 d0 d1 d2 d5
    have BKb := m0_; have BKp := m1_; have BKr := m2_; have BKe := m3_; have HB := m4_
    clear m0_ m1_ m2_ m3_ m4_
    generalize (w7.setCell ⟨gb, 2, none⟩ (.int .i64 (wrap64 (v 2 + 1)))) = w8 at BKb BKp BKr BKe HB ⊢
    obtain ⟨u, hu⟩ : ∃ u, Aside0 (u = upd v 2 (wrap64 (v 2 + 1))) := ⟨_, ⟨rfl⟩⟩
    rw [← hu.out] at BKb ee
    have s0 : w8.cell? ⟨ge, 0, none⟩ = some (.int .i64 (rd_T63 l2 i).f0) := (blk_cell BKe.out 0).trans rfl
    have s2 : w8.cell? ⟨ge, 2, none⟩ = some (.int .i64 (rd_T63 l2 i).f2) := (blk_cell BKe.out 2).trans rfl
    have a5 : w8.cell? ⟨gb, 5, none⟩ = some (.int .i64 (u 5)) := arrN_cell BKb.out 5 (by omega)
    have d5 := blk_frozen BKb.out 5
    cases some_
    · have ee2 : lngO (u, last, false) (rd_T63 l2 i).f2 = (u, last, false) := rfl
      go_wp2
      go_roundg k1
      case measure => omega
      case rel => exact ⟨i + 1, _, _, false, rfl, rfl, by first | rfl | rw [next], HI1, ⟨by rw [hsucc.out, ee, ee2]⟩, ⟨BKp.out⟩, ⟨BKr.out⟩, ⟨BKb.out⟩, ⟨HB.out⟩⟩
    have ee2 : lngO (u, last, true) (rd_T63 l2 i).f2 = (upd u 5 (mxx (u 5) (wrap64 ((rd_T63 l2 i).f2 - last))), last, true) := rfl
    go_wp2_with (first | ((with_reducible refine gate_callee (f := 34) rfl ?_); refine goesL_ (some 69) rfl rfl Try.func34 (by kernel_rfl) rfl #[.int .i64 (u 5), .int .i64 (wrap64 ((rd_T63 l2 i).f2 - last))] rfl (by (try simp only [List.map_toArray, List.map_cons, List.map_nil]); first | done | rfl | (simp only [List.length_drop, List.length_take]; rfl)) ?_; (with_reducible refine (dormouseref01_Max.calls _ _ _ _ (maxO _ _)).mono ?_); rintro e w9 ⟨rfl, ⟨nd, rfl⟩⟩; refine ⟨_, rfl, ?_⟩))
    go_roundg k1
    case measure => omega
    case rel => exact ⟨i + 1, _, _, true, rfl, rfl, by first | rfl | rw [next], HI1, ⟨by rw [hsucc.out, ee, ee2]⟩, ⟨by (repeat (first | (with_reducible refine blk_drewN ?_ _) | (with_reducible refine blk_drew ?_) | (with_reducible refine blk_far ?_ npb _))); exact BKp.out⟩, ⟨by (repeat (first | (with_reducible refine blk_drewN ?_ _) | (with_reducible refine blk_drew ?_) | (with_reducible refine blk_far ?_ nrb _))); exact BKr.out⟩, ⟨by (repeat (first | (with_reducible refine blk_drewN ?_ _) | (with_reducible refine blk_drew ?_))); refine arrN_put ?_ 5 _; (repeat (first | (with_reducible refine blk_drewN ?_ _) | (with_reducible refine blk_drew ?_))); exact BKb.out⟩, ⟨by repeat (first | (with_reducible exact HB.out) | (with_reducible first | apply below_alloc | apply pw_below_drewN | apply below_drew1) | (with_reducible refine below_set ?_ GEb.out))⟩⟩
  have kb1 : ((rd_T63 l2 i).f0 == 1) = false := beq_eq_false_iff_ne.mpr k1_
  have kb2 : ((rd_T63 l2 i).f0 == 2) = false := beq_eq_false_iff_ne.mpr k2_
  have kb3 : ((rd_T63 l2 i).f0 == 3) = false := beq_eq_false_iff_ne.mpr k3_
  have ee : evO n (v, last, some_) (rd_T63 l2 i) = (v, last, some_) := by unfold evO; rw [if_pos hkn.out, if_neg k1_, if_neg k2_, if_neg k3_]
  clear k1_ k2_ k3_
  cases some_
  · go_wp2
    go_roundg k1
    case measure => omega
    case rel => exact ⟨i + 1, v, last, false, rfl, rfl, by first | rfl | rw [next], HI1, ⟨by rw [hsucc.out, ee]⟩, ⟨BKp.out⟩, ⟨BKr.out⟩, ⟨BKb.out⟩, ⟨HB.out⟩⟩
  go_wp2
  go_roundg k1
  case measure => omega
  case rel => exact ⟨i + 1, v, last, true, rfl, rfl, by first | rfl | rw [next], HI1, ⟨by rw [hsucc.out, ee]⟩, ⟨BKp.out⟩, ⟨BKr.out⟩, ⟨BKb.out⟩, ⟨HB.out⟩⟩
end Go.Proofs.Ytfimgecceneagaa.PAll
