/- Parts of the proof: Memory in colours: each block has a colour; a call changes blocks of certain colours alone. Rules for the propositions of V, Reading boxes and lists, Propositions of function bodies (printed by gen.py). -/
import Derived.Test.YtajilfnceoeaiaaGreatZa0
import Derived.Below
import Derived.Laws.OwnMore
import Derived.Laws.MakeOwn
import Derived.Laws.CopyOwn
set_option linter.unusedVariables false
set_option linter.unusedSimpArgs false
/- Memory in colours: each block has a colour; a call changes blocks of certain colours alone. Rules for the propositions of V. -/
namespace Go.Proofs.YtajilfnceoeaiaaGreat.V
open Go Go.RowKit

abbrev Own := Nat → Nat
def setO (o : Own) (b c : Nat) : Own := fun x => if x = b then c else o x
/-- From (o, w) to (o', w'): only blocks of the colours C have changed; new blocks have come. -/
structure Up (C : Nat → Bool) (o : Own) (w : World) (o' : Own) (w' : World) : Prop where
  os : w'.os = w.os
  tape : w'.tape = w.tape
  output : w'.output = w.output
  size : w.heap.size ≤ w'.heap.size
  own : ∀ b, b < w.heap.size → o' b = o b
  block : ∀ b, b < w.heap.size → C (o b) = false → w'.heap[b]? = w.heap[b]?
def no : Nat → Bool := fun _ => false
def only (l : List Nat) : Nat → Bool := fun c => l.contains c
def hue : Nat → Bool := fun c => c != 0
section
variable {C D : Nat → Bool} {o o' o'' : Own} {w w' w'' : World}
theorem Up.refl : Up C o w o w := ⟨rfl, rfl, rfl, Nat.le_refl _, fun _ _ => rfl, fun _ _ _ => rfl⟩
theorem Up.trans (h : Up C o w o' w') (k : Up C o' w' o'' w'') : Up C o w o'' w'' :=
  ⟨k.os.trans h.os, k.tape.trans h.tape, k.output.trans h.output, Nat.le_trans h.size k.size,
    fun b hb => (k.own b (Nat.lt_of_lt_of_le hb h.size)).trans (h.own b hb),
    fun b hb hC => (k.block b (Nat.lt_of_lt_of_le hb h.size) (by rw [h.own b hb]; exact hC)).trans (h.block b hb hC)⟩
theorem Up.mono (h : Up C o w o' w') (hD : ∀ c, D c = false → C c = false) : Up D o w o' w' :=
  ⟨h.os, h.tape, h.output, h.size, h.own, fun b hb hd => h.block b hb (hD _ hd)⟩
theorem Up.of_no (h : Up no o w o' w') : Up D o w o' w' := h.mono fun _ _ => rfl
theorem Up.below (h : Up no o w o' w') : Below w.heap.size w w' := ⟨h.os, h.tape, h.output, h.size, fun b hb => h.block b hb rfl⟩
theorem Up.of_below (h : Below w.heap.size w w') : Up C o w o w' := ⟨h.os, h.tape, h.output, h.size, fun _ _ => rfl, fun b hb _ => h.block b hb⟩
theorem Up.alloc (x : Obj) (c : Nat) : Up C o w (setO o w.heap.size c) (w.alloc x) :=
  ⟨rfl, rfl, rfl, by simp, fun b hb => by simp [setO, Nat.ne_of_lt hb], fun b hb _ => Below.heap_alloc w x b hb⟩
theorem Up.alloc' (x : Obj) : Up C o w o (w.alloc x) := Up.of_below ⟨rfl, rfl, rfl, by simp, fun b hb => Below.heap_alloc w x b hb⟩
theorem Up.drew : Up C o w o w.drew := ⟨rfl, rfl, rfl, Nat.le_refl _, fun _ _ => rfl, fun _ _ _ => rfl⟩
theorem Up.set1 {b : Nat} (hC : C (o b) = true) (hb : ∀ k, k ≠ b → w'.heap[k]? = w.heap[k]?) (h1 : w'.os = w.os) (h2 : w'.tape = w.tape) (h3 : w'.output = w.output) (h4 : w'.heap.size = w.heap.size) : Up C o w o w' :=
  ⟨h1, h2, h3, Nat.le_of_eq h4.symm, fun _ _ => rfl, fun k _ hk => hb k fun e => by subst e; rw [hC] at hk; cases hk⟩
theorem bdrew {o : World} : Below o.heap.size o o.drew := ⟨rfl, rfl, rfl, Nat.le_refl _, fun _ _ => rfl⟩

structure Blk (o : Own) (w : World) (c b : Nat) (x : Obj) : Prop where
  own : o b = c
  heap : w.heap[b]? = some x
theorem lt_of_heap {b : Nat} {x : Obj} (h : w.heap[b]? = some x) : b < w.heap.size := (Array.getElem?_eq_some_iff.1 h).1
theorem Blk.up {c b : Nat} {x : Obj} (h : Blk o w c b x) (u : Up C o w o' w') (hC : C c = false) : Blk o' w' c b x :=
  ⟨(u.own b (lt_of_heap h.heap)).trans h.own, (u.block b (lt_of_heap h.heap) (by rw [h.own]; exact hC)).trans h.heap⟩
theorem Blk.new (x : Obj) (c : Nat) : Blk (setO o w.heap.size c) (w.alloc x) c w.heap.size x := ⟨by simp [setO], by show (w.heap.push x)[w.heap.size]? = _; simp⟩
theorem Blk.cell {c b : Nat} {cs : Array Value} {t : TypeId} {fr : Nat × Nat} (h : Blk o w c b (.cells cs t fr)) (i : Nat) : w.cell? ⟨b, i, none⟩ = cs[i]? := by
  simp [World.cell?, h.heap]
theorem Blk.free {c b : Nat} {cs : Array Value} {t : TypeId} (h : Blk o w c b (.cells cs t (0, 0))) (i : Nat) : w.frozen? ⟨b, i, none⟩ = false := by
  simp [World.frozen?, h.heap]

/-- A slice whose elements (of sz cells each) read as xs; its block is of colour c. -/
structure Rd (o : Own) (w : World) (c sz : Nat) (s : Sl) (xs : List Value) : Prop where
  len : xs.length = s.n * sz
  max : s.n ≤ maxLen
  rd : xs ≠ [] → ∃ b off, s.a = some ⟨b, off, none⟩ ∧ o b = c ∧ b < w.heap.size ∧ ∀ j v, xs[j]? = some v → w.cell? ⟨b, off + j, none⟩ = some v
theorem Rd.up {c sz : Nat} {s : Sl} {xs : List Value} (h : Rd o w c sz s xs) (u : Up C o w o' w') (hC : C c = false) : Rd o' w' c sz s xs :=
  ⟨h.len, h.max, fun hne => by
    obtain ⟨b, off, h1, h2, h3, h4⟩ := h.rd hne
    refine ⟨b, off, h1, (u.own b h3).trans h2, Nat.lt_of_lt_of_le h3 u.size, fun j v hj => ?_⟩
    rw [← h4 j v hj]
    exact World.cell?_of_block (w := w) (u.block b h3 (by rw [h2]; exact hC))⟩
theorem Rd.nil {c sz : Nat} {s : Sl} (h : s.n = 0) : Rd o w c sz s [] := ⟨by simp [h], by simp [h], fun h => absurd rfl h⟩
/-- A slice of the kernel's own: its block's head; behind its end there may be room. -/
structure Row (o : Own) (w : World) (c : Nat) (e : TypeId) (sz : Nat) (s : Sl) (xs : List Value) : Prop where
  own : w.ownsRow 0 e sz (.slice s.a s.n s.c) s.n xs
  hue : ∀ a, s.a = some a → o a.block = c
theorem Row.up {c e sz : Nat} {s : Sl} {xs : List Value} (h : Row o w c e sz s xs) (u : Up C o w o' w') (hC : C c = false) : Row o' w' c e sz s xs := by
  obtain ⟨⟨hlen, hr⟩, hh⟩ := h
  rcases hr with ⟨h1, h2⟩ | ⟨g, cap, cur, h1, h2, h3, h4⟩
  · have ha : s.a = none := by simp only [Value.slice.injEq] at h1; exact h1.1
    exact ⟨⟨hlen, .inl ⟨h1, h2⟩⟩, fun a he => by rw [ha] at he; cases he⟩
  · have ha : s.a = some ⟨g, 0, none⟩ := by simp only [Value.slice.injEq] at h1; exact h1.1
    have hg := lt_of_heap h3
    have ho := hh _ ha
    refine ⟨⟨hlen, .inr ⟨g, cap, cur, h1, h2, (u.block g hg (by rw [ho]; exact hC)).trans h3, h4⟩⟩, fun a he => ?_⟩
    obtain rfl : a = ⟨g, 0, none⟩ := by rw [ha] at he; cases he; rfl
    exact (u.own g hg).trans ho
theorem Row.rd {c e sz : Nat} {s : Sl} {xs : List Value} (h : Row o w c e sz s xs) : Rd o w c sz s xs := by
  obtain ⟨⟨hlen, hr⟩, hh⟩ := h
  refine ⟨hlen, ?_, fun hne => ?_⟩
  · rcases hr with ⟨h1, h2⟩ | ⟨g, cap, cur, h1, h2, h3, h4, h5, h6, h7⟩
    · rw [h2]; exact Nat.zero_le _
    · exact Nat.le_trans h4 h5
  rcases hr with ⟨h1, h2⟩ | ⟨g, cap, cur, h1, h2, h3, h4, h5, h6, h7⟩
  · rw [h2] at hlen
    simp at hlen
    exact absurd hlen hne
  · have ha : s.a = some ⟨g, 0, none⟩ := by simp only [Value.slice.injEq] at h1; exact h1.1
    refine ⟨g, 0, ha, hh _ ha, lt_of_heap h3, fun j v hj => ?_⟩
    have hj' : j < xs.length := (List.getElem?_eq_some_iff.1 hj).1
    simp only [World.cell?, h3, Nat.zero_add, Option.isSome_none, Bool.false_eq_true, if_false]
    rw [← h7, List.getElem?_take_of_lt (by omega)] at hj
    simpa using hj
end
/-! ### Rules -/
section
variable {w : World}
theorem WA {a : Addr} {F : Addr → Prop} (h : F a) : WithAddr (some a) F := h
theorem If_t {x y : Prop} (h : x) : If true x y := h
theorem If_f {x y : Prop} (h : y) : If false x y := h
theorem If_d {c : Prop} [Decidable c] {x y : Prop} (h : c → x) (k : ¬ c → y) : If (decide c) x y := by
  by_cases hc : c
  · simp only [hc, decide_true]; exact h hc
  · simp only [hc, decide_false]; exact k hc
theorem If_b {b : Bool} {x y : Prop} (h : b = true → x) (k : b = false → y) : If b x y := by
  cases b
  · exact k rfl
  · exact h rfl
theorem If_eq {a b : Int} {x y : Prop} (h : a = b → x) (k : a ≠ b → y) : If (a == b) x y := If_b (fun e => h (by simpa using e)) (fun e => k (by simpa using e))
theorem If_ne {a b : Int} {x y : Prop} (h : a ≠ b → x) (k : a = b → y) : If (a != b) x y := If_b (fun e => h (by simpa using e)) (fun e => k (by simpa using e))
theorem If_not {b : Bool} {x y : Prop} (h : If b y x) : If (!b) x y := by cases b <;> exact h
theorem If_nil {a : Option Addr} {x y : Prop} (h : a = none → x) (k : ∀ b, a = some b → y) : If (Option.isNone a) x y := by
  cases a with
  | none => exact h rfl
  | some b => exact k b rfl
theorem exK_mono : ∀ {cs : List C1} {K K' : Cur (World → Prop) cs} {r : List Value → Prop} {w : World}, exK cs K r w → (∀ vs, apl (fun _ => False) cs K vs w → apl (fun _ => False) cs K' vs w) → exK cs K' r w
  | [], K, K', r, w, ⟨h1, h2⟩, hk => ⟨h1, hk [] h2⟩
  | c :: cs, K, K', r, w, ⟨x, h⟩, hk => by
    refine ⟨x, exK_mono h fun vs hv => ?_⟩
    have hu : c.un (c.val x) = some x := by cases c <;> simp [C1.un, C1.val]
    have := hk (c.val x :: vs) (by rw [apl_some _ hu]; exact hv)
    rwa [apl_some _ hu] at this
/-- A call's result and what stands behind it. -/
theorem Call.imp {P : Program} {f : FuncId} {args : List Value} {sh : List Sh} {K K' : Cur (World → Prop) (flat sh)} (h : Call P f args sh K w) (hk : ∀ vs w', apl (fun _ => False) (flat sh) K vs w' → apl (fun _ => False) (flat sh) K' vs w') : Call P f args sh K' w :=
  Calls.mono h fun _ w' he => exK_mono he fun vs hv => hk vs w' hv
theorem Call.imp0 {P : Program} {f : FuncId} {args : List Value} {K K' : World → Prop} (h : Call P f args [] K w) (hk : ∀ w', K w' → K' w') : Call P f args [] K' w :=
  Calls.mono h fun _ w' ⟨h1, h2⟩ => ⟨h1, hk w' h2⟩
theorem Call.imp1 {P : Program} {f : FuncId} {args : List Value} {c : C1} {K K' : c.T → World → Prop} (h : Call P f args [⟨false, [c]⟩] K w) (hk : ∀ x w', K x w' → K' x w') : Call P f args [⟨false, [c]⟩] K' w :=
  Calls.mono h fun _ w' ⟨x, h1, h2⟩ => ⟨x, h1, hk x w' h2⟩
theorem Call.imp2 {P : Program} {f : FuncId} {args : List Value} {c d : C1} {K K' : c.T → d.T → World → Prop} (h : Call P f args [⟨false, [c]⟩, ⟨false, [d]⟩] K w) (hk : ∀ x y w', K x y w' → K' x y w') : Call P f args [⟨false, [c]⟩, ⟨false, [d]⟩] K' w :=
  Calls.mono h fun _ w' ⟨x, y, h1, h2⟩ => ⟨x, y, h1, hk x y w' h2⟩
theorem Call.imp3 {P : Program} {f : FuncId} {args : List Value} {c d e : C1} {K K' : c.T → d.T → e.T → World → Prop} (h : Call P f args [⟨false, [c]⟩, ⟨false, [d]⟩, ⟨false, [e]⟩] K w) (hk : ∀ x y z w', K x y z w' → K' x y z w') : Call P f args [⟨false, [c]⟩, ⟨false, [d]⟩, ⟨false, [e]⟩] K' w :=
  Calls.mono h fun _ w' ⟨x, y, z, h1, h2⟩ => ⟨x, y, z, h1, hk x y z w' h2⟩
theorem Addr.add_mk (b off n : Nat) : (⟨b, off, none⟩ : Addr).add n = ⟨b, off + n, none⟩ := by
  unfold Addr.add; split <;> simp_all
theorem Ld_of {c : C1} {a : Addr} {K : c.T → World → Prop} {x : c.T} (h : w.cell? a = some (c.val x)) (k : K x w) : Ld c a K w := ⟨x, h, k⟩
theorem LdN_of : ∀ {cs : List C1} {i : Nat} {a : Addr} {K : Cur (World → Prop) cs} {vs : List Value}, (∀ j v, vs[j]? = some v → w.cell? (a.add (i + j)) = some v) → apl (fun _ => False) cs K vs w → LdN cs i a K w
  | [], i, a, K, [], _, hk => hk
  | [], i, a, K, _ :: _, _, hk => by rw [apl_nil_cons] at hk; exact hk.elim
  | _ :: _, i, a, K, [], _, hk => by rw [apl_cons_nil] at hk; exact hk.elim
  | c :: cs, i, a, K, v :: vs, h, hk => by
    cases hx : c.un v with
    | none => rw [apl_none _ hx] at hk; exact hk.elim
    | some x =>
      rw [apl_some _ hx] at hk
      refine ⟨x, ?_, LdN_of (vs := vs) (fun j v hj => ?_) hk⟩
      · rw [← C1.un_val c v x hx]
        simpa using h 0 v rfl
      · have := h (j + 1) v (by simpa using hj)
        rwa [show i + (j + 1) = i + 1 + j by omega] at this
theorem splice_set {α : Type} (cur : List α) (k : Nat) (v : α) (vs : List α) (h : k < cur.length) : splice (cur.set k v) (k + 1) vs = splice cur k (v :: vs) := by
  unfold splice
  rw [List.take_add_one, List.take_set_of_le (Nat.le_refl _), List.getElem?_set_self h, List.drop_set_of_lt (by omega)]
  simp [Nat.add_assoc, Nat.add_comm 1]
theorem StN_of : ∀ {vs : List Value} {i : Nat} {b off : Nat} {K : World → Prop} {w : World} {cur : List Value} {t : TypeId}, w.heap[b]? = some (.cells cur.toArray t (0, 0)) → off + i + vs.length ≤ cur.length →
    (∀ w' : World, w'.heap[b]? = some (.cells (splice cur (off + i) vs).toArray t (0, 0)) → (∀ k, k ≠ b → w'.heap[k]? = w.heap[k]?) → w'.os = w.os → w'.tape = w.tape → w'.output = w.output → w'.heap.size = w.heap.size → K w') → StN vs i ⟨b, off, none⟩ K w
  | [], i, b, off, K, w, cur, t, hb, hl, hk => by
    refine hk w ?_ (fun _ _ => rfl) rfl rfl rfl rfl
    rw [hb]
    congr 2
    simp [splice]
  | v :: vs, i, b, off, K, w, cur, t, hb, hl, hk => by
    simp only [List.length_cons] at hl
    have hlt : off + i < cur.length := by omega
    unfold StN St
    rw [Addr.add_mk]
    refine ⟨⟨cur[off + i], by simp [World.cell?, hb, hlt]⟩, by simp [World.frozen?, hb], ?_⟩
    have hb' : (w.setCell ⟨b, off + i, none⟩ v).heap[b]? = some (.cells (cur.set (off + i) v).toArray t (0, 0)) := by
      simp only [World.setCell, Array.getElem?_modify, if_true, hb, Option.map_some]
      simp
    refine StN_of (cur := cur.set (off + i) v) hb' (by simp; omega) fun w' h1 h2 h3 h4 h5 h6 => ?_
    refine hk w' ?_ (fun k hk' => ?_) h3 h4 h5 (by rw [h6]; simp)
    · rw [h1, show off + (i + 1) = off + i + 1 by omega, splice_set cur (off + i) v vs hlt]
    · rw [h2 k hk']
      exact Below.heap_setCell _ _ _ _ hk'
end
end Go.Proofs.YtajilfnceoeaiaaGreat.V
/- Reading boxes and lists. -/
namespace Go.Proofs.YtajilfnceoeaiaaGreat.V
open Go Go.RowKit
/-- From a place on, the cells hold vs. -/
structure Bx (w : World) (b off : Nat) (vs : List Value) : Prop where
  lt : b < w.heap.size
  cell : ∀ i v, vs[i]? = some v → w.cell? ⟨b, off + i, none⟩ = some v
theorem Bx.below {w w' : World} {b off : Nat} {vs : List Value} (h : Bx w b off vs) (u : Below w.heap.size w w') : Bx w' b off vs :=
  ⟨Nat.lt_of_lt_of_le h.lt u.size, fun i v hv => by rw [← h.cell i v hv]; exact u.cell (p := ⟨b, off + i, none⟩) h.lt⟩
theorem Bx.drew {w : World} {b off : Nat} {vs : List Value} (h : Bx w b off vs) : Bx w.drew b off vs := h.below bdrew
theorem Bx.up {C : Nat → Bool} {o o' : Own} {w w' : World} {b off : Nat} {vs : List Value} (h : Bx w b off vs) (u : Up C o w o' w') (hC : C (o b) = false) : Bx w' b off vs :=
  ⟨Nat.lt_of_lt_of_le h.lt u.size, fun i v hv => by rw [← h.cell i v hv]; exact World.cell?_of_block (w := w) (u.block b h.lt hC)⟩
theorem Bx.get {w : World} {b f : Nat} {vs : List Value} {v : Value} (h : Bx w b 0 vs) (hv : vs[f]? = some v) : w.cell? ((⟨b, 0, none⟩ : Addr).add f) = some v := by
  rw [Addr.add_mk]; exact h.cell f v hv
theorem Bx.get0 {w : World} {b f : Nat} {vs : List Value} {v : Value} (h : Bx w b 0 vs) (hv : vs[f]? = some v) : w.cell? (((⟨b, 0, none⟩ : Addr).add f).add 0) = some v := by
  rw [Addr.add_mk, Addr.add_mk]; exact h.cell f v hv
theorem Bx.ld {w : World} {b f : Nat} {vs : List Value} {c : C1} {x : c.T} {K : c.T → World → Prop} (h : Bx w b 0 vs) (hv : vs[f]? = some (c.val x)) (k : K x w) : Ld c ((⟨b, 0, none⟩ : Addr).add f) K w :=
  Ld_of (h.get hv) k
theorem Bx.ldN {w : World} {b off : Nat} {vs : List Value} {cs : List C1} {K : Cur (World → Prop) cs} (h : Bx w b off vs) (k : apl (fun _ => False) cs K vs w) : LdN cs 0 ⟨b, off, none⟩ K w :=
  LdN_of (fun j v hj => by rw [Addr.add_mk, Nat.zero_add]; exact h.cell j v hj) k
theorem Blk.bx {o : Own} {w : World} {c b : Nat} {cs : List Value} {t : TypeId} {fr : Nat × Nat} (h : Blk o w c b (.cells cs.toArray t fr)) : Bx w b 0 cs :=
  ⟨lt_of_heap h.heap, fun i v hv => by rw [h.cell, Nat.zero_add]; simpa using hv⟩
/-- A new box. -/
theorem New_of {cs : List Value} {t : TypeId} {K : Addr → World → Prop} {w : World} (h : ∀ b w', Bx w' b 0 cs → Below w.heap.size w w' → K ⟨b, 0, none⟩ w') : New cs t K w :=
  h _ _ (Blk.bx (o := setO (fun _ => 0) w.heap.size 0) (Blk.new _ _)) ⟨rfl, rfl, rfl, by simp, fun b hb => Below.heap_alloc w _ b hb⟩
/-- A new box, kept as a block of colour c. -/
theorem New_blk {cs : List Value} {t : TypeId} {K : Addr → World → Prop} {w : World} (o : Own) (c : Nat) (h : ∀ b o' w', Blk o' w' c b (.cells cs.toArray t (0, 0)) → Up no o w o' w' → b = w.heap.size → K ⟨b, 0, none⟩ w') : New cs t K w :=
  h _ _ _ (Blk.new _ _) (Up.alloc _ _) rfl
/-- A new box of zeros, written at once. -/
theorem NewSt_of {zs vs : List Value} {t : TypeId} {K : Addr → World → Prop} {w : World} (hl : zs.length = vs.length) (h : ∀ b w', Bx w' b 0 vs → Below w.heap.size w w' → K ⟨b, 0, none⟩ w') : New zs t (fun a w => StN vs 0 a (fun w => K a w) w) w := by
  unfold New
  have hb := Blk.new (o := fun _ => 0) (w := w) (.cells zs.toArray t) 0
  refine StN_of hb.heap (by simp [hl]) fun w' h1 h2 h3 h4 h5 h6 => h _ _ ?_ ⟨h3, h4, h5, by rw [h6]; simp, fun k hk => ?_⟩
  · have hs : splice zs (0 + 0) vs = vs := by simp [splice, hl]
    rw [hs] at h1
    exact Blk.bx (o := fun _ => 0) ⟨rfl, h1⟩
  · rw [h2 k (Nat.ne_of_lt hk)]
    exact Below.heap_alloc w _ k hk
theorem NewSt_blk {zs vs : List Value} {t : TypeId} {K : Addr → World → Prop} {w : World} (o : Own) (c : Nat) (hl : zs.length = vs.length) (h : ∀ b o' w', Blk o' w' c b (.cells vs.toArray t (0, 0)) → Up no o w o' w' → b = w.heap.size → K ⟨b, 0, none⟩ w') : New zs t (fun a w => StN vs 0 a (fun w => K a w) w) w := by
  unfold New
  have hb := Blk.new (o := o) (w := w) (.cells zs.toArray t) c
  refine StN_of hb.heap (by simp [hl]) fun w' h1 h2 h3 h4 h5 h6 => h w.heap.size (setO o w.heap.size c) w' ?_ ⟨h3, h4, h5, by rw [h6]; simp, fun k hk => by simp [setO, Nat.ne_of_lt hk], fun k hk _ => ?_⟩ rfl
  · have hs : splice zs (0 + 0) vs = vs := by simp [splice, hl]
    rw [hs] at h1
    exact ⟨hb.own, h1⟩
  · rw [h2 k (Nat.ne_of_lt hk)]
    exact Below.heap_alloc w _ k hk
 class Enc (α : Type) where
  enc : α → List Value
  sz : Nat
  len : ∀ x, (enc x).length = sz
  pos : 0 < sz
open Enc
instance : Enc Int := ⟨fun x => [.int .i64 x], 1, fun _ => rfl, by decide⟩
/-- The slice's elements read as l. -/
def RL {α : Type} [Enc α] (o : Own) (w : World) (c : Nat) (s : Sl) (l : List α) : Prop := Rd o w c (sz α) s (l.flatMap enc)
section
variable {α : Type} [Enc α] {o : Own} {w : World} {c : Nat} {s : Sl} {l : List α}
theorem length_flat (l : List α) : (l.flatMap enc).length = l.length * sz α := by
  induction l with
  | nil => simp
  | cons x l ih => simp [List.flatMap_cons, ih, len, Nat.add_mul, Nat.add_comm]
theorem flat_get : ∀ {l : List α} {k : Nat} {x : α}, l[k]? = some x → ∀ j v, (enc x)[j]? = some v → (l.flatMap enc)[k * sz α + j]? = some v
  | [], k, x, h, _, _, _ => by simp at h
  | y :: l, 0, x, h, j, v, hv => by
    obtain rfl : y = x := by simpa using h
    have hj := (List.getElem?_eq_some_iff.1 hv).1
    rw [List.flatMap_cons, Nat.zero_mul, Nat.zero_add, List.getElem?_append_left hj]
    exact hv
  | y :: l, k + 1, x, h, j, v, hv => by
    have ih := flat_get (l := l) (k := k) (by simpa using h) j v hv
    rw [List.flatMap_cons, List.getElem?_append_right (by rw [len, Nat.add_mul]; omega), len]
    rw [show (k + 1) * sz α + j - sz α = k * sz α + j by rw [Nat.add_mul]; omega]
    exact ih
theorem RL.up {C : Nat → Bool} {o' : Own} {w' : World} (h : RL o w c s l) (u : Up C o w o' w') (hC : C c = false) : RL o' w' c s l := Rd.up h u hC
theorem RL.below {w' : World} (h : RL o w c s l) (u : Below w.heap.size w w') : RL o w' c s l := Rd.up h (Up.of_below (C := no) u) rfl
theorem RL.n (h : RL o w c s l) : s.n = l.length := by
  have := h.len
  rw [length_flat] at this
  exact (Nat.eq_of_mul_eq_mul_right pos this).symm
theorem RL.nil (hs : s.n = 0) : RL o w c s ([] : List α) := Rd.nil hs
theorem RL.bx (h : RL o w c s l) {k : Nat} {x : α} (hx : l[k]? = some x) : ∃ b off, s.a = some ⟨b, off, none⟩ ∧ Bx w b (off + k * sz α) (enc x) := by
  have hne : l.flatMap enc ≠ [] := by
    intro e
    have h1 := (List.getElem?_eq_some_iff.1 hx).1
    have h2 := length_flat l
    rw [e] at h2
    have h3 : 0 < l.length * sz α := Nat.mul_pos (by omega) pos
    simp at h2
    omega
  obtain ⟨b, off, h1, h2, h3, h4⟩ := h.rd hne
  refine ⟨b, off, h1, h3, fun j v hv => ?_⟩
  rw [Nat.add_assoc]
  exact h4 _ v (flat_get hx j v hv)
theorem RL.at (h : RL o w c s l) {i : Int} {k : Nat} {x : α} (hi : i = (k : Int)) (hx : l[k]? = some x) {F : Addr → Prop} (hF : ∀ b off, Bx w b (off + k * sz α) (enc x) → F ⟨b, off, none⟩) :
    ((0 : Int) ≤ i ∧ i < ((s.n : Nat) : Int)) ∧ WithAddr s.a fun a => F a := by
  obtain ⟨b, off, h1, h2⟩ := h.bx hx
  have := (List.getElem?_eq_some_iff.1 hx).1
  rw [← h.n] at this
  refine ⟨⟨by omega, by omega⟩, ?_⟩
  rw [h1]
  exact hF b off h2
theorem RL.ldN (h : RL o w c s l) {i : Int} {k : Nat} {x : α} (hi : i = (k : Int)) (hx : l[k]? = some x) {cs : List C1} {K : Cur (World → Prop) cs} {z : Nat} (hz : z = sz α := by rfl) (hk : apl (fun _ => False) cs K (enc x) w) :
    ((0 : Int) ≤ i ∧ i < ((s.n : Nat) : Int)) ∧ WithAddr s.a fun a => LdN cs 0 (a.add (Int.toNat i * z)) K w := by
  refine h.at hi hx fun b off hb => ?_
  subst hi hz
  rw [Addr.add_mk, Int.toNat_natCast]
  exact hb.ldN hk
theorem RL.fld (h : RL o w c s l) {i : Int} {k : Nat} {x : α} (hi : i = (k : Int)) (hx : l[k]? = some x) {f : Nat} {e : C1} {y : e.T} {K : e.T → World → Prop} {z : Nat} (hz : z = sz α := by rfl) (hf : (enc x)[f]? = some (e.val y)) (hk : K y w) :
    ((0 : Int) ≤ i ∧ i < ((s.n : Nat) : Int)) ∧ WithAddr s.a fun a => Ld e ((a.add (Int.toNat i * z)).add f) K w := by
  refine h.at hi hx fun b off hb => ?_
  subst hi hz
  rw [Addr.add_mk, Addr.add_mk, Int.toNat_natCast]
  exact Ld_of (hb.cell f _ hf) hk
end
theorem RL.int {o : Own} {w : World} {c : Nat} {s : Sl} {l : List Int} (h : RL o w c s l) {i : Int} {k : Nat} {x : Int} (hi : i = (k : Int)) (hx : l[k]? = some x) {K : Int → World → Prop} (hk : K x w) :
    ((0 : Int) ≤ i ∧ i < ((s.n : Nat) : Int)) ∧ WithAddr s.a fun a => Ld (.ki .i64) (a.add (Int.toNat i * 1)) K w := by
  refine h.at hi hx fun b off hb => ?_
  subst hi
  rw [Addr.add_mk, Int.toNat_natCast]
  exact Ld_of (by have := hb.cell 0 _ rfl; rw [show sz Int = 1 from rfl] at this; simpa [C1.val] using this) hk
theorem Bx.ldPlat {w : World} {b off : Nat} {x : Plat} {K : Sl → Sl → Sl → Int → Int → Int → Int → Int → Int → World → Prop} (h : Bx w b off x.l) (k : K x.levels x.sleeps x.devices x.idle x.crit x.switch x.switchE x.sems x.horizon w) : LdN shPlat.cs 0 ⟨b, off, none⟩ K w := h.ldN k
instance : Enc Task := ⟨Task.l, 4, fun _ => rfl, by decide⟩
theorem Bx.ldTask {w : World} {b off : Nat} {x : Task} {K : Int → Int → Sl → Sl → World → Prop} (h : Bx w b off x.l) (k : K x.period x.cycles x.sec x.devs w) : LdN shTask.cs 0 ⟨b, off, none⟩ K w := h.ldN k
theorem RL.task {o : Own} {w : World} {c : Nat} {s : Sl} {l : List Task} (h : RL o w c s l) {i : Int} {k : Nat} {x : Task} (hi : i = (k : Int)) (hx : l[k]? = some x) {K : Int → Int → Sl → Sl → World → Prop} (hk : K x.period x.cycles x.sec x.devs w) :
    ((0 : Int) ≤ i ∧ i < ((s.n : Nat) : Int)) ∧ WithAddr s.a fun a => LdN shTask.cs 0 (a.add (Int.toNat i * 4)) K w := h.ldN hi hx (cs := shTask.cs) (K := K) rfl hk
theorem Bx.ldStep {w : World} {b off : Nat} {x : Step} {K : Int → Int → Int → Int → Int → Int → Sl → Sl → World → Prop} (h : Bx w b off x.l) (k : K x.kind x.a x.b x.c x.period x.cycles x.sec x.devs w) : LdN shStep.cs 0 ⟨b, off, none⟩ K w := h.ldN k
instance : Enc Event := ⟨Event.l, 4, fun _ => rfl, by decide⟩
theorem Bx.ldEvent {w : World} {b off : Nat} {x : Event} {K : Int → Int → Int → Int → World → Prop} (h : Bx w b off x.l) (k : K x.kind x.task x.at_ x.due w) : LdN shEvent.cs 0 ⟨b, off, none⟩ K w := h.ldN k
theorem RL.event {o : Own} {w : World} {c : Nat} {s : Sl} {l : List Event} (h : RL o w c s l) {i : Int} {k : Nat} {x : Event} (hi : i = (k : Int)) (hx : l[k]? = some x) {K : Int → Int → Int → Int → World → Prop} (hk : K x.kind x.task x.at_ x.due w) :
    ((0 : Int) ≤ i ∧ i < ((s.n : Nat) : Int)) ∧ WithAddr s.a fun a => LdN shEvent.cs 0 (a.add (Int.toNat i * 4)) K w := h.ldN hi hx (cs := shEvent.cs) (K := K) rfl hk
instance : Enc Job := ⟨Job.l, 6, fun _ => rfl, by decide⟩
theorem Bx.ldJob {w : World} {b off : Nat} {x : Job} {K : Int → Int → Int → Int → Int → Bool → World → Prop} (h : Bx w b off x.l) (k : K x.task x.release x.deadline x.left x.real x.started w) : LdN shJob.cs 0 ⟨b, off, none⟩ K w := h.ldN k
theorem RL.job {o : Own} {w : World} {c : Nat} {s : Sl} {l : List Job} (h : RL o w c s l) {i : Int} {k : Nat} {x : Job} (hi : i = (k : Int)) (hx : l[k]? = some x) {K : Int → Int → Int → Int → Int → Bool → World → Prop} (hk : K x.task x.release x.deadline x.left x.real x.started w) :
    ((0 : Int) ≤ i ∧ i < ((s.n : Nat) : Int)) ∧ WithAddr s.a fun a => LdN shJob.cs 0 (a.add (Int.toNat i * 6)) K w := h.ldN hi hx (cs := shJob.cs) (K := K) rfl hk
instance : Enc Device := ⟨Device.l, 7, fun _ => rfl, by decide⟩
theorem Bx.ldDevice {w : World} {b off : Nat} {x : Device} {K : Int → Int → Int → Int → Int → Int → Int → World → Prop} (h : Bx w b off x.l) (k : K x.on x.off x.down x.up x.downE x.upE x.even w) : LdN shDevice.cs 0 ⟨b, off, none⟩ K w := h.ldN k
theorem RL.device {o : Own} {w : World} {c : Nat} {s : Sl} {l : List Device} (h : RL o w c s l) {i : Int} {k : Nat} {x : Device} (hi : i = (k : Int)) (hx : l[k]? = some x) {K : Int → Int → Int → Int → Int → Int → Int → World → Prop} (hk : K x.on x.off x.down x.up x.downE x.upE x.even w) :
    ((0 : Int) ≤ i ∧ i < ((s.n : Nat) : Int)) ∧ WithAddr s.a fun a => LdN shDevice.cs 0 (a.add (Int.toNat i * 7)) K w := h.ldN hi hx (cs := shDevice.cs) (K := K) rfl hk
instance : Enc Away := ⟨Away.l, 2, fun _ => rfl, by decide⟩
theorem Bx.ldAway {w : World} {b off : Nat} {x : Away} {K : Int → Int → World → Prop} (h : Bx w b off x.l) (k : K x.from_ x.until_ w) : LdN shAway.cs 0 ⟨b, off, none⟩ K w := h.ldN k
theorem RL.away {o : Own} {w : World} {c : Nat} {s : Sl} {l : List Away} (h : RL o w c s l) {i : Int} {k : Nat} {x : Away} (hi : i = (k : Int)) (hx : l[k]? = some x) {K : Int → Int → World → Prop} (hk : K x.from_ x.until_ w) :
    ((0 : Int) ≤ i ∧ i < ((s.n : Nat) : Int)) ∧ WithAddr s.a fun a => LdN shAway.cs 0 (a.add (Int.toNat i * 2)) K w := h.ldN hi hx (cs := shAway.cs) (K := K) rfl hk
instance : Enc Interval := ⟨Interval.l, 6, fun _ => rfl, by decide⟩
theorem Bx.ldInterval {w : World} {b off : Nat} {x : Interval} {K : Int → Int → Int → Int → Int → Int → World → Prop} (h : Bx w b off x.l) (k : K x.kind x.from_ x.len x.arg x.task x.cycles w) : LdN shInterval.cs 0 ⟨b, off, none⟩ K w := h.ldN k
theorem RL.interval {o : Own} {w : World} {c : Nat} {s : Sl} {l : List Interval} (h : RL o w c s l) {i : Int} {k : Nat} {x : Interval} (hi : i = (k : Int)) (hx : l[k]? = some x) {K : Int → Int → Int → Int → Int → Int → World → Prop} (hk : K x.kind x.from_ x.len x.arg x.task x.cycles w) :
    ((0 : Int) ≤ i ∧ i < ((s.n : Nat) : Int)) ∧ WithAddr s.a fun a => LdN shInterval.cs 0 (a.add (Int.toNat i * 6)) K w := h.ldN hi hx (cs := shInterval.cs) (K := K) rfl hk
instance : Enc Meter := ⟨Meter.l, 4, fun _ => rfl, by decide⟩
theorem Bx.ldMeter {w : World} {b off : Nat} {x : Meter} {K : Int → Int → Int → Int → World → Prop} (h : Bx w b off x.l) (k : K x.run x.idle x.switch x.sleep w) : LdN shMeter.cs 0 ⟨b, off, none⟩ K w := h.ldN k
theorem RL.meter {o : Own} {w : World} {c : Nat} {s : Sl} {l : List Meter} (h : RL o w c s l) {i : Int} {k : Nat} {x : Meter} (hi : i = (k : Int)) (hx : l[k]? = some x) {K : Int → Int → Int → Int → World → Prop} (hk : K x.run x.idle x.switch x.sleep w) :
    ((0 : Int) ≤ i ∧ i < ((s.n : Nat) : Int)) ∧ WithAddr s.a fun a => LdN shMeter.cs 0 (a.add (Int.toNat i * 4)) K w := h.ldN hi hx (cs := shMeter.cs) (K := K) rfl hk
instance : Enc Held := ⟨Held.l, 3, fun _ => rfl, by decide⟩
theorem Bx.ldHeld {w : World} {b off : Nat} {x : Held} {K : Int → Int → Int → World → Prop} (h : Bx w b off x.l) (k : K x.task x.sem x.left w) : LdN shHeld.cs 0 ⟨b, off, none⟩ K w := h.ldN k
theorem RL.held {o : Own} {w : World} {c : Nat} {s : Sl} {l : List Held} (h : RL o w c s l) {i : Int} {k : Nat} {x : Held} (hi : i = (k : Int)) (hx : l[k]? = some x) {K : Int → Int → Int → World → Prop} (hk : K x.task x.sem x.left w) :
    ((0 : Int) ≤ i ∧ i < ((s.n : Nat) : Int)) ∧ WithAddr s.a fun a => LdN shHeld.cs 0 (a.add (Int.toNat i * 3)) K w := h.ldN hi hx (cs := shHeld.cs) (K := K) rfl hk
instance : Enc Level := ⟨Level.l, 2, fun _ => rfl, by decide⟩
theorem Bx.ldLevel {w : World} {b off : Nat} {x : Level} {K : Int → Int → World → Prop} (h : Bx w b off x.l) (k : K x.p x.e w) : LdN shLevel.cs 0 ⟨b, off, none⟩ K w := h.ldN k
theorem RL.level {o : Own} {w : World} {c : Nat} {s : Sl} {l : List Level} (h : RL o w c s l) {i : Int} {k : Nat} {x : Level} (hi : i = (k : Int)) (hx : l[k]? = some x) {K : Int → Int → World → Prop} (hk : K x.p x.e w) :
    ((0 : Int) ≤ i ∧ i < ((s.n : Nat) : Int)) ∧ WithAddr s.a fun a => LdN shLevel.cs 0 (a.add (Int.toNat i * 2)) K w := h.ldN hi hx (cs := shLevel.cs) (K := K) rfl hk
instance : Enc Sleep := ⟨Sleep.l, 6, fun _ => rfl, by decide⟩
theorem Bx.ldSleep {w : World} {b off : Nat} {x : Sleep} {K : Int → Int → Int → Int → Int → Int → World → Prop} (h : Bx w b off x.l) (k : K x.power x.enter x.exit x.enterE x.exitE x.even w) : LdN shSleep.cs 0 ⟨b, off, none⟩ K w := h.ldN k
theorem RL.sleep {o : Own} {w : World} {c : Nat} {s : Sl} {l : List Sleep} (h : RL o w c s l) {i : Int} {k : Nat} {x : Sleep} (hi : i = (k : Int)) (hx : l[k]? = some x) {K : Int → Int → Int → Int → Int → Int → World → Prop} (hk : K x.power x.enter x.exit x.enterE x.exitE x.even w) :
    ((0 : Int) ≤ i ∧ i < ((s.n : Nat) : Int)) ∧ WithAddr s.a fun a => LdN shSleep.cs 0 (a.add (Int.toNat i * 6)) K w := h.ldN hi hx (cs := shSleep.cs) (K := K) rfl hk
instance : Enc Item := ⟨Item.l, 2, fun _ => rfl, by decide⟩
theorem Bx.ldItem {w : World} {b off : Nat} {x : Item} {K : Int → Int → World → Prop} (h : Bx w b off x.l) (k : K x.key x.id w) : LdN shItem.cs 0 ⟨b, off, none⟩ K w := h.ldN k
theorem RL.item {o : Own} {w : World} {c : Nat} {s : Sl} {l : List Item} (h : RL o w c s l) {i : Int} {k : Nat} {x : Item} (hi : i = (k : Int)) (hx : l[k]? = some x) {K : Int → Int → World → Prop} (hk : K x.key x.id w) :
    ((0 : Int) ≤ i ∧ i < ((s.n : Nat) : Int)) ∧ WithAddr s.a fun a => LdN shItem.cs 0 (a.add (Int.toNat i * 2)) K w := h.ldN hi hx (cs := shItem.cs) (K := K) rfl hk
end Go.Proofs.YtajilfnceoeaiaaGreat.V
/- Propositions of function bodies (printed by gen.py). -/
namespace Go.Proofs.YtajilfnceoeaiaaGreat.V
open Go
set_option linter.unusedVariables false
set_option maxRecDepth 100000
theorem f15_of  {K : Bool → World → Prop} {w : World} (vc :
 New [.int .i64 1, .int .i64 2] 93 (fun a1 w =>
 Call P 35 [.agg #[.slice (some a1) 1 1, .slice none 0 0, .slice none 0 0, .int .i64 0, .int .i64 0, .int .i64 0, .int .i64 0, .int .i64 0, .int .i64 50]] [sP, sI] (fun p2 n3 w =>
 If (n3 != 0) (
 K false w) (
 If (Option.isNone p2) (
 K false w) (
 Call P 13 [.pointer p2, .agg #[.int .i64 1, .int .i64 0, .int .i64 0, .int .i64 0, .int .i64 10, .int .i64 2, .slice none 0 0, .slice none 0 0]] [sI, sI] (fun n4 n5 w =>
 Call P 13 [.pointer p2, .agg #[.int .i64 3, .int .i64 0, .int .i64 0, .int .i64 2, .int .i64 0, .int .i64 0, .slice none 0 0, .slice none 0 0]] [sI, sI] (fun n6 n7 w =>
 Call P 13 [.pointer p2, .agg #[.int .i64 4, .int .i64 3, .int .i64 0, .int .i64 0, .int .i64 0, .int .i64 0, .slice none 0 0, .slice none 0 0]] [sI, sI] (fun n8 n9 w =>
 Call P 16 [.pointer p2] [sS] (fun s10 w =>
 If (n5 == 0) (
 If (n7 == 0) (
 If (n9 == 0) (
 If (((s10.n : Nat) : Int) == 2) (
 ((0 : Int) ≤ 1 ∧ 1 < ((s10.n : Nat) : Int)) ∧ WithAddr s10.a fun a11 =>
 LdN shMeter.cs 0 (a11.add (Int.toNat 1 * 4)) (fun n12 n13 n14 n15 w =>
 Sm P ((do eqGuard .eql 45 (.tmp 62) (.tmp 63) (.agg #[.int .i64 n12, .int .i64 n13, .int .i64 n14, .int .i64 n15]) (.agg #[.int .i64 2, .int .i64 0, .int .i64 2, .int .i64 10]); binOp .eql 45 (.agg #[.int .i64 n12, .int .i64 n13, .int .i64 n14, .int .i64 n15]) (.agg #[.int .i64 2, .int .i64 0, .int .i64 2, .int .i64 10]) : Sem Value)) [sB] (fun b16 w =>
 If b16 (
 Call P 25 [.pointer p2] [shEvent] (fun n17 n18 n19 n20 w =>
 If (n17 == 4) (
 Call P 14 [.pointer p2] [sI] (fun n21 w =>
 K (n21 == 3) w) w) (
 K false w)) w) (
 K false w)) w) w) (
 K false w)) (
 K false w)) (
 K false w)) (
 K false w)) w) w) w) w))) w) w) : Call P 15 [] [sB] K w :=
  call_of (H := ⟨[], [], [], []⟩) Tryz.func15 (by kernel_rfl) (by kernel_rfl) vc

theorem f27_of (k : Option Addr) {K : Sl → World → Prop} {w : World} (vc :
 If (Option.isNone k) (
 K ⟨none, 0, 0⟩ w) (
 WithAddr k fun a1 =>
 Ld (.kp) (a1.add 20) (fun p2 w =>
 Call P 48 [.pointer p2] [sS] (fun s3 w =>
 K s3 w) w) w)) : Call P 27 [.pointer k] [sS] K w :=
  call_of (H := ⟨[], [], [], []⟩) Tryz.func27 (by kernel_rfl) (by kernel_rfl) vc

theorem f40_of (s : Option Addr) {K : Sl → World → Prop} {w : World} (vc :
 If (Option.isNone s) (
 K ⟨none, 0, 0⟩ w) (
 WithAddr s fun a1 =>
 Ld (.km) (a1.add 1) (fun m2 w =>
 Sm P (Builtin.len_ #[128] 3 [.map m2].toArray) [sI] (fun n3 w =>
 Sm P (Instr.makeSlice 47 (.int .i64 0) (.int .i64 n3)) [sS] (fun s4 w =>
 WithAddr s fun a5 =>
 Ld (.km) (a5.add 1) (fun m6 w =>
 Sm P (Instr.range 128 (.map m6)) [sP] (fun p7 w =>
 ∃ (I9 : Sl → World → Prop) (M10 : Sl → World → Nat), I9 s4 w ∧ ∀ (s8 : Sl) (v11 : World), I9 s8 v11 → ∀ _ : Nat → Value,
 (fun w : World =>
 ((∃ w' : World, Sem.run P (Instr.next (.pointer p7) false 0) w = Result.ok (.tuple #[.bool false]) w' ∧ (fun w : World =>
 Call P 74 [.slice s8.a s8.n s8.c, .func (.func 75) #[] #[]] [] (fun w =>
 K s8 w) w) w') ∨ (∃ (x12 x13 : Value) (w' : World), Sem.run P (Instr.next (.pointer p7) false 0) w = Result.ok (.tuple #[.bool true, x12, x13]) w' ∧ (fun w : World =>
 Sm P (Instr.entry (.pointer p7)) [sI, shJob] (fun n14 n15 n16 n17 n18 n19 b20 w =>
 New [.int .i64 0, .int .i64 0, .int .i64 0, .int .i64 0, .int .i64 0, .bool false] 50 (fun a21 w =>
 StN [.int .i64 n15, .int .i64 n16, .int .i64 n17, .int .i64 n18, .int .i64 n19, .bool b20] 0 a21 (fun w =>
 LdN shJob.cs 0 a21 (fun n22 n23 n24 n25 n26 b27 w =>
 New [.int .i64 n22, .int .i64 n23, .int .i64 n24, .int .i64 n25, .int .i64 n26, .bool b27] 50 (fun a28 w =>
 Sm P (Builtin.append_ #[47, 47] 47 [.slice s8.a s8.n s8.c, .slice (some a28) 1 1].toArray) [sS] (fun s29 w =>
 I9 s29 w ∧ M10 s29 w < M10 s8 v11) w) w) w) w) w) w) w'))) v11) w) w) w) w) w)) : Call P 40 [.pointer s] [sS] K w :=
  call_of (H := ⟨[(5, [(3, .ks)])], [], [], []⟩) Tryz.func40 (by kernel_rfl) (by kernel_rfl) vc

theorem f46_of (s : Sl) {K : Sl → World → Prop} {w : World} (vc :
 Sm P (Instr.sliceAt 35 (.slice s.a s.n s.c) none (some (.int .i64 ((s.n : Nat) : Int))) (some (.int .i64 ((s.n : Nat) : Int)))) [sS] (fun s1 w =>
 K s1 w) w) : Call P 46 [.slice s.a s.n s.c] [sS] K w :=
  call_of (H := ⟨[], [], [], []⟩) Tryz.func46 (by kernel_rfl) (by kernel_rfl) vc

theorem f52_of (s : Sleep) (idle : Int) {K : Bool → World → Prop} {w : World} (vc :
 New [.int .i64 s.power, .int .i64 s.enter, .int .i64 s.exit, .int .i64 s.enterE, .int .i64 s.exitE, .int .i64 s.even] 105 (fun a1 w =>
 Ld (.ki .i64) (a1.add 1) (fun n2 w =>
 Ld (.ki .i64) (a1.add 2) (fun n3 w =>
 Ld (.ki .i64) (a1.add 3) (fun n4 w =>
 Ld (.ki .i64) (a1.add 4) (fun n5 w =>
 Ld (.ki .i64) (a1.add 0) (fun n6 w =>
 Ld (.ki .i64) (a1.add 5) (fun n7 w =>
 Call P 83 [.int .i64 n2, .int .i64 n3, .int .i64 n4, .int .i64 n5, .int .i64 n6, .int .i64 idle, .int .i64 n7] [sB] (fun b8 w =>
 K b8 w) w) w) w) w) w) w) w) w) : Call P 52 [s.v, .int .i64 idle] [sB] K w :=
  call_of (H := ⟨[], [], [], []⟩) Tryz.func52 (by kernel_rfl) (by kernel_rfl) vc

theorem f58_of  {K : Option Addr → World → Prop} {w : World} (vc :
 Call P 92 [] [sP] (fun p1 w =>
 Sm P (Instr.makeMap 146 none) [sM] (fun m2 w =>
 New [.pointer p1, .map m2] 148 (fun a3 w =>
 K (some a3) w) w) w) w) : Call P 58 [] [sP] K w :=
  call_of (H := ⟨[], [], [], []⟩) Tryz.func58 (by kernel_rfl) (by kernel_rfl) vc

theorem f64_of (k : Option Addr) (n : Int) {K : Int → World → Prop} {w : World} (vc :
 Call P 102 [.int .i64 n, .int .i64 0, .int .i64 16384] [sB] (fun b1 w =>
 If (!b1) (
 K 1 w) (
 (fun w : World =>
 WithAddr k fun a2 =>
 Ld (.ki .i64) (a2.add 9) (fun n3 w =>
 WithAddr k fun a4 =>
 Ld (.ki .i64) ((a4.add 0).add 8) (fun n5 w =>
 ∃ (I6 : World → Prop) (M7 : World → Nat), I6 w ∧ ∀  (v8 : World), I6 v8 → ∀ _ : Nat → Value,
 (fun w : World =>
 WithAddr k fun a9 =>
 Ld (.ki .i64) (a9.add 9) (fun n10 w =>
 If (decide (n10 < (if n5 < IntKind.wrap .i64 (n3 + n) then n5 else IntKind.wrap .i64 (n3 + n)))) (
 Call P 104 [.pointer k] [] (fun w =>
 Call P 37 [.pointer k] [] (fun w =>
 I6 w ∧ M7 w < M7 v8) w) w) (
 K 0 w)) w) v8) w) w) w.drew)) w) : Call P 64 [.pointer k, .int .i64 n] [sI] K w :=
  call_of (H := ⟨[(4, [])], [], [(3, .take 0 (.take 1 (.take 2 (.take 3 (.take 4 (.take 5 (.take 6 (.take 7 (.take 8 (.take 9 (.take 10 (.take 11 (.take 12 .done)))))))))))))], []⟩) Tryz.func64 (by kernel_rfl) (by kernel_rfl) vc

theorem f70_of (s : Option Addr) (j : Job) {K : World → Prop} {w : World} (vc :
 New [.int .i64 j.task, .int .i64 j.release, .int .i64 j.deadline, .int .i64 j.left, .int .i64 j.real, .bool j.started] 50 (fun a1 w =>
 If (Option.isNone s) (
 K w) (
 (fun w : World =>
 WithAddr s fun a2 =>
 Ld (.kp) (a2.add 0) (fun p3 w =>
 Ld (.ki .i64) (a1.add 0) (fun n4 w =>
 Ld (.ki .i64) (a1.add 2) (fun n5 w =>
 Call P 113 [.pointer p3, .int .i64 n4, .int .i64 n5] [] (fun w =>
 (fun w : World =>
 WithAddr s fun a6 =>
 Ld (.km) (a6.add 1) (fun m7 w =>
 Ld (.ki .i64) (a1.add 0) (fun n8 w =>
 LdN shJob.cs 0 a1 (fun n9 n10 n11 n12 n13 b14 w =>
 SmU P (Instr.mapUpdate 128 (.map m7) (.int .i64 n8) (.agg #[.int .i64 n9, .int .i64 n10, .int .i64 n11, .int .i64 n12, .int .i64 n13, .bool b14])) (fun w =>
 K w) w) w) w) w) w.drew) w) w) w) w) w.drew)) w) : Call P 70 [.pointer s, j.v] [] K w :=
  call_of (H := ⟨[], [], [(2, .take 0 (.take 1 (.take 2 (.take 3 (.take 4 (.take 5 (.take 6 (.take 7 (.run 8 .done))))))))), (3, .take 0 (.take 1 (.take 2 (.take 3 (.take 4 (.take 5 (.take 6 (.run 7 .done))))))))], []⟩) Tryz.func70 (by kernel_rfl) (by kernel_rfl) vc

theorem f77_of (x0 : Int) (to : Int) (now : Int) {K : Int → World → Prop} {w : World} (vc :
 K (if 0 > IntKind.wrap .i64 ((if now < to then now else to) - x0) then 0 else IntKind.wrap .i64 ((if now < to then now else to) - x0)) w) : Call P 77 [.int .i64 x0, .int .i64 to, .int .i64 now] [sI] K w :=
  call_of (H := ⟨[], [], [], []⟩) Tryz.func77 (by kernel_rfl) (by kernel_rfl) vc

theorem f83_of (down : Int) (up : Int) (downE : Int) (upE : Int) (off : Int) (on : Int) (even : Int) {K : Bool → World → Prop} {w : World} (vc :
 If (decide (down < 0)) (
 K false w) (
 If (decide (down > 256)) (
 K false w) (
 If (decide (up < 0)) (
 K false w) (
 If (decide (up > 256)) (
 K false w) (
 If (decide (downE < 0)) (
 K false w) (
 If (decide (downE > 65536)) (
 K false w) (
 If (decide (upE < 0)) (
 K false w) (
 If (decide (upE > 65536)) (
 K false w) (
 If (decide (on < 0)) (
 K false w) (
 If (decide (on > 65536)) (
 K false w) (
 If (decide (off < 0)) (
 K false w) (
 If (decide (off > on)) (
 K false w) (
 If (decide (even ≥ (IntKind.wrap .i64 (down + up)))) (
 If (decide (even ≥ 1)) (
 If (decide (even ≤ 16384)) (
 K (decide ((IntKind.wrap .i64 ((IntKind.wrap .i64 (downE + upE)) + (IntKind.wrap .i64 (off * (IntKind.wrap .i64 ((IntKind.wrap .i64 (even - down)) - up)))))) ≤ (IntKind.wrap .i64 (on * even)))) w) (
 K false w)) (
 K false w)) (
 K false w)))))))))))))) : Call P 83 [.int .i64 down, .int .i64 up, .int .i64 downE, .int .i64 upE, .int .i64 off, .int .i64 on, .int .i64 even] [sB] K w :=
  call_of (H := ⟨[], [], [], []⟩) Tryz.func83 (by kernel_rfl) (by kernel_rfl) vc

theorem f89_of (s : Sl) {K : Sl → World → Prop} {w : World} (vc :
 If (Option.isNone s.a) (
 K ⟨none, 0, 0⟩ w) (
 New [] 93 (fun a1 w =>
 Sm P (Builtin.append_ #[22, 22] 22 [.slice (some a1) 0 0, .slice s.a s.n s.c].toArray) [sS] (fun s2 w =>
 K s2 w) w) w)) : Call P 89 [.slice s.a s.n s.c] [sS] K w :=
  call_of (H := ⟨[], [], [], []⟩) Tryz.func89 (by kernel_rfl) (by kernel_rfl) vc

theorem f95_of (p : Plat) (tasks : Sl) {K : Bool → World → Prop} {w : World} (vc :
 New [.slice p.levels.a p.levels.n p.levels.c, .slice p.sleeps.a p.sleeps.n p.sleeps.c, .slice p.devices.a p.devices.n p.devices.c, .int .i64 p.idle, .int .i64 p.crit, .int .i64 p.switch, .int .i64 p.switchE, .int .i64 p.sems, .int .i64 p.horizon] 26 (fun a1 w =>
 LdN shPlat.cs 0 a1 (fun s2 s3 s4 n5 n6 n7 n8 n9 n10 w =>
 Call P 126 [.agg #[.slice s2.a s2.n s2.c, .slice s3.a s3.n s3.c, .slice s4.a s4.n s4.c, .int .i64 n5, .int .i64 n6, .int .i64 n7, .int .i64 n8, .int .i64 n9, .int .i64 n10], .slice tasks.a tasks.n tasks.c, .int .i64 0] [sI] (fun n11 w =>
 K (decide (n11 ≤ 4294967296)) w) w) w) w) : Call P 95 [p.v, .slice tasks.a tasks.n tasks.c] [sB] K w :=
  call_of (H := ⟨[], [], [], []⟩) Tryz.func95 (by kernel_rfl) (by kernel_rfl) vc

theorem f102_of (n : Int) (low : Int) (high : Int) {K : Bool → World → Prop} {w : World} (vc :
 If (decide (n ≥ low)) (
 K (decide (n ≤ high)) w) (
 K false w)) : Call P 102 [.int .i64 n, .int .i64 low, .int .i64 high] [sB] K w :=
  call_of (H := ⟨[], [], [], []⟩) Tryz.func102 (by kernel_rfl) (by kernel_rfl) vc

theorem f108_of (l : Option Addr) (task : Int) (sem : Int) (cycles : Int) {K : Int → World → Prop} {w : World} (vc :
 New [.int .i64 sem] 3 (fun a1 w =>
 If (Option.isNone l) (
 K 1 w) (
 WithAddr l fun a2 =>
 Ld (.ks) (a2.add 0) (fun s3 w =>
 Call P 140 [.slice s3.a s3.n s3.c, .func (.func 141) #[] #[.pointer (some a1)]] [sB] (fun b4 w =>
 If b4 (
 K 10 w) (
 (fun w : World =>
 WithAddr l fun a5 =>
 Ld (.ks) (a5.add 0) (fun s6 w =>
 Ld (.ki .i64) a1 (fun n7 w =>
 New [.int .i64 task, .int .i64 n7, .int .i64 cycles] 76 (fun a8 w =>
 (w.cell? (a1.add 0) = some (.int .i64 n7)) ∧ (w.cell? ((a5.add 0).add 0) = some (.slice s6.a s6.n s6.c)) ∧ Sm P (Builtin.append_ #[71, 71] 71 [.slice s6.a s6.n s6.c, .slice (some a8) 1 1].toArray) [sS] (fun s9 w =>
 (w.cell? (a1.add 0) = some (.int .i64 n7)) ∧ WithAddr l fun a10 =>
 StN [.slice s9.a s9.n s9.c] 0 (a10.add 0) (fun w =>
 K 0 w) w) w) w) w) w) w.drew)) w) w)) w) : Call P 108 [.pointer l, .int .i64 task, .int .i64 sem, .int .i64 cycles] [sI] K w :=
  call_of (H := ⟨[], [], [(5, .take 0 (.take 1 (.take 2 (.take 3 (.take 4 (.take 5 (.take 6 (.take 7 (.take 8 (.run 9 (.run 10 (.take 11 (.take 12 (.run 13 .done))))))))))))))], []⟩) Tryz.func108 (by kernel_rfl) (by kernel_rfl) vc

theorem f114_of (x0 : Int) (every : Int) {K : Int → World → Prop} {w : World} (vc :
 If (decide (every > (IntKind.wrap .i64 (1099511627776 - x0)))) (
 K 1099511627776 w) (
 K (IntKind.wrap .i64 (x0 + every)) w)) : Call P 114 [.int .i64 x0, .int .i64 every] [sI] K w :=
  call_of (H := ⟨[], [], [], []⟩) Tryz.func114 (by kernel_rfl) (by kernel_rfl) vc

theorem f130_of (s : Option Addr) {K : Int → World → Prop} {w : World} (vc :
 Call P 40 [.pointer s] [sS] (fun s1 w =>
 If (((s1.n : Nat) : Int) == 0) (
 K 0 w) (
 ((0 : Int) ≤ (IntKind.wrap .i64 (((s1.n : Nat) : Int) - 1)) ∧ (IntKind.wrap .i64 (((s1.n : Nat) : Int) - 1)) < ((s1.n : Nat) : Int)) ∧ WithAddr s1.a fun a2 =>
 Ld (.ki .i64) ((a2.add (Int.toNat (IntKind.wrap .i64 (((s1.n : Nat) : Int) - 1)) * 6)).add 2) (fun n3 w =>
 K n3 w) w)) w) : Call P 130 [.pointer s] [sI] K w :=
  call_of (H := ⟨[], [], [], []⟩) Tryz.func130 (by kernel_rfl) (by kernel_rfl) vc

theorem f136_of (k : Option Addr) {K : World → Prop} {w : World} (vc :
 WithAddr k fun a1 =>
 StN [.bool false] 0 (a1.add 19) (fun w =>
 (fun w : World =>
 WithAddr k fun a2 =>
 LdN shPlat.cs 0 (a2.add 0) (fun s3 s4 s5 n6 n7 n8 n9 n10 n11 w =>
 WithAddr k fun a12 =>
 Ld (.ks) (a12.add 14) (fun s13 w =>
 WithAddr k fun a14 =>
 Ld (.ks) (a14.add 15) (fun s15 w =>
 WithAddr k fun a16 =>
 Ld (.ki .i64) (a16.add 9) (fun n17 w =>
 Call P 168 [.agg #[.slice s3.a s3.n s3.c, .slice s4.a s4.n s4.c, .slice s5.a s5.n s5.c, .int .i64 n6, .int .i64 n7, .int .i64 n8, .int .i64 n9, .int .i64 n10, .int .i64 n11], .slice s13.a s13.n s13.c, .slice s15.a s15.n s15.c, .int .i64 n17] [sI] (fun n18 w =>
 (fun w : World =>
 WithAddr k fun a19 =>
 LdN shPlat.cs 0 (a19.add 0) (fun s20 s21 s22 n23 n24 n25 n26 n27 n28 w =>
 WithAddr k fun a29 =>
 Ld (.ki .i64) (a29.add 9) (fun n30 w =>
 Call P 169 [.agg #[.slice s20.a s20.n s20.c, .slice s21.a s21.n s21.c, .slice s22.a s22.n s22.c, .int .i64 n23, .int .i64 n24, .int .i64 n25, .int .i64 n26, .int .i64 n27, .int .i64 n28], .int .i64 (IntKind.wrap .i64 (n18 - n30))] [sI, sB] (fun n31 b32 w =>
 (w.cell? ((a29.add 9).add 0) = some (.int .i64 n30)) ∧ If b32 (
 WithAddr k fun a33 =>
 Ld (.kb) (a33.add 12) (fun b34 w =>
 If b34 (
 WithAddr k fun a35 =>
 StN [.bool true] 0 (a35.add 25) (fun w =>
 WithAddr k fun a36 =>
 StN [.int .i64 n31] 0 (a36.add 26) (fun w =>
 WithAddr k fun a37 =>
 StN [.int .i64 n18] 0 (a37.add 27) (fun w =>
 WithAddr k fun a38 =>
 Ld (.ks) ((a38.add 0).add 1) (fun s39 w =>
 ((0 : Int) ≤ n31 ∧ n31 < ((s39.n : Nat) : Int)) ∧ WithAddr s39.a fun a40 =>
 Ld (.ki .i64) ((a40.add (Int.toNat n31 * 6)).add 1) (fun n41 w =>
 Call P 162 [.pointer k, .int .i64 4, .int .i64 n41, .int .i64 n31, .int .i64 0, .int .i64 0] [] (fun w =>
 K w) w) w) w) w) w) w) (
 Call P 162 [.pointer k, .int .i64 2, .int .i64 1, .int .i64 0, .int .i64 0, .int .i64 0] [] (fun w =>
 K w) w)) w) (
 Call P 162 [.pointer k, .int .i64 2, .int .i64 1, .int .i64 0, .int .i64 0, .int .i64 0] [] (fun w =>
 K w) w)) w) w) w) w.drew) w) w) w) w) w) w.drew) w) : Call P 136 [.pointer k] [] K w :=
  call_of (H := ⟨[], [], [(1, .take 0 (.take 1 (.take 2 (.take 3 (.take 4 (.take 5 (.take 6 (.take 7 (.take 8 (.take 9 (.take 10 (.take 11 (.take 12 (.take 13 (.take 14 (.take 15 (.run 16 (.take 17 .done)))))))))))))))))), (2, .take 0 (.take 1 (.take 2 (.take 3 (.take 4 (.take 5 (.take 6 (.take 7 (.take 8 (.take 9 (.run 10 (.take 11 (.take 12 (.take 13 (.take 14 (.take 15 .done))))))))))))))))], []⟩) Tryz.func136 (by kernel_rfl) (by kernel_rfl) vc

theorem f143_of (h : Option Addr) {K : Int → World → Prop} {w : World} (vc :
 If (Option.isNone h) (
 K 0 w) (
 WithAddr h fun a1 =>
 Ld (.ks) (a1.add 0) (fun s2 w =>
 K ((s2.n : Nat) : Int) w) w)) : Call P 143 [.pointer h] [sI] K w :=
  call_of (H := ⟨[], [], [], []⟩) Tryz.func143 (by kernel_rfl) (by kernel_rfl) vc

theorem f161_of (p : Plat) (t : Task) (level : Int) {K : Int → World → Prop} {w : World} (vc :
 New [.slice p.levels.a p.levels.n p.levels.c, .slice p.sleeps.a p.sleeps.n p.sleeps.c, .slice p.devices.a p.devices.n p.devices.c, .int .i64 p.idle, .int .i64 p.crit, .int .i64 p.switch, .int .i64 p.switchE, .int .i64 p.sems, .int .i64 p.horizon] 26 (fun a1 w =>
 New [.int .i64 t.period, .int .i64 t.cycles, .slice t.sec.a t.sec.n t.sec.c, .slice t.devs.a t.devs.n t.devs.c] 37 (fun a2 w =>
 (fun w : World =>
 LdN shPlat.cs 0 a1 (fun s3 s4 s5 n6 n7 n8 n9 n10 n11 w =>
 LdN shTask.cs 0 a2 (fun n12 n13 s14 s15 w =>
 Ld (.ki .i64) (a2.add 0) (fun n16 w =>
 Call P 183 [.agg #[.slice s3.a s3.n s3.c, .slice s4.a s4.n s4.c, .slice s5.a s5.n s5.c, .int .i64 n6, .int .i64 n7, .int .i64 n8, .int .i64 n9, .int .i64 n10, .int .i64 n11], .agg #[.int .i64 n12, .int .i64 n13, .slice s14.a s14.n s14.c, .slice s15.a s15.n s15.c], .int .i64 level] [sI] (fun n17 w =>
 (w.cell? ((a2.add 0).add 0) = some (.int .i64 n16)) ∧ Call P 181 [.int .i64 n17, .int .i64 n16] [sI] (fun n18 w =>
 (w.cell? (a2.add 0) = some (.int .i64 n12) ∧ w.cell? (a2.add 1) = some (.int .i64 n13) ∧ w.cell? (a2.add 2) = some (.slice s14.a s14.n s14.c) ∧ w.cell? (a2.add 3) = some (.slice s15.a s15.n s15.c)) ∧ (w.cell? (a1.add 0) = some (.slice s3.a s3.n s3.c) ∧ w.cell? (a1.add 1) = some (.slice s4.a s4.n s4.c) ∧ w.cell? (a1.add 2) = some (.slice s5.a s5.n s5.c) ∧ w.cell? (a1.add 3) = some (.int .i64 n6) ∧ w.cell? (a1.add 4) = some (.int .i64 n7) ∧ w.cell? (a1.add 5) = some (.int .i64 n8) ∧ w.cell? (a1.add 6) = some (.int .i64 n9) ∧ w.cell? (a1.add 7) = some (.int .i64 n10) ∧ w.cell? (a1.add 8) = some (.int .i64 n11)) ∧ K n18 w) w) w) w) w) w) w.drew) w) w) : Call P 161 [p.v, t.v, .int .i64 level] [sI] K w :=
  call_of (H := ⟨[], [], [(1, .take 0 (.take 1 (.take 2 (.take 4 (.take 5 (.run 3 (.run 6 (.take 7 .done))))))))], []⟩) Tryz.func161 (by kernel_rfl) (by kernel_rfl) vc

theorem f167_of (j : Job) {K : Int → Int → Int → Int → Int → Bool → Int → World → Prop} {w : World} (vc :
 New [.int .i64 j.task, .int .i64 j.release, .int .i64 j.deadline, .int .i64 j.left, .int .i64 j.real, .bool j.started] 50 (fun a1 w =>
 New [.int .i64 0, .int .i64 0, .int .i64 0, .int .i64 0, .int .i64 0, .bool false] 50 (fun a2 w =>
 Ld (.ki .i64) (a1.add 3) (fun n3 w =>
 StN [.int .i64 (IntKind.wrap .i64 (n3 - 1))] 0 (a1.add 3) (fun w =>
 Ld (.ki .i64) (a1.add 4) (fun n4 w =>
 StN [.int .i64 (IntKind.wrap .i64 (n4 - 1))] 0 (a1.add 4) (fun w =>
 Ld (.ki .i64) (a1.add 4) (fun n5 w =>
 If (decide (n5 ≤ 0)) (
 LdN shJob.cs 0 a1 (fun n6 n7 n8 n9 n10 b11 w =>
 StN [.int .i64 n6, .int .i64 n7, .int .i64 n8, .int .i64 n9, .int .i64 n10, .bool b11] 0 a2 (fun w =>
 LdN shJob.cs 0 a2 (fun n12 n13 n14 n15 n16 b17 w =>
 K n12 n13 n14 n15 n16 b17 2 w) w) w) w) (
 Ld (.ki .i64) (a1.add 3) (fun n18 w =>
 If (decide (n18 ≤ 0)) (
 LdN shJob.cs 0 a1 (fun n19 n20 n21 n22 n23 b24 w =>
 StN [.int .i64 n19, .int .i64 n20, .int .i64 n21, .int .i64 n22, .int .i64 n23, .bool b24] 0 a2 (fun w =>
 LdN shJob.cs 0 a2 (fun n25 n26 n27 n28 n29 b30 w =>
 K n25 n26 n27 n28 n29 b30 3 w) w) w) w) (
 LdN shJob.cs 0 a1 (fun n31 n32 n33 n34 n35 b36 w =>
 StN [.int .i64 n31, .int .i64 n32, .int .i64 n33, .int .i64 n34, .int .i64 n35, .bool b36] 0 a2 (fun w =>
 LdN shJob.cs 0 a2 (fun n37 n38 n39 n40 n41 b42 w =>
 K n37 n38 n39 n40 n41 b42 0 w) w) w) w)) w)) w) w) w) w) w) w) w) : Call P 167 [j.v] [shJob, sI] K w :=
  call_of (H := ⟨[], [], [], []⟩) Tryz.func167 (by kernel_rfl) (by kernel_rfl) vc

theorem f174_of (a : Item) (b : Item) {K : Bool → World → Prop} {w : World} (vc :
 New [.int .i64 a.key, .int .i64 a.id] 187 (fun a1 w =>
 New [.int .i64 b.key, .int .i64 b.id] 187 (fun a2 w =>
 Ld (.ki .i64) (a1.add 0) (fun n3 w =>
 Ld (.ki .i64) (a2.add 0) (fun n4 w =>
 If (decide (n3 < n4)) (
 K true w) (
 Ld (.ki .i64) (a1.add 0) (fun n5 w =>
 Ld (.ki .i64) (a2.add 0) (fun n6 w =>
 If (n5 == n6) (
 Ld (.ki .i64) (a1.add 1) (fun n7 w =>
 Ld (.ki .i64) (a2.add 1) (fun n8 w =>
 K (decide (n7 < n8)) w) w) w) (
 K false w)) w) w)) w) w) w) w) : Call P 174 [a.v, b.v] [sB] K w :=
  call_of (H := ⟨[], [], [], []⟩) Tryz.func174 (by kernel_rfl) (by kernel_rfl) vc

theorem f185_of (m : Meter) (p : Plat) (i : Interval) {K : Int → Int → Int → Int → World → Prop} {w : World} (vc :
 New [.int .i64 m.run, .int .i64 m.idle, .int .i64 m.switch, .int .i64 m.sleep] 68 (fun a1 w =>
 New [.slice p.levels.a p.levels.n p.levels.c, .slice p.sleeps.a p.sleeps.n p.sleeps.c, .slice p.devices.a p.devices.n p.devices.c, .int .i64 p.idle, .int .i64 p.crit, .int .i64 p.switch, .int .i64 p.switchE, .int .i64 p.sems, .int .i64 p.horizon] 26 (fun a2 w =>
 New [.int .i64 i.kind, .int .i64 i.from_, .int .i64 i.len, .int .i64 i.arg, .int .i64 i.task, .int .i64 i.cycles] 66 (fun a3 w =>
 New [.int .i64 0, .int .i64 0, .int .i64 0, .int .i64 0] 68 (fun a4 w =>
 LdN shPlat.cs 0 a2 (fun s5 s6 s7 n8 n9 n10 n11 n12 n13 w =>
 LdN shSleep.cs 0 a3 (fun n14 n15 n16 n17 n18 n19 w =>
 Call P 201 [.agg #[.slice s5.a s5.n s5.c, .slice s6.a s6.n s6.c, .slice s7.a s7.n s7.c, .int .i64 n8, .int .i64 n9, .int .i64 n10, .int .i64 n11, .int .i64 n12, .int .i64 n13], .agg #[.int .i64 n14, .int .i64 n15, .int .i64 n16, .int .i64 n17, .int .i64 n18, .int .i64 n19]] [sI] (fun n20 w =>
 Ld (.ki .i64) (a3.add 0) (fun n21 w =>
 If (n21 == 1) (
 Ld (.ki .i64) (a1.add 0) (fun n22 w =>
 StN [.int .i64 (IntKind.wrap .i64 (n22 + n20))] 0 (a1.add 0) (fun w =>
 LdN shMeter.cs 0 a1 (fun n23 n24 n25 n26 w =>
 StN [.int .i64 n23, .int .i64 n24, .int .i64 n25, .int .i64 n26] 0 a4 (fun w =>
 LdN shMeter.cs 0 a4 (fun n27 n28 n29 n30 w =>
 K n27 n28 n29 n30 w) w) w) w) w) w) (
 If (n21 == 2) (
 Ld (.ki .i64) (a1.add 1) (fun n31 w =>
 StN [.int .i64 (IntKind.wrap .i64 (n31 + n20))] 0 (a1.add 1) (fun w =>
 LdN shMeter.cs 0 a1 (fun n32 n33 n34 n35 w =>
 StN [.int .i64 n32, .int .i64 n33, .int .i64 n34, .int .i64 n35] 0 a4 (fun w =>
 LdN shMeter.cs 0 a4 (fun n36 n37 n38 n39 w =>
 K n36 n37 n38 n39 w) w) w) w) w) w) (
 If (n21 == 3) (
 Ld (.ki .i64) (a1.add 2) (fun n40 w =>
 StN [.int .i64 (IntKind.wrap .i64 (n40 + n20))] 0 (a1.add 2) (fun w =>
 LdN shMeter.cs 0 a1 (fun n41 n42 n43 n44 w =>
 StN [.int .i64 n41, .int .i64 n42, .int .i64 n43, .int .i64 n44] 0 a4 (fun w =>
 LdN shMeter.cs 0 a4 (fun n45 n46 n47 n48 w =>
 K n45 n46 n47 n48 w) w) w) w) w) w) (
 If (n21 == 4) (
 If (n21 == 4) (
 Ld (.ki .i64) (a1.add 3) (fun n49 w =>
 StN [.int .i64 (IntKind.wrap .i64 (n49 + n20))] 0 (a1.add 3) (fun w =>
 LdN shMeter.cs 0 a1 (fun n50 n51 n52 n53 w =>
 StN [.int .i64 n50, .int .i64 n51, .int .i64 n52, .int .i64 n53] 0 a4 (fun w =>
 LdN shMeter.cs 0 a4 (fun n54 n55 n56 n57 w =>
 K n54 n55 n56 n57 w) w) w) w) w) w) (
 LdN shMeter.cs 0 a1 (fun n58 n59 n60 n61 w =>
 StN [.int .i64 n58, .int .i64 n59, .int .i64 n60, .int .i64 n61] 0 a4 (fun w =>
 LdN shMeter.cs 0 a4 (fun n62 n63 n64 n65 w =>
 K n62 n63 n64 n65 w) w) w) w)) (
 If (n21 == 5) (
 If (n21 == 5) (
 Ld (.ki .i64) (a1.add 3) (fun n66 w =>
 StN [.int .i64 (IntKind.wrap .i64 (n66 + n20))] 0 (a1.add 3) (fun w =>
 LdN shMeter.cs 0 a1 (fun n67 n68 n69 n70 w =>
 StN [.int .i64 n67, .int .i64 n68, .int .i64 n69, .int .i64 n70] 0 a4 (fun w =>
 LdN shMeter.cs 0 a4 (fun n71 n72 n73 n74 w =>
 K n71 n72 n73 n74 w) w) w) w) w) w) (
 LdN shMeter.cs 0 a1 (fun n75 n76 n77 n78 w =>
 StN [.int .i64 n75, .int .i64 n76, .int .i64 n77, .int .i64 n78] 0 a4 (fun w =>
 LdN shMeter.cs 0 a4 (fun n79 n80 n81 n82 w =>
 K n79 n80 n81 n82 w) w) w) w)) (
 If (n21 == 6) (
 Ld (.ki .i64) (a1.add 3) (fun n83 w =>
 StN [.int .i64 (IntKind.wrap .i64 (n83 + n20))] 0 (a1.add 3) (fun w =>
 LdN shMeter.cs 0 a1 (fun n84 n85 n86 n87 w =>
 StN [.int .i64 n84, .int .i64 n85, .int .i64 n86, .int .i64 n87] 0 a4 (fun w =>
 LdN shMeter.cs 0 a4 (fun n88 n89 n90 n91 w =>
 K n88 n89 n90 n91 w) w) w) w) w) w) (
 LdN shMeter.cs 0 a1 (fun n92 n93 n94 n95 w =>
 StN [.int .i64 n92, .int .i64 n93, .int .i64 n94, .int .i64 n95] 0 a4 (fun w =>
 LdN shMeter.cs 0 a4 (fun n96 n97 n98 n99 w =>
 K n96 n97 n98 n99 w) w) w) w))))))) w) w) w) w) w) w) w) w) : Call P 185 [m.v, p.v, i.v] [shEvent] K w :=
  call_of (H := ⟨[], [], [], []⟩) Tryz.func185 (by kernel_rfl) (by kernel_rfl) vc

theorem f192_of (p : Plat) (policy : Int) (static : Int) (left : Int) (slack : Int) (level : Int) {K : Int → World → Prop} {w : World} (vc :
 New [.slice p.levels.a p.levels.n p.levels.c, .slice p.sleeps.a p.sleeps.n p.sleeps.c, .slice p.devices.a p.devices.n p.devices.c, .int .i64 p.idle, .int .i64 p.crit, .int .i64 p.switch, .int .i64 p.switchE, .int .i64 p.sems, .int .i64 p.horizon] 26 (fun a1 w =>
 LdN shPlat.cs 0 a1 (fun s2 s3 s4 n5 n6 n7 n8 n9 n10 w =>
 Call P 205 [.agg #[.slice s2.a s2.n s2.c, .slice s3.a s3.n s3.c, .slice s4.a s4.n s4.c, .int .i64 n5, .int .i64 n6, .int .i64 n7, .int .i64 n8, .int .i64 n9, .int .i64 n10], .int .i64 policy, .int .i64 static] [sI] (fun n11 w =>
 ∃ (I13 : Int → World → Prop) (M14 : Int → World → Nat), I13 n11 w ∧ ∀ (n12 : Int) (v15 : World), I13 n12 v15 → ∀ _ : Nat → Value,
 (fun w : World =>
 If (decide (n12 > 0)) (
 (fun w : World =>
 Ld (.ks) (a1.add 0) (fun s16 w =>
 ((0 : Int) ≤ n12 ∧ n12 < ((s16.n : Nat) : Int)) ∧ WithAddr s16.a fun a17 =>
 Ld (.ki .i64) ((a17.add (Int.toNat n12 * 2)).add 0) (fun n18 w =>
 Ld (.ks) (a1.add 0) (fun s19 w =>
 ((0 : Int) ≤ 0 ∧ 0 < ((s19.n : Nat) : Int)) ∧ WithAddr s19.a fun a20 =>
 Ld (.ki .i64) ((a20.add (Int.toNat 0 * 2)).add 0) (fun n21 w =>
 If (n12 != level) (
 Ld (.ki .i64) (a1.add 5) (fun n22 w =>
 Call P 206 [.int .i64 (IntKind.wrap .i64 ((IntKind.wrap .i64 (left * (IntKind.wrap .i64 (n18 - n21)))) + n22))] [sI] (fun n23 w =>
 If (decide (n23 ≤ slack)) (
 K n12 w) (
 I13 (IntKind.wrap .i64 (n12 - 1)) w ∧ M14 (IntKind.wrap .i64 (n12 - 1)) w < M14 n12 v15)) w) w) (
 Call P 206 [.int .i64 (IntKind.wrap .i64 (left * (IntKind.wrap .i64 (n18 - n21))))] [sI] (fun n24 w =>
 If (decide (n24 ≤ slack)) (
 K n12 w) (
 I13 (IntKind.wrap .i64 (n12 - 1)) w ∧ M14 (IntKind.wrap .i64 (n12 - 1)) w < M14 n12 v15)) w)) w) w) w) w) w.drew) (
 K 0 w)) v15) w) w) w) : Call P 192 [p.v, .int .i64 policy, .int .i64 static, .int .i64 left, .int .i64 slack, .int .i64 level] [sI] K w :=
  call_of (H := ⟨[(2, [(13, .ki .i64)])], [], [(4, .take 0 (.take 1 (.take 2 (.take 3 (.take 4 (.take 5 (.take 6 (.take 7 (.take 8 (.take 9 (.take 10 (.take 11 (.take 12 (.take 13 (.take 14 .done)))))))))))))))], []⟩) Tryz.func192 (by kernel_rfl) (by kernel_rfl) vc

theorem f199_of (p : Plat) (tasks : Sl) (period : Int) {K : Int → World → Prop} {w : World} (vc :
 New [.slice p.levels.a p.levels.n p.levels.c, .slice p.sleeps.a p.sleeps.n p.sleeps.c, .slice p.devices.a p.devices.n p.devices.c, .int .i64 p.idle, .int .i64 p.crit, .int .i64 p.switch, .int .i64 p.switchE, .int .i64 p.sems, .int .i64 p.horizon] 26 (fun a1 w =>
 ∃ (I4 : Int → Int → World → Prop) (M5 : Int → Int → World → Nat), I4 0 0 w ∧ ∀ (n2 : Int) (n3 : Int) (v6 : World), I4 n2 n3 v6 → ∀ _ : Nat → Value,
 (fun w : World =>
 If (decide (n3 < ((tasks.n : Nat) : Int))) (
 ((0 : Int) ≤ n3 ∧ n3 < ((tasks.n : Nat) : Int)) ∧ WithAddr tasks.a fun a7 =>
 LdN shTask.cs 0 (a7.add (Int.toNat n3 * 4)) (fun n8 n9 s10 s11 w =>
 New [.int .i64 0, .int .i64 0, .slice none 0 0, .slice none 0 0] 37 (fun a12 w =>
 StN [.int .i64 n8, .int .i64 n9, .slice s10.a s10.n s10.c, .slice s11.a s11.n s11.c] 0 a12 (fun w =>
 Ld (.ks) (a12.add 2) (fun s13 w =>
 ∃ (I16 : Int → Int → World → Prop) (M17 : Int → Int → World → Nat), I16 n2 0 w ∧ ∀ (n14 : Int) (n15 : Int) (v18 : World), I16 n14 n15 v18 → ∀ _ : Nat → Value,
 (fun w : World =>
 If (decide (n15 < ((s13.n : Nat) : Int))) (
 Ld (.ki .i64) (a12.add 0) (fun n19 w =>
 If (decide (n19 > period)) (
 LdN shTask.cs 0 a12 (fun n20 n21 s22 s23 w =>
 Call P 106 [.agg #[.int .i64 n20, .int .i64 n21, .slice s22.a s22.n s22.c, .slice s23.a s23.n s23.c], .int .i64 n15] [sB] (fun b24 w =>
 If b24 (
 Call P 171 [.slice tasks.a tasks.n tasks.c, .int .i64 n15] [sI] (fun n25 w =>
 If (decide (n25 ≤ period)) (
 Ld (.ks) (a12.add 2) (fun s26 w =>
 ((0 : Int) ≤ n15 ∧ n15 < ((s26.n : Nat) : Int)) ∧ WithAddr s26.a fun a27 =>
 Ld (.ki .i64) (a27.add (Int.toNat n15 * 1)) (fun n28 w =>
 I16 (if n28 > n14 then n28 else n14) (IntKind.wrap .i64 (n15 + 1)) w ∧ M17 (if n28 > n14 then n28 else n14) (IntKind.wrap .i64 (n15 + 1)) w < M17 n14 n15 v18) w) w) (
 I16 n14 (IntKind.wrap .i64 (n15 + 1)) w ∧ M17 n14 (IntKind.wrap .i64 (n15 + 1)) w < M17 n14 n15 v18)) w) (
 I16 n14 (IntKind.wrap .i64 (n15 + 1)) w ∧ M17 n14 (IntKind.wrap .i64 (n15 + 1)) w < M17 n14 n15 v18)) w) w) (
 I16 n14 (IntKind.wrap .i64 (n15 + 1)) w ∧ M17 n14 (IntKind.wrap .i64 (n15 + 1)) w < M17 n14 n15 v18)) w) (
 I4 n14 (IntKind.wrap .i64 (n3 + 1)) w ∧ M5 n14 (IntKind.wrap .i64 (n3 + 1)) w < M5 n2 n3 v6)) v18) w) w) w) w) (
 K n2 w)) v6) w) : Call P 199 [p.v, .slice tasks.a tasks.n tasks.c, .int .i64 period] [sI] K w :=
  call_of (H := ⟨[(3, [(7, .ki .i64), (13, .ki .i64)]), (6, [(7, .ki .i64), (20, .ki .i64)])], [], [], []⟩) Tryz.func199 (by kernel_rfl) (by kernel_rfl) vc

theorem f206_of (n : Int) {K : Int → World → Prop} {w : World} (vc :
 Call P 198 [.int .i64 n, .int .i64 (-1073741824), .int .i64 1073741824] [sI] (fun n1 w =>
 K (IntKind.wrap .i64 (n1 * 2 ^ 32)) w) w) : Call P 206 [.int .i64 n] [sI] K w :=
  call_of (H := ⟨[], [], [], []⟩) Tryz.func206 (by kernel_rfl) (by kernel_rfl) vc

theorem f212_of (v : Option Addr) (x1 : Int) {K : Int → World → Prop} {w : World} (vc :
 (fun w : World =>
 WithAddr v fun a1 =>
 Ld (.ki .i64) (a1.add 13) (fun n2 w =>
 Call P 213 [.pointer v, .int .i64 x1] [sI] (fun n3 w =>
 (w.cell? ((a1.add 13).add 0) = some (.int .i64 n2)) ∧ WithAddr v fun a4 =>
 Ld (.ks) (a4.add 11) (fun s5 w =>
 ∃ (I8 : Int → Int → World → Prop) (M9 : Int → Int → World → Nat), I8 (IntKind.wrap .i64 ((IntKind.wrap .i64 (x1 - n2)) - n3)) 0 w ∧ ∀ (n6 : Int) (n7 : Int) (v10 : World), I8 n6 n7 v10 → ∀ _ : Nat → Value,
 (fun w : World =>
 If (decide (n7 < ((s5.n : Nat) : Int))) (
 ((0 : Int) ≤ n7 ∧ n7 < ((s5.n : Nat) : Int)) ∧ WithAddr s5.a fun a11 =>
 LdN shJob.cs 0 (a11.add (Int.toNat n7 * 6)) (fun n12 n13 n14 n15 n16 b17 w =>
 New [.int .i64 0, .int .i64 0, .int .i64 0, .int .i64 0, .int .i64 0, .bool false] 50 (fun a18 w =>
 StN [.int .i64 n12, .int .i64 n13, .int .i64 n14, .int .i64 n15, .int .i64 n16, .bool b17] 0 a18 (fun w =>
 Ld (.ki .i64) (a18.add 2) (fun n19 w =>
 If (decide (n19 ≤ x1)) (
 (fun w : World =>
 WithAddr v fun a20 =>
 LdN shPlat.cs 0 (a20.add 0) (fun s21 s22 s23 n24 n25 n26 n27 n28 n29 w =>
 LdN shJob.cs 0 a18 (fun n30 n31 n32 n33 n34 b35 w =>
 Call P 214 [.agg #[.slice s21.a s21.n s21.c, .slice s22.a s22.n s22.c, .slice s23.a s23.n s23.c, .int .i64 n24, .int .i64 n25, .int .i64 n26, .int .i64 n27, .int .i64 n28, .int .i64 n29], .agg #[.int .i64 n30, .int .i64 n31, .int .i64 n32, .int .i64 n33, .int .i64 n34, .bool b35]] [sI] (fun n36 w =>
 I8 (IntKind.wrap .i64 (n6 - n36)) (IntKind.wrap .i64 (n7 + 1)) w ∧ M9 (IntKind.wrap .i64 (n6 - n36)) (IntKind.wrap .i64 (n7 + 1)) w < M9 n6 n7 v10) w) w) w) w.drew) (
 I8 n6 (IntKind.wrap .i64 (n7 + 1)) w ∧ M9 n6 (IntKind.wrap .i64 (n7 + 1)) w < M9 n6 n7 v10)) w) w) w) w) (
 Call P 206 [.int .i64 n6] [sI] (fun n37 w =>
 WithAddr v fun a38 =>
 Ld (.ks) (a38.add 9) (fun s39 w =>
 ∃ (I42 : Int → Int → World → Prop) (M43 : Int → Int → World → Nat), I42 n37 0 w ∧ ∀ (n40 : Int) (n41 : Int) (v44 : World), I42 n40 n41 v44 → ∀ _ : Nat → Value,
 (fun w : World =>
 If (decide (n41 < ((s39.n : Nat) : Int))) (
 ((0 : Int) ≤ n41 ∧ n41 < ((s39.n : Nat) : Int)) ∧ WithAddr s39.a fun a45 =>
 LdN shTask.cs 0 (a45.add (Int.toNat n41 * 4)) (fun n46 n47 s48 s49 w =>
 New [.int .i64 0, .int .i64 0, .slice none 0 0, .slice none 0 0] 37 (fun a50 w =>
 StN [.int .i64 n46, .int .i64 n47, .slice s48.a s48.n s48.c, .slice s49.a s49.n s49.c] 0 a50 (fun w =>
 Ld (.ki .i64) (a50.add 0) (fun n51 w =>
 If (decide (n51 > 0)) (
 (fun w : World =>
 WithAddr v fun a52 =>
 LdN shPlat.cs 0 (a52.add 0) (fun s53 s54 s55 n56 n57 n58 n59 n60 n61 w =>
 LdN shTask.cs 0 a50 (fun n62 n63 s64 s65 w =>
 Call P 161 [.agg #[.slice s53.a s53.n s53.c, .slice s54.a s54.n s54.c, .slice s55.a s55.n s55.c, .int .i64 n56, .int .i64 n57, .int .i64 n58, .int .i64 n59, .int .i64 n60, .int .i64 n61], .agg #[.int .i64 n62, .int .i64 n63, .slice s64.a s64.n s64.c, .slice s65.a s65.n s65.c], .int .i64 0] [sI] (fun n66 w =>
 Call P 211 [.pointer v, .int .i64 n41] [sI] (fun n67 w =>
 (w.cell? (a50.add 0) = some (.int .i64 n62) ∧ w.cell? (a50.add 1) = some (.int .i64 n63) ∧ w.cell? (a50.add 2) = some (.slice s64.a s64.n s64.c) ∧ w.cell? (a50.add 3) = some (.slice s65.a s65.n s65.c)) ∧ (w.cell? ((a52.add 0).add 0) = some (.slice s53.a s53.n s53.c) ∧ w.cell? ((a52.add 0).add 1) = some (.slice s54.a s54.n s54.c) ∧ w.cell? ((a52.add 0).add 2) = some (.slice s55.a s55.n s55.c) ∧ w.cell? ((a52.add 0).add 3) = some (.int .i64 n56) ∧ w.cell? ((a52.add 0).add 4) = some (.int .i64 n57) ∧ w.cell? ((a52.add 0).add 5) = some (.int .i64 n58) ∧ w.cell? ((a52.add 0).add 6) = some (.int .i64 n59) ∧ w.cell? ((a52.add 0).add 7) = some (.int .i64 n60) ∧ w.cell? ((a52.add 0).add 8) = some (.int .i64 n61)) ∧ Call P 215 [.int .i64 n66, .int .i64 (IntKind.wrap .i64 (x1 - n67))] [sI] (fun n68 w =>
 (w.cell? (a50.add 0) = some (.int .i64 n62) ∧ w.cell? (a50.add 1) = some (.int .i64 n63) ∧ w.cell? (a50.add 2) = some (.slice s64.a s64.n s64.c) ∧ w.cell? (a50.add 3) = some (.slice s65.a s65.n s65.c)) ∧ (w.cell? ((a52.add 0).add 0) = some (.slice s53.a s53.n s53.c) ∧ w.cell? ((a52.add 0).add 1) = some (.slice s54.a s54.n s54.c) ∧ w.cell? ((a52.add 0).add 2) = some (.slice s55.a s55.n s55.c) ∧ w.cell? ((a52.add 0).add 3) = some (.int .i64 n56) ∧ w.cell? ((a52.add 0).add 4) = some (.int .i64 n57) ∧ w.cell? ((a52.add 0).add 5) = some (.int .i64 n58) ∧ w.cell? ((a52.add 0).add 6) = some (.int .i64 n59) ∧ w.cell? ((a52.add 0).add 7) = some (.int .i64 n60) ∧ w.cell? ((a52.add 0).add 8) = some (.int .i64 n61)) ∧ I42 (IntKind.wrap .i64 (n40 - n68)) (IntKind.wrap .i64 (n41 + 1)) w ∧ M43 (IntKind.wrap .i64 (n40 - n68)) (IntKind.wrap .i64 (n41 + 1)) w < M43 n40 n41 v44) w) w) w) w) w) w.drew) (
 I42 n40 (IntKind.wrap .i64 (n41 + 1)) w ∧ M43 n40 (IntKind.wrap .i64 (n41 + 1)) w < M43 n40 n41 v44)) w) w) w) w) (
 K n40 w)) v44) w) w)) v10) w) w) w) w.drew) : Call P 212 [.pointer v, .int .i64 x1] [sI] K w :=
  call_of (H := ⟨[(3, [(5, .ki .i64), (26, .ki .i64)]), (10, [(8, .ki .i64), (50, .ki .i64)])], [], [(1, .take 0 (.take 1 (.take 2 (.take 3 (.take 4 (.take 5 (.take 6 (.take 7 (.run 8 (.take 9 (.take 10 .done))))))))))), (6, .take 0 (.take 1 (.take 2 (.take 3 (.take 4 (.take 5 (.run 6 (.take 7 (.take 8 .done))))))))), (13, .take 0 (.take 1 (.take 2 (.take 3 (.take 4 (.take 5 (.take 7 (.take 8 (.take 9 (.run 6 (.run 10 (.take 11 (.run 12 (.take 13 (.take 14 .done)))))))))))))))], []⟩) Tryz.func212 (by kernel_rfl) (by kernel_rfl) vc

theorem f218_of (v : Option Addr) (n : Int) (x2 : Int) {K : Bool → World → Prop} {w : World} (vc :
 Call P 216 [.pointer v, .int .i64 n] [sI, sB] (fun n1 b2 w =>
 (fun w : World =>
 If b2 (
 If (decide (n1 ≤ x2)) (
 K true w) (
 WithAddr v fun a3 =>
 Ld (.ks) (a3.add 9) (fun s4 w =>
 ((0 : Int) ≤ n ∧ n < ((s4.n : Nat) : Int)) ∧ WithAddr s4.a fun a5 =>
 Ld (.ki .i64) ((a5.add (Int.toNat n * 4)).add 0) (fun n6 w =>
 Call P 211 [.pointer v, .int .i64 n] [sI] (fun n7 w =>
 (w.cell? (((a5.add (Int.toNat n * 4)).add 0).add 0) = some (.int .i64 n6)) ∧ (w.cell? ((a3.add 9).add 0) = some (.slice s4.a s4.n s4.c)) ∧ K (decide ((IntKind.wrap .i64 (n7 + n6)) ≤ x2)) w) w) w) w)) (
 WithAddr v fun a8 =>
 Ld (.ks) (a8.add 9) (fun s9 w =>
 ((0 : Int) ≤ n ∧ n < ((s9.n : Nat) : Int)) ∧ WithAddr s9.a fun a10 =>
 Ld (.ki .i64) ((a10.add (Int.toNat n * 4)).add 0) (fun n11 w =>
 Call P 211 [.pointer v, .int .i64 n] [sI] (fun n12 w =>
 (w.cell? (((a10.add (Int.toNat n * 4)).add 0).add 0) = some (.int .i64 n11)) ∧ (w.cell? ((a8.add 9).add 0) = some (.slice s9.a s9.n s9.c)) ∧ K (decide ((IntKind.wrap .i64 (n12 + n11)) ≤ x2)) w) w) w) w)) w.drew) w) : Call P 218 [.pointer v, .int .i64 n, .int .i64 x2] [sB] K w :=
  call_of (H := ⟨[], [], [(2, .take 0 (.take 1 (.take 2 (.take 3 (.take 4 (.take 5 (.take 6 (.take 7 (.take 8 (.take 10 (.take 11 (.take 12 (.take 13 (.take 14 (.take 15 (.take 16 (.take 17 (.take 19 (.run 9 (.take 18 (.take 20 (.take 21 (.take 22 .done)))))))))))))))))))))))], []⟩) Tryz.func218 (by kernel_rfl) (by kernel_rfl) vc

theorem f159e_of (s : Sl) (c : Option Addr) {K : Int → World → Prop} {w : World} (vc :
 ∃ (I2 : Int → World → Prop) (M3 : Int → World → Nat), I2 0 w ∧ ∀ (n1 : Int) (v4 : World), I2 n1 v4 → ∀ _ : Nat → Value,
 (fun w : World =>
 If (decide (n1 < ((s.n : Nat) : Int))) (
 ((0 : Int) ≤ n1 ∧ n1 < ((s.n : Nat) : Int)) ∧ WithAddr s.a fun a5 =>
 Ld (.ki .i64) (a5.add (Int.toNat n1 * 1)) (fun n6 w =>
 Call P 189 [.int .i64 n6, .pointer c] [sB] (fun b7 w =>
 If b7 (
 K n1 w) (
 I2 (IntKind.wrap .i64 (n1 + 1)) w ∧ M3 (IntKind.wrap .i64 (n1 + 1)) w < M3 n1 v4)) w) w) (
 K (-1) w)) v4) : Call P 159 [.slice s.a s.n s.c, .func (.func 189) #[] #[.pointer c]] [sI] K w :=
  call_of (H := ⟨[(2, [(8, .ki .i64)])], [], [], []⟩) Tryz.func159 (by kernel_rfl) (by kernel_rfl) vc

theorem f172t_of (s : Sl) (c : Option Addr) {K : Int → World → Prop} {w : World} (vc :
 ∃ (I2 : Int → World → Prop) (M3 : Int → World → Nat), I2 0 w ∧ ∀ (n1 : Int) (v4 : World), I2 n1 v4 → ∀ _ : Nat → Value,
 (fun w : World =>
 If (decide (n1 < ((s.n : Nat) : Int))) (
 ((0 : Int) ≤ n1 ∧ n1 < ((s.n : Nat) : Int)) ∧ WithAddr s.a fun a5 =>
 LdN shHeld.cs 0 (a5.add (Int.toNat n1 * 3)) (fun n6 n7 n8 w =>
 Call P 141 [.agg #[.int .i64 n6, .int .i64 n7, .int .i64 n8], .pointer c] [sB] (fun b9 w =>
 If b9 (
 K n1 w) (
 I2 (IntKind.wrap .i64 (n1 + 1)) w ∧ M3 (IntKind.wrap .i64 (n1 + 1)) w < M3 n1 v4)) w) w) (
 K (-1) w)) v4) : Call P 172 [.slice s.a s.n s.c, .func (.func 141) #[] #[.pointer c]] [sI] K w :=
  call_of (H := ⟨[(2, [(8, .ki .i64)])], [], [], []⟩) Tryz.func172 (by kernel_rfl) (by kernel_rfl) vc

end Go.Proofs.YtajilfnceoeaiaaGreat.V
