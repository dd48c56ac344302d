/- How the cells of an argument, read as data, say a value of a printed kind (Kd): numbers, bools, structs, slices; for the rows of this seat's laws. -/
import Derived.Test.YtfimgecceneagaaWWords
import Derived.Test.YtfimgecceneagaaWSized
import Derived.Deep.Slices
import Derived.SizedLaws
import Derived.ChangeArms
namespace Go.Proofs.Ytfimgecceneagaa.Opens
open Go.RowKit Go.ChangeShapes Go.WideShapes Go.Proofs.YtfimgecceneagaaW.PrintWords
set_option linter.unusedVariables false

/-- What the cells of a type say, read as a value of a kind; G: what is known of the value (its numbers are of their kinds, its lists have their lengths). -/
def Opens {α : Type} (P : Program) (t : TypeId) (d : Kd α) (G : α → Prop) : Prop :=
  ∀ {H : Type} (enc : TypeId × Value → H) (w : World) (base : Nat) (spare : Nat → Bool) (held : Bool) (fuel : Nat) (cs : List Value) (x : DataW H × List MemPlace),
    DataW.trod enc P w base spare held fuel t cs = some x → (∀ n ∈ DataW.weights P t x.1, n ≤ reachBytes) → ∃ y : α, d.K w y cs ∧ G y

theorem opens_int {P : Program} {t : TypeId} {k : IntKind} (ht : P.underlying t = some (.int k)) : Opens P t (Kd.int k) (fun n => (Lit.int k n).wf = true) := by
  intro H enc w base spare held fuel cs x h _
  obtain ⟨n, rfl, _, hw⟩ := DataW.trod_int ht h
  exact ⟨n, rfl, hw⟩

theorem opens_bool {P : Program} {t : TypeId} (ht : P.underlying t = some .bool) : Opens P t Kd.bool (fun _ => True) := by
  intro H enc w base spare held fuel cs x h _
  obtain ⟨n, rfl, _⟩ := DataW.trod_bool ht h
  exact ⟨n, rfl, trivial⟩

theorem opens_string {P : Program} {t : TypeId} (ht : P.underlying t = some .string) : Opens P t Kd.string (fun s => s.size ≤ 140737488351232) := by
  intro H enc w base spare held fuel cs x h hw
  obtain ⟨s, rfl, rfl, _⟩ := DataW.trod_string ht h
  refine ⟨s, rfl, ?_⟩
  have := hw s.data.toList.length (by simp [DataW.weights])
  simpa [reachBytes] using this

theorem weightsAll_mem {H : Type} {P : Program} {e : TypeId} : ∀ {l : List (DataW H)} {d : DataW H}, d ∈ l → ∀ n ∈ DataW.weights P e d, n ∈ DataW.weightsAll P e l
  | [], d, hd, n, hn => by simp at hd
  | a :: l, d, hd, n, hn => by
    simp only [DataW.weightsAll, List.mem_append]
    rcases List.mem_cons.1 hd with rfl | hd
    · exact .inl hn
    · exact .inr (weightsAll_mem hd n hn)

theorem list_of {α : Type} {q : Nat → α → Prop} : ∀ (n : Nat), (∀ i, i < n → ∃ y, q i y) → ∃ ys : List α, ys.length = n ∧ ∀ (j : Nat) (p : α), ys[j]? = some p → q j p
  | 0, _ => ⟨[], rfl, fun j p h => by simp at h⟩
  | n + 1, h => by
    obtain ⟨ys, hl, hy⟩ := list_of n (fun i hi => h i (Nat.lt_succ_of_lt hi))
    obtain ⟨y, hq⟩ := h n (Nat.lt_succ_self n)
    refine ⟨ys ++ [y], by simp [hl], fun j p hp => ?_⟩
    rcases Nat.lt_or_ge j ys.length with hj | hj
    · rw [List.getElem?_append_left hj] at hp
      exact hy j p hp
    · rw [List.getElem?_append_right hj] at hp
      have h0 : j - ys.length = 0 := by
        rcases Nat.eq_zero_or_pos (j - ys.length) with h | h
        · exact h
        · rw [List.getElem?_eq_none (by rw [List.length_singleton]; omega)] at hp; simp at hp
      rw [h0] at hp
      simp only [List.getElem?_cons_zero, Option.some.injEq] at hp
      have : j = n := by omega
      subst this
      subst hp
      exact hq

theorem opens_slice {α : Type} {P : Program} {t e : TypeId} {d : Kd α} {G : α → Prop} {B : Nat} (ht : P.underlying t = some (.slice e)) (hc : P.cellsOf e = d.sz) (hB : P.bytesOf e = B) (he : Opens P e d G) :
    Opens P t (Kd.slice e d) (fun xs => xs.length ≤ maxLen ∧ xs.length * B ≤ 140737488351232 ∧ ∀ y ∈ xs, G y) := by
  intro H enc w base spare held fuel cs x h hw
  rcases Go.Deep.open_slice ht h with ⟨rfl, rfl⟩ | ⟨a, len, cap, m, n, D, Pl, rfl, _, hlc, hcm, hmm, rfl, hi⟩
  · refine ⟨[], ⟨none, 0, rfl, Nat.le_refl _, rfl, by simp, fun h => absurd h (Nat.lt_irrefl _)⟩, by simp, by simp, by simp⟩
  · have hlm : len ≤ m := by rw [hmm]; split <;> omega
    have hel : ∀ i, i < len → ∃ (y : α) (c : List Value), d.K w y c ∧ G y ∧ ∀ j u, c[j]? = some u → w.cell? (a.add (i * d.sz + j)) = some u := by
      intro i hil
      obtain ⟨cs', hcs, htr⟩ := hi i (by omega)
      obtain ⟨y, hK, hG⟩ := he enc w base spare held n cs' _ htr (fun q hq => hw q (by
        simp only [DataW.weights, ht, List.mem_cons, List.mem_append]
        exact .inr (.inl (weightsAll_mem (List.mem_map.2 ⟨i, List.mem_range.2 hil, rfl⟩) q hq))))
      refine ⟨y, cs', hK, hG, fun j u hj => ?_⟩
      rw [hc] at hcs
      obtain ⟨_, hcl, hat⟩ := World.cells?_some hcs
      have hjl : j < d.sz := by rw [← hcl]; exact (List.getElem?_eq_some_iff.1 hj).1
      have h1 := hat j hjl
      rw [Go.Deep.add_add] at h1
      exact h1.trans hj
    obtain ⟨ys, hlen, hys⟩ := list_of (q := fun i y => ∃ c : List Value, d.K w y c ∧ G y ∧ ∀ j u, c[j]? = some u → w.cell? (a.add (i * d.sz + j)) = some u) len hel
    refine ⟨ys, ⟨some a, cap, by rw [hlen], by rw [hlen]; exact hlc, ?_⟩, ?_, ?_, ?_⟩
    · refine ⟨rfl, by rw [hlen]; unfold maxLen at hcm; omega, fun _ => ⟨a, rfl, fun j p hp => ?_⟩⟩
      obtain ⟨c, hK, _, hcell⟩ := hys j p hp
      exact ⟨c, d.K_len hK, hK, hcell⟩
    · rw [hlen]; omega
    · rw [hlen]
      have h1 := hw ((((List.range len).map D).length + ((List.range (m - len)).map fun j => D (len + j)).length) * P.bytesOf e) (by simp [DataW.weights, ht])
      rw [hB] at h1
      simp only [List.length_map, List.length_range] at h1
      refine Nat.le_trans (Nat.mul_le_mul_right _ (Nat.le_add_right len (m - len))) (Nat.le_trans h1 (by decide))
    · intro y hy
      obtain ⟨i, hi', rfl⟩ := List.getElem_of_mem hy
      obtain ⟨_, _, hG, _⟩ := hys i _ (List.getElem?_eq_getElem hi')
      exact hG

/-- The fields of a struct from one on, the cells from 'off' on. -/
def OpensF {α : Type} (P : Program) (off : Nat) (fs : List Field) (d : Kd α) (G : α → Prop) : Prop :=
  ∀ {H : Type} (enc : TypeId × Value → H) (w : World) (base : Nat) (spare : Nat → Bool) (held : Bool) (n : Nat) (cs : List Value) (xs : List (DataW H × List MemPlace)),
    xs.length = fs.length → (∀ (i : Nat) (f : Field), fs[i]? = some f → DataW.trod enc P w base spare held n f.type ((cs.drop f.offset).take (P.cellsOf f.type)) = xs[i]?) →
    cs.length = off + d.sz → (∀ q ∈ DataW.weightsEach P (fs.map (·.type)) (xs.map (·.1)), q ≤ reachBytes) → ∃ y : α, d.K w y (cs.drop off) ∧ G y

theorem opensF_one {α : Type} {P : Program} {off : Nat} {f : Field} {d : Kd α} {G : α → Prop} (ho : f.offset = off) (hc : P.cellsOf f.type = d.sz) (h : Opens P f.type d G) : OpensF P off [f] d G := by
  intro H enc w base spare held n cs xs hl hx hcs hw
  match xs, hl with
  | [x], _ =>
    have h0 := hx 0 f rfl
    rw [ho, hc, List.take_of_length_le (by rw [List.length_drop, hcs]; omega)] at h0
    exact h enc w base spare held n _ x h0 (fun q hq => hw q (by simpa [DataW.weightsEach] using hq))

theorem opensF_cons {α β : Type} {P : Program} {off : Nat} {f : Field} {fs : List Field} {d1 : Kd α} {G1 : α → Prop} {d2 : Kd β} {G2 : β → Prop} (ho : f.offset = off) (hc : P.cellsOf f.type = d1.sz) (h1 : Opens P f.type d1 G1) (h2 : OpensF P (off + d1.sz) fs d2 G2) :
    OpensF P off (f :: fs) (Kd.pair d1 d2) (fun y => G1 y.1 ∧ G2 y.2) := by
  intro H enc w base spare held n cs xs hl hx hcs hw
  match xs, hl with
  | x :: xs, hl =>
    have h0 := hx 0 f rfl
    rw [ho, hc] at h0
    obtain ⟨y1, hK1, hG1⟩ := h1 enc w base spare held n _ x h0 (fun q hq => hw q (by simp only [List.map_cons, DataW.weightsEach, List.mem_append]; exact .inl hq))
    obtain ⟨y2, hK2, hG2⟩ := h2 enc w base spare held n cs xs (by simpa using hl) (fun i g hg => hx (i + 1) g hg) (by rw [hcs]; show off + (d1.sz + d2.sz) = _; omega) (fun q hq => hw q (by simp only [List.map_cons, DataW.weightsEach, List.mem_append]; exact .inr hq))
    refine ⟨(y1, y2), ⟨_, _, ?_, hK1, hK2⟩, hG1, hG2⟩
    rw [← List.drop_drop, List.take_append_drop]

theorem opens_struct {α : Type} {P : Program} {t : TypeId} {fs : Array Field} {d : Kd α} {G : α → Prop} (ht : P.underlying t = some (.struct fs)) (hc : P.cellsOf t = d.sz) (h : OpensF P 0 fs.toList d G) : Opens P t d G := by
  intro H enc w base spare held fuel cs x hx hw
  obtain ⟨xs, n, _, rfl, hl, hlen, hf⟩ := DataW.trod_struct ht hx
  obtain ⟨y, hK, hG⟩ := h enc w base spare held n cs xs (by simpa using hlen) (fun i f hif => hf i f (by simpa using hif)) (by rw [hl, hc]; omega) (fun q hq => hw q (by simp only [DataW.weights, ht]; exact hq))
  exact ⟨y, by simpa using hK, hG⟩

theorem opens_iso {α β : Type} {P : Program} {t : TypeId} {d : Kd α} {G : α → Prop} (f : β → α) (g : α → β) (hfg : ∀ a, f (g a) = a) (h : Opens P t d G) : Opens P t (Kd.iso d f) (fun b => G (f b)) := by
  intro H enc w base spare held fuel cs x hx hw
  obtain ⟨y, hK, hG⟩ := h enc w base spare held fuel cs x hx hw
  refine ⟨g y, ?_, ?_⟩
  · show d.K w (f (g y)) cs
    rw [hfg]; exact hK
  · show G (f (g y))
    rw [hfg]; exact hG

theorem opens_imp {α : Type} {P : Program} {t : TypeId} {d : Kd α} {G G' : α → Prop} (h : Opens P t d G) (hG : ∀ y, G y → G' y) : Opens P t d G' := by
  intro H enc w base spare held fuel cs x hx hw
  obtain ⟨y, hK, hy⟩ := h enc w base spare held fuel cs x hx hw
  exact ⟨y, hK, hG y hy⟩

/-- An argument that reads as data. -/
theorem Opens.arg {α : Type} {P : Program} {t : TypeId} {d : Kd α} {G : α → Prop} (ho : Opens P t d G) {H : Type} {enc : TypeId × Value → H} {w : World} {base : Nat} {spare : Nat → Bool} {held : Bool} {v : Value} {x : DataW H} {ps : List MemPlace}
    {ts : List TypeId} {ds : List (DataW H)} {j : Nat} (hsz : (DataW.weightsEach P ts ds).all (· ≤ reachBytes) = true) (ht : ts[j]? = some t) (hd : ds[j]? = some x)
    (h : DataW.Trod enc P w base spare held t v x ps) : ∃ y : α, d.K w y v.cells.toList ∧ G y := by
  obtain ⟨fuel, hf⟩ := h
  exact ho enc w base spare held fuel _ _ hf (fun n hn => by simpa using List.all_eq_true.1 hsz n (DataW.weights_mem_each ht hd n hn))

/-- A slice by its kind. -/
theorem slice_arg {α : Type} {w : World} {e : Nat} {d : Kd α} {xs : List α} {A : Option Addr} {len cap : Nat} (h : (Kd.slice e d).K w xs (Value.slice A len cap).cells.toList) : len = xs.length ∧ xs.length ≤ cap ∧ Kd.C d w A xs.length xs := by
  obtain ⟨A', c', he, hl, hC⟩ := h
  simp only [Value.cells, List.cons.injEq, Value.slice.injEq, and_true] at he
  obtain ⟨rfl, rfl, rfl⟩ := he
  exact ⟨rfl, hl, hC⟩

/-- A struct's value by its cells. -/
theorem agg_arg {v : Value} {cs : Array Value} {l : List Value} (hv : v = .agg cs) (h : v.cells.toList = l) : v = .agg l.toArray := by
  subst hv
  simp only [Value.cells] at h
  rw [← h]
end Go.Proofs.Ytfimgecceneagaa.Opens
