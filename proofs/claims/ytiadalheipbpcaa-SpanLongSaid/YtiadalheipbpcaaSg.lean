/-
  Stores, appends and built slices.
-/
import Derived.Test.YtiadalheipbpcaaSe
import Derived.Deep.AppendSrc
import Derived.Laws.AppendOwn
import Derived.Laws.CopyRow
namespace Go.Proofs.Ytiadalheipbpcaa
set_option linter.all false

/-- the cells of a list of elements, one behind another -/
def Cz (c : Cx) (sz : Nat) (es : List (List V)) (l : List Value) : Prop :=
  es.length * sz ≤ l.length ∧ ∀ (j k : Nat) e v, es[j]? = some e → e[k]? = some v → ∃ u, l[j * sz + k]? = some u ∧ oneC u = true ∧ Rep c v u

theorem repO_row {c : Cx} {b sz s : Nat} {es : List (List V)} : RepO c b sz (.row s es) ↔ s = sz ∧ 0 < sz ∧ (∀ e ∈ es, e.length = sz) ∧ ∃ arr t, c.heap[b]? = some (.cells arr t (0, 0)) ∧ Cz c sz es arr.toList := by
  constructor
  · rintro ⟨h1, h2, h3, arr, t, h4, h5, h6⟩
    refine ⟨h1, h2, h3, arr, t, h4, by simpa using h5, fun j k e v he hv => ?_⟩
    obtain ⟨x, hx, hh⟩ := h6 j k e v he hv
    exact ⟨x, by rw [Array.getElem?_toList]; exact hx, hh⟩
  · rintro ⟨h1, h2, h3, arr, t, h4, h5, h6⟩
    refine ⟨h1, h2, h3, arr, t, h4, by simpa using h5, fun j k e v he hv => ?_⟩
    obtain ⟨x, hx, hh⟩ := h6 j k e v he hv
    exact ⟨x, by rw [← Array.getElem?_toList]; exact hx, hh⟩

theorem Cz.ext {c c' : Cx} (h : Ext c c') (hs : Sep c) {sz : Nat} {es : List (List V)} {l : List Value} (hz : Cz c sz es l) : Cz c' sz es l :=
  ⟨hz.1, fun j k e v he hv => by obtain ⟨u, h1, h2, h3⟩ := hz.2 j k e v he hv; exact ⟨u, h1, h2, h3.ext h hs⟩⟩

theorem Cz.append {c : Cx} {sz : Nat} {es ys : List (List V)} {l m : List Value} (h1 : Cz c sz es l) (hl : l.length = es.length * sz) (h2 : Cz c sz ys m) : Cz c sz (es ++ ys) (l ++ m) := by
  refine ⟨by simp [Nat.add_mul]; have := h2.1; omega, fun j k e v he hv => ?_⟩
  rcases Nat.lt_or_ge j es.length with hj | hj
  · rw [List.getElem?_append_left hj] at he
    obtain ⟨u, hu, hh⟩ := h1.2 j k e v he hv
    refine ⟨u, ?_, hh⟩
    rw [List.getElem?_append_left]
    · exact hu
    · exact (List.getElem?_eq_some_iff.1 hu).1
  · rw [List.getElem?_append_right hj] at he
    obtain ⟨u, hu, hh⟩ := h2.2 _ k e v he hv
    refine ⟨u, ?_, hh⟩
    have e1 : j * sz + k = l.length + ((j - es.length) * sz + k) := by
      rw [hl, ← Nat.add_assoc, ← Nat.add_mul, Nat.add_sub_cancel' hj]
    rw [e1, List.getElem?_append_right (by omega), Nat.add_sub_cancel_left]
    exact hu

theorem Cz.longer {c : Cx} {sz : Nat} {es : List (List V)} {l : List Value} (h : Cz c sz es l) (m : List Value) : Cz c sz es (l ++ m) :=
  ⟨by have := h.1; simp; omega, fun j k e v he hv => by
    obtain ⟨u, hu, hh⟩ := h.2 j k e v he hv
    exact ⟨u, by rw [List.getElem?_append_left (List.getElem?_eq_some_iff.1 hu).1]; exact hu, hh⟩⟩

def wr (l vs : List Value) (p : Nat) : List Value := l.take p ++ vs ++ l.drop (p + vs.length)

theorem wr_len {l vs : List Value} {p : Nat} (h : p + vs.length ≤ l.length) : (wr l vs p).length = l.length := by
  simp [wr]; omega

theorem wr_get {l vs : List Value} {p : Nat} (h : p + vs.length ≤ l.length) (m : Nat) : (wr l vs p)[m]? = if p ≤ m ∧ m < p + vs.length then vs[m - p]? else l[m]? := by
  unfold wr
  have e1 : (l.take p).length = p := by simp; omega
  rcases Nat.lt_or_ge m p with hm | hm
  · rw [if_neg (by omega), List.append_assoc, List.getElem?_append_left (by omega), List.getElem?_take_of_lt hm]
  · rcases Nat.lt_or_ge m (p + vs.length) with hn | hn
    · rw [if_pos ⟨hm, hn⟩, List.getElem?_append_left (by simp; omega), List.getElem?_append_right (by omega), e1]
    · rw [if_neg (by omega), List.getElem?_append_right (by simp; omega), List.getElem?_drop]
      congr 1
      simp; omega

theorem heap_setRow {w : World} {b : Nat} {old cs : Array Value} {t : TypeId} (h : w.heap[b]? = some (.cells old t (0, 0))) : (w.setRow b cs).heap = w.heap.setIfInBounds b (.cells cs t (0, 0)) := by
  apply Array.ext_getElem?
  intro i
  by_cases hi : i = b
  · subst hi
    rw [setRow_heap w i old cs t _ h, Array.getElem?_setIfInBounds_self_of_lt (Array.getElem?_eq_some_iff.1 h).1]
  · rw [setRow_other w b i cs hi, Array.getElem?_setIfInBounds_ne (Ne.symm hi)]

/-- a value's cells are stored one by one -/
theorem run_wr {P : Program} {w : World} {b o : Nat} {t : TypeId} {arr : Array Value} {vs : List Value} (h : w.heap[b]? = some (.cells arr t (0, 0))) (hl : o + vs.length ≤ arr.size) (h1 : ∀ v ∈ vs, oneC v = true) :
    (storeCells ⟨b, o, none⟩ vs).run P w = .ok () (w.setRow b (wr arr.toList vs o).toArray) := by
  have := run_storeCells_at (P := P) b o t vs 0 arr w h (by simpa using hl) (fun v hv => by rw [← oneC_eq]; exact h1 v hv)
  simpa [wr] using this

def EffU (P : Program) (c : Cx) (w : World) (s : Sem Unit) (K : V → O → Prop) : Prop :=
  ∃ w' c' o', s.run P w = .ok () w' ∧ After c w c' .jk o' undef w' ∧ K .jk o'

theorem Cz.store {c : Cx} {sz : Nat} {es : List (List V)} {l : List Value} (h : Cz c sz es l) (hlen : ∀ e ∈ es, e.length = sz) {i j : Nat} {cs vc : List V} (hi : es[i]? = some cs) (hj : j + vc.length ≤ cs.length)
    {vs : List Value} (hv : Reps c vc vs) (h1 : ∀ v ∈ vs, oneC v = true) : i * sz + j + vs.length ≤ l.length ∧ Cz c sz (es.set i (splice j vc cs)) (wr l vs (i * sz + j)) ∧ ∀ e ∈ es.set i (splice j vc cs), e.length = sz := by
  have hcs := hlen cs (List.mem_of_getElem? hi)
  have hil : i < es.length := (List.getElem?_eq_some_iff.1 hi).1
  have hvl := hv.len
  have hle : i * sz + j + vs.length ≤ l.length := by
    have : (i + 1) * sz ≤ es.length * sz := Nat.mul_le_mul_right _ hil
    rw [Nat.add_mul] at this
    have := h.1
    omega
  have hsp := splice_len j vc cs hj
  refine ⟨hle, ⟨by rw [wr_len hle, List.length_set]; exact h.1, fun a k e v he hk => ?_⟩, fun e he => ?_⟩
  · rw [wr_get hle]
    rw [List.getElem?_set] at he
    split at he
    · rename_i hia
      subst hia
      try rw [if_pos hil] at he
      cases he
      rw [splice_get j vc cs hj] at hk
      split at hk
      · rename_i hc
        rw [if_pos (by omega)]
        have hx : k - j < vs.length := by omega
        refine ⟨vs[k - j], ?_, h1 _ (List.getElem_mem _), hv.rep _ v _ hk (List.getElem?_eq_getElem _)⟩
        rw [show i * sz + k - (i * sz + j) = k - j by omega]
        exact List.getElem?_eq_getElem _
      · rename_i hc
        rw [if_neg (by omega)]
        exact h.2 i k cs v hi hk
    · rename_i hia
      have hk' : k < sz := by
        rw [← hlen e (List.mem_of_getElem? he)]
        exact (List.getElem?_eq_some_iff.1 hk).1
      rw [if_neg]
      · exact h.2 a k e v he hk
      · rcases Nat.lt_or_gt_of_ne hia with hlt | hgt
        · have : (i + 1) * sz ≤ a * sz := Nat.mul_le_mul_right _ hlt
          rw [Nat.add_mul] at this; omega
        · have : (a + 1) * sz ≤ i * sz := Nat.mul_le_mul_right _ hgt
          rw [Nat.add_mul] at this; omega
  · rcases List.mem_or_eq_of_mem_set he with he | he
    · exact hlen e he
    · rw [he, hsp]; exact hcs

section
variable {P : Program} {c : Cx} {o : O} {w : World}

theorem eff_store (hp : c.heap = w.heap) (hi : Inv c o) {t : TypeId} (hok : okT P t = true) {id i j s : Nat} {xa xv : Value} {vv : V} (ha : Rep c (.pt id i j) xa) (hv : Rep c vv xv) {es : List (List V)} (ho : o id = some (.row s es)) {cs : List V} (hcs : es[i]? = some cs)
    (hsz : vv.cells.length = P.cellsOf t) (hj : j + P.cellsOf t ≤ cs.length) {K : V → O → Prop} (hK : K .jk (upd o id (some (.row s (es.set i (splice j vv.cells cs)))))) : EffU P c w (Instr.storeAt t xa xv) K := by
  obtain ⟨hpos, ⟨d, hu⟩, ii, hinf⟩ := okT_some hok
  obtain ⟨b, sz, hph, hr⟩ := hi.ob id _ ho
  obtain ⟨rfl, hs0, hlen, arr, ty, hb, hz⟩ := repO_row.1 hr
  have hne : vv.cells ≠ [] := fun h0 => by rw [h0] at hsz; simp at hsz; omega
  obtain ⟨h2, h3, _⟩ := hv.cells hne
  have hcl : xv.cells.toList.length = vv.cells.length := h2.len
  have h3' : ∀ v ∈ xv.cells.toList, oneC v = true := fun v hm => by
    obtain ⟨k, hk⟩ := List.getElem?_of_mem hm
    exact h3 k v (by rw [← Array.getElem?_toList]; exact hk)
  obtain ⟨q1, q2, q3⟩ := hz.store hlen hcs (by rw [hsz]; exact hj) h2 h3'
  cases ha with
  | ptd _ _ _ _ hn => rw [hph] at hn; cases hn
  | pt _ _ _ b2 sz2 hp2 hn =>
    rw [hph] at hp2
    cases hp2
    have hbw : w.heap[b]? = some (.cells arr ty (0, 0)) := by rw [← hp]; exact hb
    have hst := run_wr (P := P) hbw (o := i * s + j) (vs := xv.cells.toList) (by simpa using q1) h3'
    have hsame : ∀ arr1 t1 fz, c.heap[b]? = some (Obj.cells arr1 t1 fz) → ∃ arr', Obj.cells (wr arr.toList xv.cells.toList (i * s + j)).toArray ty (0, 0) = Obj.cells arr' t1 fz ∧ arr'.size = arr1.size := by
      intro arr1 t1 fz h
      rw [hb] at h
      cases h
      exact ⟨_, rfl, by simp [wr_len q1]⟩
    have hblt : b < c.heap.size := (hi.lt _ _ _ hph).2.1
    refine ⟨w.setRow b (wr arr.toList xv.cells.toList (i * s + j)).toArray, c.set b (.cells (wr arr.toList xv.cells.toList (i * s + j)).toArray ty (0, 0)), _, ?_, ⟨set_ext hi hph hsame, ?_, rfl, rfl, set_inv hi hph hsame ?_, .jk _⟩, hK⟩
    · have hsize : ¬ (xv.cells.size ≠ P.cellsOf t) := by
        rw [← Array.length_toList, hcl, hsz]; simp
      simp only [Instr.storeAt, Instr.sureAddr, Sem.run_bind, Sem.run_pure, Result.andThen_ok, storeVar, run_sizeOf w hinf, if_neg hsize, hst]
    · rw [heap_setRow hbw]; simp [Cx.set, hp]
    · refine repO_row.2 ⟨rfl, hs0, q3, _, ty, by simp only [Cx.set]; rw [Array.getElem?_setIfInBounds_self_of_lt hblt], ?_⟩
      exact Cz.ext (set_ext hi hph hsame) hi.sep (by simpa using q2)

end

end Go.Proofs.Ytiadalheipbpcaa
