/-
  Slices built of given elements, and blocks that nothing is told of.
-/
import Derived.Test.YtiadalheipbpcaaSh
namespace Go.Proofs.Ytiadalheipbpcaa
set_option linter.all false

theorem setAt_wr {arr : Array Value} {vs : List Value} {p : Nat} (h : p + vs.length ≤ arr.size) : (setAt p vs 0 arr).toList = wr arr.toList vs p := by
  apply List.ext_getElem?
  intro k
  rw [Array.getElem?_toList, setAt_get p vs 0 arr (by omega), wr_get (by simpa using h), Array.getElem?_toList]
  simp

theorem splice_all {vc cs : List V} (h : vc.length = cs.length) : splice 0 vc cs = vc := by
  apply List.ext_getElem?
  intro k
  rw [splice_get 0 vc cs (by omega)]
  split
  · simp
  · rw [List.getElem?_eq_none (by omega), List.getElem?_eq_none (by omega)]

theorem fillE_ok {c : Cx} {e : E} {a : Act} (hr : ∀ t, Rep c (e t) (a.tmps.getD t undef)) {sz : Nat} (hs : 0 < sz) :
    ∀ (ps : List (Nat × Operand)) (es rs : List (List V)) (arr : Array Value), Cz c sz es arr.toList → (∀ x ∈ es, x.length = sz) → fillE e sz (ps.map fun p => (p.1, cO p.2)) es = some rs →
      ∃ xs, Instr.fill (fun i => some (i * sz, sz)) arr (ps.map fun p => (p.1, a.eval p.2)) = some xs ∧ Cz c sz rs xs.toList ∧ (∀ x ∈ rs, x.length = sz) ∧ rs.length = es.length ∧ xs.size = arr.size := by
  intro ps
  induction ps with
  | nil =>
    intro es rs arr hz hl h
    simp only [List.map_nil, fillE, Option.some.injEq] at h
    subst h
    exact ⟨arr, rfl, hz, hl, rfl, rfl⟩
  | cons p ps ih =>
    obtain ⟨i, x⟩ := p
    intro es rs arr hz hl h
    simp only [List.map_cons, fillE] at h
    split at h
    · rename_i hc
      obtain ⟨c1, c2⟩ := hc
      obtain ⟨h2, h3, _⟩ := (rep_cO hr x).cells (fun h0 => by rw [h0] at c1; simp at c1; omega)
      have h3' : ∀ v ∈ (a.eval x).cells.toList, oneC v = true := fun v hm => by
        obtain ⟨k, hk⟩ := List.getElem?_of_mem hm
        exact h3 k v (by rw [← Array.getElem?_toList]; exact hk)
      have hcs := hl _ (List.getElem_mem c2)
      have hsz : (a.eval x).cells.size = sz := by rw [← Array.length_toList, h2.len, c1]
      obtain ⟨q1, q2, q3⟩ := hz.store hl (List.getElem?_eq_getElem c2) (j := 0) (by rw [c1, hcs]; omega) h2 h3'
      rw [splice_all (by rw [c1, hcs])] at q2 q3
      simp only [Nat.add_zero] at q1 q2
      have q1' : i * sz + sz ≤ arr.size := by simpa [hsz] using q1
      simp only [List.map_cons, Instr.fill]
      rw [if_neg (by simp [hsz]; omega)]
      have ef : (a.eval x).cells.zipIdx.foldl (fun cs (c, j) => cs.setIfInBounds (i * sz + j) c) arr = setAt (i * sz) (a.eval x).cells.toList 0 arr := by
        unfold setAt
        rw [← Array.foldl_toList, Array.toList_zipIdx]
      rw [ef]
      obtain ⟨xs, r1, r2, r3, r4, r5⟩ := ih _ rs (setAt (i * sz) (a.eval x).cells.toList 0 arr) (by rw [setAt_wr (by simpa using q1)]; exact q2) q3 h
      exact ⟨xs, r1, r2, r3, by rw [r4]; simp, by rw [r5, setAt_size]⟩
    · cases h

theorem cz_reps {c : Cx} {z : List V} {zs : Array Value} (hne : z ≠ []) (hz : Reps c z zs.toList) (h1 : ∀ (j : Nat) y, zs[j]? = some y → oneC y = true) {l m : Nat} (hlm : l ≤ m) :
    Cz c z.length (List.replicate l z) ((Array.range (m * z.length)).map (zs[· % zs.size]!)).toList := by
  have hl : zs.size = z.length := by rw [← Array.length_toList, hz.len]
  have hpos := List.length_pos_iff.2 hne
  refine ⟨by simpa using Nat.mul_le_mul_right _ hlm, fun j k e v he hv => ?_⟩
  obtain ⟨hj, rfl⟩ : j < l ∧ e = z := by
    rcases Nat.lt_or_ge j l with h | h
    · rw [List.getElem?_replicate_of_lt h] at he; cases he; exact ⟨h, rfl⟩
    · rw [List.getElem?_eq_none (by simpa using h)] at he; cases he
  have hk : k < e.length := by
    rcases Nat.lt_or_ge k e.length with h | h
    · exact h
    · rw [List.getElem?_eq_none h] at hv; cases hv
  have hlt : j * e.length + k < m * e.length := by
    have : (j + 1) * e.length ≤ m * e.length := Nat.mul_le_mul_right _ (by omega)
    rw [Nat.add_mul] at this; omega
  have hmod : (j * e.length + k) % zs.size = k := by
    rw [hl, Nat.mul_comm, Nat.mul_add_mod]; exact Nat.mod_eq_of_lt hk
  refine ⟨zs[k]'(by omega), ?_, h1 k _ (Array.getElem?_eq_getElem _), hz.rep k v _ hv ?_⟩
  · rw [Array.getElem?_toList, zget zs _ _ hlt (by omega)]
    simp only [hmod]
  · rw [Array.getElem?_toList]; exact Array.getElem?_eq_getElem _

def Cx.junk (c : Cx) (ob : Obj) : Cx := { c with heap := c.heap.push ob }

theorem junk_ext {c : Cx} {o : O} (h : Inv c o) (ob : Obj) : Ext c (c.junk ob) where
  size := (alloc_ext h ob 0).size
  keep := (alloc_ext h ob 0).keep
  shape := (alloc_ext h ob 0).shape
  im _ hb := hb
  imn _ _ hb := .inl hb
  ph _ _ hp := .inl hp
  phn _ _ _ hp := .inl hp
  n := Nat.le_refl _

theorem junk_inv {c : Cx} {o : O} (h : Inv c o) (ob : Obj) : Inv (c.junk ob) o where
  dom := h.dom
  ob id x ho := by
    obtain ⟨b, sz, hp, hr⟩ := h.ob id x ho
    refine ⟨b, sz, hp, hr.ext (junk_ext h ob) h.sep ?_⟩
    have hb := (h.lt _ _ _ hp).2.1
    simp only [Cx.junk]; rw [Array.getElem?_push_lt hb, Array.getElem?_eq_getElem hb]
  lt id b sz hp := by
    obtain ⟨h1, h2, h3⟩ := h.lt id b sz hp
    exact ⟨h1, by simp only [Cx.junk, Array.size_push]; omega, h3⟩
  inj := h.inj
  im b hb := by
    have := h.im b hb
    simp only [Cx.junk, Array.size_push]; omega

section
variable {P : Program} {c : Cx} {o : O} {w : World}

theorem eff_buildSlice {cl : CallT} {ev : E} {a : Act} (hr : ∀ t, Rep c (ev t) (a.tmps.getD t undef)) (hp : c.heap = w.heap) (hi : Inv c o) {t el : TypeId} (ht : P.underlying t = some (.slice el)) (hok : okT P el = true) {z : List V} (hzc : zeroC P el = some z) (hzl : z.length = P.cellsOf el)
    {n : Nat} (hn : n * P.cellsOf el ≤ 16777216) {ps : Array (Nat × Operand)} (hps : n = 0 → ps.toList = []) {K : V → O → Prop} (h : W cl ev o K (.bsl (P.cellsOf el) n z (ps.toList.map fun p => (p.1, cO p.2)))) :
    Eff P c w (Instr.buildSlice t n (ps.map fun (i, x) => (i, a.eval x))) K := by
  obtain ⟨hs0, _, i, hinf⟩ := okT_some hok
  obtain ⟨zv, h1, h2, h3⟩ := zeroC_rep c hzc w
  have hzs : zv.cells.size = P.cellsOf el := by rw [← Array.length_toList, h2.len, hzl]
  have hne : z ≠ [] := fun h0 => by rw [h0] at hzl; simp at hzl; omega
  simp only [W] at h
  split at h
  · rename_i hn0
    subst hn0
    refine ⟨.slice (some ⟨w.heap.size, 0, none⟩) 0 0, { w with heap := w.heap.push (.cells ((Array.range 0).map ((#[] : Array Value)[· % 0]!)) el) }, c.junk (.cells ((Array.range 0).map ((#[] : Array Value)[· % 0]!)) el), .nil, o, ?_, ⟨junk_ext hi _, by simp [Cx.junk, hp], rfl, rfl, junk_inv hi _, .nil _⟩, h⟩
    have e1 : (ps.map fun (i, x) => (i, a.eval x)).toList = [] := by simp [hps rfl]
    have e2 : ¬ (0 * P.cellsOf el > 2 ^ 24) := by omega
    have e3 : ((Array.range (0 * P.cellsOf el)).map ((#[] : Array Value)[· % (#[] : Array Value).size]!)) = (Array.range 0).map ((#[] : Array Value)[· % 0]!) := by simp
    simp only [Instr.buildSlice, Sem.run_bind, run_underlying ht, Result.andThen_ok, run_sizeOf w hinf, if_neg e2, Sem.run_pure, e1, Instr.fill, Nat.zero_mul, if_true]
    rfl
  · rename_i hn0
    cases hf : fillE ev (P.cellsOf el) (ps.toList.map fun p => (p.1, cO p.2)) (List.replicate n z) with
    | none => simp [hf] at h
    | some rs =>
      simp only [hf] at h
      have hz0 : Cz c (P.cellsOf el) (List.replicate n z) ((Array.range (n * P.cellsOf el)).map (zv.cells[· % zv.cells.size]!)).toList := by
        have := cz_reps (l := n) (m := n) hne h2 h3 (Nat.le_refl _)
        rw [hzl] at this
        exact this
      obtain ⟨xs, r1, r2, r3, r4, r5⟩ := fillE_ok hr hs0 ps.toList _ rs _ hz0 (fun x hx => by rw [List.eq_of_mem_replicate hx, hzl]) hf
      refine Eff.alloc (w1 := w) (ob := .cells xs el) (sz := P.cellsOf el) (x := .row (P.cellsOf el) rs) (f := fun id => .rw id (P.cellsOf el) 0 n) (val := fun b => .slice (some ⟨b, 0, none⟩) n n) hp hi rfl rfl rfl ?_ ?_ ?_ h
      · have e1 : (ps.map fun (i, x) => (i, a.eval x)).toList = ps.toList.map fun p => (p.1, a.eval p.2) := by simp
        have e2 : ¬ (n * P.cellsOf el > 2 ^ 24) := by omega
        have e3 : ¬ (n * P.cellsOf el = 0) := fun h0 => by rcases Nat.mul_eq_zero.1 h0 with h0 | h0 <;> omega
        simp only [Instr.buildSlice, Sem.run_bind, run_underlying ht, Result.andThen_ok, run_sizeOf w hinf, if_neg e2, if_neg e3, Sem.run_pure, h1, e1, r1]
        rfl
      · exact repO_row.2 ⟨rfl, hs0, r3, _, el, alloc_get _ _ _, Cz.ext (alloc_ext hi _ _) hi.sep r2⟩
      · have := Rep.rw (c := c.alloc (.cells xs el) (P.cellsOf el)) c.n (P.cellsOf el) 0 n _ n (alloc_ph _ _ _) (alloc_n _ _ _) (Nat.le_refl _) ⟨_, _, alloc_get _ _ _, by rw [r5]; simp⟩
        simpa using this

end

end Go.Proofs.Ytiadalheipbpcaa
