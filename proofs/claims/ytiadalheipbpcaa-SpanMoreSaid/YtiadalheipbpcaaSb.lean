/-
  Aggregates that are built, and the quiet operations together.
-/
import Derived.Test.YtiadalheipbpcaaSp
namespace Go.Proofs.Ytiadalheipbpcaa
set_option linter.all false

theorem splice_len : ∀ (off : Nat) (vs z : List V), off + vs.length ≤ z.length → (splice off vs z).length = z.length := by
  intro off
  induction off with
  | zero =>
    intro vs
    induction vs with
    | nil => intro z _; cases z <;> rfl
    | cons v vs ih =>
      intro z h
      cases z with
      | nil => simp at h
      | cons y z => simp only [splice, List.length_cons]; rw [ih z (by simp at h; omega)]
  | succ off ih =>
    intro vs z h
    cases z with
    | nil => simp at h
    | cons y z => simp only [splice, List.length_cons]; rw [ih vs z (by simp at h; omega)]

theorem splice_get : ∀ (off : Nat) (vs z : List V), off + vs.length ≤ z.length → ∀ k, (splice off vs z)[k]? = if off ≤ k ∧ k < off + vs.length then vs[k - off]? else z[k]? := by
  intro off
  induction off with
  | zero =>
    intro vs
    induction vs with
    | nil => intro z _ k; cases z <;> simp [splice]
    | cons v vs ih =>
      intro z h k
      cases z with
      | nil => simp at h
      | cons y z =>
        simp only [splice]
        cases k with
        | zero => simp
        | succ k =>
          simp only [List.getElem?_cons_succ]
          rw [ih z (by simp at h; omega)]
          by_cases hk : k < vs.length
          · rw [if_pos (by omega), if_pos (by simp; omega)]; simp
          · rw [if_neg (by omega), if_neg (by simp; omega)]
  | succ off ih =>
    intro vs z h k
    cases z with
    | nil => simp at h
    | cons y z =>
      simp only [splice]
      cases k with
      | zero => simp
      | succ k =>
        simp only [List.getElem?_cons_succ]
        rw [ih vs z (by simp at h; omega)]
        by_cases hk : off ≤ k ∧ k < off + vs.length
        · rw [if_pos hk, if_pos (by omega)]; congr 1; omega
        · rw [if_neg hk, if_neg (by omega)]

def setAt (off : Nat) (l : List Value) (n : Nat) (cells : Array Value) : Array Value :=
  (l.zipIdx n).foldl (fun cs p => cs.setIfInBounds (off + p.2) p.1) cells

theorem setAt_size (off : Nat) : ∀ (l : List Value) (n : Nat) (cells : Array Value), (setAt off l n cells).size = cells.size := by
  intro l
  induction l with
  | nil => intro n cells; rfl
  | cons v l ih =>
    intro n cells
    show (setAt off l (n + 1) (cells.setIfInBounds (off + n) v)).size = _
    rw [ih]; simp

theorem setAt_get (off : Nat) : ∀ (l : List Value) (n : Nat) (cells : Array Value), off + n + l.length ≤ cells.size →
    ∀ k, (setAt off l n cells)[k]? = if off + n ≤ k ∧ k < off + n + l.length then l[k - (off + n)]? else cells[k]? := by
  intro l
  induction l with
  | nil => intro n cells _ k; rw [if_neg (by simp)]; rfl
  | cons v l ih =>
    intro n cells h k
    show (setAt off l (n + 1) (cells.setIfInBounds (off + n) v))[k]? = _
    rw [ih (n + 1) _ (by simp at h ⊢; omega)]
    simp only [List.length_cons] at h ⊢
    by_cases h1 : off + (n + 1) ≤ k ∧ k < off + (n + 1) + l.length
    · rw [if_pos h1, if_pos (by omega)]
      rw [show k - (off + n) = (k - (off + (n + 1))) + 1 by omega]; simp
    · rw [if_neg h1]
      by_cases h2 : k = off + n
      · subst h2
        rw [if_pos (by omega), Array.getElem?_setIfInBounds_self_of_lt (by omega)]
        simp
      · rw [if_neg (by omega), Array.getElem?_setIfInBounds_ne (by omega)]

theorem Reps.splice {c : Cx} {z vs : List V} {zc xs : List Value} {off : Nat} (hz : Reps c z zc) (hv : Reps c vs xs) (hle : off + vs.length ≤ z.length) (cells : Array Value) (hc : cells.toList = zc) :
    Reps c (splice off vs z) (setAt off xs 0 cells).toList := by
  have e1 := hz.len
  have e2 := hv.len
  have e3 : cells.size = z.length := by rw [← Array.length_toList, hc, e1]
  refine ⟨by simp [setAt_size, splice_len off vs z hle, e3], fun j v x h1 h2 => ?_⟩
  rw [splice_get off vs z hle] at h1
  rw [Array.getElem?_toList, setAt_get off xs 0 cells (by omega)] at h2
  by_cases hj : off ≤ j ∧ j < off + vs.length
  · rw [if_pos hj] at h1
    rw [if_pos (by omega)] at h2
    exact hv.rep (j - off) v x h1 h2
  · rw [if_neg hj] at h1
    rw [if_neg (by omega), ← Array.getElem?_toList, hc] at h2
    exact hz.rep j v x h1 h2

theorem fill_ok {c : Cx} {e : E} {a : Act} (hr : ∀ t, Rep c (e t) (a.tmps.getD t undef)) {place : Nat → Option (Nat × Nat)} {l : List (Nat × Nat)} (hp : ∀ j x, l[j]? = some x → place j = some x) :
    ∀ (ps : List (Nat × Operand)) (qs : List (Nat × Nat × Od)) (z cs : List V) (zc : Array Value), bldPs l ps = some qs → Reps c z zc.toList → (∀ (j : Nat) y, zc[j]? = some y → oneC y = true) → fillC e qs z = some cs →
      ∃ xs, Instr.fill place zc (ps.map fun p => (p.1, a.eval p.2)) = some xs ∧ Reps c cs xs.toList ∧ (∀ (j : Nat) y, xs[j]? = some y → oneC y = true) := by
  intro ps
  induction ps with
  | nil =>
    intro qs z cs zc hb hz h1 hf
    simp only [bldPs, Option.some.injEq] at hb
    subst hb
    simp only [fillC, Option.some.injEq] at hf
    subst hf
    exact ⟨zc, rfl, hz, h1⟩
  | cons p ps ih =>
    obtain ⟨j, x⟩ := p
    intro qs z cs zc hb hz h1 hf
    simp only [bldPs] at hb
    split at hb
    · rename_i off sz r hl hbr
      split at hb
      · rename_i hpos
        simp only [Option.some.injEq] at hb
        subst hb
        simp only [fillC] at hf
        split at hf
        · rename_i hc
          obtain ⟨c1, c2⟩ := hc
          have hx := (rep_cO hr x).cells (fun h0 => by rw [h0] at c1; simp at c1; omega)
          have hsz : (a.eval x).cells.size = sz := by rw [← Array.length_toList, hx.1.len, c1]
          have hzl : zc.size = z.length := by rw [← Array.length_toList, hz.len]
          simp only [List.map_cons, Instr.fill, hp j _ hl]
          rw [if_neg (by simp [hsz]; omega)]
          have ef : (a.eval x).cells.zipIdx.foldl (fun cs (c, j) => cs.setIfInBounds (off + j) c) zc = setAt off (a.eval x).cells.toList 0 zc := by
            unfold setAt
            rw [← Array.foldl_toList, Array.toList_zipIdx]
          rw [ef]
          refine ih r _ cs _ hbr (hz.splice hx.1 (by omega) zc rfl) (fun k y hk => ?_) hf
          rw [setAt_get off _ 0 zc (by simp [hsz]; omega)] at hk
          split at hk
          · rw [Array.getElem?_toList] at hk; exact hx.2.1 _ _ hk
          · exact h1 _ _ hk
        · cases hf
      · cases hb
    · cases hb

theorem zeroC_rep (c : Cx) {P : Program} {t : TypeId} {z : List V} (h : zeroC P t = some z) (w : World) : ∃ v, (zeroValue t).run P w = .ok v w ∧ Reps c z v.cells.toList ∧ (∀ (j : Nat) y, v.cells[j]? = some y → oneC y = true) := by
  unfold zeroC at h
  cases hi : P.info? t with
  | none => simp [hi] at h
  | some i =>
    cases hz : i.zero with
    | none => simp [hi, hz] at h
    | some v =>
      simp only [hi, hz] at h
      split at h
      · rename_i h1
        simp only [Option.some.injEq] at h
        subst h
        refine ⟨v, ?_, ⟨by simp, fun j u x hu hx => ?_⟩, fun j y hy => ?_⟩
        · simp [zeroValue, run_typeInfo w hi, hz]
        · simp only [List.getElem?_map, hx, Option.map_some, Option.some.injEq] at hu
          subst hu
          exact rep_zV c x
        · rw [← Array.getElem?_toList] at hy
          exact List.all_eq_true.1 h1 y (List.mem_of_getElem? hy)
      · cases h

theorem run_mapM_fields {P : Program} (w : World) : ∀ (fs : List Field), (∀ f ∈ fs, (P.info? f.type).isSome = true) →
    (fs.mapM fun f => (do pure (f.offset, ← sizeOf f.type) : Sem (Nat × Nat))).run P w = .ok (fs.map fun f => (f.offset, P.cellsOf f.type)) w := by
  intro fs
  induction fs with
  | nil => intro _; rfl
  | cons f fs ih =>
    intro h
    obtain ⟨i, hi⟩ := Option.isSome_iff_exists.1 (h f (by simp))
    have := ih (fun g hg => h g (by simp [hg]))
    rw [List.mapM_cons]
    simp only [Sem.run_bind, run_sizeOf w hi, Result.andThen_ok, Sem.run_pure, this, List.map_cons]

section
variable {P : Program} {c : Cx} (w : World)

theorem run_build {t : TypeId} {e : E} {a : Act} (hr : ∀ t, Rep c (e t) (a.tmps.getD t undef)) {ps : Array (Nat × Operand)} {z : List V} {l : List (Nat × Nat)} {qs : List (Nat × Nat × Od)} {v : V}
    (hz : zeroC P t = some z) (hb : bldPs l ps.toList = some qs)
    (ht : (∃ fs, P.underlying t = some (.struct fs) ∧ l = fieldSizes P fs ∧ (fs.all fun f => (P.info? f.type).isSome) = true) ∨
      (∃ n el, P.underlying t = some (.array n el) ∧ l = (List.range n).map (fun j => (j * P.cellsOf el, P.cellsOf el)) ∧ okT P el = true))
    (h : (fillC e qs z).map V.ag = some v) : ∃ r, (Instr.build t (ps.map fun (i, x) => (i, a.eval x))).run P w = .ok r w ∧ Rep c v r := by
  simp only [Option.map_eq_some_iff] at h
  obtain ⟨cs, hf, rfl⟩ := h
  obtain ⟨zv, hzr, hz1, hz2⟩ := zeroC_rep c hz w
  have key : ∀ place : Nat → Option (Nat × Nat), (∀ j x, l[j]? = some x → place j = some x) → ∃ xs, Instr.fill place zv.cells (ps.map fun (i, x) => (i, a.eval x)).toList = some xs ∧ Rep c (.ag cs) (.agg xs) := by
    intro place hp
    obtain ⟨xs, h1, h2, h3⟩ := fill_ok hr hp ps.toList qs z cs zv.cells hb hz1 hz2 hf
    refine ⟨xs, by rw [← h1]; simp, .ag _ _ (by rw [← Array.length_toList]; exact h2.len) h3 fun j v x hv hx => h2.rep j v x hv (by rw [Array.getElem?_toList]; exact hx)⟩
  rcases ht with ⟨fs, hu, rfl, hall⟩ | ⟨n, el, hu, rfl, hok⟩
  · obtain ⟨xs, h1, h2⟩ := key (fun i => (fs.map fun f => (f.offset, P.cellsOf f.type))[i]?) (fun j x hx => by
      show (fs.map fun f => (f.offset, P.cellsOf f.type))[j]? = some x
      rw [← hx, fieldSizes, ← Array.toList_map, Array.getElem?_toList])
    refine ⟨_, ?_, h2⟩
    unfold Instr.build
    simp only [Sem.run_bind, hzr, Result.andThen_ok, run_underlying hu]
    rw [Array.mapM_eq_mapM_toList]
    simp only [Sem.run_map, run_mapM_fields w fs.toList (fun f hf => Array.all_eq_true_iff_forall_mem.1 hall f (Array.mem_toList_iff.1 hf)), Result.andThen_ok]
    have e1 : (fs.toList.map fun f => (f.offset, P.cellsOf f.type)).toArray = fs.map fun f => (f.offset, P.cellsOf f.type) := by rw [← Array.toList_map, Array.toArray_toList]
    rw [e1, h1]
    rfl
  · obtain ⟨_, _, i, hi⟩ := okT_some hok
    obtain ⟨xs, h1, h2⟩ := key (fun i => some (i * P.cellsOf el, P.cellsOf el)) (fun j x hx => by
      simp only [List.getElem?_map, Option.map_eq_some_iff] at hx
      obtain ⟨k, hk, rfl⟩ := hx
      rw [List.getElem?_range] at hk
      · cases hk; rfl
      · rcases Nat.lt_or_ge j n with h | h
        · exact h
        · rw [List.getElem?_eq_none (by simpa using h)] at hk; cases hk)
    refine ⟨_, ?_, h2⟩
    unfold Instr.build
    simp only [Sem.run_bind, hzr, Result.andThen_ok, run_underlying hu]
    have h1' : Instr.fill (fun i => some (i * P.cellsOf el, P.cellsOf el)) zv.cells (Array.map (fun x => (x.fst, a.eval x.snd)) ps).toList = some xs := h1
    simp only [run_sizeOf w hi, Result.andThen_ok, h1', Sem.run_pure]

end


theorem v_ok {P : Program} {s : Sem Value} {r : Value} {w w' : World} (h : s.run P w = .ok r w') : (do pure (.value (← s)) : Sem Next).run P w = .ok (.value r) w' := by
  simp only [Sem.run_bind, h, Result.andThen_ok, Sem.run_pure]

theorem exec_eq (ρ : Operand → Value) (o : Oper) {op : Op} (h : o.op = op) : execOp ρ o = execOp ρ { o with op := op } := by subst h; rfl

theorem q_ok {P : Program} {c : Cx} {e : E} {a : Act} (w : World) (hr : ∀ t, Rep c (e t) (a.tmps.getD t undef)) {im : Bool} {o : Oper} {q : Q} {v : V} (hs : cop P im o = .q q) (hv : qv e q = some v) :
    ∃ r, (execOp a.eval o).run P w = .ok (.value r) w ∧ Rep c v r := by
  have R := fun x => rep_cO hr x
  obtain ⟨dst, op, type, pos, after, guard⟩ := o
  have V1 : ∀ {s : Sem Value}, execOp a.eval ⟨dst, op, type, pos, after, guard⟩ = (do pure (.value (← s))) → (∃ r, s.run P w = .ok r w ∧ Rep c v r) →
      ∃ r, (execOp a.eval ⟨dst, op, type, pos, after, guard⟩).run P w = .ok (.value r) w ∧ Rep c v r := by
    intro s he ⟨r, h1, h2⟩
    exact ⟨r, by rw [he]; exact v_ok h1, h2⟩
  cases op <;> simp only [cop] at hs <;> (first | (cases hs; done) | skip)
  case move x => cases hs; cases hv; exact ⟨_, rfl, R x⟩
  case assign x => cases hs; cases hv; exact ⟨_, rfl, R x⟩
  case pick p x y =>
    cases hs
    have hp := R p
    simp only [qv] at hv
    cases hc : (cO p).ev e <;> rw [hc] at hv hp <;> (first | (cases hv; done) | skip)
    rename_i b
    generalize hz : a.eval p = z at hp
    cases hp
    cases b
    · cases hv; exact ⟨a.eval y, by simp [execOp, hz, asBool], R y⟩
    · cases hv; exact ⟨a.eval x, by simp [execOp, hz, asBool], R x⟩
  case alloc t =>
    split at hs
    · have := (cod_q hs).2; cases this
    · cases hs
  case build t ps =>
    split at hs
    · rename_i fs z hu hz
      split at hs
      · rename_i l hl
        obtain ⟨h1, h2⟩ := cod_q hs
        cases h2
        exact V1 rfl (run_build w hr hz hl (.inl ⟨fs, hu, rfl, h1⟩) hv)
      · cases hs
    · rename_i n el z hu hz
      split at hs
      · rename_i l hl
        obtain ⟨h1, h2⟩ := cod_q hs
        cases h2
        exact V1 rfl (run_build w hr hz hl (.inr ⟨n, el, hu, rfl, h1⟩) hv)
      · cases hs
    · cases hs
  case buildSlice t n ps =>
    split at hs
    · split at hs
      · have := (cod_q hs).2; cases this
      · cases hs
    · cases hs
  case load t x => have := (cod_q hs).2; cases this
  case store t x y => have := (cod_q hs).2; cases this
  case nilCheck x => cases hs; exact run_nck w (R x) hv _ x a rfl rfl
  case binOp op t x y yt =>
    unfold copBin at hs
    split at hs
    · rename_i hu; cases hs; exact V1 rfl (by have := run_eqb (P := P) w false t x y hu (R x) (R y) hv; exact this)
    · rename_i hu; cases hs; exact V1 rfl (by have := run_eqb (P := P) w true t x y hu (R x) (R y) hv; exact this)
    · rename_i hu
      split at hs
      · rename_i ks hl
        obtain ⟨h1, h2⟩ := cod_q hs
        cases h2
        exact V1 rfl (by have := run_eqp (P := P) w false t x y hl (by simp [isA, hu]) (by simpa using h1) (R x) (R y) hv; exact this)
      · cases hs
    · rename_i hu
      split at hs
      · rename_i ks hl
        obtain ⟨h1, h2⟩ := cod_q hs
        cases h2
        exact V1 rfl (by have := run_eqp (P := P) w true t x y hl (by simp [isA, hu]) (by simpa using h1) (R x) (R y) hv; exact this)
      · cases hs
    · rename_i hu
      split at hs
      · rename_i ks hl
        obtain ⟨h1, h2⟩ := cod_q hs
        cases h2
        exact V1 rfl (by have := run_eqp (P := P) w false t x y hl (by simp [isA, hu]) (by simpa using h1) (R x) (R y) hv; exact this)
      · cases hs
    · rename_i hu
      split at hs
      · rename_i ks hl
        obtain ⟨h1, h2⟩ := cod_q hs
        cases h2
        exact V1 rfl (by have := run_eqp (P := P) w true t x y hl (by simp [isA, hu]) (by simpa using h1) (R x) (R y) hv; exact this)
      · cases hs
    · have := (cod_q hs).2; cases this
    · have := (cod_q hs).2; cases this
    · have := (cod_q hs).2; cases this
    · have := (cod_q hs).2; cases this
    · cases hs; exact V1 rfl (run_bin w _ t x y (R x) (R y) hv)
    · cases hs; exact V1 rfl (run_bin w _ t x y (R x) (R y) hv)
    · cases hs
  case unOp op t x => cases hs; exact V1 rfl (run_un w op (R x) hv)
  case convert s d x =>
    split at hs
    · rename_i k0 k h1 h2
      cases hs
      refine V1 rfl ?_
      have hx := R x
      simp only [qv] at hv
      generalize a.eval x = z at hx
      cases hc : (cO x).ev e <;> rw [hc] at hv hx <;> (first | (cases hv; done) | skip)
      cases hv
      cases hx
      exact ⟨_, by simp only [convert, Sem.run_bind, run_underlying h1, run_underlying h2, Result.andThen_ok]; rfl, .i _ _⟩
    · cases hs
  case makeFunc fn first cs =>
    cases fn <;> (first | (cases hs; done) | skip)
    rename_i g
    obtain ⟨h1, h2⟩ := cod_q hs
    cases h2
    simp only [qv, Option.some.injEq] at hv
    subst hv
    refine V1 rfl ⟨.func (.func g) (first.map a.eval) (cs.map a.eval), rfl, ?_⟩
    have hf : first.map a.eval = #[] := by
      have : first = #[] := by simpa using h1
      rw [this]; simp
    rw [hf]
    refine .fn _ _ _ (by simp) fun j v x hv hx => ?_
    simp only [List.map_map, List.getElem?_map, Option.map_eq_some_iff, Array.getElem?_toList] at hv
    obtain ⟨y, hy, rfl⟩ := hv
    simp only [Array.getElem?_map, hy, Option.map_some, Option.some.injEq] at hx
    subst hx
    exact R y
  case makeMap t r => cases r <;> cases hs
  case makeSlice t l cc =>
    split at hs
    · split at hs
      · have := (cod_q hs).2; cases this
      · cases hs
    · cases hs
  case slice t x lo hi mx =>
    split at hs
    · rename_i hu
      obtain ⟨h1, h2⟩ := cod_q hs
      cases h2
      have hm : mx = none := by simpa using h1
      subst hm
      exact V1 rfl (run_sls w hr hu hv)
    · rename_i el hu
      obtain ⟨h1, h2⟩ := cod_q hs
      cases h2
      simp only [Bool.and_eq_true, Bool.or_eq_true] at h1
      refine V1 rfl (run_slc w hr hu h1.1 (fun hm => ?_) hv)
      rcases h1.2 with h | h
      · cases mx <;> simp at hm h
      · exact h
    · rename_i n el hu
      obtain ⟨h1, h2⟩ := cod_q hs
      cases h2
      simp only [Bool.and_eq_true, beq_iff_eq] at h1
      have hm : mx = none := by simpa using h1.2
      subst hm
      exact V1 rfl (run_sla w hr hu h1.1 hv)
    · cases hs
  case fieldAddr t x j =>
    split at hs
    · rename_i fs hu
      split at hs
      · rename_i f hf
        obtain ⟨h1, h2⟩ := cod_q hs
        cases h2
        exact V1 rfl (run_fieldAt w hu hf h1 (R x) hv)
      · cases hs
    · cases hs
  case field t x j =>
    split at hs
    · rename_i fs hu
      split at hs
      · rename_i f hf
        obtain ⟨h1, h2⟩ := cod_q hs
        cases h2
        exact V1 rfl (run_field w hu hf h1 (R x) hv)
      · cases hs
    · cases hs
  case indexAddr t x j =>
    split at hs
    · rename_i n el hu
      obtain ⟨h1, h2⟩ := cod_q hs
      cases h2
      exact V1 rfl (run_indexAt_arr w hu h1 (R x) (R j) hv)
    · rename_i el hu
      obtain ⟨h1, h2⟩ := cod_q hs
      cases h2
      exact V1 rfl (run_indexAt_sl w hu h1 (R x) (R j) hv)
    · cases hs
  case index t x j =>
    split at hs
    · rename_i n el hu
      obtain ⟨h1, h2⟩ := cod_q hs
      cases h2
      exact V1 rfl (run_index_arr w hu h1 (R x) (R j) hv)
    · rename_i hu
      cases hs
      exact V1 rfl (run_index_str w hu (R x) (R j) hv)
    · cases hs
  case lookup t m k ok =>
    split at hs
    · split at hs <;> cases hs
    · cases hs
  case mapUpdate t m k y =>
    split at hs
    · split at hs <;> cases hs
    · cases hs
  case mapEntry t m k =>
    split at hs
    · split at hs <;> cases hs
    · cases hs
  case range t x => split at hs <;> cases hs
  case next x b => cases b <;> cases hs
  case extract x j => cases hs; exact V1 rfl (run_extract w (R x) hv)
  case call cc =>
    unfold copCall at hs
    split at hs
    · have := (cod_q hs).2; split at this <;> cases this
    · split at hs <;> cases hs
    · cases hs
    · rename_i b hb
      have hcall : execOp a.eval ⟨dst, .call cc, type, pos, after, guard⟩ =
          (do let d ← resolve a.eval cc type; invoke d.target d.args) := rfl
      have hres : ∀ b', b = b' → (do let d ← resolve a.eval cc type; invoke d.target d.args) = builtin b' cc.argTypes type (cc.args.map fun | .const _ => true | _ => false) (cc.args.map a.eval) := by
        rintro b' rfl
        unfold resolve
        rw [hb]
        rfl
      have A1 : ∀ x : Operand, cc.args.toList = [x] → cc.args.map a.eval = #[a.eval x] := fun x h => by
        have ha : cc.args = #[x] := by rw [← Array.toArray_toList (xs := cc.args), h]
        rw [ha]; simp
      have A2 : ∀ x y : Operand, cc.args.toList = [x, y] → cc.args.map a.eval = #[a.eval x, a.eval y] := fun x y h => by
        have ha : cc.args = #[x, y] := by rw [← Array.toArray_toList (xs := cc.args), h]
        rw [ha]; simp
      have T1 : ∀ (t : TypeId) ts, cc.argTypes.toList = t :: ts → cc.argTypes[0]? = some t := fun t ts h => by rw [← Array.getElem?_toList, h]; rfl
      split at hs
      · -- len
        rename_i x t ts hargs hts
        have hL : execOp a.eval ⟨dst, .call cc, type, pos, after, guard⟩ = (do pure (.value (← Builtin.len_ cc.argTypes type #[a.eval x]))) := by
          rw [hcall, hres _ rfl, A1 x hargs]; rfl
        refine V1 hL ?_
        unfold Builtin.len_
        simp only [T1 t ts hts]
        have hx := R x
        generalize a.eval x = z at hx
        split at hs
        · rename_i hu
          cases hs
          simp only [qv] at hv
          cases hc : (cO x).ev e <;> rw [hc] at hv hx <;> (first | (cases hv; done) | skip)
          cases hv
          cases hx
          exact ⟨_, by simp only [List.getElem?_toArray, List.getElem?_cons_zero, Sem.run_bind, run_underlying hu, Result.andThen_ok]; rfl, .i _ _⟩
        · rename_i el hu
          cases hs
          simp only [qv] at hv
          have hl : ∃ n, lenV ((cO x).ev e) = some n ∧ v = .i .i64 (n : Nat) ∧ ∀ y, (cO x).ev e ≠ .s y := by
            cases hc : (cO x).ev e <;> rw [hc] at hv <;> simp only [slenV, reduceCtorEq, Option.some.injEq] at hv <;> subst hv <;> exact ⟨_, rfl, rfl, fun y hy => by cases hy⟩
          obtain ⟨n, hn, rfl, hns⟩ := hl
          rcases lenV_rep hx hn with ⟨ad, cap, rfl, _⟩ | ⟨s, rfl, _⟩
          · exact ⟨_, by simp only [List.getElem?_toArray, List.getElem?_cons_zero, Sem.run_bind, run_underlying hu, Result.andThen_ok]; rfl, .i _ _⟩
          · cases hc : (cO x).ev e <;> rw [hc] at hx hn <;> (first | (cases hx; done) | skip)
            · simp [lenV] at hn
            · exact absurd hc (hns _)
        · cases hs
        · rename_i n el hu
          cases hs
          cases hv
          exact ⟨_, by simp only [List.getElem?_toArray, List.getElem?_cons_zero, Sem.run_bind, run_underlying hu, Result.andThen_ok]; rfl, .i _ _⟩
        · rename_i t2 hu
          split at hs
          · rename_i n el hu2
            cases hs
            cases hv
            exact ⟨_, by simp only [List.getElem?_toArray, List.getElem?_cons_zero, Sem.run_bind, run_underlying hu, run_underlying hu2, Result.andThen_ok]; rfl, .i _ _⟩
          · cases hs
        · cases hs
      · -- cap
        rename_i x t ts hargs hts
        have hL : execOp a.eval ⟨dst, .call cc, type, pos, after, guard⟩ = (do pure (.value (← Builtin.cap_ cc.argTypes type #[a.eval x]))) := by
          rw [hcall, hres _ rfl, A1 x hargs]; rfl
        refine V1 hL ?_
        unfold Builtin.cap_
        simp only [T1 t ts hts]
        have hx := R x
        generalize a.eval x = z at hx
        split at hs
        · rename_i el hu
          cases hs
          simp only [qv] at hv
          cases hc : (cO x).ev e <;> rw [hc] at hv hx <;> (first | (cases hv; done) | skip)
          cases hv
          cases hx
          exact ⟨_, by simp only [List.getElem?_toArray, List.getElem?_cons_zero, Sem.run_bind, run_underlying hu, Result.andThen_ok]; rfl, .i _ _⟩
        · cases hs
      · -- append
        split at hs
        · split at hs
          · split at hs
            · have := (cod_q hs).2; cases this
            · cases hs
          · have := (cod_q hs).2; cases this
          · cases hs
        · cases hs
      · split at hs
        · have := (cod_q hs).2; cases this
        · cases hs
      · split at hs
        · split at hs
          · have := (cod_q hs).2; cases this
          · cases hs
        · cases hs
      · split at hs
        · split at hs <;> cases hs
        · cases hs
      · rename_i x y hargs
        cases hs
        have hL : execOp a.eval ⟨dst, .call cc, type, pos, after, guard⟩ = (do pure (.value (← Builtin.max_ cc.argTypes type #[a.eval x, a.eval y]))) := by
          rw [hcall, hres _ rfl, A2 x y hargs]; rfl
        refine V1 hL ?_
        obtain ⟨r, h1, h2⟩ := run_max (P := P) w (R x) (R y) true hv
        refine ⟨r, ?_, h2⟩
        simp only [if_true] at h1
        simp [Builtin.max_, h1]
      · rename_i x y hargs
        cases hs
        have hL : execOp a.eval ⟨dst, .call cc, type, pos, after, guard⟩ = (do pure (.value (← Builtin.min_ cc.argTypes type #[a.eval x, a.eval y]))) := by
          rw [hcall, hres _ rfl, A2 x y hargs]; rfl
        refine V1 hL ?_
        obtain ⟨r, h1, h2⟩ := run_max (P := P) w (R x) (R y) false hv
        refine ⟨r, ?_, h2⟩
        simp only [Bool.false_eq_true, if_false] at h1
        simp [Builtin.min_, h1]
      · cases hs

end Go.Proofs.Ytiadalheipbpcaa
