/-
  Calls, and one operation.
-/
import Derived.Test.YtiadalheipbpcaaSk
namespace Go.Proofs.Ytiadalheipbpcaa
set_option linter.all false

/-- a call that comes to a value and a store of which K holds, from every memory that stands for the store -/
def Snd (P : Program) : CallT := fun g as o K =>
  hasBody P g = true ∧ ∀ (c : Cx) (w : World) (xs : Array Value), c.heap = w.heap → Inv c o → Reps c as xs.toList →
    Calls P g xs w (fun e w' => ∃ x c' v o', e = .returned x ∧ After c w c' v o' x w' ∧ K v o')

def EffC (P : Program) (c : Cx) (w : World) (g : Nat) (xs : Array Value) (K : V → O → Prop) : Prop :=
  Calls P g xs w (fun e w' => ∃ x c' v o', e = .returned x ∧ After c w c' v o' x w' ∧ K v o')

theorem fzs_get {o : O} {vs ws : List V} (h : fzs o vs = some ws) : ws.length = vs.length ∧ ∀ (j : Nat) y, ws[j]? = some y → ∃ v, vs[j]? = some v ∧ fz o v = some y := mapM_some h

section
variable {P : Program} {c : Cx} {o : O} {w : World}

theorem pc_ok (hp : c.heap = w.heap) (hi : Inv c o) {g : Nat} {vs : List V} {xs : Array Value} (hx : Reps c vs xs.toList) {r : V} {K : V → O → Prop} (hK : K r o) (h : pcall (Snd P) o g vs r) : hasBody P g = true ∧ EffC P c w g xs K := by
  obtain ⟨ws, hfz, ⟨hb, hs⟩, hc⟩ := h
  refine ⟨hb, ?_⟩
  obtain ⟨hl, hg⟩ := fzs_get hfz
  simp only [Bool.or_eq_true] at hc
  rcases hc with hc | hc
  · have hws : Reps c.bare ws xs.toList := by
      refine ⟨by rw [hx.len, hl], fun j v x hv hxj => ?_⟩
      obtain ⟨u, hu, hf⟩ := hg j v hv
      exact frz_clo hi.sep _ FZ u x v (hx.rep j u x hu hxj) (List.all_eq_true.1 hc u (List.mem_of_getElem? hu)) hf
    refine (hs c.bare w xs hp (bare_inv hi) hws).mono fun e w' h => ?_
    obtain ⟨x, c', v, o', he, hA, hf⟩ := h
    let d : Cx := { heap := c'.heap, ph := c.ph, im := c'.all.im, n := c'.n }
    have him : ∀ b, b < c.heap.size → d.im b → c.im b := by
      intro b hb h
      rcases h with h | ⟨id, sz, h⟩
      · rcases hA.ext.imn b hb h with h | ⟨_, _, h⟩
        · exact h
        · cases h
      · rcases hA.ext.phn id b sz h with h | ⟨_, ⟨_, _, h⟩ | h⟩
        · cases h
        · cases h
        · exact absurd h (Nat.not_le.2 hb)
    have hkeep : ∀ b : Nat, b < c.heap.size → c'.heap[b]? = c.heap[b]? := fun b hb => hA.ext.keep b hb (fun _ _ h => by cases h)
    have hE : Ext c d := ⟨hA.ext.size, fun b hb _ => hkeep b hb, hA.ext.shape, fun b hb => .inl (hA.ext.im b hb), fun b hb h => .inl (him b hb h), fun _ _ h => .inl h, fun _ _ _ h => .inl h, hA.ext.n⟩
    refine ⟨x, d, r, o, he, ⟨hE, hA.hp, hA.os, hA.out, ⟨hi.dom, fun id y ho => ?_, fun id b sz h => ?_, hi.inj, fun b h => ?_⟩, ?_⟩, hK⟩
    · obtain ⟨b, sz, h1, h2⟩ := hi.ob id y ho
      exact ⟨b, sz, h1, h2.ext hE hi.sep (hkeep b (hi.lt _ _ _ h1).2.1)⟩
    · obtain ⟨h1, h2, h3⟩ := hi.lt id b sz h
      exact ⟨Nat.lt_of_lt_of_le h1 hA.ext.n, Nat.lt_of_lt_of_le h2 hA.ext.size, fun hh => h3 (him b h2 hh)⟩
    · rcases h with h | ⟨id, sz, h⟩
      · exact hA.inv.im b h
      · exact (hA.inv.lt id b sz h).2.1
    · exact Rep.idf (c := c'.all) (c' := d) rfl (fun _ h => h) (frz_rep hA.inv _ _ _ _ hA.rep hf) (frz_idf hA.inv hA.rep hf)
  · have hws : Reps c.all ws xs.toList := by
      refine ⟨by rw [hx.len, hl], fun j v x hv hxj => ?_⟩
      obtain ⟨u, hu, hf⟩ := hg j v hv
      exact frz_rep hi _ u x v (hx.rep j u x hu hxj) hf
    refine (hs c.all w xs hp (all_inv hi) hws).mono fun e w' h => ?_
    obtain ⟨x, c', v, o', he, hA, hf⟩ := h
    let d : Cx := { heap := c'.heap, ph := c.ph, im := c.im, n := c'.n }
    have hkeep : ∀ b : Nat, b < c.heap.size → c'.heap[b]? = c.heap[b]? := fun b hb => hA.ext.keep b hb (fun _ _ h => by cases h)
    have hE : Ext c d := ⟨hA.ext.size, fun b hb _ => hkeep b hb, hA.ext.shape, fun b hb => hb, fun b hb h => .inl h, fun _ _ h => .inl h, fun _ _ _ h => .inl h, hA.ext.n⟩
    refine ⟨x, d, r, o, he, ⟨hE, hA.hp, hA.os, hA.out, ⟨hi.dom, fun id y ho => ?_, fun id b sz h => ?_, hi.inj, fun b h => ?_⟩, ?_⟩, hK⟩
    · obtain ⟨b, sz, h1, h2⟩ := hi.ob id y ho
      exact ⟨b, sz, h1, h2.ext hE hi.sep (hkeep b (hi.lt _ _ _ h1).2.1)⟩
    · obtain ⟨h1, h2, h3⟩ := hi.lt id b sz h
      exact ⟨Nat.lt_of_lt_of_le h1 hA.ext.n, Nat.lt_of_lt_of_le h2 hA.ext.size, h3⟩
    · exact Nat.lt_of_lt_of_le (hi.im b h) hA.ext.size
    · exact flat_rep _ _ _ hc (frz_rep hA.inv _ _ _ _ hA.rep hf)

theorem run_call {g : Nat} {xs : Array Value} (hb : hasBody P g = true) : (callFunc g xs).run P w = .ok (.enter g xs) w := by
  unfold hasBody at hb
  cases hf : P.funcs[g]? with
  | none => simp [hf] at hb
  | some fn =>
    simp only [hf, Bool.and_eq_true, bne_iff_ne, ne_eq] at hb
    have h1 : fn.body ≠ none := fun h => by rw [h] at hb; simp at hb
    simp [callFunc, program, Sem.run, hf, h1, hb.2]

theorem cod_or {p : Bool} {i j : I} (h : cod p j = i) : (p = true ∧ i = j) ∨ i = .bad := by
  unfold cod at h
  cases p
  · exact .inr (by simpa using h.symm)
  · exact .inl ⟨rfl, by simpa using h.symm⟩

theorem reps_map {e : E} {a : Act} (hr : ∀ t, Rep c (e t) (a.tmps.getD t undef)) (l : Array Operand) : Reps c ((l.toList.map cO).map (Od.ev e)) (l.map a.eval).toList := by
  refine ⟨by simp, fun j v x hv hx => ?_⟩
  simp only [List.map_map, List.getElem?_map, Option.map_eq_some_iff, Array.toList_map] at hv hx
  obtain ⟨y, hy, rfl⟩ := hv
  obtain ⟨z, hz, rfl⟩ := hx
  rw [hy] at hz
  cases hz
  exact rep_cO hr y

theorem Reps.append {as bs : List V} {xs ys : List Value} (h1 : Reps c as xs) (h2 : Reps c bs ys) : Reps c (as ++ bs) (xs ++ ys) := by
  refine ⟨by simp [h1.len, h2.len], fun j v x hv hx => ?_⟩
  have hl := h1.len
  rcases Nat.lt_or_ge j as.length with h | h
  · rw [List.getElem?_append_left h] at hv
    rw [List.getElem?_append_left (by omega)] at hx
    exact h1.rep j v x hv hx
  · rw [List.getElem?_append_right h] at hv
    rw [List.getElem?_append_right (by omega), hl] at hx
    exact h2.rep _ v x hv hx

/-- one operation, told as j -/
structure OpR (P : Program) (c : Cx) (w : World) (a : Act) (o : Oper) (K : V → O → Prop) : Prop where
  wp : ∀ (nxt : Act → World → Prop) (Q : Exit → Act → World → Prop), (∀ x w' c' v o', After c w c' v o' x w' → K v o' → nxt (a.put o.dst x) w') → o.wp P a w nxt Q

theorem OpR.val {a : Act} {o : Oper} {K : V → O → Prop} {s : Sem Value} (he : execOp a.eval o = (do pure (.value (← s)))) (h : Eff P c w s K) : OpR P c w a o K := by
  obtain ⟨x, w', c', v, o', h1, h2, h3⟩ := h
  refine ⟨fun nxt Q hn => ?_⟩
  unfold Oper.wp
  rw [he, v_ok h1]
  exact hn x w' c' v o' h2 h3

theorem OpR.uni {a : Act} {o : Oper} {K : V → O → Prop} {s : Sem Unit} (he : execOp a.eval o = (do s; pure .skip)) (h : EffU P c w s K) : OpR P c w a o K := by
  obtain ⟨w', c', o', h1, h2, h3⟩ := h
  refine ⟨fun nxt Q hn => ?_⟩
  unfold Oper.wp
  rw [he]
  simp only [Sem.run_bind, h1, Result.andThen_ok, Sem.run_pure]
  exact hn undef w' c' .jk o' h2 h3

theorem OpR.call {a : Act} {o : Oper} {K : V → O → Prop} {g : Nat} {xs : Array Value} (he : (execOp a.eval o).run P w = .ok (.enter g xs) w) (h : EffC P c w g xs K) : OpR P c w a o K := by
  refine ⟨fun nxt Q hn => ?_⟩
  unfold Oper.wp
  rw [he]
  refine Calls.mono h fun e w' h => ?_
  obtain ⟨x, c', v, o', rfl, h2, h3⟩ := h
  exact hn x w' c' v o' h2 h3

theorem zlen_some {el : TypeId} (h : zlen P el = true) : ∃ z, zeroC P el = some z ∧ z.length = P.cellsOf el := by
  unfold zlen at h
  split at h
  · rename_i z hz; exact ⟨z, hz, by simpa using h⟩
  · cases h

theorem eff_same {s : Sem Value} {v : V} {x : Value} {K : V → O → Prop} (hp : c.heap = w.heap) (hi : Inv c o) (h1 : s.run P w = .ok x w) (h2 : Rep c v x) (hK : K v o) : Eff P c w s K :=
  ⟨x, w, c, v, o, h1, After.same hp hi h2 rfl rfl rfl, hK⟩

end

end Go.Proofs.Ytiadalheipbpcaa
