/-
  Functions: what the small machine shows of a call holds of it.
-/
import Derived.Test.YtiadalheipbpcaaSy
namespace Go.Proofs.Ytiadalheipbpcaa
set_option linter.all false

section
variable {P : Program} {c : Cx} {o : O} {w : World} {e : E} {tmps : Array Value}

theorem res_ok {F : ResultVar → Sem Value} (hF1 : ∀ t, F (.tmp t) = pure (tmps.getD t undef)) (hF2 : ∀ a t, F (.cell a t) = (do loadVar t (← asAddr (tmps.getD a undef)))) (hp : c.heap = w.heap) (hi : Inv c o) (hr : ∀ t, Rep c (e t) (tmps.getD t undef)) {r : ResultVar} {s : Rs} (hs : compRs P r = some s) {v : V} (hv : resV e o s = some v) :
    ∃ x, (F r).run P w = .ok x w ∧ Rep c v x := by
  cases r with
  | tmp t =>
    simp only [compRs, Option.some.injEq] at hs
    subst hs
    simp only [resV, Option.some.injEq] at hv
    subst hv
    exact ⟨_, by rw [hF1]; rfl, hr t⟩
  | cell a t =>
    simp only [compRs] at hs
    split at hs
    · rename_i hc
      simp only [Option.some.injEq] at hs
      subst hs
      simp only [resV] at hv
      cases hx : cellsAt o (e a) with
      | none => simp [hx] at hv
      | some y =>
        obtain ⟨cs, j⟩ := y
        simp only [hx] at hv
        obtain ⟨b, off, he, hh⟩ := pointed hi (hr a) hx
        obtain ⟨x, h1, h2⟩ := run_loadVar (P := P) hp hc.1 hh hv
        refine ⟨x, ?_, h2⟩
        simp only [hF2, he, asAddr, Sem.run_bind, Sem.run_pure, Result.andThen_ok, h1]
    · cases hs

theorem mapM_opt {α β : Type} {f : α → Option β} {x : α} {l : List α} {r : List β} (h : (x :: l).mapM f = some r) : ∃ y ys, f x = some y ∧ l.mapM f = some ys ∧ r = y :: ys := by
  simp only [List.mapM_cons, Option.bind_eq_bind, Option.bind_eq_some_iff, Option.pure_def, Option.some.injEq] at h
  obtain ⟨y, hy, ys, hys, rfl⟩ := h
  exact ⟨y, ys, hy, hys, rfl⟩

theorem ress_ok {F : ResultVar → Sem Value} (hF1 : ∀ t, F (.tmp t) = pure (tmps.getD t undef)) (hF2 : ∀ a t, F (.cell a t) = (do loadVar t (← asAddr (tmps.getD a undef)))) (hp : c.heap = w.heap) (hi : Inv c o) (hr : ∀ t, Rep c (e t) (tmps.getD t undef)) : ∀ (rs : List ResultVar) (ss : List Rs) (vs : List V), rs.mapM (compRs P) = some ss → ss.mapM (resV e o) = some vs →
    ∃ xs, (rs.mapM F).run P w = .ok xs w ∧ Reps c vs xs := by
  intro rs
  induction rs with
  | nil =>
    intro ss vs hs hv
    simp at hs
    subst hs
    simp at hv
    subst hv
    exact ⟨[], rfl, rfl, fun j v x h => by simp at h⟩
  | cons r rs ih =>
    intro ss vs hs hv
    obtain ⟨s, ss', h1, h2, rfl⟩ := mapM_opt hs
    obtain ⟨v, vs', h3, h4, rfl⟩ := mapM_opt hv
    obtain ⟨x, hx1, hx2⟩ := res_ok hF1 hF2 hp hi hr h1 h3
    obtain ⟨xs, hy1, hy2⟩ := ih ss' vs' h2 h4
    refine ⟨x :: xs, ?_, by simp [hy2.len], fun j v x hv hx => ?_⟩
    · simp only [List.mapM_cons, Sem.run_bind]
      rw [hx1]
      simp only [Result.andThen_ok, hy1, Sem.run_pure]
    · cases j with
      | zero => simp at hv hx; subst hv; subst hx; exact hx2
      | succ j => exact hy2.rep j v x (by simpa using hv) (by simpa using hx)

theorem results_ok (hp : c.heap = w.heap) (hi : Inv c o) (hr : ∀ t, Rep c (e t) (tmps.getD t undef)) {fn : Func} {ss : List Rs} {vs : List V} (hs : fn.results.toList.mapM (compRs P) = some ss) (hv : ss.mapM (resV e o) = some vs) :
    ∃ x, (results fn tmps).run P w = .ok x w ∧ Rep c (one vs) x := by
  have key : ∀ F : ResultVar → Sem Value, (∀ t, F (.tmp t) = pure (tmps.getD t undef)) → (∀ a t, F (.cell a t) = (do loadVar t (← asAddr (tmps.getD a undef)))) →
      ∃ x, (do let vs ← fn.results.mapM F; pure (if h : vs.size = 1 then vs[0] else .tuple vs) : Sem Value).run P w = .ok x w ∧ Rep c (one vs) x := by
    intro F hF1 hF2
    obtain ⟨xs, h1, h2⟩ := ress_ok hF1 hF2 hp hi hr _ _ _ hs hv
    have hl := h2.len
    refine ⟨if h : xs.toArray.size = 1 then xs.toArray[0] else .tuple xs.toArray, ?_, ?_⟩
    · rw [Array.mapM_eq_mapM_toList]
      simp only [Sem.run_bind, Sem.run_map, h1, Result.andThen_ok, Sem.run_pure]
    · match vs, hl with
      | [v], hl =>
        have h3 : xs.toArray.size = 1 := by simpa using hl
        rw [dif_pos h3]
        refine h2.rep 0 v _ rfl ?_
        rw [← List.getElem?_toArray]; exact Array.getElem?_eq_getElem _
      | [], hl =>
        rw [dif_neg (by simp at hl; simp [hl])]
        refine .tp _ _ (by simpa using hl) fun j v x hv hx => h2.rep j v x hv (by simpa using hx)
      | v1 :: v2 :: vs, hl =>
        rw [dif_neg (by simp at hl ⊢; omega)]
        refine .tp _ _ (by simpa using hl) fun j v x hv hx => h2.rep j v x hv (by simpa using hx)
  exact key _ (fun _ => rfl) (fun _ _ => rfl)

end

theorem fn_ok {P : Program} (hm : P.follows .mixedOrders = true) {im : Nat → Nat → Nat → Bool} {g : Nat} {as : List V} {o : O} {K : V → O → Prop} (h : wpF (comp P im) (Snd P) g as o K) : Snd P g as o K := by
  unfold wpF at h
  cases hc : comp P im g with
  | none => simp [hc] at h
  | some fn =>
    simp only [hc] at h
    obtain ⟨hlen, hw⟩ := h
    unfold comp at hc
    cases hf : P.funcs[g]? with
    | none => simp [hf] at hc
    | some f =>
      simp only [hf] at hc
      split at hc
      · rename_i code res hb hres
        split at hc
        · cases hc
        · rename_i hg
          simp only [Option.some.injEq] at hc
          subst hc
          simp only [not_or, Nat.not_lt] at hg
          refine ⟨by simpa [hasBody, hf, hb] using hg.1, fun c w xs hp hi hx => ?_⟩
          have hxs : xs.size = as.length := by rw [← Array.length_toList, hx.len]
          refine calls_of_wp hf hb (code_ok hm hi.sep code _ _ (ini as) o _ w hw ⟨c, Ext.refl c, hp, rfl, rfl, hi, fun t => ?_, ?_, rfl⟩ fun x e o' a w' hX hS => ?_)
          · simp only [ini, List.getD_eq_getElem?_getD]
            cases ht : as[t]? with
            | none => exact .jk _
            | some v =>
              have hlt : t < xs.size := by rw [hxs]; exact (List.getElem?_eq_some_iff.1 ht).1
              rw [Option.getD_some, Array.getD_eq_getD_getElem?, Array.getElem?_append_left hlt, Array.getElem?_eq_getElem hlt, Option.getD_some]
              exact hx.rep t v _ ht (by rw [Array.getElem?_toList]; exact Array.getElem?_eq_getElem hlt)
          · have : as.length ≤ f.ntmps := by rw [hlen]; exact hg.2
            simp; omega
          · obtain ⟨c', hE, hp', hos, hout, hi', hr', hsz, hd⟩ := hS
            have fin : (∃ vs, res.mapM (resV e o') = some vs ∧ K (one vs) o') → a.defers = [] ∧ ∃ v, (results f a.tmps).run P w' = .ok v w' ∧ (∃ x c' v' o', Ending.returned v = .returned x ∧ After c w c' v' o' x w' ∧ K v' o') := by
              rintro ⟨vs, h1, h2⟩
              obtain ⟨x, h3, h4⟩ := results_ok hp' hi' hr' hres h1
              exact ⟨hd, x, h3, x, c', one vs, o', rfl, ⟨hE, hp', hos, hout, hi', h4⟩, h2⟩
            cases x with
            | nx => exact fin hX
            | rt => exact fin hX
            | ex id => exact hX.elim
      · cases hc

/-- THE SMALL MACHINE IS SOUND -/
theorem sound {P : Program} (hm : P.follows .mixedOrders = true) {im : Nat → Nat → Nat → Bool} {g : Nat} {as : List V} {o : O} {K : V → O → Prop} (h : Call (comp P im) g as o K) : Snd P g as o K :=
  h (Snd P) fun _ _ _ _ hh => fn_ok hm hh

end Go.Proofs.Ytiadalheipbpcaa
