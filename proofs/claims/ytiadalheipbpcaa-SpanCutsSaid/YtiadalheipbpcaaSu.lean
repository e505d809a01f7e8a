/-
  One operation runs as it is told.
-/
import Derived.Test.YtiadalheipbpcaaSt
namespace Go.Proofs.Ytiadalheipbpcaa
set_option linter.all false

section
variable {P : Program} {c : Cx} {ob : O} {w : World} {e : E} {a : Act}

theorem load_ok (hr : ∀ t, Rep c (e t) (a.tmps.getD t undef)) (hp : c.heap = w.heap) (hi : Inv c ob) {t : TypeId} {x : Operand} (hok : okT P t = true) {v : V} (h : rv e ob (.ld (P.cellsOf t) (isA P t) (cO x)) = some v) :
    ∃ r, (Instr.loadAt t (a.eval x)).run P w = .ok r w ∧ Rep c v r := by
  simp only [rv] at h
  cases hc : cellsAt ob ((cO x).ev e) with
  | none => simp [hc] at h
  | some y =>
    obtain ⟨cs, j⟩ := y
    simp only [hc] at h
    obtain ⟨b, off, he, hh⟩ := pointed hi (rep_cO hr x) hc
    rw [he]
    obtain ⟨r, h1, h2⟩ := run_loadVar hp hok hh h
    exact ⟨r, by simp only [Instr.loadAt, Instr.sureAddr, Sem.run_bind, Sem.run_pure, Result.andThen_ok, h1], h2⟩

theorem op_ok (hr : ∀ t, Rep c (e t) (a.tmps.getD t undef)) (hp : c.heap = w.heap) (hi : Inv c ob) {o : Oper} {im : Bool} {K : V → O → Prop} (hs : sup (cop P im o) = true) (h : W (Snd P) e ob K (cop P im o)) : OpR P c w a o K := by
  have R := fun x => rep_cO hr x
  by_cases hq : ∃ q, cop P im o = .q q
  · obtain ⟨q, hq⟩ := hq
    rw [hq] at h
    simp only [W, rv] at h
    cases hv : qv e q with
    | none => simp [hv] at h
    | some v =>
      simp only [hv] at h
      obtain ⟨r, h1, h2⟩ := q_ok w hr hq hv
      refine ⟨fun nxt Q hn => ?_⟩
      unfold Oper.wp
      rw [h1]
      exact hn r w c v ob (After.same hp hi h2 rfl rfl rfl) h
  generalize hj : cop P im o = j at h hs hq
  obtain ⟨dst, op, type, pos, after, guard⟩ := o
  cases op <;> simp only [cop] at hj <;> (first | (subst hj; exact (hq ⟨_, rfl⟩).elim) | (subst hj; exact h.elim) | skip)
  case alloc t =>
    split at hj
    · rename_i z hz
      rcases cod_or hj with ⟨h1, rfl⟩ | rfl
      · exact OpR.val rfl (eff_alloc hp hi hz (by simpa using h1) h)
      · exact h.elim
    · subst hj; exact h.elim
  case box t x =>
    subst hj
    exact OpR.val rfl (eff_box hp hi (R x) h.1 h.2)
  case buildSlice t n ps =>
    split at hj
    · rename_i el hu
      split at hj
      · rename_i z hz
        rcases cod_or hj with ⟨h1, rfl⟩ | rfl
        · simp only [Bool.and_eq_true, Bool.or_eq_true, decide_eq_true_eq, beq_iff_eq, List.isEmpty_iff] at h1
          exact OpR.val rfl (eff_buildSlice hr hp hi hu h1.1.1.1 hz h1.1.1.2 h1.2 (fun h0 => h1.1.2.resolve_left (by omega)) h)
        · exact h.elim
      · subst hj; exact h.elim
    · subst hj; exact h.elim
  case load t x =>
    rcases cod_or hj with ⟨h1, rfl⟩ | rfl
    · simp only [Bool.and_eq_true] at h1
      simp only [W] at h
      cases hv : rv e ob (.ld (P.cellsOf t) (isA P t) (cO x)) with
      | none => simp [hv] at h
      | some v =>
        simp only [hv] at h
        obtain ⟨r, h2, h3⟩ := load_ok hr hp hi h1.1 hv
        exact OpR.val rfl (eff_same hp hi h2 h3 h)
    · exact h.elim
  case store t x y =>
    rcases cod_or hj with ⟨h1, rfl⟩ | rfl
    · simp only [W] at h
      refine OpR.uni rfl ?_
      have hx := R x
      cases hX : (cO x).ev e <;> simp only [hX] at h <;> (first | exact h.elim | skip)
      rename_i id i j
      rw [hX] at hx
      cases ho : ob id with
      | none => simp [ho] at h
      | some obj =>
        cases obj <;> simp only [ho] at h <;> (first | exact h.elim | skip)
        rename_i s es
        cases hes : es[i]? with
        | none => simp [hes] at h
        | some cs =>
          simp only [hes] at h
          exact eff_store hp hi h1 hx (R y) ho hes h.1 h.2.1 h.2.2
    · exact h.elim
  case build t ps =>
    split at hj
    · split at hj
      · rcases cod_or hj with ⟨_, rfl⟩ | rfl
        · exact (hq ⟨_, rfl⟩).elim
        · exact h.elim
      · subst hj; exact h.elim
    · split at hj
      · rcases cod_or hj with ⟨_, rfl⟩ | rfl
        · exact (hq ⟨_, rfl⟩).elim
        · exact h.elim
      · subst hj; exact h.elim
    · subst hj; exact h.elim
  case binOp op t x y yt =>
    have isn : ∀ (mp neg : Bool) (d : TypeDesc), P.underlying t = some d → op = (if neg then .neq else .eql) →
        ((mp = false ∧ ∃ e, d = .pointer e ∧ a.eval y = .pointer none) ∨ (mp = true ∧ ∃ k e, d = .map k e ∧ a.eval y = .map none)) → W (Snd P) e ob K (.isn mp neg (cO x)) → OpR P c w a ⟨dst, .binOp op t x y yt, type, pos, after, guard⟩ K := by
      intro mp neg d hu hop hd h
      simp only [W, rv] at h
      cases hv : isnV ob mp neg ((cO x).ev e) with
      | none => simp [hv] at h
      | some v =>
        simp only [hv] at h
        obtain ⟨r, h2, h3⟩ := run_isn w hi mp neg t x y hu (R x) hd hv
        subst hop
        exact OpR.val rfl (eff_same hp hi h2 h3 h)
    have np : isNilP y = true → a.eval y = .pointer none := by
      intro hy
      unfold isNilP at hy
      split at hy
      · rfl
      · cases hy
    have nm : isNilM y = true → a.eval y = .map none := by
      intro hy
      unfold isNilM at hy
      split at hy
      · rfl
      · cases hy
    unfold copBin at hj
    split at hj
    · subst hj; exact (hq ⟨_, rfl⟩).elim
    · subst hj; exact (hq ⟨_, rfl⟩).elim
    · split at hj
      · rcases cod_or hj with ⟨_, rfl⟩ | rfl
        · exact (hq ⟨_, rfl⟩).elim
        · exact h.elim
      · subst hj; exact h.elim
    · split at hj
      · rcases cod_or hj with ⟨_, rfl⟩ | rfl
        · exact (hq ⟨_, rfl⟩).elim
        · exact h.elim
      · subst hj; exact h.elim
    · split at hj
      · rcases cod_or hj with ⟨_, rfl⟩ | rfl
        · exact (hq ⟨_, rfl⟩).elim
        · exact h.elim
      · subst hj; exact h.elim
    · split at hj
      · rcases cod_or hj with ⟨_, rfl⟩ | rfl
        · exact (hq ⟨_, rfl⟩).elim
        · exact h.elim
      · subst hj; exact h.elim
    · rename_i hu
      rcases cod_or hj with ⟨h1, rfl⟩ | rfl
      · exact isn false false _ hu rfl (.inl ⟨rfl, _, rfl, np h1⟩) h
      · exact h.elim
    · rename_i hu
      rcases cod_or hj with ⟨h1, rfl⟩ | rfl
      · exact isn false true _ hu rfl (.inl ⟨rfl, _, rfl, np h1⟩) h
      · exact h.elim
    · rename_i hu
      rcases cod_or hj with ⟨h1, rfl⟩ | rfl
      · exact isn true false _ hu rfl (.inr ⟨rfl, _, _, rfl, nm h1⟩) h
      · exact h.elim
    · rename_i hu
      rcases cod_or hj with ⟨h1, rfl⟩ | rfl
      · exact isn true true _ hu rfl (.inr ⟨rfl, _, _, rfl, nm h1⟩) h
      · exact h.elim
    · subst hj; exact (hq ⟨_, rfl⟩).elim
    · subst hj; exact (hq ⟨_, rfl⟩).elim
    · subst hj; exact h.elim
  case makeMap t r =>
    cases r with
    | none => subst hj; exact OpR.val rfl (eff_makeMap hp hi h)
    | some r => subst hj; exact h.elim
  case makeSlice t l cc =>
    split at hj
    · rename_i el hu
      split at hj
      · rename_i z hz
        rcases cod_or hj with ⟨h1, rfl⟩ | rfl
        · simp only [Bool.and_eq_true, decide_eq_true_eq, beq_iff_eq] at h1
          simp only [W] at h
          cases hl : natV ((cO l).ev e) with
          | none => simp [hl] at h
          | some nl =>
            cases hc : natV ((cO cc).ev e) with
            | none => simp [hl, hc] at h
            | some nc =>
              simp only [hl, hc] at h
              exact OpR.val rfl (eff_makeSlice hp hi hu h1.1.1 hz h1.1.2 h1.2 (R l) hl (R cc) hc h.1 h.2.1 h.2.2)
        · exact h.elim
      · subst hj; exact h.elim
    · subst hj; exact h.elim
  case lookup t m k ok =>
    split at hj
    · rename_i kt et hu
      split at hj
      · rename_i ks z hl hz
        subst hj
        simp only [W, rv] at h
        cases hv : lkpV ob (isA P kt) ks z ok ((cO m).ev e) ((cO k).ev e) with
        | none => simp [hv] at h
        | some v =>
          simp only [hv] at h
          obtain ⟨r, h2, h3⟩ := run_lookup w hp hi hu hl hz (R m) (R k) ok hv
          exact OpR.val rfl (eff_same hp hi h2 h3 h)
      · subst hj; exact h.elim
    · subst hj; exact h.elim
  case call cc =>
    have hcall : execOp a.eval ⟨dst, .call cc, type, pos, after, guard⟩ = (do let d ← resolve a.eval cc type; invoke d.target d.args) := rfl
    unfold copCall at hj
    split at hj
    · rename_i g hcal
      rcases cod_or hj with ⟨hb, rfl⟩ | rfl
      · have hrun : (execOp a.eval ⟨dst, .call cc, type, pos, after, guard⟩).run P w = .ok (.enter g (cc.args.map a.eval)) w := by
          rw [hcall]
          unfold resolve
          rw [hcal]
          have he : a.eval (.func g) = .func (.func g) #[] #[] := rfl
          simp only [he, Deferred.ofValue, Sem.run_bind, Sem.run_pure, Result.andThen_ok, invoke]
          have e1 : #[] ++ cc.args.map a.eval ++ #[] = cc.args.map a.eval := by simp
          rw [e1]
          exact run_call hb
        have hx := reps_map hr cc.args
        split at h
        · simp only [W] at h
          exact OpR.call hrun (h.2 c w _ hp hi hx)
        · simp only [W] at h
          obtain ⟨r, h1, h2⟩ := h
          exact OpR.call hrun (pc_ok hp hi hx h2 h1).2
      · exact h.elim
    · rename_i x _ hcal
      have hrun : ∀ g cs, (cO x).ev e = .fn g cs → hasBody P g = true → ∃ xs : Array Value, Reps c cs xs.toList ∧ (execOp a.eval ⟨dst, .call cc, type, pos, after, guard⟩).run P w = .ok (.enter g (cc.args.map a.eval ++ xs)) w := by
        intro g cs hx hb
        have hX := R x
        rw [hx] at hX
        generalize hz : a.eval x = z at hX
        cases hX with
        | fn _ _ xs hl hh =>
          refine ⟨xs, ⟨by rw [Array.length_toList, hl], fun j v y hv hy => hh j v y hv (by rw [← Array.getElem?_toList]; exact hy)⟩, ?_⟩
          rw [hcall]
          unfold resolve
          rw [hcal]
          simp only [hz, Deferred.ofValue, Sem.run_bind, Sem.run_pure, Result.andThen_ok, invoke]
          have e1 : #[] ++ cc.args.map a.eval = cc.args.map a.eval := by simp
          rw [e1]
          exact run_call hb
      have hx := reps_map hr cc.args
      split at hj
      · subst hj
        simp only [W] at h
        cases hX : (cO x).ev e <;> simp only [hX] at h <;> (first | exact h.elim | skip)
        rename_i g cs
        obtain ⟨xs, h1, h2⟩ := hrun g cs hX h.1
        exact OpR.call h2 (h.2 c w _ hp hi (by simpa using hx.append h1))
      · subst hj
        simp only [W] at h
        obtain ⟨r, h, hK⟩ := h
        cases hX : (cO x).ev e <;> simp only [hX] at h <;> (first | exact h.elim | skip)
        rename_i g cs
        have hb : hasBody P g = true := by obtain ⟨_, _, h, _⟩ := h; exact h.1
        obtain ⟨xs, h1, h2⟩ := hrun g cs hX hb
        exact OpR.call h2 (pc_ok hp hi (by simpa using hx.append h1) hK h).2
    · subst hj; exact h.elim
    · rename_i b hb
      have hres : ∀ b', b = b' → (do let d ← resolve a.eval cc type; invoke d.target d.args) = builtin b' cc.argTypes type (cc.args.map fun | .const _ => true | _ => false) (cc.args.map a.eval) := by
        rintro b' rfl
        unfold resolve
        rw [hb]
        rfl
      have A2 : ∀ x y : Operand, cc.args.toList = [x, y] → cc.args.map a.eval = #[a.eval x, a.eval y] := fun x y h => by
        have ha : cc.args = #[x, y] := by rw [← Array.toArray_toList (xs := cc.args), h]
        rw [ha]; simp
      have fin : (∃ q, j = .q q) ∨ j = .bad ∨ sup j = false → OpR P c w a ⟨dst, .call cc, type, pos, after, guard⟩ K := by
        rintro (hh | rfl | hh)
        · exact (hq hh).elim
        · exact h.elim
        · rw [hs] at hh; cases hh
      split at hj
      · -- len
        refine fin ?_
        repeat' (split at hj)
        all_goals (subst hj; first | exact .inl ⟨_, rfl⟩ | exact .inr (.inl rfl) | exact .inr (.inr rfl))
      · refine fin ?_
        repeat' (split at hj)
        all_goals (subst hj; first | exact .inl ⟨_, rfl⟩ | exact .inr (.inl rfl) | exact .inr (.inr rfl))
      · -- append
        rename_i x y t u ts hargs hts
        split at hj
        · rename_i el hu
          split at hj
          · refine fin ?_
            split at hj
            · rcases cod_or hj with ⟨_, rfl⟩ | rfl
              · exact .inr (.inr rfl)
              · exact .inr (.inl rfl)
            · subst hj; exact .inr (.inl rfl)
          · rename_i e' hu2
            rcases cod_or hj with ⟨h1, rfl⟩ | rfl
            · simp only [Bool.and_eq_true, decide_eq_true_eq] at h1
              obtain ⟨z, hz, hzl⟩ := zlen_some h1.1.1.2
              have hty : cc.argTypes = (t :: u :: ts).toArray := by rw [← hts, Array.toArray_toList]
              have hL : execOp a.eval ⟨dst, .call cc, type, pos, after, guard⟩ = (do pure (.value (← Builtin.append_ cc.argTypes type #[a.eval x, a.eval y]))) := by
                rw [hcall, hres _ rfl, A2 x y hargs]; rfl
              refine OpR.val hL ?_
              have := eff_append (ty := type) hp hi hu hu2 h1.1.1.1 hz hzl (R x) (R y) h
              obtain ⟨r, w', c', v, o', h2, h3⟩ := this
              refine ⟨r, w', c', v, o', ?_, h3⟩
              rw [← h2, hty]
              simp [Builtin.append_]
            · exact h.elim
          · subst hj; exact h.elim
        · subst hj; exact h.elim
      all_goals (
        refine fin ?_
        repeat' (split at hj)
        all_goals (first
          | (subst hj; exact .inl ⟨_, rfl⟩)
          | (subst hj; exact .inr (.inl rfl))
          | (rcases cod_or hj with ⟨_, rfl⟩ | rfl
             · exact .inr (.inr rfl)
             · exact .inr (.inl rfl))
          | (subst hj; exact .inr (.inr rfl))))
  case makeFunc fn first cs =>
    cases fn <;> (first | (subst hj; exact h.elim) | skip)
    rcases cod_or hj with ⟨_, rfl⟩ | rfl
    · exact (hq ⟨_, rfl⟩).elim
    · exact h.elim
  case next x b =>
    cases b
    · subst hj; cases hs
    · subst hj; exact h.elim
  all_goals (
    repeat' (split at hj)
    all_goals (first
      | (subst hj; exact (hq ⟨_, rfl⟩).elim)
      | (subst hj; exact h.elim)
      | (subst hj; cases hs)
      | (rcases cod_or hj with ⟨_, rfl⟩ | rfl
         · exact (hq ⟨_, rfl⟩).elim
         · exact h.elim)))

end

end Go.Proofs.Ytiadalheipbpcaa
