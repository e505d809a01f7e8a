/-
  One step of a region.
-/
import Derived.Test.YtiadalheipbpcaaSu
import Derived.Orders
namespace Go.Proofs.Ytiadalheipbpcaa
set_option linter.all false

def Stt (c0 : Cx) (w0 : World) (N : Nat) (e : E) (o : O) (a : Act) (w : World) : Prop :=
  ∃ c, Ext c0 c ∧ c.heap = w.heap ∧ w.os = w0.os ∧ w.output = w0.output ∧ Inv c o ∧ (∀ t, Rep c (e t) (a.tmps.getD t undef)) ∧ a.tmps.size = N ∧ a.defers = []

theorem put_getD (a : Act) (d : Option Nat) (x : Value) (hd : d.all (fun d => decide (d < a.tmps.size)) = true) (t : Nat) :
    (a.put d x).tmps.getD t undef = if d = some t then x else a.tmps.getD t undef := by
  cases d with
  | none => simp [Act.put]
  | some d =>
    simp only [Option.all_some, decide_eq_true_eq] at hd
    by_cases h : d = t
    · subst h
      simp [Act.put, Array.getD_eq_getD_getElem?, hd]
    · have hn : (some d = some t) = False := by simp [h]
      simp only [Act.put, hn, if_false, Array.getD_eq_getD_getElem?]
      rw [Array.getElem?_setIfInBounds_ne h]

theorem put_size (a : Act) (d : Option Nat) (x : Value) : (a.put d x).tmps.size = a.tmps.size := by cases d <;> simp [Act.put]
theorem put_defers (a : Act) (d : Option Nat) (x : Value) : (a.put d x).defers = a.defers := by cases d <;> simp [Act.put]

theorem put_undef (a : Act) (d : Option Nat) (t : Nat) : d ≠ some t → (a.put d undef).tmps.getD t undef = a.tmps.getD t undef := by
  intro h
  cases d with
  | none => simp [Act.put]
  | some d =>
    have h : d ≠ t := fun hh => h (by rw [hh])
    simp only [Act.put, Array.getD_eq_getD_getElem?]
    rw [Array.getElem?_setIfInBounds_ne h]

theorem put_at (e : E) (d : Option Nat) (v : V) (t : Nat) : put e d v t = if d = some t then v else e t := by
  cases d with
  | none => simp [put]
  | some d =>
    simp only [put, upd, Option.some.injEq]
    by_cases h : t = d
    · subst h; simp
    · rw [if_neg h, if_neg (fun hh => h hh.symm)]

section
variable {P : Program} {c0 : Cx} {w0 : World} {N : Nat} {im : Nat → Bool} {ops : Array Oper} {Q : Exit → Act → World → Prop}

theorem step_ok (hs0 : Sep c0) {j : Nat} {op : Oper} (ho : ops[j]? = some op) {e : E} {o : O} {a : Act} {w : World} {K : V → O → Prop} (h : WSv (Snd P) (stpAt P im N ops j) e o K) (hS : Stt c0 w0 N e o a w)
    {nxt : Act → World → Prop} (hn : ∀ v o' a' w', K v o' → Stt c0 w0 N (put e (stpAt P im N ops j).d v) o' a' w' → nxt a' w') : wpOp P ops Q j nxt a w := by
  obtain ⟨c, hE, hp, hos, hout, hi, hr, hsz, hdf⟩ := hS
  -- the operation is carried out
  have run : ∀ (K : V → O → Prop), (stpAt P im N ops j).d = op.dst → (∀ v o' a' w', K v o' → Stt c0 w0 N (put e op.dst v) o' a' w' → nxt a' w') →
      W (Snd P) e o K (cod (op.dst.all (fun d => decide (d < N)) && sup (cop P (im j) op)) (cop P (im j) op)) → op.wp P a w nxt Q := by
    intro K hd hn hW
    unfold cod at hW
    split at hW
    · rename_i hc
      simp only [Bool.and_eq_true] at hc
      refine (op_ok hr hp hi hc.2 hW).wp nxt Q fun x w' c' v o' hA hK => hn v o' _ w' hK ⟨c', Ext.trans hs0.lt hE hA.ext, hA.hp, by rw [hA.os, hos], by rw [hA.out, hout], hA.inv, fun t => ?_, by rw [put_size, hsz], by rw [put_defers, hdf]⟩
      rw [put_getD a op.dst x (by rw [hsz]; exact hc.1), put_at]
      split
      · exact hA.rep
      · exact (hr t).ext hA.ext hi.sep
    · exact hW.elim
  have skip : ∀ v : V, v = .tp [] → Stt c0 w0 N (put e op.dst v) o (a.put op.dst undef) w := by
    rintro _ rfl
    refine ⟨c, hE, hp, hos, hout, hi, fun t => ?_, by rw [put_size, hsz], by rw [put_defers, hdf]⟩
    rw [put_at]
    split
    · rename_i hd
      have : (a.put op.dst undef).tmps.getD t undef = undef := by
        rw [hd]
        simp only [Act.put, Array.getD_eq_getD_getElem?]
        rcases Nat.lt_or_ge t a.tmps.size with h | h
        · simp [h]
        · rw [Array.getElem?_eq_none (by simpa using h)]; rfl
      rw [this]
      exact .tp _ _ rfl fun j v x hv => by simp at hv
    · rename_i hne
      rw [put_undef a op.dst t hne]; exact hr t
  unfold wpOp
  simp only [ho]
  unfold WSv at h
  cases hg : op.guard with
  | none =>
    have hs : stpAt P im N ops j = { d := op.dst, g := none, i := cod (op.dst.all (fun d => decide (d < N)) && sup (cop P (im j) op)) (cop P (im j) op), st := [] } := by simp only [stpAt, ho, hg]
    rw [hs] at h hn
    have hw : Region.wanted op (yielded ops a.tmps) = true := by simp [Region.wanted, hg]
    rw [if_pos hw]
    exact .inl (run K (by rw [hs]) hn h)
  | some kp =>
    obtain ⟨k, p⟩ := kp
    cases ht : (ops[k]?).bind (·.dst) with
    | none =>
      have hs : stpAt P im N ops j = { d := op.dst, g := none, i := .bad, st := [] } := by simp only [stpAt, ho, hg, ht]
      rw [hs] at h
      exact h.elim
    | some t =>
      have hs : stpAt P im N ops j = { d := op.dst, g := some (t, p), i := cod (op.dst.all (fun d => decide (d < N)) && sup (cop P (im j) op)) (cop P (im j) op), st := [] } := by simp only [stpAt, ho, hg, ht]
      have hrt := hr t
      rw [hs] at h hn
      cases he : e t <;> simp only [he, gdV] at h <;> (first | exact h.elim | skip)
      case bo q =>
        rw [he] at hrt
        have hb : a.tmps[t]? = some (.bool q) := by
          cases hx : a.tmps[t]? with
          | none => rw [Array.getD_eq_getD_getElem?, hx] at hrt; cases hrt
          | some x =>
            rw [Array.getD_eq_getD_getElem?, hx] at hrt
            simp only [Option.getD_some] at hrt
            cases hrt; rfl
        have hw : Region.wanted op (yielded ops a.tmps) = (q == p) := by
          simp [Region.wanted, hg, yielded, ht, hb]
        by_cases hqp : q = p
        · rw [if_pos hqp] at h
          rw [if_pos (by rw [hw]; simp [hqp])]
          exact .inl (run K (by rw [hs]) hn h)
        · rw [if_neg hqp] at h
          rw [if_neg (by rw [hw]; simp [hqp])]
          exact hn (.tp []) o _ w h (skip _ rfl)
      case tp vs =>
        rw [he] at hrt
        have hb : ∀ b, a.tmps[t]? ≠ some (.bool b) := by
          intro b hx
          rw [Array.getD_eq_getD_getElem?, hx] at hrt
          simp only [Option.getD_some] at hrt
          cases hrt
        have hw : Region.wanted op (yielded ops a.tmps) = false := by
          have : yielded ops a.tmps k = none := by
            unfold yielded
            rw [ht, Option.bind_some]
            split
            · rename_i b hx; exact (hb b hx).elim
            · rfl
          simp [Region.wanted, hg, this]
        rw [if_neg (by cases p <;> simp)] at h
        rw [if_neg (by rw [hw]; simp)]
        exact hn (.tp []) o _ w h (skip _ rfl)

theorem WS_v {cl : CallT} (hcl : Le cl cl) {s : Stp} {e : E} {o : O} {K : E → O → Prop} (h : WS cl s e o K) : WSv cl s e o (fun v o' => K (put e s.d v) o') := by
  unfold WS at h
  unfold WSv
  cases hg : s.g with
  | none => rw [hg] at h; exact W_le hcl (fun v o' hh => hh.2) h
  | some z =>
    obtain ⟨t, p⟩ := z
    rw [hg] at h
    simp only at h ⊢
    cases he : gdV p (e t) <;> simp only [he] at h ⊢ <;> (first | exact h.elim | skip)
    split
    · rename_i hq; rw [if_pos hq] at h; exact W_le hcl (fun v o' hh => hh.2) h
    · rename_i hq; rw [if_neg hq] at h; exact h

/-- a region whose order is fixed -/
theorem ops_ok (hcl : Le (Snd P) (Snd P)) (hs0 : Sep c0) {K : E → O → Prop} (hK : ∀ e o a w, K e o → Stt c0 w0 N e o a w → Q .normal a w) : ∀ (l : List Nat), (∀ j ∈ l, j < ops.size) → ∀ (e : E) (o : O) (a : Act) (w : World), wpR (Snd P) (l.map (stpAt P im N ops)) K e o → Stt c0 w0 N e o a w →
    wpOps P ops Q l a w := by
  intro l
  induction l with
  | nil => exact fun _ e o a w h hS => hK e o a w h hS
  | cons j l ih =>
    intro hl e o a w h hS
    have hj : j < ops.size := hl j (by simp)
    rw [wpOps_cons]
    have h : WS (Snd P) (stpAt P im N ops j) e o (wpR (Snd P) (l.map (stpAt P im N ops)) K) := h
    exact step_ok hs0 (Array.getElem?_eq_getElem hj) (WS_v hcl h) hS fun v o' a' w' hk hS' => ih (fun i hi => hl i (by simp [hi])) _ _ _ _ hk hS'

theorem snd_le : Le (Snd P) (Snd P) := by
  intro g as o K K' hk h
  refine ⟨h.1, fun c w xs hp hi hr => (h.2 c w xs hp hi hr).mono fun e w' hh => ?_⟩
  obtain ⟨x, c', v, o', h1, h2, h3⟩ := hh
  exact ⟨x, c', v, o', h1, h2, hk _ _ h3⟩

end

end Go.Proofs.Ytiadalheipbpcaa
