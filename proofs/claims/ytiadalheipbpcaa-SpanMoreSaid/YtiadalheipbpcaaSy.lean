/-
  Code, and functions: what the small machine shows of a call holds of it.
-/
import Derived.Test.YtiadalheipbpcaaSw
namespace Go.Proofs.Ytiadalheipbpcaa
set_option linter.all false

theorem nodupB_spec : ∀ {l : List Nat}, nodupB l = true → l.Nodup := by
  intro l
  induction l with
  | nil => intro _; exact List.nodup_nil
  | cons x l ih =>
    intro h
    simp only [nodupB, Bool.and_eq_true, Bool.not_eq_true', List.contains_eq_mem, decide_eq_false_iff_not] at h
    exact List.nodup_cons.2 ⟨h.1, ih h.2⟩

def exitOf : X → Exit
  | .nx => .normal
  | .ex id => .exit id
  | .rt => .ret

section
variable {P : Program} {c0 : Cx} {w0 : World} {N : Nat} {im : Nat → Nat → Bool}

theorem region_ok (hm : P.follows .mixedOrders = true) (hs0 : Sep c0) {id : Nat} {ops : Array Oper} {draw : Bool} {Q : Exit → Act → World → Prop} {K : X → E → O → Prop} {e : E} {o : O} {a : Act} {w : World}
    (h : wpC (Snd P) (compReg P (im id) N ops draw) K e o) (hS : Stt c0 w0 N e o a w) (hK : ∀ x e o a w, K x e o → Stt c0 w0 N e o a w → Q (exitOf x) a w) : (Code.region id ops draw).wp P Q a w := by
  cases draw with
  | false => exact wp_region (ops_ok snd_le hs0 (fun e o a w h1 h2 => hK .nx e o a w h1 h2) _ (fun j hj => by simpa using hj) e o a w h hS)
  | true =>
    unfold compReg at h
    simp only [if_true] at h
    split at h
    · rename_i hc
      simp only [Bool.and_eq_true, decide_eq_true_eq] at hc
      obtain ⟨⟨⟨⟨⟨h1, h2⟩, h3⟩, h4⟩, h5⟩, h6⟩ := hc
      refine wp_region_any hm ?_
      have hS' : Stt c0 w0 N e o a { w with drawn := w.drawn + 1 } := hS
      generalize hl : order (Region.before ops) (fun y => cls (stpAt P (im id) N ops y).i) ops.size ops.size [] = l at h h2 h3 h4 h5 h6
      refine any_ok hs0 h1 (fun e o a w h1 h2 => hK .nx e o a w h1 h2) ops.size _ (mkS (stpAt P (im id) N ops) (Region.before ops) l []) e o a _ ?_ (Gd.start (nodupB_spec h5) h6) (by simp) (fun y => ?_) (fun y hy => ?_) ?_ hS'
      · rw [← h2, ← mkS_fst (stpAt P (im id) N ops) (Region.before ops) l [], List.length_map, mkS_fst]
      · rw [mkS_fst]
        constructor
        · intro hy
          have hlt : y < ops.size := by simpa using List.all_eq_true.1 h4 y hy
          exact ⟨hlt, by simp [Array.getD_eq_getD_getElem?, hlt]⟩
        · intro hy
          have := List.all_eq_true.1 h3 y (by simpa using hy.1)
          simpa using this
      · exfalso
        rw [Array.getD_eq_getD_getElem?] at hy
        rcases Nat.lt_or_ge y ops.size with hh | hh
        · simp [hh] at hy
        · rw [Array.getElem?_eq_none (by simpa using hh)] at hy; cases hy
      · rw [mkS_snd]; exact h
    · exact h.elim

theorem code_ok (hm : P.follows .mixedOrders = true) (hs0 : Sep c0) : ∀ (code : Code) (K : X → E → O → Prop) (Q : Exit → Act → World → Prop) (e : E) (o : O) (a : Act) (w : World),
    wpC (Snd P) (compC P im N code) K e o → Stt c0 w0 N e o a w → (∀ x e o a w, K x e o → Stt c0 w0 N e o a w → Q (exitOf x) a w) → code.wp P Q a w := by
  intro code
  induction code with
  | skip => intro K Q e o a w h hS hK; exact wp_skip (hK .nx e o a w h hS)
  | region id ops draw => intro K Q e o a w h hS hK; exact region_ok hm hs0 h hS hK
  | seq x y ihx ihy =>
    intro K Q e o a w h hS hK
    refine wp_seq (ihx _ _ e o a w h hS fun z e o a w hz hS => ?_)
    cases z with
    | nx => exact ihy K Q e o a w hz hS hK
    | ex id => exact hK (.ex id) e o a w hz hS
    | rt => exact hK .rt e o a w hz hS
  | cond c x y ihx ihy =>
    intro K Q e o a w h hS hK
    simp only [compC, wpC] at h
    obtain ⟨cx, _, _, _, _, hi, hr, _⟩ := id hS
    have hc := rep_cO hr c
    cases hb : (cO c).ev e <;> simp only [hb] at h <;> (first | exact h.elim | skip)
    rename_i p
    rw [hb] at hc
    generalize hz : a.eval c = z at hc
    cases hc
    cases p
    · exact wp_cond_false hz (ihy K Q e o a w h hS hK)
    · exact wp_cond_true hz (ihx K Q e o a w h hS hK)
  | block id x ih =>
    intro K Q e o a w h hS hK
    refine wp_block (ih _ _ e o a w h hS fun z e o a w hz hS => ?_)
    cases z with
    | nx => exact hK .nx e o a w hz hS
    | ex j =>
      simp only [blkX] at hz
      simp only [exitOf, Exit.inBlock]
      split
      · rename_i hj; rw [if_pos hj] at hz; exact hK .nx e o a w hz hS
      · rename_i hj; rw [if_neg hj] at hz; exact hK (.ex j) e o a w hz hS
    | rt => exact hK .rt e o a w hz hS
  | loop x ih =>
    intro K Q e o a w h hS hK
    simp only [compC, wpC] at h
    intro b k cs
    let LW : Act → World → Prop := fun a w => ∃ ex a' w', Q ex a' w' ∧ Arrives P (lone (b.at a (.code x :: .inLoop x :: k)) cs w) b k cs ex a' w'
    have key := h (fun e o => ∀ a w, Stt c0 w0 N e o a w → LW a w) fun e' o' hr a w hS => by
      have hw := ih _ (Exit.then LW Q) e' o' a w hr hS fun z e o a w hz hS => by
        cases z with
        | nx => exact hz a w hS
        | ex id => exact hK (.ex id) e o a w hz hS
        | rt => exact hK .rt e o a w hz hS
      obtain ⟨ex, a1, w1, hq, harr⟩ := hw b (.inLoop x :: k) cs
      cases ex with
      | normal =>
        obtain ⟨e2, a2, w2, hq2, harr2⟩ := hq
        exact ⟨e2, a2, w2, hq2, .of_steps (Steps.trans harr (.one step_inLoop)) harr2⟩
      | exit id => exact ⟨_, a1, w1, hq, .pass (x := .inLoop x) rfl (fun _ _ => .inl (by simp)) harr⟩
      | goto l => exact ⟨_, a1, w1, hq, .pass (x := .inLoop x) rfl (fun _ _ => .inl (by simp)) harr⟩
      | ret => exact ⟨_, a1, w1, hq, .pass (x := .inLoop x) rfl (fun _ _ => .inl (by simp)) harr⟩
      | panic ch => exact ⟨_, a1, w1, hq, .pass (x := .inLoop x) rfl (fun _ _ => .inl (by simp)) harr⟩
      | outgrown => exact ⟨_, a1, w1, hq, .pass (x := .inLoop x) rfl (fun _ _ => .inl (by simp)) harr⟩
    obtain ⟨ex, a', w', hq, harr⟩ := key a w hS
    exact ⟨ex, a', w', hq, .of_steps (.one step_loop) harr⟩
  | exit id => intro K Q e o a w h hS hK; exact wp_exit (hK (.ex id) e o a w h hS)
  | ret => intro K Q e o a w h hS hK; exact wp_ret (hK .rt e o a w h hS)
  | _ => intro K Q e o a w h hS hK; exact h.elim

end

end Go.Proofs.Ytiadalheipbpcaa
