/-
  Laws of the small machine's weakest precondition: monotone; what is made in one order is made in another.
-/
import Derived.Test.YtiadalheipbpcaaCo
namespace Go.Proofs.Ytiadalheipbpcaa
set_option linter.all false

def Le (c1 c2 : CallT) : Prop := ∀ g as o K K', (∀ v o, K v o → K' v o) → c1 g as o K → c2 g as o K'

theorem pcall_le {c1 c2 : CallT} (h : Le c1 c2) {o : O} {g : Nat} {vs : List V} {r : V} (hp : pcall c1 o g vs r) : pcall c2 o g vs r := by
  obtain ⟨ws, h1, h2, h3⟩ := hp
  exact ⟨ws, h1, h _ _ _ _ _ (fun _ _ h => h) h2, h3⟩

theorem W_le {c1 c2 : CallT} (h : Le c1 c2) {e : E} {o : O} {K K' : V → O → Prop} (hk : ∀ v o, K v o → K' v o) {j : I} (hw : W c1 e o K j) : W c2 e o K' j := by
  cases j with
  | q q => simp only [W] at hw ⊢; split at hw <;> simp_all
  | ld sz ag x => simp only [W] at hw ⊢; split at hw <;> simp_all
  | isn mp neg x => simp only [W] at hw ⊢; split at hw <;> simp_all
  | mlen x => simp only [W] at hw ⊢; split at hw <;> simp_all
  | lkp => simp only [W] at hw ⊢; split at hw <;> simp_all
  | ent => simp only [W] at hw ⊢; split at hw <;> simp_all
  | pc g as => obtain ⟨r, hp, hr⟩ := hw; exact ⟨r, pcall_le h hp, hk _ _ hr⟩
  | pv g as =>
    obtain ⟨r, hp, hr⟩ := hw
    refine ⟨r, ?_, hk _ _ hr⟩
    split at hp
    · exact pcall_le h hp
    · exact hp.elim
  | alc z => exact fun id hid => hk _ _ (hw id hid)
  | box x => exact ⟨hw.1, fun id hid => hk _ _ (hw.2 id hid)⟩
  | bsl sz n z ps =>
    simp only [W] at hw ⊢
    split
    · rw [if_pos ‹_›] at hw; exact hk _ _ hw
    · rw [if_neg ‹_›] at hw
      split at hw
      · exact fun id hid => hk _ _ (hw id hid)
      · exact hw
  | mks =>
    simp only [W] at hw ⊢
    split at hw
    · exact ⟨hw.1, hw.2.1, fun id hid => hk _ _ (hw.2.2 id hid)⟩
    · exact hw
  | mkm => exact fun id hid => hk _ _ (hw id hid)
  | sto sz x v =>
    simp only [W] at hw ⊢
    split at hw <;> try exact hw.elim
    split at hw <;> try exact hw.elim
    split at hw <;> try exact hw.elim
    exact ⟨hw.1, hw.2.1, hk _ _ hw.2.2⟩
  | app sz byt x y =>
    simp only [W] at hw ⊢
    split at hw <;> try exact hw.elim
    obtain ⟨h1, hw⟩ := hw
    refine ⟨h1, ?_⟩
    split at hw <;> try exact hw.elim
    · exact ⟨hw.1, fun e => hk _ _ (hw.2.1 e), fun e id hid => hk _ _ (hw.2.2 e id hid)⟩
    · obtain ⟨h2, h3, hw⟩ := hw
      refine ⟨h2, h3, ?_⟩
      split at hw <;> try exact hw.elim
      exact ⟨hw.1, hw.2.1, fun e => hk _ _ (hw.2.2.1 e), fun e id hid => hk _ _ (hw.2.2.2 e id hid)⟩
  | apz sz byt z x n =>
    simp only [W] at hw ⊢
    split at hw <;> try exact hw.elim
    split at hw <;> try exact hw.elim
    exact ⟨hw.1, fun e => hk _ _ (hw.2.1 e), fun e id hid => hk _ _ (hw.2.2 e id hid)⟩
  | cpy sz x y =>
    simp only [W] at hw ⊢
    split at hw <;> try exact hw.elim
    obtain ⟨h1, hw⟩ := hw
    refine ⟨h1, ?_⟩
    split at hw <;> try exact hw.elim
    · exact hk _ _ hw
    · obtain ⟨h2, hw⟩ := hw
      refine ⟨h2, ?_⟩
      split at hw <;> try exact hw.elim
      exact ⟨hw.1, hk _ _ hw.2⟩
    · obtain ⟨h2, hw⟩ := hw
      refine ⟨h2, ?_⟩
      split at hw <;> try exact hw.elim
      split at hw <;> try exact hw.elim
      exact ⟨hw.1, hk _ _ hw.2⟩
  | clr z x =>
    simp only [W] at hw ⊢
    split at hw <;> try exact hw.elim
    · exact hk _ _ hw
    · obtain ⟨h2, hw⟩ := hw
      refine ⟨h2, ?_⟩
      split at hw <;> try exact hw.elim
      exact ⟨hw.1, hk _ _ hw.2⟩
  | mup =>
    simp only [W] at hw ⊢
    split at hw <;> try exact hw.elim
    split at hw <;> try exact hw.elim
    split at hw <;> try exact hw.elim
    exact hk _ _ hw
  | men =>
    simp only [W] at hw ⊢
    split at hw <;> try exact hw.elim
    split at hw <;> try exact hw.elim
    split at hw <;> try exact hw.elim
    · split at hw <;> try exact hw.elim
      exact hk _ _ hw
    · exact hk _ _ hw
  | est =>
    simp only [W] at hw ⊢
    split at hw <;> try exact hw.elim
    split at hw <;> try exact hw.elim
    exact ⟨hw.1, hk _ _ hw.2⟩
  | del =>
    simp only [W] at hw ⊢
    split at hw <;> try exact hw.elim
    split at hw <;> try exact hw.elim
    split at hw <;> try exact hw.elim
    · exact hk _ _ hw
    · exact hk _ _ hw
  | rng =>
    simp only [W] at hw ⊢
    split at hw <;> try exact hw.elim
    · exact fun id hid => hk _ _ (hw id hid)
    · split at hw <;> try exact hw.elim
      exact fun id hid => hk _ _ (hw id hid)
  | nxt =>
    simp only [W] at hw ⊢
    split at hw <;> try exact hw.elim
    split at hw <;> try exact hw.elim
    · exact hk _ _ hw
    · split at hw <;> try exact hw.elim
      exact ⟨hw.1, fun e => hk _ _ (hw.2.1 e), fun x hx hs => hk _ _ (hw.2.2 x hx hs)⟩
  | nc g as => exact h _ _ _ _ _ hk hw
  | nv g as =>
    simp only [W] at hw ⊢
    split at hw <;> try exact hw.elim
    exact h _ _ _ _ _ hk hw
  | bad => exact hw

theorem WS_le {c1 c2 : CallT} (h : Le c1 c2) {s : Stp} {e : E} {o : O} {K K' : E → O → Prop} (hk : ∀ e o, K e o → K' e o) (hw : WS c1 s e o K) : WS c2 s e o K' := by
  unfold WS at hw ⊢
  split at hw
  · exact W_le h (fun v o' hh => ⟨hh.1, hk _ _ hh.2⟩) hw
  · split at hw
    · split at hw
      · rw [if_pos ‹_›]; exact W_le h (fun v o' hh => ⟨hh.1, hk _ _ hh.2⟩) hw
      · rw [if_neg ‹_›]; exact hk _ _ hw
    · exact hw.elim

theorem wpR_le {c1 c2 : CallT} (h : Le c1 c2) {l : List Stp} : ∀ {e : E} {o : O} {K K' : E → O → Prop}, (∀ e o, K e o → K' e o) → wpR c1 l K e o → wpR c2 l K' e o := by
  induction l with
  | nil => exact fun hk hw => hk _ _ hw
  | cons s l ih => exact fun hk hw => WS_le h (fun e o hh => ih hk hh) hw

theorem wpC_le {c1 c2 : CallT} (h : Le c1 c2) {c : C} : ∀ {e : E} {o : O} {K K' : X → E → O → Prop}, (∀ x e o, K x e o → K' x e o) → wpC c1 c K e o → wpC c2 c K' e o := by
  induction c with
  | sk => exact fun hk hw => hk _ _ _ hw
  | rg l => exact fun hk hw => wpR_le h (hk _) hw
  | sq a b iha ihb =>
    intro e o K K' hk hw
    refine iha ?_ hw
    intro x e o hx
    cases x with
    | nx => exact ihb hk hx
    | ex id => exact hk _ _ _ hx
    | rt => exact hk _ _ _ hx
  | cd c a b iha ihb =>
    intro e o K K' hk hw
    simp only [wpC] at hw ⊢
    split at hw
    · exact iha hk hw
    · exact ihb hk hw
    · exact hw.elim
  | bk id a iha =>
    intro e o K K' hk hw
    refine iha ?_ hw
    intro x e o hx
    cases x with
    | nx => exact hk _ _ _ hx
    | ex j =>
      simp only [blkX] at hx ⊢
      split
      · rw [if_pos ‹_›] at hx; exact hk _ _ _ hx
      · rw [if_neg ‹_›] at hx; exact hk _ _ _ hx
    | rt => exact hk _ _ _ hx
  | lp a iha =>
    intro e o K K' hk hw J hJ
    refine hw J ?_
    intro e' o' h'
    refine hJ e' o' (iha ?_ h')
    intro x e o hx
    cases x with
    | nx => exact hx
    | ex id => exact hk _ _ _ hx
    | rt => exact hk _ _ _ hx
  | ex id => exact fun hk hw => hk _ _ _ hw
  | rt => exact fun hk hw => hk _ _ _ hw
  | bad => exact fun _ hw => hw

theorem wpF_le {c1 c2 : CallT} (h : Le c1 c2) {F : Nat → Option Fn} {g : Nat} {as : List V} {o : O} {K K' : V → O → Prop} (hk : ∀ v o, K v o → K' v o)
    (hw : wpF F c1 g as o K) : wpF F c2 g as o K' := by
  unfold wpF at hw ⊢
  split at hw
  · refine ⟨hw.1, wpC_le h ?_ hw.2⟩
    intro x e o hx
    cases x with
    | nx => obtain ⟨vs, h1, h2⟩ := hx; exact ⟨vs, h1, hk _ _ h2⟩
    | ex id => exact hx
    | rt => obtain ⟨vs, h1, h2⟩ := hx; exact ⟨vs, h1, hk _ _ h2⟩
  · exact hw

theorem Call_le (F : Nat → Option Fn) : Le (Call F) (Call F) := by
  intro g as o K K' hk hc
  refine hc (fun g as o K => ∀ K', (∀ v o, K v o → K' v o) → Call F g as o K') ?_ K' hk
  intro g as o K hw K' hk cl hcl
  refine hcl _ _ _ _ (wpF_le ?_ hk hw)
  intro g as o K1 K2 h12 h1
  exact h1 K2 h12 cl hcl

theorem Call_mk {F : Nat → Option Fn} {g : Nat} {as : List V} {o : O} {K : V → O → Prop} (h : wpF F (Call F) g as o K) : Call F g as o K := by
  intro cl hcl
  refine hcl _ _ _ _ (wpF_le (c1 := fun g as o K => ∃ K1, (∀ v o, K1 v o → K v o) ∧ Call F g as o K1) ?_ (fun _ _ h => h) (wpF_le ?_ (fun _ _ h => h) h))
  · rintro g as o K1 K2 h12 ⟨K0, h0, h1⟩
    exact Call_le F _ _ _ _ _ (fun v o hv => h12 _ _ (h0 _ _ hv)) h1 cl hcl
  · exact fun g as o K1 K2 h12 h1 => ⟨K1, h12, h1⟩

theorem Call_mono {F : Nat → Option Fn} {g : Nat} {as : List V} {o : O} {K K' : V → O → Prop} (h : Call F g as o K) (hk : ∀ v o, K v o → K' v o) : Call F g as o K' :=
  Call_le F _ _ _ _ _ hk h

theorem wp_sq {F : Nat → Option Fn} {a b : C} {K : X → E → O → Prop} {e : E} {o : O} (h : wpC (Call F) a (seqX (wpC (Call F) b K) K) e o) : wpC (Call F) (.sq a b) K e o := h

/-- a loop, by what holds at each round's head and a number that goes down -/
theorem wp_lp {cl : CallT} {a : C} {K : X → E → O → Prop} {e : E} {o : O} (J : E → O → Prop) (μ : E → O → Nat) (h0 : J e o)
    (h : ∀ e o, J e o → wpC cl a (seqX (fun e' o' => J e' o' ∧ μ e' o' < μ e o) K) e o) (hcl : Le cl cl) : wpC cl (.lp a) K e o := by
  intro J' hJ'
  have key : ∀ n e o, μ e o = n → J e o → J' e o := by
    intro n
    induction n using Nat.strongRecOn with
    | _ n ih =>
      intro e o hn hj
      refine hJ' _ _ (wpC_le hcl ?_ (h e o hj))
      intro x e' o' hx
      cases x with
      | nx => exact ih _ (hn ▸ hx.2) e' o' rfl hx.1
      | ex id => exact hx
      | rt => exact hx
  exact key _ e o rfl h0

end Go.Proofs.Ytiadalheipbpcaa
