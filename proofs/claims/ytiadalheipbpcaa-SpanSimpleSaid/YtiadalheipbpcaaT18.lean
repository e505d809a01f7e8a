import Derived.Test.YtiadalheipbpcaaT17

/-
  span.Spans
-/
namespace Go.Proofs.Ytiadalheipbpcaa
set_option linter.all false

def bls (R : Nat → Nat → Bool) (n : Nat) : V := .sl ((List.range n).map fun i => [.sl (blR (R i) n)])

theorem blR_okd (p : Nat → Bool) (n j : Nat) : ∀ c ∈ blR p n, ∀ v ∈ c, frz (j + 1) (fun _ => none) v = some v := by
  intro c hc v hv
  obtain ⟨i, _, rfl⟩ := List.mem_map.1 hc
  simp at hv
  subst hv
  rfl

theorem frz_bl {o : O} {idl n : Nat} {p : Nat → Bool} (h : o idl = some (.row 1 (blR p n))) (j : Nat) : frz (j + 2) o (.rw idl 1 0 n) = some (.sl (blR p n)) := by
  have hs : src o (.rw idl 1 0 n) = some (blR p n) := by
    simp only [src, h]
    rw [if_pos (by rw [blR_len]; omega)]
    simp [List.take_of_length_le (Nat.le_of_eq (blR_len p n))]
  simp only [frz, hs]
  rw [mapM_self2 fun c hc v hv => by
    obtain ⟨i, _, rfl⟩ := List.mem_map.1 hc
    simp at hv
    subst hv
    rfl]
  rfl

theorem mapM_at {α β : Type} {f : α → Option β} : ∀ {l : List α} {m : List β}, m.length = l.length → (∀ (i : Nat) c, l[i]? = some c → ∃ d, m[i]? = some d ∧ f c = some d) → l.mapM f = some m := by
  intro l
  induction l with
  | nil => intro m h _; cases m with | nil => rfl | cons => simp at h
  | cons c l ih =>
    intro m h hh
    cases m with
    | nil => simp at h
    | cons d m =>
      obtain ⟨d', h1, h2⟩ := hh 0 c rfl
      simp at h1
      subst h1
      have := ih (m := m) (by simpa using h) (fun i c hc => by simpa using hh (i + 1) c (by simpa using hc))
      simp [h2, this]

theorem fz_lst {o : O} {R : Nat → Nat → Bool} {n idm : Nat} {L : List (List V)} (ho : o idm = some (.row 1 L)) (hL : Lst R n n o idm L) (j : Nat) : frz (j + 3) o (.rw idm 1 0 n) = some (bls R n) := by
  obtain ⟨hl, hh⟩ := hL
  have hs : src o (.rw idm 1 0 n) = some L := by
    simp only [src, ho]
    rw [if_pos (by omega)]
    simp [List.take_of_length_le (Nat.le_of_eq hl)]
  simp only [frz, hs]
  have : (L.mapM fun c : List V => c.mapM (frz (j + 2) o)) = some ((List.range n).map fun i => [V.sl (blR (R i) n)]) := by
    refine mapM_at (by simp [hl]) fun i c hc => ?_
    have hi : i < n := by rw [← hl]; exact (List.getElem?_eq_some_iff.1 hc).1
    obtain ⟨idl, g1, _, g3⟩ := hh i hi
    rw [g1] at hc
    cases hc
    exact ⟨[.sl (blR (R i) n)], by simp [hi], by simp [frz_bl g3 j]⟩
  rw [this]
  rfl

end Go.Proofs.Ytiadalheipbpcaa
