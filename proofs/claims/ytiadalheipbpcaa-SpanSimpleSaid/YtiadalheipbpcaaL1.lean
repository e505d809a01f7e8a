import Derived.Test.YtiadalheipbpcaaT14

/-
  The words of a tree, and where it reaches in a word: plain laws.
-/
namespace Go.Proofs.Ytiadalheipbpcaa
set_option linter.all false

abbrev Lan := List Nat → Prop
def eps : Lan := fun u => u = []
def lcat (M N : Lan) : Lan := fun u => ∃ x y, u = x ++ y ∧ M x ∧ N y
def lor (M N : Lan) : Lan := fun u => M u ∨ N u
def Pw (M : Lan) : Nat → Lan
  | 0 => eps
  | m + 1 => lcat M (Pw M m)
def Lt (M : Lan) (lo hi : Int) : Lan := fun u => ∃ m : Nat, lo ≤ m ∧ (hi = -1 ∨ (m : Int) ≤ hi) ∧ Pw M m u

theorem lan_ext {M N : Lan} (h : ∀ u, M u ↔ N u) : M = N := funext fun u => propext (h u)

theorem eps_lcat (M : Lan) : lcat eps M = M := lan_ext fun u => ⟨by rintro ⟨x, y, rfl, rfl, h⟩; exact h, fun h => ⟨[], u, rfl, rfl, h⟩⟩
theorem lcat_eps (M : Lan) : lcat M eps = M := lan_ext fun u => ⟨by rintro ⟨x, y, rfl, h, rfl⟩; simpa using h, fun h => ⟨u, [], by simp, h, rfl⟩⟩
theorem lcat_assoc (A B D : Lan) : lcat (lcat A B) D = lcat A (lcat B D) := lan_ext fun u => by
  constructor
  · rintro ⟨_, z, rfl, ⟨x, y, rfl, hx, hy⟩, hz⟩; exact ⟨x, y ++ z, by simp, hx, y, z, rfl, hy, hz⟩
  · rintro ⟨x, _, rfl, hx, y, z, rfl, hy, hz⟩; exact ⟨x ++ y, z, by simp, ⟨x, y, rfl, hx, hy⟩, hz⟩
theorem lor_lcat (A B D : Lan) : lcat (lor A B) D = lor (lcat A D) (lcat B D) := lan_ext fun u => by
  constructor
  · rintro ⟨x, y, rfl, h | h, hy⟩; exact .inl ⟨x, y, rfl, h, hy⟩; exact .inr ⟨x, y, rfl, h, hy⟩
  · rintro (⟨x, y, rfl, h, hy⟩ | ⟨x, y, rfl, h, hy⟩); exact ⟨x, y, rfl, .inl h, hy⟩; exact ⟨x, y, rfl, .inr h, hy⟩

theorem Pw_add (M : Lan) (a b : Nat) : Pw M (a + b) = lcat (Pw M a) (Pw M b) := by
  induction a with
  | zero => rw [Nat.zero_add, Pw, eps_lcat]
  | succ a ih => rw [Nat.add_right_comm, Pw, ih, Pw, lcat_assoc]
theorem Pw_one (M : Lan) : Pw M 1 = M := by rw [Pw, Pw, lcat_eps]
theorem Pw_two (M : Lan) (q : Nat) : Pw (lcat M M) q = Pw M (2 * q) := by
  induction q with
  | zero => rfl
  | succ q ih =>
    rw [show 2 * (q + 1) = 1 + (1 + 2 * q) by omega, Pw_add M 1 (1 + 2 * q), Pw_add M 1 (2 * q), Pw_one]
    show lcat (lcat M M) (Pw (lcat M M) q) = _
    rw [ih, lcat_assoc]

/-- fewer, without the empty ones -/
theorem Pw_short (M : Lan) : ∀ (j : Nat) (u : List Nat), Pw M j u → ∃ i, i ≤ j ∧ i ≤ u.length ∧ Pw M i u := by
  intro j
  induction j with
  | zero => intro u h; exact ⟨0, by omega, by omega, h⟩
  | succ j ih =>
    intro u h
    obtain ⟨x, y, rfl, hx, hy⟩ := h
    obtain ⟨i, h1, h2, h3⟩ := ih y hy
    cases x with
    | nil => exact ⟨i, by omega, by simpa using h2, h3⟩
    | cons b x => exact ⟨i + 1, by omega, by simp; omega, b :: x, y, rfl, hx, h3⟩

theorem Pw_or (M : Lan) : ∀ (d : Nat) (u : List Nat), Pw (lor M eps) d u ↔ ∃ j, j ≤ d ∧ Pw M j u := by
  intro d
  induction d with
  | zero => intro u; exact ⟨fun h => ⟨0, by omega, h⟩, by
    rintro ⟨j, hj, h⟩
    have : j = 0 := by omega
    subst this; exact h⟩
  | succ d ih =>
    intro u
    constructor
    · rintro ⟨x, y, rfl, h | rfl, hy⟩
      · obtain ⟨j, hj, h2⟩ := (ih y).1 hy
        exact ⟨j + 1, by omega, x, y, rfl, h, h2⟩
      · obtain ⟨j, hj, h2⟩ := (ih y).1 hy
        exact ⟨j, by omega, h2⟩
    · rintro ⟨j, hj, h⟩
      cases j with
      | zero => exact ⟨[], u, rfl, .inr rfl, (ih u).2 ⟨0, by omega, h⟩⟩
      | succ j =>
        obtain ⟨x, y, rfl, hx, hy⟩ := h
        exact ⟨x, y, rfl, .inl hx, (ih y).2 ⟨j, by omega, hy⟩⟩

def seg (w : List Nat) (i k : Nat) : List Nat := (w.take k).drop i

theorem seg_len (w : List Nat) {i k : Nat} (hk : k ≤ w.length) : (seg w i k).length = k - i := by simp [seg, hk]
theorem seg_app (w : List Nat) {i j k : Nat} (h1 : i ≤ j) (h2 : j ≤ k) (h3 : k ≤ w.length) : seg w i k = seg w i j ++ seg w j k := by
  unfold seg
  have h4 : w.take k = w.take j ++ (w.take k).drop j := by
    have := (List.take_append_drop j (w.take k)).symm
    rwa [List.take_take, Nat.min_eq_left h2] at this
  conv => lhs; rw [h4]
  rw [List.drop_append_of_le_length (by simp; omega)]
theorem seg_self (w : List Nat) (i : Nat) : seg w i i = [] := by
  unfold seg; rw [List.drop_eq_nil_iff]; simp; omega
theorem seg_all (w : List Nat) : seg w 0 w.length = w := by simp [seg]

/-- a relation of a word's places is a language -/
def Rlw (w : List Nat) (A : Nat → Nat → Bool) (M : Lan) : Prop := ∀ i k, i ≤ w.length → k ≤ w.length → (A i k = true ↔ i ≤ k ∧ M (seg w i k))

theorem Rl_ff (w : List Nat) : Rlw w (fun _ _ => false) (fun _ => False) := fun i k _ _ => by simp
theorem Rl_id (w : List Nat) : Rlw w idR eps := fun i k hi hk => by
  simp only [idR, beq_iff_eq, eps]
  constructor
  · rintro rfl; exact ⟨Nat.le_refl _, seg_self _ _⟩
  · rintro ⟨h1, h2⟩
    have := seg_len w (i := i) hk
    rw [h2] at this; simp at this; omega
theorem Rl_or {w : List Nat} {A B : Nat → Nat → Bool} {M N : Lan} (ha : Rlw w A M) (hb : Rlw w B N) : Rlw w (orR A B) (lor M N) := fun i k hi hk => by
  simp only [orR, Bool.or_eq_true, ha i k hi hk, hb i k hi hk, lor]
  constructor
  · rintro (⟨h1, h2⟩ | ⟨h1, h2⟩); exact ⟨h1, .inl h2⟩; exact ⟨h1, .inr h2⟩
  · rintro ⟨h1, h2 | h2⟩; exact .inl ⟨h1, h2⟩; exact .inr ⟨h1, h2⟩
theorem Rl_then {w : List Nat} {A B : Nat → Nat → Bool} {M N : Lan} (ha : Rlw w A M) (hb : Rlw w B N) : Rlw w (thenN A B (w.length + 1)) (lcat M N) := fun i k hi hk => by
  simp only [thenN, List.any_eq_true, List.mem_range, Bool.and_eq_true]
  constructor
  · rintro ⟨j, hj, h1, h2⟩
    obtain ⟨a1, a2⟩ := (ha i j hi (by omega)).1 h1
    obtain ⟨b1, b2⟩ := (hb j k (by omega) hk).1 h2
    exact ⟨by omega, _, _, seg_app w a1 b1 hk, a2, b2⟩
  · rintro ⟨h1, x, y, h2, h3, h4⟩
    have hl := seg_len w (i := i) hk
    rw [h2, List.length_append] at hl
    have h5 := seg_app w (i := i) (j := i + x.length) (k := k) (by omega) (by omega) hk
    rw [h2] at h5
    have h6 := List.append_inj h5 (by rw [seg_len w (by omega)]; omega)
    exact ⟨i + x.length, by omega, (ha _ _ hi (by omega)).2 ⟨by omega, h6.1 ▸ h3⟩, (hb _ _ (by omega) hk).2 ⟨by omega, h6.2 ▸ h4⟩⟩

theorem Rl_pwr {w : List Nat} : ∀ (m : Nat) {D A : Nat → Nat → Bool} {N M : Lan}, Rlw w D N → Rlw w A M → Rlw w (pw (w.length + 1) D A m) (lcat N (Pw M m)) := by
  intro m
  induction m using Nat.strongRecOn with
  | _ m ih =>
    intro D A N M hd ha
    rw [pw]
    split
    · rename_i h; subst h; rw [Pw, lcat_eps]; exact hd
    · rename_i h
      have h2 := ih (m / 2) (by omega) (D := if m % 2 = 1 then thenN D A (w.length + 1) else D) (N := if m % 2 = 1 then lcat N M else N) (by split; exact Rl_then hd ha; exact hd) (Rl_then ha ha)
      rw [Pw_two] at h2
      split at h2
      · rename_i h3
        rw [lcat_assoc] at h2
        have : lcat M (Pw M (2 * (m / 2))) = Pw M m := by
          rw [show m = 2 * (m / 2) + 1 by omega]; simp [Pw]
          rw [show (2 * (m / 2) + 1) / 2 = m / 2 by omega]
        rw [this] at h2
        simpa [h3] using h2
      · rename_i h3
        rw [show 2 * (m / 2) = m by omega] at h2
        simpa [h3] using h2
theorem Rl_pw {w : List Nat} (m : Nat) {A : Nat → Nat → Bool} {M : Lan} (ha : Rlw w A M) : Rlw w (pw (w.length + 1) idR A m) (Pw M m) := by
  have := Rl_pwr m (Rl_id w) ha
  rwa [eps_lcat] at this

theorem Rl_times {w : List Nat} {A : Nat → Nat → Bool} {M : Lan} (ha : Rlw w A M) (lo hi : Int) (h0 : 0 ≤ lo) (hh : hi = -1 ∨ lo ≤ hi) :
    Rlw w (thenN (pw (w.length + 1) idR A lo.toNat) (pw (w.length + 1) idR (orR A idR) (if hi = -1 then w.length + 1 else (hi - lo).toNat)) (w.length + 1)) (Lt M lo hi) := by
  intro i k hi' hk
  have hr := Rl_then (Rl_pw lo.toNat ha) (Rl_pw (if hi = -1 then w.length + 1 else (hi - lo).toNat) (Rl_or ha (Rl_id w)))
  rw [hr i k hi' hk]
  refine and_congr_right fun hik => ?_
  have hl := seg_len w (i := i) hk
  generalize seg w i k = u at hl
  constructor
  · rintro ⟨x, y, rfl, hx, hy⟩
    obtain ⟨j, hj, hy⟩ := (Pw_or M _ y).1 hy
    refine ⟨lo.toNat + j, by omega, ?_, ?_⟩
    · by_cases h : hi = -1
      · exact .inl h
      · rw [if_neg h] at hj; right; omega
    · rw [Pw_add]; exact ⟨x, y, rfl, hx, hy⟩
  · rintro ⟨m, h1, h2, h3⟩
    rw [show m = lo.toNat + (m - lo.toNat) by omega, Pw_add] at h3
    obtain ⟨x, y, rfl, hx, hy⟩ := h3
    refine ⟨x, y, rfl, hx, (Pw_or M _ y).2 ?_⟩
    by_cases h : hi = -1
    · obtain ⟨q, q1, q2, q3⟩ := Pw_short M _ y hy
      rw [List.length_append] at hl
      exact ⟨q, by rw [if_pos h]; omega, q3⟩
    · exact ⟨m - lo.toNat, by rw [if_neg h]; omega, hy⟩

mutual
def Mt : Nd → Lan
  | .mk k s ps lo hi =>
    if k = 1 then fun u => ∃ b, u = [b] ∧ bitOf s b = true
    else if k = 3 then MtAlt ps
    else if k = 2 then MtCat ps
    else if k = 4 then Lt (MtHead ps) lo hi
    else eps
def MtAlt : List Nd → Lan
  | [] => fun _ => False
  | p :: ps => lor (Mt p) (MtAlt ps)
def MtCat : List Nd → Lan
  | [] => eps
  | p :: ps => lcat (Mt p) (MtCat ps)
def MtHead : List Nd → Lan
  | [] => eps
  | p :: _ => Mt p
end

theorem Rl_byte (w : List Nat) (s : Nat → Nat) : Rlw w (byteR w s) (fun u => ∃ b, u = [b] ∧ bitOf s b = true) := fun i k hi hk => by
  simp only [byteR, Bool.and_eq_true, beq_iff_eq]
  constructor
  · rintro ⟨h1, rfl⟩
    have hw : i < w.length := by omega
    rw [List.getElem?_eq_getElem hw] at h1
    refine ⟨by omega, w[i], ?_, h1⟩
    unfold seg
    rw [List.take_add_one, List.getElem?_eq_getElem hw, List.drop_append_of_le_length (by simp; omega), List.drop_eq_nil_of_le (by simp; omega)]
    rfl
  · rintro ⟨h1, b, h2, h3⟩
    have hl := seg_len w (i := i) hk
    rw [h2] at hl
    simp at hl
    have hk1 : k = i + 1 := by omega
    subst hk1
    have hw : i < w.length := by omega
    unfold seg at h2
    rw [List.take_add_one, List.getElem?_eq_getElem hw, List.drop_append_of_le_length (by simp; omega), List.drop_eq_nil_of_le (by simp; omega)] at h2
    simp at h2
    rw [List.getElem?_eq_getElem hw, h2]
    exact ⟨h3, rfl⟩

theorem lor_assoc (A B D : Lan) : lor (lor A B) D = lor A (lor B D) := lan_ext fun u => by simp [lor, or_assoc]

mutual
theorem Rl_sp (w : List Nat) : ∀ (n : Nd), formed n = true → Rlw w (sp w n) (Mt n)
  | .mk k s ps lo hi, h => by
    have hf : shapedB k s ps.length lo hi = true ∧ formedL ps = true := by rw [formed, Bool.and_eq_true] at h; exact h
    have e1 : sp w (.mk k s ps lo hi) = if k = 1 then byteR w s
      else if k = 3 then spAlt w ps (fun _ _ => false)
      else if k = 2 then spCat w ps idR
      else if k = 4 then
        thenN (pw (w.length + 1) idR (spHead w ps) lo.toNat) (pw (w.length + 1) idR (orR (spHead w ps) idR) (if hi = -1 then w.length + 1 else (hi - lo).toNat)) (w.length + 1)
      else idR := by funext i k; rw [sp]
    have e2 : Mt (.mk k s ps lo hi) = if k = 1 then fun u => ∃ b, u = [b] ∧ bitOf s b = true
      else if k = 3 then MtAlt ps
      else if k = 2 then MtCat ps
      else if k = 4 then Lt (MtHead ps) lo hi
      else eps := by funext u; rw [Mt]
    rw [e1, e2]
    by_cases k1 : k = 1
    · rw [if_pos k1, if_pos k1]; exact Rl_byte w s
    rw [if_neg k1, if_neg k1]
    by_cases k3 : k = 3
    · rw [if_pos k3, if_pos k3]
      have := Rl_alt w ps hf.2 (fun _ _ => false) (fun _ => False) (Rl_ff w)
      have h2 : lor (fun _ => False) (MtAlt ps) = MtAlt ps := lan_ext fun u => by simp [lor]
      rwa [h2] at this
    rw [if_neg k3, if_neg k3]
    by_cases k2 : k = 2
    · rw [if_pos k2, if_pos k2]
      have := Rl_cat w ps hf.2 idR eps (Rl_id w)
      rwa [eps_lcat] at this
    rw [if_neg k2, if_neg k2]
    by_cases k4 : k = 4
    · rw [if_pos k4, if_pos k4]
      have h1 := hf.1
      subst k4
      simp [shapedB] at h1
      exact Rl_times (Rl_head w ps hf.2) lo hi (by omega) (by omega)
    rw [if_neg k4, if_neg k4]
    exact Rl_id w
theorem Rl_alt (w : List Nat) : ∀ (ps : List Nd), formedL ps = true → ∀ (A : Nat → Nat → Bool) (N : Lan), Rlw w A N → Rlw w (spAlt w ps A) (lor N (MtAlt ps))
  | [], _, A, N, h => by
    have : lor N (MtAlt []) = N := lan_ext fun u => by simp [lor, MtAlt]
    rw [this, show spAlt w [] A = A by funext i k; rw [spAlt]]; exact h
  | p :: ps, hf, A, N, h => by
    rw [formedL, Bool.and_eq_true] at hf
    have := Rl_alt w ps hf.2 (orR A (sp w p)) (lor N (Mt p)) (Rl_or h (Rl_sp w p hf.1))
    rw [lor_assoc] at this
    rw [show spAlt w (p :: ps) A = spAlt w ps (orR A (sp w p)) by funext i k; rw [spAlt], show MtAlt (p :: ps) = lor (Mt p) (MtAlt ps) by funext u; rw [MtAlt]]
    exact this
theorem Rl_cat (w : List Nat) : ∀ (ps : List Nd), formedL ps = true → ∀ (A : Nat → Nat → Bool) (N : Lan), Rlw w A N → Rlw w (spCat w ps A) (lcat N (MtCat ps))
  | [], _, A, N, h => by
    rw [show MtCat [] = eps by funext u; rw [MtCat], lcat_eps, show spCat w [] A = A by funext i k; rw [spCat]]; exact h
  | p :: ps, hf, A, N, h => by
    rw [formedL, Bool.and_eq_true] at hf
    have := Rl_cat w ps hf.2 (thenN A (sp w p) (w.length + 1)) (lcat N (Mt p)) (Rl_then h (Rl_sp w p hf.1))
    rw [lcat_assoc] at this
    rw [show spCat w (p :: ps) A = spCat w ps (thenN A (sp w p) (w.length + 1)) by funext i k; rw [spCat], show MtCat (p :: ps) = lcat (Mt p) (MtCat ps) by funext u; rw [MtCat]]
    exact this
theorem Rl_head (w : List Nat) : ∀ (ps : List Nd), formedL ps = true → Rlw w (spHead w ps) (MtHead ps)
  | [], _ => by
    rw [show MtHead [] = eps by funext u; rw [MtHead], show spHead w [] = idR by funext i k; rw [spHead]]; exact Rl_id w
  | p :: ps, hf => by
    rw [formedL, Bool.and_eq_true] at hf
    rw [show MtHead (p :: ps) = Mt p by funext u; rw [MtHead], show spHead w (p :: ps) = sp w p by funext i k; rw [spHead]]
    exact Rl_sp w p hf.1
end

end Go.Proofs.Ytiadalheipbpcaa
