import Derived.Test.YtiadalheipbpcaaL1
import Derived.Test.YtiadalheipbpcaaK6

/-
  The simple tree has the same words: plain law.
-/
namespace Go.Proofs.Ytiadalheipbpcaa
set_option linter.all false

mutual
def Mb : Nd → Lan
  | .mk k s ps lo hi =>
    if k = 1 then fun u => ∃ b, b < 256 ∧ u = [b] ∧ bitOf s b = true
    else if k = 3 then MbAlt ps
    else if k = 2 then MbCat ps
    else if k = 4 then Lt (MbHead ps) lo hi
    else eps
def MbAlt : List Nd → Lan
  | [] => fun _ => False
  | p :: ps => lor (Mb p) (MbAlt ps)
def MbCat : List Nd → Lan
  | [] => eps
  | p :: ps => lcat (Mb p) (MbCat ps)
def MbHead : List Nd → Lan
  | [] => eps
  | p :: _ => Mb p
end

theorem Rb_byte (w : List Nat) (hw : ∀ b ∈ w, b < 256) (s : Nat → Nat) : Rlw w (byteR w s) (fun u => ∃ b, b < 256 ∧ u = [b] ∧ bitOf s b = true) := fun i k hi hk => by
  simp only [byteR, Bool.and_eq_true, beq_iff_eq]
  constructor
  · rintro ⟨h1, rfl⟩
    have hwl : i < w.length := by omega
    rw [List.getElem?_eq_getElem hwl] at h1
    refine ⟨by omega, w[i], hw _ (List.getElem_mem _), ?_, h1⟩
    unfold seg
    rw [List.take_add_one, List.getElem?_eq_getElem hwl, List.drop_append_of_le_length (by simp; omega), List.drop_eq_nil_of_le (by simp; omega)]
    rfl
  · rintro ⟨h1, b, _, h2, h3⟩
    have hl := seg_len w (i := i) hk
    rw [h2] at hl
    simp at hl
    have hk1 : k = i + 1 := by omega
    subst hk1
    have hw : i < w.length := by omega
    unfold seg at h2
    rw [List.take_add_one, List.getElem?_eq_getElem hw, List.drop_append_of_le_length (by simp; omega), List.drop_eq_nil_of_le (by simp; omega)] at h2
    simp at h2
    rw [List.getElem?_eq_getElem hw, h2]
    exact ⟨h3, rfl⟩

mutual
theorem Rb_sp (w : List Nat) (hw : ∀ b ∈ w, b < 256) : ∀ (n : Nd), formed n = true → Rlw w (sp w n) (Mb n)
  | .mk k s ps lo hi, h => by
    have hf : shapedB k s ps.length lo hi = true ∧ formedL ps = true := by rw [formed, Bool.and_eq_true] at h; exact h
    have e1 : sp w (.mk k s ps lo hi) = if k = 1 then byteR w s
      else if k = 3 then spAlt w ps (fun _ _ => false)
      else if k = 2 then spCat w ps idR
      else if k = 4 then
        thenN (pw (w.length + 1) idR (spHead w ps) lo.toNat) (pw (w.length + 1) idR (orR (spHead w ps) idR) (if hi = -1 then w.length + 1 else (hi - lo).toNat)) (w.length + 1)
      else idR := by funext i k; rw [sp]
    have e2 : Mb (.mk k s ps lo hi) = if k = 1 then fun u => ∃ b, b < 256 ∧ u = [b] ∧ bitOf s b = true
      else if k = 3 then MbAlt ps
      else if k = 2 then MbCat ps
      else if k = 4 then Lt (MbHead ps) lo hi
      else eps := by funext u; rw [Mb]
    rw [e1, e2]
    by_cases k1 : k = 1
    · rw [if_pos k1, if_pos k1]; exact Rb_byte w hw s
    rw [if_neg k1, if_neg k1]
    by_cases k3 : k = 3
    · rw [if_pos k3, if_pos k3]
      have := Rb_alt w hw ps hf.2 (fun _ _ => false) (fun _ => False) (Rl_ff w)
      have h2 : lor (fun _ => False) (MbAlt ps) = MbAlt ps := lan_ext fun u => by simp [lor]
      rwa [h2] at this
    rw [if_neg k3, if_neg k3]
    by_cases k2 : k = 2
    · rw [if_pos k2, if_pos k2]
      have := Rb_cat w hw ps hf.2 idR eps (Rl_id w)
      rwa [eps_lcat] at this
    rw [if_neg k2, if_neg k2]
    by_cases k4 : k = 4
    · rw [if_pos k4, if_pos k4]
      have h1 := hf.1
      subst k4
      simp [shapedB] at h1
      exact Rl_times (Rb_head w hw ps hf.2) lo hi (by omega) (by omega)
    rw [if_neg k4, if_neg k4]
    exact Rl_id w
theorem Rb_alt (w : List Nat) (hw : ∀ b ∈ w, b < 256) : ∀ (ps : List Nd), formedL ps = true → ∀ (A : Nat → Nat → Bool) (N : Lan), Rlw w A N → Rlw w (spAlt w ps A) (lor N (MbAlt ps))
  | [], _, A, N, h => by
    have : lor N (MbAlt []) = N := lan_ext fun u => by simp [lor, MbAlt]
    rw [this, show spAlt w [] A = A by funext i k; rw [spAlt]]; exact h
  | p :: ps, hf, A, N, h => by
    rw [formedL, Bool.and_eq_true] at hf
    have := Rb_alt w hw ps hf.2 (orR A (sp w p)) (lor N (Mb p)) (Rl_or h (Rb_sp w hw p hf.1))
    rw [lor_assoc] at this
    rw [show spAlt w (p :: ps) A = spAlt w ps (orR A (sp w p)) by funext i k; rw [spAlt], show MbAlt (p :: ps) = lor (Mb p) (MbAlt ps) by funext u; rw [MbAlt]]
    exact this
theorem Rb_cat (w : List Nat) (hw : ∀ b ∈ w, b < 256) : ∀ (ps : List Nd), formedL ps = true → ∀ (A : Nat → Nat → Bool) (N : Lan), Rlw w A N → Rlw w (spCat w ps A) (lcat N (MbCat ps))
  | [], _, A, N, h => by
    rw [show MbCat [] = eps by funext u; rw [MbCat], lcat_eps, show spCat w [] A = A by funext i k; rw [spCat]]; exact h
  | p :: ps, hf, A, N, h => by
    rw [formedL, Bool.and_eq_true] at hf
    have := Rb_cat w hw ps hf.2 (thenN A (sp w p) (w.length + 1)) (lcat N (Mb p)) (Rl_then h (Rb_sp w hw p hf.1))
    rw [lcat_assoc] at this
    rw [show spCat w (p :: ps) A = spCat w ps (thenN A (sp w p) (w.length + 1)) by funext i k; rw [spCat], show MbCat (p :: ps) = lcat (Mb p) (MbCat ps) by funext u; rw [MbCat]]
    exact this
theorem Rb_head (w : List Nat) (hw : ∀ b ∈ w, b < 256) : ∀ (ps : List Nd), formedL ps = true → Rlw w (spHead w ps) (MbHead ps)
  | [], _ => by
    rw [show MbHead [] = eps by funext u; rw [MbHead], show spHead w [] = idR by funext i k; rw [spHead]]; exact Rl_id w
  | p :: ps, hf => by
    rw [formedL, Bool.and_eq_true] at hf
    rw [show MbHead (p :: ps) = Mb p by funext u; rw [MbHead], show spHead w (p :: ps) = sp w p by funext i k; rw [spHead]]
    exact Rb_sp w hw p hf.1
end

def nolan : Lan := fun _ => False
theorem lcat_no (M : Lan) : lcat M nolan = nolan := lan_ext fun u => ⟨by rintro ⟨_, _, _, _, h⟩; exact h, fun h => h.elim⟩
theorem no_lcat (M : Lan) : lcat nolan M = nolan := lan_ext fun u => ⟨by rintro ⟨_, _, _, h, _⟩; exact h, fun h => h.elim⟩
theorem lor_no (M : Lan) : lor M nolan = M := lan_ext fun u => by simp [lor, nolan]
theorem no_lor (M : Lan) : lor nolan M = M := lan_ext fun u => by simp [lor, nolan]

theorem Mb_eq (k : Int) (s : Nat → Nat) (ps : List Nd) (lo hi : Int) : Mb (.mk k s ps lo hi) = if k = 1 then fun u => ∃ b, b < 256 ∧ u = [b] ∧ bitOf s b = true
      else if k = 3 then MbAlt ps
      else if k = 2 then MbCat ps
      else if k = 4 then Lt (MbHead ps) lo hi
      else eps := by funext u; rw [Mb]
theorem MbAlt_nil : MbAlt [] = nolan := by funext u; rw [MbAlt]; rfl
theorem MbAlt_cons (p : Nd) (ps : List Nd) : MbAlt (p :: ps) = lor (Mb p) (MbAlt ps) := by funext u; rw [MbAlt]
theorem MbCat_nil : MbCat [] = eps := by funext u; rw [MbCat]
theorem MbCat_cons (p : Nd) (ps : List Nd) : MbCat (p :: ps) = lcat (Mb p) (MbCat ps) := by funext u; rw [MbCat]
theorem MbHead_cons (p : Nd) (ps : List Nd) : MbHead (p :: ps) = Mb p := by funext u; rw [MbHead]
theorem MbAlt_app (l m : List Nd) : MbAlt (l ++ m) = lor (MbAlt l) (MbAlt m) := by
  induction l with
  | nil => rw [MbAlt_nil, no_lor]; rfl
  | cons p l ih => rw [List.cons_append, MbAlt_cons, MbAlt_cons, ih, lor_assoc]
theorem MbCat_app (l m : List Nd) : MbCat (l ++ m) = lcat (MbCat l) (MbCat m) := by
  induction l with
  | nil => rw [MbCat_nil, eps_lcat]; rfl
  | cons p l ih => rw [List.cons_append, MbCat_cons, MbCat_cons, ih, lcat_assoc]

theorem bit_none {s : Nat → Nat} (h : emptyS s = true) {b : Nat} (hb : b < 256) : bitOf s b = false := by
  simp [emptyS] at h
  have : s (b / 64) = 0 := by
    have : b / 64 = 0 ∨ b / 64 = 1 ∨ b / 64 = 2 ∨ b / 64 = 3 := by omega
    rcases this with h1 | h1 | h1 | h1 <;> rw [h1] <;> omega
  simp [bitOf, this]

theorem Pw_no {m : Nat} (h : 0 < m) : Pw nolan m = nolan := by
  cases m with
  | zero => omega
  | succ m => rw [Pw, no_lcat]

mutual
theorem Mb_void : ∀ (n : Nd), voidB n = true → Mb n = nolan
  | .mk k s ps lo hi, h => by
    rw [voidB] at h
    rw [Mb_eq]
    by_cases k1 : k = 1
    · rw [if_pos k1] at h ⊢
      exact lan_ext fun u => ⟨(by rintro ⟨b, hb, _, h2⟩; rw [bit_none h hb] at h2; cases h2), fun hh => hh.elim⟩
    rw [if_neg k1] at h ⊢
    by_cases k2 : k = 2
    · rw [if_pos k2] at h
      rw [if_neg (by omega), if_pos k2]
      exact MbCat_void ps h
    rw [if_neg k2] at h
    by_cases k3 : k = 3
    · rw [if_pos k3] at h ⊢
      exact MbAlt_void ps h
    rw [if_neg k3] at h ⊢
    rw [if_neg k2]
    by_cases k4 : k = 4
    · rw [if_pos k4] at h ⊢
      rw [Bool.and_eq_true, decide_eq_true_eq] at h
      have h2 := MbHead_void ps h.2
      rw [h2]
      exact lan_ext fun u => ⟨by rintro ⟨m, h3, _, h5⟩; rw [Pw_no (by omega)] at h5; exact h5, fun hh => hh.elim⟩
    · rw [if_neg k4] at h; cases h
theorem MbCat_void : ∀ (ps : List Nd), voidAny ps = true → MbCat ps = nolan
  | [], h => by rw [voidAny] at h; cases h
  | p :: ps, h => by
    rw [voidAny, Bool.or_eq_true] at h
    rw [MbCat_cons]
    rcases h with h | h
    · rw [Mb_void p h, no_lcat]
    · rw [MbCat_void ps h, lcat_no]
theorem MbAlt_void : ∀ (ps : List Nd), voidAll ps = true → MbAlt ps = nolan
  | [], _ => MbAlt_nil
  | p :: ps, h => by
    rw [voidAll, Bool.and_eq_true] at h
    rw [MbAlt_cons, Mb_void p h.1, MbAlt_void ps h.2, lor_no]
theorem MbHead_void : ∀ (ps : List Nd), voidHd ps = true → MbHead ps = nolan
  | [], h => by rw [voidHd] at h; cases h
  | p :: ps, h => by rw [voidHd] at h; rw [MbHead_cons, Mb_void p h]
end

theorem Pw_eps (m : Nat) : Pw eps m = eps := by
  induction m with
  | zero => rfl
  | succ m ih => rw [Pw, ih, eps_lcat]
theorem Pw_nil {M : Lan} (h : M []) (m : Nat) : Pw M m [] := by
  induction m with
  | zero => rfl
  | succ m ih => exact ⟨[], [], rfl, h, ih⟩
theorem Pw_more {M : Lan} (h : M []) {m : Nat} {u : List Nat} (hu : Pw M m u) (d : Nat) : Pw M (m + d) u := by
  induction d with
  | zero => exact hu
  | succ d ih => exact ⟨[], u, rfl, h, ih⟩

mutual
theorem Mb_null : ∀ (n : Nd), formed n = true → nullB n = true → Mb n []
  | .mk k s ps lo hi, hf, h => by
    have hf2 : shapedB k s ps.length lo hi = true ∧ formedL ps = true := by rw [formed, Bool.and_eq_true] at hf; exact hf
    rw [nullB] at h
    rw [Mb_eq]
    by_cases k1 : k = 1
    · rw [if_pos k1] at h; cases h
    rw [if_neg k1] at h ⊢
    by_cases k2 : k = 2
    · rw [if_pos k2] at h
      rw [if_neg (by omega), if_pos k2]
      exact MbCat_null ps hf2.2 h
    rw [if_neg k2] at h
    by_cases k3 : k = 3
    · rw [if_pos k3] at h ⊢
      exact MbAlt_null ps hf2.2 h
    rw [if_neg k3] at h ⊢
    rw [if_neg k2]
    by_cases k4 : k = 4
    · rw [if_pos k4] at h ⊢
      have h1 := hf2.1
      rw [k4] at h1
      obtain ⟨_, g2, _, g4⟩ := shape4 h1
      rw [Bool.or_eq_true, beq_iff_eq] at h
      rcases h with h | h
      · exact ⟨0, by omega, by omega, rfl⟩
      · exact ⟨lo.toNat, by omega, by omega, Pw_nil (MbHead_null ps hf2.2 h) _⟩
    · rw [if_neg k4]; rfl
theorem MbCat_null : ∀ (ps : List Nd), formedL ps = true → nullAll ps = true → MbCat ps []
  | [], _, _ => by rw [MbCat_nil]; rfl
  | p :: ps, hf, h => by
    rw [formedL, Bool.and_eq_true] at hf
    rw [nullAll, Bool.and_eq_true] at h
    rw [MbCat_cons]
    exact ⟨[], [], rfl, Mb_null p hf.1 h.1, MbCat_null ps hf.2 h.2⟩
theorem MbAlt_null : ∀ (ps : List Nd), formedL ps = true → nullAny ps = true → MbAlt ps []
  | [], _, h => by rw [nullAny] at h; cases h
  | p :: ps, hf, h => by
    rw [formedL, Bool.and_eq_true] at hf
    rw [nullAny, Bool.or_eq_true] at h
    rw [MbAlt_cons]
    rcases h with h | h
    · exact .inl (Mb_null p hf.1 h)
    · exact .inr (MbAlt_null ps hf.2 h)
theorem MbHead_null : ∀ (ps : List Nd), formedL ps = true → nullHd ps = true → MbHead ps []
  | [], _, h => by rw [nullHd] at h; cases h
  | p :: ps, hf, h => by
    rw [formedL, Bool.and_eq_true] at hf
    rw [nullHd] at h
    rw [MbHead_cons]; exact Mb_null p hf.1 h
end

theorem bit_some {s : Nat → Nat} (hs : W64 s) (h : emptyS s = false) : ∃ b, b < 256 ∧ bitOf s b = true := by
  have : ∃ j, j < 4 ∧ s j ≠ 0 := by
    simp [emptyS] at h
    by_cases h0 : s 0 = 0
    · by_cases h1 : s 1 = 0
      · by_cases h2 : s 2 = 0
        · exact ⟨3, by omega, h h0 h1 h2⟩
        · exact ⟨2, by omega, h2⟩
      · exact ⟨1, by omega, h1⟩
    · exact ⟨0, by omega, h0⟩
  obtain ⟨j, hj, hne⟩ := this
  obtain ⟨i, hi⟩ := Nat.exists_testBit_of_ne_zero hne
  have hi64 : i < 64 := by
    rcases Nat.lt_or_ge i 64 with h1 | h1
    · exact h1
    · have : s j < 2 ^ i := Nat.lt_of_lt_of_le (hs j hj) (by rw [show (18446744073709551616 : Nat) = 2 ^ 64 by rfl]; exact Nat.pow_le_pow_right (by omega) h1)
      rw [Nat.testBit_lt_two_pow this] at hi; cases hi
  refine ⟨64 * j + i, by omega, ?_⟩
  unfold bitOf
  rw [show (64 * j + i) / 64 = j by omega, show (64 * j + i) % 64 = i by omega]; exact hi

theorem Pw_ex {M : Lan} (h : ∃ u, M u) (m : Nat) : ∃ u, Pw M m u := by
  induction m with
  | zero => exact ⟨[], rfl⟩
  | succ m ih => obtain ⟨u, hu⟩ := h; obtain ⟨v, hv⟩ := ih; exact ⟨u ++ v, u, v, rfl, hu, hv⟩

mutual
theorem Mb_some : ∀ (n : Nd), small n → formed n = true → voidB n = false → ∃ u, Mb n u
  | .mk k s ps lo hi, hs, hf, h => by
    have hf2 : shapedB k s ps.length lo hi = true ∧ formedL ps = true := by rw [formed, Bool.and_eq_true] at hf; exact hf
    rw [voidB] at h
    rw [Mb_eq]
    by_cases k1 : k = 1
    · rw [if_pos k1] at h ⊢
      obtain ⟨b, h1, h2⟩ := bit_some hs.1 h
      exact ⟨[b], b, h1, rfl, h2⟩
    rw [if_neg k1] at h ⊢
    by_cases k2 : k = 2
    · rw [if_pos k2] at h
      rw [if_neg (by omega), if_pos k2]
      exact MbCat_some ps hs.2.2 hf2.2 h
    rw [if_neg k2] at h
    by_cases k3 : k = 3
    · rw [if_pos k3] at h ⊢
      exact MbAlt_some ps hs.2.2 hf2.2 h
    rw [if_neg k3] at h ⊢
    rw [if_neg k2]
    by_cases k4 : k = 4
    · rw [if_pos k4] at h ⊢
      have h1 := hf2.1
      rw [k4] at h1
      obtain ⟨g1, g2, _, g4⟩ := shape4 h1
      rw [Bool.and_eq_false_iff] at h
      rcases h with h | h
      · exact ⟨[], 0, by simp at h; omega, by omega, rfl⟩
      · obtain ⟨u, hu⟩ := Pw_ex (MbHead_some ps hs.2.2 hf2.2 (by omega) h) lo.toNat
        exact ⟨u, lo.toNat, by omega, by omega, hu⟩
    · rw [if_neg k4]; exact ⟨[], rfl⟩
theorem MbCat_some : ∀ (ps : List Nd), smallL ps → formedL ps = true → voidAny ps = false → ∃ u, MbCat ps u
  | [], _, _, _ => by rw [MbCat_nil]; exact ⟨[], rfl⟩
  | p :: ps, hs, hf, h => by
    rw [formedL, Bool.and_eq_true] at hf
    rw [voidAny, Bool.or_eq_false_iff] at h
    obtain ⟨u, hu⟩ := Mb_some p hs.1 hf.1 h.1
    obtain ⟨v, hv⟩ := MbCat_some ps hs.2 hf.2 h.2
    rw [MbCat_cons]
    exact ⟨u ++ v, u, v, rfl, hu, hv⟩
theorem MbAlt_some : ∀ (ps : List Nd), smallL ps → formedL ps = true → voidAll ps = false → ∃ u, MbAlt ps u
  | [], _, _, h => by rw [voidAll] at h; cases h
  | p :: ps, hs, hf, h => by
    rw [formedL, Bool.and_eq_true] at hf
    rw [voidAll, Bool.and_eq_false_iff] at h
    rw [MbAlt_cons]
    rcases h with h | h
    · obtain ⟨u, hu⟩ := Mb_some p hs.1 hf.1 h; exact ⟨u, .inl hu⟩
    · obtain ⟨u, hu⟩ := MbAlt_some ps hs.2 hf.2 h; exact ⟨u, .inr hu⟩
theorem MbHead_some : ∀ (ps : List Nd), smallL ps → formedL ps = true → ps.length = 1 → voidHd ps = false → ∃ u, MbHead ps u
  | [], _, _, h, _ => by simp at h
  | p :: ps, hs, hf, _, h => by
    rw [formedL, Bool.and_eq_true] at hf
    rw [voidHd] at h
    rw [MbHead_cons]; exact Mb_some p hs.1 hf.1 h
end

mutual
theorem Mb_same : ∀ (a b : Nd), sameN a b = true → Mb a = Mb b
  | .mk k s ps lo hi, .mk k' s' ps' lo' hi', h => by
    rw [sameN] at h
    simp only [Bool.and_eq_true, beq_iff_eq] at h
    obtain ⟨⟨⟨⟨h1, h2, h3, h4, h5⟩, h6⟩, h7⟩, h8⟩ := h
    subst h1; subst h6; subst h7
    obtain ⟨g1, g2, g3⟩ := Mb_sameL ps ps' h8
    rw [Mb_eq, Mb_eq, g1, g2, g3]
    have hb : (fun u => ∃ b, b < 256 ∧ u = [b] ∧ bitOf s b = true) = (fun u => ∃ b, b < 256 ∧ u = [b] ∧ bitOf s' b = true) := by
      funext u
      have : ∀ b, b < 256 → bitOf s b = bitOf s' b := by
        intro b hb
        unfold bitOf
        have : b / 64 = 0 ∨ b / 64 = 1 ∨ b / 64 = 2 ∨ b / 64 = 3 := by omega
        rcases this with e | e | e | e <;> rw [e] <;> simp [*]
      apply propext
      constructor
      · rintro ⟨b, h1, h2, h3⟩; exact ⟨b, h1, h2, by rw [← this b h1]; exact h3⟩
      · rintro ⟨b, h1, h2, h3⟩; exact ⟨b, h1, h2, by rw [this b h1]; exact h3⟩
    rw [hb]
theorem Mb_sameL : ∀ (ps qs : List Nd), sameL ps qs = true → MbAlt ps = MbAlt qs ∧ MbCat ps = MbCat qs ∧ MbHead ps = MbHead qs
  | [], [], _ => ⟨rfl, rfl, rfl⟩
  | [], _ :: _, h => by simp [sameL] at h
  | _ :: _, [], h => by simp [sameL] at h
  | p :: ps, q :: qs, h => by
    rw [sameL, Bool.and_eq_true] at h
    have h1 := Mb_same p q h.1
    obtain ⟨h2, h3, _⟩ := Mb_sameL ps qs h.2
    rw [MbAlt_cons, MbAlt_cons, MbCat_cons, MbCat_cons, MbHead_cons, MbHead_cons, h1, h2, h3]
    exact ⟨rfl, rfl, rfl⟩
end

theorem MbAlt_mem {q : Nd} {l : List Nd} (h : q ∈ l) {u : List Nat} (hu : Mb q u) : MbAlt l u := by
  induction l with
  | nil => cases h
  | cons p l ih =>
    rw [MbAlt_cons]
    rcases List.mem_cons.1 h with rfl | h
    · exact .inl hu
    · exact .inr (ih h)

mutual
theorem put1_cat : ∀ (l : List Nd) (p : Nd), MbCat (put1 2 l p) = lcat (MbCat l) (Mb p)
  | l, .mk k s ps lo hi => by
    rw [put1]
    split
    · rename_i h; subst h
      rw [putL_cat l ps, Mb_eq]; simp
    · split
      · rename_i h1 h2
        rw [Mb_eq, h2.2]; simp [lcat_eps]
      · rw [if_neg (by omega), MbCat_app, MbCat_cons, MbCat_nil, lcat_eps]
theorem putL_cat : ∀ (l ps : List Nd), MbCat (putL 2 l ps) = lcat (MbCat l) (MbCat ps)
  | l, [] => by rw [putL, MbCat_nil, lcat_eps]
  | l, p :: ps => by rw [putL, putL_cat (put1 2 l p) ps, put1_cat l p, MbCat_cons, lcat_assoc]
end

mutual
theorem put1_alt : ∀ (l : List Nd) (p : Nd), MbAlt (put1 3 l p) = lor (MbAlt l) (Mb p)
  | l, .mk k s ps lo hi => by
    rw [put1]
    split
    · rename_i h; subst h
      rw [putL_alt l ps, Mb_eq]; simp
    · rw [if_neg (by omega)]
      split
      · rename_i h2
        rw [Bool.or_eq_true] at h2
        rcases h2.2 with h3 | h3
        · rw [Mb_void _ h3, lor_no]
        · obtain ⟨q, hq, hsm⟩ := List.any_eq_true.1 h3
          have := Mb_same _ _ hsm
          exact lan_ext fun u => ⟨fun h => .inl h, by rintro (h | h); exact h; rw [this] at h; exact MbAlt_mem hq h⟩
      · rw [MbAlt_app, MbAlt_cons, MbAlt_nil, lor_no]
theorem putL_alt : ∀ (l ps : List Nd), MbAlt (putL 3 l ps) = lor (MbAlt l) (MbAlt ps)
  | l, [] => by rw [putL, MbAlt_nil, lor_no]
  | l, p :: ps => by rw [putL, putL_alt (put1 3 l p) ps, put1_alt l p, MbAlt_cons, lor_assoc]
end

theorem Mb_no : Mb noN = eps := by rw [noN, Mb_eq]; simp
theorem Mb_one2 (l : List Nd) : Mb (oneN 2 l) = MbCat l := by
  match l with
  | [] => rw [oneN, Mb_no, MbCat_nil]
  | [p] => rw [oneN, MbCat_cons, MbCat_nil, lcat_eps]
  | p :: q :: l => rw [oneN, Mb_eq] <;> simp
theorem Mb_one3 (l : List Nd) (h : l ≠ []) : Mb (oneN 3 l) = MbAlt l := by
  match l with
  | [] => exact absurd rfl h
  | [p] => rw [oneN, MbAlt_cons, MbAlt_nil, lor_no]
  | p :: q :: l => rw [oneN, Mb_eq] <;> simp

theorem Lt_zero (M : Lan) {lo : Int} (h0 : 0 ≤ lo) (h1 : lo ≤ 0) : Lt M lo 0 = eps := lan_ext fun u => by
  constructor
  · rintro ⟨m, h2, h3, h4⟩
    have : m = 0 := by omega
    subst this; exact h4
  · intro h; exact ⟨0, by omega, by omega, h⟩
theorem Lt_eps {lo hi : Int} (h0 : 0 ≤ lo) (h1 : hi = -1 ∨ lo ≤ hi) : Lt eps lo hi = eps := lan_ext fun u => by
  constructor
  · rintro ⟨m, h2, h3, h4⟩; rw [Pw_eps] at h4; exact h4
  · intro h; exact ⟨lo.toNat, by omega, by omega, by rw [Pw_eps]; exact h⟩
theorem Lt_no {hi : Int} (h1 : hi = -1 ∨ 0 ≤ hi) : Lt nolan 0 hi = eps := lan_ext fun u => by
  constructor
  · rintro ⟨m, h2, h3, h4⟩
    cases m with
    | zero => exact h4
    | succ m => rw [Pw_no (by omega)] at h4; exact h4.elim
  · intro h; exact ⟨0, by omega, by omega, h⟩
theorem Lt_one (M : Lan) : Lt M 1 1 = M := lan_ext fun u => by
  constructor
  · rintro ⟨m, h2, h3, h4⟩
    have : m = 1 := by omega
    subst this; rw [Pw_one] at h4; exact h4
  · intro h; exact ⟨1, by omega, by omega, by rw [Pw_one]; exact h⟩
theorem Lt_null {M : Lan} (h : M []) {lo hi : Int} (h0 : 0 ≤ lo) (h1 : hi = -1 ∨ lo ≤ hi) : Lt M 0 hi = Lt M lo hi := lan_ext fun u => by
  constructor
  · rintro ⟨m, h2, h3, h4⟩
    by_cases hm : lo ≤ m
    · exact ⟨m, hm, h3, h4⟩
    · exact ⟨m + (lo.toNat - m), by omega, by omega, Pw_more h h4 _⟩
  · rintro ⟨m, h2, h3, h4⟩; exact ⟨m, by omega, h3, h4⟩

theorem Mb_times {p : Nd} (hf : formed p = true) {lo hi : Int} (h0 : 0 ≤ lo) (h1 : hi = -1 ∨ lo ≤ hi) (hv : voidB p = true → lo ≤ 0) : Mb (timesN p lo hi) = Lt (Mb p) lo hi := by
  have hmk : Mb (.mk 4 zSet [p] (bif nullB p then 0 else lo) hi) = Lt (Mb p) lo hi := by
    rw [Mb_eq]
    simp only [show ¬ ((4 : Int) = 1) by omega, show ¬ ((4 : Int) = 3) by omega, show ¬ ((4 : Int) = 2) by omega, if_false, if_true, MbHead_cons]
    cases hn : nullB p with
    | true => exact Lt_null (Mb_null p hf hn) h0 h1
    | false => rfl
  unfold timesN
  cases hh : (hi == 0) with
  | true =>
    have hh : hi = 0 := eq_of_beq hh
    subst hh
    rw [cond_true, Mb_no, Lt_zero _ h0 (by omega)]
  | false =>
    rw [cond_false]
    cases hk : (p.kind == 0) with
    | true =>
      have hk : p.kind = 0 := eq_of_beq hk
      have : Mb p = eps := by cases p; simp only [Nd.kind] at hk; rw [Mb_eq, hk]; simp
      rw [cond_true, Mb_no, this, Lt_eps h0 h1]
    | false =>
      rw [cond_false]
      cases hvp : voidB p with
      | true =>
        have := hv hvp
        have h00 : lo = 0 := by omega
        rw [cond_true, Mb_no, Mb_void p hvp, h00, Lt_no (by omega)]
      | false =>
        rw [cond_false]
        cases h11 : (lo == 1) with
        | false => rw [cond_false]; exact hmk
        | true =>
          rw [cond_true]
          cases h12 : (hi == 1) with
          | false => rw [cond_false]; exact hmk
          | true =>
            have e1 : lo = 1 := eq_of_beq h11
            have e2 : hi = 1 := eq_of_beq h12
            rw [cond_true, e1, e2, Lt_one]

mutual
/-- THE SIMPLE TREE HAS THE SAME WORDS -/
theorem Mb_simple : ∀ (n : Nd), okN n → cntN n ≤ 900 → Mb (simpleN n) = Mb n
  | .mk k s ps lo hi, h, hc => by
    have hps := (okN_parts h).1
    have hf := h.2
    rw [formed, Bool.and_eq_true] at hf
    rw [cntN] at hc
    have hL := Mb_simpleL ps hps (by omega)
    have hsl := simpleL_ok ps hps (by omega)
    rw [simpleN_eq]
    split
    · rename_i hv
      rw [Mb_void _ hv]
      exact Mb_void _ (by rw [voidB]; simp [emptyS, zSet])
    · rename_i hv
      split
      · rename_i hk
        rcases hk with rfl | rfl
        · rw [Mb_one2, putL_cat, MbCat_nil, eps_lcat, hL.2.1, Mb_eq]; simp
        · have h1 : MbAlt (putL 3 [] (simpleL ps)) = MbAlt ps := by rw [putL_alt, MbAlt_nil, no_lor, hL.1]
          have h2 : Mb (.mk 3 s ps lo hi) = MbAlt ps := by rw [Mb_eq]; simp
          rw [h2, Mb_one3 _ ?_, h1]
          intro hnil
          rw [hnil, MbAlt_nil] at h1
          obtain ⟨u, hu⟩ := Mb_some _ h.1 h.2 (by simpa using hv)
          rw [h2, ← h1] at hu
          exact hu
      · split
        · rename_i h4
          subst h4
          obtain ⟨g1, g2, g3, g4⟩ := shape4 hf.1
          obtain ⟨p, rfl⟩ := List.length_eq_one_iff.1 g1
          simp only [cntL] at hc
          have h5 := Mb_simple p (hps p (by simp [Nd.parts])) (by omega)
          have h6 := hsl.1 (simpleN p) (by simp [simpleL])
          simp only [simpleH]
          rw [Mb_times h6.2 g2 (by omega) (fun hvs => ?_), h5, Mb_eq]
          · simp [MbHead_cons]
          · -- void: then the tree itself is
            have h7 := Mb_void _ hvs
            rw [h5] at h7
            cases hvp : voidB p with
            | false =>
              obtain ⟨u, hu⟩ := Mb_some p (hps p (by simp [Nd.parts])).1 (hps p (by simp [Nd.parts])).2 hvp
              rw [h7] at hu; exact hu.elim
            | true =>
              rw [voidB] at hv
              simp [voidHd, hvp] at hv
              exact hv
        · rfl
theorem Mb_simpleL : ∀ (ps : List Nd), (∀ p ∈ ps, okN p) → cntL ps ≤ 900 → MbAlt (simpleL ps) = MbAlt ps ∧ MbCat (simpleL ps) = MbCat ps ∧ True
  | [], _, _ => ⟨rfl, rfl, trivial⟩
  | p :: ps, h, hc => by
    rw [cntL] at hc
    have h1 := Mb_simple p (h p (by simp)) (by omega)
    obtain ⟨h2, h3, _⟩ := Mb_simpleL ps (fun q hq => h q (by simp [hq])) (by omega)
    rw [simpleL, MbAlt_cons, MbAlt_cons, MbCat_cons, MbCat_cons, h1, h2, h3]
    exact ⟨rfl, rfl, trivial⟩
end

end Go.Proofs.Ytiadalheipbpcaa
