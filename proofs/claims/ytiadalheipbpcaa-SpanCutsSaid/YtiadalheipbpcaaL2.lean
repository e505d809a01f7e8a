/-
  The span laws, plain.
-/
import Derived.Test.YtiadalheipbpcaaL1
import Derived.Test.YtiadalheipbpcaaT26
namespace Go.Proofs.Ytiadalheipbpcaa
set_option linter.all false

theorem isB_iff (w : List Nat) (n : Nd) : isB w n = true ↔ formed n = true ∧ w.length ≤ 200 ∧ Mt n w := by
  unfold isB
  by_cases hf : formed n = true
  · have := Rl_sp w n hf 0 w.length (by omega) (Nat.le_refl _)
    rw [seg_all] at this
    simp [hf, this]
  · simp [hf]

theorem formed_cat {n m : Nd} (hn : formed n = true) (hm : formed m = true) : formed (catN n m) = true := by
  simp [catN, formed, formedL, hn, hm, shapedB, emptyS, zS]
theorem formed_alt {n m : Nd} (hn : formed n = true) (hm : formed m = true) : formed (altN n m) = true := by
  simp [altN, formed, formedL, hn, hm, shapedB, emptyS, zS]
theorem formed_tim {n : Nd} (hn : formed n = true) {lo hi : Int} (h0 : 0 ≤ lo) (h1 : lo ≤ 2147483647) (h2 : hi = -1 ∨ lo ≤ hi ∧ hi ≤ 2147483647) : formed (timN n lo hi) = true := by
  simp [timN, formed, formedL, hn, shapedB, emptyS, zS]
  omega

theorem Mt_cat (n m : Nd) : Mt (catN n m) = lcat (Mt n) (Mt m) := by
  funext u
  rw [catN, Mt]
  simp [MtCat, lcat_eps]
theorem Mt_alt (n m : Nd) : Mt (altN n m) = lor (Mt n) (Mt m) := by
  funext u
  rw [altN, Mt]
  simp [MtAlt, lor]
theorem Mt_tim (n : Nd) (lo hi : Int) : Mt (timN n lo hi) = Lt (Mt n) lo hi := by
  funext u
  rw [timN, Mt]
  simp [MtHead]

theorem bothB_spec {n m : Nd} {w : List Nat} (h : bothB n m w = true) : w.length ≤ 16 ∧ formed n = true ∧ formed m = true := by
  simp [bothB] at h
  exact ⟨h.1.1.2, h.1.2, h.2⟩

theorem beq_of_iff {a b : Bool} (h : a = true ↔ b = true) : (a == b) = true := by
  cases a <;> cases b <;> simp_all

theorem cutsB_true (n m : Nd) (w : List Nat) : cutsB n m w = true := by
  unfold cutsB
  by_cases h : bothB n m w = true
  · obtain ⟨hl, hn, hm⟩ := bothB_spec h
    rw [h, Bool.not_true, Bool.false_or]
    apply beq_of_iff
    rw [isB_iff, Mt_cat]
    simp only [cutAny, List.any_eq_true, List.mem_range, Bool.and_eq_true, isB_iff]
    constructor
    · rintro ⟨_, _, x, y, rfl, hx, hy⟩
      refine ⟨x.length, by simp; omega, ⟨hn, by simp at hl ⊢; omega, by simpa using hx⟩, hm, by simp at hl ⊢; omega, by simpa using hy⟩
    · rintro ⟨i, hi, ⟨_, _, hx⟩, _, _, hy⟩
      exact ⟨formed_cat hn hm, by omega, _, _, (List.take_append_drop i w).symm, hx, hy⟩
  · rw [Bool.not_eq_true] at h; rw [h]; rfl

theorem eithB_true (n m : Nd) (w : List Nat) : eithB n m w = true := by
  unfold eithB
  by_cases h : bothB n m w = true
  · obtain ⟨hl, hn, hm⟩ := bothB_spec h
    rw [h, Bool.not_true, Bool.false_or]
    apply beq_of_iff
    rw [Bool.or_eq_true, isB_iff, isB_iff, isB_iff, Mt_alt]
    constructor
    · rintro ⟨_, h1, h2 | h2⟩
      · exact .inl ⟨hn, h1, h2⟩
      · exact .inr ⟨hm, h1, h2⟩
    · rintro (⟨_, h1, h2⟩ | ⟨_, h1, h2⟩)
      · exact ⟨formed_alt hn hm, h1, .inl h2⟩
      · exact ⟨formed_alt hn hm, h1, .inr h2⟩
  · rw [Bool.not_eq_true] at h; rw [h]; rfl

theorem Lt_same (M : Lan) {a : Int} (h : 0 ≤ a) : Lt M a a = Pw M a.toNat := lan_ext fun u => by
  constructor
  · rintro ⟨m, h1, h2, h3⟩
    have : m = a.toNat := by omega
    rwa [← this]
  · intro h1
    exact ⟨a.toNat, by omega, .inr (by omega), h1⟩

theorem timesB_true (n : Nd) (w : List Nat) (a b : Int) (ha : 0 ≤ a) (ha' : a < 1000000000) (hb : 0 ≤ b) (hb' : b < 1000000000) : timesB n w a b = true := by
  unfold timesB
  by_cases h : bothB n n w = true
  · by_cases h12 : w.length ≤ 12
    · obtain ⟨hl, hn, _⟩ := bothB_spec h
      rw [h, decide_eq_true h12, Bool.and_true, Bool.not_true, Bool.false_or]
      apply beq_of_iff
      have f1 := formed_tim hn (lo := a + b) (hi := a + b) (by omega) (by omega) (by omega)
      have f2 := formed_tim hn (lo := a) (hi := a) (by omega) (by omega) (by omega)
      have f3 := formed_tim hn (lo := b) (hi := b) (by omega) (by omega) (by omega)
      rw [isB_iff, isB_iff, Mt_cat, Mt_tim, Mt_tim, Mt_tim, Lt_same _ (by omega), Lt_same _ ha, Lt_same _ hb, f1, formed_cat f2 f3, show (a + b).toNat = a.toNat + b.toNat by omega, Pw_add]
    · rw [decide_eq_false h12, Bool.and_false]; rfl
  · rw [Bool.not_eq_true] at h; rw [h]; rfl

theorem moreB_true (n : Nd) (w : List Nat) (a b c d : Int) (ha0 : 0 ≤ a) (ha1 : a < 256) (hb0 : 0 ≤ b) (hb1 : b < 256) (hc0 : 0 ≤ c) (hc1 : c < 256) (hd0 : 0 ≤ d) (hd1 : d < 256) : moreB n w a b c d = true := by
  unfold moreB
  by_cases h : bothB n n w = true
  · obtain ⟨hl, hn, _⟩ := bothB_spec h
    rw [h, Bool.not_true, Bool.false_or]
    by_cases hx : isB w (timN n a (a + b)) = true
    · rw [hx, Bool.not_true, Bool.false_or, Bool.and_eq_true, isB_iff, isB_iff, Mt_tim, Mt_tim]
      rw [isB_iff, Mt_tim] at hx
      obtain ⟨_, _, m, h1, h2, h3⟩ := hx
      have hL : 0 ≤ (a - if c < a then c else a) ∧ (a - if c < a then c else a) ≤ a := by split <;> omega
      generalize (a - if c < a then c else a) = L at hL
      exact ⟨⟨formed_tim hn (by omega) (by omega) (by omega), by omega, m, by omega, by omega, h3⟩, formed_tim hn (by omega) (by omega) (by omega), by omega, m, h1, .inl rfl, h3⟩
    · rw [Bool.not_eq_true] at hx; rw [hx]; rfl
  · rw [Bool.not_eq_true] at h; rw [h]; rfl


theorem Pw_rep (k : Nat) : ∀ m, Pw (Mt ndA) m (wrd k) ↔ m = k := by
  have h1 : ∀ u, Mt ndA u → u.length = 1 := by
    intro u h
    rw [ndA, Mt] at h
    simp only [if_true] at h
    obtain ⟨b, rfl, _⟩ := h
    rfl
  have h2 : Mt ndA [65] := by
    rw [ndA, Mt]
    simp only [if_true]
    exact ⟨65, rfl, by rfl⟩
  have h3 : ∀ m u, Pw (Mt ndA) m u → u.length = m := by
    intro m
    induction m with
    | zero => rintro u rfl; rfl
    | succ m ih => rintro u ⟨x, y, rfl, hx, hy⟩; simp [h1 x hx, ih y hy]; omega
  intro m
  constructor
  · intro h; have := h3 m _ h; rw [wrd_len] at this; exact this.symm
  · rintro rfl
    induction m with
    | zero => rfl
    | succ m ih => exact ⟨[65], wrd m, rfl, h2, ih⟩

theorem longB_true (l h : Int) (k : Nat) (h0 : 0 ≤ l) (h1 : l ≤ h) (h2 : h ≤ 65535) : longB l h k = true := by
  unfold longB
  split
  · rfl
  · apply beq_of_iff
    have := Rl_sp (wrd k) (lngV l h) (formed_lng h0 h1 h2) 0 k (by omega) (by rw [wrd_len]; omega)
    have hs := seg_all (wrd k)
    rw [wrd_len] at hs
    rw [this, hs, lngV, Mt_tim, Bool.and_eq_true, decide_eq_true_eq, decide_eq_true_eq]
    constructor
    · rintro ⟨_, m, h3, h4, h5⟩
      rw [Pw_rep] at h5
      omega
    · rintro ⟨h3, h4⟩
      exact ⟨by omega, k, h3, .inr h4, (Pw_rep k k).2 rfl⟩

end Go.Proofs.Ytiadalheipbpcaa
