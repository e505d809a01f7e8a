import Derived.Test.YtiadalheipbpcaaT13
import Derived.Test.YtiadalheipbpcaaLf

/-
  What the arguments of the span laws read as.
-/
namespace Go.Proofs.Ytiadalheipbpcaa
set_option linter.all false

theorem wf_u64 {z : Int} (h : (Lit.int .u64 z).wf = true) : 0 ≤ z ∧ z < 18446744073709551616 := by
  simp [Lit.wf, IntKind.min, IntKind.max, IntKind.signed, IntKind.bits] at h; omega
theorem wf_u8 {z : Int} (h : (Lit.int .u8 z).wf = true) : 0 ≤ z ∧ z < 256 := by
  simp [Lit.wf, IntKind.min, IntKind.max, IntKind.signed, IntKind.bits] at h; omega
theorem wf_u16 {z : Int} (h : (Lit.int .u16 z).wf = true) : 0 ≤ z ∧ z ≤ 65535 := by
  simp [Lit.wf, IntKind.min, IntKind.max, IntKind.signed, IntKind.bits] at h; omega
theorem wf_u32 {z : Int} (h : (Lit.int .u32 z).wf = true) : 0 ≤ z ∧ z < 4294967296 := by
  simp [Lit.wf, IntKind.min, IntKind.max, IntKind.signed, IntKind.bits] at h; omega

theorem isv_int {P : Program} {k : IntKind} {t : TypeId} {n : Nat} {vs : List V} (hu : P.underlying t = some (.int k)) (h : isv P n t vs) : ∃ z, vs = [.i k z] ∧ (Lit.int k z).wf = true := by
  cases n with
  | zero => exact h.elim
  | succ n => simpa only [isv, hu] using h
theorem isv_bool {P : Program} {t : TypeId} {n : Nat} {vs : List V} (hu : P.underlying t = some .bool) (h : isv P n t vs) : ∃ b, vs = [.bo b] := by
  cases n with
  | zero => exact h.elim
  | succ n => simpa only [isv, hu] using h
theorem isv_slice {P : Program} {t e : TypeId} {n : Nat} {vs : List V} (hu : P.underlying t = some (.slice e)) (h : isv P n t vs) : ∃ es : List (List V), vs = [.sl es] ∧ es.length ≤ maxLen ∧ ∃ m, n = m + 1 ∧ ∀ c ∈ es, isv P m e c := by
  cases n with
  | zero => exact h.elim
  | succ n =>
    simp only [isv, hu] at h
    obtain ⟨es, h1, h2, h3⟩ := h
    exact ⟨es, h1, h2, n, rfl, h3⟩
theorem isv_array {P : Program} {t e : TypeId} {n k : Nat} {vs : List V} (hu : P.underlying t = some (.array k e)) (h : isv P n t vs) : ∃ ls : List (List V), vs = ls.flatten ∧ ls.length = k ∧ ∃ m, ∀ l ∈ ls, isv P m e l := by
  cases n with
  | zero => exact h.elim
  | succ n =>
    simp only [isv, hu] at h
    obtain ⟨es, h1, h2, h3⟩ := h
    exact ⟨es, h1, h2, n, h3⟩
theorem isv_struct {P : Program} {t : TypeId} {fs : Array Field} {n : Nat} {vs : List V} (hu : P.underlying t = some (.struct fs)) (h : isv P n t vs) : ∃ ls : List (List V), vs = ls.flatten ∧ ls.length = fs.toList.length ∧ ∃ m, n = m + 1 ∧ ∀ (j : Nat) f l, fs.toList[j]? = some f → ls[j]? = some l → isv P m f.type l := by
  cases n with
  | zero => exact h.elim
  | succ n =>
    simp only [isv, hu] at h
    obtain ⟨es, h1, h2, h3⟩ := h
    exact ⟨es, h1, h2, n, rfl, h3⟩

/-- an array of whole numbers -/
theorem isv_ints {P : Program} {t e : TypeId} {n k : Nat} {q : IntKind} {vs : List V} (hu : P.underlying t = some (.array k e)) (he : P.underlying e = some (.int q)) (h : isv P n t vs) : ∃ zs : List Int, vs = zs.map (V.i q) ∧ zs.length = k ∧ ∀ z ∈ zs, (Lit.int q z).wf = true := by
  obtain ⟨ls, rfl, hl, m, hm⟩ := isv_array hu h
  clear h hu
  induction ls generalizing k with
  | nil => exact ⟨[], rfl, by simpa using hl, by simp⟩
  | cons l ls ih =>
    obtain ⟨z, rfl, hz⟩ := isv_int he (hm l (by simp))
    obtain ⟨zs, h1, h2, h3⟩ := ih (k := ls.length) rfl (fun l hl => hm l (by simp [hl]))
    exact ⟨z :: zs, by simp [h1], by simp [h2] at hl ⊢; omega, fun y hy => by rcases List.mem_cons.1 hy with rfl | hy; exact hz; exact h3 y hy⟩

theorem isv_word {n : Nat} {vs : List V} (h : isv Try.prog n 28 vs) : ∃ w : List Nat, vs = [wordV w] ∧ (∀ b ∈ w, b < 256) ∧ w.length < 9223372036854775808 := by
  obtain ⟨es, rfl, hl, m, _, hm⟩ := isv_slice Try.underlying28 h
  have hl' : es.length < 9223372036854775808 := by simp [maxLen] at hl; omega
  clear h hl
  have : ∃ w : List Nat, es = w.map (fun b : Nat => [V.i .u8 (b : Int)]) ∧ (∀ b ∈ w, b < 256) := by
    clear hl'
    induction es with
    | nil => exact ⟨[], rfl, by simp⟩
    | cons c es ih =>
      obtain ⟨z, rfl, hz⟩ := isv_int Try.underlying5 (hm c (by simp))
      obtain ⟨w, h1, h2⟩ := ih fun c hc => hm c (by simp [hc])
      have := wf_u8 hz
      refine ⟨z.toNat :: w, ?_, fun b hb => ?_⟩
      · rw [h1, List.map_cons, Int.toNat_of_nonneg this.1]
      · rcases List.mem_cons.1 hb with rfl | hb; omega; exact h2 b hb
  obtain ⟨w, rfl, hw⟩ := this
  exact ⟨w, rfl, hw, by simpa using hl'⟩

theorem cels_of : ∀ (es : List (List V)), (∀ c ∈ es, ∃ nd : Nd, c = cel nd ∧ small nd) → ∃ ps : List Nd, es = ps.map cel ∧ ∀ p ∈ ps, small p := by
  intro es
  induction es with
  | nil => intro _; exact ⟨[], rfl, by simp⟩
  | cons c es ih2 =>
    intro h
    obtain ⟨nd, rfl, hnd⟩ := h c (by simp)
    obtain ⟨ps, rfl, hps⟩ := ih2 fun c hc => h c (by simp [hc])
    exact ⟨nd :: ps, rfl, fun p hp => by rcases List.mem_cons.1 hp with rfl | hp; exact hnd; exact hps p hp⟩

theorem isv_node : ∀ {n : Nat} {vs : List V}, isv Try.prog n 27 vs → ∃ nd : Nd, vs = cel nd ∧ small nd := by
  intro n
  induction n using Nat.strongRecOn with
  | _ n ih =>
    intro vs h
    obtain ⟨ls, rfl, hl, m, rfl, hm⟩ := isv_struct Try.underlying27 h
    match ls, hl with
    | [l0, l1, l2, l3, l4], _ =>
      obtain ⟨kd, rfl, _⟩ := isv_int Try.underlying3 (hm 0 _ l0 rfl rfl)
      obtain ⟨zs, rfl, hzl, hz⟩ := isv_ints Try.underlying24 Try.underlying22 (hm 1 _ l1 rfl rfl)
      obtain ⟨es, rfl, hel, m2, rfl, he⟩ := isv_slice Try.underlying25 (hm 2 _ l2 rfl rfl)
      obtain ⟨lo, rfl, _⟩ := isv_int Try.underlying2 (hm 3 _ l3 rfl rfl)
      obtain ⟨hi, rfl, _⟩ := isv_int Try.underlying2 (hm 4 _ l4 rfl rfl)
      match zs, hzl with
      | [z0, z1, z2, z3], _ =>
        have hps := cels_of es fun c hc => ih m2 (by omega) (he c hc)
        obtain ⟨ps, rfl, hps⟩ := hps
        have h0 := wf_u64 (hz z0 (by simp))
        have h1 := wf_u64 (hz z1 (by simp))
        have h2 := wf_u64 (hz z2 (by simp))
        have h3 := wf_u64 (hz z3 (by simp))
        refine ⟨.mk kd (fun j => if j = 0 then z0.toNat else if j = 1 then z1.toNat else if j = 2 then z2.toNat else z3.toNat) ps lo hi, ?_, ?_, ?_, (smallL_all ps).2 hps⟩
        · rw [cel_mk]
          simp [nd8, Int.toNat_of_nonneg h0.1, Int.toNat_of_nonneg h1.1, Int.toNat_of_nonneg h2.1, Int.toNat_of_nonneg h3.1]
        · intro j hj
          show (if j = 0 then z0.toNat else if j = 1 then z1.toNat else if j = 2 then z2.toNat else z3.toNat) < _
          split
          · omega
          · split
            · omega
            · split <;> omega
        · simp [maxLen] at hel; omega

theorem own : ownKnob Try.prog.godebug = none := by kernel_rfl
theorem laidOut : laidOutB Try.prog = true := by kernel_rfl
theorem mapsRow : mapsRowed Try.prog = true := by kernel_rfl
theorem slicesFull : ((List.range Try.prog.types.size).all fun t => match Try.prog.underlying t with | some (.slice e) => decide (0 < Try.prog.cellsOf e) | _ => true) = true := by kernel_rfl
theorem mixed : Try.prog.follows .mixedOrders = true := by kernel_rfl

theorem isA_node : isA Try.prog 27 = true := by kernel_rfl
theorem isA_word : isA Try.prog 28 = false := by kernel_rfl

end Go.Proofs.Ytiadalheipbpcaa
