/-
  '==' cell by cell, map keys, parts of aggregates: the model's own steps.
-/
import Derived.Test.YtiadalheipbpcaaSx
import Derived.Laws.StructEq
import Derived.ChangeKeysEq
namespace Go.Proofs.Ytiadalheipbpcaa
set_option linter.all false

def vEq : Lf → Value → Value → Option Bool
  | .b, .bool p, .bool q => some (p == q)
  | .i k, .int k1 a, .int k2 b => if k1 = k ∧ k2 = k then some (a == b) else none
  | .s, .string a, .string b => some (a.toList == b.toList)
  | _, _, _ => none

def vEqs : List Lf → List Value → List Value → Option Bool
  | [], [], [] => some true
  | l :: ls, x :: xs, y :: ys =>
    match vEq l x y, vEqs ls xs ys with
    | some p, some q => some (p && q)
    | _, _ => none
  | _, _, _ => none

theorem lfEq_vEq {c : Cx} {l : Lf} {v w : V} {x y : Value} {r : Bool} (hv : Rep c v x) (hw : Rep c w y) (h : lfEq l v w = some r) : vEq l x y = some r := by
  unfold lfEq at h
  split at h
  · cases hv; cases hw; exact h
  · cases hv; cases hw; exact h
  · cases hv; cases hw; exact h
  · cases h

theorem Reps.tail {c : Cx} {v : V} {vs : List V} {x : Value} {xs : List Value} (h : Reps c (v :: vs) (x :: xs)) : Reps c vs xs :=
  ⟨by have := h.len; simpa using this, fun j u y hu hy => h.rep (j + 1) u y (by simpa using hu) (by simpa using hy)⟩

theorem eqps_vEqs {c : Cx} : ∀ {ls : List Lf} {vs ws : List V} {xs ys : List Value} {r : Bool}, Reps c vs xs → Reps c ws ys → eqps ls vs ws = some r → vEqs ls xs ys = some r := by
  intro ls
  induction ls with
  | nil =>
    intro vs ws xs ys r hv hw h
    cases vs <;> cases ws <;> simp [eqps] at h
    have e1 := hv.len; have e2 := hw.len
    have e1 := List.eq_nil_of_length_eq_zero e1; have e2 := List.eq_nil_of_length_eq_zero e2
    subst e1; subst e2; subst h; rfl
  | cons l ls ih =>
    intro vs ws xs ys r hv hw h
    cases vs with
    | nil => simp [eqps] at h
    | cons v vs => cases ws with
      | nil => simp [eqps] at h
      | cons w ws =>
        cases xs with
        | nil => have := hv.len; simp at this
        | cons x xs => cases ys with
          | nil => have := hw.len; simp at this
          | cons y ys =>
            simp only [eqps] at h
            split at h
            · rename_i p q hp hq
              simp only [vEqs, lfEq_vEq (hv.rep 0 v x rfl rfl) (hw.rep 0 w y rfl rfl) hp, ih hv.tail hw.tail hq]
              exact h
            · cases h

theorem vEqs_append : ∀ {k1 k2 : List Lf} {xs ys : List Value} {r : Bool}, vEqs (k1 ++ k2) xs ys = some r →
    ∃ p q, vEqs k1 (xs.take k1.length) (ys.take k1.length) = some p ∧ vEqs k2 (xs.drop k1.length) (ys.drop k1.length) = some q ∧ r = (p && q) := by
  intro k1
  induction k1 with
  | nil => intro k2 xs ys r h; exact ⟨true, r, by simp [vEqs], by simpa using h, by simp⟩
  | cons l k1 ih =>
    intro k2 xs ys r h
    cases xs with
    | nil => simp [vEqs] at h
    | cons x xs => cases ys with
      | nil => simp [vEqs] at h
      | cons y ys =>
        simp only [List.cons_append, vEqs] at h
        split at h
        · rename_i p q hp hq
          obtain ⟨p', q', h1, h2, rfl⟩ := ih hq
          refine ⟨p && p', q', by simp [vEqs, hp, h1], by simpa using h2, ?_⟩
          simp only [Option.some.injEq] at h
          rw [← h, Bool.and_assoc]
        · cases h

theorem vEqs_len : ∀ {k : List Lf} {xs ys : List Value} {r : Bool}, vEqs k xs ys = some r → xs.length = k.length ∧ ys.length = k.length := by
  intro k
  induction k with
  | nil => intro xs ys r h; cases xs <;> cases ys <;> simp [vEqs] at h; simp
  | cons l k ih =>
    intro xs ys r h
    cases xs with
    | nil => simp [vEqs] at h
    | cons x xs => cases ys with
      | nil => simp [vEqs] at h
      | cons y ys =>
        simp only [vEqs] at h
        split at h
        · rename_i p q hp hq
          obtain ⟨h1, h2⟩ := ih hq
          simp [h1, h2]
        · cases h

/-- a value of the shape of its type -/
def Sh (P : Program) (t : TypeId) (x : Value) : Prop := if isA P t then ∃ cs : Array Value, x = .agg cs ∧ ∀ (j : Nat) y, cs[j]? = some y → oneC y = true else oneC x = true

theorem lfs_info {P : Program} {n : Nat} {t : TypeId} {ks : List Lf} (h : lfs P n t = some ks) : ∃ d, P.underlying t = some d := by
  cases n with
  | zero => cases h
  | succ n =>
    cases hu : P.underlying t with
    | none => simp [lfs, hu] at h
    | some d => exact ⟨d, rfl⟩

theorem info_some {P : Program} {t : TypeId} {d : TypeDesc} (h : P.underlying t = some d) : ∃ i, P.info? t = some i := by
  unfold Program.underlying at h
  cases hi : P.info? t with
  | none => simp [hi] at h
  | some i => exact ⟨i, rfl⟩

theorem run_isAgg (P : Program) (w : World) {t : TypeId} {d : TypeDesc} (h : P.underlying t = some d) : (isAgg t).run P w = .ok (isA P t) w := by
  unfold isAgg isA
  simp only [Sem.run_bind, run_underlying h, Result.andThen_ok, h]
  cases d <;> rfl

theorem lfs_notA {P : Program} {n : Nat} {t : TypeId} {ks : List Lf} (h : lfs P n t = some ks) (ha : isA P t = false) : ks.length = 1 := by
  cases n with
  | zero => cases h
  | succ n =>
    unfold isA at ha
    cases hu : P.underlying t with
    | none => simp [lfs, hu] at h
    | some d =>
      rw [hu] at ha
      cases d <;> simp [lfs, hu] at h ha <;> (subst h; rfl)

theorem cells_oneC {x : Value} (h : oneC x = true) : x.cells = #[x] := by
  cases x <;> simp [oneC] at h <;> rfl

theorem run_part {P : Program} (w : World) {t : TypeId} {d : TypeDesc} (hu : P.underlying t = some d) (hsz : isA P t = false → P.cellsOf t = 1) {xs : Array Value} (hx : ∀ (j : Nat) y, xs[j]? = some y → oneC y = true)
    {off : Nat} (hl : off + P.cellsOf t ≤ xs.size) : ∃ a, (part t xs off).run P w = .ok a w ∧ Sh P t a ∧ a.cells.toList = (xs.toList.drop off).take (P.cellsOf t) := by
  obtain ⟨i, hi⟩ := info_some hu
  unfold part
  simp only [Sem.run_bind, run_isAgg P w hu, Result.andThen_ok]
  cases ha : isA P t with
  | true =>
    simp only [if_true, Sem.run_bind, run_sizeOf w hi, Result.andThen_ok, Sem.run_pure]
    refine ⟨_, rfl, ?_, ?_⟩
    · unfold Sh; rw [if_pos ha]
      refine ⟨_, rfl, fun j y hj => ?_⟩
      rw [Array.getElem?_extract] at hj
      split at hj
      · exact hx _ _ hj
      · cases hj
    · show (xs.extract off (off + P.cellsOf t)).toList = _
      rw [Array.toList_extract]; simp [List.extract]
  | false =>
    have h1 := hsz ha
    have hlt : off < xs.size := by omega
    simp only [Bool.false_eq_true, if_false, Array.getElem?_eq_getElem hlt, Sem.run_pure]
    have ho := hx off xs[off] (Array.getElem?_eq_getElem hlt)
    refine ⟨_, rfl, ?_, ?_⟩
    · unfold Sh; rw [if_neg (by simp [ha])]; exact ho
    · rw [cells_oneC ho, h1]
      have : off < xs.toList.length := by simpa using hlt
      rw [List.drop_eq_getElem_cons this]
      simp

theorem lfsF_step {P : Program} {lf : TypeId → Option (List Lf)} {f : Field} {fs : List Field} {off : Nat} {ks : List Lf} (h : lfsF P lf (f :: fs) off = some ks) :
    f.name ≠ "_" ∧ f.offset = off ∧ ∃ m r, lf f.type = some m ∧ lfsF P lf fs (off + P.cellsOf f.type) = some r ∧ m.length = P.cellsOf f.type ∧ 0 < P.cellsOf f.type ∧ ks = m ++ r := by
  simp only [lfsF] at h
  split at h
  · rename_i hc
    refine ⟨hc.1, hc.2, ?_⟩
    split at h
    · rename_i m r hm hr
      split at h
      · rename_i hh; cases h; exact ⟨m, r, hm, hr, hh.1, hh.2, rfl⟩
      · cases h
    · cases h
  · cases h

theorem vEq_b {x y : Value} {r : Bool} (h : vEq .b x y = some r) : ∃ p q, x = .bool p ∧ y = .bool q ∧ r = (p == q) := by
  cases x <;> first | (simp [vEq] at h; done) | (cases y <;> first | (simp [vEq] at h; done) | exact ⟨_, _, rfl, rfl, by simpa [vEq] using h.symm⟩)
theorem vEq_s {x y : Value} {r : Bool} (h : vEq .s x y = some r) : ∃ p q, x = .string p ∧ y = .string q ∧ r = (p.toList == q.toList) := by
  cases x <;> first | (simp [vEq] at h; done) | (cases y <;> first | (simp [vEq] at h; done) | exact ⟨_, _, rfl, rfl, by simpa [vEq] using h.symm⟩)
theorem vEq_i {k : IntKind} {x y : Value} {r : Bool} (h : vEq (.i k) x y = some r) : ∃ p q, x = .int k p ∧ y = .int k q ∧ r = (p == q) := by
  cases x <;> first
    | (simp [vEq] at h; done)
    | (cases y <;> first
        | (simp [vEq] at h; done)
        | (simp only [vEq] at h
           split at h
           · rename_i hk; obtain ⟨rfl, rfl⟩ := hk; exact ⟨_, _, rfl, rfl, by simpa using h.symm⟩
           · cases h))

def EqOk (P : Program) (d : Nat) (t : TypeId) (ks : List Lf) : Prop := ∀ (w : World) (x y : Value) (r : Bool),
  Sh P t x → Sh P t y → vEqs ks x.cells.toList y.cells.toList = some r → (Op.equalIn d t x y).run P w = .ok r w

theorem eqFields_ok {P : Program} {n d : Nat} (ih : ∀ t ks, lfs P n t = some ks → EqOk P d t ks) {xs ys : Array Value}
    (hx : ∀ (j : Nat) y, xs[j]? = some y → oneC y = true) (hy : ∀ (j : Nat) y, ys[j]? = some y → oneC y = true) (w : World) :
    ∀ (l : List Field) (off : Nat) (ks : List Lf) (r : Bool), lfsF P (lfs P n) l off = some ks → vEqs ks (xs.toList.drop off) (ys.toList.drop off) = some r →
      (Op.eqFields d xs ys l).run P w = .ok r w := by
  intro l
  induction l with
  | nil =>
    intro off ks r h hr
    simp only [lfsF, Option.some.injEq] at h
    subst h
    have := vEqs_len hr
    have h1 := List.eq_nil_of_length_eq_zero this.1
    have h2 := List.eq_nil_of_length_eq_zero this.2
    rw [h1, h2] at hr
    simp only [vEqs, Option.some.injEq] at hr
    subst hr
    simp [Op.eqFields]
  | cons f l ihl =>
    intro off ks r h hr
    obtain ⟨h1, h2, m, q, hm, hq, hml, hpos, rfl⟩ := lfsF_step h
    obtain ⟨p1, p2, e1, e2, rfl⟩ := vEqs_append hr
    obtain ⟨dd, hud⟩ := lfs_info hm
    obtain ⟨len1, len2⟩ := vEqs_len hr
    simp only [List.length_append, List.length_drop, Array.length_toList] at len1 len2
    rw [hml] at e1 e2
    have hnz : isA P f.type = false → P.cellsOf f.type = 1 := fun hh => by rw [← hml]; exact lfs_notA hm hh
    obtain ⟨a, pa, sa, ca⟩ := run_part w hud hnz hx (off := off) (by omega)
    obtain ⟨b, pb, sb, cb⟩ := run_part w hud hnz hy (off := off) (by omega)
    have ee := ih f.type m hm w a b p1 sa sb (by rw [ca, cb]; exact e1)
    simp only [Op.eqFields, h1, ne_eq, not_false_eq_true, if_true, Sem.run_bind, h2, pa, pb, ee, Result.andThen_ok]
    cases p1 with
    | false => simp
    | true =>
      simp only [Bool.not_true, Bool.false_eq_true, if_false, Bool.true_and]
      rw [List.drop_drop, List.drop_drop] at e2
      exact ihl _ _ _ hq e2

theorem eqItems_ok {P : Program} {d : Nat} {e : TypeId} {m : List Lf} (ih : EqOk P d e m) {dd : TypeDesc} (hud : P.underlying e = some dd) (hml : m.length = P.cellsOf e) (hpos : 0 < P.cellsOf e)
    (hnz : isA P e = false → P.cellsOf e = 1) {xs ys : Array Value}
    (hx : ∀ (j : Nat) y, xs[j]? = some y → oneC y = true) (hy : ∀ (j : Nat) y, ys[j]? = some y → oneC y = true) (w : World) :
    ∀ (len s : Nat) (r : Bool), vEqs (List.replicate len m).flatten (xs.toList.drop (s * P.cellsOf e)) (ys.toList.drop (s * P.cellsOf e)) = some r →
      (Op.eqItems d e (P.cellsOf e) xs ys (List.range' s len)).run P w = .ok r w := by
  intro len
  induction len with
  | zero =>
    intro s r hr
    simp only [List.replicate_zero, List.flatten_nil] at hr
    have := vEqs_len hr
    have h1 := List.eq_nil_of_length_eq_zero this.1
    have h2 := List.eq_nil_of_length_eq_zero this.2
    rw [h1, h2] at hr
    simp only [vEqs, Option.some.injEq] at hr
    subst hr
    simp [Op.eqItems]
  | succ len ihl =>
    intro s r hr
    rw [List.replicate_succ, List.flatten_cons] at hr
    obtain ⟨p1, p2, e1, e2, rfl⟩ := vEqs_append hr
    obtain ⟨len1, len2⟩ := vEqs_len hr
    simp only [List.length_append, List.length_drop, Array.length_toList] at len1 len2
    rw [hml] at e1 e2
    obtain ⟨a, pa, sa, ca⟩ := run_part w hud hnz hx (off := s * P.cellsOf e) (by omega)
    obtain ⟨b, pb, sb, cb⟩ := run_part w hud hnz hy (off := s * P.cellsOf e) (by omega)
    have ee := ih w a b p1 sa sb (by rw [ca, cb]; exact e1)
    rw [List.range'_succ]
    simp only [Op.eqItems, Sem.run_bind, pa, pb, ee, Result.andThen_ok]
    cases p1 with
    | false => simp
    | true =>
      simp only [Bool.not_true, Bool.false_eq_true, if_false, Bool.true_and]
      rw [List.drop_drop, List.drop_drop] at e2
      refine ihl (s + 1) p2 ?_
      rw [Nat.add_mul, Nat.one_mul]
      exact e2

theorem equalIn_ok {P : Program} : ∀ (n : Nat) (t : TypeId) (ks : List Lf), lfs P n t = some ks → ∀ d, EqOk P (d + n) t ks := by
  intro n
  induction n with
  | zero => intro t ks h; cases h
  | succ n ih =>
    intro t ks h d w x y r hx hy hr
    show (Op.equalIn ((d + n) + 1) t x y).run P w = _
    cases hu : P.underlying t with
    | none => simp [lfs, hu] at h
    | some dd =>
      have sc : ∀ l, ks = [l] → isA P t = false → vEq l x y = some r := by
        intro l hk ha
        unfold Sh at hx hy
        rw [if_neg (by simp [ha])] at hx hy
        rw [hk, cells_oneC hx, cells_oneC hy] at hr
        simp only [vEqs] at hr
        cases hp : vEq l x y with
        | none => simp [hp] at hr
        | some p => simp [hp] at hr; rw [hr]
      cases dd <;> simp only [lfs, hu] at h <;> (first | (cases h; done) | skip)
      case bool =>
        simp only [Option.some.injEq] at h
        obtain ⟨p, q, rfl, rfl, rfl⟩ := vEq_b (sc _ h.symm (by simp [isA, hu]))
        exact run_equalIn_bool w _ _ _ _ hu
      case int k =>
        simp only [Option.some.injEq] at h
        obtain ⟨p, q, rfl, rfl, rfl⟩ := vEq_i (sc _ h.symm (by simp [isA, hu]))
        exact run_equalIn_int w _ _ _ _ _ _ hu
      case string =>
        simp only [Option.some.injEq] at h
        obtain ⟨p, q, rfl, rfl, rfl⟩ := vEq_s (sc _ h.symm (by simp [isA, hu]))
        exact run_equalIn_string w _ _ _ _ hu
      case struct fs =>
        split at h
        · cases h
        · rename_i hst
          have ha : isA P t = true := by simp [isA, hu]
          unfold Sh at hx hy
          rw [if_pos ha] at hx hy
          obtain ⟨xs, rfl, hx⟩ := hx
          obtain ⟨ys, rfl, hy⟩ := hy
          have hf : P.fieldsOf t = fs := by simp [Program.fieldsOf, hu]
          rw [run_equalIn_struct w _ _ _ _ (by rw [hf]; exact hu) (by simpa using hst), hf]
          exact eqFields_ok (fun t ks h => ih t ks h d) hx hy w _ 0 ks r h (by simpa [Value.cells] using hr)
      case array len e =>
        split at h
        · rename_i m hm
          split at h
          · rename_i hml
            simp only [Option.some.injEq] at h
            subst h
            have ha : isA P t = true := by simp [isA, hu]
            unfold Sh at hx hy
            rw [if_pos ha] at hx hy
            obtain ⟨xs, rfl, hx⟩ := hx
            obtain ⟨ys, rfl, hy⟩ := hy
            obtain ⟨dd, hud⟩ := lfs_info hm
            obtain ⟨i, hi⟩ := info_some hud
            rw [run_equalIn_array w _ _ _ hu hi, List.range_eq_range']
            exact eqItems_ok (ih e m hm d) hud hml.1 hml.2 (fun hh => by rw [← hml.1]; exact lfs_notA hm hh) hx hy w len 0 r (by simpa [Value.cells] using hr)
          · cases h
        · cases h

/-- a key is looked at, and let by -/
def CkOk (P : Program) (em : Bool) (d : Nat) (t : TypeId) (n : Nat) : Prop := ∀ (w : World) (x : Value),
  Sh P t x → x.cells.size = n → (Instr.checkKey em d t x).run P w = .ok () w

theorem checkKey_ok {P : Program} (em : Bool) : ∀ (n : Nat) (t : TypeId) (ks : List Lf), lfs P n t = some ks → ∀ d, CkOk P em (d + n) t ks.length := by
  intro n
  induction n with
  | zero => intro t ks h; cases h
  | succ n ih =>
    intro t ks h d w x hx hl
    show (Instr.checkKey em ((d + n) + 1) t x).run P w = _
    cases hu : P.underlying t with
    | none => simp [lfs, hu] at h
    | some dd =>
      rw [Instr.checkKey]
      simp only [Sem.run_bind, run_underlying hu, Result.andThen_ok]
      cases dd <;> simp only [lfs, hu] at h <;> (first | (cases h; done) | skip)
      case bool => rfl
      case int k => rfl
      case string => rfl
      case struct fs =>
        split at h
        · cases h
        · have ha : isA P t = true := by simp [isA, hu]
          unfold Sh at hx
          rw [if_pos ha] at hx
          obtain ⟨xs, rfl, hx⟩ := hx
          simp only [Sem.run_bind]
          rw [← Array.forIn_toList]
          replace hl : xs.size = 0 + ks.length := by simpa [Value.cells] using hl
          generalize fs.toList = l at h
          generalize (0 : Nat) = off at h hl
          clear hu
          induction l generalizing off ks with
          | nil => simp
          | cons f l ihl =>
            obtain ⟨h1, h2, m, q, hm, hq, hml, hpos, rfl⟩ := lfsF_step h
            obtain ⟨dd, hud⟩ := lfs_info hm
            have hnz : isA P f.type = false → P.cellsOf f.type = 1 := fun hh => by rw [← hml]; exact lfs_notA hm hh
            simp only [List.length_append] at hl
            obtain ⟨a, pa, sa, ca⟩ := run_part w hud hnz hx (off := off) (by omega)
            have hsz : a.cells.size = m.length := by
              rw [← Array.length_toList, ca, hml]; simp; omega
            have e1 := ih f.type m hm d w a sa hsz
            simp only [List.forIn_cons, Sem.run_bind, h1, ne_eq, not_false_eq_true, if_true, h2, pa, e1, Result.andThen_ok, Sem.run_pure]
            exact ihl q (off + P.cellsOf f.type) hq (by omega)
      case array len e =>
        split at h
        · rename_i m hm
          split at h
          · rename_i hml
            simp only [Option.some.injEq] at h
            subst h
            have ha : isA P t = true := by simp [isA, hu]
            unfold Sh at hx
            rw [if_pos ha] at hx
            obtain ⟨xs, rfl, hx⟩ := hx
            obtain ⟨dd, hud⟩ := lfs_info hm
            obtain ⟨i, hi⟩ := info_some hud
            have hnz : isA P e = false → P.cellsOf e = 1 := fun hh => by rw [← hml.1]; exact lfs_notA hm hh
            replace hl : xs.size = (0 + len) * P.cellsOf e := by
              have : xs.size = len * m.length := by simpa [Value.cells] using hl
              rw [this, hml.1, Nat.zero_add]
            simp only [Sem.run_bind]
            simp only [Std.Legacy.Range.forIn_eq_forIn_range', Std.Legacy.Range.size, Nat.sub_zero, Nat.add_one_sub_one, Nat.div_one]
            generalize (0 : Nat) = s at hl
            clear hu
            induction len generalizing s with
            | zero => simp
            | succ len ihl =>
              have hs : s * P.cellsOf e + P.cellsOf e ≤ xs.size := by
                rw [hl, show s + (len + 1) = (s + 1) + len by omega, Nat.add_mul, Nat.add_mul]; omega
              obtain ⟨a, pa, sa, ca⟩ := run_part w hud hnz hx (off := s * P.cellsOf e) hs
              have hsz : a.cells.size = m.length := by
                rw [← Array.length_toList, ca, hml.1]; simp; omega
              have e1 := ih e m hm d w a sa hsz
              rw [List.range'_succ]
              simp only [List.forIn_cons, Sem.run_bind, run_sizeOf w hi, pa, e1, Result.andThen_ok, Sem.run_pure]
              exact ihl (s + 1) (by rw [hl]; congr 1; omega)
          · cases h
        · cases h

end Go.Proofs.Ytiadalheipbpcaa
