/-
  The model's operations on memory do what the small machine says.
-/
import Derived.Test.YtiadalheipbpcaaSb
import Derived.Deep.AppendSrc
import Derived.Laws.CopyRow
namespace Go.Proofs.Ytiadalheipbpcaa
set_option linter.all false

/-- the model's memory and the store tell the same -/
structure Mem (c : Cx) (o : O) (w0 w : World) : Prop where
  hp : c.heap = w.heap
  os : w.os = w0.os
  out : w.output = w0.output
  inv : Inv c o

theorem oneC_eq (v : Value) : oneC v = v.oneCell' := by cases v <;> rfl

theorem cell?_eq (w : World) (b off : Nat) : w.cell? ⟨b, off, none⟩ = cellAt w.heap b off := by
  unfold World.cell? cellAt
  cases w.heap[b]? with
  | none => rfl
  | some o => cases o <;> rfl

/-- the cells that a value points to -/
theorem pointed {c : Cx} {o : O} (hi : Inv c o) {vx : V} {x : Value} (hx : Rep c vx x) {cs : List V} {j : Nat} (h : cellsAt o vx = some (cs, j)) :
    ∃ b off, x = .pointer (some ⟨b, off + j, none⟩) ∧ ∀ (k : Nat) v, cs[k]? = some v → ∃ y, cellAt c.heap b (off + k) = some y ∧ oneC y = true ∧ Rep c v y := by
  cases vx <;> simp only [cellsAt, reduceCtorEq] at h
  case pt id i j' =>
    cases ho : o id with
    | none => simp [ho] at h
    | some ob =>
      cases ob <;> simp only [ho, reduceCtorEq] at h
      rename_i s es
      obtain ⟨b, sz, hp, h1, h2, h3, arr, t, h4, h5, h6⟩ := hi.ob id _ ho
      cases hcs : es[i]? with
      | none => simp [hcs] at h
      | some cc =>
        simp only [hcs, Option.some.injEq, Prod.mk.injEq] at h
        obtain ⟨rfl, rfl⟩ := h
        cases hx with
        | ptd _ _ _ _ hn => rw [hp] at hn; cases hn
        | pt _ _ _ b2 sz2 hp2 hn =>
          rw [hp] at hp2
          cases hp2
          refine ⟨b, i * sz, rfl, fun k v hk => ?_⟩
          obtain ⟨y, hy, hy1, hy2⟩ := h6 i k cc v hcs hk
          exact ⟨y, by simp only [cellAt, h4]; exact hy, hy1, hy2⟩
  case ip cs' j' =>
    simp only [Option.some.injEq, Prod.mk.injEq] at h
    obtain ⟨rfl, rfl⟩ := h
    cases hx with
    | ip _ _ b off hb hd hx hh =>
      refine ⟨b, off, rfl, fun k v hk => ?_⟩
      obtain ⟨y, hy, hy1⟩ := hx k v hk
      exact ⟨y, hy, hy1, hh k v y hk hy⟩

theorem run_loadVar {P : Program} {c : Cx} {w : World} (hp : c.heap = w.heap) {t : TypeId} (hok : okT P t = true) {b off j : Nat} {cs : List V}
    (hc : ∀ (k : Nat) v, cs[k]? = some v → ∃ y, cellAt c.heap b (off + k) = some y ∧ oneC y = true ∧ Rep c v y) {v : V} (h : prt (isA P t) j (P.cellsOf t) cs = some v) :
    ∃ r, (loadVar t ⟨b, off + j, none⟩).run P w = .ok r w ∧ Rep c v r := by
  obtain ⟨hpos, ⟨d, hu⟩, i, hi⟩ := okT_some hok
  unfold loadVar
  simp only [Sem.run_bind, run_isAgg P w hu, Result.andThen_ok]
  unfold prt at h
  split at h
  · rename_i ha
    split at h
    · rename_i hle
      simp only [Option.some.injEq] at h
      subst h
      simp only [ha, if_true, Sem.run_bind, run_sizeOf w hi, Result.andThen_ok]
      have hget : ∀ k, k < P.cellsOf t → ∃ v, cs[j + k]? = some v := fun k hk => ⟨cs[j + k], List.getElem?_eq_getElem (by omega)⟩
      let f : Nat → Value := fun k => (cellAt c.heap b (off + (j + k))).getD undef
      have hl := run_loadCells (P := P) w ⟨b, off + j, none⟩ (P.cellsOf t) f (fun k hk => by
        obtain ⟨v, hv⟩ := hget k hk
        obtain ⟨y, hy, _, _⟩ := hc _ v hv
        rw [Addr.add_mk, cell?_eq, ← hp, Nat.add_assoc, hy]
        simp [f, hy])
      rw [hl]
      simp only [Result.andThen_ok, Sem.run_pure]
      have hx : ∀ (k : Nat) x, ((List.range (P.cellsOf t)).map f).toArray[k]? = some x → k < P.cellsOf t ∧ x = f k := by
        intro k x hx
        simp only [List.getElem?_toArray, List.getElem?_map, Option.map_eq_some_iff] at hx
        obtain ⟨m, hm, rfl⟩ := hx
        rcases Nat.lt_or_ge k (P.cellsOf t) with hk | hk
        · rw [List.getElem?_range hk] at hm; cases hm; exact ⟨hk, rfl⟩
        · rw [List.getElem?_eq_none (by simpa using hk)] at hm; cases hm
      refine ⟨_, rfl, .ag _ _ (by simp; omega) (fun k x hk => ?_) (fun k u x hu hk => ?_)⟩
      · obtain ⟨hk', rfl⟩ := hx k x hk
        obtain ⟨v, hv⟩ := hget k hk'
        obtain ⟨y, hy, hy1, _⟩ := hc _ v hv
        simp [f, hy, hy1]
      · obtain ⟨hk', rfl⟩ := hx k x hk
        simp only [List.getElem?_take, if_pos hk', List.getElem?_drop] at hu
        obtain ⟨y, hy, hy1, hy2⟩ := hc _ u hu
        simp only [f, hy, Option.getD_some]
        exact hy2
    · cases h
  · rename_i ha
    have ha : isA P t = false := by simpa using ha
    obtain ⟨y, hy, hy1, hy2⟩ := hc j v h
    refine ⟨y, ?_, hy2⟩
    rw [ha]
    simp only [Bool.false_eq_true, if_false, run_load]
    have : w.cell? ⟨b, off + j, none⟩ = some y := by rw [cell?_eq, ← hp]; exact hy
    rw [this]

/-- a value's block, where it is a map's -/
theorem mapped {c : Cx} {o : O} (hi : Inv c o) {id : Nat} {x : Value} (hx : Rep c (.mp id) x) {ents : List (Nat × V × V)} {clock : Nat} (ho : o id = some (.map ents clock)) :
    ∃ b, x = .map (some b) ∧ c.ph id = some (b, 0) ∧ RepO c b 0 (.map ents clock) := by
  obtain ⟨b, sz, hp, hr⟩ := hi.ob id _ ho
  obtain rfl : sz = 0 := hr.1
  cases hx with
  | mp _ b2 hp2 => rw [hp] at hp2; cases hp2; exact ⟨b, rfl, hp, hr⟩
  | mpd _ _ hn => rw [hp] at hn; cases hn

theorem lfs_ne {P : Program} {t : TypeId} {ks : List Lf} (h : lfs P LD t = some ks) (ha : isA P t = false) : ks ≠ [] := by
  intro h0; have := lfs_notA h ha; rw [h0] at this; simp at this

/-- a value whose cells are told, of its type's shape -/
theorem Rep.sh {P : Program} {t : TypeId} {c : Cx} {v : V} {x : Value} (h : Rep c v x) (ha : v.isAg = isA P t) (hne : v.isAg = false → v.cells ≠ []) : Sh P t x ∧ Reps c v.cells x.cells.toList := by
  cases hv : v.isAg with
  | true =>
    cases v <;> simp [V.isAg] at hv
    cases h with
    | ag cs xs hl h1 h =>
      refine ⟨?_, ⟨by simp [Value.cells, V.cells, hl], fun j u y hu hy => ?_⟩⟩
      · unfold Sh; rw [if_pos (by rw [← ha]; rfl)]; exact ⟨xs, rfl, h1⟩
      · simp only [V.cells, Value.cells, Array.getElem?_toList] at hu hy
        exact h j u y hu hy
  | false =>
    obtain ⟨h1, h2, h3, h4⟩ := h.cells (hne hv)
    refine ⟨?_, h1⟩
    unfold Sh
    rw [if_neg (by rw [← ha, hv]; simp)]
    exact h4 hv

theorem eqV_run {P : Program} {c : Cx} {t : TypeId} {ks : List Lf} (hl : lfs P LD t = some ks) {k k' : V} {x y : Value} (hx : Rep c k x) (hy : Rep c k' y) {p : Bool} (h : eqV (isA P t) ks k k' = some p) (w : World) :
    (Op.equal t x y).run P w = .ok p w ∧ Sh P t x ∧ x.cells.size = ks.length := by
  unfold eqV at h
  split at h
  · rename_i hc
    have ne : ∀ u : V, u.isAg = isA P t → (eqps ks k.cells k'.cells = some p → u = k ∨ u = k') → u.isAg = false → u.cells ≠ [] := by
      intro u hu hor hf h0
      have hks := lfs_ne hl (by rw [← hu]; exact hf)
      rcases hor h with rfl | rfl
      · rw [h0] at h; cases ks with
        | nil => exact hks rfl
        | cons => simp [eqps] at h
      · rw [h0] at h; cases ks with
        | nil => exact hks rfl
        | cons => cases k.cells <;> simp [eqps] at h
    obtain ⟨sx, rx⟩ := hx.sh (P := P) (t := t) hc.1 (ne k hc.1 (fun _ => .inl rfl))
    obtain ⟨sy, ry⟩ := hy.sh (P := P) (t := t) hc.2 (ne k' hc.2 (fun _ => .inr rfl))
    have hv := eqps_vEqs rx ry h
    have := equalIn_ok (P := P) LD t ks hl (10000 - LD) w x y p sx sy hv
    refine ⟨this, sx, ?_⟩
    have := (vEqs_len hv).1
    simpa using this
  · cases h

/-- a map's entries, side by side -/
def Ents (c : Cx) (ents : List (Nat × V × V)) (es : List MapEntry) : Prop :=
  es.length = ents.length ∧ ∀ (j : Nat) en, ents[j]? = some en → ∃ x : MapEntry, es[j]? = some x ∧ x.born = en.1 ∧ Rep c en.2.1 x.key ∧ Rep c en.2.2 x.val

theorem Ents.tail {c : Cx} {en : Nat × V × V} {ents : List (Nat × V × V)} {x : MapEntry} {es : List MapEntry} (h : Ents c (en :: ents) (x :: es)) : Ents c ents es :=
  ⟨by have := h.1; simpa using this, fun j en hj => by have := h.2 (j + 1) en (by simpa using hj); simpa using this⟩

theorem findAsking_ok {P : Program} {c : Cx} {kt : TypeId} {ks : List Lf} (hl : lfs P LD kt = some ks) {k : V} {x : Value} (hx : Rep c k x) (w : World) :
    ∀ (ents : List (Nat × V × V)) (es : List MapEntry) (i : Nat) (r : Option Nat), Ents c ents es → findE (isA P kt) ks k ents = some r →
      (Instr.findAsking kt x es i).run P w = .ok (r.bind fun j => (es[j]?).map fun y => (i + j, y.val)) w := by
  intro ents
  induction ents with
  | nil =>
    intro es i r he hf
    have : es = [] := List.eq_nil_of_length_eq_zero he.1
    subst this
    simp only [findE] at hf
    split at hf
    · cases hf; rfl
    · cases hf
  | cons en ents ih =>
    intro es i r he hf
    obtain ⟨st, k', v'⟩ := en
    cases es with
    | nil => have := he.1; simp at this
    | cons y es =>
      obtain ⟨y', hy, hb, hk, hv⟩ := he.2 0 (st, k', v') rfl
      simp only [List.getElem?_cons_zero, Option.some.injEq] at hy
      subst hy
      simp only [findE] at hf
      cases hq : eqV (isA P kt) ks k k' with
      | none => simp [hq] at hf
      | some p =>
        have hrun := (eqV_run hl hx hk hq w).1
        simp only [Instr.findAsking, Sem.run_bind, hrun, Result.andThen_ok]
        rw [hq] at hf
        cases p with
        | true =>
          simp only [Option.some.injEq] at hf
          subst hf
          simp
        | false =>
          simp only at hf
          cases hr : findE (isA P kt) ks k ents with
          | none => simp [hr] at hf
          | some r' =>
            have := ih es (i + 1) r' he.tail hr
            simp only [Bool.false_eq_true, if_false, this]
            rw [hr] at hf
            cases r' with
            | none => simp only [Option.some.injEq] at hf; subst hf; simp
            | some j =>
              simp only [Option.some.injEq] at hf; subst hf
              simp only [Option.bind_some, List.getElem?_cons_succ]
              congr 2
              funext z
              simp; omega

theorem findNow_ok {P : Program} {c : Cx} {kt : TypeId} {ks : List Lf} (hl : lfs P LD kt = some ks) {d : TypeDesc} (hu : P.underlying kt = some d) (ha : isA P kt = false) {k : V} {x : Value} (hx : Rep c k x) :
    ∀ (ents : List (Nat × V × V)) (es : List MapEntry) (i : Nat) (r : Option Nat), Ents c ents es → findE (isA P kt) ks k ents = some r →
      Instr.findNow d x es i = some (r.bind fun j => (es[j]?).map fun y => (i + j, y.val)) := by
  intro ents
  induction ents with
  | nil =>
    intro es i r he hf
    have : es = [] := List.eq_nil_of_length_eq_zero he.1
    subst this
    simp only [findE] at hf
    split at hf
    · cases hf; rfl
    · cases hf
  | cons en ents ih =>
    intro es i r he hf
    obtain ⟨st, k', v'⟩ := en
    cases es with
    | nil => have := he.1; simp at this
    | cons y es =>
      obtain ⟨y', hy, hb, hk, hv⟩ := he.2 0 (st, k', v') rfl
      simp only [List.getElem?_cons_zero, Option.some.injEq] at hy
      subst hy
      simp only [findE] at hf
      cases hq : eqV (isA P kt) ks k k' with
      | none => simp [hq] at hf
      | some p =>
        have same : Instr.sameNow d x y.key = some p := by
          unfold eqV at hq
          split at hq
          · rename_i hc
            rw [ha] at hc
            have hks : ks.length = 1 := lfs_notA hl ha
            have ne1 : k.cells ≠ [] := fun h0 => by rw [h0] at hq; cases ks <;> simp [eqps] at hq hks
            have ne2 : k'.cells ≠ [] := fun h0 => by rw [h0] at hq; cases ks <;> cases k.cells <;> simp [eqps] at hq hks
            obtain ⟨a1, a2, a3, a4⟩ := hx.cells ne1
            obtain ⟨b1, b2, b3, b4⟩ := hk.cells ne2
            have hv := eqps_vEqs a1 b1 hq
            rw [cells_oneC (a4 hc.1), cells_oneC (b4 hc.2)] at hv
            cases ks with
            | nil => simp at hks
            | cons l ks =>
              simp at hks
              subst hks
              simp only [vEqs] at hv
              cases hp : vEq l x y.key with
              | none => simp [hp] at hv
              | some q =>
                simp [hp] at hv
                subst hv
                unfold LD at hl
                simp only [lfs, hu] at hl
                cases d <;> simp [isA, hu] at ha <;> simp at hl
                · subst hl
                  obtain ⟨p, q, h1, h2, rfl⟩ := vEq_b hp
                  rw [h1, h2]; rfl
                · subst hl
                  obtain ⟨p, q, h1, h2, rfl⟩ := vEq_i hp
                  rw [h1, h2]; simp [Instr.sameNow]
                · subst hl
                  obtain ⟨p, q, h1, h2, rfl⟩ := vEq_s hp
                  rw [h1, h2]
                  simp only [Instr.sameNow]
                  rw [beq_toListBytes]
          · cases hq
        simp only [Instr.findNow, same]
        rw [hq] at hf
        cases p with
        | true =>
          simp only [Option.some.injEq] at hf
          subst hf
          simp
        | false =>
          simp only at hf
          cases hr : findE (isA P kt) ks k ents with
          | none => simp [hr] at hf
          | some r' =>
            have := ih es (i + 1) r' he.tail hr
            simp only [this]
            rw [hr] at hf
            cases r' with
            | none => simp only [Option.some.injEq] at hf; subst hf; simp
            | some j =>
              simp only [Option.some.injEq] at hf; subst hf
              simp only [Option.bind_some, List.getElem?_cons_succ]
              congr 2
              funext z
              simp; omega

theorem findKey_ok {P : Program} {c : Cx} {kt : TypeId} {ks : List Lf} (hl : lfs P LD kt = some ks) {k : V} {x : Value} (hx : Rep c k x) (w : World) {ents : List (Nat × V × V)} {es : List MapEntry} {r : Option Nat} (he : Ents c ents es)
    (hf : findE (isA P kt) ks k ents = some r) : (Instr.findKey kt x es).run P w = .ok (r.bind fun j => (es[j]?).map fun y => (j, y.val)) w := by
  obtain ⟨d, hu⟩ := lfs_info hl
  have ha := findAsking_ok hl hx w ents es 0 r he hf
  simp only [Nat.zero_add] at ha
  unfold Instr.findKey
  simp only [Sem.run_bind, run_underlying hu, Result.andThen_ok]
  cases hn : Instr.findNow d x es 0 with
  | none => exact ha
  | some q =>
    cases hA : isA P kt with
    | false =>
      have := findNow_ok hl hu hA hx ents es 0 r he hf
      simp only [Nat.zero_add] at this
      rw [hn] at this
      cases this
      rfl
    | true =>
      have hes : es = [] := by
        cases es with
        | nil => rfl
        | cons y es =>
          unfold isA at hA
          rw [hu] at hA
          cases d <;> simp at hA <;> simp [Instr.findNow, Instr.sameNow] at hn
      subst hes
      simp only [Instr.findNow, Option.some.injEq] at hn
      subst hn
      cases r <;> rfl

theorem RepO.ents {c : Cx} {b : Nat} {ents : List (Nat × V × V)} {clock : Nat} (h : RepO c b 0 (.map ents clock)) : ∃ es : Array MapEntry, c.heap[b]? = some (.map es clock) ∧ Ents c ents es.toList := by
  obtain ⟨_, es, h1, h2, h3, _⟩ := h
  exact ⟨es, h1, by rw [Array.length_toList, h2], fun j en hj => by obtain ⟨x, hx, hh⟩ := h3 j en hj; exact ⟨x, by rw [Array.getElem?_toList]; exact hx, hh⟩⟩

theorem findE_lt {kg : Bool} {ks : List Lf} {k : V} : ∀ {ents : List (Nat × V × V)} {j : Nat}, findE kg ks k ents = some (some j) → j < ents.length := by
  intro ents
  induction ents with
  | nil => intro j h; simp only [findE] at h; split at h <;> cases h
  | cons en ents ih =>
    intro j h
    obtain ⟨st, k', v'⟩ := en
    simp only [findE] at h
    split at h
    · cases h; simp
    · split at h
      · rename_i hh; cases h; have := ih hh; simp; omega
      · cases h
      · cases h
    · cases h

/-- the key is of its type's shape, whatever the map holds -/
theorem findE_sh {P : Program} {c : Cx} {kt : TypeId} {ks : List Lf} (hl : lfs P LD kt = some ks) {k : V} {x : Value} (hx : Rep c k x) {ents : List (Nat × V × V)} {es : List MapEntry} (he : Ents c ents es) {r : Option Nat}
    (hf : findE (isA P kt) ks k ents = some r) (w : World) (em : Bool) : (Instr.checkKey em 10000 kt x).run P w = .ok () w := by
  have key : Sh P kt x → x.cells.size = ks.length → (Instr.checkKey em 10000 kt x).run P w = .ok () w := by
    intro h1 h2
    have := checkKey_ok (P := P) em LD kt ks hl 9988
    rw [show 9988 + LD = 10000 by decide] at this
    exact this w x h1 h2
  cases ents with
  | nil =>
    simp only [findE] at hf
    split at hf
    · rename_i hc
      have ne : k.isAg = false → k.cells ≠ [] := by
        intro hf h0
        have := lfs_notA hl (by rw [← hc.1]; exact hf)
        rw [h0] at hc; simp at hc; omega
      obtain ⟨h1, h2⟩ := hx.sh (P := P) (t := kt) hc.1 ne
      refine key h1 ?_
      rw [← Array.length_toList, h2.len]; exact hc.2
    · cases hf
  | cons en ents =>
    obtain ⟨st, k', v'⟩ := en
    simp only [findE] at hf
    cases es with
    | nil => have := he.1; simp at this
    | cons y es =>
      obtain ⟨y', hy, hb, hk, hv⟩ := he.2 0 (st, k', v') rfl
      cases hq : eqV (isA P kt) ks k k' with
      | none => simp [hq] at hf
      | some p =>
        obtain ⟨_, h1, h2⟩ := eqV_run hl hx hk hq w
        exact key h1 h2

theorem zero1_rep (c : Cx) {P : Program} {t : TypeId} {z : V} (h : zero1 P t = some z) (w : World) : ∃ v, (zeroValue t).run P w = .ok v w ∧ Rep c z v := by
  unfold zero1 at h
  cases hi : P.info? t with
  | none => simp [hi] at h
  | some i =>
    cases hz : i.zero with
    | none => simp [hi, hz] at h
    | some v =>
      simp only [hi, hz, Option.some.injEq] at h
      subst h
      exact ⟨v, by simp [zeroValue, run_typeInfo w hi, hz], rep_zVs c v⟩

theorem run_lookup {P : Program} {c : Cx} {o : O} (w : World) (hp : c.heap = w.heap) (hi : Inv c o) {t kt et : TypeId} (hu : P.underlying t = some (.map kt et)) {ks : List Lf} (hl : lfs P LD kt = some ks) {z : V} (hz : zero1 P et = some z)
    {m k v : V} {xm xk : Value} (hm : Rep c m xm) (hk : Rep c k xk) (ok : Bool) (h : lkpV o (isA P kt) ks z ok m k = some v) : ∃ r, (Instr.lookup t xm xk ok).run P w = .ok r w ∧ Rep c v r := by
  obtain ⟨zv, hzr, hz2⟩ := zero1_rep c hz w
  unfold lkpV at h
  cases m <;> simp only [reduceCtorEq] at h
  case nm =>
    cases hm
    cases hf : findE (isA P kt) ks k [] with
    | none => simp [hf] at h
    | some r =>
      have hE : Ents c [] [] := ⟨rfl, fun j en hj => by simp at hj⟩
      have hck := findE_sh hl hk hE hf w true
      have hfk := findKey_ok hl hk w hE hf
      unfold Instr.lookup
      have he : ((#[] : Array MapEntry)).isEmpty = true := rfl
      simp only [Sem.run_bind, run_underlying hu, Result.andThen_ok, Sem.run_pure, he, hck, hfk]
      rw [hf] at h
      simp only [Option.some.injEq] at h
      subst h
      have : (r.bind fun j => (([] : List MapEntry)[j]?).map fun y => (j, y.val)) = none := by cases r <;> simp
      simp only [this, Sem.run_bind, hzr, Result.andThen_ok, Sem.run_pure]
      cases ok
      · exact ⟨_, rfl, hz2⟩
      · refine ⟨_, rfl, .tp _ _ rfl fun j v x hv hx => ?_⟩
        match j with
        | 0 => simp at hv hx; subst hv; subst hx; exact hz2
        | 1 => simp at hv hx; subst hv; subst hx; exact .bo _
        | j + 2 => simp at hv
  case mp id =>
    cases ho : o id with
    | none => simp [ho] at h
    | some ob =>
      cases ob <;> simp only [ho, reduceCtorEq] at h
      rename_i ents clock
      obtain ⟨b, rfl, hph, hrep⟩ := mapped hi hm ho
      obtain ⟨es, hes, hE⟩ := hrep.ents
      have hw : w.heap[b]? = some (.map es clock) := by rw [← hp]; exact hes
      have hget : (getObj b).run P w = .ok (.map es clock) w := by simp [getObj, Sem.run, hw]
      cases hf : findE (isA P kt) ks k ents with
      | none => simp [hf] at h
      | some r =>
        have hck := findE_sh hl hk hE hf w es.isEmpty
        have hfk := findKey_ok hl hk w hE hf
        unfold Instr.lookup
        simp only [Sem.run_bind, run_underlying hu, Result.andThen_ok, hget, Sem.run_pure, hck, hfk]
        rw [hf] at h
        cases r with
        | none =>
          simp only [Option.some.injEq] at h
          subst h
          simp only [Option.bind_none, Sem.run_bind, hzr, Result.andThen_ok, Sem.run_pure]
          cases ok
          · exact ⟨_, rfl, hz2⟩
          · refine ⟨_, rfl, .tp _ _ rfl fun j v x hv hx => ?_⟩
            match j with
            | 0 => simp at hv hx; subst hv; subst hx; exact hz2
            | 1 => simp at hv hx; subst hv; subst hx; exact .bo _
            | j + 2 => simp at hv
        | some j =>
          have hlt := findE_lt hf
          obtain ⟨x, hx, hb, hkx, hvx⟩ := hE.2 j _ (List.getElem?_eq_getElem hlt)
          simp only [List.getElem?_eq_getElem hlt, Option.map_some, Option.some.injEq] at h
          subst h
          simp only [Option.bind_some, hx, Option.map_some]
          cases ok
          · exact ⟨_, rfl, hvx⟩
          · refine ⟨_, rfl, .tp _ _ rfl fun j v x hv hx => ?_⟩
            match j with
            | 0 => simp at hv hx; subst hv; subst hx; exact hvx
            | 1 => simp at hv hx; subst hv; subst hx; exact .bo _
            | j + 2 => simp at hv

end Go.Proofs.Ytiadalheipbpcaa
