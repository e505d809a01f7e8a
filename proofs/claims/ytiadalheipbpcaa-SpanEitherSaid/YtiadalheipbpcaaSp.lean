/-
  The model's quiet operations do what the small machine says.
-/
import Derived.Test.YtiadalheipbpcaaSq
import GoSem.Dispatch
namespace Go.Proofs.Ytiadalheipbpcaa
set_option linter.all false

theorem cod_eq {p : Bool} {j k : I} (h : cod p j = k) (hk : k ≠ .bad) : p = true ∧ j = k := by
  unfold cod at h
  split at h
  · rename_i hp; exact ⟨hp, h⟩
  · exact absurd h.symm hk

theorem cod_q {p : Bool} {j : I} {q : Q} (h : cod p j = .q q) : p = true ∧ j = .q q := cod_eq h (by simp)

theorem rep_zV (c : Cx) (v : Value) : Rep c (zV v) v := by
  unfold zV
  split <;> constructor

theorem rep_zVs (c : Cx) (v : Value) : Rep c (zVs v) v := by
  unfold zVs
  split
  · rename_i cs
    split
    · rename_i h
      refine .ag _ _ (by simp) (fun j x hx => List.all_eq_true.1 h x ?_) fun j u x hu hx => ?_
      · exact Array.mem_toList_iff.2 (Array.mem_of_getElem? hx)
      · simp only [List.getElem?_map, Array.getElem?_toList, hx, Option.map_some, Option.some.injEq] at hu
        subst hu
        exact rep_zV c x
    · exact .jk _
  · exact rep_zV c v

theorem rep_cO {c : Cx} {e : E} {a : Act} (h : ∀ t, Rep c (e t) (a.tmps.getD t undef)) (x : Operand) : Rep c ((cO x).ev e) (a.eval x) := by
  cases x with
  | tmp t => exact h t
  | const v => exact rep_zVs c v
  | global g => exact .jk _
  | func g => exact .fn g [] #[] rfl (fun j v x hv => by simp at hv)

theorem Rep.cells {c : Cx} {v : V} {x : Value} (h : Rep c v x) (hne : v.cells ≠ []) : Reps c v.cells x.cells.toList ∧ (∀ (j : Nat) y, x.cells[j]? = some y → oneC y = true) ∧
    (v.isAg = true → ∃ cs, x = .agg cs) ∧ (v.isAg = false → oneC x = true) := by
  have one : oneC x = true → v.cells = [v] → v.isAg = false → Reps c v.cells x.cells.toList ∧ (∀ (j : Nat) y, x.cells[j]? = some y → oneC y = true) ∧
      (v.isAg = true → ∃ cs, x = .agg cs) ∧ (v.isAg = false → oneC x = true) := by
    intro ho hv hn
    rw [hv, cells_oneC ho]
    refine ⟨⟨by simp, fun j u y hu hy => ?_⟩, fun j y hy => ?_, fun hh => by rw [hn] at hh; (cases hh), fun _ => ho⟩
    · cases j with
      | zero => simp at hu hy; subst hu; subst hy; exact h
      | succ j => simp at hu
    · cases j with
      | zero => simp at hy; subst hy; exact ho
      | succ j => simp at hy
  cases v
  case jk => simp [V.cells] at hne
  case tp => simp [V.cells] at hne
  case ag cs =>
    cases h with
    | ag _ xs hl h1 h =>
      refine ⟨⟨by simp [Value.cells, V.cells, hl], fun j u y hu hy => ?_⟩, h1, fun _ => ⟨xs, rfl⟩, fun hh => by simp [V.isAg] at hh⟩
      simp only [V.cells, Value.cells, Array.getElem?_toList] at hu hy
      exact h j u y hu hy
  all_goals
    refine one ?_ rfl rfl
    cases h <;> rfl


section
variable {P : Program} {c : Cx} (w : World)

theorem run_bin (o : BinOp) (t : TypeId) (X Y : Operand) {vx vy v : V} {x y : Value} (hx : Rep c vx x) (hy : Rep c vy y) (h : binV o vx vy = some v) :
    ∃ r, ((do eqGuard o t X Y x y; binOp o t x y) : Sem Value).run P w = .ok r w ∧ Rep c v r := by
  unfold binV at h
  split at h
  · rename_i k a k' b
    cases hx; cases hy
    have hg : (eqGuard o t X Y (.int k a) (.int k' b)).run P w = .ok () w := by cases o <;> rfl
    simp only [Sem.run_bind, hg, Result.andThen_ok]
    split at h
    · rename_i hs
      cases o <;> simp [isShift] at hs <;> simp only [shiftV] at h <;> (split at h) <;> (first | (cases h; done) | skip)
      · rename_i hb
        simp only [Option.some.injEq] at h; subst h
        exact ⟨_, by simp only [binOp, Op.shift, if_neg hb]; rfl, .i _ _⟩
      · rename_i hb
        simp only [Option.some.injEq] at h; subst h
        exact ⟨_, by simp only [binOp, Op.shift, if_neg hb]; rfl, .i _ _⟩
    · rename_i hs
      split at h
      · rename_i hk
        subst hk
        have hbin : binOp o t (.int k a) (.int k b) = match o with
            | .add | .sub | .mul => Op.intArith o k a b
            | .quo | .rem => Op.intDiv o k a b
            | .and | .or | .xor | .andNot => Op.intBits o k a b
            | _ => Op.intCmp o a b := by
          cases o <;> simp [isShift] at hs <;> simp [binOp]
        rw [hbin]
        cases o <;> simp [isShift] at hs
        case add => cases h; exact ⟨_, rfl, .i _ _⟩
        case sub => cases h; exact ⟨_, rfl, .i _ _⟩
        case mul => cases h; exact ⟨_, rfl, .i _ _⟩
        case quo =>
          simp only [arith] at h
          split at h
          · cases h
          · rename_i hb; cases h; exact ⟨_, by simp only [Op.intDiv, if_neg hb]; rfl, .i _ _⟩
        case rem =>
          simp only [arith] at h
          split at h
          · cases h
          · rename_i hb; cases h; exact ⟨_, by simp only [Op.intDiv, if_neg hb]; rfl, .i _ _⟩
        case and => cases h; exact ⟨_, rfl, .i _ _⟩
        case or => cases h; exact ⟨_, rfl, .i _ _⟩
        case xor => cases h; exact ⟨_, rfl, .i _ _⟩
        case andNot => cases h; exact ⟨_, rfl, .i _ _⟩
        case eql => cases h; exact ⟨_, rfl, .bo _⟩
        case neq => cases h; exact ⟨_, rfl, .bo _⟩
        case lss => cases h; exact ⟨_, rfl, .bo _⟩
        case leq => cases h; exact ⟨_, rfl, .bo _⟩
        case gtr => cases h; exact ⟨_, rfl, .bo _⟩
        case geq => cases h; exact ⟨_, rfl, .bo _⟩
      · cases h
  · rename_i a b
    cases hx; cases hy
    have hg : (eqGuard o t X Y (.string a) (.string b)).run P w = .ok () w := by cases o <;> rfl
    simp only [Sem.run_bind, hg, Result.andThen_ok]
    unfold strV at h
    split at h
    · split at h
      · rename_i hb
        simp only [Option.some.injEq] at h; subst h
        refine ⟨_, ?_, .s _⟩
        simp only [binOp, Op.stringOp]
        rw [if_neg]
        · rfl
        · simp [IntKind.max, IntKind.signed, IntKind.bits]; omega
      · cases h
    · simp only [Option.some.injEq] at h; subst h; exact ⟨_, rfl, .bo _⟩
    · simp only [Option.some.injEq] at h; subst h; exact ⟨_, rfl, .bo _⟩
    · cases h
  · cases h

theorem run_eqb (neg : Bool) (t : TypeId) (X Y : Operand) (hu : P.underlying t = some .bool) {vx vy v : V} {x y : Value} (hx : Rep c vx x) (hy : Rep c vy y) (h : eqbV neg vx vy = some v) :
    ∃ r, ((do eqGuard (if neg then .neq else .eql) t X Y x y; binOp (if neg then .neq else .eql) t x y) : Sem Value).run P w = .ok r w ∧ Rep c v r := by
  unfold eqbV at h
  split at h
  · rename_i p q
    cases hx; cases hy
    simp only [Option.some.injEq] at h; subst h
    have he := run_equalIn_bool (P := P) w 9999 t p q hu
    cases neg
    · refine ⟨_, ?_, .bo _⟩
      simp only [Bool.false_eq_true, if_false, Sem.run_bind, eqGuard, binOp, Op.equal, Op.maxDepth]
      simp [he]
    · refine ⟨_, ?_, .bo _⟩
      simp only [if_true, Sem.run_bind, eqGuard, binOp, Op.equal, Op.maxDepth]
      simp [he]
  · cases h

theorem run_eqp (neg : Bool) (t : TypeId) (X Y : Operand) {ks : List Lf} (hl : lfs P LD t = some ks) (ha : isA P t = true) (hgt : P.eqGuardType P.depth t = false) {vx vy v : V} {x y : Value}
    (hx : Rep c vx x) (hy : Rep c vy y) (h : (eqV true ks vx vy).map (fun p => V.bo (p != neg)) = some v) :
    ∃ r, ((do eqGuard (if neg then .neq else .eql) t X Y x y; binOp (if neg then .neq else .eql) t x y) : Sem Value).run P w = .ok r w ∧ Rep c v r := by
  simp only [Option.map_eq_some_iff] at h
  obtain ⟨p, hp, rfl⟩ := h
  unfold eqV at hp
  split at hp
  · rename_i hag
    cases vx <;> simp [V.isAg] at hag
    cases vy <;> simp at hag
    rename_i cs ds
    simp only [V.cells] at hp
    cases hx with
    | ag _ xs hl1 h1 hx =>
      cases hy with
      | ag _ ys hl2 h2 hy =>
        have hv : vEqs ks xs.toList ys.toList = some p := eqps_vEqs
          ⟨by simp [hl1], fun j u z hu hz => hx j u z hu (by rwa [Array.getElem?_toList] at hz)⟩
          ⟨by simp [hl2], fun j u z hu hz => hy j u z hu (by rwa [Array.getElem?_toList] at hz)⟩ hp
        have he := equalIn_ok (P := P) LD t ks hl (10000 - LD) w (.agg xs) (.agg ys) p (by unfold Sh; rw [if_pos ha]; exact ⟨_, rfl, h1⟩) (by unfold Sh; rw [if_pos ha]; exact ⟨_, rfl, h2⟩) hv
        have he : (Op.equalIn 10000 t (.agg xs) (.agg ys)).run P w = .ok p w := he
        have hg : ∀ o : BinOp, (eqGuard o t X Y (.agg xs) (.agg ys)).run P w = .ok () w := by
          intro o
          cases o <;> (first | rfl | simp [eqGuard, hgt])
        refine ⟨.bool (p != neg), ?_, .bo _⟩
        cases neg
        · simp only [Bool.false_eq_true, if_false, Sem.run_bind, hg, Result.andThen_ok, binOp, Op.equal, Op.maxDepth, he]
          simp
        · simp only [if_true, Sem.run_bind, hg, Result.andThen_ok, binOp, Op.equal, Op.maxDepth, he]
          simp
  · cases hp

theorem run_isn {o : O} (hi : Inv c o) (mp neg : Bool) (t : TypeId) (X Y : Operand) {d : TypeDesc} (hu : P.underlying t = some d) {vx v : V} {x y : Value} (hx : Rep c vx x)
    (hd : (mp = false ∧ ∃ e, d = .pointer e ∧ y = .pointer none) ∨ (mp = true ∧ ∃ k e, d = .map k e ∧ y = .map none)) (h : isnV o mp neg vx = some v) :
    ∃ r, ((do eqGuard (if neg then .neq else .eql) t X Y x y; binOp (if neg then .neq else .eql) t x y) : Sem Value).run P w = .ok r w ∧ Rep c v r := by
  rcases hd with ⟨rfl, e, rfl, rfl⟩ | ⟨rfl, k, e, rfl, rfl⟩
  · have key : ∀ a, x = .pointer a → v = .bo (a.isNone != neg) →
        ∃ r, ((do eqGuard (if neg then .neq else .eql) t X Y x (.pointer none); binOp (if neg then .neq else .eql) t x (.pointer none)) : Sem Value).run P w = .ok r w ∧ Rep c v r := by
      rintro a rfl rfl
      have he : (Op.equalIn 10000 t (.pointer a) (.pointer none)).run P w = .ok a.isNone w := by
        show (Op.equalIn (9999 + 1) _ _ _).run P w = _
        rw [Op.equalIn]
        simp only [Sem.run_bind, run_underlying hu, Result.andThen_ok]
        cases a <;> rfl
      have hg : ∀ o : BinOp, (eqGuard o t X Y (.pointer a) (.pointer none)).run P w = .ok () w := by intro o; cases o <;> rfl
      refine ⟨.bool (a.isNone != neg), ?_, .bo _⟩
      cases neg <;> simp [hg, binOp, Op.equal, Op.maxDepth, he]
    cases vx <;> simp only [isnV, Bool.false_eq_true, if_false, Option.map_eq_some_iff, Option.some.injEq, reduceCtorEq] at h
    case np => cases hx; exact key _ rfl (by rw [← h]; cases neg <;> rfl)
    case ip => cases hx; exact key _ rfl (by rw [← h]; cases neg <;> rfl)
    case pt id i j =>
      obtain ⟨ob, ho, rfl⟩ := h
      obtain ⟨b, sz, hp, _⟩ := hi.ob _ _ ho
      cases hx with
      | pt => exact key _ rfl (by cases neg <;> rfl)
      | ptd _ _ _ _ hn => rw [hp] at hn; cases hn
  · have key : ∀ a, x = .map a → v = .bo (a.isNone != neg) →
        ∃ r, ((do eqGuard (if neg then .neq else .eql) t X Y x (.map none); binOp (if neg then .neq else .eql) t x (.map none)) : Sem Value).run P w = .ok r w ∧ Rep c v r := by
      rintro a rfl rfl
      have he : (Op.equalIn 10000 t (.map a) (.map none)).run P w = .ok a.isNone w := by
        show (Op.equalIn (9999 + 1) _ _ _).run P w = _
        rw [Op.equalIn]
        simp only [Sem.run_bind, run_underlying hu, Result.andThen_ok]
        cases a <;> rfl
      have hg : ∀ o : BinOp, (eqGuard o t X Y (.map a) (.map none)).run P w = .ok () w := by intro o; cases o <;> rfl
      refine ⟨.bool (a.isNone != neg), ?_, .bo _⟩
      cases neg <;> simp [hg, binOp, Op.equal, Op.maxDepth, he]
    cases vx <;> simp only [isnV, if_true, Option.map_eq_some_iff, Option.some.injEq, reduceCtorEq] at h
    case nm => cases hx; exact key _ rfl (by rw [← h]; cases neg <;> rfl)
    case mp id =>
      obtain ⟨ob, ho, rfl⟩ := h
      obtain ⟨b, sz, hp, _⟩ := hi.ob _ _ ho
      cases hx with
      | mp => exact key _ rfl (by cases neg <;> rfl)
      | mpd _ _ hn => rw [hp] at hn; cases hn

theorem run_un (o : UnOp) {vx v : V} {x : Value} (hx : Rep c vx x) (h : unV o vx = some v) : ∃ r, (Op.unary o x).run P w = .ok r w ∧ Rep c v r := by
  cases vx <;> simp only [unV, reduceCtorEq] at h
  case bo p => cases hx; cases o <;> simp at h; subst h; exact ⟨_, rfl, .bo _⟩
  case i k n =>
    cases hx
    cases o <;> simp at h
    · subst h; exact ⟨_, rfl, by rw [show -n = 0 - n by omega]; exact .i _ _⟩
    · subst h; exact ⟨_, rfl, .i _ _⟩

theorem okT_some {t : TypeId} (h : okT P t = true) : 0 < P.cellsOf t ∧ (∃ d, P.underlying t = some d) ∧ ∃ i, P.info? t = some i := by
  unfold okT at h
  simp only [Bool.and_eq_true, decide_eq_true_eq, Option.isSome_iff_exists] at h
  obtain ⟨h1, d, hd⟩ := h
  exact ⟨h1, ⟨d, hd⟩, info_some hd⟩

theorem rep_prt {cs : List V} {xs : Array Value} (hl : xs.size = cs.length) (h1 : ∀ (j : Nat) x, xs[j]? = some x → oneC x = true)
    (h : ∀ (j : Nat) v x, cs[j]? = some v → xs[j]? = some x → Rep c v x) {t : TypeId} {d : TypeDesc} (hu : P.underlying t = some d) {off : Nat} {v : V} (hv : prt (isA P t) off (P.cellsOf t) cs = some v) :
    ∃ r, (part t xs off).run P w = .ok r w ∧ Rep c v r := by
  obtain ⟨i, hi⟩ := info_some hu
  unfold part
  simp only [Sem.run_bind, run_isAgg P w hu, Result.andThen_ok]
  unfold prt at hv
  split at hv
  · rename_i ha
    split at hv
    · rename_i hle
      simp only [Option.some.injEq] at hv
      subst hv
      simp only [ha, if_true, Sem.run_bind, run_sizeOf w hi, Result.andThen_ok, Sem.run_pure]
      refine ⟨_, rfl, .ag _ _ (by simp; omega) (fun j x hx => ?_) (fun j u x hu hx => ?_)⟩
      · rw [Array.getElem?_extract] at hx
        split at hx
        · exact h1 _ _ hx
        · cases hx
      · rw [Array.getElem?_extract] at hx
        simp only [List.getElem?_take, List.getElem?_drop] at hu
        split at hx
        · split at hu
          · exact h _ _ _ hu hx
          · cases hu
        · cases hx
    · cases hv
  · rename_i ha
    have ha : isA P t = false := by simpa using ha
    have hlt : off < xs.size := by
      rw [hl]
      rcases Nat.lt_or_ge off cs.length with h | h
      · exact h
      · rw [List.getElem?_eq_none h] at hv; cases hv
    simp only [ha, Bool.false_eq_true, if_false, Array.getElem?_eq_getElem hlt, Sem.run_pure]
    exact ⟨_, rfl, h off v _ hv (Array.getElem?_eq_getElem hlt)⟩

theorem asIntOf_run {v : V} {x : Value} (hx : Rep c v x) {k : IntKind} {n : Int} (h : v = .i k n) : (asIntOf x).run P w = .ok (k, n) w := by
  subst h; cases hx; rfl

theorem run_field {t : TypeId} {fs : Array Field} (hu : P.underlying t = some (.struct fs)) {j : Nat} {f : Field} (hf : fs[j]? = some f) (hok : okT P f.type = true) {vx v : V} {x : Value} (hx : Rep c vx x)
    (h : fldV f.offset (P.cellsOf f.type) (isA P f.type) vx = some v) : ∃ r, (Instr.field t x j).run P w = .ok r w ∧ Rep c v r := by
  cases vx <;> simp only [fldV, reduceCtorEq] at h
  cases hx with
  | ag _ xs hl h1 hx =>
    obtain ⟨_, ⟨d, hud⟩, _⟩ := okT_some hok
    obtain ⟨r, h1, h2⟩ := rep_prt w hl h1 hx hud h
    refine ⟨r, ?_, h2⟩
    unfold Instr.field
    simp only [Sem.run_bind, run_underlying hu, Result.andThen_ok, hf, asAgg]
    exact h1

theorem natV_rep {vx : V} {x : Value} (hx : Rep c vx x) {n : Nat} (h : natV vx = some n) : ∃ k, x = .int k n := by
  cases vx <;> simp only [natV, reduceCtorEq] at h
  cases hx
  split at h
  · rename_i h0
    simp only [Option.some.injEq] at h
    subst h
    exact ⟨_, by rw [Int.toNat_of_nonneg h0]⟩
  · cases h

theorem run_index_arr {t e : TypeId} {n : Nat} (hu : P.underlying t = some (.array n e)) (hok : okT P e = true) {vx vi v : V} {x i : Value} (hx : Rep c vx x) (hi : Rep c vi i)
    (h : ixaV n (P.cellsOf e) (isA P e) vx vi = some v) : ∃ r, (Instr.index t x i).run P w = .ok r w ∧ Rep c v r := by
  unfold ixaV at h
  split at h
  · rename_i cs k m
    split at h
    · rename_i hb
      cases hi
      obtain ⟨_, ⟨d, hud⟩, j, hj⟩ := okT_some hok
      cases hx with
      | ag _ xs hl h1 hx =>
        obtain ⟨r, e1, e2⟩ := rep_prt w hl h1 hx hud h
        refine ⟨r, ?_, e2⟩
        unfold Instr.index
        simp only [Sem.run_bind, asIntOf, Sem.run_pure, Result.andThen_ok, run_underlying hu]
        rw [if_pos hb]
        simp only [Sem.run_bind, run_sizeOf w hj, Result.andThen_ok]
        exact e1
    · cases h
  · cases h

theorem run_index_str {t : TypeId} (hu : P.underlying t = some .string) {vx vi v : V} {x i : Value} (hx : Rep c vx x) (hi : Rep c vi i)
    (h : ixsV vx vi = some v) : ∃ r, (Instr.index t x i).run P w = .ok r w ∧ Rep c v r := by
  unfold ixsV at h
  split at h
  · rename_i y k m
    split at h
    · rename_i hb
      cases hi
      cases hx
      simp only [Option.map_eq_some_iff] at h
      obtain ⟨b, hb', rfl⟩ := h
      refine ⟨_, ?_, .i _ _⟩
      unfold Instr.index
      simp only [Sem.run_bind, asIntOf, Sem.run_pure, Result.andThen_ok, run_underlying hu, if_pos hb, hb']
    · cases h
  · cases h

theorem run_extract {vx v : V} {x : Value} (hx : Rep c vx x) {j : Nat} (h : extV j vx = some v) : ∃ r, (Instr.extract x j).run P w = .ok r w ∧ Rep c v r := by
  cases vx <;> simp only [extV, reduceCtorEq] at h
  cases hx with
  | tp _ xs hl hx =>
    have hlt : j < xs.size := by
      rw [hl]
      rcases Nat.lt_or_ge j _ with h' | h'
      · exact h'
      · rw [List.getElem?_eq_none h'] at h; cases h
    refine ⟨xs[j], ?_, hx j v _ h (Array.getElem?_eq_getElem hlt)⟩
    simp only [Instr.extract, Array.getElem?_eq_getElem hlt, Sem.run_pure]

theorem Addr.add_mk (b o n : Nat) : (Addr.add ⟨b, o, none⟩ n) = ⟨b, o + n, none⟩ := by
  unfold Addr.add; split
  · subst_vars; rfl
  · rfl

theorem Addr.add_spot {a : Addr} (h : a.spot = none) (n : Nat) : (a.add n).spot = none := by
  unfold Addr.add; split
  · exact h
  · rfl

theorem rep_adr {off : Nat} {vx v : V} {x : Value} (hx : Rep c vx x) (h : adrV off vx = some v) :
    ∃ a : Addr, x = .pointer (some a) ∧ Rep c v (.pointer (some (a.add off))) := by
  cases vx <;> simp only [adrV, Option.some.injEq, reduceCtorEq] at h
  case pt id i j =>
    subst h
    cases hx with
    | pt _ _ _ b sz hp hn =>
      refine ⟨_, rfl, ?_⟩
      rw [Addr.add_mk, Nat.add_assoc]
      exact .pt _ _ _ _ _ hp hn
    | ptd _ _ _ ad hp hn ha => exact ⟨_, rfl, .ptd _ _ _ _ hp hn (Addr.add_spot ha _)⟩
  case ip cs j =>
    subst h
    cases hx with
    | ip _ _ b o hb hd hx h =>
      refine ⟨_, rfl, ?_⟩
      rw [Addr.add_mk, Nat.add_assoc]
      exact .ip _ _ _ _ hb hd hx h

theorem run_fieldAt {t : TypeId} {fs : Array Field} (hu : P.underlying t = some (.struct fs)) {j : Nat} {f : Field} (hf : fs[j]? = some f) (hok : okT P f.type = true) {vx v : V} {x : Value} (hx : Rep c vx x)
    (h : adrV f.offset vx = some v) : ∃ r, (Instr.fieldAt t x j).run P w = .ok r w ∧ Rep c v r := by
  obtain ⟨hpos, _, i, hi⟩ := okT_some hok
  obtain ⟨a, rfl, hr⟩ := rep_adr hx h
  refine ⟨_, ?_, hr⟩
  unfold Instr.fieldAt
  simp only [Sem.run_bind, run_underlying hu, Result.andThen_ok, hf, Instr.sureAddr, Sem.run_pure, fieldPlace, run_sizeOf w hi]
  rw [if_neg (by omega)]
  simp

theorem run_indexAt_arr {t e : TypeId} {n : Nat} (hu : P.underlying t = some (.array n e)) (hok : okT P e = true) {vx vi v : V} {x i : Value} (hx : Rep c vx x) (hi : Rep c vi i)
    (h : ixqV n (P.cellsOf e) vx vi = some v) : ∃ r, (Instr.indexAt t x i).run P w = .ok r w ∧ Rep c v r := by
  unfold ixqV at h
  split at h
  · rename_i k m
    split at h
    · rename_i hb
      cases hi
      obtain ⟨_, _, j, hj⟩ := okT_some hok
      obtain ⟨a, rfl, hr⟩ := rep_adr hx h
      refine ⟨_, ?_, hr⟩
      unfold Instr.indexAt
      simp only [Sem.run_bind, asIntOf, Sem.run_pure, Result.andThen_ok, run_underlying hu, Instr.sureAddr]
      rw [if_pos hb]
      simp only [Sem.run_bind, run_sizeOf w hj, Result.andThen_ok, Sem.run_pure]
    · cases h
  · cases h

theorem run_indexAt_sl {t e : TypeId} (hu : P.underlying t = some (.slice e)) (hok : okT P e = true) {vx vi v : V} {x i : Value} (hx : Rep c vx x) (hi : Rep c vi i)
    (h : ixpV (P.cellsOf e) vx vi = some v) : ∃ r, (Instr.indexAt t x i).run P w = .ok r w ∧ Rep c v r := by
  obtain ⟨hpos, _, j, hj⟩ := okT_some hok
  have key : ∀ (ad : Addr) (len cap : Nat) (k : IntKind) (m : Int), i = .int k m → x = .slice (some ad) len cap → 0 ≤ m ∧ m < len → Rep c v (.pointer (some (ad.add (m.toNat * P.cellsOf e)))) →
      ∃ r, (Instr.indexAt t x i).run P w = .ok r w ∧ Rep c v r := by
    rintro ad len cap k m rfl rfl hb hr
    refine ⟨_, ?_, hr⟩
    unfold Instr.indexAt
    simp only [Sem.run_bind, asIntOf, Sem.run_pure, Result.andThen_ok, run_underlying hu]
    rw [if_pos hb]
    simp only [Sem.run_bind, run_sizeOf w hj, Result.andThen_ok, Sem.run_pure]
  unfold ixpV at h
  split at h
  · rename_i id sz' off len k m
    split at h
    · rename_i hb
      obtain ⟨rfl, h0, h1⟩ := hb
      simp only [Option.some.injEq] at h
      subst h
      cases hi
      cases hx with
      | rw0 => omega
      | rw _ _ _ _ b cap hp hn hc hf =>
        refine key _ _ _ _ _ rfl rfl ⟨h0, h1⟩ ?_
        rw [Addr.add_mk, ← Nat.add_mul, ← Nat.add_zero (_ * _)]
        exact .pt _ _ _ _ _ hp hn
      | rwd _ _ _ _ cap a hp hn hc ha =>
        obtain ⟨ad, rfl, hs⟩ := ha (by omega)
        exact key _ _ _ _ _ rfl rfl ⟨h0, h1⟩ (.ptd _ _ _ _ hp hn (Addr.add_spot hs _))
    · cases h
  · rename_i id q j' len k m
    split at h
    · rename_i hb
      obtain ⟨hsz, h0, h1⟩ := hb
      simp only [Option.some.injEq] at h
      subst h
      cases hi
      cases hx with
      | ra0 => omega
      | ra _ _ _ _ b sz cap hp hn hc =>
        refine key _ _ _ _ _ rfl rfl ⟨h0, h1⟩ ?_
        rw [Addr.add_mk, hsz, Nat.mul_one, Nat.add_assoc]
        exact .pt _ _ _ _ _ hp hn
      | rad _ _ _ _ cap a hp hn hc ha =>
        obtain ⟨ad, rfl, hs⟩ := ha (by omega)
        exact key _ _ _ _ _ rfl rfl ⟨h0, h1⟩ (.ptd _ _ _ _ hp hn (Addr.add_spot hs _))
    · cases h
  · rename_i es k m
    split at h
    · rename_i h0
      split at h
      · rename_i cc hcc
        split at h
        · rename_i hl
          simp only [Option.some.injEq] at h
          subst h
          cases hi
          have hlt : m.toNat < es.length := by
            rcases Nat.lt_or_ge m.toNat es.length with h | h
            · exact h
            · rw [List.getElem?_eq_none h] at hcc; cases hcc
          cases hx with
          | sl0 => simp at hcc
          | sl _ b off sz n hne hsz hn hb hl' hd hx hh =>
            have hsz' : sz = P.cellsOf e := by rw [← hl, hl' cc (List.mem_of_getElem? hcc)]
            subst hsz'
            refine key _ _ _ _ _ rfl rfl ⟨h0, by omega⟩ ?_
            rw [Addr.add_mk, ← Nat.add_zero (_ + _)]
            exact .ip _ _ _ _ hb (fun k v hk => hd m.toNat k cc v hcc hk) (fun k v hk => hx m.toNat k cc v hcc hk) (fun k v x hk hxx => hh m.toNat k cc v x hcc hk hxx)
        · cases h
      · cases h
    · cases h
  · cases h

theorem run_nck {vx v : V} {x : Value} (hx : Rep c vx x) (h : nckV vx = some v) (o : Oper) (X : Operand) (a : Act) (hop : o.op = .nilCheck X) (hX : a.eval X = x) :
    ∃ r, (execOp a.eval o).run P w = .ok (.value r) w ∧ Rep c v r := by
  unfold execOp
  rw [hop]
  simp only [hX]
  cases vx <;> simp only [nckV, Option.some.injEq, reduceCtorEq] at h <;> subst h <;> cases hx <;> refine ⟨_, rfl, ?_⟩
  · exact .pt _ _ _ _ _ (by assumption) (by assumption)
  · exact .ptd _ _ _ _ (by assumption) (by assumption) (by assumption)
  · exact .ip _ _ _ _ (by assumption) (by assumption) (by assumption) (by assumption)
  · exact .fn _ _ _ (by assumption) (by assumption)

theorem run_max {vx vy v : V} {x y : Value} (hx : Rep c vx x) (hy : Rep c vy y) (mx : Bool) (h : mxV mx vx vy = some v) :
    ∃ r, (if mx then Builtin.max2 x y else Builtin.min2 x y).run P w = .ok r w ∧ Rep c v r := by
  unfold mxV at h
  split at h
  · cases hx; cases hy
    simp only [Option.some.injEq] at h
    subst h
    cases mx
    · exact ⟨_, rfl, by simp only [Bool.false_eq_true, if_false]; exact .i _ _⟩
    · exact ⟨_, rfl, by simp only [if_true]; exact .i _ _⟩
  · cases h

theorem lenV_rep {vx : V} {x : Value} (hx : Rep c vx x) {n : Nat} (h : lenV vx = some n) : (∃ a cap, x = .slice a n cap ∧ n ≤ cap) ∨ (∃ s, x = .string s ∧ s.size = n) := by
  cases vx <;> simp only [lenV, Option.some.injEq, reduceCtorEq] at h
  case s y => cases hx; exact .inr ⟨_, rfl, h⟩
  case nil => subst h; cases hx; exact .inl ⟨_, _, rfl, Nat.le_refl _⟩
  case sl es =>
    subst h
    cases hx with
    | sl0 => exact .inl ⟨_, _, rfl, Nat.zero_le _⟩
    | sl _ b off sz n hne hsz hn => exact .inl ⟨_, _, rfl, hn⟩
  case rw =>
    subst h
    cases hx with
    | rw0 => exact .inl ⟨_, _, rfl, Nat.le_refl _⟩
    | rw _ _ _ _ _ _ _ _ hc => exact .inl ⟨_, _, rfl, hc⟩
    | rwd _ _ _ _ _ _ _ _ hc => exact .inl ⟨_, _, rfl, hc⟩
  case ra =>
    subst h
    cases hx with
    | ra0 => exact .inl ⟨_, _, rfl, Nat.le_refl _⟩
    | ra _ _ _ _ _ _ _ _ _ hc => exact .inl ⟨_, _, rfl, hc⟩
    | rad _ _ _ _ _ _ _ _ hc => exact .inl ⟨_, _, rfl, hc⟩

def BndOk (x : Option Value) (z n : Nat) : Prop := (x = none ∧ n = z) ∨ ∃ k, x = some (.int k n)

theorem natO_rep {e : E} {a : Act} (h : ∀ t, Rep c (e t) (a.tmps.getD t undef)) {x : Option Operand} {z n : Nat} (hn : natO e z (x.map cO) = some n) : BndOk (x.map a.eval) z n := by
  cases x with
  | none => simp [natO] at hn; exact .inl ⟨rfl, hn.symm⟩
  | some x =>
    simp only [Option.map_some, natO] at hn
    obtain ⟨k, hk⟩ := natV_rep (rep_cO h x) hn
    exact .inr ⟨k, by simp [hk]⟩

theorem run_bound (k : IntKind) (n y : Nat) (code : BoundsCode) (h : n ≤ y) : (Instr.sliceBound (.int k n) y code).run P w = .ok n w := by
  unfold Instr.sliceBound
  simp only [Sem.run_bind, asIntOf, Sem.run_pure, Result.andThen_ok]
  rw [if_pos (by omega)]
  simp

theorem run_bounds (sl : Bool) (len cap l h m : Nat) (lo hi mx : Option Value) (hlo : BndOk lo 0 l) (hhi : BndOk hi len h) (hmx : BndOk mx cap m) (hh : mx.isSome = true → hi.isSome = true)
    (h1 : l ≤ h) (h2 : h ≤ m) (h3 : m ≤ cap) : (Instr.sliceBounds sl len cap lo hi mx).run P w = .ok (l, h, m) w := by
  unfold Instr.sliceBounds
  rcases hmx with ⟨rfl, rfl⟩ | ⟨km, rfl⟩
  · rcases hhi with ⟨rfl, rfl⟩ | ⟨kh, rfl⟩
    · rcases hlo with ⟨rfl, rfl⟩ | ⟨kl, rfl⟩
      · simp
      · simp [run_bound w kl l _ _ h1]
    · rcases hlo with ⟨rfl, rfl⟩ | ⟨kl, rfl⟩
      · simp [run_bound w kh h _ _ h2]
      · simp [run_bound w kh h _ _ h2, run_bound w kl l _ _ h1]
  · rcases hhi with ⟨rfl, rfl⟩ | ⟨kh, rfl⟩
    · simp at hh
    · rcases hlo with ⟨rfl, rfl⟩ | ⟨kl, rfl⟩
      · simp [run_bound w km m _ _ h3, run_bound w kh h _ _ h2]
      · simp [run_bound w km m _ _ h3, run_bound w kh h _ _ h2, run_bound w kl l _ _ h1]

theorem run_slice_str {t : TypeId} (hu : P.underlying t = some .string) {l h : Nat} {lo hi : Option Value} {y : ByteArray} (hlo : BndOk lo 0 l) (hhi : BndOk hi y.size h) (h1 : l ≤ h) (h2 : h ≤ y.size) :
    (Instr.sliceAt t (.string y) lo hi none).run P w = .ok (.string (y.extract l h)) w := by
  unfold Instr.sliceAt
  simp only [Sem.run_bind, run_underlying hu, Result.andThen_ok]
  unfold Instr.slice
  simp only [Sem.run_bind, run_underlying hu, Result.andThen_ok]
  simp only [Option.isSome_none, Bool.false_eq_true, if_false, Sem.run_bind, run_bounds w false y.size y.size l h y.size lo hi none hlo hhi (.inl ⟨rfl, rfl⟩) (by simp) h1 h2 (Nat.le_refl _), Result.andThen_ok, Sem.run_pure]

theorem run_slice_sl {t e : TypeId} (hu : P.underlying t = some (.slice e)) (hok : okT P e = true) {len cap l h m : Nat} {lo hi mx : Option Value} {a : Option Addr} (hlo : BndOk lo 0 l) (hhi : BndOk hi len h) (hmx : BndOk mx cap m)
    (hh : mx.isSome = true → hi.isSome = true) (h1 : l ≤ h) (h2 : h ≤ m) (h3 : m ≤ cap) :
    (Instr.sliceAt t (.slice a len cap) lo hi mx).run P w = .ok (.slice (if m = l then a else a.map (·.add (l * P.cellsOf e))) (h - l) (m - l)) w := by
  obtain ⟨_, _, i, hi'⟩ := okT_some hok
  unfold Instr.sliceAt
  simp only [Sem.run_bind, run_underlying hu, Result.andThen_ok]
  unfold Instr.slice
  simp only [Sem.run_bind, run_underlying hu, Result.andThen_ok, run_bounds w true len cap l h m lo hi mx hlo hhi hmx hh h1 h2 h3, run_sizeOf w hi', Sem.run_pure]

theorem rep_cut {sz l h cap : Nat} {vx v : V} {a : Option Addr} {len : Nat} (hpos : 0 < sz) (hx : Rep c vx (.slice a len cap)) (hv : cutV sz l h none vx = some v) :
    l ≤ h ∧ h ≤ cap ∧ Rep c v (.slice (if cap = l then a else a.map (·.add (l * sz))) (h - l) (cap - l)) := by
  cases vx <;> simp only [cutV, reduceCtorEq] at hv
  case nil =>
    split at hv
    · rename_i hb
      obtain ⟨rfl, rfl, _⟩ := hb
      simp only [Option.some.injEq] at hv; subst hv
      cases hx
      exact ⟨Nat.le_refl _, Nat.le_refl _, .nil _⟩
    · cases hv
  case sl es =>
    split at hv
    · rename_i hb
      obtain ⟨h1, h2, h3⟩ := hb
      simp only [Option.some.injEq] at hv; subst hv
      cases hx with
      | sl0 =>
        simp at h2
        subst h2
        have : l = 0 := by omega
        subst this
        exact ⟨Nat.le_refl _, Nat.zero_le _, by simpa using .sl0 _ _⟩
      | sl _ b off sz' n hne hsz hn hb hl hd hx hh =>
        refine ⟨h1, by omega, ?_⟩
        have hsz' : sz' = sz := by
          cases es with
          | nil => exact absurd rfl hne
          | cons c0 es =>
            have e1 := hl c0 (by simp)
            have e2 := List.all_eq_true.1 h3 c0 (by simp)
            simp at e2
            omega
        subst hsz'
        by_cases he : l = h
        · subst he
          have : (es.take l).drop l = [] := by simp
          rw [this, Nat.sub_self]
          exact .sl0 _ _
        · have hc : cap ≠ l := by omega
          rw [if_neg hc]
          simp only [Option.map_some, Addr.add_mk]
          have hlen : ((es.take h).drop l).length = h - l := by simp; omega
          rw [← hlen]
          have hget : ∀ (j : Nat) e, ((es.take h).drop l)[j]? = some e → es[l + j]? = some e := by
            intro j e hj
            simp only [List.getElem?_drop, List.getElem?_take] at hj
            split at hj
            · exact hj
            · cases hj
          refine .sl _ _ _ _ _ (fun h0 => ?_) hpos (by omega) hb (fun e he' => hl e (List.mem_of_mem_take (List.mem_of_mem_drop he'))) (fun j k e u h1 h2 => hd (l + j) k e u (hget j e h1) h2) (fun j k e u h1 h2 => ?_) (fun j k e u x h1 h2 h3 => ?_)
          · rw [h0] at hlen; simp at hlen; omega
          · have := hx (l + j) k e u (hget j e h1) h2
            rw [Nat.add_mul, ← Nat.add_assoc] at this
            exact this
          · rw [Nat.add_assoc off, ← Nat.add_mul] at h3
            exact hh (l + j) k e u x (hget j e h1) h2 h3
    · cases hv
  case rw id sz' off ln =>
    split at hv
    · rename_i hb
      obtain ⟨rfl, h1, h2⟩ := hb
      simp only [Option.some.injEq] at hv; subst hv
      cases hx with
      | rw0 _ _ _ _ hn =>
        have e1 : h = 0 := by omega
        have e2 : l = 0 := by omega
        subst e1; subst e2
        exact ⟨Nat.le_refl _, Nat.le_refl _, .rw0 _ _ _ _ hn⟩
      | rw _ _ _ _ b _ hp hn hc hf =>
        refine ⟨h1, by omega, ?_⟩
        by_cases he : cap = l
        · rw [if_pos he]
          have e1 : h - l = 0 := by omega
          have e2 : cap - l = 0 := by omega
          rw [e1, e2]
          exact .rw0 _ _ _ _ hn
        · rw [if_neg he]
          simp only [Option.map_some, Addr.add_mk, ← Nat.add_mul]
          refine .rw _ _ _ _ _ _ hp hn (by omega) ?_
          obtain ⟨arr, t, g1, g2⟩ := hf
          exact ⟨arr, t, g1, by rw [show off + l + (cap - l) = off + cap by omega]; exact g2⟩
      | rwd _ _ _ _ _ _ hp hn hc ha =>
        refine ⟨h1, by omega, ?_⟩
        refine .rwd _ _ _ _ _ _ hp hn (by omega) fun hne => ?_
        obtain ⟨ad, rfl, hs⟩ := ha (by omega)
        rw [if_neg (by omega)]
        exact ⟨_, rfl, Addr.add_spot hs _⟩
    · cases hv

theorem rep_cut3 {sz l h m cap : Nat} {vx v : V} {a : Option Addr} {len : Nat} (hx : Rep c vx (.slice a len cap)) (hv : cutV sz l h (some m) vx = some v) :
    l = m ∧ h = m ∧ m ≤ cap ∧ v = .nil := by
  cases vx <;> simp only [cutV, reduceCtorEq] at hv
  case nil =>
    split at hv
    · rename_i hb
      obtain ⟨rfl, rfl, hm⟩ := hb
      simp only [Option.some.injEq, false_or] at hv hm
      subst hv; subst hm
      exact ⟨rfl, rfl, Nat.zero_le _, rfl⟩
    · cases hv
  case sl es =>
    split at hv
    · rename_i hb
      obtain ⟨rfl, rfl, hm⟩ := hb
      simp only [Option.some.injEq] at hv
      subst hv
      refine ⟨rfl, rfl, ?_, rfl⟩
      cases hx with
      | sl0 => simp at hm; omega
      | sl _ _ _ _ _ _ _ hn => omega
    · cases hv
  case rw =>
    split at hv
    · rename_i hb
      obtain ⟨rfl, rfl, hm⟩ := hb
      simp only [Option.some.injEq] at hv
      subst hv
      refine ⟨rfl, rfl, ?_, rfl⟩
      cases hx with
      | rw0 => omega
      | rw _ _ _ _ _ _ _ _ hc => omega
      | rwd _ _ _ _ _ _ _ _ hc => omega
    · cases hv

theorem run_slc {t el : TypeId} {e : E} {a : Act} (hr : ∀ t, Rep c (e t) (a.tmps.getD t undef)) (hu : P.underlying t = some (.slice el)) (hok : okT P el = true)
    {x : Operand} {lo hi mx : Option Operand} (hmx : mx.isSome = true → hi.isSome = true) {v : V} (h : slcV e (P.cellsOf el) (cO x) (lo.map cO) (hi.map cO) (mx.map cO) = some v) :
    ∃ r, (Instr.sliceAt t (a.eval x) (lo.map a.eval) (hi.map a.eval) (mx.map a.eval)).run P w = .ok r w ∧ Rep c v r := by
  have hx := rep_cO hr x
  have hpos := (okT_some hok).1
  unfold slcV at h
  cases hn : lenV ((cO x).ev e) with
  | none => rw [hn] at h; cases h
  | some n =>
    rw [hn] at h
    simp only at h
    cases hl : natO e 0 (lo.map cO) with
    | none => simp [hl] at h
    | some l =>
      cases hh : natO e n (hi.map cO) with
      | none => simp [hl, hh] at h
      | some hv =>
        have bl := natO_rep hr hl
        have bh := natO_rep hr hh
        rw [hl, hh] at h
        rcases lenV_rep hx hn with ⟨ad, cap, hxe, hcap⟩ | ⟨s, hxe, hs⟩
        · rw [hxe] at hx
          cases mx with
          | none =>
            simp only [Option.map_none] at h
            obtain ⟨h1, h2, h3⟩ := rep_cut hpos hx h
            refine ⟨_, ?_, h3⟩
            rw [hxe]
            exact run_slice_sl w hu hok bl bh (.inl ⟨rfl, rfl⟩) (by simp) h1 h2 (Nat.le_refl _)
          | some m =>
            simp only [Option.map_some] at h
            cases hm : natV ((cO m).ev e) with
            | none => simp [hm] at h
            | some mm =>
              rw [hm] at h
              obtain ⟨rfl, rfl, h3, rfl⟩ := rep_cut3 hx h
              obtain ⟨k, hk⟩ := natV_rep (rep_cO hr m) hm
              have := run_slice_sl w hu hok (a := ad) (lo := lo.map a.eval) (hi := hi.map a.eval) (mx := some (a.eval m)) bl bh (.inr ⟨k, by rw [hk]⟩) (by simpa using hmx) (Nat.le_refl _) (Nat.le_refl _) h3
              refine ⟨_, by rw [hxe]; exact this, ?_⟩
              rw [Nat.sub_self]
              exact .nil _
        · rw [hxe] at hx
          cases hvx : (cO x).ev e <;> rw [hvx] at hx <;> (first | (cases hx; done) | skip)
          · rw [hvx] at hn; simp [lenV] at hn
          · rw [hvx] at h
            cases mx with
            | none => simp [cutV] at h
            | some m =>
              simp only [Option.map_some] at h
              cases hm : natV ((cO m).ev e) <;> simp [hm, cutV] at h

theorem run_sls {t : TypeId} {e : E} {a : Act} (hr : ∀ t, Rep c (e t) (a.tmps.getD t undef)) (hu : P.underlying t = some .string)
    {x : Operand} {lo hi : Option Operand} {v : V} (h : qv e (.sls (cO x) (lo.map cO) (hi.map cO)) = some v) :
    ∃ r, (Instr.sliceAt t (a.eval x) (lo.map a.eval) (hi.map a.eval) none).run P w = .ok r w ∧ Rep c v r := by
  have hx := rep_cO hr x
  simp only [qv] at h
  cases hvx : (cO x).ev e <;> rw [hvx] at h hx <;> simp only [reduceCtorEq] at h
  rename_i y
  cases hl : natO e 0 (lo.map cO) with
  | none => simp [hl] at h
  | some l =>
    cases hh : natO e y.size (hi.map cO) with
    | none => simp [hl, hh] at h
    | some hv =>
      rw [hl, hh] at h
      simp only at h
      split at h
      · rename_i hb
        simp only [Option.some.injEq] at h
        subst h
        generalize a.eval x = z at hx
        cases hx
        exact ⟨_, run_slice_str w hu (natO_rep hr hl) (natO_rep hr hh) hb.1 hb.2, .s _⟩
      · cases h

theorem run_sla {t el : TypeId} {n : Nat} {e : E} {a : Act} (hr : ∀ t, Rep c (e t) (a.tmps.getD t undef)) (hu : P.underlying t = some (.array n el)) (hel : P.cellsOf el = 1)
    {x : Operand} {lo hi : Option Operand} {v : V} (h : qv e (.sla n (cO x) (lo.map cO) (hi.map cO)) = some v) :
    ∃ r, (Instr.sliceAt t (a.eval x) (lo.map a.eval) (hi.map a.eval) none).run P w = .ok r w ∧ Rep c v r := by
  have hx := rep_cO hr x
  simp only [qv] at h
  cases hl : natO e 0 (lo.map cO) with
  | none => simp [hl] at h
  | some l =>
    cases hh : natO e n (hi.map cO) with
    | none => simp [hl, hh] at h
    | some hv =>
      rw [hl, hh] at h
      simp only at h
      obtain ⟨i, hi'⟩ : ∃ i, P.info? el = some i := by
        unfold Program.cellsOf at hel
        cases hq : P.info? el with
        | none => simp [hq] at hel
        | some i => exact ⟨i, rfl⟩
      have run : ∀ ad : Addr, l ≤ hv → hv ≤ n → (Instr.sliceAt t (.pointer (some ad)) (lo.map a.eval) (hi.map a.eval) none).run P w =
          .ok (.slice (some (if n = l then ad else ad.add (l * 1))) (hv - l) (n - l)) w := by
        intro ad h1 h2
        unfold Instr.sliceAt
        simp only [Sem.run_bind, run_underlying hu, Result.andThen_ok, Instr.sureAddr, Sem.run_pure]
        rw [run_bounds w false n n l hv n _ _ none (natO_rep hr hl) (natO_rep hr hh) (.inl ⟨rfl, rfl⟩) (by simp) h1 h2 (Nat.le_refl _)]
        simp only [Result.andThen_ok, run_sizeOf w hi', hel]
      generalize a.eval x = z at hx
      cases hvx : (cO x).ev e <;> rw [hvx] at h hx <;> simp only [slaV, reduceCtorEq] at h
      · rename_i id i j
        split at h
        · rename_i hb
          simp only [Option.some.injEq] at h
          subst h
          cases hx with
          | pt _ _ _ b sz hp hn =>
            refine ⟨_, run _ hb.1 hb.2, ?_⟩
            by_cases he : n = l
            · have e1 : hv - l = 0 := by omega
              have e2 : n - l = 0 := by omega
              rw [e1, e2]
              exact .ra0 _ _ _ _ hn
            · rw [if_neg he, Addr.add_mk, Nat.mul_one, Nat.add_assoc]
              exact .ra _ _ _ _ _ _ _ hp hn (by omega)
          | ptd _ _ _ ad hp hn ha =>
            refine ⟨_, run _ hb.1 hb.2, ?_⟩
            refine .rad _ _ _ _ _ _ hp hn (by omega) fun _ => ⟨_, rfl, ?_⟩
            split
            · exact ha
            · exact Addr.add_spot ha _
        · cases h
      · rename_i cs j
        split at h
        · rename_i hb
          obtain ⟨b1, b2, b3⟩ := hb
          simp only [Option.some.injEq] at h
          subst h
          cases hx with
          | ip _ _ b off hb hd hx hh' =>
            refine ⟨_, run _ b1 b2, ?_⟩
            by_cases he : l = hv
            · subst he
              simp only [Nat.sub_self, List.take_zero, List.map_nil]
              exact .sl0 _ _
            · have hc : n ≠ l := by omega
              rw [if_neg hc, Addr.add_mk, Nat.mul_one]
              have hlen : (((cs.drop (j + l)).take (hv - l)).map fun v => [v]).length = hv - l := by simp; omega
              have hget : ∀ (q k : Nat) e u, (((cs.drop (j + l)).take (hv - l)).map fun v => [v])[q]? = some e → e[k]? = some u → k = 0 ∧ cs[j + l + q]? = some u := by
                intro q k e u h1 h2
                simp only [List.getElem?_map, List.getElem?_take, List.getElem?_drop, Option.map_eq_some_iff] at h1
                obtain ⟨u', h1, rfl⟩ := h1
                split at h1
                · cases k with
                  | zero => simp at h2; subst h2; exact ⟨rfl, h1⟩
                  | succ k => simp at h2
                · cases h1
              suffices hs : Rep c (.sl (((cs.drop (j + l)).take (hv - l)).map fun v => [v])) (.slice (some ⟨b, off + j + l, none⟩) (((cs.drop (j + l)).take (hv - l)).map fun v => [v]).length (n - l)) by
                rw [hlen] at hs; exact hs
              refine .sl _ _ _ 1 (n - l) (fun h0 => ?_) (by omega) (by rw [hlen]; omega) hb (fun e he' => ?_) (fun q k e u h1 h2 => hd _ _ (hget q k e u h1 h2).2) (fun q k e u h1 h2 => ?_) (fun q k e u y h1 h2 h3 => ?_)
              · rw [h0] at hlen; simp at hlen; omega
              · simp only [List.mem_map] at he'; obtain ⟨_, _, rfl⟩ := he'; rfl
              · obtain ⟨rfl, h4⟩ := hget q k e u h1 h2
                obtain ⟨y, hy, hy1⟩ := hx _ _ h4
                exact ⟨y, by rw [← hy]; congr 1; omega, hy1⟩
              · obtain ⟨rfl, h4⟩ := hget q k e u h1 h2
                refine hh' _ _ _ h4 ?_
                rw [← h3]; congr 1; omega
        · cases h

end

end Go.Proofs.Ytiadalheipbpcaa
