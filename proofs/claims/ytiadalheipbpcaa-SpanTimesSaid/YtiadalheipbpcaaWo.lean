/-
  A region's operations in another order come to the same.
-/
import Derived.Test.YtiadalheipbpcaaWm
namespace Go.Proofs.Ytiadalheipbpcaa
set_option linter.all false

theorem ev_eq {e e' : E} {x : Od} (h : ∀ t ∈ odT x, e t = e' t) : x.ev e = x.ev e' := by
  cases x with
  | t n => exact h n (by simp [odT])
  | k v => rfl

theorem evs_eq {e e' : E} {l : List Od} (h : ∀ t ∈ odTs l, e t = e' t) : l.map (Od.ev e) = l.map (Od.ev e') := by
  apply List.map_congr_left
  intro x hx
  exact ev_eq fun t ht => h t (by simp only [odTs, List.mem_flatMap]; exact ⟨x, hx, ht⟩)

theorem natO_eq {e e' : E} {z : Nat} {x : Option Od} (h : ∀ t ∈ odO x, e t = e' t) : natO e z x = natO e' z x := by
  cases x with
  | none => rfl
  | some x => simp only [natO, ev_eq (e := e) (e' := e') (x := x) h]

theorem fillC_eq {e e' : E} (l : List (Nat × Nat × Od)) : ∀ z, (∀ t ∈ l.flatMap (fun p => odT p.2.2), e t = e' t) → fillC e l z = fillC e' l z := by
  induction l with
  | nil => intro z _; rfl
  | cons p l ih =>
    obtain ⟨off, sz, x⟩ := p
    intro z h
    simp only [List.flatMap_cons, List.mem_append] at h
    simp only [fillC, ev_eq (e := e) (e' := e') (x := x) (fun t ht => h t (.inl ht)), ih _ (fun t ht => h t (.inr ht))]

theorem fillE_eq {e e' : E} {sz : Nat} (l : List (Nat × Od)) : ∀ z, (∀ t ∈ l.flatMap (fun p => odT p.2), e t = e' t) → fillE e sz l z = fillE e' sz l z := by
  induction l with
  | nil => intro z _; rfl
  | cons p l ih =>
    obtain ⟨j, x⟩ := p
    intro z h
    simp only [List.flatMap_cons, List.mem_append] at h
    simp only [fillE, ev_eq (e := e) (e' := e') (x := x) (fun t ht => h t (.inl ht)), ih _ (fun t ht => h t (.inr ht))]

theorem qv_eq {e e' : E} {q : Q} (h : ∀ t ∈ usesQ q, e t = e' t) : qv e q = qv e' q := by
  cases q <;> simp only [usesQ, List.mem_append] at h
  case mov x => simp only [qv, ev_eq (e := e) (e' := e') (x := x) h]
  case pick c a b => simp only [qv, ev_eq (e := e) (e' := e') (x := c) (fun t ht => h t (.inl (.inl ht))), ev_eq (e := e) (e' := e') (x := a) (fun t ht => h t (.inl (.inr ht))), ev_eq (e := e) (e' := e') (x := b) (fun t ht => h t (.inr ht))]
  case bin o x y => simp only [qv, ev_eq (e := e) (e' := e') (x := x) (fun t ht => h t (.inl ht)), ev_eq (e := e) (e' := e') (x := y) (fun t ht => h t (.inr ht))]
  case eqb o x y => simp only [qv, ev_eq (e := e) (e' := e') (x := x) (fun t ht => h t (.inl ht)), ev_eq (e := e) (e' := e') (x := y) (fun t ht => h t (.inr ht))]
  case eqp _ _ _ x y => simp only [qv, ev_eq (e := e) (e' := e') (x := x) (fun t ht => h t (.inl ht)), ev_eq (e := e) (e' := e') (x := y) (fun t ht => h t (.inr ht))]
  case un _ x => simp only [qv, ev_eq (e := e) (e' := e') (x := x) h]
  case cv _ x => simp only [qv, ev_eq (e := e) (e' := e') (x := x) h]
  case fld _ _ _ x => simp only [qv, ev_eq (e := e) (e' := e') (x := x) h]
  case ixa _ _ _ x y => simp only [qv, ev_eq (e := e) (e' := e') (x := x) (fun t ht => h t (.inl ht)), ev_eq (e := e) (e' := e') (x := y) (fun t ht => h t (.inr ht))]
  case ixs x y => simp only [qv, ev_eq (e := e) (e' := e') (x := x) (fun t ht => h t (.inl ht)), ev_eq (e := e) (e' := e') (x := y) (fun t ht => h t (.inr ht))]
  case ext x _ => simp only [qv, ev_eq (e := e) (e' := e') (x := x) h]
  case bld z ps => simp only [qv, fillC_eq ps z h]
  case mkf g cs => simp only [qv, evs_eq h]
  case lns x => simp only [qv, ev_eq (e := e) (e' := e') (x := x) h]
  case len x => simp only [qv, ev_eq (e := e) (e' := e') (x := x) h]
  case cap x => simp only [qv, ev_eq (e := e) (e' := e') (x := x) h]
  case slc sz x lo hi mx =>
    have h1 := ev_eq (e := e) (e' := e') (x := x) (fun t ht => h t (.inl (.inl (.inl ht))))
    have h2 := fun z => natO_eq (e := e) (e' := e') (z := z) (x := lo) (fun t ht => h t (.inl (.inl (.inr ht))))
    have h3 := fun z => natO_eq (e := e) (e' := e') (z := z) (x := hi) (fun t ht => h t (.inl (.inr ht)))
    have h4 : ∀ m, mx = some m → m.ev e = m.ev e' := fun m hm => ev_eq (fun t ht => h t (.inr (by rw [hm]; exact ht)))
    simp only [qv, slcV, h1, h2, h3]
    cases lenV (x.ev e') with
    | none => rfl
    | some n =>
      simp only
      generalize natO e' 0 lo = a
      generalize natO e' n hi = b
      cases a <;> cases b <;> cases mx <;> (first | rfl | simp only [h4 _ rfl])
  case sls x lo hi =>
    have h1 := ev_eq (e := e) (e' := e') (x := x) (fun t ht => h t (.inl (.inl ht)))
    have h2 := fun z => natO_eq (e := e) (e' := e') (z := z) (x := lo) (fun t ht => h t (.inl (.inr ht)))
    have h3 := fun z => natO_eq (e := e) (e' := e') (z := z) (x := hi) (fun t ht => h t (.inr ht))
    simp only [qv, h1, h2, h3]
  case adr _ x => simp only [qv, ev_eq (e := e) (e' := e') (x := x) h]
  case ixp _ x y => simp only [qv, ev_eq (e := e) (e' := e') (x := x) (fun t ht => h t (.inl ht)), ev_eq (e := e) (e' := e') (x := y) (fun t ht => h t (.inr ht))]
  case ixq _ _ x y => simp only [qv, ev_eq (e := e) (e' := e') (x := x) (fun t ht => h t (.inl ht)), ev_eq (e := e) (e' := e') (x := y) (fun t ht => h t (.inr ht))]
  case sla n x lo hi =>
    have h1 := ev_eq (e := e) (e' := e') (x := x) (fun t ht => h t (.inl (.inl ht)))
    have h2 := fun z => natO_eq (e := e) (e' := e') (z := z) (x := lo) (fun t ht => h t (.inl (.inr ht)))
    have h3 := fun z => natO_eq (e := e) (e' := e') (z := z) (x := hi) (fun t ht => h t (.inr ht))
    simp only [qv, h1, h2, h3]
  case mx _ x y => simp only [qv, ev_eq (e := e) (e' := e') (x := x) (fun t ht => h t (.inl ht)), ev_eq (e := e) (e' := e') (x := y) (fun t ht => h t (.inr ht))]
  case nck x => simp only [qv, ev_eq (e := e) (e' := e') (x := x) h]

theorem rv_eq {e e' : E} {o : O} {j : I} (h : ∀ t ∈ usesI j, e t = e' t) : rv e o j = rv e' o j := by
  cases j <;> simp only [usesI, List.mem_append] at h <;> simp only [rv]
  case q q => exact qv_eq h
  case isn _ _ x => rw [ev_eq (e := e) (e' := e') (x := x) h]
  case ld _ _ x => rw [ev_eq (e := e) (e' := e') (x := x) h]
  case mlen x => rw [ev_eq (e := e) (e' := e') (x := x) h]
  case lkp _ _ _ _ m k => rw [ev_eq (e := e) (e' := e') (x := m) (fun t ht => h t (.inl ht)), ev_eq (e := e) (e' := e') (x := k) (fun t ht => h t (.inr ht))]
  case ent x => rw [ev_eq (e := e) (e' := e') (x := x) h]

theorem W_eq {cl : CallT} {e e' : E} {o : O} {K : V → O → Prop} {j : I} (h : ∀ t ∈ usesI j, e t = e' t) : W cl e o K j = W cl e' o K j := by
  have hrv := rv_eq (o := o) h
  cases j <;> simp only [usesI, List.mem_append] at h
  case q q => simp only [W, hrv]
  case isn => simp only [W, hrv]
  case ld => simp only [W, hrv]
  case mlen => simp only [W, hrv]
  case lkp => simp only [W, hrv]
  case ent => simp only [W, hrv]
  case pc g as => simp only [W, evs_eq h]
  case pv g as => simp only [W, ev_eq (e := e) (e' := e') (x := g) (fun t ht => h t (.inl ht)), evs_eq (e := e) (e' := e') (l := as) (fun t ht => h t (.inr ht))]
  case alc z => rfl
  case box x => simp only [W, ev_eq (e := e) (e' := e') (x := x) h]
  case bsl sz n z ps => simp only [W, fillE_eq ps _ h]
  case mks _ _ _ x y => simp only [W, ev_eq (e := e) (e' := e') (x := x) (fun t ht => h t (.inl ht)), ev_eq (e := e) (e' := e') (x := y) (fun t ht => h t (.inr ht))]
  case mkm => rfl
  case sto _ x y => simp only [W, ev_eq (e := e) (e' := e') (x := x) (fun t ht => h t (.inl ht)), ev_eq (e := e) (e' := e') (x := y) (fun t ht => h t (.inr ht))]
  case app _ _ x y => simp only [W, ev_eq (e := e) (e' := e') (x := x) (fun t ht => h t (.inl ht)), ev_eq (e := e) (e' := e') (x := y) (fun t ht => h t (.inr ht))]
  case apz _ _ _ x y => simp only [W, ev_eq (e := e) (e' := e') (x := x) (fun t ht => h t (.inl ht)), ev_eq (e := e) (e' := e') (x := y) (fun t ht => h t (.inr ht))]
  case cpy _ x y => simp only [W, ev_eq (e := e) (e' := e') (x := x) (fun t ht => h t (.inl ht)), ev_eq (e := e) (e' := e') (x := y) (fun t ht => h t (.inr ht))]
  case clr _ x => simp only [W, ev_eq (e := e) (e' := e') (x := x) h]
  case mup _ _ x y z => simp only [W, ev_eq (e := e) (e' := e') (x := x) (fun t ht => h t (.inl (.inl ht))), ev_eq (e := e) (e' := e') (x := y) (fun t ht => h t (.inl (.inr ht))), ev_eq (e := e) (e' := e') (x := z) (fun t ht => h t (.inr ht))]
  case men _ _ _ x y => simp only [W, ev_eq (e := e) (e' := e') (x := x) (fun t ht => h t (.inl ht)), ev_eq (e := e) (e' := e') (x := y) (fun t ht => h t (.inr ht))]
  case est x y z => simp only [W, ev_eq (e := e) (e' := e') (x := x) (fun t ht => h t (.inl (.inl ht))), ev_eq (e := e) (e' := e') (x := y) (fun t ht => h t (.inl (.inr ht))), ev_eq (e := e) (e' := e') (x := z) (fun t ht => h t (.inr ht))]
  case del _ _ x y => simp only [W, ev_eq (e := e) (e' := e') (x := x) (fun t ht => h t (.inl ht)), ev_eq (e := e) (e' := e') (x := y) (fun t ht => h t (.inr ht))]
  case rng x => simp only [W, ev_eq (e := e) (e' := e') (x := x) h]
  case nxt x => simp only [W, ev_eq (e := e) (e' := e') (x := x) h]
  case nc g as => simp only [W, evs_eq h]
  case nv g as => simp only [W, ev_eq (e := e) (e' := e') (x := g) (fun t ht => h t (.inl ht)), evs_eq (e := e) (e' := e') (l := as) (fun t ht => h t (.inr ht))]
  case bad => rfl

/-! puts -/
theorem put_of_ne {e : E} {d : Option Nat} {v : V} {t : Nat} (h : d ≠ some t) : put e d v t = e t := by
  cases d with
  | none => rfl
  | some d => simp only [put, upd]; rw [if_neg]; intro hh; exact h (by rw [hh])

theorem put_comm (e : E) {x y : Option Nat} (v u : V) (h : ∀ d, x = some d → y ≠ some d) : put (put e x v) y u = put (put e y u) x v := by
  cases x with
  | none => rfl
  | some d =>
    cases y with
    | none => rfl
    | some f =>
      have hne : d ≠ f := fun hh => h d rfl (by rw [hh])
      funext t
      simp only [put, upd]
      by_cases h1 : t = d
      · by_cases h2 : t = f
        · exact absurd (h1.symm.trans h2) hne
        · simp [h1, hne]
      · by_cases h2 : t = f
        · simp [h2, Ne.symm hne]
        · simp [h1, h2]

theorem upd_comm {α : Type} (o : Nat → α) {i j : Nat} {x y : α} (h : i ≠ j) : upd (upd o j y) i x = upd (upd o i x) j y := by
  funext t
  simp only [upd]
  by_cases h1 : t = i
  · by_cases h2 : t = j
    · exact absurd (h1.symm.trans h2) h
    · simp [h1, h]
  · by_cases h2 : t = j
    · simp [h2, Ne.symm h]
    · simp [h1, h2]

theorem apart_spec {x y : Stp} (h : apart x y = true) :
    (∀ t ∈ y.uses, x.d ≠ some t) ∧ (∀ t ∈ x.uses, y.d ≠ some t) ∧ (∀ d, x.d = some d → y.d ≠ some d) := by
  simp only [apart, Bool.and_eq_true, Bool.not_eq_true'] at h
  obtain ⟨⟨h1, h2⟩, h3⟩ := h
  refine ⟨fun t ht hd => ?_, fun t ht hd => ?_, fun d hd hd' => ?_⟩
  · simp [Stp.wr, hd, ht] at h1
  · simp [Stp.wr, hd, ht] at h2
  · simp [hd, hd'] at h3

theorem usesI_sub (s : Stp) : ∀ t ∈ usesI s.i, t ∈ s.uses := by
  intro t ht
  unfold Stp.uses
  split <;> simp [ht]

/-! reading goes on in a greater store -/
def Sub (o o' : O) : Prop := ∀ id ob, o id = some ob → o' id = some ob

theorem Sub.upd {o : O} {id : Nat} {ob : Ob} (h : o id = none) : Sub o (upd o id (some ob)) := by
  intro j x hj
  simp only [Go.Proofs.Ytiadalheipbpcaa.upd]
  rw [if_neg]
  · exact hj
  · intro hh; rw [hh, h] at hj; cases hj

theorem cellsAt_sub {o o' : O} (h : Sub o o') {v : V} {r : List V × Nat} (hv : cellsAt o v = some r) : cellsAt o' v = some r := by
  unfold cellsAt at hv ⊢
  cases v <;> simp only at hv ⊢ <;> try exact hv
  case pt id i j =>
    cases ho : o id with
    | none => simp [ho] at hv
    | some ob => rw [h _ _ ho]; rw [ho] at hv; exact hv

theorem src_sub {o o' : O} (h : Sub o o') {v : V} {r : List (List V)} (hv : src o v = some r) : src o' v = some r := by
  unfold src at hv ⊢
  cases v <;> simp only at hv ⊢ <;> try exact hv
  case rw id sz off len =>
    cases ho : o id with
    | none => simp [ho] at hv
    | some ob => rw [h _ _ ho]; rw [ho] at hv; exact hv
  case ra id i j len =>
    cases ho : o id with
    | none => simp [ho] at hv
    | some ob => rw [h _ _ ho]; rw [ho] at hv; exact hv

theorem mapM_sub {α β : Type} {f g : α → Option β} (h : ∀ x y, f x = some y → g x = some y) : ∀ {l : List α} {r : List β}, l.mapM f = some r → l.mapM g = some r := by
  intro l
  induction l with
  | nil => intro r hr; simpa using hr
  | cons x l ih =>
    intro r hr
    simp only [List.mapM_cons, Option.bind_eq_bind, Option.bind_eq_some_iff] at hr ⊢
    obtain ⟨y, hy, ys, hys, he⟩ := hr
    exact ⟨y, h _ _ hy, ys, ih hys, he⟩

theorem frz_sub {o o' : O} (h : Sub o o') : ∀ (n : Nat) (v r : V), frz n o v = some r → frz n o' v = some r := by
  intro n
  induction n with
  | zero => intro v r hv; cases hv
  | succ n ih =>
    intro v r hv
    cases v <;> simp only [frz] at hv ⊢ <;> try exact hv
    case ag cs =>
      simp only [Option.map_eq_some_iff] at hv ⊢
      obtain ⟨l, hl, he⟩ := hv
      exact ⟨l, mapM_sub ih hl, he⟩
    case tp cs =>
      simp only [Option.map_eq_some_iff] at hv ⊢
      obtain ⟨l, hl, he⟩ := hv
      exact ⟨l, mapM_sub ih hl, he⟩
    case rw id sz off len =>
      cases hs : src o (.rw id sz off len) with
      | none => rw [hs] at hv; cases hv
      | some es =>
        rw [hs] at hv; rw [src_sub h hs]
        simp only [Option.map_eq_some_iff] at hv ⊢
        obtain ⟨l, hl, he⟩ := hv
        exact ⟨l, mapM_sub (fun x y hxy => mapM_sub ih hxy) hl, he⟩
    case ra id i j len =>
      cases hs : src o (.ra id i j len) with
      | none => rw [hs] at hv; cases hv
      | some es =>
        rw [hs] at hv; rw [src_sub h hs]
        simp only [Option.map_eq_some_iff] at hv ⊢
        obtain ⟨l, hl, he⟩ := hv
        exact ⟨l, mapM_sub (fun x y hxy => mapM_sub ih hxy) hl, he⟩
    case pt id i j =>
      cases hs : cellsAt o (.pt id i j) with
      | none => rw [hs] at hv; cases hv
      | some x =>
        rw [hs] at hv; rw [cellsAt_sub h hs]
        obtain ⟨cs, j'⟩ := x
        simp only [Option.map_eq_some_iff] at hv ⊢
        obtain ⟨l, hl, he⟩ := hv
        exact ⟨l, mapM_sub ih hl, he⟩
    case fn g cs =>
      simp only [Option.map_eq_some_iff] at hv ⊢
      obtain ⟨l, hl, he⟩ := hv
      exact ⟨l, mapM_sub ih hl, he⟩

theorem pcall_sub {cl : CallT} {o o' : O} (h : Sub o o') {g : Nat} {vs : List V} {r : V} (hp : pcall cl o g vs r) : pcall cl o' g vs r := by
  obtain ⟨ws, h1, h2, h3⟩ := hp
  exact ⟨ws, mapM_sub (fun x y hxy => frz_sub h _ _ _ hxy) h1, h2, h3⟩

theorem rv_sub {o o' : O} (h : Sub o o') {e : E} {j : I} {v : V} (hv : rv e o j = some v) : rv e o' j = some v := by
  cases j <;> simp only [rv] at hv ⊢ <;> try exact hv
  case isn mp neg x =>
    generalize x.ev e = y at hv ⊢
    cases y <;> (first | exact hv | skip)
    case pt id i j =>
      simp only [isnV] at hv ⊢
      cases mp <;> simp only [Bool.false_eq_true, if_false, if_true, reduceCtorEq, Option.map_eq_some_iff] at hv ⊢
      obtain ⟨ob, ho, hb⟩ := hv
      exact ⟨ob, h _ _ ho, hb⟩
    case mp id =>
      simp only [isnV] at hv ⊢
      cases mp <;> simp only [Bool.false_eq_true, if_false, if_true, reduceCtorEq, Option.map_eq_some_iff] at hv ⊢
      obtain ⟨ob, ho, hb⟩ := hv
      exact ⟨ob, h _ _ ho, hb⟩
  case ld sz ag x =>
    cases hc : cellsAt o (x.ev e) with
    | none => rw [hc] at hv; cases hv
    | some r => rw [hc] at hv; rw [cellsAt_sub h hc]; exact hv
  case mlen x =>
    generalize x.ev e = y at hv ⊢
    cases y <;> simp only at hv ⊢ <;> try exact hv
    case mp id =>
      cases ho : o id with
      | none => simp [ho] at hv
      | some ob => rw [h _ _ ho]; rw [ho] at hv; exact hv
  case lkp kg ks z ok m k =>
    generalize m.ev e = y at hv ⊢
    unfold lkpV at hv ⊢
    cases y <;> simp only at hv ⊢ <;> try exact hv
    case mp id =>
      cases ho : o id with
      | none => simp [ho] at hv
      | some ob => rw [h _ _ ho]; rw [ho] at hv; exact hv
  case ent x =>
    generalize x.ev e = y at hv ⊢
    cases y <;> (first | (simp only [entV] at hv; cases hv; done) | skip)
    case it id =>
      simp only [entV] at hv ⊢
      cases ho : o id with
      | none => simp [ho] at hv
      | some ob =>
        rw [h _ _ ho]; rw [ho] at hv
        cases ob <;> (first | exact hv | skip)
        case iter mp since seen stepped =>
          cases mp with
          | none => exact hv
          | some m =>
            simp only at hv ⊢
            cases hm : o m with
            | none => simp [hm] at hv
            | some ob => rw [h _ _ hm]; rw [hm] at hv; exact hv

/-! what a step comes to, told apart from what is done behind it -/
def rvP (cl : CallT) (e : E) (o : O) (j : I) (v : V) : Prop :=
  match j with
  | .pc g as => pcall cl o g (as.map (Od.ev e)) v
  | .pv g as => match g.ev e with
    | .fn h cs => pcall cl o h (as.map (Od.ev e) ++ cs) v
    | _ => False
  | j => rv e o j = some v

theorem W_rvP {cl : CallT} {e : E} {o : O} {K : V → O → Prop} {j : I} (hc : cls j ≤ 2) : W cl e o K j ↔ ∃ v, rvP cl e o j v ∧ K v o := by
  cases j <;> simp only [cls] at hc <;> (first | omega | skip)
  case pc g as => exact Iff.rfl
  case pv g as => exact Iff.rfl
  all_goals
    simp only [W, rvP]
    split
    · simp [*]
    · simp [*]

theorem rvP_sub {cl : CallT} {e : E} {o o' : O} {j : I} {v : V} (h : Sub o o') (hv : rvP cl e o j v) : rvP cl e o' j v := by
  cases j <;> simp only [rvP] at hv ⊢
  case pc => exact pcall_sub h hv
  case pv =>
    split at hv
    · exact pcall_sub h hv
    · exact hv
  all_goals exact rv_sub h hv

theorem rvP_eq {cl : CallT} {e e' : E} {o : O} {j : I} {v : V} (h : ∀ t ∈ usesI j, e t = e' t) : rvP cl e o j v ↔ rvP cl e' o j v := by
  have hrv := rv_eq (o := o) h
  cases j <;> simp only [usesI, List.mem_append] at h <;> simp only [rvP]
  case pc g as => rw [evs_eq h]
  case pv g as => rw [ev_eq (e := e) (e' := e') (x := g) (fun t ht => h t (.inl ht)), evs_eq (e := e) (e' := e') (l := as) (fun t ht => h t (.inr ht))]
  all_goals rw [hrv]

def A2 (cl : CallT) (e : E) (o : O) (s : Stp) (v : V) : Prop :=
  match s.g with
  | none => rvP cl e o s.i v
  | some (t, p) => match gdV p (e t) with
    | .bo q => if q = p then rvP cl e o s.i v else v = .tp []
    | _ => False

theorem WS_A2 {cl : CallT} {e : E} {o : O} {K : E → O → Prop} {s : Stp} (hc : cls s.i ≤ 2) (hst : s.st = []) : WS cl s e o K ↔ ∃ v, A2 cl e o s v ∧ K (put e s.d v) o := by
  unfold WS A2
  cases hg : s.g with
  | none => simp only [hst, stb, true_and]; exact W_rvP hc
  | some x =>
    obtain ⟨t, p⟩ := x
    simp only
    cases gdV p (e t) <;> simp only [false_and, exists_false, hst, stb, true_and]
    split
    · exact W_rvP hc
    · simp

theorem A2_sub {cl : CallT} {e : E} {o o' : O} {s : Stp} {v : V} (h : Sub o o') (hv : A2 cl e o s v) : A2 cl e o' s v := by
  unfold A2 at hv ⊢
  split at hv
  · exact rvP_sub h hv
  · split at hv
    · split at hv
      · rw [if_pos ‹_›]; exact rvP_sub h hv
      · rw [if_neg ‹_›]; exact hv
    · exact hv

theorem A2_eq {cl : CallT} {e e' : E} {o : O} {s : Stp} {v : V} (h : ∀ t ∈ s.uses, e t = e' t) : A2 cl e o s v ↔ A2 cl e' o s v := by
  have hi := rvP_eq (cl := cl) (o := o) (v := v) (fun t ht => h t (usesI_sub s t ht))
  unfold A2
  cases hg : s.g with
  | none => exact hi
  | some x =>
    obtain ⟨t, p⟩ := x
    simp only
    rw [← h t (by simp [Stp.uses, hg])]
    split
    · split
      · exact hi
      · exact Iff.rfl
    · exact Iff.rfl

/-- what an operation that makes an object makes -/
def mkP (e : E) (j : I) (r : V ⊕ ((Nat → V) × Ob)) : Prop :=
  match j with
  | .alc z => r = .inr (fun id => .pt id 0 0, .row z.length [z])
  | .box x => (x.ev e).cells ≠ [] ∧ r = .inr (fun id => .pt id 0 0, .row (x.ev e).cells.length [(x.ev e).cells])
  | .bsl sz n z ps => if n = 0 then r = .inl .nil else
    match fillE e sz ps (List.replicate n z) with
    | some es => r = .inr (fun id => .rw id sz 0 n, .row sz es)
    | none => False
  | .mks sz byt z l c => match natV (l.ev e), natV (c.ev e) with
    | some l, some c => l ≤ c ∧ sizeOk c byt ∧ r = .inr (fun id => .rw id sz 0 l, .row sz (List.replicate l z))
    | _, _ => False
  | .mkm => r = .inr (fun id => .mp id, .map [] 0)
  | _ => False

def mkK (o : O) (K : V → O → Prop) : V ⊕ ((Nat → V) × Ob) → Prop
  | .inl v => K v o
  | .inr (f, ob) => ∀ id, o id = none → K (f id) (upd o id (some ob))

theorem W_mkP {cl : CallT} {e : E} {o : O} {K : V → O → Prop} {j : I} (hc : cls j = 3) : W cl e o K j ↔ ∃ r, mkP e j r ∧ mkK o K r := by
  cases j <;> simp only [cls] at hc <;> (first | omega | skip)
  case alc z => simp [W, mkP, mkK]
  case box x =>
    simp only [W, mkP]
    exact ⟨fun h => ⟨_, ⟨h.1, rfl⟩, h.2⟩, fun ⟨r, h, hk⟩ => ⟨h.1, by rw [h.2] at hk; exact hk⟩⟩
  case bsl sz n z ps =>
    simp only [W, mkP]
    split
    · simp [mkK]
    · cases fillE e sz ps (List.replicate n z) with
      | none => simp
      | some es => exact ⟨fun h => ⟨_, rfl, h⟩, fun ⟨r, h, hk⟩ => by rw [h] at hk; exact hk⟩
  case mks sz byt z l c =>
    simp only [W, mkP]
    cases natV (l.ev e) with
    | none => simp
    | some l => cases natV (c.ev e) with
      | none => simp
      | some c => exact ⟨fun h => ⟨_, ⟨h.1, h.2.1, rfl⟩, h.2.2⟩, fun ⟨r, h, hk⟩ => ⟨h.1, h.2.1, by rw [h.2.2] at hk; exact hk⟩⟩
  case mkm => simp [W, mkP, mkK]

theorem mkP_eq {e e' : E} {j : I} {r : V ⊕ ((Nat → V) × Ob)} (h : ∀ t ∈ usesI j, e t = e' t) : mkP e j r ↔ mkP e' j r := by
  cases j <;> simp only [usesI, List.mem_append] at h <;> simp only [mkP]
  case box x => rw [ev_eq (e := e) (e' := e') (x := x) h]
  case bsl sz n z ps => rw [fillE_eq ps _ h]
  case mks _ _ _ x y => rw [ev_eq (e := e) (e' := e') (x := x) (fun t ht => h t (.inl ht)), ev_eq (e := e) (e' := e') (x := y) (fun t ht => h t (.inr ht))]

def A3 (e : E) (s : Stp) (r : V ⊕ ((Nat → V) × Ob)) : Prop :=
  match s.g with
  | none => mkP e s.i r
  | some (t, p) => match gdV p (e t) with
    | .bo q => if q = p then mkP e s.i r else r = .inl (.tp [])
    | _ => False

theorem WS_A3 {cl : CallT} {e : E} {o : O} {K : E → O → Prop} {s : Stp} (hc : cls s.i = 3) (hst : s.st = []) :
    WS cl s e o K ↔ ∃ r, A3 e s r ∧ mkK o (fun v o' => K (put e s.d v) o') r := by
  unfold WS A3
  cases hg : s.g with
  | none => simp only [hst, stb, true_and]; exact W_mkP hc
  | some x =>
    obtain ⟨t, p⟩ := x
    simp only
    cases gdV p (e t) <;> simp only [false_and, exists_false, hst, stb, true_and]
    split
    · exact W_mkP hc
    · simp [mkK]

theorem A3_eq {e e' : E} {s : Stp} {r : V ⊕ ((Nat → V) × Ob)} (h : ∀ t ∈ s.uses, e t = e' t) : A3 e s r ↔ A3 e' s r := by
  have hi := mkP_eq (r := r) (fun t ht => h t (usesI_sub s t ht))
  unfold A3
  cases hg : s.g with
  | none => exact hi
  | some x =>
    obtain ⟨t, p⟩ := x
    simp only
    rw [← h t (by simp [Stp.uses, hg])]
    split
    · split
      · exact hi
      · exact Iff.rfl
    · exact Iff.rfl

theorem mkP_fun {e : E} {j : I} {q q' : V ⊕ ((Nat → V) × Ob)} (h1 : mkP e j q) (h2 : mkP e j q') : q = q' := by
  cases j <;> simp only [mkP] at h1 h2 <;> try exact h1.elim
  case alc => rw [h1, h2]
  case box => rw [h1.2, h2.2]
  case bsl sz n z ps =>
    split at h1
    · rw [if_pos ‹_›] at h2; rw [h1, h2]
    · rw [if_neg ‹_›] at h2
      cases hf : fillE e sz ps (List.replicate n z) with
      | none => rw [hf] at h1; exact h1.elim
      | some es => rw [hf] at h1 h2; simp only at h1 h2; rw [h1, h2]
  case mks sz byt z l c =>
    cases hl : natV (l.ev e) with
    | none => rw [hl] at h1; exact h1.elim
    | some l => cases hc : natV (c.ev e) with
      | none => rw [hl, hc] at h1; exact h1.elim
      | some c => rw [hl, hc] at h1 h2; simp only at h1 h2; rw [h1.2.2, h2.2.2]
  case mkm => rw [h1, h2]

/-- two steps change places -/
theorem swap {cl : CallT} {x y : Stp} {e : E} {o : O} {K : E → O → Prop} (hs : swappable x y = true) (hfree : ∃ id, o id = none) (hx : x.st = []) (hy : y.st = [])
    (h : WS cl x e o (fun e o => WS cl y e o K)) : WS cl y e o (fun e o => WS cl x e o K) := by
  simp only [swappable, Bool.and_eq_true, Bool.or_eq_true, decide_eq_true_eq] at hs
  obtain ⟨ha, hc⟩ := hs
  obtain ⟨ay, ax, ad⟩ := apart_spec ha
  have ey : ∀ v, ∀ t ∈ y.uses, put e x.d v t = e t := fun v t ht => put_of_ne (ay t ht)
  have ex : ∀ v, ∀ t ∈ x.uses, put e y.d v t = e t := fun v t ht => put_of_ne (ax t ht)
  have cm : ∀ v u, put (put e x.d v) y.d u = put (put e y.d u) x.d v := fun v u => put_comm e v u ad
  by_cases c2 : cls x.i ≤ 2
  · by_cases d2 : cls y.i ≤ 2
    · rw [WS_A2 c2 hx] at h
      obtain ⟨v, hv, h⟩ := h
      rw [WS_A2 d2 hy] at h
      obtain ⟨u, hu, h⟩ := h
      rw [WS_A2 d2 hy]
      refine ⟨u, (A2_eq (ey v)).1 hu, ?_⟩
      rw [WS_A2 c2 hx]
      exact ⟨v, (A2_eq (ex u)).2 hv, by rw [← cm]; exact h⟩
    · have d3 : cls y.i = 3 := by omega
      rw [WS_A2 c2 hx] at h
      obtain ⟨v, hv, h⟩ := h
      rw [WS_A3 d3 hy] at h
      obtain ⟨r, hr, h⟩ := h
      rw [WS_A3 d3 hy]
      refine ⟨r, (A3_eq (ey v)).1 hr, ?_⟩
      cases r with
      | inl u =>
        show WS cl x (put e y.d u) o K
        rw [WS_A2 c2 hx]
        exact ⟨v, (A2_eq (ex u)).2 hv, by rw [← cm]; exact h⟩
      | inr p =>
        obtain ⟨f, ob⟩ := p
        intro id hid
        rw [WS_A2 c2 hx]
        exact ⟨v, A2_sub (Sub.upd hid) ((A2_eq (ex _)).2 hv), by rw [← cm]; exact h id hid⟩
  · have c3 : cls x.i = 3 := by omega
    have d3 : cls y.i = 3 := by omega
    rw [WS_A3 c3 hx] at h
    obtain ⟨r, hr, h⟩ := h
    rw [WS_A3 d3 hy]
    cases r with
    | inl v =>
      have h : WS cl y (put e x.d v) o K := h
      rw [WS_A3 d3 hy] at h
      obtain ⟨q, hq, h⟩ := h
      refine ⟨q, (A3_eq (ey v)).1 hq, ?_⟩
      cases q with
      | inl u =>
        show WS cl x (put e y.d u) o K
        rw [WS_A3 c3 hx]
        exact ⟨.inl v, (A3_eq (ex u)).2 hr, by show K _ o; rw [← cm]; exact h⟩
      | inr p =>
        obtain ⟨f, ob⟩ := p
        intro id hid
        rw [WS_A3 c3 hx]
        exact ⟨.inl v, (A3_eq (ex _)).2 hr, by show K _ _; rw [← cm]; exact h id hid⟩
    | inr p =>
      obtain ⟨f, ob⟩ := p
      have h : ∀ id, o id = none → WS cl y (put e x.d (f id)) (upd o id (some ob)) K := h
      have h' : ∀ id, o id = none → ∃ q, A3 e y q ∧ mkK (upd o id (some ob)) (fun v o' => K (put (put e x.d (f id)) y.d v) o') q := by
        intro id hid
        obtain ⟨q, hq, hk⟩ := (WS_A3 d3 hy).1 (h id hid)
        exact ⟨q, (A3_eq (ey _)).1 hq, hk⟩
      have hfun : ∀ q q', A3 e y q → A3 e y q' → q = q' := by
        intro q q' h1 h2
        unfold A3 at h1 h2
        have mk : ∀ q q', mkP e y.i q → mkP e y.i q' → q = q' := by
          intro q q' h1 h2
          exact mkP_fun h1 h2
        cases hg : y.g with
        | none => simp only [hg] at h1 h2; exact mk _ _ h1 h2
        | some z =>
          obtain ⟨t, pp⟩ := z
          simp only [hg] at h1 h2
          cases he : gdV pp (e t) <;> simp only [he] at h1 h2 <;> try exact h1.elim
          split at h1
          · rw [if_pos ‹_›] at h2; exact mk _ _ h1 h2
          · rw [if_neg ‹_›] at h2; rw [h1, h2]
      · obtain ⟨id0, hid0⟩ := hfree
        obtain ⟨q, hq, _⟩ := h' id0 hid0
        have h'' : ∀ id, o id = none → mkK (upd o id (some ob)) (fun v o' => K (put (put e x.d (f id)) y.d v) o') q := by
          intro id hid
          obtain ⟨q', hq', hk⟩ := h' id hid
          rw [hfun q q' hq hq']; exact hk
        refine ⟨q, hq, ?_⟩
        cases q with
        | inl u =>
          show WS cl x (put e y.d u) o K
          rw [WS_A3 c3 hx]
          refine ⟨.inr (f, ob), (A3_eq (ex u)).2 hr, ?_⟩
          intro id hid
          have := h'' id hid
          show K _ _
          rw [← cm]; exact this
        | inr p2 =>
          obtain ⟨f2, ob2⟩ := p2
          intro id2 hid2
          show WS cl x (put e y.d (f2 id2)) (upd o id2 (some ob2)) K
          rw [WS_A3 c3 hx]
          refine ⟨.inr (f, ob), (A3_eq (ex _)).2 hr, ?_⟩
          intro id hid
          have hne : id ≠ id2 := by intro hh; subst hh; simp [upd] at hid
          have hid' : o id = none := by simpa [upd, hne] using hid
          have := h'' id hid' id2 (by simp [upd, Ne.symm hne, hid2])
          show K _ _
          rw [← cm]
          rw [upd_comm o hne]; exact this

def Fin (o : O) : Prop := ∃ n, ∀ id, n ≤ id → o id = none

theorem Fin.free {o : O} (h : Fin o) : ∃ id, o id = none := by obtain ⟨n, h⟩ := h; exact ⟨n, h n (Nat.le_refl _)⟩

theorem Fin.upd {o : O} (h : Fin o) (id : Nat) (ob : Ob) : Fin (upd o id (some ob)) := by
  obtain ⟨n, h⟩ := h
  refine ⟨max n (id + 1), fun j hj => ?_⟩
  simp only [Go.Proofs.Ytiadalheipbpcaa.upd]
  rw [if_neg (by omega)]
  exact h j (by omega)

theorem WS_fin {cl : CallT} {s : Stp} {e : E} {o : O} {K : E → O → Prop} (hc : cls s.i ≤ 3) (hst : s.st = []) (hf : Fin o) (h : WS cl s e o K) : WS cl s e o (fun e o => Fin o ∧ K e o) := by
  by_cases h2 : cls s.i ≤ 2
  · rw [WS_A2 h2 hst] at h ⊢
    obtain ⟨v, hv, h⟩ := h
    exact ⟨v, hv, hf, h⟩
  · have h3 : cls s.i = 3 := by omega
    rw [WS_A3 h3 hst] at h ⊢
    obtain ⟨r, hr, h⟩ := h
    refine ⟨r, hr, ?_⟩
    cases r with
    | inl v => exact ⟨hf, h⟩
    | inr p => exact fun id hid => ⟨hf.upd _ _, h id hid⟩

theorem Le_refl_of {cl : CallT} (h : Le cl cl) : Le cl cl := h

/-- a step of the first three kinds goes ahead of steps with which it changes places -/
theorem move {cl : CallT} (hcl : Le cl cl) {y : Stp} {m2 : List Stp} {K : E → O → Prop} (hy : y.st = []) :
    ∀ (m1 : List Stp) (e : E) (o : O), (∀ x ∈ m1, swappable x y = true ∧ x.st = []) → Fin o → wpR cl (m1 ++ y :: m2) K e o → WS cl y e o (wpR cl (m1 ++ m2) K) := by
  intro m1
  induction m1 with
  | nil => exact fun e o _ _ h => h
  | cons x m1 ih =>
    intro e o hs hf h
    obtain ⟨hx, hxs⟩ := hs x (by simp)
    have hc : cls x.i ≤ 3 := by
      simp only [swappable, Bool.and_eq_true, Bool.or_eq_true, decide_eq_true_eq] at hx
      omega
    have h : WS cl x e o (wpR cl (m1 ++ y :: m2) K) := h
    have h1 := WS_fin hc hxs hf h
    have h2 : WS cl x e o (fun e o => WS cl y e o (wpR cl (m1 ++ m2) K)) :=
      WS_le hcl (fun e o hh => ih e o (fun z hz => hs z (by simp [hz])) hh.1 hh.2) h1
    exact swap hx hf.free hxs hy h2

/-! a step of the last kind goes ahead of steps that only read, where what they read stays -/
def Stp.bare (s : Stp) : Stp := { s with st := [] }

def WSv (cl : CallT) (s : Stp) (e : E) (o : O) (K : V → O → Prop) : Prop :=
  match s.g with
  | none => W cl e o K s.i
  | some (t, p) => match gdV p (e t) with
    | .bo q => if q = p then W cl e o K s.i else K (.tp []) o
    | _ => False

theorem WSv_bare {cl : CallT} {s : Stp} {e : E} {o : O} {K : E → O → Prop} : WS cl s.bare e o K ↔ WSv cl s e o (fun v o' => K (put e s.d v) o') := by
  unfold WS WSv Stp.bare
  simp only [stb, true_and]
  cases s.g with
  | none => exact Iff.rfl
  | some x =>
    obtain ⟨t, p⟩ := x
    simp only
    cases gdV p (e t) <;> exact Iff.rfl

theorem WSv_eq {cl : CallT} {s : Stp} {e e' : E} {o : O} {K : V → O → Prop} (h : ∀ t ∈ s.uses, e t = e' t) : WSv cl s e o K ↔ WSv cl s e' o K := by
  have hi := W_eq (cl := cl) (o := o) (K := K) (fun t ht => h t (usesI_sub s t ht))
  unfold WSv
  cases hg : s.g with
  | none => simp only [hi]
  | some x =>
    obtain ⟨t, p⟩ := x
    simp only
    rw [← h t (by simp [Stp.uses, hg])]
    split
    · split
      · rw [hi]
      · exact Iff.rfl
    · exact Iff.rfl

theorem WSv_le {cl : CallT} (hcl : Le cl cl) {s : Stp} {e : E} {o : O} {K K' : V → O → Prop} (hk : ∀ v o, K v o → K' v o) (h : WSv cl s e o K) : WSv cl s e o K' := by
  unfold WSv at h ⊢
  split at h
  · exact W_le hcl hk h
  · split at h
    · split at h
      · rw [if_pos ‹_›]; exact W_le hcl hk h
      · rw [if_neg ‹_›]; exact hk _ _ h
    · exact h

theorem stb_mem {e : E} {o : O} {e' : E} {o' : O} {l : List I} (h : stb e o e' o' l) : ∀ j ∈ l, rv e' o' j = rv e o j := by
  induction l with
  | nil => intro j hj; cases hj
  | cons x l ih =>
    intro j hj
    cases List.mem_cons.1 hj with
    | inl hh => rw [hh]; exact h.1
    | inr hh => exact ih h.2 j hh

/-- x, which stands ahead of y, z between them -/
structure Rd (x : Stp) (bet : List Stp) (y : Stp) : Prop where
  c : cls x.i ≤ 1
  ap : apart x y = true
  st : x.st = []
  mem : cls x.i = 1 → x.i ∈ y.st
  self : ∀ t ∈ x.uses, x.d ≠ some t
  bet : ∀ z ∈ bet, ∀ t ∈ x.uses, z.d ≠ some t

def Rds (y : Stp) : List Stp → Prop
  | [] => True
  | x :: l => Rd x l y ∧ Rds y l

theorem moveC {cl : CallT} (hcl : Le cl cl) {y : Stp} {m2 : List Stp} {K : E → O → Prop} :
    ∀ (m1 : List Stp) (e : E) (o : O), Rds y m1 → wpR cl (m1 ++ y :: m2) K e o →
      WSv cl y e o (fun v o' => (∀ j ∈ y.st, (∀ t ∈ usesI j, y.d ≠ some t ∧ ∀ x ∈ m1, x.d ≠ some t) → rv (put e y.d v) o' j = rv e o j) ∧ wpR cl (m1 ++ m2) K (put e y.d v) o') := by
  intro m1
  induction m1 with
  | nil =>
    intro e o _ h
    have h : WS cl y e o (wpR cl m2 K) := h
    unfold WS at h
    unfold WSv
    cases hg : y.g with
    | none => rw [hg] at h; exact W_le hcl (fun v o' hh => ⟨fun j hj _ => stb_mem hh.1 j hj, hh.2⟩) h
    | some z =>
      obtain ⟨t, p⟩ := z
      rw [hg] at h
      simp only at h ⊢
      cases he : gdV p (e t) <;> rw [he] at h <;> try exact h.elim
      simp only at h ⊢
      split
      · rw [if_pos ‹_›] at h; exact W_le hcl (fun v o' hh => ⟨fun j hj _ => stb_mem hh.1 j hj, hh.2⟩) h
      · rw [if_neg ‹_›] at h
        exact ⟨fun j _ hu => rv_eq (fun t ht => put_of_ne (hu t ht).1), h⟩
  | cons x m1 ih =>
    intro e o hr h
    obtain ⟨hx, hr⟩ := hr
    have h : WS cl x e o (wpR cl (m1 ++ y :: m2) K) := h
    have c2 : cls x.i ≤ 2 := Nat.le_succ_of_le hx.c
    rw [WS_A2 c2 hx.st] at h
    obtain ⟨vx, hv, h⟩ := h
    obtain ⟨ay, ax, ad⟩ := apart_spec hx.ap
    have h1 := ih (put e x.d vx) o hr h
    have h2 := (WSv_eq (fun t ht => put_of_ne (ay t ht))).1 h1
    refine WSv_le hcl ?_ h2
    rintro v o' ⟨hs, hw⟩
    have ep : put (put e x.d vx) y.d v = put (put e y.d v) x.d vx := put_comm e vx v ad
    rw [ep] at hw
    refine ⟨fun j hj hu => ?_, ?_⟩
    · have e1 := hs j hj (fun t ht => ⟨(hu t ht).1, fun z hz => (hu t ht).2 z (by simp [hz])⟩)
      rw [ep] at e1
      rw [rv_eq (e := put (put e y.d v) x.d vx) (e' := put e y.d v) (fun t ht => put_of_ne ((hu t ht).2 x (by simp)))] at e1
      rw [rv_eq (e := put e x.d vx) (e' := e) (fun t ht => put_of_ne ((hu t ht).2 x (by simp)))] at e1
      exact e1
    · show WS cl x (put e y.d v) o' (wpR cl (m1 ++ m2) K)
      rw [WS_A2 c2 hx.st]
      refine ⟨vx, ?_, hw⟩
      have hrv : rvP cl e o x.i vx → rvP cl (put e y.d v) o' x.i vx := by
        intro hp
        by_cases h0 : cls x.i = 0
        · have hq : ∃ q, x.i = .q q := by
            cases hi : x.i <;> simp only [hi, cls] at h0 <;> (first | exact ⟨_, rfl⟩ | omega)
          obtain ⟨q, hq⟩ := hq
          rw [hq] at hp ⊢
          simp only [rvP, rv] at hp ⊢
          rw [qv_eq (e := put e y.d v) (e' := e)]
          · exact hp
          · intro t ht
            exact put_of_ne (ax t (usesI_sub x t (by rw [hq]; exact ht)))
        · have h1 : cls x.i = 1 := by have := hx.c; omega
          have hp' : rv e o x.i = some vx := by
            cases hi : x.i <;> simp only [hi, cls] at h1 <;> (first | (rw [hi] at hp; exact hp) | omega)
          have e1 := hs x.i (hx.mem h1) (fun t ht => ⟨ax t (usesI_sub x t ht), fun z hz => hx.bet z hz t (usesI_sub x t ht)⟩)
          rw [ep] at e1
          rw [rv_eq (e := put (put e y.d v) x.d vx) (e' := put e y.d v) (fun t ht => put_of_ne (hx.self t (usesI_sub x t ht)))] at e1
          rw [rv_eq (e := put e x.d vx) (e' := e) (fun t ht => put_of_ne (hx.self t (usesI_sub x t ht)))] at e1
          rw [hp'] at e1
          cases hi : x.i <;> simp only [hi, cls] at h1 <;> (first | (rw [hi] at e1; exact e1) | omega)
      unfold A2 at hv ⊢
      cases hg : x.g with
      | none => rw [hg] at hv; exact hrv hv
      | some z =>
        obtain ⟨t, p⟩ := z
        rw [hg] at hv
        simp only at hv ⊢
        rw [put_of_ne (ax t (by simp [Stp.uses, hg]))]
        cases he : gdV p (e t) <;> rw [he] at hv <;> try exact hv.elim
        simp only at hv ⊢
        split
        · rw [if_pos ‹_›] at hv; exact hrv hv
        · rw [if_neg ‹_›] at hv; exact hv

end Go.Proofs.Ytiadalheipbpcaa
