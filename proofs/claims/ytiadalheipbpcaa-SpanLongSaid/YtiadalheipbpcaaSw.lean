/-
  Regions whose order is drawn.
-/
import Derived.Test.YtiadalheipbpcaaSv
namespace Go.Proofs.Ytiadalheipbpcaa
set_option linter.all false

def bfF (b : Array Nat) (o : Oper) : Nat := o.after.foldl (fun s e => if Region.binds .any e then s ||| 2 ^ e.on ||| b.getD e.on 0 else s) 0

theorem foldl_bits (b : Array Nat) (x : Nat) : ∀ (l : List Edge) (s : Nat), (l.foldl (fun s e => if Region.binds .any e then s ||| 2 ^ e.on ||| b.getD e.on 0 else s) s).testBit x = true ↔
    s.testBit x = true ∨ ∃ e ∈ l, Region.binds .any e = true ∧ (e.on = x ∨ bf b e.on x = true) := by
  intro l
  induction l with
  | nil => intro s; simp
  | cons e l ih =>
    intro s
    rw [List.foldl_cons, ih]
    by_cases h : Region.binds .any e = true
    · simp only [h, if_true, Nat.testBit_or, Bool.or_eq_true, Nat.testBit_two_pow, decide_eq_true_eq]
      constructor
      · rintro (((h1 | h1) | h1) | ⟨e', h1, h2⟩)
        · exact .inl h1
        · exact .inr ⟨e, by simp, h, .inl h1⟩
        · exact .inr ⟨e, by simp, h, .inr h1⟩
        · exact .inr ⟨e', by simp [h1], h2⟩
      · rintro (h1 | ⟨e', h1, h2, h3⟩)
        · exact .inl (.inl (.inl h1))
        · rcases List.mem_cons.1 h1 with rfl | h1
          · rcases h3 with h3 | h3
            · exact .inl (.inl (.inr h3))
            · exact .inl (.inr h3)
          · exact .inr ⟨e', h1, h2, h3⟩
    · simp only [h]
      constructor
      · rintro (h1 | ⟨e', h1, h2⟩)
        · exact .inl h1
        · exact .inr ⟨e', by simp [h1], h2⟩
      · rintro (h1 | ⟨e', h1, h2, h3⟩)
        · exact .inl h1
        · rcases List.mem_cons.1 h1 with rfl | h1
          · exact (h h2).elim
          · exact .inr ⟨e', h1, h2, h3⟩

theorem foldl_same {b b' : Array Nat} : ∀ (l : List Edge) (s : Nat), (∀ e ∈ l, Region.binds .any e = true → b.getD e.on 0 = b'.getD e.on 0) →
    l.foldl (fun s e => if Region.binds .any e then s ||| 2 ^ e.on ||| b.getD e.on 0 else s) s = l.foldl (fun s e => if Region.binds .any e then s ||| 2 ^ e.on ||| b'.getD e.on 0 else s) s := by
  intro l
  induction l with
  | nil => intro s _; rfl
  | cons e l ih =>
    intro s h
    rw [List.foldl_cons, List.foldl_cons]
    have e1 : (if Region.binds .any e then s ||| 2 ^ e.on ||| b.getD e.on 0 else s) = (if Region.binds .any e then s ||| 2 ^ e.on ||| b'.getD e.on 0 else s) := by
      by_cases hb : Region.binds .any e = true
      · simp only [hb, if_true]; rw [h e (by simp) hb]
      · simp [hb]
    rw [e1]
    exact ih _ fun e' he' => h e' (by simp [he'])

theorem before_spec : ∀ (L : List Oper) (acc : Array Nat), (∀ (k : Nat) o, L[k]? = some o → ∀ e ∈ o.after.toList, Region.binds .any e = true → e.on < acc.size + k) →
    ∀ r, r = L.foldl (fun acc o => acc.push (bfF acc o)) acc → r.size = acc.size + L.length ∧ (∀ i, i < acc.size → r[i]? = acc[i]?) ∧ ∀ (k : Nat) o, L[k]? = some o → r[acc.size + k]? = some (bfF r o) := by
  intro L
  induction L with
  | nil => intro acc _ r hr; subst hr; simp
  | cons o L ih =>
    intro acc h r hr
    rw [List.foldl_cons] at hr
    obtain ⟨h1, h2, h3⟩ := ih (acc.push (bfF acc o)) (fun k o' hk e he hb => by
      have := h (k + 1) o' (by simpa using hk) e he hb
      rw [Array.size_push]; omega) r hr
    rw [Array.size_push] at h1 h2 h3
    refine ⟨by simp [h1]; omega, fun i hi => ?_, fun k o' hk => ?_⟩
    · rw [h2 i (by omega), Array.getElem?_push_lt hi, Array.getElem?_eq_getElem hi]
    · cases k with
      | succ k =>
        have := h3 k o' (by simpa using hk)
        rw [← this]; congr 1; omega
      | zero =>
        simp at hk
        subst hk
        rw [Nat.add_zero, h2 _ (by omega)]
        simp only [Array.getElem?_push_size, Option.some.injEq]
        unfold bfF
        rw [← Array.foldl_toList, ← Array.foldl_toList]
        apply foldl_same
        intro e he hb
        have := h 0 o rfl e he hb
        rw [Array.getD_eq_getD_getElem?, Array.getD_eq_getD_getElem?, h2 e.on (by omega), Array.getElem?_push_lt (by omega), Array.getElem?_eq_getElem (by omega)]

theorem bf_iff {ops : Array Oper} (hb : edgesBack ops = true) {y : Nat} {o : Oper} (ho : ops[y]? = some o) (x : Nat) :
    bf (Region.before ops) y x = true ↔ ∃ e ∈ o.after, Region.binds .any e = true ∧ (e.on = x ∨ bf (Region.before ops) e.on x = true) := by
  have hedge : ∀ (k : Nat) o, ops.toList[k]? = some o → ∀ e ∈ o.after.toList, Region.binds .any e = true → e.on < (#[] : Array Nat).size + k := by
    intro k o hk e he hbe
    rw [Array.getElem?_toList] at hk
    have hlt := (Array.getElem?_eq_some_iff.1 hk).1
    unfold edgesBack at hb
    have h1 := List.all_eq_true.1 hb k (by simpa using hlt)
    rw [Array.getD_eq_getD_getElem?, hk] at h1
    have h2 := Array.all_eq_true_iff_forall_mem.1 h1 e (by simpa using he)
    simp only [hbe, Bool.not_true, Bool.false_or, decide_eq_true_eq] at h2
    simpa using h2
  obtain ⟨_, _, h3⟩ := before_spec ops.toList #[] hedge (Region.before ops) (by unfold Region.before; rw [← Array.foldl_toList]; rfl)
  have h4 := h3 y o (by rw [Array.getElem?_toList]; exact ho)
  simp only [List.size_toArray, List.length_nil, Nat.zero_add] at h4
  unfold bf
  rw [Array.getD_eq_getD_getElem?, h4, Option.getD_some]
  unfold bfF
  rw [← Array.foldl_toList, foldl_bits]
  simp only [Nat.zero_testBit, Bool.false_eq_true, false_or, Array.mem_toList_iff]
  exact Iff.rfl

/-- the steps that are still to come, each with its place -/
def mkS (f : Nat → Stp) (b : Array Nat) : List Nat → List Nat → List (Nat × Stp)
  | [], _ => []
  | y :: l, ahead => (y, { f y with st := stabs f b y ahead }) :: mkS f b l (ahead ++ [y])

theorem mkS_snd (f : Nat → Stp) (b : Array Nat) : ∀ (l ahead : List Nat), (mkS f b l ahead).map (·.2) = withSt f b l ahead := by
  intro l
  induction l with
  | nil => intro ahead; rfl
  | cons y l ih => intro ahead; simp [mkS, withSt, ih]

theorem mkS_fst (f : Nat → Stp) (b : Array Nat) : ∀ (l ahead : List Nat), (mkS f b l ahead).map (·.1) = l := by
  intro l
  induction l with
  | nil => intro ahead; rfl
  | cons y l ih => intro ahead; simp [mkS, ih]

theorem mkS_at (f : Nat → Stp) (b : Array Nat) : ∀ (l ahead : List Nat) (m1 : List (Nat × Stp)) (Y : Nat × Stp) (m2 : List (Nat × Stp)), mkS f b l ahead = m1 ++ Y :: m2 →
    Y.2 = { f Y.1 with st := stabs f b Y.1 (ahead ++ m1.map (·.1)) } := by
  intro l
  induction l with
  | nil => intro ahead m1 Y m2 h; simp [mkS] at h
  | cons y l ih =>
    intro ahead m1 Y m2 h
    cases m1 with
    | nil => simp only [mkS, List.nil_append, List.cons.injEq] at h; rw [← h.1]; simp
    | cons X m1 =>
      simp only [mkS, List.cons_append, List.cons.injEq] at h
      have := ih _ m1 Y m2 h.2
      rw [this, ← h.1]
      simp

theorem pairsOk_at (f : Nat → Stp) (b : Array Nat) (y : Nat) : ∀ (l bt : List Nat), pairsOk f b y l bt = true → ∀ (l1 : List Nat) (x : Nat) (l2 : List Nat), l = l1 ++ x :: l2 →
    bf b x y = false ∧ (bf b y x = true ∨ pairOk f y (l1.reverse ++ bt) x = true) := by
  intro l
  induction l with
  | nil => intro bt _ l1 x l2 h; simp at h
  | cons z l ih =>
    intro bt h l1 x l2 hl
    simp only [pairsOk, Bool.and_eq_true, Bool.or_eq_true, Bool.not_eq_true'] at h
    cases l1 with
    | nil => simp only [List.nil_append, List.cons.injEq] at hl; rw [← hl.1]; exact ⟨h.1.1, by simpa using h.1.2⟩
    | cons z' l1 =>
      simp only [List.cons_append, List.cons.injEq] at hl
      have := ih _ h.2 l1 x l2 hl.2
      rw [List.reverse_cons, List.append_assoc, ← hl.1]
      exact this

theorem listOk_at (f : Nat → Stp) (b : Array Nat) : ∀ (l rev : List Nat), listOk f b l rev = true → ∀ (l1 : List Nat) (y : Nat) (l2 : List Nat), l = l1 ++ y :: l2 → pairsOk f b y (l1.reverse ++ rev) [] = true := by
  intro l
  induction l with
  | nil => intro rev _ l1 y l2 h; simp at h
  | cons z l ih =>
    intro rev h l1 y l2 hl
    simp only [listOk, Bool.and_eq_true] at h
    cases l1 with
    | nil => simp only [List.nil_append, List.cons.injEq] at hl; rw [← hl.1]; exact h.1
    | cons z' l1 =>
      simp only [List.cons_append, List.cons.injEq] at hl
      have := ih _ h.2 l1 y l2 hl.2
      rw [List.reverse_cons, List.append_assoc, ← hl.1]
      exact this

structure Gd (f : Nat → Stp) (b : Array Nat) (ms : List (Nat × Stp)) : Prop where
  nd : (ms.map (·.1)).Nodup
  stp : ∀ p ∈ ms, ∃ st, p.2 = { f p.1 with st := st } ∧ (cls (f p.1).i ≠ 4 → st = [])
  two : ∀ x y : Nat × Stp, List.Sublist [x, y] ms → bf b x.1 y.1 = false ∧ (bf b y.1 x.1 = true ∨
    if cls (f y.1).i = 4 then cls (f x.1).i ≤ 1 ∧ apart (f x.1) (f y.1) = true ∧ (f x.1).wr (f x.1).uses = false ∧ (cls (f x.1).i = 1 → (f x.1).i ∈ y.2.st)
    else swappable (f x.1) (f y.1) = true)
  three : ∀ x z y : Nat × Stp, List.Sublist [x, z, y] ms → bf b y.1 x.1 = true ∨ cls (f y.1).i ≠ 4 ∨ (f z.1).wr (f x.1).uses = false

theorem Gd.sub {f : Nat → Stp} {b : Array Nat} {ms ms' : List (Nat × Stp)} (h : Gd f b ms) (hs : List.Sublist ms' ms) : Gd f b ms' :=
  ⟨h.nd.sublist (hs.map _), fun p hp => h.stp p (hs.subset hp), fun x y hxy => h.two x y (hxy.trans hs), fun x z y hxy => h.three x z y (hxy.trans hs)⟩

theorem sub_two {α : Type} {x y : α} {l : List α} (h : List.Sublist [x, y] l) : ∃ A B C, l = A ++ x :: B ++ y :: C := by
  obtain ⟨r1, r2, rfl, h1, h2⟩ := List.cons_sublist_iff.1 h
  obtain ⟨A, B, rfl⟩ := List.append_of_mem h1
  obtain ⟨C, D, rfl⟩ := List.append_of_mem (List.singleton_sublist.1 h2)
  exact ⟨A, B ++ C, D, by simp⟩

theorem sub_three {α : Type} {x z y : α} {l : List α} (h : List.Sublist [x, z, y] l) : ∃ A B C D, l = A ++ x :: B ++ z :: C ++ y :: D := by
  obtain ⟨r1, r2, rfl, h1, h2⟩ := List.cons_sublist_iff.1 h
  obtain ⟨A, B, rfl⟩ := List.append_of_mem h1
  obtain ⟨C, D, E, rfl⟩ := sub_two h2
  exact ⟨A, B ++ C, D, E, by simp⟩

theorem Gd.start {f : Nat → Stp} {b : Array Nat} {l : List Nat} (hnd : l.Nodup) (h : listOk f b l [] = true) : Gd f b (mkS f b l []) := by
  have pairs : ∀ (M : List (Nat × Stp)) (y : Nat × Stp) (N : List (Nat × Stp)), mkS f b l [] = M ++ y :: N → pairsOk f b y.1 (M.map (·.1)).reverse [] = true ∧ y.2 = { f y.1 with st := stabs f b y.1 (M.map (·.1)) } := by
    intro M y N hM
    have h1 := mkS_fst f b l []
    rw [hM, List.map_append, List.map_cons] at h1
    have := listOk_at f b l [] h _ _ _ h1.symm
    refine ⟨by simpa using this, by simpa using mkS_at f b l [] M y N hM⟩
  refine ⟨by rw [mkS_fst]; exact hnd, fun p hp => ?_, fun x y hxy => ?_, fun x z y hxy => ?_⟩
  · obtain ⟨M, N, hM⟩ := List.append_of_mem hp
    refine ⟨_, (pairs M p N hM).2, fun hc => ?_⟩
    unfold stabs; rw [if_neg hc]
  · obtain ⟨A, B, C, hl⟩ := sub_two hxy
    obtain ⟨h1, h2⟩ := pairs (A ++ x :: B) y C hl
    obtain ⟨h3, h4⟩ := pairsOk_at f b y.1 _ [] h1 (B.map (·.1)).reverse x.1 (A.map (·.1)).reverse (by simp)
    refine ⟨h3, ?_⟩
    by_cases hb : bf b y.1 x.1 = true
    · exact .inl hb
    · right
      have h4 := h4.resolve_left hb
      unfold pairOk at h4
      split
      · rename_i hc
        rw [if_pos hc] at h4
        simp only [Bool.and_eq_true, decide_eq_true_eq, Bool.not_eq_true'] at h4
        refine ⟨h4.1.1.1, h4.1.1.2, h4.2, fun h5 => ?_⟩
        rw [h2]
        simp only [stabs, if_pos hc, List.mem_map, List.mem_filter, Bool.and_eq_true, decide_eq_true_eq, Bool.not_eq_true']
        exact ⟨x.1, ⟨⟨x, by simp, rfl⟩, h5, by simpa using hb⟩, rfl⟩
      · rename_i hc
        rw [if_neg hc] at h4
        exact h4
  · obtain ⟨A, B, C, D, hl⟩ := sub_three hxy
    obtain ⟨h1, h2⟩ := pairs (A ++ x :: B ++ z :: C) y D hl
    obtain ⟨h3, h4⟩ := pairsOk_at f b y.1 _ [] h1 ((B ++ z :: C).map (·.1)).reverse x.1 (A.map (·.1)).reverse (by simp)
    by_cases hb : bf b y.1 x.1 = true
    · exact .inl hb
    · right
      have h4 := h4.resolve_left hb
      unfold pairOk at h4
      by_cases hc : cls (f y.1).i = 4
      · right
        rw [if_pos hc] at h4
        simp only [Bool.and_eq_true, List.all_eq_true, Bool.not_eq_true'] at h4
        exact h4.1.2 z.1 (by simp)
      · exact .inl hc

theorem pairs_before {α : Type} {m1 m2 : List α} {x y : α} (h : x ∈ m1) : List.Sublist [x, y] (m1 ++ y :: m2) := by
  have h1 : List.Sublist ([x] ++ [y]) (m1 ++ y :: m2) := List.Sublist.append (List.singleton_sublist.2 h) (List.singleton_sublist.2 (by simp))
  exact h1

theorem rds_of {f : Nat → Stp} {b : Array Nat} {y : Nat × Stp} {m2 : List (Nat × Stp)} (hc : cls (f y.1).i = 4) :
    ∀ (m1 : List (Nat × Stp)), Gd f b (m1 ++ y :: m2) → (∀ x ∈ m1, bf b y.1 x.1 = false) → Rds y.2 (m1.map (·.2)) := by
  intro m1
  induction m1 with
  | nil => intro _ _; trivial
  | cons x m1 ih =>
    intro h hf
    suffices key : Rd x.2 (m1.map (·.2)) y.2 from ⟨key, ih (h.sub (by simp)) fun z hz => hf z (by simp [hz])⟩
    have hx := (h.two x y (pairs_before (by simp))).2.resolve_left (by rw [hf x (by simp)]; simp)
    rw [if_pos hc] at hx
    obtain ⟨sx, ex, hsx⟩ := h.stp x (by simp)
    obtain ⟨sy, ey, _⟩ := h.stp y (by simp)
    have wr_spec : ∀ (s : Stp) (l : List Nat), s.wr l = false → ∀ t ∈ l, s.d ≠ some t := by
      intro s l hw t ht hd
      unfold Stp.wr at hw
      rw [hd] at hw
      simp at hw
      exact hw ht
    refine ⟨?_, ?_, ?_, fun h1 => ?_, ?_, fun z hz => ?_⟩
    · rw [ex]; exact hx.1
    · rw [ex, ey]; exact hx.2.1
    · rw [ex]; exact hsx (by have := hx.1; omega)
    · rw [ex] at h1 ⊢; exact hx.2.2.2 h1
    · rw [ex]; exact wr_spec (f x.1) (f x.1).uses hx.2.2.1
    · obtain ⟨p, hp, rfl⟩ := List.mem_map.1 hz
      obtain ⟨sp, ep, _⟩ := h.stp p (by simp [hp])
      have h3 := h.three x p y (by
        have : List.Sublist ([p] ++ [y]) (m1 ++ y :: m2) := pairs_before hp
        exact List.Sublist.cons_cons x this)
      rcases h3 with h3 | h3 | h3
      · rw [hf x (by simp)] at h3; cases h3
      · exact (h3 hc).elim
      · rw [ep, ex]; exact wr_spec (f p.1) (f x.1).uses h3

section
variable {P : Program} {c0 : Cx} {w0 : World} {N : Nat} {im : Nat → Bool} {ops : Array Oper} {Q : Exit → Act → World → Prop}

theorem WSv_st {cl : CallT} {s : Stp} {st : List I} {e : E} {o : O} {K : V → O → Prop} : WSv cl { s with st := st } e o K ↔ WSv cl s e o K := Iff.rfl

theorem any_ok (hs0 : Sep c0) (hb : edgesBack ops = true) {K : E → O → Prop} (hK : ∀ e o a w, K e o → Stt c0 w0 N e o a w → Q .normal a w) :
    ∀ (fuel : Nat) (listed : Array Bool) (ms : List (Nat × Stp)) (e : E) (o : O) (a : Act) (w : World), ms.length = fuel → Gd (stpAt P im N ops) (Region.before ops) ms → listed.size = ops.size →
      (∀ y, y ∈ ms.map (·.1) ↔ y < ops.size ∧ listed.getD y true = false) → (∀ y, listed.getD y false = true → ∀ x, bf (Region.before ops) y x = true → listed.getD x false = true) →
      wpR (Snd P) (ms.map (·.2)) K e o → Stt c0 w0 N e o a w → wpAny P .any ops Q fuel listed a w := by
  intro fuel
  induction fuel with
  | zero =>
    intro listed ms e o a w hl hG hsz hmem hcl h hS
    have : ms = [] := List.eq_nil_of_length_eq_zero hl
    subst this
    refine ⟨?_, hK e o a w h hS⟩
    rw [List.eq_nil_iff_forall_not_mem]
    intro y hy
    obtain ⟨h1, oy, hoy, _⟩ := mem_ready.1 hy
    have := (hmem y).2 ⟨(Array.getElem?_eq_some_iff.1 hoy).1, h1⟩
    simp at this
  | succ fuel ih =>
    intro listed ms e o a w hl hG hsz hmem hcl h hS
    have getT : ∀ y, y < ops.size → (listed.getD y true = false ↔ ¬ listed.getD y false = true) := by
      intro y hy
      have : y < listed.size := by omega
      simp [Array.getD_eq_getD_getElem?, Array.getElem?_eq_getElem this]
    refine ⟨fun hr => ?_, fun y hy => ?_⟩
    · -- the first of those to come is ready
      exfalso
      cases ms with
      | nil => simp at hl
      | cons p ms =>
        have hp := (hmem p.1).1 (by simp)
        have : p.1 ∈ Region.ready .any ops listed := by
          refine mem_ready.2 ⟨hp.2, ops[p.1]'hp.1, Array.getElem?_eq_getElem hp.1, fun ed he hbd => ?_⟩
          have hbf : bf (Region.before ops) p.1 ed.on = true := (bf_iff hb (Array.getElem?_eq_getElem hp.1) ed.on).2 ⟨ed, he, hbd, .inl rfl⟩
          have hlt : ed.on < p.1 := by
            unfold edgesBack at hb
            have h1 := List.all_eq_true.1 hb p.1 (by simpa using hp.1)
            rw [Array.getD_eq_getD_getElem?, Array.getElem?_eq_getElem hp.1] at h1
            have h2 := Array.all_eq_true_iff_forall_mem.1 h1 ed (by simpa using he)
            simpa only [hbd, Bool.not_true, Bool.false_or, decide_eq_true_eq] using h2
          have hlt2 : ed.on < ops.size := Nat.lt_trans hlt hp.1
          by_cases hh : listed.getD ed.on false = true
          · exact hh
          · have hm := (hmem ed.on).2 ⟨hlt2, (getT _ hlt2).2 hh⟩
            simp only [List.map_cons, List.mem_cons] at hm
            rcases hm with hm | hm
            · omega
            · obtain ⟨q, hq, hq1⟩ := List.mem_map.1 hm
              have := (hG.two p q (List.Sublist.cons_cons p (List.singleton_sublist.2 hq))).1
              rw [hq1, hbf] at this
              cases this
        rw [hr] at this
        cases this
    · obtain ⟨h1, oy, hoy, hready⟩ := mem_ready.1 hy
      have hylt := (Array.getElem?_eq_some_iff.1 hoy).1
      have hym := (hmem y).2 ⟨hylt, h1⟩
      obtain ⟨Y, hY, rfl⟩ := List.mem_map.1 hym
      obtain ⟨m1, m2, rfl⟩ := List.append_of_mem hY
      have hdone : ∀ x, bf (Region.before ops) Y.1 x = true → listed.getD x false = true := by
        intro x hx
        obtain ⟨ed, he, hbd, hh⟩ := (bf_iff hb hoy x).1 hx
        have := hready ed he hbd
        rcases hh with rfl | hh
        · exact this
        · exact hcl _ this x hh
      have hfree : ∀ x ∈ m1, bf (Region.before ops) Y.1 x.1 = false := by
        intro x hx
        cases hbf : bf (Region.before ops) Y.1 x.1 with
        | false => rfl
        | true =>
          have := (hmem x.1).1 (List.mem_map.2 ⟨x, by simp [hx], rfl⟩)
          exact absurd (hdone x.1 hbf) ((getT _ this.1).1 this.2)
      obtain ⟨sy, ey, hsy⟩ := hG.stp Y (by simp)
      have hle : Le (Snd P) (Snd P) := snd_le
      have hstep : WSv (Snd P) (stpAt P im N ops Y.1) e o (fun v o' => wpR (Snd P) ((m1 ++ m2).map (·.2)) K (put e (stpAt P im N ops Y.1).d v) o') := by
        rw [List.map_append, List.map_cons] at h
        rw [List.map_append]
        by_cases hc : cls (stpAt P im N ops Y.1).i = 4
        · have := moveC hle (m1.map (·.2)) e o (rds_of hc m1 hG hfree) h
          rw [ey] at this
          exact WSv_le hle (fun v o' hh => hh.2) (WSv_st.1 this)
        · have hsw : ∀ x ∈ m1.map (·.2), swappable x Y.2 = true ∧ x.st = [] := by
            intro x hx
            obtain ⟨X, hX, rfl⟩ := List.mem_map.1 hx
            have hx2 := (hG.two X Y (pairs_before hX)).2.resolve_left (by rw [hfree X hX]; simp)
            rw [if_neg hc] at hx2
            obtain ⟨sx, ex, hsx⟩ := hG.stp X (by simp [hX])
            refine ⟨by rw [ex, ey]; exact hx2, by
              rw [ex]
              refine hsx fun h4 => ?_
              simp only [swappable, Bool.and_eq_true, Bool.or_eq_true, decide_eq_true_eq, h4] at hx2
              omega⟩
          obtain ⟨c, _, _, _, _, hi, _⟩ := hS
          have := move hle (y := Y.2) (by rw [ey]; exact hsy hc) (m1.map (·.2)) e o hsw hi.fin h
          have := WS_v hle this
          rw [ey] at this
          exact WSv_st.1 this
      refine step_ok hs0 hoy hstep hS fun v o' a' w' hk hS' => ?_
      have hnd := hG.nd
      rw [List.map_append, List.map_cons, List.nodup_append] at hnd
      refine ih _ (m1 ++ m2) _ o' a' w' (by simp at hl ⊢; omega) (hG.sub (by simp)) (by simp [hsz]) (fun z => ?_) (fun z hz x hx => ?_) hk hS'
      · by_cases hzy : Y.1 = z
        · subst hzy
          constructor
          · intro hm
            exfalso
            rw [List.map_append, List.mem_append] at hm
            rcases hm with hm | hm
            · exact hnd.2.2 _ hm _ (by simp) rfl
            · exact (List.nodup_cons.1 hnd.2.1).1 hm
          · rintro ⟨_, hh⟩
            have : Y.1 < listed.size := by omega
            simp [Array.getD_eq_getD_getElem?, this] at hh
        · rw [getD_set_ne true hzy, ← hmem z]
          simp only [List.map_append, List.map_cons, List.mem_append, List.mem_cons]
          constructor
          · rintro (h | h)
            · exact .inl h
            · exact .inr (.inr h)
          · rintro (h | h | h)
            · exact .inl h
            · exact absurd h.symm hzy
            · exact .inr h
      · by_cases hzy : Y.1 = z
        · subst hzy
          exact getD_set_true (hdone x hx)
        · rw [getD_set_ne false hzy] at hz
          exact getD_set_true (hcl z hz x hx)

end

end Go.Proofs.Ytiadalheipbpcaa
