import Derived.Test.YtiadalheipbpcaaMc

/-
  Objects by names: the small machine with a name, chosen ahead, for each object that is made; values that stand for one another.
-/
namespace Go.Proofs.Ytiadalheipbpcaa
set_option linter.all false

/-! leads to no object, however deep -/
mutual
def cld : V → Bool
  | .ag cs => cldL cs
  | .tp cs => cldL cs
  | .fn _ cs => cldL cs
  | .sl es => cldLL es
  | .ip cs _ => cldL cs
  | .rw _ _ _ _ => false
  | .ra _ _ _ _ => false
  | .pt _ _ _ => false
  | .mp _ => false
  | .it _ => false
  | .jk => true
  | .bo _ => true
  | .i _ _ => true
  | .s _ => true
  | .nil => true
  | .np => true
  | .nf => true
  | .nm => true
def cldL : List V → Bool
  | [] => true
  | v :: vs => cld v && cldL vs
def cldLL : List (List V) → Bool
  | [] => true
  | c :: cs => cldL c && cldLL cs
end

/-! a name is taken for another object: what led to the old one is told no more -/
mutual
def swp (d : Nat) : V → V
  | .ag cs => .ag (swpL d cs)
  | .tp cs => .tp (swpL d cs)
  | .fn g cs => .fn g (swpL d cs)
  | .sl es => .sl es
  | .ip cs j => .ip cs j
  | .rw i sz off len => if i == d then .jk else .rw i sz off len
  | .ra i k j len => if i == d then .jk else .ra i k j len
  | .pt i k j => if i == d then .jk else .pt i k j
  | .mp i => if i == d then .jk else .mp i
  | .it i => if i == d then .jk else .it i
  | .jk => .jk
  | .bo p => .bo p
  | .i k n => .i k n
  | .s y => .s y
  | .nil => .nil
  | .np => .np
  | .nf => .nf
  | .nm => .nm
def swpL (d : Nat) : List V → List V
  | [] => []
  | v :: vs => swp d v :: swpL d vs
end

def swpR (d : Nat) (es : List (List V)) : List (List V) := es.map (swpL d)
def swpOb (d : Nat) : Ob → Option Ob
  | .row sz rs => some (.row sz (swpR d rs))
  | .map ents clock => some (.map (ents.map fun x => (x.1, swp d x.2.1, swp d x.2.2)) clock)
  | .iter mp since seen stepped => if mp == some d then none else some (.iter mp since seen stepped)
def swpO (d : Nat) (o : O) : O := fun s => if s == d then none else (o s).bind (swpOb d)
def swpE (d : Nat) (e : E) : E := fun t => swp d (e t)

theorem swpL_map (d : Nat) (cs : List V) : swpL d cs = cs.map (swp d) := by
  induction cs with
  | nil => rfl
  | cons v cs ih => simp [swpL, ih]
theorem cldL_iff (cs : List V) : cldL cs = true ↔ ∀ v ∈ cs, cld v = true := by
  induction cs with
  | nil => simp [cldL]
  | cons v cs ih => simp [cldL, ih]
theorem cldLL_iff (es : List (List V)) : cldLL es = true ↔ ∀ c ∈ es, cldL c = true := by
  induction es with
  | nil => simp [cldLL]
  | cons c es ih => simp [cldLL, ih]

abbrev Nm := Nat → Option Nat

inductive VR (m : Nm) : V → V → Prop where
  | jk (x : V) : VR m .jk x
  | bo (p : Bool) : VR m (.bo p) (.bo p)
  | i (k : IntKind) (n : Int) : VR m (.i k n) (.i k n)
  | s (y : ByteArray) : VR m (.s y) (.s y)
  | ag (cs ds : List V) (hl : ds.length = cs.length) (h : ∀ (j : Nat) v x, cs[j]? = some v → ds[j]? = some x → VR m v x) : VR m (.ag cs) (.ag ds)
  | tp (cs ds : List V) (hl : ds.length = cs.length) (h : ∀ (j : Nat) v x, cs[j]? = some v → ds[j]? = some x → VR m v x) : VR m (.tp cs) (.tp ds)
  | fn (g : Nat) (cs ds : List V) (hl : ds.length = cs.length) (h : ∀ (j : Nat) v x, cs[j]? = some v → ds[j]? = some x → VR m v x) : VR m (.fn g cs) (.fn g ds)
  | nil : VR m .nil .nil
  | sl (es : List (List V)) (h : cldLL es = true) : VR m (.sl es) (.sl es)
  | ip (cs : List V) (j : Nat) (h : cldL cs = true) : VR m (.ip cs j) (.ip cs j)
  | rw (s id sz off len : Nat) (h : m s = some id) : VR m (.rw s sz off len) (.rw id sz off len)
  | ra (s id i j len : Nat) (h : m s = some id) : VR m (.ra s i j len) (.ra id i j len)
  | pt (s id i j : Nat) (h : m s = some id) : VR m (.pt s i j) (.pt id i j)
  | np : VR m .np .np
  | nf : VR m .nf .nf
  | nm : VR m .nm .nm
  | mp (s id : Nat) (h : m s = some id) : VR m (.mp s) (.mp id)
  | it (s id : Nat) (h : m s = some id) : VR m (.it s) (.it id)

structure VRs (m : Nm) (cs ds : List V) : Prop where
  len : ds.length = cs.length
  at_ : ∀ (j : Nat) v x, cs[j]? = some v → ds[j]? = some x → VR m v x

theorem VRs.nil {m : Nm} : VRs m [] [] := ⟨rfl, by simp⟩
theorem VRs.cons {m : Nm} {v x : V} {cs ds : List V} (h : VR m v x) (hs : VRs m cs ds) : VRs m (v :: cs) (x :: ds) :=
  ⟨by simp [hs.len], fun j u y hu hy => by cases j with
    | zero => simp at hu hy; subst hu; subst hy; exact h
    | succ j => exact hs.at_ j u y (by simpa using hu) (by simpa using hy)⟩
theorem VRs.inv {m : Nm} {v : V} {cs ds : List V} (h : VRs m (v :: cs) ds) : ∃ x ds', ds = x :: ds' ∧ VR m v x ∧ VRs m cs ds' := by
  cases ds with
  | nil => have := h.len; simp at this
  | cons x ds => exact ⟨x, ds, rfl, h.at_ 0 v x rfl rfl, ⟨by simpa using h.len, fun j u y hu hy => h.at_ (j + 1) u y (by simpa using hu) (by simpa using hy)⟩⟩
theorem VRs.inv0 {m : Nm} {ds : List V} (h : VRs m [] ds) : ds = [] := List.eq_nil_of_length_eq_zero (by simpa using h.len)
theorem VRs.get {m : Nm} {cs ds : List V} (h : VRs m cs ds) {j : Nat} {v : V} (hv : cs[j]? = some v) : ∃ x, ds[j]? = some x ∧ VR m v x := by
  have hj := (List.getElem?_eq_some_iff.1 hv).1
  have hx : ds[j]? = some (ds[j]'(by rw [h.len]; exact hj)) := List.getElem?_eq_getElem _
  exact ⟨_, hx, h.at_ j v _ hv hx⟩
theorem VRs.sub {m : Nm} {cs ds : List V} (h : VRs m cs ds) (a b : Nat) : VRs m ((cs.drop a).take b) ((ds.drop a).take b) :=
  ⟨by simp [h.len], fun j v x hv hx => by
    have h1 := (List.getElem?_eq_some_iff.1 hv).1
    have hb : j < b := by simp at h1; omega
    rw [List.getElem?_take_of_lt hb, List.getElem?_drop] at hv hx
    exact h.at_ _ v x hv hx⟩
theorem VRs.append {m : Nm} {a b c d : List V} (h1 : VRs m a c) (h2 : VRs m b d) : VRs m (a ++ b) (c ++ d) :=
  ⟨by simp [h1.len, h2.len], fun j v x hv hx => by
    by_cases h : j < a.length
    · rw [List.getElem?_append_left h] at hv
      rw [List.getElem?_append_left (by rw [h1.len]; exact h)] at hx
      exact h1.at_ j v x hv hx
    · rw [List.getElem?_append_right (by omega)] at hv
      rw [List.getElem?_append_right (by rw [h1.len]; omega), h1.len] at hx
      exact h2.at_ _ v x hv hx⟩

mutual
theorem cld_VR (m : Nm) : ∀ (v : V), cld v = true → VR m v v
  | .ag cs, h => by
    rw [cld] at h
    exact .ag cs cs rfl (cldL_VR m cs h).at_
  | .tp cs, h => by
    rw [cld] at h
    exact .tp cs cs rfl (cldL_VR m cs h).at_
  | .fn g cs, h => by
    rw [cld] at h
    exact .fn g cs cs rfl (cldL_VR m cs h).at_
  | .sl es, h => by rw [cld] at h; exact .sl es h
  | .ip cs j, h => by rw [cld] at h; exact .ip cs j h
  | .rw _ _ _ _, h => by rw [cld] at h; cases h
  | .ra _ _ _ _, h => by rw [cld] at h; cases h
  | .pt _ _ _, h => by rw [cld] at h; cases h
  | .mp _, h => by rw [cld] at h; cases h
  | .it _, h => by rw [cld] at h; cases h
  | .jk, _ => .jk _
  | .bo p, _ => .bo p
  | .i k n, _ => .i k n
  | .s y, _ => .s y
  | .nil, _ => .nil
  | .np, _ => .np
  | .nf, _ => .nf
  | .nm, _ => .nm
theorem cldL_VR (m : Nm) : ∀ (cs : List V), cldL cs = true → VRs m cs cs
  | [], _ => .nil
  | v :: cs, h => by
    rw [cldL, Bool.and_eq_true] at h
    exact .cons (cld_VR m v h.1) (cldL_VR m cs h.2)
end

/-- the name d is taken anew -/
theorem VR.swp {m m1 : Nm} {d : Nat} (hm : ∀ s, s ≠ d → m1 s = m s) {v x : V} (h : VR m v x) : VR m1 (swp d v) x := by
  induction h with
  | jk x => exact .jk x
  | ag cs ds hl _ ih =>
    rw [Go.Proofs.Ytiadalheipbpcaa.swp, swpL_map]
    refine .ag _ ds (by simpa using hl) fun j v x hv hx => ?_
    rw [List.getElem?_map] at hv
    cases hc : cs[j]? with
    | none => rw [hc] at hv; cases hv
    | some u => rw [hc] at hv; cases hv; exact ih j u x hc hx
  | tp cs ds hl _ ih =>
    rw [Go.Proofs.Ytiadalheipbpcaa.swp, swpL_map]
    refine .tp _ ds (by simpa using hl) fun j v x hv hx => ?_
    rw [List.getElem?_map] at hv
    cases hc : cs[j]? with
    | none => rw [hc] at hv; cases hv
    | some u => rw [hc] at hv; cases hv; exact ih j u x hc hx
  | fn g cs ds hl _ ih =>
    rw [Go.Proofs.Ytiadalheipbpcaa.swp, swpL_map]
    refine .fn g _ ds (by simpa using hl) fun j v x hv hx => ?_
    rw [List.getElem?_map] at hv
    cases hc : cs[j]? with
    | none => rw [hc] at hv; cases hv
    | some u => rw [hc] at hv; cases hv; exact ih j u x hc hx
  | rw s id sz off len h =>
    rw [Go.Proofs.Ytiadalheipbpcaa.swp]; split
    · exact .jk _
    · rename_i hs; exact .rw s id sz off len (by rw [hm s (by simpa using hs)]; exact h)
  | ra s id i j len h =>
    rw [Go.Proofs.Ytiadalheipbpcaa.swp]; split
    · exact .jk _
    · rename_i hs; exact .ra s id i j len (by rw [hm s (by simpa using hs)]; exact h)
  | pt s id i j h =>
    rw [Go.Proofs.Ytiadalheipbpcaa.swp]; split
    · exact .jk _
    · rename_i hs; exact .pt s id i j (by rw [hm s (by simpa using hs)]; exact h)
  | mp s id h =>
    rw [Go.Proofs.Ytiadalheipbpcaa.swp]; split
    · exact .jk _
    · rename_i hs; exact .mp s id (by rw [hm s (by simpa using hs)]; exact h)
  | it s id h =>
    rw [Go.Proofs.Ytiadalheipbpcaa.swp]; split
    · exact .jk _
    · rename_i hs; exact .it s id (by rw [hm s (by simpa using hs)]; exact h)
  | bo p => exact .bo p
  | i k n => exact .i k n
  | s y => exact .s y
  | nil => exact .nil
  | sl es h => exact .sl es h
  | ip cs j h => exact .ip cs j h
  | np => exact .np
  | nf => exact .nf
  | nm => exact .nm

theorem VRs.swp {m m1 : Nm} {d : Nat} (hm : ∀ s, s ≠ d → m1 s = m s) {cs ds : List V} (h : VRs m cs ds) : VRs m1 (swpL d cs) ds := by
  rw [swpL_map]
  refine ⟨by simpa using h.len, fun j v x hv hx => ?_⟩
  rw [List.getElem?_map] at hv
  cases hc : cs[j]? with
  | none => rw [hc] at hv; cases hv
  | some u => rw [hc] at hv; cases hv; exact (h.at_ j u x hc hx).swp hm

/-! rows -/
structure RRs (m : Nm) (es fs : List (List V)) : Prop where
  len : fs.length = es.length
  at_ : ∀ (j : Nat) c d, es[j]? = some c → fs[j]? = some d → VRs m c d

theorem RRs.get {m : Nm} {es fs : List (List V)} (h : RRs m es fs) {j : Nat} {c : List V} (hc : es[j]? = some c) : ∃ d, fs[j]? = some d ∧ VRs m c d := by
  have hj := (List.getElem?_eq_some_iff.1 hc).1
  have hx : fs[j]? = some (fs[j]'(by rw [h.len]; exact hj)) := List.getElem?_eq_getElem _
  exact ⟨_, hx, h.at_ j c _ hc hx⟩
theorem RRs.sub {m : Nm} {es fs : List (List V)} (h : RRs m es fs) (a b : Nat) : RRs m ((es.drop a).take b) ((fs.drop a).take b) :=
  ⟨by simp [h.len], fun j c d hc hd => by
    have h1 := (List.getElem?_eq_some_iff.1 hc).1
    have hb : j < b := by simp at h1; omega
    rw [List.getElem?_take_of_lt hb, List.getElem?_drop] at hc hd
    exact h.at_ _ c d hc hd⟩
theorem RRs.take {m : Nm} {es fs : List (List V)} (h : RRs m es fs) (b : Nat) : RRs m (es.take b) (fs.take b) := by
  have := h.sub 0 b
  simpa using this
theorem RRs.append {m : Nm} {a b c d : List (List V)} (h1 : RRs m a c) (h2 : RRs m b d) : RRs m (a ++ b) (c ++ d) :=
  ⟨by simp [h1.len, h2.len], fun j v x hv hx => by
    by_cases h : j < a.length
    · rw [List.getElem?_append_left h] at hv
      rw [List.getElem?_append_left (by rw [h1.len]; exact h)] at hx
      exact h1.at_ j v x hv hx
    · rw [List.getElem?_append_right (by omega)] at hv
      rw [List.getElem?_append_right (by rw [h1.len]; omega), h1.len] at hx
      exact h2.at_ _ v x hv hx⟩
theorem RRs.set {m : Nm} {es fs : List (List V)} (h : RRs m es fs) {c d : List V} (hc : VRs m c d) (i : Nat) : RRs m (es.set i c) (fs.set i d) :=
  ⟨by simp [h.len], fun j v x hv hx => by
    rw [List.getElem?_set] at hv hx
    split at hv
    · rename_i hij
      subst hij
      rw [if_pos rfl] at hx
      split at hv
      · split at hx
        · cases hv; cases hx; exact hc
        · cases hx
      · cases hv
    · rename_i hij
      rw [if_neg hij] at hx
      exact h.at_ j v x hv hx⟩
theorem RRs.swp {m m1 : Nm} {d : Nat} (hm : ∀ s, s ≠ d → m1 s = m s) {es fs : List (List V)} (h : RRs m es fs) : RRs m1 (swpR d es) fs :=
  ⟨by simp [swpR, h.len], fun j v x hv hx => by
    rw [swpR, List.getElem?_map] at hv
    cases hc : es[j]? with
    | none => rw [hc] at hv; cases hv
    | some u => rw [hc] at hv; cases hv; exact (h.at_ j u x hc hx).swp hm⟩
theorem cldLL_RRs (m : Nm) {es : List (List V)} (h : cldLL es = true) : RRs m es es :=
  ⟨rfl, fun j c d hc hd => by
    rw [hc] at hd; cases hd
    exact cldL_VR m c ((cldLL_iff es).1 h c (List.mem_of_getElem? hc))⟩
theorem RRs.one {m : Nm} {c d : List V} (h : VRs m c d) : RRs m [c] [d] :=
  ⟨rfl, fun j v x hv hx => by cases j with
    | zero => simp at hv hx; subst hv; subst hx; exact h
    | succ j => simp at hv⟩
theorem RRs.rep {m : Nm} {c d : List V} (h : VRs m c d) (n : Nat) : RRs m (List.replicate n c) (List.replicate n d) :=
  ⟨by simp, fun j v x hv hx => by
    rw [List.getElem?_replicate] at hv hx
    split at hv
    · rename_i hj
      rw [if_pos hj] at hx
      cases hv; cases hx; exact h
    · cases hv⟩

/-- objects that stand for one another -/
inductive OR (m : Nm) : Ob → Ob → Prop where
  | row (sz : Nat) (es fs : List (List V)) (h : RRs m es fs) : OR m (.row sz es) (.row sz fs)
  | map (es fs : List (Nat × V × V)) (clock : Nat) (hl : fs.length = es.length) (h : ∀ (j : Nat) a b, es[j]? = some a → fs[j]? = some b → b.1 = a.1 ∧ VR m a.2.1 b.2.1 ∧ VR m a.2.2 b.2.2) : OR m (.map es clock) (.map fs clock)
  | iter (a : Option Nat) (b : Option Nat) (since : Nat) (seen : List Nat) (stepped : Nat) (h : match a, b with | none, none => True | some s, some id => m s = some id | _, _ => False) : OR m (.iter a since seen stepped) (.iter b since seen stepped)

structure SR (m : Nm) (o o' : O) : Prop where
  inj : ∀ s t id, m s = some id → m t = some id → s = t
  live : ∀ s id, m s = some id → ∃ x, o' id = some x
  ob : ∀ s x, o s = some x → ∃ id y, m s = some id ∧ o' id = some y ∧ OR m x y

theorem OR.swp {m m1 : Nm} {d : Nat} (hm : ∀ s, s ≠ d → m1 s = m s) {x y z : Ob} (h : OR m x y) (hz : swpOb d x = some z) : OR m1 z y := by
  cases h with
  | row sz es fs h => simp only [swpOb, Option.some.injEq] at hz; subst hz; exact .row sz _ fs (h.swp hm)
  | map es fs clock hl h =>
    simp only [swpOb, Option.some.injEq] at hz; subst hz
    refine .map _ fs clock (by simpa using hl) fun j a b ha hb => ?_
    rw [List.getElem?_map] at ha
    cases hc : es[j]? with
    | none => rw [hc] at ha; cases ha
    | some u =>
      rw [hc] at ha; cases ha
      obtain ⟨h1, h2, h3⟩ := h j u b hc hb
      exact ⟨h1, h2.swp hm, h3.swp hm⟩
  | iter a b since seen stepped h =>
    simp only [swpOb] at hz
    split at hz
    · cases hz
    · rename_i hd
      cases hz
      refine .iter a b since seen stepped ?_
      cases a with
      | none => cases b <;> exact h
      | some s =>
        cases b with
        | none => exact h
        | some id =>
          have : s ≠ d := fun hh => hd (by simp [hh])
          show m1 s = some id
          rw [hm s this]; exact h

/-- a name for a new object -/
theorem SR.new {m : Nm} {o o' : O} (h : SR m o o') {d id : Nat} {x y : Ob} (hid : o' id = none) (hxy : OR (upd m d (some id)) x y) : SR (upd m d (some id)) (upd (swpO d o) d (some x)) (upd o' id (some y)) := by
  have hne : ∀ s i, m s = some i → i ≠ id := fun s i hs hh => by
    obtain ⟨z, hz⟩ := h.live s i hs
    rw [hh, hid] at hz; cases hz
  have hup : ∀ s, s ≠ d → upd m d (some id) s = m s := fun s hs => by simp [upd, hs]
  refine ⟨fun s t i h1 h2 => ?_, fun s i h1 => ?_, fun s z hz => ?_⟩
  · simp only [upd] at h1 h2
    split at h1 <;> split at h2
    · simp_all
    · cases h1; exact absurd rfl (hne t id h2)
    · cases h2; exact absurd rfl (hne s id h1)
    · exact h.inj s t i h1 h2
  · simp only [upd] at h1 ⊢
    split at h1
    · cases h1; exact ⟨y, by simp⟩
    · obtain ⟨z, hz⟩ := h.live s i h1
      exact ⟨z, by rw [if_neg (hne s i h1)]; exact hz⟩
  · by_cases hs : s = d
    · subst hs
      simp only [upd, if_true, Option.some.injEq] at hz
      subst hz
      exact ⟨id, y, by simp [upd], by simp [upd], hxy⟩
    · simp only [upd, if_neg hs, swpO] at hz
      rw [if_neg (by simpa using hs)] at hz
      obtain ⟨x0, hx0, hx1⟩ := Option.bind_eq_some_iff.1 hz
      obtain ⟨i, y0, h1, h2, h3⟩ := h.ob s x0 hx0
      exact ⟨i, y0, by rw [hup s hs]; exact h1, by simp only [upd, if_neg (hne s i h1)]; exact h2, h3.swp hup hx1⟩

/-- an object is gone -/
theorem SR.gone {m : Nm} {o o' : O} (h : SR m o o') {s id : Nat} (hs : m s = some id) : SR (upd m s none) (swpO s o) (upd o' id none) := by
  have hup : ∀ t, t ≠ s → upd m s none t = m t := fun t ht => by simp [upd, ht]
  have hne : ∀ t i, t ≠ s → m t = some i → i ≠ id := fun t i ht hm hh => ht (h.inj t s id (by rw [hm, hh]) hs)
  refine ⟨fun a b i h1 h2 => ?_, fun a i h1 => ?_, fun a z hz => ?_⟩
  · simp only [upd] at h1 h2
    split at h1
    · cases h1
    · split at h2
      · cases h2
      · exact h.inj a b i h1 h2
  · simp only [upd] at h1 ⊢
    split at h1
    · cases h1
    · rename_i ha
      rw [if_neg (hne a i ha h1)]
      exact h.live a i h1
  · simp only [swpO] at hz
    split at hz
    · cases hz
    · rename_i ha
      have ha : a ≠ s := by simpa using ha
      obtain ⟨x0, hx0, hx1⟩ := Option.bind_eq_some_iff.1 hz
      obtain ⟨i, y0, h1, h2, h3⟩ := h.ob a x0 hx0
      exact ⟨i, y0, by rw [hup a ha]; exact h1, by simp only [upd, if_neg (hne a i ha h1)]; exact h2, h3.swp hup hx1⟩

/-- an object is turned -/
theorem SR.set {m : Nm} {o o' : O} (h : SR m o o') {s id : Nat} {x y : Ob} (hs : m s = some id) (hxy : OR m x y) : SR m (upd o s (some x)) (upd o' id (some y)) := by
  refine ⟨h.inj, fun t i h1 => ?_, fun t z hz => ?_⟩
  · simp only [upd]
    split
    · exact ⟨y, rfl⟩
    · exact h.live t i h1
  · by_cases ht : t = s
    · subst ht
      simp only [upd, if_true, Option.some.injEq] at hz
      subst hz
      exact ⟨id, y, hs, by simp [upd], hxy⟩
    · simp only [upd, if_neg ht] at hz
      obtain ⟨i, y0, h1, h2, h3⟩ := h.ob t z hz
      exact ⟨i, y0, h1, by simp only [upd, if_neg (fun hh : i = id => ht (h.inj t s id (by rw [h1, hh]) hs))]; exact h2, h3⟩

end Go.Proofs.Ytiadalheipbpcaa

/-
  Objects by names: what an operation comes to over values that stand for one another.
-/
namespace Go.Proofs.Ytiadalheipbpcaa
set_option linter.all false

section
variable {m : Nm} {e e' : E} (he : ∀ t, VR m (e t) (e' t))

/-- all constants lead nowhere -/
def ckO : Od → Bool
  | .t _ => true
  | .k v => cld v

theorem od_VR (he : ∀ t, VR m (e t) (e' t)) {x : Od} (hx : ckO x = true) : VR m (x.ev e) (x.ev e') := by
  cases x with
  | t n => exact he n
  | k v => exact cld_VR m v hx

theorem ods_VR (he : ∀ t, VR m (e t) (e' t)) {l : List Od} (hl : l.all ckO = true) : VRs m (l.map (Od.ev e)) (l.map (Od.ev e')) :=
  ⟨by simp, fun j v x hv hx => by
    rw [List.getElem?_map] at hv hx
    cases h : l[j]? with
    | none => rw [h] at hv; cases hv
    | some y =>
      rw [h] at hv hx
      cases hv; cases hx
      exact od_VR he (List.all_eq_true.1 hl y (List.mem_of_getElem? h))⟩

theorem cells_VR {v x : V} (h : VR m v x) (h1 : v ≠ .jk) : VRs m v.cells x.cells := by
  cases h with
  | jk x => exact absurd rfl h1
  | ag cs ds hl h => exact ⟨hl, h⟩
  | tp cs ds hl h => exact .nil
  | bo p => exact .cons (.bo p) .nil
  | i k n => exact .cons (.i k n) .nil
  | s y => exact .cons (.s y) .nil
  | fn g cs ds hl h => exact .cons (.fn g cs ds hl h) .nil
  | nil => exact .cons .nil .nil
  | sl es h => exact .cons (.sl es h) .nil
  | ip cs j h => exact .cons (.ip cs j h) .nil
  | rw s id sz off len h => exact .cons (.rw s id sz off len h) .nil
  | ra s id i j len h => exact .cons (.ra s id i j len h) .nil
  | pt s id i j h => exact .cons (.pt s id i j h) .nil
  | np => exact .cons .np .nil
  | nf => exact .cons .nf .nil
  | nm => exact .cons .nm .nil
  | mp s id h => exact .cons (.mp s id h) .nil
  | it s id h => exact .cons (.it s id h) .nil

theorem cells_ne {v : V} {n : Nat} (h : v.cells.length = n) (hn : 0 < n) : v ≠ .jk := by
  rintro rfl; simp [V.cells] at h; omega

theorem ag_VR {v x : V} (h : VR m v x) (hv : v.isAg = true) : x.isAg = true := by
  cases h <;> first | rfl | (cases hv)
theorem agf_VR {v x : V} (h : VR m v x) (h1 : v ≠ .jk) : x.isAg = v.isAg := by
  cases h <;> first | rfl | exact absurd rfl h1

theorem prt_VR {ag : Bool} {off sz : Nat} {cs ds : List V} {v : V} (h : VRs m cs ds) (hv : prt ag off sz cs = some v) : ∃ x, prt ag off sz ds = some x ∧ VR m v x := by
  unfold prt at hv ⊢
  cases ag with
  | true =>
    simp only [if_true] at hv ⊢
    split at hv
    · rename_i hl
      cases hv
      have hs := h.sub off sz
      exact ⟨_, by rw [if_pos (by rw [h.len]; exact hl)], .ag _ _ hs.len hs.at_⟩
    · cases hv
  | false =>
    simp only [Bool.false_eq_true, if_false] at hv ⊢
    exact h.get hv

theorem splice_VR : ∀ (n : Nat) {vs xs cs ds : List V}, VRs m vs xs → VRs m cs ds → VRs m (splice n vs cs) (splice n xs ds) := by
  intro n
  induction n with
  | zero =>
    intro vs xs cs ds hv hc
    induction vs generalizing xs cs ds with
    | nil =>
      rw [hv.inv0]
      cases cs with
      | nil => rw [hc.inv0]; exact .nil
      | cons c cs => obtain ⟨d, ds', rfl, h1, h2⟩ := hc.inv; exact .cons h1 h2
    | cons v vs ih =>
      obtain ⟨x, xs', rfl, h1, h2⟩ := hv.inv
      cases cs with
      | nil => rw [hc.inv0]; exact .nil
      | cons c cs => obtain ⟨d, ds', rfl, h3, h4⟩ := hc.inv; exact .cons h1 (ih h2 h4)
  | succ n ih =>
    intro vs xs cs ds hv hc
    cases cs with
    | nil =>
      rw [hc.inv0]
      cases vs <;> cases xs <;> exact .nil
    | cons c cs =>
      obtain ⟨d, ds', rfl, h3, h4⟩ := hc.inv
      have := ih hv h4
      cases vs <;> cases xs <;> exact .cons h3 this

def ckP (ps : List (Nat × Nat × Od)) : Bool := ps.all fun p => decide (0 < p.2.1) && ckO p.2.2

theorem fillC_VR (he : ∀ t, VR m (e t) (e' t)) : ∀ (ps : List (Nat × Nat × Od)), ckP ps = true → ∀ {cs ds zs : List V}, VRs m cs ds → fillC e ps cs = some zs → ∃ ws, fillC e' ps ds = some ws ∧ VRs m zs ws := by
  intro ps
  induction ps with
  | nil => intro _ cs ds zs h hv; cases hv; exact ⟨ds, rfl, h⟩
  | cons p ps ih =>
    intro hk cs ds zs h hv
    obtain ⟨off, sz, x⟩ := p
    simp only [ckP, List.all_cons, Bool.and_eq_true, decide_eq_true_eq] at hk
    simp only [fillC] at hv ⊢
    split at hv
    · rename_i hc
      have hx := od_VR he hk.1.2
      have hcx := cells_VR hx (cells_ne hc.1 hk.1.1)
      rw [if_pos ⟨by rw [hcx.len]; exact hc.1, by rw [h.len]; exact hc.2⟩]
      exact ih hk.2 (splice_VR off hcx h) hv
    · cases hv

def ckE (ps : List (Nat × Od)) : Bool := ps.all fun p => ckO p.2

theorem fillE_VR (he : ∀ t, VR m (e t) (e' t)) {sz : Nat} (hsz : 0 < sz) : ∀ (ps : List (Nat × Od)), ckE ps = true → ∀ {es fs gs : List (List V)}, RRs m es fs → fillE e sz ps es = some gs → ∃ hs, fillE e' sz ps fs = some hs ∧ RRs m gs hs := by
  intro ps
  induction ps with
  | nil => intro _ es fs gs h hv; cases hv; exact ⟨fs, rfl, h⟩
  | cons p ps ih =>
    intro hk es fs gs h hv
    obtain ⟨i, x⟩ := p
    simp only [ckE, List.all_cons, Bool.and_eq_true] at hk
    simp only [fillE] at hv ⊢
    split at hv
    · rename_i hc
      have hcx := cells_VR (od_VR he hk.1) (cells_ne hc.1 hsz)
      rw [if_pos ⟨by rw [hcx.len]; exact hc.1, by rw [h.len]; exact hc.2⟩]
      exact ih hk.2 (h.set hcx i) hv
    · cases hv

theorem lf_VR {l : Lf} {a b x y : V} {p : Bool} (ha : VR m a x) (hb : VR m b y) (h : lfEq l a b = some p) : lfEq l x y = some p := by
  cases ha <;> cases hb <;> first | exact h | (cases l <;> simp [lfEq] at h)
theorem eqps_VR : ∀ (ks : List Lf) {a b x y : List V} {p : Bool}, VRs m a x → VRs m b y → eqps ks a b = some p → eqps ks x y = some p := by
  intro ks
  induction ks with
  | nil =>
    intro a b x y p ha hb h
    cases a <;> cases b <;> simp only [eqps] at h <;> (first | cases h; done | skip)
    · rw [ha.inv0, hb.inv0]; exact h
    all_goals cases h
  | cons k ks ih =>
    intro a b x y p ha hb h
    cases a <;> cases b <;> simp only [eqps] at h <;> (first | (cases h; done) | skip)
    obtain ⟨x1, x', rfl, h1, h2⟩ := ha.inv
    obtain ⟨y1, y', rfl, h3, h4⟩ := hb.inv
    split at h
    · rename_i p1 q1 e1 e2
      simp only [eqps, lf_VR h1 h3 e1, ih h2 h4 e2]
      exact h
    · cases h
theorem eqV_VR {ag : Bool} {ks : List Lf} {a b x y : V} {p : Bool} (hk : ks ≠ []) (ha : VR m a x) (hb : VR m b y) (h : eqV ag ks a b = some p) : eqV ag ks x y = some p := by
  unfold eqV at h ⊢
  split at h
  · rename_i hc
    have na : a ≠ .jk := by
      rintro rfl
      cases ks with
      | nil => exact hk rfl
      | cons => simp [V.cells, eqps] at h
    have nb : b ≠ .jk := by
      rintro rfl
      cases ks with
      | nil => exact hk rfl
      | cons => cases a.cells <;> simp [V.cells, eqps] at h
    rw [if_pos ⟨by rw [agf_VR ha na]; exact hc.1, by rw [agf_VR hb nb]; exact hc.2⟩]
    exact eqps_VR ks (cells_VR ha na) (cells_VR hb nb) h
  · cases h

theorem lenV_VR {v x : V} {n : Nat} (h : VR m v x) (hv : lenV v = some n) : lenV x = some n := by
  cases h <;> first | exact hv | (simp [lenV] at hv)
theorem slenV_VR {v x w : V} (h : VR m v x) (hv : slenV v = some w) : slenV x = some w ∧ VR m w w := by
  cases h <;> simp only [slenV] at hv <;> (first | (cases hv; done) | skip)
  all_goals (cases hv; exact ⟨rfl, .i _ _⟩)
theorem natV_VR {v x : V} {n : Nat} (h : VR m v x) (hv : natV v = some n) : natV x = some n := by
  cases h <;> first | exact hv | (simp [natV] at hv)

def ckOo : Option Od → Bool
  | none => true
  | some x => ckO x
theorem natO_VR (he : ∀ t, VR m (e t) (e' t)) {z n : Nat} {x : Option Od} (hx : ckOo x = true) (h : natO e z x = some n) : natO e' z x = some n := by
  cases x with
  | none => exact h
  | some x => exact natV_VR (od_VR he hx) h

theorem cutV_VR {sz l h : Nat} {mx : Option Nat} {v x w : V} (hr : VR m v x) (hv : cutV sz l h mx v = some w) : ∃ y, cutV sz l h mx x = some y ∧ VR m w y := by
  cases hr <;> simp only [cutV] at hv ⊢ <;> (first | (cases hv; done) | skip)
  · split at hv
    · rename_i hc; cases hv; exact ⟨_, by rw [if_pos hc], .nil⟩
    · cases hv
  · rename_i es hcl
    cases mx with
    | none =>
      simp only at hv ⊢
      split at hv
      · rename_i hc; cases hv
        refine ⟨_, by rw [if_pos hc], .sl _ ?_⟩
        rw [cldLL_iff] at hcl ⊢
        exact fun c hcm => hcl c (List.mem_of_mem_take (List.mem_of_mem_drop hcm))
      · cases hv
    | some q =>
      simp only at hv ⊢
      split at hv
      · rename_i hc; cases hv; exact ⟨_, by rw [if_pos hc], .nil⟩
      · cases hv
  · rename_i s id sz' off len hs
    cases mx with
    | none =>
      simp only at hv ⊢
      split at hv
      · rename_i hc; cases hv
        exact ⟨_, by rw [if_pos hc], .rw _ _ _ _ _ hs⟩
      · cases hv
    | some q =>
      simp only at hv ⊢
      split at hv
      · rename_i hc; cases hv; exact ⟨_, by rw [if_pos hc], .nil⟩
      · cases hv

theorem adrV_VR {off : Nat} {v x w : V} (hr : VR m v x) (hv : adrV off v = some w) : ∃ y, adrV off x = some y ∧ VR m w y := by
  cases hr <;> simp only [adrV] at hv ⊢ <;> (first | (cases hv; done) | skip)
  · cases hv; exact ⟨_, rfl, .ip _ _ ‹_›⟩
  · cases hv; exact ⟨_, rfl, .pt _ _ _ _ ‹_›⟩

theorem ixpV_VR {sz : Nat} {v x i i' w : V} (hr : VR m v x) (hi : VR m i i') (hv : ixpV sz v i = some w) : ∃ y, ixpV sz x i' = some y ∧ VR m w y := by
  cases hi <;> (first | (cases v <;> simp [ixpV] at hv; done) | skip)
  cases hr <;> simp only [ixpV] at hv ⊢ <;> (first | (cases hv; done) | skip)
  · rename_i es hcl
    split at hv
    · rename_i hc
      simp only [if_pos hc]
      split at hv
      · rename_i c hcm
        split at hv
        · rename_i hl
          cases hv
          refine ⟨_, by rw [if_pos hl], .ip _ _ ?_⟩
          exact (cldLL_iff es).1 hcl c (List.mem_of_getElem? hcm)
        · cases hv
      · cases hv
    · cases hv
  · split at hv
    · rename_i hc; cases hv; exact ⟨_, by rw [if_pos hc], .pt _ _ _ _ ‹_›⟩
    · cases hv
  · split at hv
    · rename_i hc; cases hv; exact ⟨_, by rw [if_pos hc], .pt _ _ _ _ ‹_›⟩
    · cases hv

theorem slaV_VR {n l h : Nat} {v x w : V} (hr : VR m v x) (hv : slaV n l h v = some w) : ∃ y, slaV n l h x = some y ∧ VR m w y := by
  cases hr <;> simp only [slaV] at hv ⊢ <;> (first | (cases hv; done) | skip)
  · rename_i cs j hcl
    split at hv
    · rename_i hc
      cases hv
      refine ⟨_, by rw [if_pos hc], .sl _ ?_⟩
      rw [cldLL_iff]
      intro c hcm
      obtain ⟨v, hv, rfl⟩ := List.mem_map.1 hcm
      simp [cldL, (cldL_iff cs).1 hcl v (List.mem_of_mem_drop (List.mem_of_mem_take hv))]
    · cases hv
  · split at hv
    · rename_i hc; cases hv; exact ⟨_, by rw [if_pos hc], .ra _ _ _ _ _ ‹_›⟩
    · cases hv

def ckQ : Q → Bool
  | .mov x => ckO x
  | .pick c a b => ckO c && ckO a && ckO b
  | .bin _ x y => ckO x && ckO y
  | .eqb _ x y => ckO x && ckO y
  | .eqp _ _ ks x y => !ks.isEmpty && ckO x && ckO y
  | .un _ x => ckO x
  | .cv _ x => ckO x
  | .fld _ _ _ x => ckO x
  | .ixa _ _ _ x i => ckO x && ckO i
  | .ixs x i => ckO x && ckO i
  | .ext x _ => ckO x
  | .bld z ps => cldL z && ckP ps
  | .mkf _ cs => cs.all ckO
  | .len x => ckO x
  | .lns x => ckO x
  | .cap x => ckO x
  | .slc _ x a b c => ckO x && ckOo a && ckOo b && ckOo c
  | .sls x a b => ckO x && ckOo a && ckOo b
  | .adr _ x => ckO x
  | .ixp _ x i => ckO x && ckO i
  | .ixq _ _ x i => ckO x && ckO i
  | .sla _ x a b => ckO x && ckOo a && ckOo b
  | .mx _ x y => ckO x && ckO y
  | .nck x => ckO x

theorem binV_VR {o : BinOp} {a b x y w : V} (ha : VR m a x) (hb : VR m b y) (hv : binV o a b = some w) : binV o x y = some w ∧ VR m w w := by
  have hw : ∀ {w : V}, binV o a b = some w → cld w = true := by
    intro w h
    cases a <;> cases b <;> simp only [binV] at h <;> (first | (cases h; done) | skip)
    · split at h
      · cases o <;> simp only [shiftV] at h <;> (first | (cases h; done) | skip)
        all_goals (split at h <;> (first | (cases h; done) | (cases h; rfl)))
      · split at h
        · cases o <;> simp only [arith] at h <;> (first | (cases h; done) | (cases h; rfl) | skip)
          all_goals (split at h <;> (first | (cases h; done) | (cases h; rfl)))
        · cases h
    · cases o <;> simp only [strV] at h <;> (first | (cases h; done) | (cases h; rfl) | skip)
      split at h <;> (first | (cases h; done) | (cases h; rfl))
  refine ⟨?_, cld_VR m w (hw hv)⟩
  cases ha <;> (first | (cases b <;> simp [binV] at hv; done) | skip)
  all_goals (cases hb <;> first | exact hv | (simp [binV] at hv))

theorem qv_VR (he : ∀ t, VR m (e t) (e' t)) {q : Q} (hk : ckQ q = true) {v : V} (hv : qv e q = some v) : ∃ x, qv e' q = some x ∧ VR m v x := by
  cases q with
  | mov x => simp only [qv, Option.some.injEq] at hv; subst hv; exact ⟨_, rfl, od_VR he hk⟩
  | pick c a b =>
    simp only [ckQ, Bool.and_eq_true] at hk
    simp only [qv] at hv ⊢
    have hc := od_VR he hk.1.1
    split at hv <;> rename_i hcv
    · rw [hcv] at hc; cases hv
      generalize hg : c.ev e' = z at hc
      cases hc
      exact ⟨_, rfl, od_VR he hk.1.2⟩
    · rw [hcv] at hc; cases hv
      generalize hg : c.ev e' = z at hc
      cases hc
      exact ⟨_, rfl, od_VR he hk.2⟩
    · cases hv
  | bin o x y =>
    simp only [ckQ, Bool.and_eq_true] at hk
    obtain ⟨h1, h2⟩ := binV_VR (od_VR he hk.1) (od_VR he hk.2) hv
    exact ⟨v, h1, h2⟩
  | eqb neg x y =>
    simp only [ckQ, Bool.and_eq_true] at hk
    simp only [qv] at hv ⊢
    have hx := od_VR he hk.1
    have hy := od_VR he hk.2
    generalize x.ev e = a at hv hx
    generalize y.ev e = b at hv hy
    cases a <;> cases b <;> simp only [eqbV] at hv <;> (first | (cases hv; done) | skip)
    cases hv
    generalize hg : x.ev e' = a' at hx
    generalize hg2 : y.ev e' = b' at hy
    cases hx; cases hy
    exact ⟨_, rfl, .bo _⟩
  | eqp neg ag ks x y =>
    simp only [ckQ, Bool.and_eq_true, Bool.not_eq_true', List.isEmpty_eq_false_iff] at hk
    simp only [qv] at hv ⊢
    cases hq : eqV ag ks (x.ev e) (y.ev e) with
    | none => rw [hq] at hv; cases hv
    | some p =>
      rw [hq] at hv; cases hv
      exact ⟨_, by rw [eqV_VR hk.1.1 (od_VR he hk.1.2) (od_VR he hk.2) hq]; rfl, .bo _⟩
  | un o x =>
    simp only [qv] at hv ⊢
    have hx := od_VR he (x := x) hk
    generalize x.ev e = a at hv hx
    generalize hg : x.ev e' = a' at hx
    cases hx <;> simp only [unV] at hv <;> (first | (cases hv; done) | skip)
    · cases o <;> simp only at hv <;> (first | (cases hv; done) | skip)
      cases hv; exact ⟨_, rfl, .bo _⟩
    · cases o <;> simp only at hv <;> (first | (cases hv; done) | skip)
      all_goals (cases hv; exact ⟨_, rfl, .i _ _⟩)
  | cv k x =>
    simp only [qv] at hv ⊢
    have hx := od_VR he (x := x) hk
    generalize x.ev e = a at hv hx
    generalize hg : x.ev e' = a' at hx
    cases hx <;> simp only at hv <;> (first | (cases hv; done) | skip)
    cases hv; exact ⟨_, rfl, .i _ _⟩
  | fld off sz ag x =>
    simp only [qv] at hv ⊢
    have hx := od_VR he (x := x) hk
    generalize x.ev e = a at hv hx
    generalize hg : x.ev e' = a' at hx
    cases hx <;> simp only [fldV] at hv <;> (first | (cases hv; done) | skip)
    exact prt_VR ⟨‹_›, ‹_›⟩ hv
  | ixa n sz ag x i =>
    simp only [ckQ, Bool.and_eq_true] at hk
    simp only [qv] at hv ⊢
    have hx := od_VR he hk.1
    have hi := od_VR he hk.2
    generalize x.ev e = a at hv hx
    generalize hg : x.ev e' = a' at hx
    generalize i.ev e = b at hv hi
    generalize hg2 : i.ev e' = b' at hi
    cases hi <;> (first | (cases a <;> simp [ixaV] at hv; done) | skip)
    cases hx <;> simp only [ixaV] at hv ⊢ <;> (first | (cases hv; done) | skip)
    split at hv
    · rename_i hc
      rw [if_pos hc]
      exact prt_VR ⟨‹_›, ‹_›⟩ hv
    · cases hv
  | ixs x i =>
    simp only [ckQ, Bool.and_eq_true] at hk
    simp only [qv] at hv ⊢
    have hx := od_VR he hk.1
    have hi := od_VR he hk.2
    generalize x.ev e = a at hv hx
    generalize hg : x.ev e' = a' at hx
    generalize i.ev e = b at hv hi
    generalize hg2 : i.ev e' = b' at hi
    cases hi <;> (first | (cases a <;> simp [ixsV] at hv; done) | skip)
    cases hx <;> simp only [ixsV] at hv ⊢ <;> (first | (cases hv; done) | skip)
    refine ⟨v, hv, cld_VR m v ?_⟩
    split at hv
    · obtain ⟨c, _, rfl⟩ := Option.map_eq_some_iff.1 hv; rfl
    · cases hv
  | ext x j =>
    simp only [qv] at hv ⊢
    have hx := od_VR he (x := x) hk
    generalize x.ev e = a at hv hx
    generalize hg : x.ev e' = a' at hx
    cases hx <;> simp only [extV] at hv ⊢ <;> (first | (cases hv; done) | skip)
    exact VRs.get ⟨‹_›, ‹_›⟩ hv
  | bld z ps =>
    simp only [ckQ, Bool.and_eq_true] at hk
    simp only [qv] at hv ⊢
    obtain ⟨zs, h1, rfl⟩ := Option.map_eq_some_iff.1 hv
    obtain ⟨ws, h2, h3⟩ := fillC_VR he ps hk.2 (cldL_VR m z hk.1) h1
    exact ⟨.ag ws, by rw [h2]; rfl, .ag _ _ h3.len h3.at_⟩
  | mkf g cs =>
    simp only [qv, Option.some.injEq] at hv; subst hv
    have h := ods_VR he (l := cs) hk
    exact ⟨_, rfl, .fn g _ _ h.len h.at_⟩
  | len x => exact ⟨v, slenV_VR (od_VR he (x := x) hk) hv⟩
  | lns x =>
    simp only [qv] at hv ⊢
    have hx := od_VR he (x := x) hk
    generalize x.ev e = a at hv hx
    generalize hg : x.ev e' = a' at hx
    cases hx <;> simp only at hv <;> (first | (cases hv; done) | skip)
    cases hv; exact ⟨_, rfl, .i _ _⟩
  | cap x =>
    simp only [qv] at hv ⊢
    have hx := od_VR he (x := x) hk
    generalize x.ev e = a at hv hx
    generalize hg : x.ev e' = a' at hx
    cases hx <;> simp only at hv <;> (first | (cases hv; done) | skip)
    cases hv; exact ⟨_, rfl, .i _ _⟩
  | slc sz x lo hi mx =>
    simp only [ckQ, Bool.and_eq_true] at hk
    have hx := od_VR he hk.1.1.1
    simp only [qv, slcV] at hv ⊢
    cases hl : lenV (x.ev e) with
    | none => rw [hl] at hv; cases hv
    | some n =>
      rw [hl] at hv
      rw [lenV_VR hx hl]
      simp only at hv ⊢
      cases h1 : natO e 0 lo with
      | none => rw [h1] at hv; cases hv
      | some l =>
        rw [h1] at hv
        rw [natO_VR he hk.1.1.2 h1]
        cases h2 : natO e n hi with
        | none => rw [h2] at hv; cases hv
        | some h =>
          rw [h2] at hv
          rw [natO_VR he hk.1.2 h2]
          cases mx with
          | none => exact cutV_VR hx hv
          | some q =>
            simp only at hv ⊢
            cases h3 : natV (q.ev e) with
            | none => rw [h3] at hv; cases hv
            | some z =>
              rw [h3] at hv
              rw [natV_VR (od_VR he (x := q) hk.2) h3]
              exact cutV_VR hx hv
  | sls x lo hi =>
    simp only [ckQ, Bool.and_eq_true] at hk
    have hx := od_VR he hk.1.1
    simp only [qv] at hv ⊢
    generalize x.ev e = a at hv hx
    generalize hg : x.ev e' = a' at hx
    cases hx <;> simp only at hv ⊢ <;> (first | (cases hv; done) | skip)
    rename_i y
    cases h1 : natO e 0 lo with
    | none => rw [h1] at hv; cases hv
    | some l =>
      cases h2 : natO e y.size hi with
      | none => rw [h1, h2] at hv; cases hv
      | some h =>
        rw [h1, h2] at hv
        rw [natO_VR he hk.1.2 h1, natO_VR he hk.2 h2]
        simp only at hv ⊢
        refine ⟨v, hv, cld_VR m v ?_⟩
        split at hv
        · cases hv; rfl
        · cases hv
  | adr off x => exact adrV_VR (od_VR he (x := x) hk) hv
  | ixp sz x i =>
    simp only [ckQ, Bool.and_eq_true] at hk
    exact ixpV_VR (od_VR he hk.1) (od_VR he hk.2) hv
  | ixq n sz x i =>
    simp only [ckQ, Bool.and_eq_true] at hk
    simp only [qv] at hv ⊢
    have hx := od_VR he hk.1
    have hi := od_VR he hk.2
    generalize i.ev e = b at hv hi
    generalize hg2 : i.ev e' = b' at hi
    cases hi <;> simp only [ixqV] at hv ⊢ <;> (first | (cases hv; done) | skip)
    split at hv
    · rename_i hc
      rw [if_pos hc]
      exact adrV_VR hx hv
    · cases hv
  | sla n x lo hi =>
    simp only [ckQ, Bool.and_eq_true] at hk
    have hx := od_VR he hk.1.1
    simp only [qv] at hv ⊢
    cases h1 : natO e 0 lo with
    | none => rw [h1] at hv; cases hv
    | some l =>
      cases h2 : natO e n hi with
      | none => rw [h1, h2] at hv; cases hv
      | some h =>
        rw [h1, h2] at hv
        rw [natO_VR he hk.1.2 h1, natO_VR he hk.2 h2]
        exact slaV_VR hx hv
  | mx b x y =>
    simp only [ckQ, Bool.and_eq_true] at hk
    simp only [qv] at hv ⊢
    have hx := od_VR he hk.1
    have hy := od_VR he hk.2
    generalize x.ev e = a at hv hx
    generalize y.ev e = c at hv hy
    cases a <;> cases c <;> simp only [mxV] at hv <;> (first | (cases hv; done) | skip)
    cases hv
    generalize hg : x.ev e' = a' at hx
    generalize hg2 : y.ev e' = b' at hy
    cases hx; cases hy
    exact ⟨_, rfl, .i _ _⟩
  | nck x =>
    simp only [qv] at hv ⊢
    have hx := od_VR he (x := x) hk
    generalize x.ev e = a at hv hx
    generalize hg : x.ev e' = a' at hx
    cases hx <;> simp only [nckV] at hv ⊢ <;> (first | (cases hv; done) | skip)
    · cases hv; exact ⟨_, rfl, .fn _ _ _ ‹_› ‹_›⟩
    · cases hv; exact ⟨_, rfl, .ip _ _ ‹_›⟩
    · cases hv; exact ⟨_, rfl, .pt _ _ _ _ ‹_›⟩

end

/-! reading the store -/
section
variable {m : Nm} {o o' : O}

theorem cellsAt_VR (hs : SR m o o') {v x : V} (hr : VR m v x) {cs : List V} {j : Nat} (hv : cellsAt o v = some (cs, j)) : ∃ ds, cellsAt o' x = some (ds, j) ∧ VRs m cs ds := by
  cases hr <;> simp only [cellsAt] at hv ⊢ <;> (first | (cases hv; done) | skip)
  · cases hv; exact ⟨_, rfl, cldL_VR m _ ‹_›⟩
  · rename_i s id i j2 hm
    cases ho : o s with
    | none => rw [ho] at hv; cases hv
    | some ob =>
      obtain ⟨id2, y, h1, h2, h3⟩ := hs.ob s ob ho
      rw [hm] at h1; cases h1
      rw [ho] at hv
      cases h3 with
      | row sz es fs h =>
        simp only at hv
        cases hc : es[i]? with
        | none => rw [hc] at hv; cases hv
        | some c =>
          rw [hc] at hv
          cases hv
          obtain ⟨d, hd, hcd⟩ := h.get hc
          exact ⟨d, by simp only [h2, hd], hcd⟩
      | map => simp at hv
      | iter => simp at hv

theorem isnV_VR (hs : SR m o o') {mp neg : Bool} {v x w : V} (hr : VR m v x) (hv : isnV o mp neg v = some w) : isnV o' mp neg x = some w ∧ VR m w w := by
  have hcl : ∀ {w : V}, isnV o mp neg v = some w → cld w = true := by
    intro w h
    cases v <;> simp only [isnV] at h <;> (first | (cases h; done) | skip)
    all_goals (split at h <;> (first | (cases h; done) | (cases h; rfl) | skip))
    all_goals (obtain ⟨_, _, rfl⟩ := Option.map_eq_some_iff.1 h; rfl)
  refine ⟨?_, cld_VR m w (hcl hv)⟩
  cases hr <;> simp only [isnV] at hv ⊢ <;> (first | (cases hv; done) | exact hv | skip)
  · rename_i s id i j hm
    split at hv
    · cases hv
    · rename_i hc
      rw [if_neg hc]
      obtain ⟨y, hy, rfl⟩ := Option.map_eq_some_iff.1 hv
      obtain ⟨z, hz⟩ := hs.live s id hm
      rw [hz]; rfl
  · rename_i s id hm
    split at hv
    · rename_i hc
      rw [if_pos hc]
      obtain ⟨y, hy, rfl⟩ := Option.map_eq_some_iff.1 hv
      obtain ⟨z, hz⟩ := hs.live s id hm
      rw [hz]; rfl
    · cases hv

theorem src_VR (hs : SR m o o') {v x : V} (hr : VR m v x) {es : List (List V)} (hv : src o v = some es) : ∃ fs, src o' x = some fs ∧ RRs m es fs := by
  cases hr <;> simp only [src] at hv ⊢ <;> (first | (cases hv; done) | skip)
  · cases hv; exact ⟨_, rfl, rfl, by simp⟩
  · cases hv; exact ⟨_, rfl, cldLL_RRs m ‹_›⟩
  · rename_i s id sz off len hm
    cases ho : o s with
    | none => rw [ho] at hv; cases hv
    | some ob =>
      obtain ⟨id2, y, h1, h2, h3⟩ := hs.ob s ob ho
      rw [hm] at h1; cases h1
      rw [ho] at hv
      cases h3 with
      | row sz2 es2 fs h =>
        simp only at hv
        split at hv
        · rename_i hl
          cases hv
          exact ⟨_, by simp only [h2]; rw [if_pos (by rw [h.len]; exact hl)], h.sub off len⟩
        · cases hv
      | map => simp at hv
      | iter => simp at hv
  · rename_i s id i j len hm
    cases ho : o s with
    | none => rw [ho] at hv; cases hv
    | some ob =>
      obtain ⟨id2, y, h1, h2, h3⟩ := hs.ob s ob ho
      rw [hm] at h1; cases h1
      rw [ho] at hv
      cases h3 with
      | row sz2 es2 fs h =>
        simp only at hv
        cases hc : es2[i]? with
        | none => rw [hc] at hv; cases hv
        | some c =>
          rw [hc] at hv
          simp only at hv
          obtain ⟨d, hd, hcd⟩ := h.get hc
          split at hv
          · rename_i hl
            cases hv
            refine ⟨_, by simp only [h2, hd]; rw [if_pos (by rw [hcd.len]; exact hl)], ?_⟩
            have hsub := hcd.sub j len
            refine ⟨by simp [hcd.len], fun q a b ha hb => ?_⟩
            rw [List.getElem?_map] at ha hb
            cases h5 : ((c.drop j).take len)[q]? with
            | none => rw [h5] at ha; cases ha
            | some u =>
              obtain ⟨z, hz, hzu⟩ := hsub.get h5
              rw [h5] at ha; rw [hz] at hb
              cases ha; cases hb
              exact .cons hzu .nil
          · cases hv
      | map => simp at hv
      | iter => simp at hv

/-- what a value reads as; none where something in it is told no more -/
def frzU : Nat → O → V → Option V
  | 0, _, _ => none
  | n + 1, o, .ag cs => (cs.mapM (frzU n o)).map .ag
  | n + 1, o, .tp vs => (vs.mapM (frzU n o)).map .tp
  | _ + 1, _, .nil => some (.sl [])
  | n + 1, o, .rw id sz off len => match src o (.rw id sz off len) with
    | some es => (es.mapM fun c : List V => c.mapM (frzU n o)).map .sl
    | none => none
  | n + 1, o, .ra id i j len => match src o (.ra id i j len) with
    | some es => (es.mapM fun c : List V => c.mapM (frzU n o)).map .sl
    | none => none
  | n + 1, o, .pt id i j => match cellsAt o (.pt id i j) with
    | some (cs, j) => (cs.mapM (frzU n o)).map fun cs => .ip cs j
    | none => none
  | n + 1, o, .fn g cs => (cs.mapM (frzU n o)).map (.fn g)
  | _ + 1, _, .mp _ => none
  | _ + 1, _, .it _ => none
  | _ + 1, _, .jk => none
  | _ + 1, _, v => some v

def fzU (o : O) (v : V) : Option V := frzU FZ o v
def fzsU (o : O) (vs : List V) : Option (List V) := vs.mapM (fzU o)

theorem mapM_VR {f g : V → Option V} {cs ds ws : List V} (h : VRs m cs ds) (hf : ∀ v x w, VR m v x → f v = some w → g x = some w) (hv : cs.mapM f = some ws) : ds.mapM g = some ws := by
  induction cs generalizing ds ws with
  | nil => rw [h.inv0]; exact hv
  | cons c cs ih =>
    obtain ⟨d, ds', rfl, h1, h2⟩ := h.inv
    obtain ⟨w, ws', e1, e2, rfl⟩ := mapM_opt hv
    simp [hf c d w h1 e1, ih h2 e2]
theorem mapM2_VR {f g : V → Option V} {es fs ws : List (List V)} (h : RRs m es fs) (hf : ∀ v x w, VR m v x → f v = some w → g x = some w) (hv : (es.mapM fun c : List V => c.mapM f) = some ws) : (fs.mapM fun c : List V => c.mapM g) = some ws := by
  induction es generalizing fs ws with
  | nil =>
    have : fs = [] := List.eq_nil_of_length_eq_zero (by simpa using h.len)
    rw [this]; exact hv
  | cons c es ih =>
    cases fs with
    | nil => have := h.len; simp at this
    | cons d fs =>
      obtain ⟨w, ws', e1, e2, rfl⟩ := mapM_opt hv
      have h1 := h.at_ 0 c d rfl rfl
      have h2 : RRs m es fs := ⟨by simpa using h.len, fun j a b ha hb => h.at_ (j + 1) a b (by simpa using ha) (by simpa using hb)⟩
      simp [mapM_VR h1 hf e1, ih h2 e2]

theorem frz_VR (hs : SR m o o') : ∀ (n : Nat) (v x w : V), VR m v x → frzU n o v = some w → frz n o' x = some w := by
  intro n
  induction n with
  | zero => intro v x w _ h; cases h
  | succ n ih =>
    intro v x w hr h
    cases hr with
    | jk x => cases h
    | ag cs ds hl hh =>
      simp only [frzU] at h; simp only [frz]
      obtain ⟨ws, h1, rfl⟩ := Option.map_eq_some_iff.1 h
      rw [mapM_VR ⟨hl, hh⟩ ih h1]; rfl
    | tp cs ds hl hh =>
      simp only [frzU] at h; simp only [frz]
      obtain ⟨ws, h1, rfl⟩ := Option.map_eq_some_iff.1 h
      rw [mapM_VR ⟨hl, hh⟩ ih h1]; rfl
    | fn g cs ds hl hh =>
      simp only [frzU] at h; simp only [frz]
      obtain ⟨ws, h1, rfl⟩ := Option.map_eq_some_iff.1 h
      rw [mapM_VR ⟨hl, hh⟩ ih h1]; rfl
    | rw s id sz off len hm =>
      simp only [frzU] at h; simp only [frz]
      cases hsrc : src o (.rw s sz off len) with
      | none => rw [hsrc] at h; cases h
      | some es =>
        rw [hsrc] at h
        obtain ⟨fs, h1, h2⟩ := src_VR hs (.rw s id sz off len hm) hsrc
        obtain ⟨ws, h3, rfl⟩ := Option.map_eq_some_iff.1 h
        rw [h1]; simp only
        rw [mapM2_VR h2 ih h3]; rfl
    | ra s id i j len hm =>
      simp only [frzU] at h; simp only [frz]
      cases hsrc : src o (.ra s i j len) with
      | none => rw [hsrc] at h; cases h
      | some es =>
        rw [hsrc] at h
        obtain ⟨fs, h1, h2⟩ := src_VR hs (.ra s id i j len hm) hsrc
        obtain ⟨ws, h3, rfl⟩ := Option.map_eq_some_iff.1 h
        rw [h1]; simp only
        rw [mapM2_VR h2 ih h3]; rfl
    | pt s id i j hm =>
      simp only [frzU] at h; simp only [frz]
      cases hc : cellsAt o (.pt s i j) with
      | none => rw [hc] at h; cases h
      | some p =>
        obtain ⟨cs, j2⟩ := p
        rw [hc] at h
        obtain ⟨ds, h1, h2⟩ := cellsAt_VR hs (.pt s id i j hm) hc
        obtain ⟨ws, h3, rfl⟩ := Option.map_eq_some_iff.1 h
        rw [h1]; simp only
        rw [mapM_VR h2 ih h3]; rfl
    | mp => cases h
    | it => cases h
    | bo p => exact h
    | i k n => exact h
    | s y => exact h
    | nil => exact h
    | sl es hh => exact h
    | ip cs j hh => exact h
    | np => exact h
    | nf => exact h
    | nm => exact h

theorem fz_VR (hs : SR m o o') {v x w : V} (h : VR m v x) (hf : fzU o v = some w) : fz o' x = some w := frz_VR hs FZ v x w h hf
theorem fzs_VR (hs : SR m o o') {vs xs ws : List V} (h : VRs m vs xs) (hf : fzsU o vs = some ws) : fzs o' xs = some ws := mapM_VR h (fun _ _ _ h1 h2 => fz_VR hs h1 h2) hf

end

end Go.Proofs.Ytiadalheipbpcaa

/-
  Objects by names: the weakest precondition over names, and that it gives the one over whatever objects are made.
-/
namespace Go.Proofs.Ytiadalheipbpcaa
set_option linter.all false

/-! told whole, and leads to no object -/
mutual
def ok : V → Bool
  | .ag cs => okL cs
  | .tp cs => okL cs
  | .fn _ cs => okL cs
  | .sl es => cldLL es
  | .ip cs _ => cldL cs
  | .rw _ _ _ _ => false
  | .ra _ _ _ _ => false
  | .pt _ _ _ => false
  | .mp _ => false
  | .it _ => false
  | .jk => false
  | .bo _ => true
  | .i _ _ => true
  | .s _ => true
  | .nil => true
  | .np => true
  | .nf => true
  | .nm => true
def okL : List V → Bool
  | [] => true
  | v :: vs => ok v && okL vs
end
def okLL (es : List (List V)) : Bool := es.all okL

mutual
theorem ok_cld : ∀ (v : V), ok v = true → cld v = true
  | .ag cs, h => by rw [ok] at h; rw [cld]; exact okL_cld cs h
  | .tp cs, h => by rw [ok] at h; rw [cld]; exact okL_cld cs h
  | .fn _ cs, h => by rw [ok] at h; rw [cld]; exact okL_cld cs h
  | .sl es, h => by rw [ok] at h; rw [cld]; exact h
  | .ip cs _, h => by rw [ok] at h; rw [cld]; exact h
  | .rw _ _ _ _, h => by rw [ok] at h; cases h
  | .ra _ _ _ _, h => by rw [ok] at h; cases h
  | .pt _ _ _, h => by rw [ok] at h; cases h
  | .mp _, h => by rw [ok] at h; cases h
  | .it _, h => by rw [ok] at h; cases h
  | .jk, _ => by rw [cld]
  | .bo _, _ => by rw [cld]
  | .i _ _, _ => by rw [cld]
  | .s _, _ => by rw [cld]
  | .nil, _ => by rw [cld]
  | .np, _ => by rw [cld]
  | .nf, _ => by rw [cld]
  | .nm, _ => by rw [cld]
theorem okL_cld : ∀ (vs : List V), okL vs = true → cldL vs = true
  | [], _ => rfl
  | v :: vs, h => by
    rw [okL, Bool.and_eq_true] at h
    rw [cldL, ok_cld v h.1, okL_cld vs h.2]; rfl
end
theorem okL_iff (cs : List V) : okL cs = true ↔ ∀ v ∈ cs, ok v = true := by
  induction cs with
  | nil => simp [okL]
  | cons v cs ih => simp [okL, ih]
theorem okLL_cld {es : List (List V)} (h : okLL es = true) : cldLL es = true :=
  (cldLL_iff es).2 fun c hc => okL_cld c (List.all_eq_true.1 h c hc)

theorem ok_eq {m : Nm} {v x : V} (h : VR m v x) : ok v = true → x = v := by
  have lst : ∀ {cs ds : List V}, ds.length = cs.length → (∀ (j : Nat) v x, cs[j]? = some v → ds[j]? = some x → ok v = true → x = v) → okL cs = true → ds = cs := by
    intro cs ds hl hh hk
    apply List.ext_getElem? 
    intro j
    cases hc : cs[j]? with
    | none => rw [List.getElem?_eq_none_iff] at hc ⊢; omega
    | some v =>
      have hj := (List.getElem?_eq_some_iff.1 hc).1
      have hd : ds[j]? = some (ds[j]'(by omega)) := List.getElem?_eq_getElem _
      rw [hd, hh j v _ hc hd ((okL_iff cs).1 hk v (List.mem_of_getElem? hc))]
  induction h with
  | jk => intro h; rw [ok] at h; cases h
  | ag cs ds hl _ ih => intro h; rw [ok] at h; rw [lst hl ih h]
  | tp cs ds hl _ ih => intro h; rw [ok] at h; rw [lst hl ih h]
  | fn g cs ds hl _ ih => intro h; rw [ok] at h; rw [lst hl ih h]
  | rw => intro h; rw [ok] at h; cases h
  | ra => intro h; rw [ok] at h; cases h
  | pt => intro h; rw [ok] at h; cases h
  | mp => intro h; rw [ok] at h; cases h
  | it => intro h; rw [ok] at h; cases h
  | _ => intro _; rfl

theorem okL_eq {m : Nm} {cs ds : List V} (h : VRs m cs ds) (hk : okL cs = true) : ds = cs := by
  have := ok_eq (.ag cs ds h.len h.at_) (by rw [ok]; exact hk)
  cases this; rfl
theorem okLL_eq {m : Nm} {es fs : List (List V)} (h : RRs m es fs) (hk : okLL es = true) : fs = es := by
  apply List.ext_getElem?
  intro j
  cases hc : es[j]? with
  | none => rw [List.getElem?_eq_none_iff] at hc ⊢; rw [h.len]; exact hc
  | some c =>
    obtain ⟨d, hd, hcd⟩ := h.get hc
    rw [hd, okL_eq hcd (List.all_eq_true.1 hk c (List.mem_of_getElem? hc))]

mutual
theorem ok_cls1 : ∀ (v : V), ok v = true → cls1 v = true
  | .ag cs, h => by rw [ok] at h; rw [cls1]; exact okL_cls1 cs h
  | .tp cs, h => by rw [ok] at h; rw [cls1]; exact okL_cls1 cs h
  | .fn _ cs, h => by rw [ok] at h; rw [cls1]; exact okL_cls1 cs h
  | .sl _, _ => by rw [cls1]
  | .ip _ _, _ => by rw [cls1]
  | .rw _ _ _ _, h => by rw [ok] at h; cases h
  | .ra _ _ _ _, h => by rw [ok] at h; cases h
  | .pt _ _ _, h => by rw [ok] at h; cases h
  | .mp _, h => by rw [ok] at h; cases h
  | .it _, h => by rw [ok] at h; cases h
  | .jk, _ => by rw [cls1]
  | .bo _, _ => by rw [cls1]
  | .i _ _, _ => by rw [cls1]
  | .s _, _ => by rw [cls1]
  | .nil, _ => by rw [cls1]
  | .np, _ => by rw [cls1]
  | .nf, _ => by rw [cls1]
  | .nm, _ => by rw [cls1]
theorem okL_cls1 : ∀ (vs : List V), okL vs = true → cls1L vs = true
  | [], _ => rfl
  | v :: vs, h => by
    rw [okL, Bool.and_eq_true] at h
    rw [cls1L, ok_cls1 v h.1, okL_cls1 vs h.2]; rfl
end

abbrev UK := V → E → O → Prop

def pcU (cl : CallT) (o : O) (g : Nat) (vs : List V) (r : V) : Prop :=
  ∃ ws, fzsU o vs = some ws ∧ cl g ws emp (fun v o' => fz o' v = some r) ∧ (clos vs || flat FZ r) = true ∧ cld r = true

/-- a call that turns one object, and nothing else -/
def UpdC (cl : CallT) (g : Nat) (vs : Nat → List V) (q : Nat) (es es' : List (List V)) (r : V) : Prop :=
  ∀ (id : Nat) (o : O) (K : V → O → Prop), o id = some (.row q es) → (∀ o1, o1 id = some (.row q es') → (∀ i x, i ≠ id → o i = some x → o1 i = some x) → K r o1) → cl g (vs id) o K

def refV (s : Nat) : V → Nat → V
  | .rw i sz off len, id => if i == s then .rw id sz off len else .jk
  | .ra i k j len, id => if i == s then .ra id k j len else .jk
  | .pt i k j, id => if i == s then .pt id k j else .jk
  | v, _ => v
def refOk (s : Nat) : V → Bool
  | .rw i _ _ _ => i == s
  | .ra i _ _ _ => i == s
  | .pt i _ _ => i == s
  | v => ok v

/-- a list that is being built, under a name -/
def ownV (s sz : Nat) (L : List (List V)) : V := if L = [] then .nil else .rw s sz 0 L.length

/-- a value that is such a list -/
def LsV (o : O) (sz : Nat) (v : V) (L : List (List V)) : Prop := (L = [] ∧ v = .nil) ∨ (L ≠ [] ∧ ∃ id, v = .rw id sz 0 L.length ∧ o id = some (.row sz L))

/-- a call that is handed such a list, and answers another one in its place -/
def ApC (cl : CallT) (g : Nat) (f : V → List V) (sz : Nat) (L L' : List (List V)) : Prop :=
  ∀ (v : V) (o : O) (K : V → O → Prop), LsV o sz v L →
    (∀ v' o1, LsV o1 sz v' L' → (∀ i x, o i = some x → (∀ off len, v ≠ .rw i sz off len) → o1 i = some x ∧ ∀ off len, v' ≠ .rw i sz off len) → K v' o1) → cl g (f v) o K

/-- a call that is handed such a list, turns nothing, and answers something made of it -/
def RdC (cl : CallT) (g : Nat) (f : V → List V) (sz : Nat) (L : List (List V)) (res : V → V) : Prop :=
  ∀ (v : V) (o : O) (K : V → O → Prop), LsV o sz v L → (∀ o1, (∀ i x, o i = some x → o1 i = some x) → K (res v) o1) → cl g (f v) o K

def UW (cl : CallT) (nm : Nat) (e : E) (o : O) (K : UK) : I → Prop
  | .pc g as => ∃ r, pcU cl o g (as.map (Od.ev e)) r ∧ K r e o
  | .pv g as => ∃ r, (match g.ev e with
      | .fn h cs => pcU cl o h (as.map (Od.ev e) ++ cs) r
      | _ => False) ∧ K r e o
  | .alc z => K (.pt nm 0 0) (swpE nm e) (upd (swpO nm o) nm (some (.row z.length [z])))
  | .box x => (x.ev e).cells ≠ [] ∧ K (.pt nm 0 0) (swpE nm e) (upd (swpO nm o) nm (some (.row (x.ev e).cells.length [swpL nm (x.ev e).cells])))
  | .bsl sz n z ps =>
    if n = 0 then K .nil e o else
    match fillE e sz ps (List.replicate n z) with
    | some es => K (.rw nm sz 0 n) (swpE nm e) (upd (swpO nm o) nm (some (.row sz (swpR nm es))))
    | none => False
  | .mks sz byt z l c => match natV (l.ev e), natV (c.ev e) with
    | some l, some c => l ≤ c ∧ sizeOk c byt ∧ K (.rw nm sz 0 l) (swpE nm e) (upd (swpO nm o) nm (some (.row sz (List.replicate l z))))
    | _, _ => False
  | .sto sz x v => match x.ev e with
    | .pt id i j => match o id with
      | some (.row s es) => match es[i]? with
        | some cs => (v.ev e).cells.length = sz ∧ j + sz ≤ cs.length ∧ K .jk e (upd o id (some (.row s (es.set i (splice j (v.ev e).cells cs)))))
        | none => False
      | _ => False
    | _ => False
  | .app sz byt x y => match src o (y.ev e) with
    | some ys => (∀ c ∈ ys, c.length = sz) ∧ (match x.ev e with
      | .nil => sizeOk ys.length byt ∧ (ys = [] → K .nil e o) ∧
          (ys ≠ [] → ∃ s, s < 1000000 ∧ K (.rw s sz 0 ys.length) (swpE s e) (upd (swpO s o) s (some (.row sz (swpR s ys)))))
      | .rw s sz' off len => sz' = sz ∧ off = 0 ∧ (match o s with
        | some (.row _ es) => len ≤ es.length ∧ sizeOk (len + ys.length) byt ∧ (ys = [] → K (.rw s sz 0 len) e o) ∧
            (ys ≠ [] → if s < 1000000 then K (.rw s sz 0 (len + ys.length)) (swpE s e) (upd (swpO s o) s (some (.row sz (swpR s (es.take len ++ ys)))))
              else K (.rw nm sz 0 (len + ys.length)) (swpE nm (swpE s e)) (upd (swpO nm (swpO s o)) nm (some (.row sz (swpR nm (swpR s (es.take len ++ ys)))))))
        | _ => False)
      | _ => False)
    | none => False
  | .nc g as => (∃ s q es es' r, o s = some (.row q es) ∧ okLL es = true ∧ okLL es' = true ∧ ok r = true ∧ (as.map (Od.ev e)).all (refOk s) = true ∧
      UpdC cl g (fun id => (as.map (Od.ev e)).map fun v => refV s v id) q es es' r ∧ K r e (upd o s (some (.row q es')))) ∨
      (∃ s sz L L' pre post, s < 1000000 ∧ as.map (Od.ev e) = pre ++ ownV s sz L :: post ∧ okL pre = true ∧ okL post = true ∧ okLL L = true ∧ okLL L' = true ∧ (L ≠ [] → o s = some (.row sz L)) ∧
        ApC cl g (fun v => pre ++ v :: post) sz L L' ∧ K (ownV s sz L') (swpE s e) (if L' = [] then swpO s o else upd (swpO s o) s (some (.row sz L')))) ∨
      (∃ s sz L res pre post, as.map (Od.ev e) = pre ++ ownV s sz L :: post ∧ okL pre = true ∧ okL post = true ∧ okLL L = true ∧ (L ≠ [] → o s = some (.row sz L)) ∧
        RdC cl g (fun v => pre ++ v :: post) sz L res ∧ (∀ m x, VR m (ownV s sz L) x → VR m (res (ownV s sz L)) (res x)) ∧ K (res (ownV s sz L)) e o)
  | .q q => match qv e q with
    | some v => K v e o
    | none => False
  | .isn mp neg x => match isnV o mp neg (x.ev e) with
    | some v => K v e o
    | none => False
  | .ld sz ag x => match rv e o (.ld sz ag x) with
    | some v => K v e o
    | none => False
  | _ => False

def ckI : I → Bool
  | .q q => ckQ q
  | .isn _ _ x => ckO x
  | .ld _ _ x => ckO x
  | .pc _ as => as.all ckO
  | .pv g as => ckO g && as.all ckO
  | .alc z => cldL z
  | .box x => ckO x
  | .bsl sz _ z ps => decide (0 < sz) && cldL z && ckE ps
  | .mks _ _ z l c => cldL z && ckO l && ckO c
  | .sto sz x v => decide (0 < sz) && ckO x && ckO v
  | .app _ _ x y => ckO x && ckO y
  | .nc _ as => as.all ckO
  | _ => true

/-- untouched objects stay -/
def FrB (b : O) (m : Nm) (o' : O) : Prop := ∀ id x, b id = some x → o' id = some x ∧ ∀ s, m s ≠ some id

/-- the names from this one on stay with their objects -/
def PN : Nat := 1000000
def Pin (m0 m : Nm) : Prop := ∀ s, PN ≤ s → m s = m0 s ∨ m s = none

structure Rl (b : O) (m0 : Nm) (m : Nm) (e : E) (o : O) (e' : E) (o' : O) : Prop where
  e : ∀ t, VR m (e t) (e' t)
  o : SR m o o'
  f : FrB b m o'
  p : Pin m0 m

theorem Pin.up {m0 m : Nm} (h : Pin m0 m) {d : Nat} (hd : d < PN) (x : Option Nat) : Pin m0 (upd m d x) := fun s hs => by
  have : s ≠ d := by omega
  simp only [Go.Proofs.Ytiadalheipbpcaa.upd, if_neg this]; exact h s hs
theorem Pin.no {m0 m : Nm} (h : Pin m0 m) (d : Nat) : Pin m0 (upd m d none) := fun s hs => by
  simp only [Go.Proofs.Ytiadalheipbpcaa.upd]
  split
  · exact .inr rfl
  · exact h s hs

theorem put_VR {m : Nm} {e e' : E} (he : ∀ t, VR m (e t) (e' t)) {v x : V} (h : VR m v x) (d : Option Nat) : ∀ t, VR m (put e d v t) (put e' d x t) := by
  intro t
  cases d with
  | none => exact he t
  | some d =>
    simp only [put, upd]
    split
    · exact h
    · exact he t

theorem clo_VR {m : Nm} {o : O} : ∀ (n k : Nat) (v x w : V), VR m v x → frzU k o v = some w → clo n v = true → clo n x = true := by
  intro n
  induction n with
  | zero => intro k v x w _ _ h; cases h
  | succ n ih =>
    intro k v x w hr hf h
    have lst : ∀ {cs ds ws : List V} {k : Nat}, VRs m cs ds → cs.mapM (frzU k o) = some ws → cs.all (clo n) = true → ds.all (clo n) = true := by
      intro cs
      induction cs with
      | nil => intro ds ws k h _ _; rw [h.inv0]; rfl
      | cons c cs ih2 =>
        intro ds ws k h hm ha
        obtain ⟨d, ds', rfl, h1, h2⟩ := h.inv
        obtain ⟨w, ws', e1, e2, rfl⟩ := mapM_opt hm
        simp only [List.all_cons, Bool.and_eq_true] at ha ⊢
        exact ⟨ih k c d w h1 e1 ha.1, ih2 h2 e2 ha.2⟩
    cases k with
    | zero => cases hf
    | succ k =>
      cases hr with
      | jk => cases hf
      | ag cs ds hl hh =>
        simp only [frzU] at hf; simp only [clo] at h ⊢
        obtain ⟨ws, h1, _⟩ := Option.map_eq_some_iff.1 hf
        exact lst ⟨hl, hh⟩ h1 h
      | tp cs ds hl hh =>
        simp only [frzU] at hf; simp only [clo] at h ⊢
        obtain ⟨ws, h1, _⟩ := Option.map_eq_some_iff.1 hf
        exact lst ⟨hl, hh⟩ h1 h
      | fn g cs ds hl hh =>
        simp only [frzU] at hf; simp only [clo] at h ⊢
        obtain ⟨ws, h1, _⟩ := Option.map_eq_some_iff.1 hf
        exact lst ⟨hl, hh⟩ h1 h
      | rw => cases h
      | ra => cases h
      | pt => cases h
      | mp => cases h
      | it => cases h
      | _ => exact h

theorem clos_VR {m : Nm} {o : O} {vs xs ws : List V} (h : VRs m vs xs) (hf : fzsU o vs = some ws) (hc : clos vs = true) : clos xs = true := by
  induction vs generalizing xs ws with
  | nil => rw [h.inv0]; rfl
  | cons v vs ih =>
    obtain ⟨x, xs', rfl, h1, h2⟩ := h.inv
    obtain ⟨w, ws', e1, e2, rfl⟩ := mapM_opt hf
    simp only [clos, List.all_cons, Bool.and_eq_true] at hc ⊢
    exact ⟨clo_VR _ _ v x w h1 e1 hc.1, ih h2 e2 hc.2⟩

theorem pc_VR {cl : CallT} {m : Nm} {o o' : O} (hs : SR m o o') {g : Nat} {vs xs : List V} {r : V} (h : VRs m vs xs) (hp : pcU cl o g vs r) : pcall cl o' g xs r ∧ VR m r r := by
  obtain ⟨ws, h1, h2, h3, h4⟩ := hp
  refine ⟨⟨ws, fzs_VR hs h h1, h2, ?_⟩, cld_VR m r h4⟩
  rw [Bool.or_eq_true] at h3 ⊢
  rcases h3 with h3 | h3
  · exact .inl (clos_VR h h1 h3)
  · exact .inr h3

theorem Rl.new {b : O} {m0 m : Nm} {e e' : E} {o o' : O} (h : Rl b m0 m e o e' o') {d id : Nat} (hd : d < PN) {x y : Ob} (hid : o' id = none) (hxy : OR (upd m d (some id)) x y) : Rl b m0 (upd m d (some id)) (swpE d e) (upd (swpO d o) d (some x)) e' (upd o' id (some y)) :=
  ⟨fun t => (h.e t).swp fun s hs => by simp [upd, hs], h.o.new hid hxy, fun i z hz => by
    obtain ⟨h1, h2⟩ := h.f i z hz
    have hne : i ≠ id := fun hh => by rw [hh, hid] at h1; cases h1
    refine ⟨by simp only [upd, if_neg hne]; exact h1, fun s => ?_⟩
    simp only [upd]
    split
    · intro hh; cases hh; exact hne rfl
    · exact h2 s, h.p.up hd _⟩

theorem Rl.set {b : O} {m0 m : Nm} {e e' : E} {o o' : O} (h : Rl b m0 m e o e' o') {s id : Nat} {x y : Ob} (hs : m s = some id) (hxy : OR m x y) : Rl b m0 m e (upd o s (some x)) e' (upd o' id (some y)) :=
  ⟨h.e, h.o.set hs hxy, fun i z hz => by
    obtain ⟨h1, h2⟩ := h.f i z hz
    have hne : i ≠ id := fun hh => h2 s (by rw [hh]; exact hs)
    exact ⟨by simp only [upd, if_neg hne]; exact h1, h2⟩, h.p⟩

theorem Rl.gone {b : O} {m0 m : Nm} {e e' : E} {o o' : O} (h : Rl b m0 m e o e' o') {s id : Nat} (hs : m s = some id) : Rl b m0 (upd m s none) (swpE s e) (swpO s o) e' (upd o' id none) :=
  ⟨fun t => (h.e t).swp fun u hu => by simp [upd, hu], h.o.gone hs, fun i z hz => by
    obtain ⟨h1, h2⟩ := h.f i z hz
    have hne : i ≠ id := fun hh => h2 s (by rw [hh]; exact hs)
    refine ⟨by simp only [upd, if_neg hne]; exact h1, fun u => ?_⟩
    simp only [upd]
    split
    · simp
    · exact h2 u, h.p.no s⟩

/-- the name is kept, the object is another one -/
theorem Rl.anew {b : O} {m0 m : Nm} {e e' : E} {o o' : O} (h : Rl b m0 m e o e' o') {s id id' : Nat} (hsp : s < PN) (hs : m s = some id) (hid : upd o' id none id' = none) {x y : Ob} (hxy : OR (upd (upd m s none) s (some id')) x y) :
    Rl b m0 (upd (upd m s none) s (some id')) (swpE s e) (upd (swpO s o) s (some x)) e' (upd (upd o' id none) id' (some y)) := by
  have hg := h.gone hs
  refine ⟨fun t => (h.e t).swp fun u hu => by simp [upd, hu], ?_, ?_, (h.p.no s).up hsp _⟩
  · have hup : ∀ t, t ≠ s → upd (upd m s none) s (some id') t = upd m s none t := fun t ht => by simp [upd, ht]
    have hne : ∀ t i, upd m s none t = some i → i ≠ id' := fun t i ht hh => by
      obtain ⟨z, hz⟩ := hg.o.live t i ht
      rw [hh, hid] at hz; cases hz
    refine ⟨fun a c i h1 h2 => ?_, fun a i h1 => ?_, fun a z hz => ?_⟩
    · by_cases ha : a = s
      · by_cases hc : c = s
        · rw [ha, hc]
        · rw [hup c hc] at h2
          subst ha
          simp only [upd, if_true] at h1
          cases h1; exact absurd rfl (hne c _ h2)
      · by_cases hc : c = s
        · rw [hup a ha] at h1
          subst hc
          simp only [upd, if_true] at h2
          cases h2; exact absurd rfl (hne a _ h1)
        · rw [hup a ha] at h1
          rw [hup c hc] at h2
          exact hg.o.inj a c i h1 h2
    · by_cases ha : a = s
      · subst ha
        simp only [upd, if_true] at h1
        cases h1; exact ⟨y, by simp [upd]⟩
      · rw [hup a ha] at h1
        obtain ⟨z, hz⟩ := hg.o.live a i h1
        exact ⟨z, by rw [upd]; rw [if_neg (hne a i h1)]; exact hz⟩
    · by_cases ha : a = s
      · subst ha
        simp only [upd, if_true, Option.some.injEq] at hz
        subst hz
        exact ⟨id', y, by simp [upd], by simp [upd], hxy⟩
      · have hz' : swpO s o a = some z := by simpa [upd, ha] using hz
        obtain ⟨i, y0, h1, h2, h3⟩ := hg.o.ob a z hz'
        simp only [swpO] at hz'
        rw [if_neg (by simpa using ha)] at hz'
        obtain ⟨x0, hx0, hx1⟩ := Option.bind_eq_some_iff.1 hz'
        obtain ⟨i2, y2, g1, g2, g3⟩ := h.o.ob a x0 hx0
        have hi : i2 = i := by
          have : upd m s none a = m a := by simp [upd, ha]
          rw [this, g1] at h1; cases h1; rfl
        subst hi
        have hy : y2 = y0 := by
          have hne2 : i2 ≠ id := fun hh => ha (h.o.inj a s id (by rw [g1, hh]) hs)
          rw [upd, if_neg hne2, g2] at h2
          cases h2; rfl
        subst hy
        refine ⟨i2, y2, by rw [hup a ha]; exact h1, ?_, g3.swp (fun t ht => by simp [upd, ht]) hx1⟩
        rw [upd, if_neg (hne a i2 h1)]; exact h2
  · intro i z hz
    obtain ⟨h1, h2⟩ := hg.f i z hz
    have hne : i ≠ id' := fun hh => by rw [hh, hid] at h1; cases h1
    refine ⟨by rw [upd, if_neg hne]; exact h1, fun u => ?_⟩
    by_cases hu : u = s
    · subst hu
      simp only [upd, if_true]
      intro hh; cases hh; exact hne rfl
    · have : upd (upd m s none) s (some id') u = upd m s none u := by simp [upd, hu]
      rw [this]; exact h2 u

theorem refV_VR {m : Nm} {s id : Nat} (hs : m s = some id) {v x : V} (h : VR m v x) (hr : refOk s v = true) : x = refV s v id := by
  have oth : ok v = true → refV s v id = v → x = refV s v id := fun h1 h2 => by rw [h2]; exact ok_eq h h1
  cases h with
  | rw t i sz off len ht =>
    simp only [refOk, beq_iff_eq] at hr; subst hr
    rw [hs] at ht; cases ht
    simp [refV]
  | ra t i a c len ht =>
    simp only [refOk, beq_iff_eq] at hr; subst hr
    rw [hs] at ht; cases ht
    simp [refV]
  | pt t i a c ht =>
    simp only [refOk, beq_iff_eq] at hr; subst hr
    rw [hs] at ht; cases ht
    simp [refV]
  | jk => simp [refOk, ok] at hr
  | mp => simp [refOk, ok] at hr
  | it => simp [refOk, ok] at hr
  | _ => exact oth hr rfl

theorem own_args {b : O} {m0 : Nm} {g : Nat} {as : List Od} (hk : ckI (.nc g as) = true) {m : Nm} {e e' : E} {o o' : O} (hR : Rl b m0 m e o e' o') {s sz : Nat} {L : List (List V)} {pre post : List V} (hargs : as.map (Od.ev e) = pre ++ ownV s sz L :: post) (hpre : okL pre = true) (hpost : okL post = true)
    (hL : okLL L = true) (ho : L ≠ [] → o s = some (.row sz L)) : ∃ x, as.map (Od.ev e') = pre ++ x :: post ∧ VR m (ownV s sz L) x ∧ LsV o' sz x L ∧ (∀ i off len, x = .rw i sz off len → m s = some i) := by
  have hvs := ods_VR hR.e (l := as) hk
  rw [hargs] at hvs
  -- the arguments, over what objects are made
  have hsplit : ∃ x, as.map (Od.ev e') = pre ++ x :: post ∧ VR m (ownV s sz L) x := by
    generalize as.map (Od.ev e') = xs at hvs
    clear hargs
    induction pre generalizing xs with
    | nil =>
      obtain ⟨x, xs', rfl, h1, h2⟩ := VRs.inv (by simpa using hvs)
      exact ⟨x, by rw [okL_eq h2 hpost]; rfl, h1⟩
    | cons p pre ih =>
      rw [okL, Bool.and_eq_true] at hpre
      obtain ⟨y, ys, rfl, h1, h2⟩ := VRs.inv (by simpa using hvs)
      obtain ⟨x, h3, h4⟩ := ih hpre.2 ys h2
      exact ⟨x, by rw [h3, ok_eq h1 hpre.1]; rfl, h4⟩
  obtain ⟨x, hx, hvx⟩ := hsplit
  -- the list, over what objects are made
  have hls : LsV o' sz x L ∧ (∀ i off len, x = .rw i sz off len → m s = some i) := by
    unfold ownV at hvx
    split at hvx
    · rename_i hl
      cases hvx
      exact ⟨.inl ⟨hl, rfl⟩, fun i off len h => by cases h⟩
    · rename_i hl
      cases hvx with
      | rw _ id _ _ _ hm =>
        obtain ⟨id2, y, g1, g2, g3⟩ := hR.o.ob s _ (ho hl)
        rw [hm] at g1; cases g1
        cases g3 with
        | row _ _ fs hrr =>
          rw [okLL_eq hrr hL] at g2
          exact ⟨.inr ⟨hl, id, rfl, g2⟩, fun i off len h => by cases h; exact hm⟩
  exact ⟨x, hx, hvx, hls⟩

theorem apc_ok {cl : CallT} {b : O} {m0 : Nm} {g : Nat} {as : List Od} (hk : ckI (.nc g as) = true) {m : Nm} {e e' : E} {o o' : O} {K : UK} {K' : V → O → Prop} (hR : Rl b m0 m e o e' o')
    (hK : ∀ v e1 o1 m1 v' o1', K v e1 o1 → VR m1 v v' → Rl b m0 m1 e1 o1 e' o1' → K' v' o1') {s sz : Nat} {L L' : List (List V)} {pre post : List V} (hsp : s < 1000000) (hargs : as.map (Od.ev e) = pre ++ ownV s sz L :: post) (hpre : okL pre = true) (hpost : okL post = true)
    (hL : okLL L = true) (hL' : okLL L' = true) (ho : L ≠ [] → o s = some (.row sz L)) (hap : ApC cl g (fun v => pre ++ v :: post) sz L L') (hfin : K (ownV s sz L') (swpE s e) (if L' = [] then swpO s o else upd (swpO s o) s (some (.row sz L')))) : cl g (as.map (Od.ev e')) o' K' := by
  obtain ⟨x, hx, hvx, hls⟩ := own_args hk hR hargs hpre hpost hL ho
  rw [hx]
  refine hap x o' K' hls.1 fun v' o1 hl1 hkeep => ?_
  have hup : ∀ t, t ≠ s → upd m s none t = m t := fun t ht => by simp [upd, ht]
  have hkt : ∀ t i, t ≠ s → m t = some i → ∀ z, o' i = some z → o1 i = some z ∧ ∀ off len, v' ≠ .rw i sz off len := fun t i ht hm z hz =>
    hkeep i z hz fun off len hh => ht (hR.o.inj t s i hm (hls.2 i off len hh))
  have hkb : ∀ i z, b i = some z → o1 i = some z ∧ ∀ off len, v' ≠ .rw i sz off len := fun i z hz => by
    obtain ⟨h1, h2⟩ := hR.f i z hz
    exact hkeep i z h1 fun off len hh => h2 s (hls.2 i off len hh)
  have hmid : Rl b m0 (upd m s none) (swpE s e) (swpO s o) e' o1 := by
    refine ⟨fun t => (hR.e t).swp fun u hu => by simp [upd, hu], ⟨fun a c i h1 h2 => ?_, fun a i h1 => ?_, fun a z hz => ?_⟩, fun i z hz => ⟨(hkb i z hz).1, fun u => ?_⟩, hR.p.no s⟩
    · have ha : a ≠ s := fun hh => by simp [upd, hh] at h1
      have hc : c ≠ s := fun hh => by simp [upd, hh] at h2
      rw [hup a ha] at h1; rw [hup c hc] at h2
      exact hR.o.inj a c i h1 h2
    · have ha : a ≠ s := fun hh => by simp [upd, hh] at h1
      rw [hup a ha] at h1
      obtain ⟨z, hz⟩ := hR.o.live a i h1
      exact ⟨z, (hkt a i ha h1 z hz).1⟩
    · simp only [swpO] at hz
      split at hz
      · cases hz
      · rename_i ha
        have ha : a ≠ s := by simpa using ha
        obtain ⟨x0, hx0, hx1⟩ := Option.bind_eq_some_iff.1 hz
        obtain ⟨i, y0, h1, h2, h3⟩ := hR.o.ob a x0 hx0
        exact ⟨i, y0, by rw [hup a ha]; exact h1, (hkt a i ha h1 y0 h2).1, h3.swp hup hx1⟩
    · by_cases hu : u = s
      · subst hu; simp [upd]
      · rw [hup u hu]; exact (hR.f i z hz).2 u
  by_cases hl : L' = []
  · rw [if_pos hl] at hfin
    have hv' : v' = .nil := by
      rcases hl1 with ⟨_, h⟩ | ⟨h, _⟩
      · exact h
      · exact absurd hl h
    have : ownV s sz L' = .nil := if_pos hl
    rw [this] at hfin
    rw [hv']
    exact hK _ _ _ _ _ _ hfin .nil hmid
  · rw [if_neg hl] at hfin
    have : ownV s sz L' = .rw s sz 0 L'.length := if_neg hl
    rw [this] at hfin
    rcases hl1 with ⟨h, _⟩ | ⟨_, id2, rfl, h2⟩
    · exact absurd h hl
    have hfr : ∀ t, t ≠ s → m t ≠ some id2 := fun t ht hm => by
      obtain ⟨z, hz⟩ := hR.o.live t id2 hm
      exact (hkt t id2 ht hm z hz).2 0 L'.length rfl
    refine hK _ _ _ (upd m s (some id2)) _ _ hfin (.rw s id2 sz 0 _ (by simp [upd])) ⟨fun t => (hR.e t).swp fun u hu => by simp [upd, hu], ⟨fun a c i h1 h3 => ?_, fun a i h1 => ?_, fun a z hz => ?_⟩, fun i z hz => ⟨(hkb i z hz).1, fun u => ?_⟩, hR.p.up hsp _⟩
    · simp only [upd] at h1 h3
      split at h1 <;> split at h3
      · simp_all
      · cases h1; exact absurd h3 (hfr c ‹_›)
      · cases h3; exact absurd h1 (hfr a ‹_›)
      · exact hR.o.inj a c i h1 h3
    · simp only [upd] at h1
      split at h1
      · cases h1; exact ⟨_, h2⟩
      · rename_i ha
        obtain ⟨z, hz⟩ := hR.o.live a i h1
        exact ⟨z, (hkt a i ha h1 z hz).1⟩
    · by_cases ha : a = s
      · subst ha
        simp only [upd, if_true, Option.some.injEq] at hz
        subst hz
        exact ⟨id2, _, by simp [upd], h2, .row _ _ _ (cldLL_RRs _ (okLL_cld hL'))⟩
      · have hz' : swpO s o a = some z := by simpa [upd, ha] using hz
        simp only [swpO] at hz'
        rw [if_neg (by simpa using ha)] at hz'
        obtain ⟨x0, hx0, hx1⟩ := Option.bind_eq_some_iff.1 hz'
        obtain ⟨i, y0, g1, g2, g3⟩ := hR.o.ob a x0 hx0
        exact ⟨i, y0, by simp only [upd, if_neg ha]; exact g1, (hkt a i ha g1 y0 g2).1, g3.swp (fun t ht => by simp [upd, ht]) hx1⟩
    · by_cases hu : u = s
      · subst hu
        simp only [upd, if_true]
        intro hh; cases hh
        exact (hkb _ z hz).2 0 L'.length rfl
      · simp only [upd, if_neg hu]; exact (hR.f i z hz).2 u

theorem rdc_ok {cl : CallT} {b : O} {m0 : Nm} {g : Nat} {as : List Od} (hk : ckI (.nc g as) = true) {m : Nm} {e e' : E} {o o' : O} {K : UK} {K' : V → O → Prop} (hR : Rl b m0 m e o e' o')
    (hK : ∀ v e1 o1 m1 v' o1', K v e1 o1 → VR m1 v v' → Rl b m0 m1 e1 o1 e' o1' → K' v' o1') {s sz : Nat} {L : List (List V)} {res : V → V} {pre post : List V} (hargs : as.map (Od.ev e) = pre ++ ownV s sz L :: post) (hpre : okL pre = true) (hpost : okL post = true)
    (hL : okLL L = true) (ho : L ≠ [] → o s = some (.row sz L)) (hap : RdC cl g (fun v => pre ++ v :: post) sz L res) (hres : ∀ m x, VR m (ownV s sz L) x → VR m (res (ownV s sz L)) (res x)) (hfin : K (res (ownV s sz L)) e o) : cl g (as.map (Od.ev e')) o' K' := by
  obtain ⟨x, hx, hvx, hls⟩ := own_args hk hR hargs hpre hpost hL ho
  rw [hx]
  refine hap x o' K' hls.1 fun o1 hkeep => hK _ _ _ _ _ _ hfin (hres m x hvx) ⟨hR.e, ⟨hR.o.inj, fun t i ht => ?_, fun t z hz => ?_⟩, fun i z hz => ?_, hR.p⟩
  · obtain ⟨z, hz⟩ := hR.o.live t i ht
    exact ⟨z, hkeep i z hz⟩
  · obtain ⟨i, y, h1, h2, h3⟩ := hR.o.ob t z hz
    exact ⟨i, y, h1, hkeep i y h2, h3⟩
  · obtain ⟨h1, h2⟩ := hR.f i z hz
    exact ⟨hkeep i z h1, h2⟩

theorem UW_ok {cl : CallT} (hcl : Le cl cl) {b : O} {m0 : Nm} {j : I} (hk : ckI j = true) {m : Nm} {e e' : E} {o o' : O} {nm : Nat} {K : UK} {K' : V → O → Prop} (hnm : nm < PN) (h : UW cl nm e o K j) (hR : Rl b m0 m e o e' o')
    (hK : ∀ v e1 o1 m1 v' o1', K v e1 o1 → VR m1 v v' → Rl b m0 m1 e1 o1 e' o1' → K' v' o1') : W cl e' o' K' j := by
  cases j <;> (first | exact h.elim | skip)
  case q q =>
    simp only [UW] at h
    simp only [W, rv]
    cases hv : qv e q with
    | none => rw [hv] at h; exact h.elim
    | some v =>
      rw [hv] at h
      obtain ⟨x, h1, h2⟩ := qv_VR hR.e hk hv
      rw [h1]
      exact hK v e o m x o' h h2 hR
  case isn mp neg x =>
    simp only [UW] at h
    simp only [W, rv]
    cases hv : isnV o mp neg (x.ev e) with
    | none => rw [hv] at h; exact h.elim
    | some v =>
      rw [hv] at h
      obtain ⟨h1, h2⟩ := isnV_VR hR.o (od_VR hR.e hk) hv
      rw [h1]
      exact hK v e o m v o' h h2 hR
  case ld sz ag x =>
    simp only [UW, rv] at h
    simp only [W, rv]
    cases hc : cellsAt o (x.ev e) with
    | none => rw [hc] at h; exact h.elim
    | some p =>
      obtain ⟨cs, j⟩ := p
      rw [hc] at h
      obtain ⟨ds, h1, h2⟩ := cellsAt_VR hR.o (od_VR hR.e hk) hc
      rw [h1]
      simp only at h ⊢
      cases hp : prt ag j sz cs with
      | none => rw [hp] at h; exact h.elim
      | some v =>
        rw [hp] at h
        obtain ⟨y, h3, h4⟩ := prt_VR h2 hp
        rw [h3]
        exact hK v e o m y o' h h4 hR
  case pc g as =>
    obtain ⟨r, h1, h2⟩ := h
    obtain ⟨h3, h4⟩ := pc_VR hR.o (ods_VR hR.e hk) h1
    exact ⟨r, h3, hK r e o m r o' h2 h4 hR⟩
  case pv g as =>
    obtain ⟨r, h1, h2⟩ := h
    simp only [ckI, Bool.and_eq_true] at hk
    have hg := od_VR hR.e (x := g) hk.1
    generalize g.ev e = gv at h1 hg
    generalize hgx : g.ev e' = gx at hg
    cases hg <;> simp only at h1 <;> (first | exact h1.elim | skip)
    rename_i f cs ds hl hh
    obtain ⟨h3, h4⟩ := pc_VR hR.o ((ods_VR hR.e hk.2).append ⟨hl, hh⟩) h1
    refine ⟨r, ?_, hK r e o m r o' h2 h4 hR⟩
    rw [hgx]
    exact h3
  case alc z =>
    intro id hid
    exact hK _ _ _ _ _ _ h (.pt nm id 0 0 (by simp [upd])) (hR.new hnm hid (.row _ _ _ (RRs.one (cldL_VR _ z hk))))
  case box x =>
    have hx := od_VR hR.e (x := x) hk
    have hne : x.ev e ≠ .jk := fun hh => h.1 (by rw [hh]; rfl)
    have hc := cells_VR hx hne
    refine ⟨fun hh => h.1 (List.eq_nil_of_length_eq_zero (by rw [← hc.len, hh]; rfl)), fun id hid => ?_⟩
    refine hK _ _ _ _ _ _ h.2 (.pt nm id 0 0 (by simp [upd])) (hR.new hnm hid ?_)
    rw [hc.len]
    exact .row _ _ _ (RRs.one (hc.swp fun s hs => by simp [upd, hs]))
  case bsl sz n z ps =>
    simp only [ckI, Bool.and_eq_true, decide_eq_true_eq] at hk
    simp only [UW] at h
    simp only [W]
    by_cases hn : n = 0
    · rw [if_pos hn] at h ⊢
      exact hK _ _ _ _ _ _ h .nil hR
    · rw [if_neg hn] at h ⊢
      cases hf : fillE e sz ps (List.replicate n z) with
      | none => rw [hf] at h; exact h.elim
      | some es =>
        rw [hf] at h
        obtain ⟨fs, h1, h2⟩ := fillE_VR hR.e hk.1.1 ps hk.2 (RRs.rep (cldL_VR m z hk.1.2) n) hf
        rw [h1]
        intro id hid
        exact hK _ _ _ _ _ _ h (.rw nm id sz 0 n (by simp [upd])) (hR.new hnm hid (.row _ _ _ (h2.swp fun s hs => by simp [upd, hs])))
  case mks sz byt z l c =>
    simp only [ckI, Bool.and_eq_true] at hk
    simp only [UW] at h
    simp only [W]
    cases h1 : natV (l.ev e) with
    | none => rw [h1] at h; exact h.elim
    | some p =>
      cases h2 : natV (c.ev e) with
      | none => rw [h1, h2] at h; exact h.elim
      | some q =>
        rw [h1, h2] at h
        rw [natV_VR (od_VR hR.e hk.1.2) h1, natV_VR (od_VR hR.e hk.2) h2]
        refine ⟨h.1, h.2.1, fun id hid => ?_⟩
        exact hK _ _ _ _ _ _ h.2.2 (.rw nm id sz 0 p (by simp [upd])) (hR.new hnm hid (.row _ _ _ (RRs.rep (cldL_VR _ z hk.1.1) p)))
  case sto sz x v =>
    simp only [ckI, Bool.and_eq_true, decide_eq_true_eq] at hk
    simp only [UW] at h
    simp only [W]
    have hx := od_VR hR.e (x := x) hk.1.2
    generalize x.ev e = xv at h hx
    generalize hgx : x.ev e' = xw at hx
    cases hx <;> simp only at h <;> (first | exact h.elim | skip)
    rename_i s id i j hm
    cases ho : o s with
    | none => rw [ho] at h; exact h.elim
    | some ob =>
      obtain ⟨id2, y, g1, g2, g3⟩ := hR.o.ob s ob ho
      rw [hm] at g1; cases g1
      rw [ho] at h
      cases g3 with
      | map => exact h.elim
      | iter => exact h.elim
      | row q es fs hrr =>
        simp only at h
        cases hc : es[i]? with
        | none => rw [hc] at h; exact h.elim
        | some cs =>
          rw [hc] at h
          simp only at h
          obtain ⟨ds, hd, hcd⟩ := hrr.get hc
          have hv := od_VR hR.e (x := v) hk.2
          have hvc := cells_VR hv (cells_ne h.1 hk.1.1)
          simp only [g2, hd]
          refine ⟨by rw [hvc.len]; exact h.1, by rw [hcd.len]; exact h.2.1, ?_⟩
          exact hK _ _ _ _ _ _ h.2.2 (.jk _) (hR.set hm (.row _ _ _ (hrr.set (splice_VR j hvc hcd) i)))
  case app sz byt x y =>
    simp only [ckI, Bool.and_eq_true] at hk
    simp only [UW] at h
    simp only [W]
    cases hsrc : src o (y.ev e) with
    | none => rw [hsrc] at h; exact h.elim
    | some ys =>
      rw [hsrc] at h
      obtain ⟨zs, h1, h2⟩ := src_VR hR.o (od_VR hR.e hk.2) hsrc
      rw [h1]
      simp only at h ⊢
      refine ⟨fun c hc => ?_, ?_⟩
      · obtain ⟨j, hj, rfl⟩ := List.mem_iff_getElem.1 hc
        have hj2 : j < ys.length := by rw [← h2.len]; exact hj
        have := h2.at_ j _ _ (List.getElem?_eq_getElem hj2) (List.getElem?_eq_getElem hj)
        rw [this.len]; exact h.1 _ (List.getElem_mem _)
      · have h := h.2
        have hz : zs = [] ↔ ys = [] := by rw [← List.length_eq_zero_iff, ← List.length_eq_zero_iff, h2.len]
        have hx := od_VR hR.e (x := x) hk.1
        generalize x.ev e = xv at h hx
        generalize hgx : x.ev e' = xw at hx
        cases hx <;> simp only at h ⊢ <;> (first | exact h.elim | skip)
        · refine ⟨by rw [h2.len]; exact h.1, fun hn => hK _ _ _ _ _ _ (h.2.1 (hz.1 hn)) .nil hR, fun hn id hid => ?_⟩
          obtain ⟨s, hsp, this⟩ := h.2.2 (fun hh => hn (hz.2 hh))
          rw [h2.len]
          exact hK _ _ _ _ _ _ this (.rw s id sz 0 _ (by simp [upd])) (hR.new hsp hid (.row _ _ _ (h2.swp fun s hs => by simp [upd, hs])))
        · rename_i s id sz' off len hm
          obtain ⟨rfl, rfl, h⟩ := h
          refine ⟨rfl, rfl, ?_⟩
          cases ho : o s with
          | none => rw [ho] at h; exact h.elim
          | some ob =>
            obtain ⟨id2, w, g1, g2, g3⟩ := hR.o.ob s ob ho
            rw [hm] at g1; cases g1
            rw [ho] at h
            cases g3 with
            | map => exact h.elim
            | iter => exact h.elim
            | row q es fs hrr =>
              simp only at h
              rw [g2]
              simp only
              refine ⟨by rw [hrr.len]; exact h.1, by rw [h2.len]; exact h.2.1, fun hn => hK _ _ _ _ _ _ (h.2.2.1 (hz.1 hn)) (.rw s id sz' 0 len hm) hR, fun hn id' hid' => ?_⟩
              have := h.2.2.2 (fun hh => hn (hz.2 hh))
              rw [h2.len]
              split at this
              · rename_i hsp
                exact hK _ _ _ _ _ _ this (.rw s id' sz' 0 _ (by simp [upd])) (hR.anew hsp hm hid' (.row _ _ _ (((hrr.take len).append h2).swp fun t ht => by simp [upd, ht])))
              · exact hK _ _ _ _ _ _ this (.rw nm id' sz' 0 _ (by simp [upd])) ((hR.gone hm).new hnm hid' (.row _ _ _ ((((hrr.take len).append h2).swp (m1 := upd m s none) fun t ht => by simp [upd, ht]).swp fun t ht => by simp [upd, ht])))
  case nc g as =>
    rcases h with ⟨s, q, es, es', r, h1, h2, h3, h4, h5, h6, h7⟩ | ⟨s, sz, L, L', pre, post, hsp, hargs, hpre, hpost, hL, hL', ho, hap, hfin⟩ | ⟨s, sz, L, res, pre, post, hargs, hpre, hpost, hL, ho, hap, hres, hfin⟩
    case inr.inl => exact apc_ok hk hR hK hsp hargs hpre hpost hL hL' ho hap hfin
    case inr.inr => exact rdc_ok hk hR hK hargs hpre hpost hL ho hap hres hfin
    obtain ⟨id, y, g1, g2, g3⟩ := hR.o.ob s _ h1
    cases g3 with
    | row _ _ fs hrr =>
      have hfs := okLL_eq hrr h2
      subst hfs
      have hvs := ods_VR hR.e (l := as) hk
      have hargs : as.map (Od.ev e') = (as.map (Od.ev e)).map fun v => refV s v id := by
        apply List.ext_getElem?
        intro j
        rw [List.getElem?_map (l := as.map (Od.ev e))]
        cases hv : (as.map (Od.ev e))[j]? with
        | none =>
          rw [List.getElem?_eq_none_iff] at hv
          rw [List.getElem?_eq_none_iff.2 (by simpa using hv)]; rfl
        | some v =>
          obtain ⟨x, hx, hvx⟩ := hvs.get hv
          rw [hx, refV_VR g1 hvx (List.all_eq_true.1 h5 v (List.mem_of_getElem? hv))]; rfl
      show cl g (as.map (Od.ev e')) o' _
      rw [hargs]
      refine h6 id o' _ g2 fun o1 k1 k2 => hK _ _ _ _ _ _ h7 (cld_VR m r (ok_cld r h4)) ⟨hR.e, ⟨hR.o.inj, fun t i ht => ?_, fun t z hz => ?_⟩, fun i z hz => ?_, hR.p⟩
      · by_cases hi : i = id
        · exact ⟨_, by rw [hi]; exact k1⟩
        · obtain ⟨x, hx⟩ := hR.o.live t i ht
          exact ⟨x, k2 i x hi hx⟩
      · by_cases ht : t = s
        · subst ht
          simp only [upd, if_true, Option.some.injEq] at hz
          subst hz
          exact ⟨id, _, g1, k1, .row _ _ _ (cldLL_RRs m (okLL_cld h3))⟩
        · simp only [upd, if_neg ht] at hz
          obtain ⟨i, y, e1, e2, e3⟩ := hR.o.ob t z hz
          exact ⟨i, y, e1, k2 i y (fun hi => ht (hR.o.inj t s id (by rw [e1, hi]) g1)) e2, e3⟩
      · obtain ⟨e1, e2⟩ := hR.f i z hz
        exact ⟨k2 i z (fun hi => e2 s (by rw [hi]; exact g1)) e1, e2⟩

end Go.Proofs.Ytiadalheipbpcaa

/-
  Objects by names: regions, code, functions.
-/
namespace Go.Proofs.Ytiadalheipbpcaa
set_option linter.all false

def rdI : I → Bool
  | .ld .. => true
  | .isn .. => true
  | _ => false

def stbU (e : E) (o : O) (e1 : E) (o1 : O) : List I → Prop
  | [] => True
  | j :: l => (∃ v, rv e o j = some v ∧ rv e1 o1 j = some v ∧ ok v = true) ∧ stbU e o e1 o1 l

def WSU (cl : CallT) (s : Stp) (e : E) (o : O) (K : E → O → Prop) : Prop :=
  match s.g with
  | none => UW cl (s.d.getD 0) e o (fun v e1 o1 => stbU e o (put e1 s.d v) o1 s.st ∧ K (put e1 s.d v) o1) s.i
  | some (t, p) => match gdV p (e t) with
    | .bo q => if q = p then UW cl (s.d.getD 0) e o (fun v e1 o1 => stbU e o (put e1 s.d v) o1 s.st ∧ K (put e1 s.d v) o1) s.i else K (put e s.d (.tp [])) o
    | _ => False

def wpRU (cl : CallT) : List Stp → (E → O → Prop) → E → O → Prop
  | [], K, e, o => K e o
  | s :: l, K, e, o => WSU cl s e o (wpRU cl l K)

def stillObU (id : Nat) (es : List (List V)) : Ob → Option Ob
  | .row sz rs => some (.row sz (rs.map (stillL id es)))
  | .map ents clock => some (.map (ents.map fun x => (x.1, still id es x.2.1, still id es x.2.2)) clock)
  | .iter mp since seen stepped => if mp == some id then none else some (.iter mp since seen stepped)
def stillOU (id : Nat) (es : List (List V)) (o : O) : O := fun i => if i == id then none else (o i).bind (stillObU id es)

inductive GstU (gh : Bool) (K : E → O → Prop) : E → O → Prop where
  | here {e : E} {o : O} (h : K e o) : GstU gh K e o
  | still {e : E} {o : O} (hg : gh = true) (s sz : Nat) (es : List (List V)) (ho : o s = some (.row sz es)) (hc : okLL es = true) (h : GstU gh K (stillE s es e) (stillOU s es o)) : GstU gh K e o

def wpU (gh : Bool) (cl : CallT) : C → (X → E → O → Prop) → E → O → Prop
  | .sk, K, e, o => K .nx e o
  | .rg l, K, e, o => GstU gh (wpRU cl l (K .nx)) e o
  | .sq a b, K, e, o => wpU gh cl a (seqX (wpU gh cl b K) K) e o
  | .cd c a b, K, e, o => match c.ev e with
    | .bo true => wpU gh cl a K e o
    | .bo false => wpU gh cl b K e o
    | _ => False
  | .bk id a, K, e, o => wpU gh cl a (blkX id K) e o
  | .lp a, K, e, o => ∀ J : E → O → Prop, (∀ e' o', wpU gh cl a (seqX J K) e' o' → J e' o') → J e o
  | .ex id, K, e, o => K (.ex id) e o
  | .rt, K, e, o => K .rt e o
  | .bad, _, _, _ => False

def ckS (s : Stp) : Bool := ckI s.i && (match s.d with | some d => decide (d < 1000000) | none => true) && s.st.all fun j => ckI j && rdI j
def ckC : C → Bool
  | .sk => true
  | .rg l => l.all ckS
  | .sq a b => ckC a && ckC b
  | .cd c a b => ckO c && ckC a && ckC b
  | .bk _ a => ckC a
  | .lp a => ckC a
  | .ex _ => true
  | .rt => true
  | .bad => true

section
variable {cl : CallT} {b : O} {m0 : Nm}

theorem rv_VR {m : Nm} {e e' : E} {o o' : O} (hR : Rl b m0 m e o e' o') {j : I} (hk : ckI j = true) (hj : rdI j = true) {v : V} (hv : rv e o j = some v) : ∃ x, rv e' o' j = some x ∧ VR m v x := by
  cases j <;> (first | (cases hj; done) | skip)
  case isn mp neg x =>
    obtain ⟨h1, h2⟩ := isnV_VR hR.o (od_VR hR.e hk) hv
    exact ⟨v, h1, h2⟩
  case ld sz ag x =>
    simp only [rv] at hv ⊢
    cases hc : cellsAt o (x.ev e) with
    | none => rw [hc] at hv; cases hv
    | some p =>
      obtain ⟨cs, j⟩ := p
      rw [hc] at hv
      obtain ⟨ds, h1, h2⟩ := cellsAt_VR hR.o (od_VR hR.e hk) hc
      rw [h1]
      exact prt_VR h2 hv

theorem stb_ok {m m1 : Nm} {e e' e1 e1' : E} {o o' o1 o1' : O} (hR : Rl b m0 m e o e' o') (hR1 : Rl b m0 m1 e1 o1 e1' o1') : ∀ (l : List I), (l.all fun j => ckI j && rdI j) = true → stbU e o e1 o1 l → stb e' o' e1' o1' l := by
  intro l
  induction l with
  | nil => intro _ _; trivial
  | cons j l ih =>
    intro hk h
    simp only [List.all_cons, Bool.and_eq_true] at hk
    obtain ⟨⟨v, h1, h2, h3⟩, h4⟩ := h
    obtain ⟨x, g1, g2⟩ := rv_VR hR hk.1.1 hk.1.2 h1
    obtain ⟨y, g3, g4⟩ := rv_VR hR1 hk.1.1 hk.1.2 h2
    refine ⟨?_, ih (by simpa using hk.2) h4⟩
    rw [g1, g3, ok_eq g2 h3, ok_eq g4 h3]

theorem WSU_ok (hcl : Le cl cl) {s : Stp} (hk : ckS s = true) {m : Nm} {e e' : E} {o o' : O} {K K' : E → O → Prop} (h : WSU cl s e o K) (hR : Rl b m0 m e o e' o')
    (hK : ∀ m e o e' o', K e o → Rl b m0 m e o e' o' → K' e' o') : WS cl s e' o' K' := by
  simp only [ckS, Bool.and_eq_true] at hk
  obtain ⟨⟨k1, k2⟩, k3⟩ := hk
  have hnm : s.d.getD 0 < PN := by
    cases hd : s.d with
    | none => exact (by decide : (0 : Nat) < 1000000)
    | some d => rw [hd] at k2; simpa [PN] using k2
  have main : UW cl (s.d.getD 0) e o (fun v e1 o1 => stbU e o (put e1 s.d v) o1 s.st ∧ K (put e1 s.d v) o1) s.i → W cl e' o' (fun v o1 => stb e' o' (put e' s.d v) o1 s.st ∧ K' (put e' s.d v) o1) s.i := by
    intro h
    refine UW_ok hcl k1 hnm h hR fun v e1 o1 m1 v' o1' hk hv hR1 => ?_
    have hR2 : Rl b m0 m1 (put e1 s.d v) o1 (put e' s.d v') o1' := ⟨put_VR hR1.e hv s.d, hR1.o, hR1.f, hR1.p⟩
    exact ⟨stb_ok hR hR2 s.st k3 hk.1, hK _ _ _ _ _ hk.2 hR2⟩
  unfold WSU at h
  unfold WS
  cases hg : s.g with
  | none => rw [hg] at h; exact main h
  | some x =>
    obtain ⟨t, p⟩ := x
    rw [hg] at h
    simp only at h ⊢
    have ht := hR.e t
    have hgd : ∀ q, gdV p (e t) = .bo q → gdV p (e' t) = .bo q := by
      intro q hq
      generalize e t = v at hq ht
      generalize e' t = x at ht
      cases ht <;> first | exact hq | (simp [gdV] at hq)
    cases hq : gdV p (e t) <;> rw [hq] at h <;> (first | exact h.elim | skip)
    rename_i q
    rw [hgd q hq]
    simp only at h ⊢
    split
    · rw [if_pos ‹_›] at h; exact main h
    · rw [if_neg ‹_›] at h
      exact hK _ _ _ _ _ h ⟨put_VR hR.e (.tp [] [] rfl (by simp)) s.d, hR.o, hR.f, hR.p⟩

theorem wpRU_ok (hcl : Le cl cl) : ∀ (l : List Stp), l.all ckS = true → ∀ {m : Nm} {e e' : E} {o o' : O} {K K' : E → O → Prop}, wpRU cl l K e o → Rl b m0 m e o e' o' →
    (∀ m e o e' o', K e o → Rl b m0 m e o e' o' → K' e' o') → wpR cl l K' e' o' := by
  intro l
  induction l with
  | nil => intro _ m e e' o o' K K' h hR hK; exact hK _ _ _ _ _ h hR
  | cons s l ih =>
    intro hk m e e' o o' K K' h hR hK
    simp only [List.all_cons, Bool.and_eq_true] at hk
    exact WSU_ok hcl hk.1 h hR fun m e o e' o' h hR => ih hk.2 h hR hK

theorem VR.stl {m : Nm} {s id : Nat} {es : List (List V)} (hs : m s = some id) (hinj : ∀ t, m t = some id → t = s) (hc : okLL es = true) {v x : V} (h : VR m v x) : VR (upd m s none) (still s es v) (still id es x) := by
  have hup : ∀ t i, t ≠ s → m t = some i → upd m s none t = some i := fun t i ht hm => by simp [upd, ht, hm]
  have lst : ∀ {cs ds : List V}, ds.length = cs.length → (∀ (j : Nat) v x, cs[j]? = some v → ds[j]? = some x → VR (upd m s none) (still s es v) (still id es x)) → VRs (upd m s none) (stillL s es cs) (stillL id es ds) := by
    intro cs ds hl hh
    rw [stillL_map, stillL_map]
    refine ⟨by simpa using hl, fun j v x hv hx => ?_⟩
    rw [List.getElem?_map] at hv hx
    cases h1 : cs[j]? with
    | none => rw [h1] at hv; cases hv
    | some u =>
      cases h2 : ds[j]? with
      | none => rw [h2] at hx; cases hx
      | some y =>
        rw [h1] at hv; rw [h2] at hx
        cases hv; cases hx
        exact hh j u y h1 h2
  have hne : ∀ {t i : Nat}, m t = some i → t ≠ s → i ≠ id := fun ht hts hi => hts (hinj _ (by rw [← hi]; exact ht))
  induction h with
  | jk x => exact .jk _
  | ag cs ds hl _ ih => exact .ag _ _ (lst hl ih).len (lst hl ih).at_
  | tp cs ds hl _ ih => exact .tp _ _ (lst hl ih).len (lst hl ih).at_
  | fn g cs ds hl _ ih => exact .fn g _ _ (lst hl ih).len (lst hl ih).at_
  | rw t i sz off len ht =>
    rw [still, still]
    by_cases hts : t = s
    · subst hts
      rw [hs] at ht; cases ht
      simp only [beq_self_eq_true, if_true]
      split
      · refine .sl _ ?_
        rw [cldLL_iff]
        exact fun c hcm => (cldLL_iff es).1 (okLL_cld hc) c (List.mem_of_mem_drop (List.mem_of_mem_take hcm))
      · exact .jk _
    · rw [if_neg (by simpa using hts), if_neg (by simpa using hne ht hts)]
      exact .rw t i sz off len (hup t i hts ht)
  | ra t i k j len ht =>
    rw [still, still]
    by_cases hts : t = s
    · rw [if_pos (by simpa using hts)]; exact .jk _
    · rw [if_neg (by simpa using hts), if_neg (by simpa using hne ht hts)]
      exact .ra t i k j len (hup t i hts ht)
  | pt t i k j ht =>
    rw [still, still]
    by_cases hts : t = s
    · subst hts
      rw [hs] at ht; cases ht
      simp only [beq_self_eq_true, if_true]
      cases hk : es[k]? with
      | none => exact .jk _
      | some cs => exact .ip cs j (okL_cld cs (List.all_eq_true.1 hc cs (List.mem_of_getElem? hk)))
    · rw [if_neg (by simpa using hts), if_neg (by simpa using hne ht hts)]
      exact .pt t i k j (hup t i hts ht)
  | mp t i ht =>
    rw [still, still]
    by_cases hts : t = s
    · rw [if_pos (by simpa using hts)]; exact .jk _
    · rw [if_neg (by simpa using hts), if_neg (by simpa using hne ht hts)]
      exact .mp t i (hup t i hts ht)
  | it t i ht =>
    rw [still, still]
    by_cases hts : t = s
    · rw [if_pos (by simpa using hts)]; exact .jk _
    · rw [if_neg (by simpa using hts), if_neg (by simpa using hne ht hts)]
      exact .it t i (hup t i hts ht)
  | bo p => exact .bo p
  | i k n => exact .i k n
  | s y => exact .s y
  | nil => exact .nil
  | sl es h => exact .sl es h
  | ip cs j h => exact .ip cs j h
  | np => exact .np
  | nf => exact .nf
  | nm => exact .nm

theorem Rl.stl (hb : b = emp) {m : Nm} {e e' : E} {o o' : O} (hR : Rl b m0 m e o e' o') {s sz : Nat} {es : List (List V)} (ho : o s = some (.row sz es)) (hc : okLL es = true) :
    ∃ id, o' id = some (.row sz es) ∧ Rl b m0 (upd m s none) (stillE s es e) (stillOU s es o) (stillE id es e') (stillO id es o') := by
  obtain ⟨id, y, h1, h2, h3⟩ := hR.o.ob s _ ho
  cases h3 with
  | row _ _ fs hrr =>
    have := okLL_eq hrr hc
    subst this
    have hinj : ∀ t, m t = some id → t = s := fun t ht => hR.o.inj t s id ht h1
    have hv : ∀ {v x : V}, VR m v x → VR (upd m s none) (still s fs v) (still id fs x) := fun h => h.stl h1 hinj hc
    have hst : ∀ t, t ≠ s → upd m s none t = m t := fun t ht => by simp [upd, ht]
    have hne : ∀ {t i : Nat}, m t = some i → t ≠ s → i ≠ id := fun ht hts hi => hts (hinj _ (by rw [← hi]; exact ht))
    have hx : ∀ v x, VR m v x → VR (upd m s none) (still s fs v) (still id fs x) := fun _ _ h => hv h
    refine ⟨id, h2, fun t => hv (hR.e t), ⟨fun a c i e1 e2 => ?_, fun a i e1 => ?_, fun a z hz => ?_⟩, fun i z hz => ?_, hR.p.no s⟩
    · simp only [upd] at e1 e2
      split at e1
      · cases e1
      · split at e2
        · cases e2
        · exact hR.o.inj a c i e1 e2
    · have ha : a ≠ s := fun hh => by simp [upd, hh] at e1
      rw [hst a ha] at e1
      obtain ⟨x, hx⟩ := hR.o.live a i e1
      exact ⟨_, by simp only [stillO]; rw [if_neg (by simpa using hne e1 ha), hx]; rfl⟩
    · simp only [stillOU] at hz
      split at hz
      · cases hz
      · rename_i ha
        have ha : a ≠ s := by simpa using ha
        obtain ⟨x0, hx0, hx1⟩ := Option.bind_eq_some_iff.1 hz
        obtain ⟨i, y0, g1, g2, g3⟩ := hR.o.ob a x0 hx0
        refine ⟨i, _, by rw [hst a ha]; exact g1, by simp only [stillO]; rw [if_neg (by simpa using hne g1 ha), g2]; rfl, ?_⟩
        cases g3 with
        | row q es2 fs2 h =>
          simp only [stillObU, Option.some.injEq] at hx1; subst hx1
          refine .row _ _ _ ⟨by simpa using h.len, fun j c d hc2 hd => ?_⟩
          rw [List.getElem?_map] at hc2 hd
          cases k1 : es2[j]? with
          | none => rw [k1] at hc2; cases hc2
          | some c0 =>
            obtain ⟨d0, k2, k3⟩ := h.get k1
            rw [k1] at hc2; rw [k2] at hd
            cases hc2; cases hd
            rw [stillL_map, stillL_map]
            refine ⟨by simpa using k3.len, fun q v x hv2 hx2 => ?_⟩
            rw [List.getElem?_map] at hv2 hx2
            cases k4 : c0[q]? with
            | none => rw [k4] at hv2; cases hv2
            | some u =>
              obtain ⟨w, k5, k6⟩ := k3.get k4
              rw [k4] at hv2; rw [k5] at hx2
              cases hv2; cases hx2
              exact hv k6
        | map es2 fs2 clock hl h =>
          simp only [stillObU, Option.some.injEq] at hx1; subst hx1
          refine .map _ _ clock (by simpa using hl) fun j p q hp hq => ?_
          rw [List.getElem?_map] at hp hq
          cases k1 : es2[j]? with
          | none => rw [k1] at hp; cases hp
          | some c0 =>
            cases k2 : fs2[j]? with
            | none => rw [k2] at hq; cases hq
            | some d0 =>
              rw [k1] at hp; rw [k2] at hq
              cases hp; cases hq
              obtain ⟨g4, g5, g6⟩ := h j c0 d0 k1 k2
              exact ⟨g4, hv g5, hv g6⟩
        | iter p q since seen stepped h =>
          simp only [stillObU] at hx1
          split at hx1
          · cases hx1
          · rename_i hd
            cases hx1
            refine .iter p q since seen stepped ?_
            cases p with
            | none => cases q <;> exact h
            | some t =>
              cases q with
              | none => exact h
              | some w =>
                have : t ≠ s := fun hh => hd (by simp [hh])
                show upd m s none t = some w
                rw [hst t this]; exact h
    · rw [hb] at hz; cases hz

theorem wpU_ok {gh : Bool} (hb : gh = true → b = emp) (hcl : Le cl cl) : ∀ (c : C), ckC c = true → ∀ {K K' : X → E → O → Prop}, (∀ x m e o e' o', K x e o → Rl b m0 m e o e' o' → K' x e' o') → ∀ {m : Nm} {e e' : E} {o o' : O}, wpU gh cl c K e o → Rl b m0 m e o e' o' → wpC cl c K' e' o' := by
  intro c
  induction c with
  | sk => intro _ K K' hK m e e' o o' h hR; exact hK _ _ _ _ _ _ h hR
  | rg l =>
    intro hk K K' hK m e e' o o' h0 hR
    rw [ckC] at hk
    have h1 : GstU gh (wpRU cl l (K .nx)) e o := h0
    clear h0
    show Gst (wpR cl l (K' .nx)) e' o'
    induction h1 generalizing m e' o' with
    | here h => exact .here (wpRU_ok hcl l hk h hR fun m e o e' o' h hR => hK _ _ _ _ _ _ h hR)
    | still hg s sz es ho hc _ ih =>
      obtain ⟨id, h1, h2⟩ := hR.stl (hb hg) ho hc
      exact .still id sz es h1 (List.all_eq_true.2 fun c hcm => okL_cls1 c (List.all_eq_true.1 hc c hcm)) (ih h2)
  | sq a b iha ihb =>
    intro hk K K' hK m e e' o o' h hR
    simp only [ckC, Bool.and_eq_true] at hk
    refine iha hk.1 (K' := seqX (wpC cl b K') K') ?_ h hR
    intro x m e o e' o' hx hR
    cases x with
    | nx => exact ihb hk.2 hK hx hR
    | ex id => exact hK _ _ _ _ _ _ hx hR
    | rt => exact hK _ _ _ _ _ _ hx hR
  | cd c a b iha ihb =>
    intro hk K K' hK m e e' o o' h hR
    simp only [ckC, Bool.and_eq_true] at hk
    simp only [wpU] at h
    unfold wpC
    have hc := od_VR hR.e hk.1.1
    generalize c.ev e = v at h hc
    generalize c.ev e' = x at hc
    cases hc <;> (first | exact h.elim | skip)
    rename_i p
    cases p
    · exact ihb hk.2 hK h hR
    · exact iha hk.1.2 hK h hR
  | bk id a iha =>
    intro hk K K' hK m e e' o o' h hR
    refine iha hk (K' := blkX id K') ?_ h hR
    intro x m e o e' o' hx hR
    cases x with
    | nx => exact hK _ _ _ _ _ _ hx hR
    | ex j =>
      simp only [blkX] at hx ⊢
      split
      · rw [if_pos ‹_›] at hx; exact hK _ _ _ _ _ _ hx hR
      · rw [if_neg ‹_›] at hx; exact hK _ _ _ _ _ _ hx hR
    | rt => exact hK _ _ _ _ _ _ hx hR
  | lp a iha =>
    intro hk K K' hK m e e' o o' h hR J' hJ'
    have key := h (fun e o => ∀ m e' o', Rl b m0 m e o e' o' → J' e' o') ?_
    · exact key m e' o' hR
    · intro e o hw m e' o' hR
      refine hJ' e' o' (iha hk (K' := seqX J' K') ?_ hw hR)
      intro x m e o e' o' hx hR
      cases x with
      | nx => exact hx m e' o' hR
      | ex id => exact hK _ _ _ _ _ _ hx hR
      | rt => exact hK _ _ _ _ _ _ hx hR
  | ex id => intro _ K K' hK m e e' o o' h hR; exact hK _ _ _ _ _ _ h hR
  | rt => intro _ K K' hK m e e' o o' h hR; exact hK _ _ _ _ _ _ h hR
  | bad => intro _ K K' hK m e e' o o' h hR; exact h.elim

end

end Go.Proofs.Ytiadalheipbpcaa

/-
  Objects by names: functions, and the rules by which code is run.
-/
namespace Go.Proofs.Ytiadalheipbpcaa
set_option linter.all false

section
variable {cl : CallT} {gh : Bool}

theorem UW_le (hcl : Le cl cl) {nm : Nat} {e : E} {o : O} {K K' : UK} (hk : ∀ v e o, K v e o → K' v e o) {j : I} (hw : UW cl nm e o K j) : UW cl nm e o K' j := by
  cases j <;> (first | exact hw.elim | skip)
  case q => simp only [UW] at hw ⊢; split at hw; exact hk _ _ _ hw; exact hw.elim
  case isn => simp only [UW] at hw ⊢; split at hw; exact hk _ _ _ hw; exact hw.elim
  case ld => simp only [UW] at hw ⊢; split at hw; exact hk _ _ _ hw; exact hw.elim
  case pc => obtain ⟨r, h1, h2⟩ := hw; exact ⟨r, h1, hk _ _ _ h2⟩
  case pv => obtain ⟨r, h1, h2⟩ := hw; exact ⟨r, h1, hk _ _ _ h2⟩
  case alc => exact hk _ _ _ hw
  case box => exact ⟨hw.1, hk _ _ _ hw.2⟩
  case bsl =>
    simp only [UW] at hw ⊢
    split
    · rw [if_pos ‹_›] at hw; exact hk _ _ _ hw
    · rw [if_neg ‹_›] at hw
      split at hw
      · exact hk _ _ _ hw
      · exact hw
  case mks =>
    simp only [UW] at hw ⊢
    split at hw
    · exact ⟨hw.1, hw.2.1, hk _ _ _ hw.2.2⟩
    · exact hw
  case sto =>
    simp only [UW] at hw ⊢
    split at hw <;> try exact hw.elim
    split at hw <;> try exact hw.elim
    split at hw <;> try exact hw.elim
    exact ⟨hw.1, hw.2.1, hk _ _ _ hw.2.2⟩
  case app =>
    simp only [UW] at hw ⊢
    split at hw <;> try exact hw.elim
    obtain ⟨h1, hw⟩ := hw
    refine ⟨h1, ?_⟩
    split at hw <;> try exact hw.elim
    · exact ⟨hw.1, fun h => hk _ _ _ (hw.2.1 h), fun h => (let ⟨s, h1, h2⟩ := hw.2.2 h; ⟨s, h1, hk _ _ _ h2⟩)⟩
    · obtain ⟨h2, h3, hw⟩ := hw
      refine ⟨h2, h3, ?_⟩
      split at hw <;> try exact hw.elim
      refine ⟨hw.1, hw.2.1, fun h => hk _ _ _ (hw.2.2.1 h), fun h => ?_⟩
      have := hw.2.2.2 h
      split
      · rw [if_pos ‹_›] at this; exact hk _ _ _ this
      · rw [if_neg ‹_›] at this; exact hk _ _ _ this
  case nc =>
    rcases hw with ⟨s, q, es, es', r, h1, h2, h3, h4, h5, h6, h7⟩ | ⟨s, sz, L, L', pre, post, h1, h2, h3, h4, h5, h6, h7, h8, h9⟩ | ⟨s, sz, L, res, pre, post, h1, h2, h3, h4, h5, h6, h7, h8⟩
    · exact .inl ⟨s, q, es, es', r, h1, h2, h3, h4, h5, h6, hk _ _ _ h7⟩
    · exact .inr (.inl ⟨s, sz, L, L', pre, post, h1, h2, h3, h4, h5, h6, h7, h8, hk _ _ _ h9⟩)
    · exact .inr (.inr ⟨s, sz, L, res, pre, post, h1, h2, h3, h4, h5, h6, h7, hk _ _ _ h8⟩)

theorem WSU_le (hcl : Le cl cl) {s : Stp} {e : E} {o : O} {K K' : E → O → Prop} (hk : ∀ e o, K e o → K' e o) (hw : WSU cl s e o K) : WSU cl s e o K' := by
  unfold WSU at hw ⊢
  split at hw
  · exact UW_le hcl (fun v e o hh => ⟨hh.1, hk _ _ hh.2⟩) hw
  · split at hw
    · split at hw
      · rw [if_pos ‹_›]; exact UW_le hcl (fun v e o hh => ⟨hh.1, hk _ _ hh.2⟩) hw
      · rw [if_neg ‹_›]; exact hk _ _ hw
    · exact hw.elim

theorem wpRU_le (hcl : Le cl cl) {l : List Stp} : ∀ {e : E} {o : O} {K K' : E → O → Prop}, (∀ e o, K e o → K' e o) → wpRU cl l K e o → wpRU cl l K' e o := by
  induction l with
  | nil => exact fun hk hw => hk _ _ hw
  | cons s l ih => exact fun hk hw => WSU_le hcl (fun e o hh => ih hk hh) hw

theorem wpU_le (hcl : Le cl cl) {c : C} : ∀ {e : E} {o : O} {K K' : X → E → O → Prop}, (∀ x e o, K x e o → K' x e o) → wpU gh cl c K e o → wpU gh cl c K' e o := by
  induction c with
  | sk => exact fun hk hw => hk _ _ _ hw
  | rg l =>
    intro e o K K' hk hw
    have h : GstU gh (wpRU cl l (K .nx)) e o := hw
    show GstU gh (wpRU cl l (K' .nx)) e o
    clear hw
    induction h with
    | here hh => exact .here (wpRU_le hcl (hk _) hh)
    | still hg s sz es ho hc _ ih => exact .still hg s sz es ho hc ih
  | sq a b iha ihb =>
    intro e o K K' hk hw
    refine iha ?_ hw
    intro x e o hx
    cases x with
    | nx => exact ihb hk hx
    | ex id => exact hk _ _ _ hx
    | rt => exact hk _ _ _ hx
  | cd c a b iha ihb =>
    intro e o K K' hk hw
    simp only [wpU] at hw ⊢
    split at hw
    · exact iha hk hw
    · exact ihb hk hw
    · exact hw.elim
  | bk id a iha =>
    intro e o K K' hk hw
    refine iha ?_ hw
    intro x e o hx
    cases x with
    | nx => exact hk _ _ _ hx
    | ex j =>
      simp only [blkX] at hx ⊢
      split
      · rw [if_pos ‹_›] at hx; exact hk _ _ _ hx
      · rw [if_neg ‹_›] at hx; exact hk _ _ _ hx
    | rt => exact hk _ _ _ hx
  | lp a iha =>
    intro e o K K' hk hw J hJ
    refine hw J ?_
    intro e' o' h'
    refine hJ e' o' (iha ?_ h')
    intro x e o hx
    cases x with
    | nx => exact hx
    | ex id => exact hk _ _ _ hx
    | rt => exact hk _ _ _ hx
  | ex id => exact fun hk hw => hk _ _ _ hw
  | rt => exact fun hk hw => hk _ _ _ hw
  | bad => exact fun _ hw => hw

variable {e : E} {o : O}

/-- a loop, by what holds with so much left -/
theorem U_lp {a : C} {K : X → E → O → Prop} (J : Nat → E → O → Prop) {k : Nat} (h0 : J k e o) (hcl : Le cl cl)
    (h : ∀ k e o, J k e o → wpU gh cl a (seqX (fun e' o' => ∃ k', k' < k ∧ J k' e' o') K) e o) : wpU gh cl (.lp a) K e o := by
  intro J' hJ'
  have key : ∀ k e o, J k e o → J' e o := by
    intro k
    induction k using Nat.strongRecOn with
    | _ k ih =>
      intro e o hJ
      refine hJ' e o (wpU_le hcl (fun x e o hx => ?_) (h k e o hJ))
      cases x with
      | nx => obtain ⟨k', h1, h2⟩ := hx; exact ih k' h1 e o h2
      | ex id => exact hx
      | rt => exact hx
  exact key k e o h0

theorem UC_sk {K : X → E → O → Prop} (h : K .nx e o) : wpU gh cl .sk K e o := h
theorem UC_rg {l : List Stp} {K : X → E → O → Prop} (h : wpRU cl l (K .nx) e o) : wpU gh cl (.rg l) K e o := .here h
theorem UC_still {l : List Stp} {K : X → E → O → Prop} (s : Nat) {sz : Nat} {es : List (List V)} (ho : o s = some (.row sz es)) (hc : okLL es = true) (h : wpU true cl (.rg l) K (stillE s es e) (stillOU s es o)) : wpU true cl (.rg l) K e o := .still rfl s sz es ho hc h
theorem UC_sq {a b : C} {K : X → E → O → Prop} (h : wpU gh cl a (seqX (wpU gh cl b K) K) e o) : wpU gh cl (.sq a b) K e o := h
theorem UC_bk {id : Nat} {a : C} {K : X → E → O → Prop} (h : wpU gh cl a (blkX id K) e o) : wpU gh cl (.bk id a) K e o := h
theorem UC_ex {id : Nat} {K : X → E → O → Prop} (h : K (.ex id) e o) : wpU gh cl (.ex id) K e o := h
theorem UC_rt {K : X → E → O → Prop} (h : K .rt e o) : wpU gh cl .rt K e o := h
theorem UC_cd {c : Od} {q : Bool} {a b : C} {K : X → E → O → Prop} (hc : c.ev e = .bo q) (h1 : q = true → wpU gh cl a K e o) (h2 : q = false → wpU gh cl b K e o) : wpU gh cl (.cd c a b) K e o := by
  simp only [wpU, hc]
  cases q
  · exact h2 rfl
  · exact h1 rfl
theorem UC_cdt {c : Od} {a b : C} {K : X → E → O → Prop} (hc : c.ev e = .bo true) (h1 : wpU gh cl a K e o) : wpU gh cl (.cd c a b) K e o := UC_cd hc (fun _ => h1) (fun h => by cases h)
theorem UC_cdf {c : Od} {a b : C} {K : X → E → O → Prop} (hc : c.ev e = .bo false) (h1 : wpU gh cl b K e o) : wpU gh cl (.cd c a b) K e o := UC_cd hc (fun h => by cases h) (fun _ => h1)
theorem UC_cdb {t : Nat} {q : Bool} {a b : C} {K : X → E → O → Prop} (hc : e t = .bo q) (h1 : q = true → wpU gh cl a K (upd e t (.bo true)) o) (h2 : q = false → wpU gh cl b K (upd e t (.bo false)) o) : wpU gh cl (.cd (.t t) a b) K e o := by
  refine UC_cd (q := q) hc (fun hq => ?_) (fun hq => ?_)
  · have := h1 hq
    rw [upd_self (by rw [hc, hq])] at this
    exact this
  · have := h2 hq
    rw [upd_self (by rw [hc, hq])] at this
    exact this

theorem U_nil {K : E → O → Prop} (h : K e o) : wpRU cl [] K e o := h
theorem U_W {d : Option Nat} {i : I} {l : List Stp} {K : E → O → Prop} (h : UW cl (d.getD 0) e o (fun v e1 o1 => wpRU cl l K (put e1 d v) o1) i) : wpRU cl (⟨d, none, i, []⟩ :: l) K e o := by
  show WSU cl _ e o _
  simpa [WSU, stbU] using h
theorem U_q {d : Nat} {q : Q} {v : V} {l : List Stp} {K : E → O → Prop} (hv : qv e q = some v) (h : wpRU cl l K (upd e d v) o) : wpRU cl (⟨some d, none, .q q, []⟩ :: l) K e o := by
  refine U_W ?_; simp only [UW, hv]; exact h
theorem U_ld {d : Nat} {sz : Nat} {ag : Bool} {x : Od} {v : V} {l : List Stp} {K : E → O → Prop} (hv : rv e o (.ld sz ag x) = some v) (h : wpRU cl l K (upd e d v) o) : wpRU cl (⟨some d, none, .ld sz ag x, []⟩ :: l) K e o := by
  refine U_W ?_; simp only [UW, hv]; exact h
theorem U_isn {d : Nat} {m n : Bool} {x : Od} {v : V} {l : List Stp} {K : E → O → Prop} (hv : isnV o m n (x.ev e) = some v) (h : wpRU cl l K (upd e d v) o) : wpRU cl (⟨some d, none, .isn m n x, []⟩ :: l) K e o := by
  refine U_W ?_; simp only [UW, hv]; exact h
theorem U_box {d : Nat} {x : Od} {cs cs' : List V} {n : Nat} {l : List Stp} {K : E → O → Prop} (hc : (x.ev e).cells = cs) (hs : swpL d cs = cs') (hn : cs.length = n) (hne : (n == 0) = false)
    (h : wpRU cl l K (upd (swpE d e) d (.pt d 0 0)) (upd (swpO d o) d (some (.row n [cs'])))) : wpRU cl (⟨some d, none, .box x, []⟩ :: l) K e o := by
  refine U_W ?_
  subst hn; subst hs; subst hc
  refine ⟨fun h0 => (by rw [h0] at hne; cases hne), h⟩
theorem U_alc {d : Nat} {z : List V} {n : Nat} {l : List Stp} {K : E → O → Prop} (hn : z.length = n) (h : wpRU cl l K (upd (swpE d e) d (.pt d 0 0)) (upd (swpO d o) d (some (.row n [z])))) : wpRU cl (⟨some d, none, .alc z, []⟩ :: l) K e o := by
  refine U_W ?_; subst hn; exact h
theorem U_bsl {d sz n : Nat} {z : List V} {ps : List (Nat × Od)} {es es' : List (List V)} {l : List Stp} {K : E → O → Prop} (hn : (n == 0) = false) (hf : fillE e sz ps (List.replicate n z) = some es) (hs : swpR d es = es')
    (h : wpRU cl l K (upd (swpE d e) d (.rw d sz 0 n)) (upd (swpO d o) d (some (.row sz es')))) : wpRU cl (⟨some d, none, .bsl sz n z ps, []⟩ :: l) K e o := by
  refine U_W ?_
  subst hs
  have : n ≠ 0 := by simpa using hn
  simp only [UW, this, if_false, hf]
  exact h
theorem U_bsl0 {d sz : Nat} {z : List V} {ps : List (Nat × Od)} {l : List Stp} {K : E → O → Prop} (h : wpRU cl l K (upd e d .nil) o) : wpRU cl (⟨some d, none, .bsl sz 0 z ps, []⟩ :: l) K e o := by
  refine U_W ?_
  simp only [UW, if_true]
  exact h
theorem U_mks {d sz byt : Nat} {z : List V} {x y : Od} {n c : Nat} {l : List Stp} {K : E → O → Prop} (hx : natV (x.ev e) = some n) (hy : natV (y.ev e) = some c) (hle : n ≤ c) (hs : sizeOk c byt)
    (h : wpRU cl l K (upd (swpE d e) d (.rw d sz 0 n)) (upd (swpO d o) d (some (.row sz (List.replicate n z))))) : wpRU cl (⟨some d, none, .mks sz byt z x y, []⟩ :: l) K e o := by
  refine U_W ?_
  simp only [UW, hx, hy]
  exact ⟨hle, hs, h⟩
theorem U_sto {sz : Nat} {x y : Od} {id i j q : Nat} {es es' : List (List V)} {cs vs : List V} {l : List Stp} {K : E → O → Prop} (hx : x.ev e = .pt id i j) (ho : o id = some (.row q es)) (hi : es[i]? = some cs) (hv : (y.ev e).cells = vs) (hl : vs.length = sz) (hj : j + sz ≤ cs.length) (hn : es.set i (splice j vs cs) = es')
    (h : wpRU cl l K e (upd o id (some (.row q es')))) : wpRU cl (⟨none, none, .sto sz x y, []⟩ :: l) K e o := by
  refine U_W ?_
  subst hn; subst hv
  simp only [UW, hx, ho, hi]
  exact ⟨hl, hj, h⟩
theorem U_pc {d : Nat} {g : Nat} {as : List Od} {vs ws : List V} {r : V} {l : List Stp} {K : E → O → Prop} (hvs : as.map (Od.ev e) = vs) (hf : fzsU o vs = some ws) (hc : (clos vs || flat FZ r) = true) (hr : cld r = true) (hcall : cl g ws emp (fun v o' => fz o' v = some r))
    (h : wpRU cl l K (upd e d r) o) : wpRU cl (⟨some d, none, .pc g as, []⟩ :: l) K e o := by
  refine U_W ?_
  subst hvs
  exact ⟨r, ⟨ws, hf, hcall, hc, hr⟩, h⟩
theorem U_pv {d : Nat} {x : Od} {g : Nat} {cs : List V} {as : List Od} {vs ws : List V} {r : V} {l : List Stp} {K : E → O → Prop} (hx : x.ev e = .fn g cs) (hvs : as.map (Od.ev e) ++ cs = vs) (hf : fzsU o vs = some ws) (hc : (clos vs || flat FZ r) = true) (hr : cld r = true) (hcall : cl g ws emp (fun v o' => fz o' v = some r))
    (h : wpRU cl l K (upd e d r) o) : wpRU cl (⟨some d, none, .pv x as, []⟩ :: l) K e o := by
  refine U_W ?_
  subst hvs
  refine ⟨r, ?_, h⟩
  rw [hx]
  exact ⟨ws, hf, hcall, hc, hr⟩
theorem U_nc {d : Option Nat} {g : Nat} {as : List Od} {vs : List V} {s q : Nat} {es es' : List (List V)} {r : V} {l : List Stp} {K : E → O → Prop} (hvs : as.map (Od.ev e) = vs) (ho : o s = some (.row q es)) (h1 : okLL es = true) (h2 : okLL es' = true) (h3 : ok r = true) (h4 : vs.all (refOk s) = true)
    (h5 : UpdC cl g (fun id => vs.map fun v => refV s v id) q es es' r) (h : wpRU cl l K (put e d r) (upd o s (some (.row q es')))) : wpRU cl (⟨d, none, .nc g as, []⟩ :: l) K e o := by
  refine U_W ?_
  subst hvs
  exact .inl ⟨s, q, es, es', r, ho, h1, h2, h3, h4, h5, h⟩
theorem U_ap (s : Nat) {d : Nat} {g : Nat} {as : List Od} {sz : Nat} {L L' : List (List V)} {pre post : List V} {l : List Stp} {K : E → O → Prop} (hp : s < 1000000) (hvs : as.map (Od.ev e) = pre ++ ownV s sz L :: post) (h1 : okL pre = true) (h2 : okL post = true) (h3 : okLL L = true) (h4 : okLL L' = true) (ho : L ≠ [] → o s = some (.row sz L))
    (h5 : ApC cl g (fun v => pre ++ v :: post) sz L L') (h : wpRU cl l K (upd (swpE s e) d (ownV s sz L')) (if L' = [] then swpO s o else upd (swpO s o) s (some (.row sz L')))) : wpRU cl (⟨some d, none, .nc g as, []⟩ :: l) K e o := by
  refine U_W ?_
  exact .inr (.inl ⟨s, sz, L, L', pre, post, hp, hvs, h1, h2, h3, h4, ho, h5, h⟩)
theorem U_apS (s : Nat) {d : Nat} {g : Nat} {as : List Od} {sz : Nat} {L L' : List (List V)} {pre post : List V} {st : List I} {l : List Stp} {K : E → O → Prop} (hp : s < 1000000) (hvs : as.map (Od.ev e) = pre ++ ownV s sz L :: post) (h1 : okL pre = true) (h2 : okL post = true) (h3 : okLL L = true) (h4 : okLL L' = true) (ho : L ≠ [] → o s = some (.row sz L))
    (h5 : ApC cl g (fun v => pre ++ v :: post) sz L L') (hst : stbU e o (upd (swpE s e) d (ownV s sz L')) (if L' = [] then swpO s o else upd (swpO s o) s (some (.row sz L'))) st)
    (h : wpRU cl l K (upd (swpE s e) d (ownV s sz L')) (if L' = [] then swpO s o else upd (swpO s o) s (some (.row sz L')))) : wpRU cl (⟨some d, none, .nc g as, st⟩ :: l) K e o := by
  show WSU cl _ e o _
  exact .inr (.inl ⟨s, sz, L, L', pre, post, hp, hvs, h1, h2, h3, h4, ho, h5, hst, h⟩)
theorem U_rd (s : Nat) {d : Nat} {g : Nat} {as : List Od} {sz : Nat} {L : List (List V)} {res : V → V} {pre post : List V} {l : List Stp} {K : E → O → Prop} (hvs : as.map (Od.ev e) = pre ++ ownV s sz L :: post) (h1 : okL pre = true) (h2 : okL post = true) (h3 : okLL L = true) (ho : L ≠ [] → o s = some (.row sz L))
    (h5 : RdC cl g (fun v => pre ++ v :: post) sz L res) (h6 : ∀ m x, VR m (ownV s sz L) x → VR m (res (ownV s sz L)) (res x)) (h : wpRU cl l K (upd e d (res (ownV s sz L))) o) : wpRU cl (⟨some d, none, .nc g as, []⟩ :: l) K e o := by
  refine U_W ?_
  exact .inr (.inr ⟨s, sz, L, res, pre, post, hvs, h1, h2, h3, ho, h5, h6, h⟩)
theorem U_appn (s : Nat) {d sz byt : Nat} {x y : Od} {ys ys' : List (List V)} {n : Nat} {l : List Stp} {K : E → O → Prop} (hx : x.ev e = .nil) (hs : src o (y.ev e) = some ys) (hsz : ∀ c ∈ ys, c.length = sz) (hn : ys.length = n) (hne : (n == 0) = false) (hp : s < 1000000) (hso : sizeOk n byt) (hw : swpR s ys = ys')
    (h : wpRU cl l K (upd (swpE s e) d (.rw s sz 0 n)) (upd (swpO s o) s (some (.row sz ys')))) : wpRU cl (⟨some d, none, .app sz byt x y, []⟩ :: l) K e o := by
  refine U_W ?_
  subst hn; subst hw
  simp only [UW, hx, hs]
  exact ⟨hsz, hso, fun h0 => (by rw [h0] at hne; cases hne), fun _ => ⟨s, hp, h⟩⟩
theorem U_appr {d sz byt : Nat} {x y : Od} {ys es zs : List (List V)} {s len n q : Nat} {l : List Stp} {K : E → O → Prop} (hx : x.ev e = .rw s sz 0 len) (ho : o s = some (.row q es)) (hle : len ≤ es.length) (hs : src o (y.ev e) = some ys) (hsz : ∀ c ∈ ys, c.length = sz) (hn : ys.length = n) (hne : (n == 0) = false) (hp : s < 1000000)
    (hso : sizeOk (len + n) byt) (hw : swpR s (es.take len ++ ys) = zs) (h : wpRU cl l K (upd (swpE s e) d (.rw s sz 0 (len + n))) (upd (swpO s o) s (some (.row sz zs)))) : wpRU cl (⟨some d, none, .app sz byt x y, []⟩ :: l) K e o := by
  refine U_W ?_
  subst hn; subst hw
  simp only [UW, hx, hs, ho]
  refine ⟨hsz, trivial, trivial, hle, hso, fun h0 => (by rw [h0] at hne; cases hne), fun _ => ?_⟩
  rw [if_pos hp]; exact h

theorem U_gt {d : Option Nat} {t : Nat} {p : Bool} {i : I} {l : List Stp} {K : E → O → Prop} (ht : e t = .bo p) (h : wpRU cl (⟨d, none, i, []⟩ :: l) K e o) : wpRU cl (⟨d, some (t, p), i, []⟩ :: l) K e o := by
  show WSU cl _ e o _
  have h : WSU cl _ e o _ := h
  simp only [WSU, ht, gdV, if_true] at h ⊢
  exact h
theorem U_gs {d : Option Nat} {t : Nat} {p q : Bool} {i : I} {st : List I} {l : List Stp} {K : E → O → Prop} (ht : e t = .bo q) (hq : (q == p) = false) (h : wpRU cl l K (put e d (.tp [])) o) : wpRU cl (⟨d, some (t, p), i, st⟩ :: l) K e o := by
  show WSU cl _ e o _
  have hq : q ≠ p := by simpa using hq
  simp only [WSU, ht, gdV, if_neg hq]
  exact h
theorem U_gs1 {d : Option Nat} {t : Nat} {i : I} {st : List I} {l : List Stp} {K : E → O → Prop} (ht : e t = .bo true) (h : wpRU cl l K (put e d (.tp [])) o) : wpRU cl (⟨d, some (t, false), i, st⟩ :: l) K e o := U_gs ht rfl h
theorem U_gs2 {d : Option Nat} {t : Nat} {i : I} {st : List I} {l : List Stp} {K : E → O → Prop} (ht : e t = .bo false) (h : wpRU cl l K (put e d (.tp [])) o) : wpRU cl (⟨d, some (t, true), i, st⟩ :: l) K e o := U_gs ht rfl h
theorem U_gj {d : Option Nat} {t : Nat} {p : Bool} {vs : List V} {i : I} {st : List I} {l : List Stp} {K : E → O → Prop} (ht : e t = .tp vs) (h : wpRU cl l K (put e d (.tp [])) o) : wpRU cl (⟨d, some (t, p), i, st⟩ :: l) K e o := by
  show WSU cl _ e o _
  simp only [WSU, ht, gdV]
  rw [if_neg (by cases p <;> simp)]
  exact h
theorem U_gb {d : Option Nat} {t : Nat} {p q : Bool} {i : I} {st : List I} {l : List Stp} {K : E → O → Prop} (ht : e t = .bo q) (h1 : q = p → wpRU cl (⟨d, some (t, p), i, st⟩ :: l) K (upd e t (.bo p)) o) (h2 : q = !p → wpRU cl (⟨d, some (t, p), i, st⟩ :: l) K (upd e t (.bo !p)) o) :
    wpRU cl (⟨d, some (t, p), i, st⟩ :: l) K e o := by
  by_cases hq : q = p
  · have := h1 hq
    rw [upd_self (by rw [ht, hq])] at this
    exact this
  · have hq : q = !p := by cases q <;> cases p <;> simp_all
    have := h2 hq
    rw [upd_self (by rw [ht, hq])] at this
    exact this

end

/-- a call that makes nothing but its answer -/
def Pu (F : Nat → Option Fn) (g : Nat) (vs : List V) (r : V) : Prop := Call F g vs emp (fun v o' => fz o' v = some r)

theorem mapM_res {b : O} {m0 m : Nm} {e e' : E} {o o' : O} (hR : Rl b m0 m e o e' o') : ∀ (rs : List Rs) {vs : List V}, rs.mapM (resV e o) = some vs → ∃ xs, rs.mapM (resV e' o') = some xs ∧ VRs m vs xs := by
  intro rs
  induction rs with
  | nil => intro vs h; simp at h; subst h; exact ⟨[], by simp, .nil⟩
  | cons r rs ih =>
    intro vs h
    obtain ⟨v, vs', h1, h2, rfl⟩ := mapM_opt h
    obtain ⟨xs, h3, h4⟩ := ih h2
    have : ∃ x, resV e' o' r = some x ∧ VR m v x := by
      cases r with
      | t n => simp only [resV, Option.some.injEq] at h1 ⊢; subst h1; exact ⟨_, rfl, hR.e n⟩
      | c a sz ag =>
        simp only [resV] at h1 ⊢
        cases hc : cellsAt o (e a) with
        | none => rw [hc] at h1; cases h1
        | some p =>
          obtain ⟨cs, j⟩ := p
          rw [hc] at h1
          obtain ⟨ds, g1, g2⟩ := cellsAt_VR hR.o (hR.e a) hc
          rw [g1]
          exact prt_VR g2 h1
    obtain ⟨x, g1, g2⟩ := this
    exact ⟨x :: xs, by simp [g1, h3], .cons g2 h4⟩

theorem one_VR {m : Nm} {vs xs : List V} (h : VRs m vs xs) : VR m (one vs) (one xs) := by
  match vs, xs, h with
  | [], [], h => exact .tp _ _ h.len h.at_
  | [v], [x], h => exact h.at_ 0 v x rfl rfl
  | v :: w :: vs, x :: y :: xs, h => exact .tp _ _ h.len h.at_
  | [], _ :: _, h => have := h.len; simp at this
  | [_], [], h => have := h.len; simp at this
  | [_], _ :: _ :: _, h => have := h.len; simp at this
  | _ :: _ :: _, [], h => have := h.len; simp at this
  | _ :: _ :: _, [_], h => have := h.len; simp at this

theorem ini_VR {m : Nm} {vs xs : List V} (h : VRs m vs xs) : ∀ t, VR m (ini vs t) (ini xs t) := by
  intro t
  simp only [ini, List.getD_eq_getElem?_getD]
  cases hv : vs[t]? with
  | none => exact .jk _
  | some v =>
    obtain ⟨x, hx, h1⟩ := h.get hv
    rw [hx]; exact h1

theorem U_fn {F : Nat → Option Fn} {gh : Bool} {g : Nat} {fn : Fn} (hf : F g = some fn) (hk : ckC fn.body = true) {b : O} (hb : gh = true → b = emp) {m : Nm} {vs xs : List V} {o o' : O} (hl : vs.length = fn.np) (hv : VRs m vs xs) (hS : SR m o o') (hF : FrB b m o')
    {KU K : V → O → Prop} (h : wpU gh (Call F) fn.body (endX fn.res KU) (ini vs) o) (hK : ∀ m1 v o1 v' o1', KU v o1 → VR m1 v v' → SR m1 o1 o1' → FrB b m1 o1' → Pin m m1 → K v' o1') : Call F g xs o' K := by
  refine Call_fn hf (by rw [hv.len]; exact hl) (wpU_ok hb (Call_le F) fn.body hk (m0 := m) ?_ h ⟨ini_VR hv, hS, hF, fun _ _ => .inl rfl⟩)
  intro x m1 e o e' o' hx hR
  cases x with
  | ex id => exact hx.elim
  | nx =>
    obtain ⟨vs, h1, h2⟩ := hx
    obtain ⟨xs, h3, h4⟩ := mapM_res hR fn.res h1
    exact ⟨xs, h3, hK m1 _ _ _ _ h2 (one_VR h4) hR.o hR.f hR.p⟩
  | rt =>
    obtain ⟨vs, h1, h2⟩ := hx
    obtain ⟨xs, h3, h4⟩ := mapM_res hR fn.res h1
    exact ⟨xs, h3, hK m1 _ _ _ _ h2 (one_VR h4) hR.o hR.f hR.p⟩

theorem SR_emp : SR (fun _ => none) emp emp := ⟨fun _ _ _ h => (by cases h), fun _ _ h => (by cases h), fun _ _ h => (by cases h)⟩

/-- a function that is called for its answer alone -/
theorem U_pure {F : Nat → Option Fn} {g : Nat} {fn : Fn} (hf : F g = some fn) (hk : ckC fn.body = true) {vs : List V} (hl : vs.length = fn.np) (hc : cldL vs = true) {r : V} (h : wpU true (Call F) fn.body (endX fn.res fun v o => fzU o v = some r) (ini vs) emp) : Pu F g vs r :=
  U_fn hf hk (b := emp) (fun _ => rfl) hl (cldL_VR _ vs hc) SR_emp (fun _ _ h => by cases h) h fun m1 v o1 v' o1' h1 h2 h3 _ _ => fz_VR h3 h2 h1

/-- a function that turns the object that it is handed, and nothing else -/
theorem U_upd {F : Nat → Option Fn} {g : Nat} {fn : Fn} (hf : F g = some fn) (hk : ckC fn.body = true) {vs : Nat → List V} {q : Nat} {es es' : List (List V)} {r : V} (hl : (vs 1000000).length = fn.np) (hv : ∀ id, VRs (fun s => if s = 1000000 then some id else none) (vs 1000000) (vs id)) (hes : okLL es = true) (hes' : okLL es' = true) (hr : ok r = true)
    (h : wpU false (Call F) fn.body (endX fn.res fun v o => v = r ∧ o 1000000 = some (.row q es')) (ini (vs 1000000)) (upd emp 1000000 (some (.row q es)))) : UpdC (Call F) g vs q es es' r := by
  intro id o K ho hK
  refine U_fn hf hk (b := upd o id none) (fun h => by cases h) hl (hv id) (o := upd emp 1000000 (some (.row q es))) (o' := o) ⟨fun s t i h1 h2 => ?_, fun s i h1 => ?_, fun s x hx => ?_⟩ (fun i x hx => ?_) h ?_
  · split at h1
    · split at h2
      · simp_all
      · cases h2
    · cases h1
  · split at h1
    · cases h1; exact ⟨_, ho⟩
    · cases h1
  · by_cases hs : s = 1000000
    · subst hs
      simp only [upd, if_true, Option.some.injEq] at hx
      subst hx
      exact ⟨id, _, by simp, ho, .row _ _ _ (cldLL_RRs _ (okLL_cld hes))⟩
    · simp [upd, hs, emp] at hx
  · by_cases hi : i = id
    · simp [upd, hi] at hx
    · simp only [upd, if_neg hi] at hx
      refine ⟨hx, fun s hs => ?_⟩
      dsimp only at hs
      split at hs
      · cases hs; exact hi rfl
      · cases hs
  · intro m1 v o1 v' o1' h1 h2 h3 h4 h5
    obtain ⟨rfl, h6⟩ := h1
    obtain ⟨i, y, g1, g2, g3⟩ := h3.ob _ _ h6
    have hi : i = id := by
      rcases h5 1000000 (Nat.le_refl _) with hh | hh
      · rw [g1] at hh; simpa using hh
      · rw [g1] at hh; cases hh
    subst hi
    rw [ok_eq h2 hr]
    cases g3 with
    | row _ _ fs hrr =>
      rw [okLL_eq hrr hes'] at g2
      exact hK o1' g2 fun j x hj hx => (h4 j x (by simp only [upd, if_neg hj]; exact hx)).1

theorem swpO_ne (d : Nat) (o : O) (s : Nat) (h : (s == d) = false) : swpO d o s = (o s).bind (swpOb d) := by simp only [swpO]; rw [if_neg (by rw [h]; simp)]
theorem swpE_at (d : Nat) (e : E) (t : Nat) : swpE d e t = swp d (e t) := rfl
theorem stillE_at (d : Nat) (es : List (List V)) (e : E) (t : Nat) : stillE d es e t = still d es (e t) := rfl
theorem stillOU_ne (d : Nat) (es : List (List V)) (o : O) (s : Nat) (h : (s == d) = false) : stillOU d es o s = (o s).bind (stillObU d es) := by simp only [stillOU]; rw [if_neg (by rw [h]; simp)]

attribute [go_sem] swpE_at swpO_ne swp swpL swpOb swpR stillE_at stillOU_ne still stillL stillObU Option.bind_some List.map_cons List.map_nil

end Go.Proofs.Ytiadalheipbpcaa

/-
  Objects by names: lists that a call builds; what reads as itself.
-/
namespace Go.Proofs.Ytiadalheipbpcaa
set_option linter.all false

theorem mapM_self2 {f : V → Option V} : ∀ {es : List (List V)}, (∀ c ∈ es, ∀ v ∈ c, f v = some v) → (es.mapM fun c : List V => c.mapM f) = some es := by
  intro es
  induction es with
  | nil => intro _; rfl
  | cons c es ih =>
    intro h
    simp [mapM_self (h c (by simp)), ih (fun d hd => h d (by simp [hd]))]

/-- reads as itself -/
def okf : Nat → V → Bool
  | 0, _ => false
  | n + 1, .ag cs => cs.all (okf n)
  | n + 1, .tp cs => cs.all (okf n)
  | n + 1, .fn _ cs => cs.all (okf n)
  | _ + 1, .nil => false
  | _ + 1, .jk => false
  | _ + 1, .rw .. => false
  | _ + 1, .ra .. => false
  | _ + 1, .pt .. => false
  | _ + 1, .mp _ => false
  | _ + 1, .it _ => false
  | _ + 1, _ => true

theorem frzU_okf {o : O} : ∀ (n : Nat) (v : V), okf n v = true → frzU n o v = some v := by
  intro n
  induction n with
  | zero => intro v h; cases h
  | succ n ih =>
    intro v h
    cases v <;> (first | (cases h; done) | rfl | skip)
    all_goals
      simp only [okf, List.all_eq_true] at h
      simp only [frzU]
      rw [mapM_self fun v hv => ih v (h v hv)]
      rfl
theorem fzU_ok {o : O} {v : V} (h : okf FZ v = true) : fzU o v = some v := frzU_okf _ _ h
theorem fzsU_ok {o : O} {vs : List V} (h : vs.all (okf FZ) = true) : fzsU o vs = some vs := mapM_self fun v hv => fzU_ok (List.all_eq_true.1 h v hv)

theorem fzsU_nil {o : O} : fzsU o [] = some [] := rfl
theorem fzsU_cons {o : O} {v w : V} {vs ws : List V} (h : fzU o v = some w) (hs : fzsU o vs = some ws) : fzsU o (v :: vs) = some (w :: ws) := by
  have hs : vs.mapM (fzU o) = some ws := hs
  simp [fzsU, h, hs]

/-- leads to no object but deep in data: the sweep leaves it -/
theorem swp_cls (d : Nat) : ∀ (v : V), cls1 v = true → swp d v = v := by
  have main : (∀ v : V, cls1 v = true → swp d v = v) := by
    intro v
    exact V.rec (motive_1 := fun v => cls1 v = true → swp d v = v) (motive_2 := fun cs => cls1L cs = true → swpL d cs = cs) (motive_3 := fun _ => True)
      (fun _ => rfl) (fun _ _ => rfl) (fun _ _ _ => rfl) (fun _ _ => rfl)
      (fun cs ih h => by rw [cls1] at h; rw [swp, ih h]) (fun cs ih h => by rw [cls1] at h; rw [swp, ih h])
      (fun _ => rfl) (fun _ _ _ => rfl) (fun _ _ _ _ h => by rw [cls1] at h; cases h) (fun _ _ _ _ h => by rw [cls1] at h; cases h) (fun _ _ _ h => by rw [cls1] at h; cases h)
      (fun _ _ _ _ => rfl) (fun _ => rfl) (fun g cs ih h => by rw [cls1] at h; rw [swp, ih h]) (fun _ => rfl) (fun _ h => by rw [cls1] at h; cases h) (fun _ => rfl) (fun _ h => by rw [cls1] at h; cases h)
      (fun _ => rfl) (fun v vs ih1 ih2 h => by rw [cls1L, Bool.and_eq_true] at h; rw [swpL, ih1 h.1, ih2 h.2]) trivial (fun _ _ _ _ => trivial) v
  exact main
theorem swpL_cls (d : Nat) {cs : List V} (h : cls1L cs = true) : swpL d cs = cs := by
  induction cs with
  | nil => rfl
  | cons v cs ih =>
    rw [cls1L, Bool.and_eq_true] at h
    rw [swpL, swp_cls d v h.1, ih h.2]
theorem swpR_cls (d : Nat) {es : List (List V)} (h : es.all cls1L = true) : swpR d es = es := by
  unfold swpR
  induction es with
  | nil => rfl
  | cons c es ih =>
    rw [List.all_cons, Bool.and_eq_true] at h
    rw [List.map_cons, swpL_cls d h.1, ih h.2]

theorem ownV_nil (s sz : Nat) : ownV s sz [] = .nil := rfl
theorem ownV_ne {s sz : Nat} {L : List (List V)} (h : L ≠ []) : ownV s sz L = .rw s sz 0 L.length := if_neg h
theorem swp_own (d s sz : Nat) (L : List (List V)) (h : (s == d) = false) : swp d (ownV s sz L) = ownV s sz L := by
  unfold ownV
  split
  · rfl
  · rw [swp, if_neg (by rw [h]; simp)]
theorem slenV_own (s sz : Nat) (L : List (List V)) : slenV (ownV s sz L) = some (.i .i64 L.length) := by
  unfold ownV
  split
  · rename_i h; rw [h]; rfl
  · rfl
theorem src_own {o : O} {s sz : Nat} {L : List (List V)} (h : L ≠ [] → o s = some (.row sz L)) : src o (ownV s sz L) = some L := by
  unfold ownV
  split
  · rename_i hl; rw [hl]; rfl
  · rename_i hl
    simp only [src, h hl, Nat.zero_add, Nat.le_refl, if_true, List.drop_zero, List.take_length]
theorem frzU_own {o : O} {s sz : Nat} {L : List (List V)} (n : Nat) (h : L ≠ [] → o s = some (.row sz L)) (hk : ∀ c ∈ L, ∀ v ∈ c, okf n v = true) : frzU (n + 1) o (ownV s sz L) = some (.sl L) := by
  have hs := src_own h
  have hm : (L.mapM fun c : List V => c.mapM (frzU n o)) = some L := mapM_self2 fun c hc v hv => frzU_okf n v (hk c hc v hv)
  unfold ownV at hs ⊢
  split
  · rename_i hl; rw [hl]; rfl
  · rename_i hl
    rw [if_neg hl] at hs
    simp only [frzU, hs, hm]
    rfl

section
variable {cl : CallT} {e : E} {o : O}

/-- something is put behind a list that is being built -/
theorem U_appo (s : Nat) {d sz byt : Nat} {x y : Od} {L ys : List (List V)} {l : List Stp} {K : E → O → Prop} (hx : x.ev e = ownV s sz L) (ho : L ≠ [] → o s = some (.row sz L)) (hs : src o (y.ev e) = some ys) (hsz : ∀ c ∈ ys, c.length = sz) (hne : ys ≠ []) (hp : s < 1000000)
    (hso : sizeOk (L.length + ys.length) byt) (hL : swpR s L = L) (hy : swpR s ys = ys) (h : wpRU cl l K (upd (swpE s e) d (ownV s sz (L ++ ys))) (upd (swpO s o) s (some (.row sz (L ++ ys))))) : wpRU cl (⟨some d, none, .app sz byt x y, []⟩ :: l) K e o := by
  have hne2 : (ys.length == 0) = false := by
    cases ys with
    | nil => exact absurd rfl hne
    | cons => rfl
  have hLy : L ++ ys ≠ [] := by
    cases L with
    | nil => exact hne
    | cons => simp
  rw [ownV_ne hLy] at h
  by_cases hl : L = []
  · subst hl
    refine U_appn s hx hs hsz rfl hne2 hp (by simpa using hso) hy ?_
    simpa using h
  · rw [ownV_ne hl] at hx
    refine U_appr hx (ho hl) (Nat.le_refl _) hs hsz rfl hne2 hp hso (zs := L ++ ys) ?_ ?_
    · rw [List.take_length, swpR, List.map_append]
      have h1 : L.map (swpL s) = L := hL
      have h2 : ys.map (swpL s) = ys := hy
      rw [h1, h2]
    · rw [List.length_append] at h
      exact h

end

theorem okf_i (k : IntKind) (n : Int) : okf FZ (.i k n) = true := rfl
theorem okf_bo (p : Bool) : okf FZ (.bo p) = true := rfl
theorem okf_s (y : ByteArray) : okf FZ (.s y) = true := rfl
theorem okf_sl (es : List (List V)) : okf FZ (.sl es) = true := rfl
theorem okf_ip (cs : List V) (j : Nat) : okf FZ (.ip cs j) = true := rfl
theorem okf_f0 (g : Nat) : okf FZ (.fn g []) = true := rfl
theorem clo_i (k : IntKind) (n : Int) : clo FZ (.i k n) = true := rfl
theorem clo_bo (p : Bool) : clo FZ (.bo p) = true := rfl
theorem clo_s (y : ByteArray) : clo FZ (.s y) = true := rfl
theorem clo_sl (es : List (List V)) : clo FZ (.sl es) = true := rfl
theorem clo_nil : clo FZ .nil = true := rfl
theorem clo_ip (cs : List V) (j : Nat) : clo FZ (.ip cs j) = true := rfl
theorem clo_f0 (g : Nat) : clo FZ (.fn g []) = true := rfl

/-- a function that is handed a list that is being built, and answers another one -/
theorem U_apc {F : Nat → Option Fn} {g : Nat} {fn : Fn} (hf : F g = some fn) (hk : ckC fn.body = true) {sz : Nat} {L L' : List (List V)} {pre post : List V} (hl : pre.length + 1 + post.length = fn.np) (hpre : okL pre = true) (hpost : okL post = true) (hL : okLL L = true) (hL' : okLL L' = true)
    (h : wpU false (Call F) fn.body (endX fn.res fun v o => ∃ s, v = ownV s sz L' ∧ (L' ≠ [] → o s = some (.row sz L'))) (ini (pre ++ ownV 999999 sz L :: post)) (if L = [] then emp else upd emp 999999 (some (.row sz L)))) : ApC (Call F) g (fun v => pre ++ v :: post) sz L L' := by
  intro v o K hv hK
  have hcd : ∀ (m : Nm), VRs m pre pre ∧ VRs m post post := fun m => ⟨cldL_VR m pre (okL_cld pre hpre), cldL_VR m post (okL_cld post hpost)⟩
  have fin : ∀ (b : O) (m : Nm), (∀ i x, o i = some x → (∀ off len, v ≠ .rw i sz off len) → b i = some x) → ∀ m1 v1 o1 v' o1', (∃ s, v1 = ownV s sz L' ∧ (L' ≠ [] → o1 s = some (.row sz L'))) → VR m1 v1 v' → SR m1 o1 o1' → FrB b m1 o1' → Pin m m1 → K v' o1' := by
    intro b m hb m1 v1 o1 v' o1' h1 h2 h3 h4 _
    obtain ⟨s, rfl, h6⟩ := h1
    by_cases hl : L' = []
    · rw [ownV, if_pos hl] at h2
      cases h2
      exact hK _ _ (.inl ⟨hl, rfl⟩) fun i x hi hne => ⟨(h4 i x (hb i x hi hne)).1, fun off len hh => by cases hh⟩
    · rw [ownV, if_neg hl] at h2
      cases h2 with
      | rw _ id _ _ _ hm =>
        obtain ⟨id2, y, g1, g2, g3⟩ := h3.ob s _ (h6 hl)
        rw [hm] at g1; cases g1
        cases g3 with
        | row _ _ fs hrr =>
          rw [okLL_eq hrr hL'] at g2
          exact hK _ _ (.inr ⟨hl, id, rfl, g2⟩) fun i x hi hne => ⟨(h4 i x (hb i x hi hne)).1, fun off len hh => by cases hh; exact (h4 _ x (hb _ x hi hne)).2 s hm⟩
  rcases hv with ⟨hl0, rfl⟩ | ⟨hl0, id, rfl, ho⟩
  · rw [if_pos hl0] at h
    have h1 : ownV 999999 sz L = .nil := if_pos hl0
    rw [h1] at h
    refine U_fn hf hk (b := o) (fun h => by cases h) (m := fun _ => none) (vs := pre ++ V.nil :: post) (by simp; omega) ((hcd _).1.append (.cons .nil (hcd _).2)) (o := emp) ⟨fun _ _ _ h => (by cases h), fun _ _ h => (by cases h), fun _ _ h => (by cases h)⟩ (fun i x hi => ⟨hi, fun s hs => by cases hs⟩) h ?_
    exact fin o _ fun i x hi _ => hi
  · rw [if_neg hl0] at h
    have h1 : ownV 999999 sz L = .rw 999999 sz 0 L.length := if_neg hl0
    rw [h1] at h
    refine U_fn hf hk (b := upd o id none) (fun h => by cases h) (m := fun s => if s = 999999 then some id else none) (vs := pre ++ V.rw 999999 sz 0 L.length :: post) (by simp; omega) ((hcd _).1.append (.cons (.rw _ _ _ _ _ (by simp)) (hcd _).2)) (o := upd emp 999999 (some (.row sz L))) (o' := o)
      ⟨fun s t i h1 h2 => ?_, fun s i h1 => ?_, fun s x hx => ?_⟩ (fun i x hx => ?_) h ?_
    · split at h1
      · split at h2
        · simp_all
        · cases h2
      · cases h1
    · split at h1
      · cases h1; exact ⟨_, ho⟩
      · cases h1
    · by_cases hs : s = 999999
      · subst hs
        simp only [upd, if_true, Option.some.injEq] at hx
        subst hx
        exact ⟨id, _, by simp, ho, .row _ _ _ (cldLL_RRs _ (okLL_cld hL))⟩
      · simp [upd, hs, emp] at hx
    · by_cases hi : i = id
      · simp [upd, hi] at hx
      · simp only [upd, if_neg hi] at hx
        refine ⟨hx, fun s hs => ?_⟩
        dsimp only at hs
        split at hs
        · cases hs; exact hi rfl
        · cases hs
    · refine fin (upd o id none) _ fun i x hi hne => ?_
      have : i ≠ id := fun hh => hne 0 L.length (by rw [hh])
      simp only [upd, if_neg this]; exact hi

theorem ic0 : ((0 : Nat) : Int) = 0 := rfl
theorem ic1 : ((1 : Nat) : Int) = 1 := rfl
theorem ic2 : ((2 : Nat) : Int) = 2 := rfl
theorem ic3 : ((3 : Nat) : Int) = 3 := rfl
theorem ic4 : ((4 : Nat) : Int) = 4 := rfl
theorem ic5 : ((5 : Nat) : Int) = 5 := rfl
theorem ic6 : ((6 : Nat) : Int) = 6 := rfl
theorem ic7 : ((7 : Nat) : Int) = 7 := rfl
theorem ic8 : ((8 : Nat) : Int) = 8 := rfl
theorem ic9 : ((9 : Nat) : Int) = 9 := rfl
theorem ic10 : ((10 : Nat) : Int) = 10 := rfl
theorem ic16 : ((16 : Nat) : Int) = 16 := rfl
theorem ic32 : ((32 : Nat) : Int) = 32 := rfl
theorem ic64 : ((64 : Nat) : Int) = 64 := rfl
theorem ic200 : ((200 : Nat) : Int) = 200 := rfl
theorem ic256 : ((256 : Nat) : Int) = 256 := rfl
attribute [go_sem] ic0 ic1 ic2 ic3 ic4 ic5 ic6 ic7 ic8 ic9 ic10 ic16 ic32 ic64 ic200 ic256
attribute [go_sem] okf_i okf_bo okf_s okf_sl okf_ip okf_f0 clo_i clo_bo clo_s clo_sl clo_nil clo_ip clo_f0 cld cldL
attribute [go_sem] swp_own slenV_own List.replicate_succ List.replicate_zero

end Go.Proofs.Ytiadalheipbpcaa
