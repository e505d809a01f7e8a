/-
  How the small machine's values and store stand for the model's memory.
-/
import Derived.Test.YtiadalheipbpcaaWo
import Derived.Calls
import Derived.Laws.Sem
namespace Go.Proofs.Ytiadalheipbpcaa
set_option linter.all false

structure Cx where
  heap : Array Obj
  ph : Nat → Option (Nat × Nat)
  im : Nat → Prop
  n : Nat

def cellAt (h : Array Obj) (b off : Nat) : Option Value :=
  match h[b]? with
  | some (.cells arr _ _) => arr[off]?
  | _ => none

/-- no reference into the store anywhere within -/
inductive Idf : V → Prop where
  | jk : Idf .jk
  | bo (p : Bool) : Idf (.bo p)
  | i (k : IntKind) (n : Int) : Idf (.i k n)
  | s (y : ByteArray) : Idf (.s y)
  | ag (cs : List V) (h : ∀ (j : Nat) v, cs[j]? = some v → Idf v) : Idf (.ag cs)
  | tp (cs : List V) (h : ∀ (j : Nat) v, cs[j]? = some v → Idf v) : Idf (.tp cs)
  | nil : Idf .nil
  | sl (es : List (List V)) (h : ∀ (j k : Nat) e v, es[j]? = some e → e[k]? = some v → Idf v) : Idf (.sl es)
  | ip (cs : List V) (j : Nat) (h : ∀ (k : Nat) v, cs[k]? = some v → Idf v) : Idf (.ip cs j)
  | np : Idf .np
  | fn (g : Nat) (cs : List V) (h : ∀ (j : Nat) v, cs[j]? = some v → Idf v) : Idf (.fn g cs)
  | nf : Idf .nf
  | nm : Idf .nm

inductive Rep (c : Cx) : V → Value → Prop where
  | jk (v : Value) : Rep c .jk v
  | bo (p : Bool) : Rep c (.bo p) (.bool p)
  | i (k : IntKind) (n : Int) : Rep c (.i k n) (.int k n)
  | s (y : ByteArray) : Rep c (.s y) (.string y)
  | ag (cs : List V) (xs : Array Value) (hl : xs.size = cs.length) (h1 : ∀ (j : Nat) x, xs[j]? = some x → oneC x = true)
      (h : ∀ (j : Nat) v x, cs[j]? = some v → xs[j]? = some x → Rep c v x) : Rep c (.ag cs) (.agg xs)
  | tp (cs : List V) (xs : Array Value) (hl : xs.size = cs.length)
      (h : ∀ (j : Nat) v x, cs[j]? = some v → xs[j]? = some x → Rep c v x) : Rep c (.tp cs) (.tuple xs)
  | nil (a : Option Addr) : Rep c .nil (.slice a 0 0)
  | sl0 (a : Option Addr) (n : Nat) : Rep c (.sl []) (.slice a 0 n)
  | sl (es : List (List V)) (b off sz n : Nat) (hne : es ≠ []) (hsz : 0 < sz) (hn : es.length ≤ n) (hb : c.im b) (hl : ∀ e ∈ es, e.length = sz)
      (hd : ∀ (j k : Nat) e v, es[j]? = some e → e[k]? = some v → Idf v)
      (hx : ∀ (j k : Nat) e v, es[j]? = some e → e[k]? = some v → ∃ x, cellAt c.heap b (off + j * sz + k) = some x ∧ oneC x = true)
      (h : ∀ (j k : Nat) e v x, es[j]? = some e → e[k]? = some v → cellAt c.heap b (off + j * sz + k) = some x → Rep c v x) :
      Rep c (.sl es) (.slice (some ⟨b, off, none⟩) es.length n)
  | rw0 (id sz off : Nat) (a : Option Addr) (hn : id < c.n) : Rep c (.rw id sz off 0) (.slice a 0 0)
  | rw (id sz off len b cap : Nat) (hp : c.ph id = some (b, sz)) (hn : id < c.n) (hc : len ≤ cap)
      (hf : ∃ arr t, c.heap[b]? = some (.cells arr t (0, 0)) ∧ (off + cap) * sz ≤ arr.size) : Rep c (.rw id sz off len) (.slice (some ⟨b, off * sz, none⟩) len cap)
  | rwd (id sz off len cap : Nat) (a : Option Addr) (hp : c.ph id = none) (hn : id < c.n) (hc : len ≤ cap) (ha : len ≠ 0 → ∃ ad : Addr, a = some ad ∧ ad.spot = none) : Rep c (.rw id sz off len) (.slice a len cap)
  | ra0 (id i j : Nat) (a : Option Addr) (hn : id < c.n) : Rep c (.ra id i j 0) (.slice a 0 0)
  | ra (id i j len b sz cap : Nat) (hp : c.ph id = some (b, sz)) (hn : id < c.n) (hc : len ≤ cap) : Rep c (.ra id i j len) (.slice (some ⟨b, i * sz + j, none⟩) len cap)
  | rad (id i j len cap : Nat) (a : Option Addr) (hp : c.ph id = none) (hn : id < c.n) (hc : len ≤ cap) (ha : len ≠ 0 → ∃ ad : Addr, a = some ad ∧ ad.spot = none) : Rep c (.ra id i j len) (.slice a len cap)
  | pt (id i j b sz : Nat) (hp : c.ph id = some (b, sz)) (hn : id < c.n) : Rep c (.pt id i j) (.pointer (some ⟨b, i * sz + j, none⟩))
  | ptd (id i j : Nat) (ad : Addr) (hp : c.ph id = none) (hn : id < c.n) (ha : ad.spot = none) : Rep c (.pt id i j) (.pointer (some ad))
  | ip (cs : List V) (j b off : Nat) (hb : c.im b) (hd : ∀ (k : Nat) v, cs[k]? = some v → Idf v)
      (hx : ∀ (k : Nat) v, cs[k]? = some v → ∃ x, cellAt c.heap b (off + k) = some x ∧ oneC x = true)
      (h : ∀ (k : Nat) v x, cs[k]? = some v → cellAt c.heap b (off + k) = some x → Rep c v x) : Rep c (.ip cs j) (.pointer (some ⟨b, off + j, none⟩))
  | np : Rep c .np (.pointer none)
  | fn (g : Nat) (cs : List V) (xs : Array Value) (hl : xs.size = cs.length)
      (h : ∀ (j : Nat) v x, cs[j]? = some v → xs[j]? = some x → Rep c v x) : Rep c (.fn g cs) (.func (.func g) #[] xs)
  | nf : Rep c .nf .nilFunc
  | mp (id b : Nat) (hp : c.ph id = some (b, 0)) (hn : id < c.n) : Rep c (.mp id) (.map (some b))
  | mpd (id b : Nat) (hp : c.ph id = none) (hn : id < c.n) : Rep c (.mp id) (.map (some b))
  | nm : Rep c .nm (.map none)
  | it (id b : Nat) (hp : c.ph id = some (b, 0)) (hn : id < c.n) : Rep c (.it id) (.pointer (some ⟨b, 0, none⟩))
  | itd (id : Nat) (ad : Addr) (hp : c.ph id = none) (hn : id < c.n) : Rep c (.it id) (.pointer (some ad))

/-- values told one by one -/
structure Reps (c : Cx) (cs : List V) (xs : List Value) : Prop where
  len : xs.length = cs.length
  rep : ∀ (j : Nat) v x, cs[j]? = some v → xs[j]? = some x → Rep c v x

/-- an object's block -/
def RepO (c : Cx) (b sz : Nat) : Ob → Prop
  | .row s es => s = sz ∧ 0 < sz ∧ (∀ e ∈ es, e.length = sz) ∧ ∃ arr t, c.heap[b]? = some (.cells arr t (0, 0)) ∧ es.length * sz ≤ arr.size ∧
      ∀ (j k : Nat) e v, es[j]? = some e → e[k]? = some v → ∃ x, arr[j * sz + k]? = some x ∧ oneC x = true ∧ Rep c v x
  | .map ents clock => sz = 0 ∧ ∃ es, c.heap[b]? = some (.map es clock) ∧ es.size = ents.length ∧
      (∀ (j : Nat) en, ents[j]? = some en → ∃ x : MapEntry, es[j]? = some x ∧ x.born = en.1 ∧ Rep c en.2.1 x.key ∧ Rep c en.2.2 x.val) ∧
      (ents.map (·.1)).Pairwise (· < ·) ∧ ∀ en ∈ ents, en.1 < clock
  | .iter mp since seen stepped => sz = 0 ∧ ∃ mpb, c.heap[b]? = some (.mapIter mpb since seen.toArray stepped) ∧
      match mp with
      | none => mpb = none
      | some mid => mid < c.n ∧ ∃ b', mpb = some b' ∧ (c.ph mid = some (b', 0) ∨ c.ph mid = none)

structure Inv (c : Cx) (o : O) : Prop where
  dom : ∀ id, o id = none → c.ph id = none
  ob : ∀ id x, o id = some x → ∃ b sz, c.ph id = some (b, sz) ∧ RepO c b sz x
  lt : ∀ id b sz, c.ph id = some (b, sz) → id < c.n ∧ b < c.heap.size ∧ ¬ c.im b
  inj : ∀ id id' b sz sz', c.ph id = some (b, sz) → c.ph id' = some (b, sz') → id = id'
  im : ∀ b, c.im b → b < c.heap.size

structure Ext (c c' : Cx) : Prop where
  size : c.heap.size ≤ c'.heap.size
  keep : ∀ b : Nat, b < c.heap.size → (∀ id sz, c.ph id ≠ some (b, sz)) → c'.heap[b]? = c.heap[b]?
  shape : ∀ (b : Nat) (arr : Array Value) (t : TypeId) (fz : Nat × Nat), c.heap[b]? = some (Obj.cells arr t fz) → ∃ arr', c'.heap[b]? = some (Obj.cells arr' t fz) ∧ arr'.size = arr.size
  im : ∀ b, c.im b → c'.im b
  imn : ∀ b, b < c.heap.size → c'.im b → c.im b ∨ ∃ id sz, c.ph id = some (b, sz)
  ph : ∀ id x, c.ph id = some x → c'.ph id = some x ∨ c'.ph id = none
  phn : ∀ id b sz, c'.ph id = some (b, sz) → c.ph id = some (b, sz) ∨ (c.n ≤ id ∧ ((∃ id' sz', c.ph id' = some (b, sz')) ∨ c.heap.size ≤ b))
  n : c.n ≤ c'.n

theorem Ext.refl (c : Cx) : Ext c c :=
  ⟨Nat.le_refl _, fun _ _ _ => rfl, fun _ arr _ _ h => ⟨arr, h, rfl⟩, fun _ h => h, fun _ _ h => .inl h, fun _ _ h => .inl h, fun _ _ _ h => .inl h, Nat.le_refl _⟩

theorem Ext.trans {c c1 c2 : Cx} (hl : ∀ id x, c.ph id = some x → id < c.n) (h1 : Ext c c1) (h2 : Ext c1 c2) : Ext c c2 where
  size := Nat.le_trans h1.size h2.size
  keep b hb ho := by
    rw [h2.keep b (Nat.lt_of_lt_of_le hb h1.size), h1.keep b hb ho]
    intro id sz hp
    rcases h1.phn id b sz hp with h | ⟨_, ⟨id', sz', h⟩ | h⟩
    · exact ho _ _ h
    · exact ho _ _ h
    · omega
  shape b arr t fz h := by
    obtain ⟨arr1, e1, s1⟩ := h1.shape b arr t fz h
    obtain ⟨arr2, e2, s2⟩ := h2.shape b arr1 t fz e1
    exact ⟨arr2, e2, s2.trans s1⟩
  im b h := h2.im b (h1.im b h)
  imn b hb h := by
    rcases h2.imn b (Nat.lt_of_lt_of_le hb h1.size) h with h | ⟨id, sz, h⟩
    · exact h1.imn b hb h
    · rcases h1.phn id b sz h with h | ⟨_, h | h⟩
      · exact .inr ⟨_, _, h⟩
      · exact .inr h
      · omega
  ph id x h := by
    rcases h1.ph id x h with h' | h'
    · exact h2.ph id x h'
    · cases hp : c2.ph id with
      | none => exact .inr rfl
      | some y =>
        obtain ⟨b, sz⟩ := y
        rcases h2.phn id b sz hp with h'' | ⟨hn, _⟩
        · rw [h'] at h''; cases h''
        · have := hl id x h; have := h1.n; omega
  phn id b sz h := by
    rcases h2.phn id b sz h with h | ⟨hn, h | h⟩
    · exact h1.phn id b sz h
    · obtain ⟨id', sz', h⟩ := h
      rcases h1.phn id' b sz' h with h | ⟨_, h⟩
      · exact .inr ⟨Nat.le_trans h1.n hn, .inl ⟨_, _, h⟩⟩
      · exact .inr ⟨Nat.le_trans h1.n hn, h⟩
    · exact .inr ⟨Nat.le_trans h1.n hn, .inr (Nat.le_trans h1.size h)⟩
  n := Nat.le_trans h1.n h2.n

theorem cellAt_keep {c c' : Cx} (h : Ext c c') {b off : Nat} (hb : b < c.heap.size) (ho : ∀ id sz, c.ph id ≠ some (b, sz)) : cellAt c'.heap b off = cellAt c.heap b off := by
  unfold cellAt; rw [h.keep b hb ho]

/-- no object's block is among those that stay -/
structure Sep (c : Cx) : Prop where
  lt : ∀ id x, c.ph id = some x → id < c.n
  im : ∀ b, c.im b → b < c.heap.size
  no : ∀ b, c.im b → ∀ id sz, c.ph id ≠ some (b, sz)

theorem Inv.sep {c : Cx} {o : O} (h : Inv c o) : Sep c :=
  ⟨fun id x hx => (h.lt id x.1 x.2 hx).1, h.im, fun b hb id sz hp => (h.lt id b sz hp).2.2 hb⟩

theorem ph_none {c c' : Cx} (h : Ext c c') {id : Nat} (hn : id < c.n) (hp : c.ph id = none) : c'.ph id = none := by
  cases hq : c'.ph id with
  | none => rfl
  | some y =>
    obtain ⟨b, sz⟩ := y
    rcases h.phn id b sz hq with h' | ⟨h', _⟩
    · rw [hp] at h'; cases h'
    · omega

theorem Rep.ext {c c' : Cx} (h : Ext c c') (hs : Sep c) {v : V} {x : Value} (hr : Rep c v x) : Rep c' v x := by
  induction hr with
  | jk v => exact .jk v
  | bo p => exact .bo p
  | i k n => exact .i k n
  | s y => exact .s y
  | ag cs xs hl h1 _ ih => exact .ag cs xs hl h1 ih
  | tp cs xs hl _ ih => exact .tp cs xs hl ih
  | nil a => exact .nil a
  | sl0 a n => exact .sl0 a n
  | sl es b off sz n hne hsz hn hb hl hd hx _ ih =>
    have hc := fun off => cellAt_keep (off := off) h (hs.im b hb) (hs.no b hb)
    refine .sl es b off sz n hne hsz hn (h.im b hb) hl hd (fun j k e v h1 h2 => ?_) (fun j k e v x h1 h2 h3 => ?_)
    · rw [hc]; exact hx j k e v h1 h2
    · rw [hc] at h3; exact ih j k e v x h1 h2 h3
  | rw0 id sz off a hn => exact .rw0 id sz off a (Nat.lt_of_lt_of_le hn h.n)
  | rw id sz off len b cap hp hn hc hf =>
    rcases h.ph _ _ hp with h' | h'
    · obtain ⟨arr, t, ha, hz⟩ := hf
      obtain ⟨arr', ha', hz'⟩ := h.shape _ _ _ _ ha
      exact .rw id sz off len b cap h' (Nat.lt_of_lt_of_le hn h.n) hc ⟨arr', t, ha', by rw [hz']; exact hz⟩
    · exact .rwd _ _ _ _ _ _ h' (Nat.lt_of_lt_of_le hn h.n) hc (fun _ => ⟨_, rfl, rfl⟩)
  | rwd id sz off len cap a hp hn hc ha => exact .rwd _ _ _ _ _ _ (ph_none h hn hp) (Nat.lt_of_lt_of_le hn h.n) hc ha
  | ra0 id i j a hn => exact .ra0 id i j a (Nat.lt_of_lt_of_le hn h.n)
  | ra id i j len b sz cap hp hn hc =>
    rcases h.ph _ _ hp with h' | h'
    · exact .ra id i j len b sz cap h' (Nat.lt_of_lt_of_le hn h.n) hc
    · exact .rad _ _ _ _ _ _ h' (Nat.lt_of_lt_of_le hn h.n) hc (fun _ => ⟨_, rfl, rfl⟩)
  | rad id i j len cap a hp hn hc ha => exact .rad _ _ _ _ _ _ (ph_none h hn hp) (Nat.lt_of_lt_of_le hn h.n) hc ha
  | pt id i j b sz hp hn =>
    rcases h.ph _ _ hp with h' | h'
    · exact .pt id i j b sz h' (Nat.lt_of_lt_of_le hn h.n)
    · exact .ptd _ _ _ _ h' (Nat.lt_of_lt_of_le hn h.n) rfl
  | ptd id i j ad hp hn ha => exact .ptd _ _ _ _ (ph_none h hn hp) (Nat.lt_of_lt_of_le hn h.n) ha
  | ip cs j b off hb hd hx _ ih =>
    have hc := fun off => cellAt_keep (off := off) h (hs.im b hb) (hs.no b hb)
    refine .ip cs j b off (h.im b hb) hd (fun k v h1 => ?_) (fun k v x h1 h3 => ?_)
    · rw [hc]; exact hx k v h1
    · rw [hc] at h3; exact ih k v x h1 h3
  | np => exact .np
  | fn g cs xs hl _ ih => exact .fn g cs xs hl ih
  | nf => exact .nf
  | mp id b hp hn =>
    rcases h.ph _ _ hp with h' | h'
    · exact .mp id b h' (Nat.lt_of_lt_of_le hn h.n)
    · exact .mpd _ _ h' (Nat.lt_of_lt_of_le hn h.n)
  | mpd id b hp hn => exact .mpd _ _ (ph_none h hn hp) (Nat.lt_of_lt_of_le hn h.n)
  | nm => exact .nm
  | it id b hp hn =>
    rcases h.ph _ _ hp with h' | h'
    · exact .it id b h' (Nat.lt_of_lt_of_le hn h.n)
    · exact .itd _ _ h' (Nat.lt_of_lt_of_le hn h.n)
  | itd id ad hp hn => exact .itd _ _ (ph_none h hn hp) (Nat.lt_of_lt_of_le hn h.n)

theorem Reps.ext {c c' : Cx} (h : Ext c c') (hs : Sep c) {cs : List V} {xs : List Value} (hr : Reps c cs xs) : Reps c' cs xs :=
  ⟨hr.len, fun j v x h1 h2 => (hr.rep j v x h1 h2).ext h hs⟩

/-- an object whose own block stays as it is -/
theorem RepO.ext {c c' : Cx} (h : Ext c c') (hs : Sep c) {b sz : Nat} {x : Ob} (hb : c'.heap[b]? = c.heap[b]?) (hr : RepO c b sz x) : RepO c' b sz x := by
  cases x with
  | row s es =>
    obtain ⟨h1, h2, h3, arr, t, h4, h5, h6⟩ := hr
    refine ⟨h1, h2, h3, arr, t, by rw [hb]; exact h4, h5, fun j k e v he hv => ?_⟩
    obtain ⟨y, hy, hy1, hy2⟩ := h6 j k e v he hv
    exact ⟨y, hy, hy1, hy2.ext h hs⟩
  | map ents clock =>
    obtain ⟨h1, es, h2, h3, h4, h5, h6⟩ := hr
    refine ⟨h1, es, by rw [hb]; exact h2, h3, fun j en hj => ?_, h5, h6⟩
    obtain ⟨y, hy, hy1, hy2, hy3⟩ := h4 j en hj
    exact ⟨y, hy, hy1, hy2.ext h hs, hy3.ext h hs⟩
  | iter mp since seen stepped =>
    obtain ⟨h1, mpb, h2, h3⟩ := hr
    refine ⟨h1, mpb, by rw [hb]; exact h2, ?_⟩
    cases mp with
    | none => exact h3
    | some mid =>
      obtain ⟨hn, b', hb', hp⟩ := h3
      refine ⟨Nat.lt_of_lt_of_le hn h.n, b', hb', ?_⟩
      rcases hp with hp | hp
      · exact h.ph _ _ hp
      · exact .inr (ph_none h hn hp)


/-! transitions -/
def Cx.alloc (c : Cx) (ob : Obj) (sz : Nat) : Cx :=
  { heap := c.heap.push ob, ph := upd c.ph c.n (some (c.heap.size, sz)), im := c.im, n := c.n + 1 }

theorem Inv.free {c : Cx} {o : O} (h : Inv c o) : o c.n = none := by
  cases ho : o c.n with
  | none => rfl
  | some x =>
    obtain ⟨b, sz, hp, _⟩ := h.ob _ _ ho
    exact absurd (h.lt _ _ _ hp).1 (Nat.lt_irrefl _)

theorem Inv.phn {c : Cx} {o : O} (h : Inv c o) : ∀ id, c.n ≤ id → c.ph id = none := by
  intro id hn
  cases hp : c.ph id with
  | none => rfl
  | some x => exact absurd (h.lt id x.1 x.2 hp).1 (by omega)

theorem Inv.fin {c : Cx} {o : O} (h : Inv c o) : Fin o := by
  refine ⟨c.n, fun id hn => ?_⟩
  cases ho : o id with
  | none => rfl
  | some x =>
    obtain ⟨b, sz, hp, _⟩ := h.ob _ _ ho
    rw [h.phn id hn] at hp; cases hp

theorem alloc_ext {c : Cx} {o : O} (h : Inv c o) (ob : Obj) (sz : Nat) : Ext c (c.alloc ob sz) where
  size := by simp [Cx.alloc]
  keep b hb _ := by simp only [Cx.alloc]; rw [Array.getElem?_push_lt hb, Array.getElem?_eq_getElem hb]
  shape b arr t fz hb := by
    have hlt : b < c.heap.size := by
      rcases Nat.lt_or_ge b c.heap.size with h | h
      · exact h
      · rw [Array.getElem?_eq_none h] at hb; cases hb
    refine ⟨arr, ?_, rfl⟩
    simp only [Cx.alloc]; rw [Array.getElem?_push_lt hlt, ← Array.getElem?_eq_getElem hlt]; exact hb
  im _ hb := hb
  imn _ _ hb := .inl hb
  ph id x hp := by
    left
    have : id ≠ c.n := fun hh => by have := (h.lt id x.1 x.2 hp).1; omega
    simp only [Cx.alloc, upd, if_neg this]; exact hp
  phn id b sz' hp := by
    simp only [Cx.alloc, upd] at hp
    split at hp
    · cases hp; exact .inr ⟨by omega, .inr (Nat.le_refl _)⟩
    · exact .inl hp
  n := by simp [Cx.alloc]

theorem getElem?_push_self {α : Type} (a : Array α) (x : α) : (a.push x)[a.size]? = some x := by simp

theorem alloc_inv {c : Cx} {o : O} (h : Inv c o) {ob : Obj} {sz : Nat} {x : Ob} (hx : RepO (c.alloc ob sz) c.heap.size sz x) : Inv (c.alloc ob sz) (upd o c.n (some x)) where
  dom id ho := by
    simp only [upd] at ho
    split at ho
    · cases ho
    · rename_i hne
      simp only [Cx.alloc, upd, if_neg hne]; exact h.dom id ho
  ob id y ho := by
    simp only [upd] at ho
    split at ho
    · rename_i he
      cases ho
      exact ⟨c.heap.size, sz, by simp only [Cx.alloc, upd, if_pos he], hx⟩
    · rename_i hne
      obtain ⟨b, sz', hp, hr⟩ := h.ob id y ho
      refine ⟨b, sz', by simp only [Cx.alloc, upd, if_neg hne]; exact hp, hr.ext (alloc_ext h ob sz) h.sep ?_⟩
      have hlt := (h.lt id b sz' hp).2.1
      simp only [Cx.alloc]; rw [Array.getElem?_push_lt hlt, Array.getElem?_eq_getElem hlt]
  lt id b sz' hp := by
    simp only [Cx.alloc, upd] at hp ⊢
    split at hp
    · cases hp
      refine ⟨by omega, by simp, fun hi => ?_⟩
      have := h.im _ hi; omega
    · have := h.lt id b sz' hp
      exact ⟨by omega, by simp; omega, this.2.2⟩
  inj id id' b sz1 sz2 h1 h2 := by
    simp only [Cx.alloc, upd] at h1 h2
    split at h1
    · split at h2
      · omega
      · cases h1; have := (h.lt _ _ _ h2).2.1; omega
    · split at h2
      · cases h2; have := (h.lt _ _ _ h1).2.1; omega
      · exact h.inj _ _ _ _ _ h1 h2
  im b hb := by have := h.im b hb; simp [Cx.alloc]; omega

def Cx.set (c : Cx) (b : Nat) (ob : Obj) : Cx := { c with heap := c.heap.setIfInBounds b ob }

theorem set_ext {c : Cx} {o : O} (h : Inv c o) {id b sz : Nat} {ob : Obj} (hp : c.ph id = some (b, sz))
    (hsh : ∀ arr t fz, c.heap[b]? = some (Obj.cells arr t fz) → ∃ arr', ob = Obj.cells arr' t fz ∧ arr'.size = arr.size) : Ext c (c.set b ob) where
  size := by simp [Cx.set]
  keep b' _ ho := by
    simp only [Cx.set]
    rw [Array.getElem?_setIfInBounds_ne]
    intro hh; subst hh; exact ho _ _ hp
  shape b' arr t fz hb := by
    by_cases he : b = b'
    · subst he
      obtain ⟨arr', e1, e2⟩ := hsh arr t fz hb
      have hlt := (h.lt _ _ _ hp).2.1
      exact ⟨arr', by simp [Cx.set, hlt, e1], e2⟩
    · exact ⟨arr, by simp only [Cx.set]; rw [Array.getElem?_setIfInBounds_ne he]; exact hb, rfl⟩
  im _ hb := hb
  imn _ _ hb := .inl hb
  ph _ _ hq := .inl hq
  phn _ _ _ hq := .inl hq
  n := Nat.le_refl _

theorem set_inv {c : Cx} {o : O} (h : Inv c o) {id b sz : Nat} {ob : Obj} {x : Ob} (hp : c.ph id = some (b, sz))
    (hsh : ∀ arr t fz, c.heap[b]? = some (Obj.cells arr t fz) → ∃ arr', ob = Obj.cells arr' t fz ∧ arr'.size = arr.size)
    (hx : RepO (c.set b ob) b sz x) : Inv (c.set b ob) (upd o id (some x)) where
  dom j ho := by
    simp only [upd] at ho
    split at ho
    · cases ho
    · exact h.dom j ho
  ob j y ho := by
    simp only [upd] at ho
    split at ho
    · rename_i he
      subst he
      cases ho
      exact ⟨b, sz, hp, hx⟩
    · rename_i hne
      obtain ⟨b', sz', hp', hr⟩ := h.ob j y ho
      refine ⟨b', sz', hp', hr.ext (set_ext h hp hsh) h.sep ?_⟩
      simp only [Cx.set]
      rw [Array.getElem?_setIfInBounds_ne]
      intro hh; subst hh; exact hne (h.inj _ _ _ _ _ hp' hp)
  lt j b' sz' hp' := by have := h.lt j b' sz' hp'; simpa [Cx.set] using this
  inj := h.inj
  im b' hb := by have := h.im b' hb; simpa [Cx.set] using this

/-- an object's row goes on under another name: in its own block -/
def Cx.move (c : Cx) (id b sz : Nat) (ob : Obj) : Cx :=
  { heap := c.heap.setIfInBounds b ob, ph := upd (upd c.ph id none) c.n (some (b, sz)), im := c.im, n := c.n + 1 }

theorem move_ext {c : Cx} {o : O} (h : Inv c o) {id b sz : Nat} {ob : Obj} (hp : c.ph id = some (b, sz))
    (hsh : ∀ arr t fz, c.heap[b]? = some (Obj.cells arr t fz) → ∃ arr', ob = Obj.cells arr' t fz ∧ arr'.size = arr.size) : Ext c (c.move id b sz ob) where
  size := by simp [Cx.move]
  keep := (set_ext h hp hsh).keep
  shape := (set_ext h hp hsh).shape
  im _ hb := hb
  imn _ _ hb := .inl hb
  ph j x hq := by
    have hj : j ≠ c.n := fun hh => by have := (h.lt j x.1 x.2 hq).1; omega
    simp only [Cx.move, upd, if_neg hj]
    split
    · exact .inr rfl
    · exact .inl hq
  phn j b' sz' hq := by
    simp only [Cx.move, upd] at hq
    split at hq
    · cases hq; exact .inr ⟨by omega, .inl ⟨_, _, hp⟩⟩
    · split at hq
      · cases hq
      · exact .inl hq
  n := by simp [Cx.move]

theorem move_inv {c : Cx} {o : O} (h : Inv c o) {id b sz : Nat} {ob : Obj} {x : Ob} (hp : c.ph id = some (b, sz))
    (hsh : ∀ arr t fz, c.heap[b]? = some (Obj.cells arr t fz) → ∃ arr', ob = Obj.cells arr' t fz ∧ arr'.size = arr.size)
    (hx : RepO (c.move id b sz ob) b sz x) : Inv (c.move id b sz ob) (upd (upd o id none) c.n (some x)) where
  dom j ho := by
    simp only [upd] at ho
    split at ho
    · cases ho
    · rename_i h1
      simp only [Cx.move, upd, if_neg h1]
      split
      · rfl
      · rename_i h2; rw [if_neg h2] at ho; exact h.dom j ho
  ob j y ho := by
    simp only [upd] at ho
    split at ho
    · rename_i he
      cases ho
      exact ⟨b, sz, by simp only [Cx.move, upd, if_pos he], hx⟩
    · rename_i h1
      split at ho
      · cases ho
      · rename_i h2
        obtain ⟨b', sz', hp', hr⟩ := h.ob j y ho
        refine ⟨b', sz', by simp only [Cx.move, upd, if_neg h1, if_neg h2]; exact hp', hr.ext (move_ext h hp hsh) h.sep ?_⟩
        simp only [Cx.move]
        rw [Array.getElem?_setIfInBounds_ne]
        intro hh; subst hh; exact h2 (h.inj _ _ _ _ _ hp' hp)
  lt j b' sz' hp' := by
    simp only [Cx.move, upd] at hp' ⊢
    split at hp'
    · cases hp'
      have := h.lt id b sz hp
      exact ⟨by omega, by simp; omega, this.2.2⟩
    · split at hp'
      · cases hp'
      · have := h.lt j b' sz' hp'
        exact ⟨by omega, by simp; omega, this.2.2⟩
  inj i j b' s1 s2 h1 h2 := by
    simp only [Cx.move, upd] at h1 h2
    split at h1
    · split at h2
      · omega
      · cases h1
        split at h2
        · cases h2
        · rename_i hne; exact absurd (h.inj _ _ _ _ _ h2 hp) hne
    · split at h1
      · cases h1
      · split at h2
        · cases h2; rename_i hne _; exact absurd (h.inj _ _ _ _ _ h1 hp) hne
        · split at h2
          · cases h2
          · exact h.inj _ _ _ _ _ h1 h2
  im b' hb := by have := h.im b' hb; simpa [Cx.move] using this

/-- .. or in a new one -/
def Cx.grow (c : Cx) (id sz : Nat) (ob : Obj) : Cx :=
  { heap := c.heap.push ob, ph := upd (upd c.ph id none) c.n (some (c.heap.size, sz)), im := c.im, n := c.n + 1 }

theorem grow_ext {c : Cx} {o : O} (h : Inv c o) (id sz : Nat) (ob : Obj) : Ext c (c.grow id sz ob) where
  size := by simp [Cx.grow]
  keep := (alloc_ext h ob sz).keep
  shape := (alloc_ext h ob sz).shape
  im _ hb := hb
  imn _ _ hb := .inl hb
  ph j x hq := by
    have hj : j ≠ c.n := fun hh => by have := (h.lt j x.1 x.2 hq).1; omega
    simp only [Cx.grow, upd, if_neg hj]
    split
    · exact .inr rfl
    · exact .inl hq
  phn j b' sz' hq := by
    simp only [Cx.grow, upd] at hq
    split at hq
    · cases hq; exact .inr ⟨by omega, .inr (Nat.le_refl _)⟩
    · split at hq
      · cases hq
      · exact .inl hq
  n := by simp [Cx.grow]

theorem grow_inv {c : Cx} {o : O} (h : Inv c o) {id sz : Nat} {ob : Obj} {x : Ob} (hx : RepO (c.grow id sz ob) c.heap.size sz x) :
    Inv (c.grow id sz ob) (upd (upd o id none) c.n (some x)) where
  dom j ho := by
    simp only [upd] at ho
    split at ho
    · cases ho
    · rename_i h1
      simp only [Cx.grow, upd, if_neg h1]
      split
      · rfl
      · rename_i h2; rw [if_neg h2] at ho; exact h.dom j ho
  ob j y ho := by
    simp only [upd] at ho
    split at ho
    · rename_i he
      cases ho
      exact ⟨c.heap.size, sz, by simp only [Cx.grow, upd, if_pos he], hx⟩
    · rename_i h1
      split at ho
      · cases ho
      · rename_i h2
        obtain ⟨b', sz', hp', hr⟩ := h.ob j y ho
        refine ⟨b', sz', by simp only [Cx.grow, upd, if_neg h1, if_neg h2]; exact hp', hr.ext (grow_ext h id sz ob) h.sep ?_⟩
        have hlt := (h.lt j b' sz' hp').2.1
        simp only [Cx.grow]; rw [Array.getElem?_push_lt hlt, Array.getElem?_eq_getElem hlt]
  lt j b' sz' hp' := by
    simp only [Cx.grow, upd] at hp' ⊢
    split at hp'
    · cases hp'
      refine ⟨by omega, by simp, fun hi => ?_⟩
      have := h.im _ hi; omega
    · split at hp'
      · cases hp'
      · have := h.lt j b' sz' hp'
        exact ⟨by omega, by simp; omega, this.2.2⟩
  inj i j b' s1 s2 h1 h2 := by
    simp only [Cx.grow, upd] at h1 h2
    split at h1
    · split at h2
      · omega
      · cases h1
        split at h2
        · cases h2
        · have := (h.lt _ _ _ h2).2.1; omega
    · split at h1
      · cases h1
      · split at h2
        · cases h2; have := (h.lt _ _ _ h1).2.1; omega
        · split at h2
          · cases h2
          · exact h.inj _ _ _ _ _ h1 h2
  im b' hb := by have := h.im b' hb; simp [Cx.grow]; omega

/-! the view of a call that leaves the store -/
def Cx.bare (c : Cx) : Cx := { c with ph := fun _ => none }
def Cx.all (c : Cx) : Cx := { c with ph := fun _ => none, im := fun b => c.im b ∨ ∃ id sz, c.ph id = some (b, sz) }

theorem bare_ext (c : Cx) : Ext c c.bare :=
  ⟨Nat.le_refl _, fun _ _ _ => rfl, fun _ arr _ _ h => ⟨arr, h, rfl⟩, fun _ h => h, fun _ _ h => .inl h, fun _ _ _ => .inr rfl, fun _ _ _ h => (by cases h), Nat.le_refl _⟩
theorem all_ext (c : Cx) : Ext c c.all :=
  ⟨Nat.le_refl _, fun _ _ _ => rfl, fun _ arr _ _ h => ⟨arr, h, rfl⟩, fun _ h => .inl h, fun _ _ h => h, fun _ _ _ => .inr rfl, fun _ _ _ h => (by cases h), Nat.le_refl _⟩

theorem bare_inv {c : Cx} {o : O} (h : Inv c o) : Inv c.bare emp :=
  ⟨fun _ _ => rfl, fun _ _ h => (by cases h), fun _ _ _ h => (by cases h), fun _ _ _ _ _ h => (by cases h), h.im⟩
theorem all_inv {c : Cx} {o : O} (h : Inv c o) : Inv c.all emp :=
  ⟨fun _ _ => rfl, fun _ _ h => (by cases h), fun _ _ _ h => (by cases h), fun _ _ _ _ _ h => (by cases h), fun b hb => hb.elim (h.im b) fun ⟨id, sz, hp⟩ => (h.lt id b sz hp).2.1⟩

theorem mapM_some {α β : Type} {f : α → Option β} : ∀ {l : List α} {r : List β}, l.mapM f = some r →
    r.length = l.length ∧ ∀ (j : Nat) y, r[j]? = some y → ∃ v, l[j]? = some v ∧ f v = some y := by
  intro l
  induction l with
  | nil => intro r h; simp at h; subst h; simp
  | cons x l ih =>
    intro r h
    simp only [List.mapM_cons, Option.bind_eq_bind, Option.bind_eq_some_iff, Option.pure_def, Option.some.injEq] at h
    obtain ⟨y, hy, ys, hys, rfl⟩ := h
    obtain ⟨hl, hj⟩ := ih hys
    refine ⟨by simp [hl], fun j z hz => ?_⟩
    cases j with
    | zero => simp at hz; subst hz; exact ⟨x, by simp, hy⟩
    | succ j => simp at hz; obtain ⟨v, h1, h2⟩ := hj j z hz; exact ⟨v, by simpa using h1, h2⟩

theorem Rep.idf_sl {c : Cx} {es : List (List V)} {x : Value} (h : Rep c (.sl es) x) : Idf (.sl es) := by
  cases h with
  | sl0 => exact .sl _ fun j k e v h => by simp at h
  | sl _ _ _ _ _ _ _ _ _ _ hd => exact .sl _ hd
theorem Rep.idf_ip {c : Cx} {cs : List V} {j : Nat} {x : Value} (h : Rep c (.ip cs j) x) : Idf (.ip cs j) := by
  cases h with
  | ip _ _ _ _ _ hd => exact .ip _ _ hd

theorem at_len {α β : Type} {l : List α} {xs : Array β} (h : xs.size = l.length) {j : Nat} {v : α} (hv : l[j]? = some v) : ∃ y, xs[j]? = some y := by
  have := (List.getElem?_eq_some_iff.1 hv).1
  exact ⟨xs[j]'(by omega), Array.getElem?_eq_getElem _⟩

/-- what is frozen stands for what it stood for -/
theorem frz_repI {c : Cx} {o : O} (hi : Inv c o) : ∀ (n : Nat) (v : V) (x : Value) (r : V), Rep c v x → frz n o v = some r → Rep c.all r x ∧ Idf r := by
  have hsep := hi.sep
  have hext := all_ext c
  intro n
  induction n with
  | zero => intro v x r _ h; cases h
  | succ n ih =>
    intro v x r hr h
    cases v <;> simp only [frz, Option.map_eq_some_iff] at h
    case jk => cases h; exact ⟨.jk _, .jk⟩
    case bo => cases h; exact ⟨hr.ext hext hsep, .bo _⟩
    case i => cases h; exact ⟨hr.ext hext hsep, .i _ _⟩
    case s => cases h; exact ⟨hr.ext hext hsep, .s _⟩
    case ag cs =>
      obtain ⟨l, hl, rfl⟩ := h
      obtain ⟨h1, h2⟩ := mapM_some hl
      cases hr with
      | ag _ xs hx1 hx2 hx =>
        refine ⟨.ag _ _ (by rw [hx1, h1]) hx2 fun j w y hw hy => ?_, .ag _ fun j w hw => ?_⟩
        · obtain ⟨u, hu, hf⟩ := h2 j w hw
          exact (ih _ _ _ (hx j u y hu hy) hf).1
        · obtain ⟨u, hu, hf⟩ := h2 j w hw
          obtain ⟨y, hy⟩ := at_len hx1 hu
          exact (ih _ _ _ (hx j u y hu hy) hf).2
    case tp cs =>
      obtain ⟨l, hl, rfl⟩ := h
      obtain ⟨h1, h2⟩ := mapM_some hl
      cases hr with
      | tp _ xs hx1 hx =>
        refine ⟨.tp _ _ (by rw [hx1, h1]) fun j w y hw hy => ?_, .tp _ fun j w hw => ?_⟩
        · obtain ⟨u, hu, hf⟩ := h2 j w hw
          exact (ih _ _ _ (hx j u y hu hy) hf).1
        · obtain ⟨u, hu, hf⟩ := h2 j w hw
          obtain ⟨y, hy⟩ := at_len hx1 hu
          exact (ih _ _ _ (hx j u y hu hy) hf).2
    case nil => cases h; cases hr; exact ⟨.sl0 _ _, .sl _ fun j k e v h => by simp at h⟩
    case sl => cases h; exact ⟨hr.ext hext hsep, hr.idf_sl⟩
    case rw id sz off len =>
      cases ho : o id with
      | none => simp [src, ho] at h
      | some ob =>
        cases ob with
        | map => simp [src, ho] at h
        | iter => simp [src, ho] at h
        | row s es =>
          obtain ⟨b, sz', hp, hrep⟩ := hi.ob id _ ho
          obtain ⟨h1, h2, h3, arr, t, h4, h5, h6⟩ := hrep
          simp only [src, ho] at h
          split at h
          · rename_i es' he
            split at he
            · rename_i hle
              simp only [Option.some.injEq] at he
              simp only [Option.map_eq_some_iff] at h
              obtain ⟨l, hl, rfl⟩ := h
              obtain ⟨k1, k2⟩ := mapM_some hl
              have hlen : l.length = len := by rw [k1, ← he]; simp; omega
              cases hr with
              | rwd _ _ _ _ _ _ hn => rw [hp] at hn; cases hn
              | rw0 _ _ _ a _ =>
                have : l = [] := List.eq_nil_of_length_eq_zero hlen
                subst this; exact ⟨.sl0 _ _, .sl _ fun j k e v h => by simp at h⟩
              | rw _ _ _ _ b2 cap hp2 hn hc hf =>
                rw [hp] at hp2
                cases hp2
                by_cases hz : l = []
                · subst hz; simp at hlen; subst hlen; exact ⟨.sl0 _ _, .sl _ fun j k e v h => by simp at h⟩
                · rw [← hlen]
                  have hel : ∀ (j : Nat) e, l[j]? = some e → ∃ e0, es[off + j]? = some e0 ∧ e0.mapM (frz n o) = some e := by
                    intro j e he1
                    obtain ⟨e0, g1, g2⟩ := k2 j e he1
                    refine ⟨e0, ?_, g2⟩
                    rw [← he] at g1
                    simp only [List.getElem?_take, List.getElem?_drop] at g1
                    split at g1
                    · exact g1
                    · cases g1
                  have hd : ∀ (j k : Nat) e w, l[j]? = some e → e[k]? = some w → Idf w := by
                    intro j k e w he1 hw
                    obtain ⟨e0, g1, g2⟩ := hel j e he1
                    obtain ⟨u, gu, gf⟩ := (mapM_some g2).2 k w hw
                    obtain ⟨y, hy, hy1, hy2⟩ := h6 (off + j) k e0 u g1 gu
                    exact (ih _ _ _ hy2 gf).2
                  refine ⟨.sl l b (off * sz) sz cap hz h2 (by omega) (.inr ⟨id, sz, hp⟩) (fun e he1 => ?_) hd (fun j k e w he1 hw => ?_) (fun j k e w y he1 hw hy => ?_), .sl _ hd⟩
                  · obtain ⟨j, hj⟩ := List.getElem?_of_mem he1
                    obtain ⟨e0, g1, g2⟩ := hel j e hj
                    rw [(mapM_some g2).1]
                    exact h3 e0 (List.mem_of_getElem? g1)
                  · obtain ⟨e0, g1, g2⟩ := hel j e he1
                    obtain ⟨u, gu, gf⟩ := (mapM_some g2).2 k w hw
                    obtain ⟨y, hy, hy1, hy2⟩ := h6 (off + j) k e0 u g1 gu
                    refine ⟨y, ?_, hy1⟩
                    show cellAt c.heap b _ = _
                    simp only [cellAt, h4]
                    rw [← hy, Nat.add_mul]
                  · obtain ⟨e0, g1, g2⟩ := hel j e he1
                    obtain ⟨u, gu, gf⟩ := (mapM_some g2).2 k w hw
                    obtain ⟨y', hy', hy1, hy2⟩ := h6 (off + j) k e0 u g1 gu
                    have hy : cellAt c.heap b (off * sz + j * sz + k) = some y := hy
                    simp only [cellAt, h4] at hy
                    rw [← Nat.add_mul, hy'] at hy
                    cases hy
                    exact (ih _ _ _ hy2 gf).1
            · cases he
          · cases h
    case ra id i j len =>
      cases ho : o id with
      | none => simp [src, ho] at h
      | some ob =>
        cases ob with
        | map => simp [src, ho] at h
        | iter => simp [src, ho] at h
        | row s es =>
          obtain ⟨b, sz', hp, hrep⟩ := hi.ob id _ ho
          obtain ⟨h1, h2, h3, arr, t, h4, h5, h6⟩ := hrep
          simp only [src, ho] at h
          cases hcs : es[i]? with
          | none => simp [hcs] at h
          | some cs =>
            simp only [hcs] at h
            split at h
            · rename_i es' he
              split at he
              · rename_i hle
                simp only [Option.some.injEq] at he
                simp only [Option.map_eq_some_iff] at h
                obtain ⟨l, hl, rfl⟩ := h
                obtain ⟨k1, k2⟩ := mapM_some hl
                have hlen : l.length = len := by rw [k1, ← he]; simp; omega
                cases hr with
                | rad _ _ _ _ _ _ hn => rw [hp] at hn; cases hn
                | ra0 _ _ _ a _ =>
                  have : l = [] := List.eq_nil_of_length_eq_zero hlen
                  subst this; exact ⟨.sl0 _ _, .sl _ fun j k e v h => by simp at h⟩
                | ra _ _ _ _ b2 sz2 cap hp2 hn hc =>
                  rw [hp] at hp2
                  cases hp2
                  by_cases hz : l = []
                  · subst hz; simp at hlen; subst hlen; exact ⟨.sl0 _ _, .sl _ fun j k e v h => by simp at h⟩
                  · rw [← hlen]
                    have hel : ∀ (q : Nat) e, l[q]? = some e → ∃ u w, cs[j + q]? = some u ∧ frz n o u = some w ∧ e = [w] := by
                      intro q e he1
                      obtain ⟨e0, g1, g2⟩ := k2 q e he1
                      rw [← he] at g1
                      simp only [List.getElem?_map, List.getElem?_take, List.getElem?_drop, Option.map_eq_some_iff] at g1
                      obtain ⟨u, gu, rfl⟩ := g1
                      split at gu
                      · simp only [List.mapM_cons, List.mapM_nil, Option.bind_eq_bind, Option.bind_eq_some_iff, Option.pure_def, Option.some.injEq] at g2
                        obtain ⟨w, hw, _, rfl, rfl⟩ := g2
                        exact ⟨u, w, gu, hw, rfl⟩
                      · cases gu
                    have hd : ∀ (q k : Nat) e w, l[q]? = some e → e[k]? = some w → Idf w := by
                      intro q k e w he1 hw
                      obtain ⟨u, w', gu, gf, rfl⟩ := hel q e he1
                      have hk : k = 0 := by cases k with | zero => rfl | succ k => simp at hw
                      subst hk
                      obtain ⟨y, hy, hy1, hy2⟩ := h6 i (j + q) cs u hcs gu
                      simp at hw
                      subst hw
                      exact (ih _ _ _ hy2 gf).2
                    refine ⟨.sl l b (i * sz' + j) 1 cap hz (by omega) (by omega) (.inr ⟨id, sz', hp⟩) (fun e he1 => ?_) hd (fun q k e w he1 hw => ?_) (fun q k e w y he1 hw hy => ?_), .sl _ hd⟩
                    · obtain ⟨q, hq⟩ := List.getElem?_of_mem he1
                      obtain ⟨_, _, _, _, rfl⟩ := hel q e hq
                      rfl
                    · obtain ⟨u, w', gu, gf, rfl⟩ := hel q e he1
                      have hk : k = 0 := by cases k with | zero => rfl | succ k => simp at hw
                      subst hk
                      obtain ⟨y, hy, hy1, hy2⟩ := h6 i (j + q) cs u hcs gu
                      refine ⟨y, ?_, hy1⟩
                      show cellAt c.heap b _ = _
                      simp only [cellAt, h4]
                      rw [← hy]; congr 1; omega
                    · obtain ⟨u, w', gu, gf, rfl⟩ := hel q e he1
                      have hk : k = 0 := by cases k with | zero => rfl | succ k => simp at hw
                      subst hk
                      obtain ⟨y', hy', hy1, hy2⟩ := h6 i (j + q) cs u hcs gu
                      have hy : cellAt c.heap b (i * sz' + j + q * 1 + 0) = some y := hy
                      simp only [cellAt, h4] at hy
                      rw [show i * sz' + j + q * 1 + 0 = i * sz' + (j + q) by omega, hy'] at hy
                      cases hy
                      simp at hw
                      subst hw
                      exact (ih _ _ _ hy2 gf).1
              · cases he
            · cases h
    case pt id i j =>
      cases ho : o id with
      | none => simp [cellsAt, ho] at h
      | some ob =>
        cases ob with
        | map => simp [cellsAt, ho] at h
        | iter => simp [cellsAt, ho] at h
        | row s es =>
          obtain ⟨b, sz', hp, hrep⟩ := hi.ob id _ ho
          obtain ⟨h1, h2, h3, arr, t, h4, h5, h6⟩ := hrep
          cases hcs : es[i]? with
          | none => simp [cellsAt, ho, hcs] at h
          | some cs =>
            simp only [cellsAt, ho, hcs, Option.map_eq_some_iff] at h
            obtain ⟨l, hl, rfl⟩ := h
            obtain ⟨k1, k2⟩ := mapM_some hl
            cases hr with
            | ptd _ _ _ _ hn => rw [hp] at hn; cases hn
            | pt _ _ _ b2 sz2 hp2 hn =>
              rw [hp] at hp2
              cases hp2
              have hd : ∀ (k : Nat) w, l[k]? = some w → Idf w := by
                intro k w hw
                obtain ⟨u, gu, gf⟩ := k2 k w hw
                obtain ⟨y, hy, hy1, hy2⟩ := h6 i k cs u hcs gu
                exact (ih _ _ _ hy2 gf).2
              refine ⟨.ip l j b (i * sz') (.inr ⟨id, sz', hp⟩) hd (fun k w hw => ?_) (fun k w y hw hy => ?_), .ip _ _ hd⟩
              · obtain ⟨u, gu, gf⟩ := k2 k w hw
                obtain ⟨y, hy, hy1, hy2⟩ := h6 i k cs u hcs gu
                refine ⟨y, ?_, hy1⟩
                show cellAt c.heap b _ = _
                simp only [cellAt, h4]; exact hy
              · obtain ⟨u, gu, gf⟩ := k2 k w hw
                obtain ⟨y', hy', hy1, hy2⟩ := h6 i k cs u hcs gu
                have hy : cellAt c.heap b (i * sz' + k) = some y := hy
                simp only [cellAt, h4] at hy
                rw [hy'] at hy; cases hy
                exact (ih _ _ _ hy2 gf).1
    case ip => cases h; exact ⟨hr.ext hext hsep, hr.idf_ip⟩
    case np => cases h; exact ⟨hr.ext hext hsep, .np⟩
    case fn g cs =>
      obtain ⟨l, hl, rfl⟩ := h
      obtain ⟨h1, h2⟩ := mapM_some hl
      cases hr with
      | fn _ _ xs hx1 hx =>
        refine ⟨.fn _ _ _ (by rw [hx1, h1]) fun j w y hw hy => ?_, .fn _ _ fun j w hw => ?_⟩
        · obtain ⟨u, hu, hf⟩ := h2 j w hw
          exact (ih _ _ _ (hx j u y hu hy) hf).1
        · obtain ⟨u, hu, hf⟩ := h2 j w hw
          obtain ⟨y, hy⟩ := at_len hx1 hu
          exact (ih _ _ _ (hx j u y hu hy) hf).2
    case nf => cases h; exact ⟨hr.ext hext hsep, .nf⟩
    case mp => cases h
    case nm => cases h; exact ⟨hr.ext hext hsep, .nm⟩
    case it => cases h

theorem frz_rep {c : Cx} {o : O} (hi : Inv c o) (n : Nat) (v : V) (x : Value) (r : V) (h : Rep c v x) (hf : frz n o v = some r) : Rep c.all r x := (frz_repI hi n v x r h hf).1
theorem frz_idf {c : Cx} {o : O} (hi : Inv c o) {n : Nat} {v : V} {x : Value} {r : V} (h : Rep c v x) (hf : frz n o v = some r) : Idf r := (frz_repI hi n v x r h hf).2

/-- what leads to no object reads the same wherever the memory is the same -/
theorem Rep.idf {c c' : Cx} (hh : c'.heap = c.heap) (him : ∀ b, c.im b → c'.im b) {v : V} {x : Value} (hr : Rep c v x) : Idf v → Rep c' v x := by
  induction hr with
  | jk v => exact fun _ => .jk v
  | bo p => exact fun _ => .bo p
  | i k n => exact fun _ => .i k n
  | s y => exact fun _ => .s y
  | ag cs xs hl h1 _ ih => intro hd; cases hd with | ag _ hd => exact .ag cs xs hl h1 fun j v x h1 h2 => ih j v x h1 h2 (hd j v h1)
  | tp cs xs hl _ ih => intro hd; cases hd with | tp _ hd => exact .tp cs xs hl fun j v x h1 h2 => ih j v x h1 h2 (hd j v h1)
  | nil a => exact fun _ => .nil a
  | sl0 a n => exact fun _ => .sl0 a n
  | sl es b off sz n hne hsz hn hb hl hd hx _ ih =>
    intro _
    exact .sl es b off sz n hne hsz hn (him b hb) hl hd (fun j k e v h1 h2 => by rw [hh]; exact hx j k e v h1 h2) (fun j k e v x h1 h2 h3 => by rw [hh] at h3; exact ih j k e v x h1 h2 h3 (hd j k e v h1 h2))
  | ip cs j b off hb hd hx _ ih =>
    intro _
    exact .ip cs j b off (him b hb) hd (fun k v h1 => by rw [hh]; exact hx k v h1) (fun k v x h1 h3 => by rw [hh] at h3; exact ih k v x h1 h3 (hd k v h1))
  | np => exact fun _ => .np
  | fn g cs xs hl _ ih => intro hd; cases hd with | fn _ _ hd => exact .fn g cs xs hl fun j v x h1 h2 => ih j v x h1 h2 (hd j v h1)
  | nf => exact fun _ => .nf
  | nm => exact fun _ => .nm
  | _ => intro hd; cases hd

/-- .. also where no reference was -/
theorem frz_clo {c : Cx} (hs : Sep c) {o : O} : ∀ (n m : Nat) (v : V) (x : Value) (r : V), Rep c v x → clo m v = true → frz n o v = some r → Rep c.bare r x := by
  have hext := bare_ext c
  intro n
  induction n with
  | zero => intro m v x r _ _ h; cases h
  | succ n ih =>
    intro m v x r hr hc h
    cases m with
    | zero => cases hc
    | succ m =>
      have hall : ∀ {cs : List V}, cs.all (clo m) = true → ∀ (j : Nat) u, cs[j]? = some u → clo m u = true := fun hc j u hu =>
        List.all_eq_true.1 hc u (List.mem_of_getElem? hu)
      cases v <;> simp only [frz, Option.map_eq_some_iff] at h <;> (first | (simp only [clo] at hc; cases hc; done) | skip)
      case jk => cases h; exact .jk _
      case bo => cases h; exact hr.ext hext hs
      case i => cases h; exact hr.ext hext hs
      case s => cases h; exact hr.ext hext hs
      case ag cs =>
        obtain ⟨l, hl, rfl⟩ := h
        obtain ⟨h1, h2⟩ := mapM_some hl
        cases hr with
        | ag _ xs hx1 hx2 hx =>
          refine .ag _ _ (by rw [hx1, h1]) hx2 fun j w y hw hy => ?_
          obtain ⟨u, hu, hf⟩ := h2 j w hw
          exact ih _ _ _ _ (hx j u y hu hy) (hall hc j u hu) hf
      case tp cs =>
        obtain ⟨l, hl, rfl⟩ := h
        obtain ⟨h1, h2⟩ := mapM_some hl
        cases hr with
        | tp _ xs hx1 hx =>
          refine .tp _ _ (by rw [hx1, h1]) fun j w y hw hy => ?_
          obtain ⟨u, hu, hf⟩ := h2 j w hw
          exact ih _ _ _ _ (hx j u y hu hy) (hall hc j u hu) hf
      case nil => cases h; cases hr; exact .sl0 _ _
      case sl => cases h; exact hr.ext hext hs
      case ip => cases h; exact hr.ext hext hs
      case np => cases h; exact hr.ext hext hs
      case fn g cs =>
        obtain ⟨l, hl, rfl⟩ := h
        obtain ⟨h1, h2⟩ := mapM_some hl
        cases hr with
        | fn _ _ xs hx1 hx =>
          refine .fn _ _ _ (by rw [hx1, h1]) fun j w y hw hy => ?_
          obtain ⟨u, hu, hf⟩ := h2 j w hw
          exact ih _ _ _ _ (hx j u y hu hy) (hall hc j u hu) hf
      case nf => cases h; exact hr.ext hext hs
      case nm => cases h; exact hr.ext hext hs

theorem flat_rep {c c' : Cx} : ∀ (n : Nat) (v : V) (x : Value), flat n v = true → Rep c v x → Rep c' v x := by
  intro n
  induction n with
  | zero => intro v x h; cases h
  | succ n ih =>
    intro v x h hr
    cases v <;> (first | (simp only [flat] at h; cases h; done) | skip)
    case jk => exact .jk _
    case bo => cases hr; exact .bo _
    case i => cases hr; exact .i _ _
    case s => cases hr; exact .s _
    case np => cases hr; exact .np
    case nm => cases hr; exact .nm
    case nf => cases hr; exact .nf
    case ag cs =>
      cases hr with
      | ag _ xs hx1 hx2 hx => exact .ag _ _ hx1 hx2 fun j w y hw hy => ih _ _ (List.all_eq_true.1 h w (List.mem_of_getElem? hw)) (hx j w y hw hy)
    case tp cs =>
      cases hr with
      | tp _ xs hx1 hx => exact .tp _ _ hx1 fun j w y hw hy => ih _ _ (List.all_eq_true.1 h w (List.mem_of_getElem? hw)) (hx j w y hw hy)

end Go.Proofs.Ytiadalheipbpcaa
