/-
  Appends.
-/
import Derived.Test.YtiadalheipbpcaaSg
import Derived.Deep.Upon
namespace Go.Proofs.Ytiadalheipbpcaa
set_option linter.all false

/-- elements that lie one behind another from an address on -/
def Lies (c : Cx) (b off sz : Nat) (ys : List (List V)) : Prop :=
  ∀ (j k : Nat) e v, ys[j]? = some e → e[k]? = some v → ∃ y, cellAt c.heap b (off + (j * sz + k)) = some y ∧ oneC y = true ∧ Rep c v y

theorem Lies.list {c : Cx} {b off sz : Nat} {ys : List (List V)} (h : Lies c b off sz ys) (hlen : ∀ e ∈ ys, e.length = sz) (hs : 0 < sz) :
    ∃ news : List Value, news.length = ys.length * sz ∧ Cz c sz ys news ∧ (∀ u ∈ news, oneC u = true) ∧ ∀ (m : Nat) u, news[m]? = some u → cellAt c.heap b (off + m) = some u := by
  have key : ∀ m, m < ys.length * sz → ∃ y, cellAt c.heap b (off + m) = some y ∧ oneC y = true := by
    intro m hm
    have hj : m / sz < ys.length := Nat.div_lt_of_lt_mul (by rw [Nat.mul_comm]; exact hm)
    have he := hlen _ (List.getElem_mem hj)
    have hk : m % sz < (ys[m / sz]).length := by rw [he]; exact Nat.mod_lt _ hs
    obtain ⟨y, h1, h2, _⟩ := h (m / sz) (m % sz) _ _ (List.getElem?_eq_getElem hj) (List.getElem?_eq_getElem hk)
    rw [Nat.mul_comm, Nat.div_add_mod] at h1
    exact ⟨y, h1, h2⟩
  let f : Nat → Value := fun m => (cellAt c.heap b (off + m)).getD undef
  have get : ∀ m, m < ys.length * sz → ((List.range (ys.length * sz)).map f)[m]? = some (f m) := fun m hm => by simp [hm]
  refine ⟨(List.range (ys.length * sz)).map f, by simp, ⟨by simp, fun j k e v he hv => ?_⟩, fun u hu => ?_, fun m u hm => ?_⟩
  · obtain ⟨y, h1, h2, h3⟩ := h j k e v he hv
    have hj := (List.getElem?_eq_some_iff.1 he).1
    have hk := (List.getElem?_eq_some_iff.1 hv).1
    rw [hlen e (List.mem_of_getElem? he)] at hk
    have hm : j * sz + k < ys.length * sz := by
      have : (j + 1) * sz ≤ ys.length * sz := Nat.mul_le_mul_right _ hj
      rw [Nat.add_mul] at this; omega
    exact ⟨y, by rw [get _ hm]; simp [f, h1], h2, h3⟩
  · obtain ⟨m, hm, rfl⟩ := List.mem_map.1 hu
    obtain ⟨y, h1, h2⟩ := key m (by simpa using hm)
    simp [f, h1, h2]
  · have hlt : m < ys.length * sz := by
      have := (List.getElem?_eq_some_iff.1 hm).1
      simpa using this
    rw [get m hlt] at hm
    cases hm
    obtain ⟨y, h1, _⟩ := key m hlt
    simp [f, h1]

theorem src_rd {c : Cx} {o : O} (hi : Inv c o) {v : V} {x : Value} (hx : Rep c v x) {ys : List (List V)} (h : src o v = some ys) {sz : Nat} (hlen : ∀ e ∈ ys, e.length = sz) :
    ∃ a cp, x = .slice a ys.length cp ∧ (ys = [] ∨ ∃ b off, a = some ⟨b, off, none⟩ ∧ Lies c b off sz ys) := by
  cases v <;> simp only [src, reduceCtorEq] at h
  case nil =>
    cases h
    cases hx with
    | nil a => exact ⟨a, 0, rfl, .inl rfl⟩
  case sl es =>
    cases h
    cases hx with
    | sl0 a n => exact ⟨a, n, rfl, .inl rfl⟩
    | sl _ b off sz' n hne hsz hn hb hl hd hx hh =>
      have : sz' = sz := by
        cases hy : ys with
        | nil => exact absurd hy hne
        | cons e l => rw [← hl e (by simp [hy]), ← hlen e (by simp [hy])]
      subst this
      refine ⟨_, n, rfl, .inr ⟨b, off, rfl, fun j k e v h1 h2 => ?_⟩⟩
      obtain ⟨y, hy, hy1⟩ := hx j k e v h1 h2
      rw [← Nat.add_assoc]
      exact ⟨y, hy, hy1, hh j k e v y h1 h2 hy⟩
  case rw id sz' off len =>
    cases ho : o id with
    | none => simp [ho] at h
    | some ob =>
      cases ob <;> simp only [ho, reduceCtorEq] at h
      rename_i s es
      split at h
      · rename_i hle
        simp only [Option.some.injEq] at h
        subst h
        have hl : ((es.drop off).take len).length = len := by simp; omega
        obtain ⟨b, sz2, hp, hr⟩ := hi.ob id _ ho
        obtain ⟨rfl, hs0, hl2, arr, ty, hb, hz⟩ := repO_row.1 hr
        rw [hl]
        cases hx with
        | rw0 _ _ _ a hn => exact ⟨a, 0, rfl, .inl (by simp)⟩
        | rwd _ _ _ _ _ _ hn => rw [hp] at hn; cases hn
        | rw _ _ _ _ b2 cap hp2 hn hc hf =>
          rw [hp] at hp2
          cases hp2
          refine ⟨_, cap, rfl, ?_⟩
          cases hy : (es.drop off).take len with
          | nil => exact .inl rfl
          | cons e0 l0 =>
            right
            have hm : e0 ∈ (es.drop off).take len := by rw [hy]; simp
            have hse : sz' = sz := by rw [← hl2 e0 (List.mem_of_mem_drop (List.mem_of_mem_take hm)), ← hlen e0 (by rw [← hy] at *; exact hm)]
            subst hse
            refine ⟨b, off * sz', rfl, ?_⟩
            rw [← hy]
            intro j k e v h1 h2
            have hj : j < len := by
              have := (List.getElem?_eq_some_iff.1 h1).1
              rw [hl] at this; exact this
            rw [List.getElem?_take_of_lt hj, List.getElem?_drop] at h1
            obtain ⟨u, hu, hh⟩ := hz.2 _ k e v h1 h2
            refine ⟨u, ?_, hh⟩
            simp only [cellAt, hb]
            rw [← Array.getElem?_toList, ← Nat.add_assoc, ← Nat.add_mul]
            exact hu
      · cases h
  case ra id i j len =>
    cases ho : o id with
    | none => simp [ho] at h
    | some ob =>
      cases ob <;> simp only [ho, reduceCtorEq] at h
      rename_i s es
      cases hcs : es[i]? with
      | none => simp [hcs] at h
      | some cs =>
        simp only [hcs] at h
        split at h
        · rename_i hle
          simp only [Option.some.injEq] at h
          subst h
          have hl : (((cs.drop j).take len).map fun v => [v]).length = len := by simp; omega
          obtain ⟨b, sz2, hp, hr⟩ := hi.ob id _ ho
          obtain ⟨rfl, hs0, hl2, arr, ty, hb, hz⟩ := repO_row.1 hr
          rw [hl]
          cases hx with
          | ra0 _ _ _ a hn => exact ⟨a, 0, rfl, .inl (by simp)⟩
          | rad _ _ _ _ _ _ hn => rw [hp] at hn; cases hn
          | ra _ _ _ _ b2 sz2 cap hp2 hn hc =>
            rw [hp] at hp2
            cases hp2
            refine ⟨_, cap, rfl, ?_⟩
            cases hy : ((cs.drop j).take len).map fun v => [v] with
            | nil => exact .inl rfl
            | cons e0 l0 =>
              right
              have hse : sz = 1 := by
                have hm : e0 ∈ ((cs.drop j).take len).map fun v => [v] := by rw [hy]; simp
                obtain ⟨v0, _, rfl⟩ := List.mem_map.1 hm
                exact (hlen _ hm).symm
              subst hse
              refine ⟨b, i * s + j, rfl, ?_⟩
              rw [← hy]
              intro a k e v h1 h2
              have ha : a < len := by
                have := (List.getElem?_eq_some_iff.1 h1).1
                rw [hl] at this; exact this
              rw [List.getElem?_map, List.getElem?_take_of_lt ha, List.getElem?_drop] at h1
              cases hv : cs[j + a]? with
              | none => simp [hv] at h1
              | some v1 =>
                simp only [hv, Option.map_some, Option.some.injEq] at h1
                subst h1
                cases k with
                | succ k => simp at h2
                | zero =>
                  simp at h2
                  subst h2
                  obtain ⟨u, hu, hh⟩ := hz.2 i (j + a) cs v1 hcs hv
                  refine ⟨u, ?_, hh⟩
                  simp only [cellAt, hb]
                  rw [← Array.getElem?_toList, show i * s + j + (a * 1 + 0) = i * s + (j + a) by omega]
                  exact hu
        · cases h

section
variable {P : Program} {c : Cx} {o : O} {w : World}

theorem src_ok (hp : c.heap = w.heap) (hi : Inv c o) {v : V} {x : Value} (hx : Rep c v x) {ys : List (List V)} (h : src o v = some ys) {sz : Nat} (hs : 0 < sz) (hlen : ∀ e ∈ ys, e.length = sz) {tx e' : TypeId} (hu : P.underlying tx = some (.slice e')) :
    ∃ news, Src P sz tx x ys.length news w ∧ Cz c sz ys news := by
  obtain ⟨a, cp, rfl, hh⟩ := src_rd hi hx h hlen
  rcases hh with rfl | ⟨b, off, rfl, hL⟩
  · refine ⟨[], ?_, by simp, fun j k e v h => by simp at h⟩
    cases a with
    | none => exact Src.ofNil w hu cp
    | some a => exact Src.ofSlice w hu a 0 cp [] (by simp) (fun j u h => by simp at h) (fun u h => by cases h)
  · obtain ⟨news, h1, h2, h3, h4⟩ := hL.list hlen hs
    refine ⟨news, Src.ofSlice w hu _ _ cp news h1 (fun j u hj => ?_) (fun u hm => ?_), h2⟩
    · have := h4 j u hj
      rw [hp] at this
      rw [← cell?_eq] at this
      simpa [Addr.add_lit] using this
    · rw [← oneC_eq]; exact h3 u hm

theorem growfit {need cap byt : Nat} (h : cap < need) (hs : sizeOk need byt) : Builtin.nextslicecap need cap * byt ≤ 281474976710656 := by
  refine growslice_fits h ?_
  obtain ⟨h1, h2⟩ := hs
  have := Nat.mul_le_mul h1 h2
  omega

theorem cz_zeros {c : Cx} {sz : Nat} {es : List (List V)} {l : List Value} (h : Cz c sz es l) (m : Array Value) : Cz c sz es (l.toArray ++ m).toList := by
  have := h.longer m.toList
  simpa using this

theorem run_append_up {t tx ty el : TypeId} {i : TypeInfo} {z : Value} (ht : P.underlying t = some (.slice el)) (hinf : P.info? el = some i) (hz : i.zero = some z) {a : Option Addr} {len cap : Nat} {olds : List Value}
    (hold : (Builtin.firstCells i.size len (.slice a len cap)).run P w.drew = .ok olds.toArray w.drew) {x : Value} {n : Nat} {news : List Value} (hs : Src P i.size tx x n news w) (hg : cap < len + n) (hsz : sizeOk (len + n) i.bytes) :
    ∃ m, len + n ≤ m ∧ (Builtin.append_ #[t, tx] ty #[.slice a len cap, x]).run P w = .ok (.slice (some ⟨w.heap.size, 0, none⟩) (len + n) m)
      { w.drew with heap := w.drew.heap.push (.cells ((olds ++ news).toArray ++ Builtin.zeroCells z.cells (m - (len + n))) el) } :=
  ⟨_, grownCap_ge w _ _ _, run_append_grow_src w t tx ty el i z ht hinf hz a len cap olds hold x n news hs hg (by obtain ⟨h1, _⟩ := hsz; omega) (growfit hg hsz)⟩

theorem info_of_zeroC {el : TypeId} {z : List V} (h : zeroC P el = some z) : ∃ i zv, P.info? el = some i ∧ i.zero = some zv ∧ z = zv.cells.toList.map zV ∧ zv.cells.toList.all oneC = true := by
  unfold zeroC at h
  cases hi : P.info? el with
  | none => simp [hi] at h
  | some i =>
    cases hz : i.zero with
    | none => simp [hi, hz] at h
    | some v =>
      simp only [hi, hz] at h
      split at h
      · rename_i hc
        cases h
        exact ⟨i, v, rfl, hz, rfl, hc⟩
      · cases h

theorem grow_get (c : Cx) (id sz : Nat) (ob : Obj) : (c.grow id sz ob).heap[c.heap.size]? = some ob := by simp [Cx.grow]
theorem grow_ph (c : Cx) (id sz : Nat) (ob : Obj) : (c.grow id sz ob).ph c.n = some (c.heap.size, sz) := by simp [Cx.grow, upd]
theorem grow_n (c : Cx) (id sz : Nat) (ob : Obj) : c.n < (c.grow id sz ob).n := by simp [Cx.grow]

theorem Cz.take {c : Cx} {sz : Nat} {es : List (List V)} {l : List Value} (h : Cz c sz es l) (hlen : ∀ e ∈ es, e.length = sz) {len : Nat} (hle : len ≤ es.length) : Cz c sz (es.take len) (l.take (len * sz)) ∧ (l.take (len * sz)).length = len * sz := by
  have h0 : len * sz ≤ l.length := Nat.le_trans (Nat.mul_le_mul_right _ hle) h.1
  have hl : (l.take (len * sz)).length = len * sz := by simp [h0]
  refine ⟨⟨by rw [hl, List.length_take, Nat.min_eq_left hle]; exact Nat.le_refl _, fun j k e v he hv => ?_⟩, hl⟩
  have hj : j < len := by
    have := (List.getElem?_eq_some_iff.1 he).1
    simp at this; omega
  rw [List.getElem?_take_of_lt hj] at he
  have hk : k < sz := by
    rw [← hlen e (List.mem_of_getElem? he)]
    exact (List.getElem?_eq_some_iff.1 hv).1
  have : (j + 1) * sz ≤ len * sz := Nat.mul_le_mul_right _ hj
  rw [Nat.add_mul] at this
  rw [List.getElem?_take_of_lt (by omega)]
  exact h.2 j k e v he hv

theorem Cz.room {c : Cx} {sz : Nat} {es ys : List (List V)} {l news : List Value} (h : Cz c sz es l) (hlen : ∀ e ∈ es, e.length = sz) {len : Nat} (hle : len ≤ es.length) (hC : Cz c sz ys news) : Cz c sz (es.take len ++ ys) (wr l news (len * sz)) := by
  obtain ⟨h1, h2⟩ := h.take hlen hle
  exact (h1.append (by rw [h2, List.length_take, Nat.min_eq_left hle]) hC).longer _

theorem free_none {id : Nat} (hi : Inv c o) : upd o id none c.n = none := by
  simp only [upd]
  split
  · rfl
  · exact hi.free

theorem eff_append {cl : CallT} {ev : E} {X Y : Od} (hp : c.heap = w.heap) (hi : Inv c o) {t tx ty el e' : TypeId} (ht : P.underlying t = some (.slice el)) (hu : P.underlying tx = some (.slice e')) (hok : okT P el = true) {z : List V} (hzc : zeroC P el = some z) (hzl : z.length = P.cellsOf el)
    {xx xy : Value} (hx : Rep c (X.ev ev) xx) (hy : Rep c (Y.ev ev) xy) {K : V → O → Prop} (h : W cl ev o K (.app (P.cellsOf el) (P.bytesOf el) X Y)) : Eff P c w (Builtin.append_ #[t, tx] ty #[xx, xy]) K := by
  obtain ⟨i, zv, hinf, hz, hzz, _⟩ := info_of_zeroC hzc
  obtain ⟨hs0, _, _, _⟩ := okT_some hok
  have esz : P.cellsOf el = i.size := by simp [Program.cellsOf, hinf]
  have eby : P.bytesOf el = i.bytes := by simp [Program.bytesOf, hinf]
  simp only [W] at h
  rw [esz] at hs0
  rw [esz, eby] at h
  have e2 : zv.cells.size = i.size := by rw [← esz, ← hzl, hzz]; simp
  cases hsrc : src o (Y.ev ev) with
  | none => simp [hsrc] at h
  | some ys =>
    simp only [hsrc] at h
    obtain ⟨hlen, h⟩ := h
    obtain ⟨news, hS, hC⟩ := src_ok hp hi hy hsrc hs0 hlen hu
    cases hX : X.ev ev <;> simp only [hX] at h
    case nil =>
      obtain ⟨hso, h0, h1⟩ := h
      rw [hX] at hx
      cases hx with
      | nil a =>
        by_cases hy0 : ys = []
        · subst hy0
          have hn : news = [] := by have := hS.newsLen; simpa using this
          subst hn
          refine ⟨_, w, c, .nil, o, run_append_nothing w t tx ty el i ht hinf a 0 0 (Nat.le_refl _) xy hS, After.same hp hi (.nil a) rfl rfl rfl, h0 rfl⟩
        · have hpos : 0 < ys.length := List.length_pos_iff.2 hy0
          have hold : (Builtin.firstCells i.size 0 (.slice a 0 0)).run P w.drew = .ok ([] : List Value).toArray w.drew := by
            cases a with
            | none => exact run_firstCells_none w.drew _ _ _ _
            | some a => exact run_firstCells_some w.drew _ _ _ _ _ [] (by simp) (fun j v h => by simp at h)
          obtain ⟨m, hm, hrun⟩ := run_append_up (P := P) (w := w) (ty := ty) ht hinf hz hold hS (by omega) (by simpa using hso)
          simp only [Nat.zero_add] at hm hrun
          refine Eff.alloc (w1 := w.drew) (sz := i.size) (x := .row i.size ys) (f := fun id => .rw id i.size 0 ys.length) (val := fun b => .slice (some ⟨b, 0, none⟩) ys.length m) hp hi rfl rfl rfl hrun ?_ ?_ (h1 hy0)
          · refine repO_row.2 ⟨rfl, hs0, hlen, _, el, alloc_get _ _ _, ?_⟩
            exact cz_zeros (Cz.ext (alloc_ext hi _ _) hi.sep (by simpa using hC)) _
          · have := Rep.rw (c := c.alloc (.cells (([] ++ news).toArray ++ Builtin.zeroCells zv.cells (m - ys.length)) el) i.size) c.n i.size 0 ys.length _ m (alloc_ph _ _ _) (alloc_n _ _ _) hm ⟨_, _, alloc_get _ _ _, by
              have e1 := hS.newsLen
              simp [Builtin.zeroCells, e1, e2, ← Nat.add_mul]
              rw [Nat.add_sub_cancel' hm]; exact Nat.le_refl _⟩
            simpa using this
    case rw id sz' off len =>
      obtain ⟨rfl, rfl, h⟩ := h
      cases ho : o id with
      | none => simp [ho] at h
      | some ob =>
        cases ob <;> simp only [ho] at h
        rename_i s es
        obtain ⟨hle, hso, h0, h1⟩ := h
        obtain ⟨b, sz, hph, hr⟩ := hi.ob id _ ho
        obtain ⟨rfl, hs1, hl2, arr, ty2, hb, hz2⟩ := repO_row.1 hr
        rw [hX] at hx
        -- a new row
        have grown : ∀ (a : Option Addr) (cap : Nat) (olds : List Value), ys ≠ [] → cap < len + ys.length → xx = .slice a len cap → (∀ e ∈ es.take len, e.length = i.size) → (Builtin.firstCells i.size len (.slice a len cap)).run P w.drew = .ok olds.toArray w.drew →
            olds.length = len * i.size → Cz c i.size (es.take len) olds → Eff P c w (Builtin.append_ #[t, tx] ty #[xx, xy]) K := by
          intro a cap olds hy0 hlt hxx hss hold hol hco
          subst hxx
          obtain ⟨m, hm, hrun⟩ := run_append_up (P := P) (w := w) (ty := ty) ht hinf hz hold hS hlt hso
          have hrep : Cz c i.size (es.take len ++ ys) (olds ++ news) := hco.append (by rw [hol]; simp [Nat.min_eq_left hle]) hC
          refine ⟨_, _, c.grow id i.size (.cells ((olds ++ news).toArray ++ Builtin.zeroCells zv.cells (m - (len + ys.length))) el), .rw c.n i.size 0 (len + ys.length), _, hrun, ⟨grow_ext hi _ _ _, by simp only [Cx.grow, hp]; rfl, rfl, rfl, grow_inv (x := .row i.size (es.take len ++ ys)) hi ?_, ?_⟩, h1 hy0 _ (free_none hi)⟩
          · refine repO_row.2 ⟨rfl, hs0, fun e he => ?_, _, el, grow_get _ _ _ _, ?_⟩
            · rcases List.mem_append.1 he with he | he
              · exact hss e he
              · exact hlen e he
            · exact cz_zeros (Cz.ext (grow_ext hi _ _ _) hi.sep hrep) _
          · have := Rep.rw (c := c.grow id i.size (.cells ((olds ++ news).toArray ++ Builtin.zeroCells zv.cells (m - (len + ys.length))) el)) c.n i.size 0 (len + ys.length) c.heap.size m (grow_ph _ _ _ _) (grow_n _ _ _ _) hm ⟨_, el, grow_get _ _ _ _, by
              have e1 := hS.newsLen
              simp only [Builtin.zeroCells, Array.size_append, List.size_toArray, List.length_append, Array.size_map, Array.size_range, e1, e2, hol, Nat.zero_add, ← Nat.add_mul]
              rw [Nat.add_sub_cancel' hm]; exact Nat.le_refl _⟩
            simpa [← hp] using this
        have nothing : ∀ (a : Option Addr) (cap : Nat), ys = [] → len ≤ cap → xx = .slice a len cap → Rep c (.rw id i.size 0 len) xx → Eff P c w (Builtin.append_ #[t, tx] ty #[xx, xy]) K := by
          intro a cap hy0 hcap hxx hrx
          subst hy0 hxx
          have hn : news = [] := by have := hS.newsLen; simpa using this
          subst hn
          exact ⟨_, w, c, .rw id i.size 0 len, o, run_append_nothing w t tx ty el i ht hinf a len cap hcap xy hS, After.same hp hi hrx rfl rfl rfl, h0 rfl⟩
        cases hx with
        | rw0 _ _ _ a hn =>
          by_cases hy0 : ys = []
          · exact nothing a 0 hy0 (Nat.le_refl _) rfl (.rw0 _ _ _ a hn)
          · have hpos : 0 < ys.length := List.length_pos_iff.2 hy0
            have hold : (Builtin.firstCells i.size 0 (.slice a 0 0)).run P w.drew = .ok ([] : List Value).toArray w.drew := by
              cases a with
              | none => exact run_firstCells_none w.drew _ _ _ _
              | some a => exact run_firstCells_some w.drew _ _ _ _ _ [] (by simp) (fun j v h => by simp at h)
            exact grown a 0 [] hy0 (by omega) rfl (by simp) hold (by simp) ⟨by simp, fun j k e v h => by simp at h⟩
        | rwd _ _ _ _ _ _ hn => rw [hph] at hn; cases hn
        | rw _ _ _ _ b2 cap hp2 hn hc hf =>
          rw [hph] at hp2
          cases hp2
          by_cases hy0 : ys = []
          · exact nothing _ cap hy0 hc rfl (.rw _ _ _ _ _ _ hph hn hc hf)
          · have hbw : w.heap[b]? = some (.cells arr ty2 (0, 0)) := by rw [← hp]; exact hb
            obtain ⟨arr1, t1, hb1, hcap⟩ := hf
            rw [hb] at hb1
            cases hb1
            by_cases hroom : len + ys.length ≤ cap
            · have hnl := hS.newsLen
              have hle2 : len * i.size + news.length ≤ arr.size := by
                have : (len + ys.length) * i.size ≤ cap * i.size := Nat.mul_le_mul_right _ hroom
                rw [Nat.add_mul, ← hnl] at this
                rw [Nat.zero_add] at hcap
                omega
              have h1c : ∀ u ∈ news, oneC u = true := fun u hu => by rw [oneC_eq]; exact hS.one u hu
              have hst := run_wr (P := P) hbw hle2 h1c
              have hwl : (wr arr.toList news (len * i.size)).length = arr.toList.length := wr_len (by simpa using hle2)
              have hsame : ∀ arr1 t1 fz, c.heap[b]? = some (Obj.cells arr1 t1 fz) → ∃ arr', Obj.cells (wr arr.toList news (len * i.size)).toArray ty2 (0, 0) = Obj.cells arr' t1 fz ∧ arr'.size = arr1.size := by
                intro arr1 t1 fz h
                rw [hb] at h
                cases h
                exact ⟨_, rfl, by simp [hwl]⟩
              have hblt : b < c.heap.size := (hi.lt _ _ _ hph).2.1
              have hget : (c.move id b i.size (.cells (wr arr.toList news (len * i.size)).toArray ty2 (0, 0))).heap[b]? = some (.cells (wr arr.toList news (len * i.size)).toArray ty2 (0, 0)) := by
                simp only [Cx.move]; rw [Array.getElem?_setIfInBounds_self_of_lt hblt]
              refine ⟨.slice (some ⟨b, 0 * i.size, none⟩) (len + ys.length) cap, w.setRow b (wr arr.toList news (len * i.size)).toArray, c.move id b i.size (.cells (wr arr.toList news (len * i.size)).toArray ty2 (0, 0)), .rw c.n i.size 0 (len + ys.length), _, ?_,
                ⟨move_ext hi hph hsame, by rw [heap_setRow hbw]; simp only [Cx.move, hp], rfl, rfl, move_inv (x := .row i.size (es.take len ++ ys)) hi hph hsame ?_, ?_⟩, h1 hy0 _ (free_none hi)⟩
              · rcases hS.kind with ⟨e', hk⟩ | hk <;> simp [Builtin.append_, run_underlying ht, run_underlying hk, sizeOf, typeInfo, hinf, hS.len, hroom, hS.cells, Addr.add_lit, hst]
              · refine repO_row.2 ⟨rfl, hs0, fun e he => ?_, _, ty2, hget, ?_⟩
                · rcases List.mem_append.1 he with he | he
                  · exact hl2 e (List.mem_of_mem_take he)
                  · exact hlen e he
                · exact Cz.ext (move_ext hi hph hsame) hi.sep (by simpa using hz2.room hl2 hle hC)
              · refine .rw _ _ _ _ _ _ (by simp [Cx.move, upd]) (by simp [Cx.move]) hroom ⟨_, _, hget, ?_⟩
                rw [List.size_toArray, hwl]
                simpa using hcap
            · have hL : Lies c b 0 i.size (es.take len) := by
                intro j k e v h1 h2
                have hj : j < len := by
                  have := (List.getElem?_eq_some_iff.1 h1).1
                  simp at this; omega
                rw [List.getElem?_take_of_lt hj] at h1
                obtain ⟨u, hu, hh⟩ := hz2.2 _ k e v h1 h2
                refine ⟨u, ?_, hh⟩
                simp only [cellAt, hb]
                rw [← Array.getElem?_toList, Nat.zero_add]
                exact hu
              obtain ⟨olds, q1, q2, q3, q4⟩ := hL.list (fun e he => hl2 e (List.mem_of_mem_take he)) hs0
              rw [List.length_take, Nat.min_eq_left hle] at q1
              refine grown _ cap olds hy0 (by omega) rfl (fun e he => hl2 e (List.mem_of_mem_take he)) ?_ q1 q2
              refine run_firstCells_some w.drew _ _ _ _ _ olds q1 (fun j u hj => ?_)
              have := q4 j u hj
              rw [hp, ← cell?_eq] at this
              simpa [Addr.add_lit] using this

end

end Go.Proofs.Ytiadalheipbpcaa
