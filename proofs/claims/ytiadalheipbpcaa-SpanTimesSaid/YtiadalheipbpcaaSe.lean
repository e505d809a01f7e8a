/-
  Operations that make or change objects.
-/
import Derived.Test.YtiadalheipbpcaaSm
namespace Go.Proofs.Ytiadalheipbpcaa
set_option linter.all false

structure After (c : Cx) (w : World) (c' : Cx) (v : V) (o' : O) (x : Value) (w' : World) : Prop where
  ext : Ext c c'
  hp : c'.heap = w'.heap
  os : w'.os = w.os
  out : w'.output = w.output
  inv : Inv c' o'
  rep : Rep c' v x

/-- from a world with this memory the step comes to a value and a world for which K holds -/
def Eff (P : Program) (c : Cx) (w : World) (s : Sem Value) (K : V → O → Prop) : Prop :=
  ∃ x w' c' v o', s.run P w = .ok x w' ∧ After c w c' v o' x w' ∧ K v o'

theorem After.same {c : Cx} {o : O} {w w' : World} (hp : c.heap = w.heap) (hi : Inv c o) {v : V} {x : Value} (hr : Rep c v x) (h1 : w'.heap = w.heap) (h2 : w'.os = w.os) (h3 : w'.output = w.output) : After c w c v o x w' :=
  ⟨Ext.refl c, by rw [h1]; exact hp, h2, h3, hi, hr⟩

theorem Eff.alloc {P : Program} {c : Cx} {o : O} {w w1 : World} (hp : c.heap = w.heap) (hi : Inv c o) {s : Sem Value} {ob : Obj} {sz : Nat} {x : Ob} {f : Nat → V} {val : Nat → Value} {K : V → O → Prop}
    (h1 : w1.heap = w.heap) (h2 : w1.os = w.os) (h3 : w1.output = w.output)
    (hs : s.run P w = .ok (val w.heap.size) { w1 with heap := w1.heap.push ob }) (hx : RepO (c.alloc ob sz) c.heap.size sz x) (hv : Rep (c.alloc ob sz) (f c.n) (val c.heap.size))
    (hK : ∀ id, o id = none → K (f id) (upd o id (some x))) : Eff P c w s K :=
  ⟨_, _, c.alloc ob sz, f c.n, upd o c.n (some x), hs, ⟨alloc_ext hi ob sz, by simp [Cx.alloc, hp, h1], h2, h3, alloc_inv hi hx, by rw [← hp]; exact hv⟩, hK _ hi.free⟩

theorem alloc_get (c : Cx) (ob : Obj) (sz : Nat) : (c.alloc ob sz).heap[c.heap.size]? = some ob := by simp [Cx.alloc]
theorem alloc_ph (c : Cx) (ob : Obj) (sz : Nat) : (c.alloc ob sz).ph c.n = some (c.heap.size, sz) := by simp [Cx.alloc, upd]
theorem alloc_n (c : Cx) (ob : Obj) (sz : Nat) : c.n < (c.alloc ob sz).n := by simp [Cx.alloc]

theorem rep_one {c : Cx} {z : List V} {zs : Array Value} {t : TypeId} (hne : z ≠ []) (hz : Reps c z zs.toList) (h1 : ∀ (j : Nat) y, zs[j]? = some y → oneC y = true) {b : Nat} (hb : c.heap[b]? = some (.cells zs t (0, 0))) : RepO c b z.length (.row z.length [z]) := by
  have hl : zs.size = z.length := by rw [← Array.length_toList, hz.len]
  refine ⟨rfl, List.length_pos_iff.2 hne, by simp, zs, t, hb, by simp [hl], fun j k e v he hv => ?_⟩
  cases j with
  | succ j => simp at he
  | zero =>
    simp at he
    subst he
    have hk : k < zs.size := by
      rw [hl]
      rcases Nat.lt_or_ge k z.length with h | h
      · exact h
      · rw [List.getElem?_eq_none h] at hv; cases hv
    refine ⟨zs[k], by simp [hk], h1 k _ (Array.getElem?_eq_getElem hk), hz.rep k v _ hv ?_⟩
    rw [Array.getElem?_toList]; exact Array.getElem?_eq_getElem hk

section
variable {P : Program} {c : Cx} {o : O} {w : World}

theorem eff_alloc (hp : c.heap = w.heap) (hi : Inv c o) {t : TypeId} {z : List V} (hz : zeroC P t = some z) (hne : z ≠ []) {K : V → O → Prop} (hK : ∀ id, o id = none → K (.pt id 0 0) (upd o id (some (.row z.length [z])))) :
    Eff P c w (Instr.alloc t true (.tuple #[])) K := by
  obtain ⟨zv, h1, h2, h3⟩ := zeroC_rep c hz w
  refine Eff.alloc (w1 := w) (ob := .cells zv.cells t) (sz := z.length) (x := .row z.length [z]) (f := fun id => .pt id 0 0) (val := fun b => .pointer (some ⟨b, 0, none⟩)) hp hi rfl rfl rfl ?_ ?_ ?_ hK
  · simp [Instr.alloc, h1, newVar, newRow]
  · obtain ⟨zv', h1', h2', h3'⟩ := zeroC_rep (c.alloc (.cells zv.cells t) z.length) hz w
    rw [h1] at h1'
    cases h1'
    exact rep_one hne h2' h3' (alloc_get _ _ _)
  · have := Rep.pt (c := c.alloc (.cells zv.cells t) z.length) c.n 0 0 _ _ (alloc_ph _ _ _) (alloc_n _ _ _)
    simpa using this

theorem eff_box (hp : c.heap = w.heap) (hi : Inv c o) {t : TypeId} {v : V} {x : Value} (hx : Rep c v x) (hne : v.cells ≠ []) {K : V → O → Prop} (hK : ∀ id, o id = none → K (.pt id 0 0) (upd o id (some (.row v.cells.length [v.cells])))) :
    Eff P c w (Instr.box t x) K := by
  obtain ⟨h2, h3, _⟩ := hx.cells hne
  refine Eff.alloc (w1 := w) (ob := .cells x.cells t) (sz := v.cells.length) (x := .row v.cells.length [v.cells]) (f := fun id => .pt id 0 0) (val := fun b => .pointer (some ⟨b, 0, none⟩)) hp hi rfl rfl rfl ?_ ?_ ?_ hK
  · simp [Instr.box, newVar, newRow]
  · exact rep_one hne (h2.ext (alloc_ext hi _ _) hi.sep) h3 (alloc_get _ _ _)
  · have := Rep.pt (c := c.alloc (.cells x.cells t) v.cells.length) c.n 0 0 _ _ (alloc_ph _ _ _) (alloc_n _ _ _)
    simpa using this

theorem zget (zs : Array Value) (n k : Nat) (hk : k < n) (hz : 0 < zs.size) : ((Array.range n).map (zs[· % zs.size]!))[k]? = some (zs[k % zs.size]'(Nat.mod_lt _ hz)) := by
  have : (Array.range n)[k]? = some k := by simp [hk]
  rw [Array.getElem?_map, this, Option.map_some, getElem!_pos zs (k % zs.size) (Nat.mod_lt _ hz)]

/-- a row of zeros -/
theorem rep_zeros {c : Cx} {z : List V} {zs : Array Value} {t : TypeId} (hne : z ≠ []) (hz : Reps c z zs.toList) (h1 : ∀ (j : Nat) y, zs[j]? = some y → oneC y = true) {b l m : Nat} (hlm : l ≤ m)
    (hb : c.heap[b]? = some (.cells ((Array.range (m * z.length)).map (zs[· % zs.size]!)) t (0, 0))) : RepO c b z.length (.row z.length (List.replicate l z)) := by
  have hl : zs.size = z.length := by rw [← Array.length_toList, hz.len]
  have hpos := List.length_pos_iff.2 hne
  refine ⟨rfl, hpos, fun e he => by rw [List.eq_of_mem_replicate he], _, t, hb, by simpa using Nat.mul_le_mul_right _ hlm, fun j k e v he hv => ?_⟩
  obtain ⟨hj, rfl⟩ : j < l ∧ e = z := by
    rcases Nat.lt_or_ge j l with h | h
    · rw [List.getElem?_replicate_of_lt h] at he; cases he; exact ⟨h, rfl⟩
    · rw [List.getElem?_eq_none (by simpa using h)] at he; cases he
  have hk : k < e.length := by
    rcases Nat.lt_or_ge k e.length with h | h
    · exact h
    · rw [List.getElem?_eq_none h] at hv; cases hv
  have hlt : j * e.length + k < m * e.length := by
    have : (j + 1) * e.length ≤ m * e.length := Nat.mul_le_mul_right _ (by omega)
    rw [Nat.add_mul] at this; omega
  have hmod : (j * e.length + k) % zs.size = k := by
    rw [hl, Nat.mul_comm, Nat.mul_add_mod]; exact Nat.mod_eq_of_lt hk
  refine ⟨zs[k]'(by omega), ?_, h1 k _ (Array.getElem?_eq_getElem _), hz.rep k v _ hv ?_⟩
  · rw [zget zs _ _ hlt (by omega)]
    simp only [hmod]
  · rw [Array.getElem?_toList]; exact Array.getElem?_eq_getElem _

theorem eff_makeSlice (hp : c.heap = w.heap) (hi : Inv c o) {t e : TypeId} {z : List V} (hu : P.underlying t = some (.slice e)) (hok : okT P e = true) (hz : zeroC P e = some z) (hzl : z.length = P.cellsOf e) (hbyt : P.bytesOf e ≤ 65536)
    {vl vc : V} {l cc : Nat} {xl xc : Value} (hl : Rep c vl xl) (hl' : natV vl = some l) (hc : Rep c vc xc) (hc' : natV vc = some cc) (hle : l ≤ cc) (hsz : sizeOk cc (P.bytesOf e))
    {K : V → O → Prop} (hK : ∀ id, o id = none → K (.rw id (P.cellsOf e) 0 l) (upd o id (some (.row (P.cellsOf e) (List.replicate l z))))) : Eff P c w (Instr.makeSlice t xl xc) K := by
  obtain ⟨k1, rfl⟩ := natV_rep hl hl'
  obtain ⟨k2, rfl⟩ := natV_rep hc hc'
  obtain ⟨hpos, ⟨d, hud⟩, i, hinf⟩ := okT_some hok
  obtain ⟨zv, h1, h2, h3⟩ := zeroC_rep c hz w
  have hb : P.bytesOf e = i.bytes := by simp [Program.bytesOf, hinf]
  have hne : z ≠ [] := fun h0 => by rw [h0] at hzl; simp at hzl; omega
  obtain ⟨s1, s2⟩ := hsz
  have wl : ∀ n : Nat, n ≤ 2147483648 → IntKind.i64.wrap (n : Int) = n := by
    intro n hn
    have h1 : ((n : Int) % 2 ^ 64) = n := Int.emod_eq_of_lt (by omega) (by omega)
    simp only [IntKind.wrap, IntKind.bits, IntKind.signed]
    simp only [h1]
    rw [if_neg]
    simp; omega
  have hbm : i.bytes * cc ≤ 140737488355328 := by
    have := Nat.mul_le_mul (show i.bytes ≤ 65536 by omega) s1
    omega
  refine Eff.alloc (w1 := w) (ob := .cells ((Array.range (cc * P.cellsOf e)).map (zv.cells[· % zv.cells.size]!)) e) (sz := P.cellsOf e) (x := .row (P.cellsOf e) (List.replicate l z)) (f := fun id => .rw id (P.cellsOf e) 0 l) (val := fun b => .slice (some ⟨b, 0, none⟩) l cc) hp hi rfl rfl rfl ?_ ?_ ?_ hK
  · unfold Instr.makeSlice
    simp only [Sem.run_bind, run_underlying hu, Result.andThen_ok, asInt, asIntOf, Sem.run_pure, run_typeInfo w hinf, wl l (by omega), wl cc s1]
    have t1 : ∀ n : Nat, n ≤ cc → (decide ((n : Int) < 0) || decide ((i.bytes : Int) * (n : Int) > 2 ^ 48)) = false := by
      intro n hn
      have : i.bytes * n ≤ i.bytes * cc := Nat.mul_le_mul_left _ hn
      simp only [Bool.or_eq_false_iff, decide_eq_false_iff_not]
      refine ⟨by omega, ?_⟩
      have e1 : ((i.bytes : Int) * (n : Int)) = ((i.bytes * n : Nat) : Int) := by simp
      rw [e1]; omega
    have t2 : decide ((l : Int) < 0) = false := by simp
    have t3 : decide ((l : Int) > (cc : Int)) = false := by simp; omega
    simp only [t1 cc (Nat.le_refl _), t2, t3, Bool.or_self, Bool.false_eq_true, if_false, Sem.run_bind, run_askRoom, Result.andThen_ok, run_sizeOf w hinf, Int.toNat_natCast]
    split
    · rename_i h0
      have : cc = 0 := by
        rcases Nat.mul_eq_zero.1 h0 with h | h
        · exact h
        · omega
      subst this
      have hl0 : l = 0 := by omega
      subst hl0
      have r0 : ∀ f : Nat → Value, Array.map f (Array.range 0) = #[] := fun f => by simp
      simp [newRow, r0]
    · simp [h1, newRow]
  · have h4 : Reps (c.alloc (.cells ((Array.range (cc * P.cellsOf e)).map (zv.cells[· % zv.cells.size]!)) e) (P.cellsOf e)) z zv.cells.toList := h2.ext (alloc_ext hi _ _) hi.sep
    have := rep_zeros (b := c.heap.size) (t := e) (l := l) (m := cc) hne h4 h3 hle (by rw [hzl]; exact alloc_get c _ (P.cellsOf e))
    rw [hzl] at this
    exact this
  · have := Rep.rw (c := c.alloc (.cells ((Array.range (cc * P.cellsOf e)).map (zv.cells[· % zv.cells.size]!)) e) (P.cellsOf e)) c.n (P.cellsOf e) 0 l _ cc (alloc_ph _ _ _) (alloc_n _ _ _) hle ⟨_, _, alloc_get _ _ _, by simp [hzl]⟩
    simpa using this

theorem eff_makeMap (hp : c.heap = w.heap) (hi : Inv c o) {t : TypeId} {K : V → O → Prop} (hK : ∀ id, o id = none → K (.mp id) (upd o id (some (.map [] 0)))) : Eff P c w (Instr.makeMap t none) K := by
  refine Eff.alloc (w1 := w) (ob := .map #[] 0) (sz := 0) (x := .map [] 0) (f := fun id => .mp id) (val := fun b => .map (some b)) hp hi rfl rfl rfl ?_ ?_ ?_ hK
  · simp [Instr.makeMap]
  · exact ⟨rfl, #[], alloc_get _ _ _, rfl, fun j en hj => by simp at hj, by simp, by simp⟩
  · exact .mp _ _ (alloc_ph _ _ _) (alloc_n _ _ _)

end

end Go.Proofs.Ytiadalheipbpcaa
