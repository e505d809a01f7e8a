/-
  How the small machine's code is run over values that are told in part.
-/
import Derived.Test.YtiadalheipbpcaaSz
namespace Go.Proofs.Ytiadalheipbpcaa
set_option linter.all false

section
variable {cl : CallT} {e : E} {o : O}

theorem C_sk {K : X → E → O → Prop} (h : K .nx e o) : wpC cl .sk K e o := h
theorem C_rg {l : List Stp} {K : X → E → O → Prop} (h : wpR cl l (K .nx) e o) : wpC cl (.rg l) K e o := h
theorem C_sq {a b : C} {K : X → E → O → Prop} (h : wpC cl a (seqX (wpC cl b K) K) e o) : wpC cl (.sq a b) K e o := h
theorem C_bk {id : Nat} {a : C} {K : X → E → O → Prop} (h : wpC cl a (blkX id K) e o) : wpC cl (.bk id a) K e o := h
theorem C_ex {id : Nat} {K : X → E → O → Prop} (h : K (.ex id) e o) : wpC cl (.ex id) K e o := h
theorem C_rt {K : X → E → O → Prop} (h : K .rt e o) : wpC cl .rt K e o := h
theorem C_cd {c : Od} {q : Bool} {a b : C} {K : X → E → O → Prop} (hc : c.ev e = .bo q) (h1 : q = true → wpC cl a K e o) (h2 : q = false → wpC cl b K e o) : wpC cl (.cd c a b) K e o := by
  simp only [wpC, hc]
  cases q
  · exact h2 rfl
  · exact h1 rfl
theorem C_cdt {c : Od} {a b : C} {K : X → E → O → Prop} (hc : c.ev e = .bo true) (h1 : wpC cl a K e o) : wpC cl (.cd c a b) K e o := C_cd hc (fun _ => h1) (fun h => by cases h)
theorem C_cdf {c : Od} {a b : C} {K : X → E → O → Prop} (hc : c.ev e = .bo false) (h1 : wpC cl b K e o) : wpC cl (.cd c a b) K e o := C_cd hc (fun h => by cases h) (fun _ => h1)

theorem X_nx {f : E → O → Prop} {K : X → E → O → Prop} (h : f e o) : seqX f K .nx e o := h
theorem X_ex {f : E → O → Prop} {K : X → E → O → Prop} {id : Nat} (h : K (.ex id) e o) : seqX f K (.ex id) e o := h
theorem X_rt {f : E → O → Prop} {K : X → E → O → Prop} (h : K .rt e o) : seqX f K .rt e o := h
theorem B_nx {id : Nat} {K : X → E → O → Prop} (h : K .nx e o) : blkX id K .nx e o := h
theorem B_self {id : Nat} {K : X → E → O → Prop} (h : K .nx e o) : blkX id K (.ex id) e o := by simpa [blkX] using h
theorem B_ne {id j : Nat} {K : X → E → O → Prop} (hj : (j == id) = false) (h : K (.ex j) e o) : blkX id K (.ex j) e o := by
  have : j ≠ id := by simpa using hj
  simpa [blkX, this] using h
theorem B_rt {id : Nat} {K : X → E → O → Prop} (h : K .rt e o) : blkX id K .rt e o := h

theorem R_nil {K : E → O → Prop} (h : K e o) : wpR cl [] K e o := h

theorem R_W {d : Option Nat} {i : I} {l : List Stp} {K : E → O → Prop} (h : W cl e o (fun v o' => wpR cl l K (put e d v) o') i) : wpR cl (⟨d, none, i, []⟩ :: l) K e o := by
  show WS cl _ e o _
  simpa [WS, stb] using h

theorem R_q {d : Nat} {q : Q} {v : V} {l : List Stp} {K : E → O → Prop} (hv : qv e q = some v) (h : wpR cl l K (upd e d v) o) : wpR cl (⟨some d, none, .q q, []⟩ :: l) K e o := by
  refine R_W ?_
  simp only [W, rv, hv]; exact h
theorem R_ld {d : Nat} {sz : Nat} {ag : Bool} {x : Od} {v : V} {l : List Stp} {K : E → O → Prop} (hv : rv e o (.ld sz ag x) = some v) (h : wpR cl l K (upd e d v) o) : wpR cl (⟨some d, none, .ld sz ag x, []⟩ :: l) K e o := by
  refine R_W ?_
  simp only [W, hv]; exact h
theorem R_isn {d : Nat} {m n : Bool} {x : Od} {v : V} {l : List Stp} {K : E → O → Prop} (hv : rv e o (.isn m n x) = some v) (h : wpR cl l K (upd e d v) o) : wpR cl (⟨some d, none, .isn m n x, []⟩ :: l) K e o := by
  refine R_W ?_
  simp only [W, hv]; exact h
theorem R_box {d : Nat} {x : Od} {v : V} {cs : List V} {l : List Stp} {K : E → O → Prop} (hv : x.ev e = v) (hc : v.cells = cs) (hne : cs.isEmpty = false) (h : ∀ id, o id = none → wpR cl l K (upd e d (.pt id 0 0)) (upd o id (some (.row cs.length [cs])))) :
    wpR cl (⟨some d, none, .box x, []⟩ :: l) K e o := by
  refine R_W ?_
  subst hv; subst hc
  exact ⟨fun h0 => (by rw [h0] at hne; cases hne), h⟩
theorem R_alc {d : Nat} {z : List V} {l : List Stp} {K : E → O → Prop} (h : ∀ id, o id = none → wpR cl l K (upd e d (.pt id 0 0)) (upd o id (some (.row z.length [z])))) :
    wpR cl (⟨some d, none, .alc z, []⟩ :: l) K e o := R_W h
theorem R_mks {d sz byt : Nat} {z : List V} {x y : Od} {n c : Nat} {l : List Stp} {K : E → O → Prop} (hx : natV (x.ev e) = some n) (hy : natV (y.ev e) = some c) (hle : n ≤ c) (hs : sizeOk c byt)
    (h : ∀ id, o id = none → wpR cl l K (upd e d (.rw id sz 0 n)) (upd o id (some (.row sz (List.replicate n z))))) : wpR cl (⟨some d, none, .mks sz byt z x y, []⟩ :: l) K e o := by
  refine R_W ?_
  simp only [W, hx, hy]
  exact ⟨hle, hs, h⟩
theorem R_bsl {d sz n : Nat} {z : List V} {ps : List (Nat × Od)} {es : List (List V)} {l : List Stp} {K : E → O → Prop} (hn : (n == 0) = false) (hf : fillE e sz ps (List.replicate n z) = some es)
    (h : ∀ id, o id = none → wpR cl l K (upd e d (.rw id sz 0 n)) (upd o id (some (.row sz es)))) : wpR cl (⟨some d, none, .bsl sz n z ps, []⟩ :: l) K e o := by
  refine R_W ?_
  have : n ≠ 0 := by simpa using hn
  simp only [W, this, if_false, hf]
  exact h
theorem R_sto {sz : Nat} {x y : Od} {v : V} {id i j s : Nat} {es : List (List V)} {cs vs : List V} {l : List Stp} {K : E → O → Prop} (hx : x.ev e = .pt id i j) (ho : o id = some (.row s es)) (hi : es[i]? = some cs) (hv : y.ev e = v) (hc : v.cells = vs) (hl : vs.length = sz) (hj : j + sz ≤ cs.length)
    (h : wpR cl l K e (upd o id (some (.row s (es.set i (splice j vs cs)))))) : wpR cl (⟨none, none, .sto sz x y, []⟩ :: l) K e o := by
  refine R_W ?_
  subst hv; subst hc
  simp only [W, hx, ho, hi]
  exact ⟨hl, hj, h⟩
theorem R_pc {d : Nat} {g : Nat} {as : List Od} {vs ws : List V} {r : V} {l : List Stp} {K : E → O → Prop} (hvs : as.map (Od.ev e) = vs) (hf : fzs o vs = some ws) (hc : (clos vs || flat FZ r) = true) (hcall : cl g ws emp (fun v o' => fz o' v = some r))
    (h : wpR cl l K (upd e d r) o) : wpR cl (⟨some d, none, .pc g as, []⟩ :: l) K e o := by
  refine R_W ?_
  subst hvs
  exact ⟨r, ⟨ws, hf, hcall, hc⟩, h⟩
theorem R_pv {d : Nat} {x : Od} {g : Nat} {cs : List V} {as : List Od} {vs ws : List V} {r : V} {l : List Stp} {K : E → O → Prop} (hx : x.ev e = .fn g cs) (hvs : as.map (Od.ev e) ++ cs = vs) (hf : fzs o vs = some ws) (hc : (clos vs || flat FZ r) = true) (hcall : cl g ws emp (fun v o' => fz o' v = some r))
    (h : wpR cl l K (upd e d r) o) : wpR cl (⟨some d, none, .pv x as, []⟩ :: l) K e o := by
  refine R_W ?_
  subst hvs
  refine ⟨r, ?_, h⟩
  rw [hx]
  exact ⟨ws, hf, hcall, hc⟩
theorem R_nc {d : Nat} {g : Nat} {as : List Od} {vs : List V} {l : List Stp} {K : E → O → Prop} (hvs : as.map (Od.ev e) = vs) (h : cl g vs o (fun v o' => wpR cl l K (upd e d v) o')) : wpR cl (⟨some d, none, .nc g as, []⟩ :: l) K e o := by
  refine R_W ?_
  subst hvs
  exact h

theorem gs_tf : (true == false) = false := rfl
theorem gs_ft : (false == true) = false := rfl

theorem R_appn {d sz byt : Nat} {x y : Od} {yv : V} {ys : List (List V)} {l : List Stp} {K : E → O → Prop} (hx : x.ev e = .nil) (hy : y.ev e = yv) (hs : src o yv = some ys) (hsz : ∀ c ∈ ys, c.length = sz) (hne : ys ≠ []) (hso : sizeOk ys.length byt)
    (h : ∀ id, o id = none → wpR cl l K (upd e d (.rw id sz 0 ys.length)) (upd o id (some (.row sz ys)))) : wpR cl (⟨some d, none, .app sz byt x y, []⟩ :: l) K e o := by
  refine R_W ?_
  simp only [W, hx, hy, hs]
  exact ⟨hsz, hso, fun h0 => (hne h0).elim, fun _ => h⟩
theorem R_appr {d sz byt : Nat} {x y : Od} {yv : V} {ys : List (List V)} {id0 len s : Nat} {es : List (List V)} {l : List Stp} {K : E → O → Prop} (hx : x.ev e = .rw id0 sz 0 len) (ho : o id0 = some (.row s es)) (hle : len ≤ es.length) (hy : y.ev e = yv) (hs : src o yv = some ys) (hsz : ∀ c ∈ ys, c.length = sz) (hne : ys ≠ [])
    (hso : sizeOk (len + ys.length) byt) (h : ∀ id, upd o id0 none id = none → wpR cl l K (upd e d (.rw id sz 0 (len + ys.length))) (upd (upd o id0 none) id (some (.row sz (es.take len ++ ys))))) : wpR cl (⟨some d, none, .app sz byt x y, []⟩ :: l) K e o := by
  refine R_W ?_
  simp only [W, hx, hy, hs, ho]
  exact ⟨hsz, trivial, trivial, hle, hso, fun h0 => (hne h0).elim, fun _ => h⟩

theorem upd_self {α : Type} {g : Nat → α} {t : Nat} {x : α} (h : g t = x) : upd g t x = g := by
  funext k
  simp only [upd]
  split
  · rename_i hk; rw [hk, h]
  · rfl

theorem C_cdb {cl : CallT} {e : E} {o : O} {t : Nat} {q : Bool} {a b : C} {K : X → E → O → Prop} (hc : e t = .bo q) (h1 : q = true → wpC cl a K (upd e t (.bo true)) o) (h2 : q = false → wpC cl b K (upd e t (.bo false)) o) : wpC cl (.cd (.t t) a b) K e o := by
  refine C_cd (q := q) hc (fun hq => ?_) (fun hq => ?_)
  · have := h1 hq
    rw [upd_self (by rw [hc, hq])] at this
    exact this
  · have := h2 hq
    rw [upd_self (by rw [hc, hq])] at this
    exact this

/-- a guarded step, its guard told or not -/
theorem R_gt {d : Option Nat} {t : Nat} {p : Bool} {i : I} {l : List Stp} {K : E → O → Prop} (ht : e t = .bo p) (h : wpR cl (⟨d, none, i, []⟩ :: l) K e o) : wpR cl (⟨d, some (t, p), i, []⟩ :: l) K e o := by
  show WS cl _ e o _
  have h : WS cl _ e o _ := h
  simp only [WS, ht, gdV, if_true] at h ⊢
  exact h
theorem R_gs {d : Option Nat} {t : Nat} {p q : Bool} {i : I} {l : List Stp} {K : E → O → Prop} (ht : e t = .bo q) (hq : (q == p) = false) (h : wpR cl l K (put e d (.tp [])) o) : wpR cl (⟨d, some (t, p), i, []⟩ :: l) K e o := by
  show WS cl _ e o _
  have hq : q ≠ p := by simpa using hq
  simp only [WS, ht, gdV, if_neg hq]
  exact h
theorem R_gs1 {d : Option Nat} {t : Nat} {i : I} {l : List Stp} {K : E → O → Prop} (ht : e t = .bo true) (h : wpR cl l K (put e d (.tp [])) o) : wpR cl (⟨d, some (t, false), i, []⟩ :: l) K e o := R_gs ht rfl h
theorem R_gs2 {d : Option Nat} {t : Nat} {i : I} {l : List Stp} {K : E → O → Prop} (ht : e t = .bo false) (h : wpR cl l K (put e d (.tp [])) o) : wpR cl (⟨d, some (t, true), i, []⟩ :: l) K e o := R_gs ht rfl h
theorem R_gj {d : Option Nat} {t : Nat} {p : Bool} {vs : List V} {i : I} {l : List Stp} {K : E → O → Prop} (ht : e t = .tp vs) (h : wpR cl l K (put e d (.tp [])) o) : wpR cl (⟨d, some (t, p), i, []⟩ :: l) K e o := by
  show WS cl _ e o _
  simp only [WS, ht, gdV]
  rw [if_neg (by cases p <;> simp)]
  exact h
theorem R_gb {d : Option Nat} {t : Nat} {p q : Bool} {i : I} {l : List Stp} {K : E → O → Prop} (ht : e t = .bo q) (h1 : q = p → wpR cl (⟨d, some (t, p), i, []⟩ :: l) K (upd e t (.bo p)) o) (h2 : q = !p → wpR cl (⟨d, some (t, p), i, []⟩ :: l) K (upd e t (.bo !p)) o) :
    wpR cl (⟨d, some (t, p), i, []⟩ :: l) K e o := by
  by_cases hq : q = p
  · have := h1 hq
    rw [upd_self (by rw [ht, hq])] at this
    exact this
  · have hq : q = !p := by cases q <;> cases p <;> simp_all
    have := h2 hq
    rw [upd_self (by rw [ht, hq])] at this
    exact this

theorem E_1 {s : Rs} {v : V} {K : V → O → Prop} (hv : resV e o s = some v) (h : K v o) : endX [s] K .rt e o := ⟨[v], by simp [hv], h⟩
theorem E_1n {s : Rs} {v : V} {K : V → O → Prop} (hv : resV e o s = some v) (h : K v o) : endX [s] K .nx e o := ⟨[v], by simp [hv], h⟩
theorem E_2 {s t : Rs} {v u : V} {K : V → O → Prop} (hv : resV e o s = some v) (hu : resV e o t = some u) (h : K (.tp [v, u]) o) : endX [s, t] K .rt e o := ⟨[v, u], by simp [hv, hu], h⟩
theorem E_2n {s t : Rs} {v u : V} {K : V → O → Prop} (hv : resV e o s = some v) (hu : resV e o t = some u) (h : K (.tp [v, u]) o) : endX [s, t] K .nx e o := ⟨[v, u], by simp [hv, hu], h⟩
theorem E_0 {K : V → O → Prop} (h : K (.tp []) o) : endX [] K .rt e o := ⟨[], by simp, h⟩
theorem E_0n {K : V → O → Prop} (h : K (.tp []) o) : endX [] K .nx e o := ⟨[], by simp, h⟩

end

/-- a loop, by what holds with so much left -/
theorem C_lp {cl : CallT} {e : E} {o : O} {a : C} {K : X → E → O → Prop} (J : Nat → E → O → Prop) {k : Nat} (h0 : J k e o) (hcl : Le cl cl)
    (h : ∀ k e o, J k e o → wpC cl a (seqX (fun e' o' => ∃ k', k' < k ∧ J k' e' o') K) e o) : wpC cl (.lp a) K e o := by
  intro J' hJ'
  have key : ∀ k e o, J k e o → J' e o := by
    intro k
    induction k using Nat.strongRecOn with
    | _ k ih =>
      intro e o hJ
      refine hJ' e o (wpC_le hcl (fun x e o hx => ?_) (h k e o hJ))
      cases x with
      | nx => obtain ⟨k', h1, h2⟩ := hx; exact ih k' h1 e o h2
      | ex id => exact hx
      | rt => exact hx
  exact key k e o h0

theorem upd_eq {α : Type} (g : Nat → α) (j : Nat) (y : α) : upd g j y j = y := by simp [upd]
theorem upd_ne {α : Type} (g : Nat → α) (j : Nat) (y : α) (k : Nat) (h : (k == j) = false) : upd g j y k = g k := by
  have : k ≠ j := by simpa using h
  simp [upd, this]
theorem ev_t (e : E) (n : Nat) : Od.ev e (.t n) = e n := rfl
theorem ev_k (e : E) (v : V) : Od.ev e (.k v) = v := rfl
theorem put_some (e : E) (d : Nat) (v : V) : put e (some d) v = upd e d v := rfl
theorem put_none (e : E) (v : V) : put e none v = e := rfl
theorem ini_0 (v : V) (l : List V) : ini (v :: l) 0 = v := rfl
theorem ini_s (v : V) (l : List V) (n : Nat) : ini (v :: l) (n + 1) = ini l n := rfl
theorem ini_1 (a b : V) (l : List V) : ini (a :: b :: l) 1 = b := rfl
theorem ini_2 (a b c : V) (l : List V) : ini (a :: b :: c :: l) 2 = c := rfl
theorem ini_3 (a b c d : V) (l : List V) : ini (a :: b :: c :: d :: l) 3 = d := rfl

def andI (k : IntKind) (a b : Int) : Int := k.wrap (BitVec.ofInt k.bits a &&& BitVec.ofInt k.bits b).toNat
def orI (k : IntKind) (a b : Int) : Int := k.wrap (BitVec.ofInt k.bits a ||| BitVec.ofInt k.bits b).toNat
theorem ar_and (k : IntKind) (a b : Int) : arith .and k a b = some (.i k (andI k a b)) := rfl
theorem ar_or (k : IntKind) (a b : Int) : arith .or k a b = some (.i k (orI k a b)) := rfl
theorem ar_add (k : IntKind) (a b : Int) : arith .add k a b = some (.i k (k.wrap (a + b))) := rfl
theorem ar_sub (k : IntKind) (a b : Int) : arith .sub k a b = some (.i k (k.wrap (a - b))) := rfl
theorem ar_mul (k : IntKind) (a b : Int) : arith .mul k a b = some (.i k (k.wrap (a * b))) := rfl
theorem ar_rem (k : IntKind) (a b : Int) : arith .rem k a b = if b = 0 then none else some (.i k (a.tmod b)) := rfl
theorem ar_quo (k : IntKind) (a b : Int) : arith .quo k a b = if b = 0 then none else some (.i k (k.wrap (a.tdiv b))) := rfl
theorem ar_eql (k : IntKind) (a b : Int) : arith .eql k a b = some (.bo (a == b)) := rfl
theorem ar_neq (k : IntKind) (a b : Int) : arith .neq k a b = some (.bo (a != b)) := rfl
theorem ar_lss (k : IntKind) (a b : Int) : arith .lss k a b = some (.bo (decide (a < b))) := rfl
theorem ar_leq (k : IntKind) (a b : Int) : arith .leq k a b = some (.bo (decide (a ≤ b))) := rfl
theorem ar_gtr (k : IntKind) (a b : Int) : arith .gtr k a b = some (.bo (decide (a > b))) := rfl
theorem ar_geq (k : IntKind) (a b : Int) : arith .geq k a b = some (.bo (decide (a ≥ b))) := rfl

/-- reads as itself -/
def okd : Nat → V → Bool
  | 0, _ => false
  | n + 1, .ag cs => cs.all (okd n)
  | n + 1, .tp cs => cs.all (okd n)
  | n + 1, .fn _ cs => cs.all (okd n)
  | _ + 1, .nil => false
  | _ + 1, .rw .. => false
  | _ + 1, .ra .. => false
  | _ + 1, .pt .. => false
  | _ + 1, .mp _ => false
  | _ + 1, .it _ => false
  | _ + 1, _ => true

theorem mapM_self {f : V → Option V} : ∀ {cs : List V}, (∀ v ∈ cs, f v = some v) → cs.mapM f = some cs := by
  intro cs
  induction cs with
  | nil => intro _; rfl
  | cons v cs ih =>
    intro h
    simp [h v (by simp), ih (fun u hu => h u (by simp [hu]))]

theorem frz_okd {o : O} : ∀ (n : Nat) (v : V), okd n v = true → frz n o v = some v := by
  intro n
  induction n with
  | zero => intro v h; cases h
  | succ n ih =>
    intro v h
    cases v <;> (first | (cases h; done) | rfl | skip)
    all_goals
      simp only [okd, List.all_eq_true] at h
      simp only [frz]
      rw [mapM_self fun v hv => ih v (h v hv)]
      rfl

theorem fz_ok {o : O} {v : V} (h : okd FZ v = true) : fz o v = some v := frz_okd _ _ h
theorem fzs_ok {o : O} {vs : List V} (h : vs.all (okd FZ) = true) : fzs o vs = some vs := mapM_self fun v hv => fz_ok (List.all_eq_true.1 h v hv)

theorem R_pcf {cl : CallT} {e : E} {o : O} {d : Nat} {g : Nat} {as : List Od} {vs ws : List V} {r : V} {l : List Stp} {K : E → O → Prop} (hvs : as.map (Od.ev e) = vs) (hf : fzs o vs = some ws) (hc : flat FZ r = true) (hcall : cl g ws emp (fun v o' => fz o' v = some r))
    (h : wpR cl l K (upd e d r) o) : wpR cl (⟨some d, none, .pc g as, []⟩ :: l) K e o := R_pc hvs hf (by rw [hc, Bool.or_true]) hcall h
theorem R_pcc {cl : CallT} {e : E} {o : O} {d : Nat} {g : Nat} {as : List Od} {vs : List V} {r : V} {l : List Stp} {K : E → O → Prop} (hvs : as.map (Od.ev e) = vs) (hf : vs.all (okd FZ) = true) (hc : clos vs = true) (hcall : cl g vs emp (fun v o' => fz o' v = some r))
    (h : wpR cl l K (upd e d r) o) : wpR cl (⟨some d, none, .pc g as, []⟩ :: l) K e o := R_pc hvs (fzs_ok hf) (by rw [hc, Bool.true_or]) hcall h

theorem Call_fn {F : Nat → Option Fn} {g : Nat} {fn : Fn} (hf : F g = some fn) {as : List V} {o : O} {K : V → O → Prop} (hl : as.length = fn.np) (h : wpC (Call F) fn.body (endX fn.res K) (ini as) o) : Call F g as o K := by
  refine Call_mk ?_
  unfold wpF
  rw [hf]
  exact ⟨hl, h⟩

attribute [go_sem] ev_t ev_k upd_eq upd_ne put_some put_none ini_0 ini_1 ini_2 ini_3 ini_s qv rv resV binV isShift shiftV ar_and ar_or ar_add ar_sub ar_mul ar_rem ar_quo ar_eql ar_neq ar_lss ar_leq ar_gtr ar_geq
  eqbV unV fldV extV slenV lenV natV natO slcV adrV ixpV ixqV ixaV mxV nckV isnV cellsAt prt fillC fillE splice V.cells V.isAg List.getElem?_cons_zero List.getElem?_cons_succ List.length_cons List.length_nil List.map_cons List.map_nil
  List.set_cons_zero List.set_cons_succ Option.map_some if_true if_false Bool.false_eq_true Bool.not_true Bool.not_false bne_self_eq_false Bool.true_bne Bool.false_bne and_self and_true true_and IntKind.bits Nat.min_eq_left
  Nat.zero_add Nat.mul_one Nat.add_zero decide_true decide_false Bool.not_eq_true

attribute [go_sem] reduceCtorEq Nat.reduceBEq Int.reduceLT Int.reduceLE Int.reduceGT Int.reduceGE Int.reduceBEq Int.reduceBNe Int.reduceToNat Int.reduceNeg Int.reducePow Int.reduceAdd Int.reduceSub Int.reduceMul Nat.reduceAdd Nat.reduceMul Nat.reduceLT Nat.reduceLeDiff Nat.reducePow Nat.reduceEqDiff

end Go.Proofs.Ytiadalheipbpcaa
