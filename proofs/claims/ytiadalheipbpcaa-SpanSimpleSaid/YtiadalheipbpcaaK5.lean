import Derived.Test.YtiadalheipbpcaaK4

/-
  core.simple, by the named machine.
-/
namespace Go.Proofs.Ytiadalheipbpcaa
set_option linter.all false

def oneV (k : Int) (ps : List Nd) (v : V) : V :=
  match ps with
  | [] => .ag (nd8 0 zSet .nil 0 0)
  | [p] => .ag (cel p)
  | _ => .ag (nd8 k zSet v 0 0)

theorem fresh_ne0 {o : O} {a b : Nat} {x : Ob} (ha : o a = some x) (hb : o b = none) : (a == b) = false := by
  rw [beq_eq_false_iff_ne]; intro h; rw [h, hb] at ha; cases ha

theorem one_rd (k : Int) (ps : List Nd) (hl : ps.length < 9223372036854775808) : RdC (Call F) 26 (fun v => [V.i .i64 k] ++ v :: []) 8 (ps.map cel) (oneV k ps) := by
  intro v o K hv hK
  have hlen : slenV v = some (.i .i64 ps.length) := by
    rcases hv with ⟨h, rfl⟩ | ⟨_, id, rfl, _⟩
    · have : ps = [] := by simpa using h
      rw [this]; rfl
    · simp [slenV]
  show Call F 26 [.i .i64 k, v] o K
  refine Call_fn e26 rfl ?_
  dsimp only [fn26, c26]
  refine C_sq ?_
  refine C_rg ?_
  refine R_alc fun ia hia => ?_
  have hold : ∀ (ob : Ob) i x, o i = some x → upd (upd o ia (some (.row 8 [[.i .i64 0, .i .u64 0, .i .u64 0, .i .u64 0, .i .u64 0, .nil, .i .i64 0, .i .i64 0]]))) ia (some ob) i = some x := fun ob i x hi => by
    have : i ≠ ia := fun hh => by rw [hh, hia] at hi; cases hi
    simp only [upd, if_neg this]; exact hi
  (repeat (with_reducible (first | refine R_nil ?_ | refine C_sq ?_ | refine C_rg ?_ | refine C_bk ?_ | refine C_sk ?_ | refine C_ex ?_ | refine C_rt ?_ | refine X_nx ?_ | refine X_ex ?_ | refine X_rt ?_ | refine B_nx ?_ | refine B_self ?_ | (refine B_ne (by rfl) ?_) | refine B_rt ?_ | ((first | refine R_q (v := ?_) ?h1 ?_ | refine R_ld (v := ?_) ?h1 ?_ | refine R_isn (v := ?_) ?h1 ?_ | refine E_1 (v := ?_) ?h1 ?_ | refine E_1n (v := ?_) ?h1 ?_); case h1 => (simp only [go_sem] <;> rfl)) | ((first | refine R_gt ?h1 ?_); case h1 => (simp only [go_sem] <;> rfl)) | ((first | refine R_gs1 ?h1 ?_); case h1 => (simp only [go_sem] <;> rfl)) | ((first | refine R_gs2 ?h1 ?_); case h1 => (simp only [go_sem] <;> rfl)) | ((first | refine R_gj (vs := ?_) ?h1 ?_); case h1 => (simp only [go_sem] <;> rfl)) | ((first | refine C_cdt ?h1 ?_); case h1 => (simp only [go_sem] <;> rfl)) | ((first | refine C_cdf ?h1 ?_); case h1 => (simp only [go_sem] <;> rfl)) | ((first | refine E_2 (v := ?_) (u := ?_) ?h1 ?h2 ?_ | refine E_2n (v := ?_) (u := ?_) ?h1 ?h2 ?_); (case h1 => (simp only [go_sem] <;> rfl)); (case h2 => (simp only [go_sem] <;> rfl))) | refine E_0 ?_ | refine E_0n ?_ | rw [put_some])))
  refine R_q (v := .i .i64 ps.length) (by simp only [qv, ev_t, upd_eq]; exact hlen) ?_
  have hz8 : ∀ cs : List V, cs.length = 8 → splice 0 cs [V.i .i64 0, .i .u64 0, .i .u64 0, .i .u64 0, .i .u64 0, .nil, .i .i64 0, .i .i64 0] = cs := fun cs h => splice_all (by rw [h]; rfl)
  match ps, hv, hK, hlen with
  | [], hv, hK, _ =>
    (repeat (with_reducible (first | refine R_nil ?_ | refine C_sq ?_ | refine C_rg ?_ | refine C_bk ?_ | refine C_sk ?_ | refine C_ex ?_ | refine C_rt ?_ | refine X_nx ?_ | refine X_ex ?_ | refine X_rt ?_ | refine B_nx ?_ | refine B_self ?_ | (refine B_ne (by rfl) ?_) | refine B_rt ?_ | ((first | refine R_q (v := ?_) ?h1 ?_ | refine R_ld (v := ?_) ?h1 ?_ | refine R_isn (v := ?_) ?h1 ?_ | refine E_1 (v := ?_) ?h1 ?_ | refine E_1n (v := ?_) ?h1 ?_); case h1 => (simp only [List.length_nil, go_sem] <;> rfl)) | ((first | refine R_gt ?h1 ?_); case h1 => (simp only [List.length_nil, go_sem] <;> rfl)) | ((first | refine R_gs1 ?h1 ?_); case h1 => (simp only [List.length_nil, go_sem] <;> rfl)) | ((first | refine R_gs2 ?h1 ?_); case h1 => (simp only [List.length_nil, go_sem] <;> rfl)) | ((first | refine R_gj (vs := ?_) ?h1 ?_); case h1 => (simp only [List.length_nil, go_sem] <;> rfl)) | ((first | refine C_cdt ?h1 ?_); case h1 => (simp only [List.length_nil, go_sem] <;> rfl)) | ((first | refine C_cdf ?h1 ?_); case h1 => (simp only [List.length_nil, go_sem] <;> rfl)) | ((first | refine E_2 (v := ?_) (u := ?_) ?h1 ?h2 ?_ | refine E_2n (v := ?_) (u := ?_) ?h1 ?h2 ?_); (case h1 => (simp only [List.length_nil, go_sem] <;> rfl)); (case h2 => (simp only [List.length_nil, go_sem] <;> rfl))) | refine E_0 ?_ | refine E_0n ?_ | rw [put_some])))
    refine R_sto (id := ia) (i := 0) (j := 0) (vs := nd8 0 zSet .nil 0 0) (by simp only [go_sem]) (upd_eq _ _ _) rfl (by (simp only [go_sem] <;> rfl)) rfl rfl (by simp) ?_
    (repeat (with_reducible (first | refine R_nil ?_ | refine C_sq ?_ | refine C_rg ?_ | refine C_bk ?_ | refine C_sk ?_ | refine C_ex ?_ | refine C_rt ?_ | refine X_nx ?_ | refine X_ex ?_ | refine X_rt ?_ | refine B_nx ?_ | refine B_self ?_ | (refine B_ne (by rfl) ?_) | refine B_rt ?_ | ((first | refine R_q (v := ?_) ?h1 ?_ | refine R_ld (v := ?_) ?h1 ?_ | refine R_isn (v := ?_) ?h1 ?_ | refine E_1 (v := ?_) ?h1 ?_ | refine E_1n (v := ?_) ?h1 ?_); case h1 => (simp only [go_sem] <;> rfl)) | ((first | refine R_gt ?h1 ?_); case h1 => (simp only [go_sem] <;> rfl)) | ((first | refine R_gs1 ?h1 ?_); case h1 => (simp only [go_sem] <;> rfl)) | ((first | refine R_gs2 ?h1 ?_); case h1 => (simp only [go_sem] <;> rfl)) | ((first | refine R_gj (vs := ?_) ?h1 ?_); case h1 => (simp only [go_sem] <;> rfl)) | ((first | refine C_cdt ?h1 ?_); case h1 => (simp only [go_sem] <;> rfl)) | ((first | refine C_cdf ?h1 ?_); case h1 => (simp only [go_sem] <;> rfl)) | ((first | refine E_2 (v := ?_) (u := ?_) ?h1 ?h2 ?_ | refine E_2n (v := ?_) (u := ?_) ?h1 ?h2 ?_); (case h1 => (simp only [go_sem] <;> rfl)); (case h2 => (simp only [go_sem] <;> rfl))) | refine E_0 ?_ | refine E_0n ?_ | rw [put_some])))
    refine E_1 (v := oneV k [] v) (by (simp only [nd8, List.drop_zero, List.take_succ_cons, List.take_zero, go_sem] <;> rfl)) ?_
    exact hK _ (hold _)
  | [p], hv, hK, _ =>
    rcases hv with ⟨h, _⟩ | ⟨_, id, rfl, ho⟩
    · cases h
    have hne : (id == ia) = false := fresh_ne0 ho hia
    (repeat (with_reducible (first | refine R_nil ?_ | refine C_sq ?_ | refine C_rg ?_ | refine C_bk ?_ | refine C_sk ?_ | refine C_ex ?_ | refine C_rt ?_ | refine X_nx ?_ | refine X_ex ?_ | refine X_rt ?_ | refine B_nx ?_ | refine B_self ?_ | (refine B_ne (by rfl) ?_) | refine B_rt ?_ | ((first | refine R_q (v := ?_) ?h1 ?_ | refine R_ld (v := ?_) ?h1 ?_ | refine R_isn (v := ?_) ?h1 ?_ | refine E_1 (v := ?_) ?h1 ?_ | refine E_1n (v := ?_) ?h1 ?_); case h1 => (simp only [List.length_cons, List.length_nil, List.map_cons, List.map_nil, hne, ho, go_sem] <;> rfl)) | ((first | refine R_gt ?h1 ?_); case h1 => (simp only [List.length_cons, List.length_nil, List.map_cons, List.map_nil, hne, ho, go_sem] <;> rfl)) | ((first | refine R_gs1 ?h1 ?_); case h1 => (simp only [List.length_cons, List.length_nil, List.map_cons, List.map_nil, hne, ho, go_sem] <;> rfl)) | ((first | refine R_gs2 ?h1 ?_); case h1 => (simp only [List.length_cons, List.length_nil, List.map_cons, List.map_nil, hne, ho, go_sem] <;> rfl)) | ((first | refine R_gj (vs := ?_) ?h1 ?_); case h1 => (simp only [List.length_cons, List.length_nil, List.map_cons, List.map_nil, hne, ho, go_sem] <;> rfl)) | ((first | refine C_cdt ?h1 ?_); case h1 => (simp only [List.length_cons, List.length_nil, List.map_cons, List.map_nil, hne, ho, go_sem] <;> rfl)) | ((first | refine C_cdf ?h1 ?_); case h1 => (simp only [List.length_cons, List.length_nil, List.map_cons, List.map_nil, hne, ho, go_sem] <;> rfl)) | ((first | refine E_2 (v := ?_) (u := ?_) ?h1 ?h2 ?_ | refine E_2n (v := ?_) (u := ?_) ?h1 ?h2 ?_); (case h1 => (simp only [List.length_cons, List.length_nil, List.map_cons, List.map_nil, hne, ho, go_sem] <;> rfl)); (case h2 => (simp only [List.length_cons, List.length_nil, List.map_cons, List.map_nil, hne, ho, go_sem] <;> rfl))) | refine E_0 ?_ | refine E_0n ?_ | rw [put_some])))
    refine R_sto (id := ia) (i := 0) (j := 0) (vs := cel p) (by simp only [go_sem]) (upd_eq _ _ _) rfl (by (simp only [go_sem] <;> rfl)) rfl (cel_len _) (by simp) ?_
    rw [hz8 _ (cel_len p)]
    (repeat (with_reducible (first | refine R_nil ?_ | refine C_sq ?_ | refine C_rg ?_ | refine C_bk ?_ | refine C_sk ?_ | refine C_ex ?_ | refine C_rt ?_ | refine X_nx ?_ | refine X_ex ?_ | refine X_rt ?_ | refine B_nx ?_ | refine B_self ?_ | (refine B_ne (by rfl) ?_) | refine B_rt ?_ | ((first | refine R_q (v := ?_) ?h1 ?_ | refine R_ld (v := ?_) ?h1 ?_ | refine R_isn (v := ?_) ?h1 ?_ | refine E_1 (v := ?_) ?h1 ?_ | refine E_1n (v := ?_) ?h1 ?_); case h1 => (simp only [go_sem] <;> rfl)) | ((first | refine R_gt ?h1 ?_); case h1 => (simp only [go_sem] <;> rfl)) | ((first | refine R_gs1 ?h1 ?_); case h1 => (simp only [go_sem] <;> rfl)) | ((first | refine R_gs2 ?h1 ?_); case h1 => (simp only [go_sem] <;> rfl)) | ((first | refine R_gj (vs := ?_) ?h1 ?_); case h1 => (simp only [go_sem] <;> rfl)) | ((first | refine C_cdt ?h1 ?_); case h1 => (simp only [go_sem] <;> rfl)) | ((first | refine C_cdf ?h1 ?_); case h1 => (simp only [go_sem] <;> rfl)) | ((first | refine E_2 (v := ?_) (u := ?_) ?h1 ?h2 ?_ | refine E_2n (v := ?_) (u := ?_) ?h1 ?h2 ?_); (case h1 => (simp only [go_sem] <;> rfl)); (case h2 => (simp only [go_sem] <;> rfl))) | refine E_0 ?_ | refine E_0n ?_ | rw [put_some])))
    exact hK _ (hold _)
  | p :: q :: ps, hv, hK, _ =>
    rcases hv with ⟨h, _⟩ | ⟨_, id, rfl, ho⟩
    · cases h
    have n0 : (((ps.length + 1 + 1 : Nat) : Int) == 0) = false := by rw [beq_eq_false_iff_ne]; omega
    have n1 : (((ps.length + 1 + 1 : Nat) : Int) == 1) = false := by rw [beq_eq_false_iff_ne]; omega
    (repeat (with_reducible (first | refine R_nil ?_ | refine C_sq ?_ | refine C_rg ?_ | refine C_bk ?_ | refine C_sk ?_ | refine C_ex ?_ | refine C_rt ?_ | refine X_nx ?_ | refine X_ex ?_ | refine X_rt ?_ | refine B_nx ?_ | refine B_self ?_ | (refine B_ne (by rfl) ?_) | refine B_rt ?_ | ((first | refine R_q (v := ?_) ?h1 ?_ | refine R_ld (v := ?_) ?h1 ?_ | refine R_isn (v := ?_) ?h1 ?_ | refine E_1 (v := ?_) ?h1 ?_ | refine E_1n (v := ?_) ?h1 ?_); case h1 => (simp only [n0, n1, List.length_cons, go_sem] <;> rfl)) | ((first | refine R_gt ?h1 ?_); case h1 => (simp only [n0, n1, List.length_cons, go_sem] <;> rfl)) | ((first | refine R_gs1 ?h1 ?_); case h1 => (simp only [n0, n1, List.length_cons, go_sem] <;> rfl)) | ((first | refine R_gs2 ?h1 ?_); case h1 => (simp only [n0, n1, List.length_cons, go_sem] <;> rfl)) | ((first | refine R_gj (vs := ?_) ?h1 ?_); case h1 => (simp only [n0, n1, List.length_cons, go_sem] <;> rfl)) | ((first | refine C_cdt ?h1 ?_); case h1 => (simp only [n0, n1, List.length_cons, go_sem] <;> rfl)) | ((first | refine C_cdf ?h1 ?_); case h1 => (simp only [n0, n1, List.length_cons, go_sem] <;> rfl)) | ((first | refine E_2 (v := ?_) (u := ?_) ?h1 ?h2 ?_ | refine E_2n (v := ?_) (u := ?_) ?h1 ?h2 ?_); (case h1 => (simp only [n0, n1, List.length_cons, go_sem] <;> rfl)); (case h2 => (simp only [n0, n1, List.length_cons, go_sem] <;> rfl))) | refine E_0 ?_ | refine E_0n ?_ | rw [put_some])))
    refine R_sto (id := ia) (i := 0) (j := 0) (vs := nd8 k zSet (.rw id 8 0 ((p :: q :: ps).map cel).length) 0 0) (by simp only [go_sem]) (upd_eq _ _ _) rfl (by (simp only [go_sem] <;> rfl)) rfl rfl (by simp) ?_
    (repeat (with_reducible (first | refine R_nil ?_ | refine C_sq ?_ | refine C_rg ?_ | refine C_bk ?_ | refine C_sk ?_ | refine C_ex ?_ | refine C_rt ?_ | refine X_nx ?_ | refine X_ex ?_ | refine X_rt ?_ | refine B_nx ?_ | refine B_self ?_ | (refine B_ne (by rfl) ?_) | refine B_rt ?_ | ((first | refine R_q (v := ?_) ?h1 ?_ | refine R_ld (v := ?_) ?h1 ?_ | refine R_isn (v := ?_) ?h1 ?_ | refine E_1 (v := ?_) ?h1 ?_ | refine E_1n (v := ?_) ?h1 ?_); case h1 => (simp only [go_sem] <;> rfl)) | ((first | refine R_gt ?h1 ?_); case h1 => (simp only [go_sem] <;> rfl)) | ((first | refine R_gs1 ?h1 ?_); case h1 => (simp only [go_sem] <;> rfl)) | ((first | refine R_gs2 ?h1 ?_); case h1 => (simp only [go_sem] <;> rfl)) | ((first | refine R_gj (vs := ?_) ?h1 ?_); case h1 => (simp only [go_sem] <;> rfl)) | ((first | refine C_cdt ?h1 ?_); case h1 => (simp only [go_sem] <;> rfl)) | ((first | refine C_cdf ?h1 ?_); case h1 => (simp only [go_sem] <;> rfl)) | ((first | refine E_2 (v := ?_) (u := ?_) ?h1 ?h2 ?_ | refine E_2n (v := ?_) (u := ?_) ?h1 ?h2 ?_); (case h1 => (simp only [go_sem] <;> rfl)); (case h2 => (simp only [go_sem] <;> rfl))) | refine E_0 ?_ | refine E_0n ?_ | rw [put_some])))
    refine E_1 (v := oneV k (p :: q :: ps) (.rw id 8 0 ((p :: q :: ps).map cel).length)) (by (simp only [nd8, List.drop_zero, List.take_succ_cons, List.take_zero, go_sem] <;> rfl)) ?_
    exact hK _ (hold _)

mutual
def simpleN : Nd → Nd
  | .mk k s ps lo hi =>
    if voidB (.mk k s ps lo hi) = true then .mk 1 zSet [] 0 0
    else if k = 2 ∨ k = 3 then oneN k (putL k [] (simpleL ps))
    else if k = 4 then timesN (simpleH ps) lo hi
    else .mk k s ps lo hi
def simpleL : List Nd → List Nd
  | [] => []
  | p :: ps => simpleN p :: simpleL ps
def simpleH : List Nd → Nd
  | [] => noN
  | p :: _ => simpleN p
end

theorem cntL_app (l m : List Nd) : cntL (l ++ m) = cntL l + cntL m := by induction l with
  | nil => simp [cntL]
  | cons p l ih => simp [cntL, ih]; omega
theorem len_cnt (l : List Nd) : l.length ≤ cntL l := by induction l with
  | nil => simp
  | cons p l ih => have : 1 ≤ cntN p := by cases p; rw [cntN]; omega
                   rw [List.length_cons, cntL]; omega
mutual
theorem put1_cnt (k : Int) : ∀ (l : List Nd) (p : Nd), cntL (put1 k l p) ≤ cntL l + cntN p
  | l, .mk k2 s ps lo hi => by
    rw [put1, cntN]
    split
    · have := putL_cnt k l ps; omega
    · split
      · omega
      · split
        · omega
        · rw [cntL_app, cntL, cntL, cntN]; omega
theorem putL_cnt (k : Int) : ∀ (l ps : List Nd), cntL (putL k l ps) ≤ cntL l + cntL ps
  | l, [] => by rw [putL, cntL]; omega
  | l, p :: ps => by
    rw [putL, cntL]
    have h1 := put1_cnt k l p
    have h2 := putL_cnt k (put1 k l p) ps
    omega
end

theorem okN_mk {k lo hi : Int} {ps : List Nd} (hs : shapedB k zSet ps.length lo hi = true) (hl : ps.length < 9223372036854775808) (h : ∀ p ∈ ps, okN p) : okN (.mk k zSet ps lo hi) :=
  ⟨⟨fun j _ => by simp [zSet], hl, (smallL_all ps).2 fun p hp => (h p hp).1⟩, by rw [formed, hs, formedL_all]; simpa using fun p hp => (h p hp).2⟩

theorem oneN_ok {k : Int} (hk : k = 2 ∨ k = 3) (l : List Nd) (h : ∀ p ∈ l, okN p) (hl : l.length < 9223372036854775808) : okN (oneN k l) ∧ cntN (oneN k l) ≤ 1 + cntL l := by
  match l with
  | [] => exact ⟨okN_mk (by simp [shapedB, emptyS, zSet]) (by simp) (by simp), by simp [oneN, noN, cntN, cntL]⟩
  | [p] => exact ⟨h p (by simp), by simp [oneN, cntL]⟩
  | p :: q :: l =>
    refine ⟨okN_mk ?_ hl h, by simp [oneN, cntN]⟩
    rcases hk with rfl | rfl <;> simp [shapedB, emptyS, zSet]

theorem timesN_ok {p : Nd} (hp : okN p) {lo hi : Int} (h0 : 0 ≤ lo) (h1 : lo ≤ 2147483647) (h2 : hi = -1 ∨ lo ≤ hi ∧ hi ≤ 2147483647) : okN (timesN p lo hi) ∧ cntN (timesN p lo hi) ≤ 1 + cntN p := by
  have hno : okN noN ∧ cntN noN ≤ 1 + cntN p := ⟨okN_mk (by simp [shapedB, emptyS, zSet]) (by simp) (by simp), by simp [noN, cntN, cntL]⟩
  have hmk : ∀ b : Bool, okN (.mk 4 zSet [p] (bif b then 0 else lo) hi) ∧ cntN (.mk 4 zSet [p] (bif b then 0 else lo) hi) ≤ 1 + cntN p := fun b =>
    ⟨okN_mk (by cases b <;> simp [shapedB, emptyS, zSet] <;> omega) (by simp) (by simpa using hp), by simp [cntN, cntL]⟩
  unfold timesN
  cases (hi == 0) <;> cases (p.kind == 0) <;> cases (voidB p) <;> cases (lo == 1) <;> cases (hi == 1) <;> first | exact hno | exact hmk _ | exact ⟨hp, by simp⟩

theorem simpleN_eq (k : Int) (s : Nat → Nat) (ps : List Nd) (lo hi : Int) : simpleN (.mk k s ps lo hi) = if voidB (.mk k s ps lo hi) = true then .mk 1 zSet [] 0 0
    else if k = 2 ∨ k = 3 then oneN k (putL k [] (simpleL ps))
    else if k = 4 then timesN (simpleH ps) lo hi
    else .mk k s ps lo hi := by rw [simpleN]
theorem simpleL_map (ps : List Nd) : simpleL ps = ps.map simpleN := by induction ps with
  | nil => rfl
  | cons p ps ih => simp [simpleL, ih]

mutual
theorem simpleN_ok : ∀ (n : Nd), okN n → cntN n ≤ 1000 → okN (simpleN n) ∧ cntN (simpleN n) ≤ cntN n
  | .mk k s ps lo hi, h, hc => by
    rw [cntN] at hc
    have hps := (okN_parts h).1
    have hpl := (okN_parts h).2
    have hf := h.2
    rw [formed, Bool.and_eq_true] at hf
    have h1 := simpleL_ok ps hps (by omega)
    rw [simpleN_eq, cntN]
    split
    · exact ⟨okN_mk (by simp [shapedB]) (by simp) (by simp), by simp [cntN, cntL]⟩
    · split
      · rename_i hk
        have h2 := putL_ok k [] (simpleL ps) h1.1 (by simp)
        have h3 := putL_cnt k [] (simpleL ps)
        have hlen : (simpleL ps).length = ps.length := by rw [simpleL_map]; simp
        have h4 := oneN_ok hk (putL k [] (simpleL ps)) h2.1 (by have := h2.2; rw [List.length_nil] at this; omega)
        refine ⟨h4.1, ?_⟩
        rw [cntL] at h3
        omega
      · split
        · rename_i h4
          subst h4
          obtain ⟨g1, g2, g3, g4⟩ := shape4 hf.1
          obtain ⟨p, rfl⟩ := List.length_eq_one_iff.1 g1
          have hc' : 1 + (cntN p + 0) ≤ 1000 := by simpa [cntL] using hc
          have h5 := simpleN_ok p (hps p (by simp [Nd.parts])) (by omega)
          have h6 := timesN_ok h5.1 g2 g3 g4
          refine ⟨h6.1, ?_⟩
          have h7 := h6.2
          simp only [simpleH, cntL]
          omega
        · exact ⟨h, by simp [cntN]⟩
theorem simpleL_ok : ∀ (ps : List Nd), (∀ p ∈ ps, okN p) → cntL ps ≤ 1000 → (∀ p ∈ simpleL ps, okN p) ∧ cntL (simpleL ps) ≤ cntL ps
  | [], _, _ => ⟨by simp [simpleL], by simp [simpleL]⟩
  | p :: ps, h, hc => by
    rw [cntL] at hc
    have h1 := simpleN_ok p (h p (by simp)) (by omega)
    have h2 := simpleL_ok ps (fun q hq => h q (by simp [hq])) (by omega)
    refine ⟨fun q hq => ?_, by simp only [simpleL, cntL]; omega⟩
    rw [simpleL] at hq
    rcases List.mem_cons.1 hq with rfl | hq
    · exact h1.1
    · exact h2.1 q hq
end

end Go.Proofs.Ytiadalheipbpcaa
