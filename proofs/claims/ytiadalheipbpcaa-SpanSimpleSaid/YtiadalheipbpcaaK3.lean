import Derived.Test.YtiadalheipbpcaaK2

/-
  core.one, core.times, core.put, by the named machine.
-/
namespace Go.Proofs.Ytiadalheipbpcaa
set_option linter.all false

def zSet : Nat → Nat := fun _ => 0
def noN : Nd := .mk 0 zSet [] 0 0
def oneN (k : Int) : List Nd → Nd
  | [] => noN
  | [p] => p
  | ps => .mk k zSet ps 0 0

theorem frz_celN (o : O) (k : Int) (s : Nat → Nat) (ps : List Nd) (lo hi : Int) (x : V) (hx : frzU 23 o x = some (.sl (ps.map cel))) : fzU o (.ag (nd8 k s x lo hi)) = some (.ag (cel (.mk k s ps lo hi))) := by
  rw [cel_mk]
  unfold fzU FZ
  show (([V.i .i64 k, .i .u64 (s 0), .i .u64 (s 1), .i .u64 (s 2), .i .u64 (s 3), x, .i .i64 lo, .i .i64 hi]).mapM (frzU 23 _)).map V.ag = _
  simp only [List.mapM_cons, hx]
  rfl

theorem cldA (k : Int) (ps : List Nd) : cldL [.i .i64 k, .sl (ps.map cel)] = true := by simp only [cldL, cld, cld_celsM, Bool.and_true]

theorem one_pu (k : Int) (ps : List Nd) (hl : ps.length < 9223372036854775808) : Pu F 26 [.i .i64 k, .sl (ps.map cel)] (.ag (cel (oneN k ps))) := by
  match ps with
  | [] =>
    refine U_pure e26 rfl rfl (cldA k []) ?_
    dsimp only [fn26, c26]
    (repeat (with_reducible (first | refine U_nil ?_ | refine UC_sq ?_ | refine UC_rg ?_ | refine UC_bk ?_ | refine UC_sk ?_ | refine UC_ex ?_ | refine UC_rt ?_ | refine X_nx ?_ | refine X_ex ?_ | refine X_rt ?_ | refine B_nx ?_ | refine B_self ?_ | (refine B_ne (by rfl) ?_) | refine B_rt ?_ | ((first | refine U_q (v := ?_) ?h1 ?_ | refine U_ld (v := ?_) ?h1 ?_ | refine U_isn (v := ?_) ?h1 ?_ | refine E_1 (v := ?_) ?h1 ?_ | refine E_1n (v := ?_) ?h1 ?_ | refine U_alc (n := ?_) ?h1 ?_); case h1 => ((try simp only [List.map_nil, go_sem]) <;> rfl)) | (refine U_box (cs := ?_) (cs' := ?_) (n := ?_) ?h1 ?h2 ?h3 ?h4 ?_; (case h1 => ((try simp only [List.map_nil, go_sem]) <;> rfl)); (case h2 => ((try simp only [List.map_nil, go_sem]) <;> rfl)); (case h3 => ((try simp only [List.map_nil, go_sem]) <;> rfl)); (case h4 => ((try simp only [List.map_nil, go_sem]) <;> rfl))) | (refine U_sto (id := ?_) (i := ?_) (j := ?_) (q := ?_) (es := ?_) (cs := ?_) (vs := ?_) (es' := ?_) ?h1 ?h2 ?h3 ?h4 ?h5 ?h6 ?h7 ?_; (case h1 => ((try simp only [List.map_nil, go_sem]) <;> rfl)); (case h2 => ((try simp only [List.map_nil, go_sem]) <;> rfl)); (case h3 => ((try simp only [List.map_nil, go_sem]) <;> rfl)); (case h4 => ((try simp only [List.map_nil, go_sem]) <;> rfl)); (case h5 => ((try simp only [List.map_nil, go_sem]) <;> rfl)); (case h6 => (simp only [List.map_nil, go_sem])); (case h7 => ((try simp only [List.map_nil, go_sem]) <;> rfl))) | (refine U_bsl (es := ?_) (es' := ?_) ?h1 ?h2 ?h3 ?_; (case h1 => ((try simp only [List.map_nil, go_sem]) <;> rfl)); (case h2 => ((try simp only [List.map_nil, go_sem]) <;> rfl)); (case h3 => ((try simp only [List.map_nil, go_sem]) <;> rfl))) | refine U_bsl0 ?_ | ((first | refine U_gt ?h1 ?_); case h1 => ((try simp only [List.map_nil, go_sem]) <;> rfl)) | ((first | refine U_gs1 ?h1 ?_); case h1 => ((try simp only [List.map_nil, go_sem]) <;> rfl)) | ((first | refine U_gs2 ?h1 ?_); case h1 => ((try simp only [List.map_nil, go_sem]) <;> rfl)) | ((first | refine U_gj (vs := ?_) ?h1 ?_); case h1 => ((try simp only [List.map_nil, go_sem]) <;> rfl)) | ((first | refine UC_cdt ?h1 ?_); case h1 => ((try simp only [List.map_nil, go_sem]) <;> rfl)) | ((first | refine UC_cdf ?h1 ?_); case h1 => ((try simp only [List.map_nil, go_sem]) <;> rfl)) | ((first | refine E_2 (v := ?_) (u := ?_) ?h1 ?h2 ?_ | refine E_2n (v := ?_) (u := ?_) ?h1 ?h2 ?_); (case h1 => ((try simp only [List.map_nil, go_sem]) <;> rfl)); (case h2 => ((try simp only [List.map_nil, go_sem]) <;> rfl))) | refine E_0 ?_ | refine E_0n ?_ | rw [put_some])))
    exact frz_celN _ 0 zSet [] 0 0 .nil rfl
  | [p] =>
    refine U_pure e26 rfl rfl (cldA k [p]) ?_
    dsimp only [fn26, c26]
    (repeat (with_reducible (first | refine U_nil ?_ | refine UC_sq ?_ | refine UC_rg ?_ | refine UC_bk ?_ | refine UC_sk ?_ | refine UC_ex ?_ | refine UC_rt ?_ | refine X_nx ?_ | refine X_ex ?_ | refine X_rt ?_ | refine B_nx ?_ | refine B_self ?_ | (refine B_ne (by rfl) ?_) | refine B_rt ?_ | ((first | refine U_q (v := ?_) ?h1 ?_ | refine U_ld (v := ?_) ?h1 ?_ | refine U_isn (v := ?_) ?h1 ?_ | refine E_1 (v := ?_) ?h1 ?_ | refine E_1n (v := ?_) ?h1 ?_ | refine U_alc (n := ?_) ?h1 ?_); case h1 => ((try simp only [List.map_cons, List.map_nil, go_sem]) <;> rfl)) | (refine U_box (cs := ?_) (cs' := ?_) (n := ?_) ?h1 ?h2 ?h3 ?h4 ?_; (case h1 => ((try simp only [List.map_cons, List.map_nil, go_sem]) <;> rfl)); (case h2 => ((try simp only [List.map_cons, List.map_nil, go_sem]) <;> rfl)); (case h3 => ((try simp only [List.map_cons, List.map_nil, go_sem]) <;> rfl)); (case h4 => ((try simp only [List.map_cons, List.map_nil, go_sem]) <;> rfl))) | (refine U_sto (id := ?_) (i := ?_) (j := ?_) (q := ?_) (es := ?_) (cs := ?_) (vs := ?_) (es' := ?_) ?h1 ?h2 ?h3 ?h4 ?h5 ?h6 ?h7 ?_; (case h1 => ((try simp only [List.map_cons, List.map_nil, go_sem]) <;> rfl)); (case h2 => ((try simp only [List.map_cons, List.map_nil, go_sem]) <;> rfl)); (case h3 => ((try simp only [List.map_cons, List.map_nil, go_sem]) <;> rfl)); (case h4 => ((try simp only [List.map_cons, List.map_nil, go_sem]) <;> rfl)); (case h5 => ((try simp only [List.map_cons, List.map_nil, go_sem]) <;> rfl)); (case h6 => (simp only [List.map_cons, List.map_nil, go_sem])); (case h7 => ((try simp only [List.map_cons, List.map_nil, go_sem]) <;> rfl))) | (refine U_bsl (es := ?_) (es' := ?_) ?h1 ?h2 ?h3 ?_; (case h1 => ((try simp only [List.map_cons, List.map_nil, go_sem]) <;> rfl)); (case h2 => ((try simp only [List.map_cons, List.map_nil, go_sem]) <;> rfl)); (case h3 => ((try simp only [List.map_cons, List.map_nil, go_sem]) <;> rfl))) | refine U_bsl0 ?_ | ((first | refine U_gt ?h1 ?_); case h1 => ((try simp only [List.map_cons, List.map_nil, go_sem]) <;> rfl)) | ((first | refine U_gs1 ?h1 ?_); case h1 => ((try simp only [List.map_cons, List.map_nil, go_sem]) <;> rfl)) | ((first | refine U_gs2 ?h1 ?_); case h1 => ((try simp only [List.map_cons, List.map_nil, go_sem]) <;> rfl)) | ((first | refine U_gj (vs := ?_) ?h1 ?_); case h1 => ((try simp only [List.map_cons, List.map_nil, go_sem]) <;> rfl)) | ((first | refine UC_cdt ?h1 ?_); case h1 => ((try simp only [List.map_cons, List.map_nil, go_sem]) <;> rfl)) | ((first | refine UC_cdf ?h1 ?_); case h1 => ((try simp only [List.map_cons, List.map_nil, go_sem]) <;> rfl)) | ((first | refine E_2 (v := ?_) (u := ?_) ?h1 ?h2 ?_ | refine E_2n (v := ?_) (u := ?_) ?h1 ?h2 ?_); (case h1 => ((try simp only [List.map_cons, List.map_nil, go_sem]) <;> rfl)); (case h2 => ((try simp only [List.map_cons, List.map_nil, go_sem]) <;> rfl))) | refine E_0 ?_ | refine E_0n ?_ | rw [put_some])))
    exact fzU_ok (by simp only [go_sem])
  | p :: q :: ps =>
    refine U_pure e26 rfl rfl (cldA k (p :: q :: ps)) ?_
    dsimp only [fn26, c26]
    (repeat' (first | (with_reducible (first | refine U_nil ?_ | refine UC_sq ?_ | refine UC_rg ?_ | refine UC_bk ?_ | refine UC_sk ?_ | refine UC_ex ?_ | refine UC_rt ?_ | refine X_nx ?_ | refine X_ex ?_ | refine X_rt ?_ | refine B_nx ?_ | refine B_self ?_ | (refine B_ne (by rfl) ?_) | refine B_rt ?_ | ((first | refine U_q (v := ?_) ?h1 ?_ | refine U_ld (v := ?_) ?h1 ?_ | refine U_isn (v := ?_) ?h1 ?_ | refine E_1 (v := ?_) ?h1 ?_ | refine E_1n (v := ?_) ?h1 ?_ | refine U_alc (n := ?_) ?h1 ?_); case h1 => ((try simp only [List.length_map, go_sem]) <;> rfl)) | (refine U_box (cs := ?_) (cs' := ?_) (n := ?_) ?h1 ?h2 ?h3 ?h4 ?_; (case h1 => ((try simp only [List.length_map, go_sem]) <;> rfl)); (case h2 => ((try simp only [List.length_map, go_sem]) <;> rfl)); (case h3 => ((try simp only [List.length_map, go_sem]) <;> rfl)); (case h4 => ((try simp only [List.length_map, go_sem]) <;> rfl))) | (refine U_sto (id := ?_) (i := ?_) (j := ?_) (q := ?_) (es := ?_) (cs := ?_) (vs := ?_) (es' := ?_) ?h1 ?h2 ?h3 ?h4 ?h5 ?h6 ?h7 ?_; (case h1 => ((try simp only [List.length_map, go_sem]) <;> rfl)); (case h2 => ((try simp only [List.length_map, go_sem]) <;> rfl)); (case h3 => ((try simp only [List.length_map, go_sem]) <;> rfl)); (case h4 => ((try simp only [List.length_map, go_sem]) <;> rfl)); (case h5 => ((try simp only [List.length_map, go_sem]) <;> rfl)); (case h6 => (simp only [List.length_map, go_sem])); (case h7 => ((try simp only [List.length_map, go_sem]) <;> rfl))) | (refine U_bsl (es := ?_) (es' := ?_) ?h1 ?h2 ?h3 ?_; (case h1 => ((try simp only [List.length_map, go_sem]) <;> rfl)); (case h2 => ((try simp only [List.length_map, go_sem]) <;> rfl)); (case h3 => ((try simp only [List.length_map, go_sem]) <;> rfl))) | refine U_bsl0 ?_ | ((first | refine U_gt ?h1 ?_); case h1 => ((try simp only [List.length_map, go_sem]) <;> rfl)) | ((first | refine U_gs1 ?h1 ?_); case h1 => ((try simp only [List.length_map, go_sem]) <;> rfl)) | ((first | refine U_gs2 ?h1 ?_); case h1 => ((try simp only [List.length_map, go_sem]) <;> rfl)) | ((first | refine U_gj (vs := ?_) ?h1 ?_); case h1 => ((try simp only [List.length_map, go_sem]) <;> rfl)) | ((first | refine UC_cdt ?h1 ?_); case h1 => ((try simp only [List.length_map, go_sem]) <;> rfl)) | ((first | refine UC_cdf ?h1 ?_); case h1 => ((try simp only [List.length_map, go_sem]) <;> rfl)) | ((first | refine E_2 (v := ?_) (u := ?_) ?h1 ?h2 ?_ | refine E_2n (v := ?_) (u := ?_) ?h1 ?h2 ?_); (case h1 => ((try simp only [List.length_map, go_sem]) <;> rfl)); (case h2 => ((try simp only [List.length_map, go_sem]) <;> rfl))) | refine E_0 ?_ | refine E_0n ?_ | rw [put_some])) | with_reducible (refine U_gb (q := ?_) ?h1 (fun _ => ?_) (fun _ => ?_); case h1 => ((try simp only [List.length_map, go_sem]) <;> rfl)) | with_reducible (refine UC_cdb (q := ?_) ?h1 (fun _ => ?_) (fun _ => ?_); case h1 => ((try simp only [List.length_map, go_sem]) <;> rfl))))
    · exfalso; simp_all; omega
    · exfalso; simp_all; omega
    · exact frz_celN _ k zSet (p :: q :: ps) 0 0 _ rfl

def timesN (p : Nd) (lo hi : Int) : Nd :=
  bif (hi == 0) then noN else bif (p.kind == 0) then noN else bif voidB p then noN
  else bif (lo == 1) then (bif (hi == 1) then p else .mk 4 zSet [p] (bif nullB p then 0 else lo) hi)
  else .mk 4 zSet [p] (bif nullB p then 0 else lo) hi

theorem celOkf (n : Nd) (j : Nat) : ∀ v ∈ cel n, okf (j + 1) v = true := by
  cases n
  intro v hv
  simp [cel, nd8] at hv
  rcases hv with rfl | rfl | rfl | rfl | rfl | rfl | rfl | rfl <;> rfl
theorem frz_row8 {o : O} {s : Nat} {l : List Nd} {n : Nat} (h : o s = some (.row 8 (l.map cel))) (hn : l.length = n) : frzU 23 o (.rw s 8 0 n) = some (.sl (l.map cel)) := by
  have hs : src o (.rw s 8 0 n) = some (l.map cel) := by
    simp only [src, h]
    rw [if_pos (by simp; omega)]
    simp [List.take_of_length_le, hn]
  have hm : ((l.map cel).mapM fun c : List V => c.mapM (frzU 22 o)) = some (l.map cel) := mapM_self2 fun c hc v hv => by
    obtain ⟨p, _, rfl⟩ := List.mem_map.1 hc
    exact frzU_okf _ _ (celOkf p 21 v hv)
  simp only [frzU, hs, hm]
  rfl

theorem cel_get0 (p : Nd) : (cel p)[0]? = some (.i .i64 p.kind) := by cases p; rfl

set_option maxHeartbeats 2000000 in
theorem times_pu (p : Nd) (hp : small p) (hf : formed p = true) (lo hi : Int) : Pu F 28 [.ag (cel p), .i .i64 lo, .i .i64 hi] (.ag (cel (timesN p lo hi))) := by
  have hv := void_pu p hp hf
  have hn := null_pu p hp hf
  refine U_pure e28 rfl rfl (by simp only [go_sem, Bool.and_true]) ?_
  dsimp only [fn28, c28]
  (repeat' (first | (with_reducible (first | refine U_nil ?_ | refine UC_sq ?_ | refine UC_rg ?_ | refine UC_bk ?_ | refine UC_sk ?_ | refine UC_ex ?_ | refine UC_rt ?_ | refine X_nx ?_ | refine X_ex ?_ | refine X_rt ?_ | refine B_nx ?_ | refine B_self ?_ | (refine B_ne (by rfl) ?_) | refine B_rt ?_ | ((first | refine U_q (v := ?_) ?h1 ?_ | refine U_ld (v := ?_) ?h1 ?_ | refine U_isn (v := ?_) ?h1 ?_ | refine E_1 (v := ?_) ?h1 ?_ | refine E_1n (v := ?_) ?h1 ?_ | refine U_alc (n := ?_) ?h1 ?_); case h1 => ((try simp only [cel_get0, go_sem]) <;> rfl)) | (refine U_box (cs := ?_) (cs' := ?_) (n := ?_) ?h1 ?h2 ?h3 ?h4 ?_; (case h1 => ((try simp only [cel_get0, go_sem]) <;> rfl)); (case h2 => ((try simp only [cel_get0, go_sem]) <;> rfl)); (case h3 => ((try simp only [cel_get0, go_sem]) <;> rfl)); (case h4 => ((try simp only [cel_get0, go_sem]) <;> rfl))) | (refine U_sto (id := ?_) (i := ?_) (j := ?_) (q := ?_) (es := ?_) (cs := ?_) (vs := ?_) (es' := ?_) ?h1 ?h2 ?h3 ?h4 ?h5 ?h6 ?h7 ?_; (case h1 => ((try simp only [cel_get0, go_sem]) <;> rfl)); (case h2 => ((try simp only [cel_get0, go_sem]) <;> rfl)); (case h3 => ((try simp only [cel_get0, go_sem]) <;> rfl)); (case h4 => ((try simp only [cel_get0, go_sem]) <;> rfl)); (case h5 => ((try simp only [cel_get0, go_sem]) <;> rfl)); (case h6 => (simp only [cel_get0, go_sem])); (case h7 => ((try simp only [cel_get0, go_sem]) <;> rfl))) | (refine U_bsl (es := ?_) (es' := ?_) ?h1 ?h2 ?h3 ?_; (case h1 => ((try simp only [cel_get0, go_sem]) <;> rfl)); (case h2 => ((try simp only [cel_get0, go_sem]) <;> rfl)); (case h3 => ((try simp only [cel_get0, go_sem]) <;> rfl))) | refine U_bsl0 ?_ | ((first | refine U_gt ?h1 ?_); case h1 => ((try simp only [cel_get0, go_sem]) <;> rfl)) | ((first | refine U_gs1 ?h1 ?_); case h1 => ((try simp only [cel_get0, go_sem]) <;> rfl)) | ((first | refine U_gs2 ?h1 ?_); case h1 => ((try simp only [cel_get0, go_sem]) <;> rfl)) | ((first | refine U_gj (vs := ?_) ?h1 ?_); case h1 => ((try simp only [cel_get0, go_sem]) <;> rfl)) | ((first | refine UC_cdt ?h1 ?_); case h1 => ((try simp only [cel_get0, go_sem]) <;> rfl)) | ((first | refine UC_cdf ?h1 ?_); case h1 => ((try simp only [cel_get0, go_sem]) <;> rfl)) | ((first | refine E_2 (v := ?_) (u := ?_) ?h1 ?h2 ?_ | refine E_2n (v := ?_) (u := ?_) ?h1 ?h2 ?_); (case h1 => ((try simp only [cel_get0, go_sem]) <;> rfl)); (case h2 => ((try simp only [cel_get0, go_sem]) <;> rfl))) | refine E_0 ?_ | refine E_0n ?_ | rw [put_some])) | ((with_reducible refine U_pc (g := 25) (r := .bo (voidB p)) (vs := ?_) (ws := ?_) ?h1 ?h2 ?h3 ?h4 ?h5 ?_); (case h1 => ((try simp only [cel_get0, go_sem]) <;> rfl)); (case h2 => refine fzsU_ok ?_; first | rfl | simp only [List.all_cons, List.all_nil, Bool.and_true, go_sem]); (case h5 => exact hv); (case h3 => first | exact Bool.or_eq_true_iff.2 (.inr rfl) | (refine Bool.or_eq_true_iff.2 (.inl ?_); simp only [clos, List.all_cons, List.all_nil, Bool.and_true, go_sem])); (case h4 => first | rfl | simp only [go_sem, Bool.and_true])) | ((with_reducible refine U_pc (g := 40) (r := .bo (nullB p)) (vs := ?_) (ws := ?_) ?h1 ?h2 ?h3 ?h4 ?h5 ?_); (case h1 => ((try simp only [cel_get0, go_sem]) <;> rfl)); (case h2 => refine fzsU_ok ?_; first | rfl | simp only [List.all_cons, List.all_nil, Bool.and_true, go_sem]); (case h5 => exact hn); (case h3 => first | exact Bool.or_eq_true_iff.2 (.inr rfl) | (refine Bool.or_eq_true_iff.2 (.inl ?_); simp only [clos, List.all_cons, List.all_nil, Bool.and_true, go_sem])); (case h4 => first | rfl | simp only [go_sem, Bool.and_true])) | with_reducible (refine U_gb (q := ?_) ?h1 (fun _ => ?_) (fun _ => ?_); case h1 => ((try simp only [cel_get0, go_sem]) <;> rfl)) | with_reducible (refine UC_cdb (q := ?_) ?h1 (fun _ => ?_) (fun _ => ?_); case h1 => ((try simp only [cel_get0, go_sem]) <;> rfl))))
  all_goals clear hv hn hp hf
  all_goals simp only [timesN, cond_true, cond_false, *]
  all_goals first
    | exact frz_celN _ 0 zSet [] 0 0 .nil rfl
    | exact fzU_ok (by simp only [go_sem])
    | exact frz_celN _ 4 zSet [p] _ hi _ (frz_row8 (l := [p]) (n := 1) (by simp only [go_sem]) rfl)
    | skip

end Go.Proofs.Ytiadalheipbpcaa
