import Derived.Test.YtcnmcbkmfmcdjaaM20

/-
  MovesReach answers true.
-/
namespace Go.Proofs.Ytcnmcbkmfmcdjaa
set_option linter.all false
attribute [-go_sem] swpOb renOb rfOb V.cells

theorem ml_cld (l : List (List Mv)) : cldLL (l.map mlC) = true := cldLL_map (fun x => by
  rw [mlC, cldL, cld, cldLL_map (fun _ => rfl)]; rfl) l
theorem bo_cld (l : List Bool) : cldLL (l.map boC) = true := cldLL_map (fun _ => rfl) l

theorem reach_pk {n : Nd} (hf : formed n = true) (hfs : formed (simpleN n) = true) : ∀ p, 0 < p → p < (makeT (simpleN n)).sets.length →
    (p ∈ (makeT (simpleN n)).first ∨ ∃ (a : Nat) (l : List Mv) (m : Mv), (makeT (simpleN n)).moves[a]? = some l ∧ m ∈ l ∧ m.to = p) ∧ ((makeT (simpleN n)).last[p]? = some true ∨ ∃ l, (makeT (simpleN n)).moves[p]? = some l ∧ l ≠ []) := fun p h0 hp => by
  obtain ⟨h1, h2⟩ := reach hf hfs h0 hp
  refine ⟨h1, ?_⟩
  have hp' : p < (plT (simpleN n)).sets.length := hp
  rcases h2 with h2 | ⟨m, h2⟩
  · left
    simp only [makeT, List.getElem?_map, List.getElem?_range hp', Option.map_some]
    simpa using h2
  · right
    have hm : (makeT (simpleN n)).moves[p]? = some (srtM (movesOf (wk (simpleN n) 0 0 []).L p)) := by
      simp only [makeT, List.getElem?_map, List.getElem?_range hp', Option.map_some]
    refine ⟨_, hm, fun hh => ?_⟩
    have := (makeT_moves hm).2 h2
    rw [hh] at this; cases this

def toL (l : List Mv) : List Nat := l.map Mv.to

theorem reach_law (n : Nd) (hs : small n) : Pu F 3 [.ag (cel n)] (.bo true) := by
  have hsz : Pu F 9 [.ag (cel n), .i .i64 100] (.i .i64 (sizeF n 100)) := size_ok n hs 100 (by omega) (by omega) emp _ (fun _ => rfl)
  have haw := awake_pu
  refine U_pure e3 rfl rfl (by simp only [go_sem, Bool.and_true]) ?_
  dsimp only [fn3, c3]
  by_cases hA : sizeF n 100 > 100
  · have hA1 : decide (sizeF n 100 > 100) = true := by simpa using hA
    (repeat' (first | (with_reducible (first | refine U_nil ?_ | refine UC_sq ?_ | refine UC_rg ?_ | refine UC_rt ?_ | refine X_nx ?_ | refine X_rt ?_ | ((first | refine U_q (v := ?_) ?h1 ?_ | refine U_ld (v := ?_) ?h1 ?_ | refine E_1 (v := ?_) ?h1 ?_); case h1 => ((try simp only [hA1, List.take_succ_cons, List.take_zero, List.drop_succ_cons, List.drop_zero, go_sem]) <;> rfl)) | (refine U_box (cs := ?_) (cs' := ?_) (n := ?_) ?h1 ?h2 ?h3 ?h4 ?_; case h1 | h2 | h3 | h4 => ((try simp only [hA1, List.take_succ_cons, List.take_zero, List.drop_succ_cons, List.drop_zero, go_sem]) <;> rfl)) | (refine U_gt ?h1 ?_; case h1 => ((try simp only [hA1, List.take_succ_cons, List.take_zero, List.drop_succ_cons, List.drop_zero, go_sem]) <;> rfl)) | (refine UC_cdt ?h1 ?_; case h1 => ((try simp only [hA1, List.take_succ_cons, List.take_zero, List.drop_succ_cons, List.drop_zero, go_sem]) <;> rfl)))) | ((with_reducible refine U_pc (g := 8) (r := .bo true) (vs := ?_) (ws := ?_) ?h1 ?h2 ?h3 ?h4 ?h5 ?_); (case h1 => ((try simp only [hA1, List.take_succ_cons, List.take_zero, List.drop_succ_cons, List.drop_zero, go_sem]) <;> rfl)); (case h2 => refine fzsU_ok ?_; first | rfl | simp only [List.all_cons, List.all_nil, Bool.and_true, go_sem]); (case h5 => exact haw); (case h3 => first | exact Bool.or_eq_true_iff.2 (.inr rfl) | (refine Bool.or_eq_true_iff.2 (.inl ?_); simp only [clos, List.all_cons, List.all_nil, Bool.and_true, go_sem])); (case h4 => first | rfl | simp only [go_sem, Bool.and_true])) | ((with_reducible refine U_pc (g := 9) (r := .i .i64 (sizeF n 100)) (vs := ?_) (ws := ?_) ?h1 ?h2 ?h3 ?h4 ?h5 ?_); (case h1 => ((try simp only [hA1, List.take_succ_cons, List.take_zero, List.drop_succ_cons, List.drop_zero, go_sem]) <;> rfl)); (case h2 => refine fzsU_ok ?_; first | rfl | simp only [List.all_cons, List.all_nil, Bool.and_true, go_sem]); (case h5 => exact hsz); (case h3 => first | exact Bool.or_eq_true_iff.2 (.inr rfl) | (refine Bool.or_eq_true_iff.2 (.inl ?_); simp only [clos, List.all_cons, List.all_nil, Bool.and_true, go_sem])); (case h4 => first | rfl | simp only [go_sem, Bool.and_true])) | with_reducible (refine U_gb (q := ?_) ?h1 (fun _ => ?_) (fun _ => ?_); case h1 => ((try simp only [hA1, List.take_succ_cons, List.take_zero, List.drop_succ_cons, List.drop_zero, go_sem]) <;> rfl)) | with_reducible (refine UC_cdb (q := ?_) ?h1 (fun _ => ?_) (fun _ => ?_); case h1 => ((try simp only [hA1, List.take_succ_cons, List.take_zero, List.drop_succ_cons, List.drop_zero, go_sem]) <;> rfl))))
    rfl
  have hA1 : decide (sizeF n 100 > 100) = false := by simpa using hA
  have hc : cntN n ≤ 900 := by
    have := sizeF_cnt n 100 (by omega) (by omega)
    omega
  obtain ⟨A, er, hM, hA2⟩ := make_pu n hs hc
  rcases hA2 with ⟨h0, rfl⟩ | ⟨rfl, hf, hfs, hAm, hW, hLn⟩
  · have her : (er != 0) = true := by simpa using h0
    have hp : V.ag (auC noA) = .ag [.i .i64 0, .i .u64 0, .i .u64 0, .i .u64 0, .i .u64 0, .sl [], .i .i64 0, .i .i64 0, .sl [], .sl [], .sl [], .sl [], .sl [], .sl [], .bo false] := rfl
    rw [hp] at hM
    (repeat' (first | (with_reducible (first | refine U_nil ?_ | refine UC_sq ?_ | refine UC_rg ?_ | refine UC_sk ?_ | refine UC_rt ?_ | refine X_nx ?_ | refine X_rt ?_ | ((first | refine U_q (v := ?_) ?h1 ?_ | refine U_ld (v := ?_) ?h1 ?_ | refine E_1 (v := ?_) ?h1 ?_ | refine U_alc (n := ?_) ?h1 ?_); case h1 => ((try simp only [hA1, her, List.take_succ_cons, List.take_zero, List.drop_succ_cons, List.drop_zero, go_sem]) <;> rfl)) | (refine U_box (cs := ?_) (cs' := ?_) (n := ?_) ?h1 ?h2 ?h3 ?h4 ?_; case h1 | h2 | h3 | h4 => ((try simp only [hA1, her, List.take_succ_cons, List.take_zero, List.drop_succ_cons, List.drop_zero, go_sem]) <;> rfl)) | (refine U_sto (id := ?_) (i := ?_) (j := ?_) (q := ?_) (es := ?_) (cs := ?_) (vs := ?_) (es' := ?_) ?h1 ?h2 ?h3 ?h4 ?h5 ?h6 ?h7 ?_; case h1 | h2 | h3 | h4 | h5 | h6 | h7 => ((try simp only [hA1, her, List.take_succ_cons, List.take_zero, List.drop_succ_cons, List.drop_zero, go_sem]) <;> rfl)) | (refine U_gt ?h1 ?_; case h1 => ((try simp only [hA1, her, List.take_succ_cons, List.take_zero, List.drop_succ_cons, List.drop_zero, go_sem]) <;> rfl)) | (refine UC_cdt ?h1 ?_; case h1 => ((try simp only [hA1, her, List.take_succ_cons, List.take_zero, List.drop_succ_cons, List.drop_zero, go_sem]) <;> rfl)) | (refine UC_cdf ?h1 ?_; case h1 => ((try simp only [hA1, her, List.take_succ_cons, List.take_zero, List.drop_succ_cons, List.drop_zero, go_sem]) <;> rfl)))) | ((with_reducible refine U_pc (g := 8) (r := .bo true) (vs := ?_) (ws := ?_) ?h1 ?h2 ?h3 ?h4 ?h5 ?_); (case h1 => ((try simp only [hA1, her, List.take_succ_cons, List.take_zero, List.drop_succ_cons, List.drop_zero, go_sem]) <;> rfl)); (case h2 => refine fzsU_ok ?_; first | rfl | simp only [List.all_cons, List.all_nil, Bool.and_true, go_sem]); (case h5 => exact haw); (case h3 => first | exact Bool.or_eq_true_iff.2 (.inr rfl) | (refine Bool.or_eq_true_iff.2 (.inl ?_); simp only [clos, List.all_cons, List.all_nil, Bool.and_true, go_sem])); (case h4 => first | rfl | simp only [go_sem, Bool.and_true])) | ((with_reducible refine U_pc (g := 9) (r := .i .i64 (sizeF n 100)) (vs := ?_) (ws := ?_) ?h1 ?h2 ?h3 ?h4 ?h5 ?_); (case h1 => ((try simp only [hA1, her, List.take_succ_cons, List.take_zero, List.drop_succ_cons, List.drop_zero, go_sem]) <;> rfl)); (case h2 => refine fzsU_ok ?_; first | rfl | simp only [List.all_cons, List.all_nil, Bool.and_true, go_sem]); (case h5 => exact hsz); (case h3 => first | exact Bool.or_eq_true_iff.2 (.inr rfl) | (refine Bool.or_eq_true_iff.2 (.inl ?_); simp only [clos, List.all_cons, List.all_nil, Bool.and_true, go_sem])); (case h4 => first | rfl | simp only [go_sem, Bool.and_true])) | ((with_reducible refine U_pc (g := 10) (r := .tp [.ag [.i .i64 0, .i .u64 0, .i .u64 0, .i .u64 0, .i .u64 0, .sl [], .i .i64 0, .i .i64 0, .sl [], .sl [], .sl [], .sl [], .sl [], .sl [], .bo false], .i .i64 er]) (vs := ?_) (ws := ?_) ?h1 ?h2 ?h3 ?h4 ?h5 ?_); (case h1 => ((try simp only [hA1, her, List.take_succ_cons, List.take_zero, List.drop_succ_cons, List.drop_zero, go_sem]) <;> rfl)); (case h2 => refine fzsU_ok ?_; first | rfl | simp only [List.all_cons, List.all_nil, Bool.and_true, go_sem]); (case h5 => exact hM); (case h3 => first | exact Bool.or_eq_true_iff.2 (.inr rfl) | (refine Bool.or_eq_true_iff.2 (.inl ?_); simp only [clos, List.all_cons, List.all_nil, Bool.and_true, go_sem])); (case h4 => first | rfl | simp only [go_sem, Bool.and_true])) | with_reducible (refine U_gb (q := ?_) ?h1 (fun _ => ?_) (fun _ => ?_); case h1 => ((try simp only [hA1, her, List.take_succ_cons, List.take_zero, List.drop_succ_cons, List.drop_zero, go_sem]) <;> rfl)) | with_reducible (refine UC_cdb (q := ?_) ?h1 (fun _ => ?_) (fun _ => ?_); case h1 => ((try simp only [hA1, her, List.take_succ_cons, List.take_zero, List.drop_succ_cons, List.drop_zero, go_sem]) <;> rfl))))
    rfl
  have hR := reach_pk hf hfs
  have hFi : A.first.length ≤ 1000 := by
    obtain ⟨⟨h1, _⟩, h2⟩ := simpleN_ok n ⟨hs, hf⟩ (by omega)
    have h3 := wk_len (simpleN n) 0 0 []
    rw [hAm]
    simp only [makeT, srtN, List.length_mergeSort]
    omega
  rw [← hAm] at hR
  clear hAm
  obtain ⟨⟨ak, as_, ap, al, ah⟩, S, Cs, R, Fi, Mo, La, Em⟩ := A
  obtain ⟨w1, w2, w3, w4, w5, w6, w7, w8, w9, w10, w11, w12⟩ := hW
  dsimp only at w1 w2 w3 w4 w5 w6 w7 w8 w9 w10 w11 w12 hLn hR hFi
  simp only [auC, mpC, cel_mk, nd8, List.cons_append, List.nil_append] at hM
  have hNp : (0 : Int) ≤ (Mo.length : Int) := by omega
  (repeat' (first | (with_reducible (first | refine U_nil ?_ | refine UC_sq ?_ | refine UC_rg ?_ | refine UC_sk ?_ | refine X_nx ?_ | ((first | refine U_q (v := ?_) ?h1 ?_ | refine U_ld (v := ?_) ?h1 ?_); case h1 => ((try simp only [hA1, List.take_succ_cons, List.take_zero, List.drop_succ_cons, List.drop_zero, go_sem]) <;> rfl)) | (refine U_box (cs := ?_) (cs' := ?_) (n := ?_) ?h1 ?h2 ?h3 ?h4 ?_; case h1 | h2 | h3 | h4 => ((try simp only [hA1, List.take_succ_cons, List.take_zero, List.drop_succ_cons, List.drop_zero, go_sem]) <;> rfl)) | (refine U_gt ?h1 ?_; case h1 => ((try simp only [hA1, List.take_succ_cons, List.take_zero, List.drop_succ_cons, List.drop_zero, go_sem]) <;> rfl)) | (refine UC_cdf ?h1 ?_; case h1 => ((try simp only [hA1, List.take_succ_cons, List.take_zero, List.drop_succ_cons, List.drop_zero, go_sem]) <;> rfl)))) | ((with_reducible refine U_pc (g := 8) (r := .bo true) (vs := ?_) (ws := ?_) ?h1 ?h2 ?h3 ?h4 ?h5 ?_); (case h1 => ((try simp only [hA1, List.take_succ_cons, List.take_zero, List.drop_succ_cons, List.drop_zero, go_sem]) <;> rfl)); (case h2 => refine fzsU_ok ?_; first | rfl | simp only [List.all_cons, List.all_nil, Bool.and_true, go_sem]); (case h5 => exact haw); (case h3 => first | exact Bool.or_eq_true_iff.2 (.inr rfl) | (refine Bool.or_eq_true_iff.2 (.inl ?_); simp only [clos, List.all_cons, List.all_nil, Bool.and_true, go_sem])); (case h4 => first | rfl | simp only [go_sem, Bool.and_true])) | ((with_reducible refine U_pc (g := 9) (r := .i .i64 (sizeF n 100)) (vs := ?_) (ws := ?_) ?h1 ?h2 ?h3 ?h4 ?h5 ?_); (case h1 => ((try simp only [hA1, List.take_succ_cons, List.take_zero, List.drop_succ_cons, List.drop_zero, go_sem]) <;> rfl)); (case h2 => refine fzsU_ok ?_; first | rfl | simp only [List.all_cons, List.all_nil, Bool.and_true, go_sem]); (case h5 => exact hsz); (case h3 => first | exact Bool.or_eq_true_iff.2 (.inr rfl) | (refine Bool.or_eq_true_iff.2 (.inl ?_); simp only [clos, List.all_cons, List.all_nil, Bool.and_true, go_sem])); (case h4 => first | rfl | simp only [go_sem, Bool.and_true])) | with_reducible (refine U_gb (q := ?_) ?h1 (fun _ => ?_) (fun _ => ?_); case h1 => ((try simp only [hA1, List.take_succ_cons, List.take_zero, List.drop_succ_cons, List.drop_zero, go_sem]) <;> rfl)) | with_reducible (refine UC_cdb (q := ?_) ?h1 (fun _ => ?_) (fun _ => ?_); case h1 => ((try simp only [hA1, List.take_succ_cons, List.take_zero, List.drop_succ_cons, List.drop_zero, go_sem]) <;> rfl))))
  refine U_pc (vs := [.ag (cel n)]) (ws := [.ag (cel n)]) (by simp only [go_sem]) (fzsU_ok (by simp only [List.all_cons, List.all_nil, Bool.and_true, go_sem])) (Bool.or_eq_true_iff.2 (.inl (by simp only [clos, List.all_cons, List.all_nil, Bool.and_true, go_sem]))) ?_ hM ?_
  · simp only [go_sem, u4_cld, sc_cld, ls_cld, cldLL_in, ml_cld, bo_cld, Bool.and_true]
  (repeat (with_reducible (first | refine U_nil ?_ | refine UC_sq ?_ | refine UC_rg ?_ | refine UC_sk ?_ | refine X_nx ?_ | ((first | refine U_q (v := ?_) ?h1 ?_ | refine U_ld (v := ?_) ?h1 ?_ | refine U_alc (n := ?_) ?h1 ?_); case h1 => ((try simp only [List.length_map, List.take_succ_cons, List.take_zero, List.drop_succ_cons, List.drop_zero, go_sem]) <;> rfl)) | (refine U_sto (id := ?_) (i := ?_) (j := ?_) (q := ?_) (es := ?_) (cs := ?_) (vs := ?_) (es' := ?_) ?h1 ?h2 ?h3 ?h4 ?h5 ?h6 ?h7 ?_; case h1 | h2 | h3 | h4 | h5 | h6 | h7 => ((try simp only [List.length_map, List.take_succ_cons, List.take_zero, List.drop_succ_cons, List.drop_zero, go_sem]) <;> rfl)) | (refine UC_cdf ?h1 ?_; case h1 => ((try simp only [List.length_map, List.take_succ_cons, List.take_zero, List.drop_succ_cons, List.drop_zero, go_sem]) <;> rfl)))))
  refine U_mks (n := Mo.length) (c := Mo.length) (by (simp only [hNp, Int.toNat_natCast, go_sem] <;> rfl)) (by (simp only [hNp, Int.toNat_natCast, go_sem] <;> rfl)) (Nat.le_refl _) ⟨by omega, by omega⟩ ?_
  rw [← lsR_nil]
  (repeat (with_reducible (first | refine U_nil ?_ | refine UC_sq ?_ | refine UC_rg ?_ | refine UC_bk ?_ | refine X_nx ?_ | (refine U_q (v := ?_) ?h1 ?_; case h1 => ((try simp only [List.take_succ_cons, List.take_zero, List.drop_succ_cons, List.drop_zero, go_sem]) <;> rfl)))))
  generalize hN : Mo.length = N at *
  -- first
  refine UC_cutx (fun e o => e 3 = .pt 3 0 0 ∧ e 5 = .rw 28 1 0 N ∧ o 28 = some (.row 1 (lsR N Fi)) ∧ o 3 = some (.row 15 [[.i .i64 ak, .i .u64 (as_ 0), .i .u64 (as_ 1), .i .u64 (as_ 2), .i .u64 (as_ 3), .sl (ap.map cel), .i .i64 al, .i .i64 ah, .sl (S.map u4), .sl (Cs.map scC), .sl (R.map lsC), .sl (Fi.map inC), .sl (Mo.map mlC), .sl (La.map boC), .bo Em]])) ?_ ?_
  · refine U_lp (fun r e o => ∃ i : Nat, i + r = Fi.length ∧ e 3 = .pt 3 0 0 ∧ e 5 = .rw 28 1 0 N ∧ e 6 = .i .i64 i ∧ o 28 = some (.row 1 (lsR N (Fi.take i))) ∧ o 3 = some (.row 15 [[.i .i64 ak, .i .u64 (as_ 0), .i .u64 (as_ 1), .i .u64 (as_ 2), .i .u64 (as_ 3), .sl (ap.map cel), .i .i64 al, .i .i64 ah, .sl (S.map u4), .sl (Cs.map scC), .sl (R.map lsC), .sl (Fi.map inC), .sl (Mo.map mlC), .sl (La.map boC), .bo Em]])) (k := Fi.length) ?_ (Call_le F) ?_
    · exact ⟨0, by omega, by simp only [go_sem], by simp only [go_sem], by (simp only [go_sem] <;> rfl), by (simp only [go_sem] <;> rfl), by simp only [go_sem]⟩
    rintro r e o ⟨i, hir, r3, r5, r6, o28, o3⟩
    dsimp only [b3_0]
    (repeat (with_reducible (first | refine U_nil ?_ | refine UC_sq ?_ | refine UC_rg ?_ | refine X_nx ?_ | ((first | refine U_q (v := ?_) ?h1 ?_ | refine U_ld (v := ?_) ?h1 ?_); case h1 => ((try simp only [r3, r6, o3, List.length_map, go_sem]) <;> rfl)))))
    refine UC_cdb (q := decide ((i : Int) < (Fi.length : Int))) (by simp only [go_sem]) (fun hc1 => ?_) (fun hc1 => ?_)
    · have hi : i < Fi.length := by simpa using hc1
      have hip : (0 : Int) ≤ (i : Int) := by omega
      have hxi : (Fi.map inC)[i]? = some [.i .i64 Fi[i]] := by rw [List.getElem?_map, List.getElem?_eq_getElem hi]; rfl
      have hfN : Fi[i] < N := by have := (w10 _ (List.getElem_mem hi)).2; omega
      have hfp : (0 : Int) ≤ (Fi[i] : Int) := by omega
      have hfl : ((Fi[i] : Int) < (N : Int)) = True := by simp; omega
      have hgl : (lsR N (Fi.take i))[Fi[i]]? = some [.bo ((Fi.take i).contains Fi[i])] := by simp [lsR, hfN]
      have hse : (lsR N (Fi.take i)).set Fi[i] [.bo true] = lsR N (Fi.take (i + 1)) := by
        rw [lsR_set _ _ _ hfN, List.take_add_one, List.getElem?_eq_getElem hi]; rfl
      have hw : IntKind.i64.wrap ((i : Int) + 1) = ((i + 1 : Nat) : Int) := by rw [wrap_i64 (by omega) (by omega)]; rfl
      (repeat (with_reducible (first | refine U_nil ?_ | refine UC_sq ?_ | refine UC_rg ?_ | refine UC_bk ?_ | refine UC_sk ?_ | refine X_nx ?_ | refine B_nx ?_ | ((first | refine U_q (v := ?_) ?h1 ?_ | refine U_ld (v := ?_) ?h1 ?_); case h1 => ((try simp only [r3, r5, r6, o3, o28, hip, hxi, hfp, hfl, hgl, hse, hw, Int.toNat_natCast, go_sem]) <;> rfl)) | (refine U_sto (id := ?_) (i := ?_) (j := ?_) (q := ?_) (es := ?_) (cs := ?_) (vs := ?_) (es' := ?_) ?h1 ?h2 ?h3 ?h4 ?h5 ?h6 ?h7 ?_; case h1 | h2 | h3 | h4 | h5 | h6 | h7 => ((try simp only [r3, r5, r6, o3, o28, hip, hxi, hfp, hfl, hgl, hse, hw, Int.toNat_natCast, go_sem]) <;> rfl)))))
      exact ⟨r - 1, by omega, i + 1, by omega, by simp only [r3, go_sem], by simp only [r5, go_sem], by simp only [go_sem], by simp only [go_sem], by simp only [o3, go_sem]⟩
    · have hi : i = Fi.length := by
        have : ¬ i < Fi.length := by simpa using hc1
        omega
      subst hi
      rw [List.take_length] at o28
      (repeat (with_reducible (first | refine UC_ex ?_ | refine X_ex ?_)))
      exact ⟨rfl, by simp only [r3, go_sem], by simp only [r5, go_sem], o28, o3⟩
  rintro e o ⟨r3, r5, o28, o3⟩
  (repeat (with_reducible (first | refine U_nil ?_ | refine UC_sq ?_ | refine UC_rg ?_ | refine UC_bk ?_ | refine X_nx ?_ | (refine U_q (v := ?_) ?h1 ?_; case h1 => ((try simp only [go_sem]) <;> rfl)))))
  -- targets
  refine UC_cutx (fun e o => e 3 = .pt 3 0 0 ∧ e 5 = .rw 28 1 0 N ∧ o 28 = some (.row 1 (lsR N (Fi ++ Mo.flatMap toL))) ∧ o 3 = some (.row 15 [[.i .i64 ak, .i .u64 (as_ 0), .i .u64 (as_ 1), .i .u64 (as_ 2), .i .u64 (as_ 3), .sl (ap.map cel), .i .i64 al, .i .i64 ah, .sl (S.map u4), .sl (Cs.map scC), .sl (R.map lsC), .sl (Fi.map inC), .sl (Mo.map mlC), .sl (La.map boC), .bo Em]])) ?_ ?_
  · refine U_lp (fun r e o => ∃ p : Nat, p + r = N ∧ e 3 = .pt 3 0 0 ∧ e 5 = .rw 28 1 0 N ∧ e 7 = .i .i64 p ∧ o 28 = some (.row 1 (lsR N (Fi ++ (Mo.take p).flatMap toL))) ∧ o 3 = some (.row 15 [[.i .i64 ak, .i .u64 (as_ 0), .i .u64 (as_ 1), .i .u64 (as_ 2), .i .u64 (as_ 3), .sl (ap.map cel), .i .i64 al, .i .i64 ah, .sl (S.map u4), .sl (Cs.map scC), .sl (R.map lsC), .sl (Fi.map inC), .sl (Mo.map mlC), .sl (La.map boC), .bo Em]])) (k := N) ?_ (Call_le F) ?_
    · exact ⟨0, by omega, by simp only [r3, go_sem], by simp only [r5, go_sem], by (simp only [go_sem] <;> rfl), by simpa using o28, o3⟩
    clear r3 r5 o28 o3
    rintro r e o ⟨p, hpr, r3, r5, r7, o28, o3⟩
    dsimp only [b3_2]
    (repeat (with_reducible (first | refine U_nil ?_ | refine UC_sq ?_ | refine UC_rg ?_ | refine X_nx ?_ | ((first | refine U_q (v := ?_) ?h1 ?_ | refine U_ld (v := ?_) ?h1 ?_); case h1 => ((try simp only [r3, r7, o3, hN, List.length_map, go_sem]) <;> rfl)))))
    refine UC_cdb (q := decide ((p : Int) < (N : Int))) (by simp only [go_sem]) (fun hc1 => ?_) (fun hc1 => ?_)
    · have hp : p < N := by simpa using hc1
      have hpm : p < Mo.length := by omega
      have hpp : (0 : Int) ≤ (p : Int) := by omega
      have hmp : (Mo.map mlC)[p]? = some [.sl (Mo[p].map mvC)] := by rw [List.getElem?_map, List.getElem?_eq_getElem hpm]; rfl
      have hmvp := w11 p Mo[p] (List.getElem?_eq_getElem hpm)
      have hll := hLn Mo[p] (List.getElem_mem hpm)
      have htk : Fi ++ (Mo.take (p + 1)).flatMap toL = (Fi ++ (Mo.take p).flatMap toL) ++ toL Mo[p] := by
        rw [List.take_add_one, List.getElem?_eq_getElem hpm, List.flatMap_append, List.append_assoc]
        congr 2
        simp [Option.toList]
      generalize Mo[p] = l at hmp hmvp hll htk
      generalize Fi ++ (Mo.take p).flatMap toL = acc at o28 htk
      have hwp : IntKind.i64.wrap ((p : Int) + 1) = ((p + 1 : Nat) : Int) := by rw [wrap_i64 (by omega) (by omega)]; rfl
      (repeat (with_reducible (first | refine U_nil ?_ | refine UC_sq ?_ | refine UC_rg ?_ | refine UC_bk ?_ | refine UC_sk ?_ | refine X_nx ?_ | (refine U_q (v := ?_) ?h1 ?_; case h1 => ((try simp only [go_sem]) <;> rfl)))))
      refine UC_cutx (fun e o => e 3 = .pt 3 0 0 ∧ e 5 = .rw 28 1 0 N ∧ e 7 = .i .i64 p ∧ o 28 = some (.row 1 (lsR N (acc ++ toL l))) ∧ o 3 = some (.row 15 [[.i .i64 ak, .i .u64 (as_ 0), .i .u64 (as_ 1), .i .u64 (as_ 2), .i .u64 (as_ 3), .sl (ap.map cel), .i .i64 al, .i .i64 ah, .sl (S.map u4), .sl (Cs.map scC), .sl (R.map lsC), .sl (Fi.map inC), .sl (Mo.map mlC), .sl (La.map boC), .bo Em]])) ?_ ?_
      · refine U_lp (fun r e o => ∃ i : Nat, i + r = l.length ∧ e 3 = .pt 3 0 0 ∧ e 5 = .rw 28 1 0 N ∧ e 7 = .i .i64 p ∧ e 8 = .i .i64 i ∧ o 28 = some (.row 1 (lsR N (acc ++ (toL l).take i))) ∧ o 3 = some (.row 15 [[.i .i64 ak, .i .u64 (as_ 0), .i .u64 (as_ 1), .i .u64 (as_ 2), .i .u64 (as_ 3), .sl (ap.map cel), .i .i64 al, .i .i64 ah, .sl (S.map u4), .sl (Cs.map scC), .sl (R.map lsC), .sl (Fi.map inC), .sl (Mo.map mlC), .sl (La.map boC), .bo Em]])) (k := l.length) ?_ (Call_le F) ?_
        · exact ⟨0, by omega, by simp only [r3, go_sem], by simp only [r5, go_sem], by simp only [r7, go_sem], by (simp only [go_sem] <;> rfl), by simpa using o28, o3⟩
        clear r3 r5 r7 o28 o3
        rintro r' e o ⟨i, hir, r3, r5, r7, r8, o28, o3⟩
        dsimp only [b3_1]
        (repeat (with_reducible (first | refine U_nil ?_ | refine UC_sq ?_ | refine UC_rg ?_ | refine X_nx ?_ | ((first | refine U_q (v := ?_) ?h1 ?_ | refine U_ld (v := ?_) ?h1 ?_); case h1 => ((try simp only [r3, r7, r8, o3, hpp, hmp, Int.toNat_natCast, List.length_map, go_sem]) <;> rfl)))))
        refine UC_cdb (q := decide ((i : Int) < (l.length : Int))) (by simp only [go_sem]) (fun hc2 => ?_) (fun hc2 => ?_)
        · have hi : i < l.length := by simpa using hc2
          have hip : (0 : Int) ≤ (i : Int) := by omega
          obtain ⟨h1, h2, h3, h4, _⟩ := hmvp l[i] (List.getElem_mem hi)
          have hmi : (l.map mvC)[i]? = some [.i .i64 l[i].to, .i .i64 l[i].keep, .bo l[i].again] := by rw [List.getElem?_map, List.getElem?_eq_getElem hi]; rfl
          have htl : acc ++ (toL l).take (i + 1) = (acc ++ (toL l).take i) ++ [l[i].to] := by
            rw [List.take_add_one, show (toL l)[i]? = some l[i].to from by simp [toL, hi]]
            simp
          generalize l[i] = m at h1 h2 h3 h4 hmi htl
          obtain ⟨mt, mk, ma⟩ := m
          dsimp only at h1 h2 h3 h4 hmi htl
          have hfN : mt < N := by omega
          have hfp : (0 : Int) ≤ (mt : Int) := by omega
          have hfl : ((mt : Int) < (N : Int)) = True := by simp; omega
          have hgl : (lsR N (acc ++ (toL l).take i))[mt]? = some [.bo ((acc ++ (toL l).take i).contains mt)] := by simp [lsR, hfN]
          have hse : (lsR N (acc ++ (toL l).take i)).set mt [.bo true] = lsR N (acc ++ (toL l).take (i + 1)) := by
            rw [lsR_set _ _ _ hfN, htl]
          have hwi : IntKind.i64.wrap ((i : Int) + 1) = ((i + 1 : Nat) : Int) := by rw [wrap_i64 (by omega) (by omega)]; rfl
          (repeat (with_reducible (first | refine U_nil ?_ | refine UC_sq ?_ | refine UC_rg ?_ | refine UC_bk ?_ | refine UC_sk ?_ | refine X_nx ?_ | refine B_nx ?_ | ((first | refine U_q (v := ?_) ?h1 ?_ | refine U_ld (v := ?_) ?h1 ?_); case h1 => ((try simp only [r3, r5, r7, r8, o3, o28, hpp, hmp, hip, hmi, hfp, hfl, hgl, hse, hwi, Int.toNat_natCast, List.take_succ_cons, List.take_zero, List.drop_succ_cons, List.drop_zero, go_sem]) <;> rfl)) | (refine U_sto (id := ?_) (i := ?_) (j := ?_) (q := ?_) (es := ?_) (cs := ?_) (vs := ?_) (es' := ?_) ?h1 ?h2 ?h3 ?h4 ?h5 ?h6 ?h7 ?_; case h1 | h2 | h3 | h4 | h5 | h6 | h7 => ((try simp only [r3, r5, r7, r8, o3, o28, hpp, hmp, hip, hmi, hfp, hfl, hgl, hse, hwi, Int.toNat_natCast, List.take_succ_cons, List.take_zero, List.drop_succ_cons, List.drop_zero, go_sem]) <;> rfl)))))
          exact ⟨r' - 1, by omega, i + 1, by omega, by simp only [r3, go_sem], by simp only [r5, go_sem], by simp only [r7, go_sem], by simp only [go_sem], by simp only [go_sem], by simp only [o3, go_sem]⟩
        · have hi : i = l.length := by
            have : ¬ i < l.length := by simpa using hc2
            omega
          subst hi
          rw [List.take_of_length_le (by simp [toL])] at o28
          (repeat (with_reducible (first | refine UC_ex ?_ | refine X_ex ?_)))
          exact ⟨rfl, by simp only [r3, go_sem], by simp only [r5, go_sem], by simp only [r7, go_sem], o28, o3⟩
      · clear r3 r5 r7 o28 o3
        rintro e o ⟨r3, r5, r7, o28, o3⟩
        rw [← htk] at o28
        (repeat (with_reducible (first | refine U_nil ?_ | refine UC_rg ?_ | refine X_nx ?_ | refine B_nx ?_ | (refine U_q (v := ?_) ?h1 ?_; case h1 => ((try simp only [r7, hwp, go_sem]) <;> rfl)))))
        exact ⟨r - 1, by omega, p + 1, by omega, by simp only [r3, go_sem], by simp only [r5, go_sem], by simp only [go_sem], o28, o3⟩
    · have hp : p = N := by
        have : ¬ p < N := by simpa using hc1
        omega
      subst hp
      rw [← hN, List.take_length] at o28
      (repeat (with_reducible (first | refine UC_ex ?_ | refine X_ex ?_)))
      exact ⟨rfl, by simp only [r3, go_sem], by simp only [r5, go_sem], by rw [hN] at o28; exact o28, o3⟩
  clear r3 r5 o28 o3
  rintro e o ⟨r3, r5, o28, o3⟩
  (repeat (with_reducible (first | refine U_nil ?_ | refine UC_sq ?_ | refine UC_rg ?_ | refine UC_bk ?_ | refine X_nx ?_ | (refine U_q (v := ?_) ?h1 ?_; case h1 => ((try simp only [go_sem]) <;> rfl)))))
  -- every position
  refine UC_cutx (fun e o => True) ?_ ?_
  · refine U_lp (fun r e o => ∃ p : Nat, p + r = N + 1 ∧ 0 < p ∧ e 3 = .pt 3 0 0 ∧ e 5 = .rw 28 1 0 N ∧ e 9 = .i .i64 p ∧ o 28 = some (.row 1 (lsR N (Fi ++ Mo.flatMap toL))) ∧ o 3 = some (.row 15 [[.i .i64 ak, .i .u64 (as_ 0), .i .u64 (as_ 1), .i .u64 (as_ 2), .i .u64 (as_ 3), .sl (ap.map cel), .i .i64 al, .i .i64 ah, .sl (S.map u4), .sl (Cs.map scC), .sl (R.map lsC), .sl (Fi.map inC), .sl (Mo.map mlC), .sl (La.map boC), .bo Em]])) (k := N) ?_ (Call_le F) ?_
    · exact ⟨1, by omega, by omega, by simp only [r3, go_sem], by simp only [r5, go_sem], by (simp only [go_sem] <;> rfl), o28, o3⟩
    clear r3 r5 o28 o3
    rintro r e o ⟨p, hpr, h0, r3, r5, r9, o28, o3⟩
    dsimp only [b3_3]
    (repeat (with_reducible (first | refine U_nil ?_ | refine UC_sq ?_ | refine UC_rg ?_ | refine X_nx ?_ | ((first | refine U_q (v := ?_) ?h1 ?_ | refine U_ld (v := ?_) ?h1 ?_); case h1 => ((try simp only [r3, r9, o3, hN, List.length_map, go_sem]) <;> rfl)))))
    refine UC_cdb (q := decide ((p : Int) < (N : Int))) (by simp only [go_sem]) (fun hc1 => ?_) (fun hc1 => ?_)
    · have hp : p < N := by simpa using hc1
      have hpm : p < Mo.length := by omega
      have hpl : p < La.length := by omega
      have hpp : (0 : Int) ≤ (p : Int) := by omega
      obtain ⟨q1, q2⟩ := hR p h0 (by omega)
      have hin : (Fi ++ Mo.flatMap toL).contains p = true := by
        rw [List.contains_eq_mem, decide_eq_true_eq, List.mem_append]
        rcases q1 with q1 | ⟨a, l, m, g1, g2, g3⟩
        · exact .inl q1
        · exact .inr (List.mem_flatMap.2 ⟨l, List.mem_of_getElem? g1, List.mem_map.2 ⟨m, g2, g3⟩⟩)
      have hgl : (lsR N (Fi ++ Mo.flatMap toL))[p]? = some [.bo true] := by
        rw [← hin]; simp [lsR, hp]
      have hmp : (Mo.map mlC)[p]? = some [.sl (Mo[p].map mvC)] := by rw [List.getElem?_map, List.getElem?_eq_getElem hpm]; rfl
      have hla : (La.map boC)[p]? = some [.bo La[p]] := by rw [List.getElem?_map, List.getElem?_eq_getElem hpl]; rfl
      have hwp : IntKind.i64.wrap ((p : Int) + 1) = ((p + 1 : Nat) : Int) := by rw [wrap_i64 (by omega) (by omega)]; rfl
      have hpN2 : ((p : Int) < (N : Int)) = True := by simp; omega
      have q3 : La[p] = true ∨ Mo[p] ≠ [] := by
        rcases q2 with q2 | ⟨l, q2, q3⟩
        · left; rw [List.getElem?_eq_getElem hpl] at q2; simpa using q2
        · right; rw [List.getElem?_eq_getElem hpm] at q2; cases q2; exact q3
      generalize Mo[p] = l at hmp q3
      generalize La[p] = b at hla q3
      cases b with
      | true =>
        (repeat (with_reducible (first | refine U_nil ?_ | refine UC_sq ?_ | refine UC_rg ?_ | refine UC_bk ?_ | refine UC_sk ?_ | refine X_nx ?_ | refine B_nx ?_ | ((first | refine U_q (v := ?_) ?h1 ?_ | refine U_ld (v := ?_) ?h1 ?_); case h1 => ((try simp only [r3, r5, r9, o3, o28, hpp, hpN2, hgl, hmp, hla, hwp, Int.toNat_natCast, List.length_map, List.take_succ_cons, List.take_zero, List.drop_succ_cons, List.drop_zero, go_sem]) <;> rfl)) | (refine U_gt ?h1 ?_; case h1 => ((try simp only [r3, r5, r9, o3, o28, hpp, hpN2, hgl, hmp, hla, hwp, Int.toNat_natCast, List.length_map, List.take_succ_cons, List.take_zero, List.drop_succ_cons, List.drop_zero, go_sem]) <;> rfl)) | (refine U_gs2 ?h1 ?_; case h1 => ((try simp only [r3, r5, r9, o3, o28, hpp, hpN2, hgl, hmp, hla, hwp, Int.toNat_natCast, List.length_map, List.take_succ_cons, List.take_zero, List.drop_succ_cons, List.drop_zero, go_sem]) <;> rfl)) | (refine UC_cdf ?h1 ?_; case h1 => ((try simp only [r3, r5, r9, o3, o28, hpp, hpN2, hgl, hmp, hla, hwp, Int.toNat_natCast, List.length_map, List.take_succ_cons, List.take_zero, List.drop_succ_cons, List.drop_zero, go_sem]) <;> rfl)) | rw [put_some])))
        exact ⟨r - 1, by omega, p + 1, by omega, by omega, by simp only [r3, go_sem], by simp only [r5, go_sem], by simp only [go_sem], o28, o3⟩
      | false =>
        have hl0 : ((l.length : Int) == 0) = false := by
          rcases q3 with q3 | q3
          · cases q3
          · have : l.length ≠ 0 := fun hh => q3 (List.eq_nil_of_length_eq_zero hh)
            simp; omega
        (repeat (with_reducible (first | refine U_nil ?_ | refine UC_sq ?_ | refine UC_rg ?_ | refine UC_bk ?_ | refine UC_sk ?_ | refine X_nx ?_ | refine B_nx ?_ | ((first | refine U_q (v := ?_) ?h1 ?_ | refine U_ld (v := ?_) ?h1 ?_); case h1 => ((try simp only [r3, r5, r9, o3, o28, hpp, hpN2, hgl, hmp, hla, hwp, hl0, Int.toNat_natCast, List.length_map, List.take_succ_cons, List.take_zero, List.drop_succ_cons, List.drop_zero, go_sem]) <;> rfl)) | (refine U_gt ?h1 ?_; case h1 => ((try simp only [r3, r5, r9, o3, o28, hpp, hpN2, hgl, hmp, hla, hwp, hl0, Int.toNat_natCast, List.length_map, List.take_succ_cons, List.take_zero, List.drop_succ_cons, List.drop_zero, go_sem]) <;> rfl)) | (refine UC_cdf ?h1 ?_; case h1 => ((try simp only [r3, r5, r9, o3, o28, hpp, hpN2, hgl, hmp, hla, hwp, hl0, Int.toNat_natCast, List.length_map, List.take_succ_cons, List.take_zero, List.drop_succ_cons, List.drop_zero, go_sem]) <;> rfl)))))
        exact ⟨r - 1, by omega, p + 1, by omega, by omega, by simp only [r3, go_sem], by simp only [r5, go_sem], by simp only [go_sem], o28, o3⟩
    · (repeat (with_reducible (first | refine UC_ex ?_ | refine X_ex ?_)))
      exact ⟨rfl, trivial⟩
  rintro e o _
  (repeat (with_reducible (first | refine U_nil ?_ | refine UC_sq ?_ | refine UC_rg ?_ | refine UC_rt ?_ | refine X_nx ?_ | ((first | refine U_q (v := ?_) ?h1 ?_ | refine E_1 (v := ?_) ?h1 ?_); case h1 => ((try simp only [go_sem]) <;> rfl)))))
  rfl

end Go.Proofs.Ytcnmcbkmfmcdjaa
