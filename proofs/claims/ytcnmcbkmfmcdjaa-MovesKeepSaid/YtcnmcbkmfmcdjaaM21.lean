import Derived.Test.YtcnmcbkmfmcdjaaM20

/-
  MovesKeep answers true.
-/
namespace Go.Proofs.Ytcnmcbkmfmcdjaa
set_option linter.all false
attribute [-go_sem] swpOb renOb rfOb V.cells

theorem ml_cld (l : List (List Mv)) : cldLL (l.map mlC) = true := cldLL_map (fun x => by
  rw [mlC, cldL, cld, cldLL_map (fun _ => rfl)]; rfl) l
theorem bo_cld (l : List Bool) : cldLL (l.map boC) = true := cldLL_map (fun _ => rfl) l

theorem keep_law (n : Nd) (hs : small n) : Pu F 6 [.ag (cel n)] (.bo true) := by
  have hsz : Pu F 9 [.ag (cel n), .i .i64 100] (.i .i64 (sizeF n 100)) := size_ok n hs 100 (by omega) (by omega) emp _ (fun _ => rfl)
  have haw := awake_pu
  refine U_pure e6 rfl rfl (by simp only [go_sem, Bool.and_true]) ?_
  dsimp only [fn6, c6]
  by_cases hA : sizeF n 100 > 100
  · have hA1 : decide (sizeF n 100 > 100) = true := by simpa using hA
    (repeat' (first | (with_reducible (first | refine U_nil ?_ | refine UC_sq ?_ | refine UC_rg ?_ | refine UC_rt ?_ | refine X_nx ?_ | refine X_rt ?_ | ((first | refine U_q (v := ?_) ?h1 ?_ | refine U_ld (v := ?_) ?h1 ?_ | refine E_1 (v := ?_) ?h1 ?_); case h1 => ((try simp only [hA1, List.take_succ_cons, List.take_zero, List.drop_succ_cons, List.drop_zero, go_sem]) <;> rfl)) | (refine U_box (cs := ?_) (cs' := ?_) (n := ?_) ?h1 ?h2 ?h3 ?h4 ?_; case h1 | h2 | h3 | h4 => ((try simp only [hA1, List.take_succ_cons, List.take_zero, List.drop_succ_cons, List.drop_zero, go_sem]) <;> rfl)) | (refine U_gt ?h1 ?_; case h1 => ((try simp only [hA1, List.take_succ_cons, List.take_zero, List.drop_succ_cons, List.drop_zero, go_sem]) <;> rfl)) | (refine UC_cdt ?h1 ?_; case h1 => ((try simp only [hA1, List.take_succ_cons, List.take_zero, List.drop_succ_cons, List.drop_zero, go_sem]) <;> rfl)))) | ((with_reducible refine U_pc (g := 8) (r := .bo true) (vs := ?_) (ws := ?_) ?h1 ?h2 ?h3 ?h4 ?h5 ?_); (case h1 => ((try simp only [hA1, List.take_succ_cons, List.take_zero, List.drop_succ_cons, List.drop_zero, go_sem]) <;> rfl)); (case h2 => refine fzsU_ok ?_; first | rfl | simp only [List.all_cons, List.all_nil, Bool.and_true, go_sem]); (case h5 => exact haw); (case h3 => first | exact Bool.or_eq_true_iff.2 (.inr rfl) | (refine Bool.or_eq_true_iff.2 (.inl ?_); simp only [clos, List.all_cons, List.all_nil, Bool.and_true, go_sem])); (case h4 => first | rfl | simp only [go_sem, Bool.and_true])) | ((with_reducible refine U_pc (g := 9) (r := .i .i64 (sizeF n 100)) (vs := ?_) (ws := ?_) ?h1 ?h2 ?h3 ?h4 ?h5 ?_); (case h1 => ((try simp only [hA1, List.take_succ_cons, List.take_zero, List.drop_succ_cons, List.drop_zero, go_sem]) <;> rfl)); (case h2 => refine fzsU_ok ?_; first | rfl | simp only [List.all_cons, List.all_nil, Bool.and_true, go_sem]); (case h5 => exact hsz); (case h3 => first | exact Bool.or_eq_true_iff.2 (.inr rfl) | (refine Bool.or_eq_true_iff.2 (.inl ?_); simp only [clos, List.all_cons, List.all_nil, Bool.and_true, go_sem])); (case h4 => first | rfl | simp only [go_sem, Bool.and_true])) | with_reducible (refine U_gb (q := ?_) ?h1 (fun _ => ?_) (fun _ => ?_); case h1 => ((try simp only [hA1, List.take_succ_cons, List.take_zero, List.drop_succ_cons, List.drop_zero, go_sem]) <;> rfl)) | with_reducible (refine UC_cdb (q := ?_) ?h1 (fun _ => ?_) (fun _ => ?_); case h1 => ((try simp only [hA1, List.take_succ_cons, List.take_zero, List.drop_succ_cons, List.drop_zero, go_sem]) <;> rfl))))
    rfl
  have hA1 : decide (sizeF n 100 > 100) = false := by simpa using hA
  have hc : cntN n ≤ 900 := by
    have := sizeF_cnt n 100 (by omega) (by omega)
    omega
  obtain ⟨A, er, hM, hA2⟩ := make_pu n hs hc
  rcases hA2 with ⟨h0, rfl⟩ | ⟨rfl, hf, hfs, hAm, hW, hLn⟩
  · have her : (er != 0) = true := by simpa using h0
    have hp : V.ag (auC noA) = .ag [.i .i64 0, .i .u64 0, .i .u64 0, .i .u64 0, .i .u64 0, .sl [], .i .i64 0, .i .i64 0, .sl [], .sl [], .sl [], .sl [], .sl [], .sl [], .bo false] := rfl
    rw [hp] at hM
    (repeat' (first | (with_reducible (first | refine U_nil ?_ | refine UC_sq ?_ | refine UC_rg ?_ | refine UC_sk ?_ | refine UC_rt ?_ | refine X_nx ?_ | refine X_rt ?_ | ((first | refine U_q (v := ?_) ?h1 ?_ | refine U_ld (v := ?_) ?h1 ?_ | refine E_1 (v := ?_) ?h1 ?_ | refine U_alc (n := ?_) ?h1 ?_); case h1 => ((try simp only [hA1, her, List.take_succ_cons, List.take_zero, List.drop_succ_cons, List.drop_zero, go_sem]) <;> rfl)) | (refine U_box (cs := ?_) (cs' := ?_) (n := ?_) ?h1 ?h2 ?h3 ?h4 ?_; case h1 | h2 | h3 | h4 => ((try simp only [hA1, her, List.take_succ_cons, List.take_zero, List.drop_succ_cons, List.drop_zero, go_sem]) <;> rfl)) | (refine U_sto (id := ?_) (i := ?_) (j := ?_) (q := ?_) (es := ?_) (cs := ?_) (vs := ?_) (es' := ?_) ?h1 ?h2 ?h3 ?h4 ?h5 ?h6 ?h7 ?_; case h1 | h2 | h3 | h4 | h5 | h6 | h7 => ((try simp only [hA1, her, List.take_succ_cons, List.take_zero, List.drop_succ_cons, List.drop_zero, go_sem]) <;> rfl)) | (refine U_gt ?h1 ?_; case h1 => ((try simp only [hA1, her, List.take_succ_cons, List.take_zero, List.drop_succ_cons, List.drop_zero, go_sem]) <;> rfl)) | (refine UC_cdt ?h1 ?_; case h1 => ((try simp only [hA1, her, List.take_succ_cons, List.take_zero, List.drop_succ_cons, List.drop_zero, go_sem]) <;> rfl)) | (refine UC_cdf ?h1 ?_; case h1 => ((try simp only [hA1, her, List.take_succ_cons, List.take_zero, List.drop_succ_cons, List.drop_zero, go_sem]) <;> rfl)))) | ((with_reducible refine U_pc (g := 8) (r := .bo true) (vs := ?_) (ws := ?_) ?h1 ?h2 ?h3 ?h4 ?h5 ?_); (case h1 => ((try simp only [hA1, her, List.take_succ_cons, List.take_zero, List.drop_succ_cons, List.drop_zero, go_sem]) <;> rfl)); (case h2 => refine fzsU_ok ?_; first | rfl | simp only [List.all_cons, List.all_nil, Bool.and_true, go_sem]); (case h5 => exact haw); (case h3 => first | exact Bool.or_eq_true_iff.2 (.inr rfl) | (refine Bool.or_eq_true_iff.2 (.inl ?_); simp only [clos, List.all_cons, List.all_nil, Bool.and_true, go_sem])); (case h4 => first | rfl | simp only [go_sem, Bool.and_true])) | ((with_reducible refine U_pc (g := 9) (r := .i .i64 (sizeF n 100)) (vs := ?_) (ws := ?_) ?h1 ?h2 ?h3 ?h4 ?h5 ?_); (case h1 => ((try simp only [hA1, her, List.take_succ_cons, List.take_zero, List.drop_succ_cons, List.drop_zero, go_sem]) <;> rfl)); (case h2 => refine fzsU_ok ?_; first | rfl | simp only [List.all_cons, List.all_nil, Bool.and_true, go_sem]); (case h5 => exact hsz); (case h3 => first | exact Bool.or_eq_true_iff.2 (.inr rfl) | (refine Bool.or_eq_true_iff.2 (.inl ?_); simp only [clos, List.all_cons, List.all_nil, Bool.and_true, go_sem])); (case h4 => first | rfl | simp only [go_sem, Bool.and_true])) | ((with_reducible refine U_pc (g := 10) (r := .tp [.ag [.i .i64 0, .i .u64 0, .i .u64 0, .i .u64 0, .i .u64 0, .sl [], .i .i64 0, .i .i64 0, .sl [], .sl [], .sl [], .sl [], .sl [], .sl [], .bo false], .i .i64 er]) (vs := ?_) (ws := ?_) ?h1 ?h2 ?h3 ?h4 ?h5 ?_); (case h1 => ((try simp only [hA1, her, List.take_succ_cons, List.take_zero, List.drop_succ_cons, List.drop_zero, go_sem]) <;> rfl)); (case h2 => refine fzsU_ok ?_; first | rfl | simp only [List.all_cons, List.all_nil, Bool.and_true, go_sem]); (case h5 => exact hM); (case h3 => first | exact Bool.or_eq_true_iff.2 (.inr rfl) | (refine Bool.or_eq_true_iff.2 (.inl ?_); simp only [clos, List.all_cons, List.all_nil, Bool.and_true, go_sem])); (case h4 => first | rfl | simp only [go_sem, Bool.and_true])) | with_reducible (refine U_gb (q := ?_) ?h1 (fun _ => ?_) (fun _ => ?_); case h1 => ((try simp only [hA1, her, List.take_succ_cons, List.take_zero, List.drop_succ_cons, List.drop_zero, go_sem]) <;> rfl)) | with_reducible (refine UC_cdb (q := ?_) ?h1 (fun _ => ?_) (fun _ => ?_); case h1 => ((try simp only [hA1, her, List.take_succ_cons, List.take_zero, List.drop_succ_cons, List.drop_zero, go_sem]) <;> rfl))))
    rfl
  clear hAm
  obtain ⟨⟨ak, as_, ap, al, ah⟩, S, Cs, R, Fi, Mo, La, Em⟩ := A
  obtain ⟨w1, w2, w3, w4, w5, w6, w7, w8, w9, w10, w11, w12⟩ := hW
  dsimp only at w1 w2 w3 w4 w5 w6 w7 w8 w9 w10 w11 w12 hLn
  simp only [auC, mpC, cel_mk, nd8, List.cons_append, List.nil_append] at hM
  (repeat' (first | (with_reducible (first | refine U_nil ?_ | refine UC_sq ?_ | refine UC_rg ?_ | refine UC_sk ?_ | refine X_nx ?_ | ((first | refine U_q (v := ?_) ?h1 ?_ | refine U_ld (v := ?_) ?h1 ?_); case h1 => ((try simp only [hA1, List.take_succ_cons, List.take_zero, List.drop_succ_cons, List.drop_zero, go_sem]) <;> rfl)) | (refine U_box (cs := ?_) (cs' := ?_) (n := ?_) ?h1 ?h2 ?h3 ?h4 ?_; case h1 | h2 | h3 | h4 => ((try simp only [hA1, List.take_succ_cons, List.take_zero, List.drop_succ_cons, List.drop_zero, go_sem]) <;> rfl)) | (refine U_gt ?h1 ?_; case h1 => ((try simp only [hA1, List.take_succ_cons, List.take_zero, List.drop_succ_cons, List.drop_zero, go_sem]) <;> rfl)) | (refine UC_cdf ?h1 ?_; case h1 => ((try simp only [hA1, List.take_succ_cons, List.take_zero, List.drop_succ_cons, List.drop_zero, go_sem]) <;> rfl)))) | ((with_reducible refine U_pc (g := 8) (r := .bo true) (vs := ?_) (ws := ?_) ?h1 ?h2 ?h3 ?h4 ?h5 ?_); (case h1 => ((try simp only [hA1, List.take_succ_cons, List.take_zero, List.drop_succ_cons, List.drop_zero, go_sem]) <;> rfl)); (case h2 => refine fzsU_ok ?_; first | rfl | simp only [List.all_cons, List.all_nil, Bool.and_true, go_sem]); (case h5 => exact haw); (case h3 => first | exact Bool.or_eq_true_iff.2 (.inr rfl) | (refine Bool.or_eq_true_iff.2 (.inl ?_); simp only [clos, List.all_cons, List.all_nil, Bool.and_true, go_sem])); (case h4 => first | rfl | simp only [go_sem, Bool.and_true])) | ((with_reducible refine U_pc (g := 9) (r := .i .i64 (sizeF n 100)) (vs := ?_) (ws := ?_) ?h1 ?h2 ?h3 ?h4 ?h5 ?_); (case h1 => ((try simp only [hA1, List.take_succ_cons, List.take_zero, List.drop_succ_cons, List.drop_zero, go_sem]) <;> rfl)); (case h2 => refine fzsU_ok ?_; first | rfl | simp only [List.all_cons, List.all_nil, Bool.and_true, go_sem]); (case h5 => exact hsz); (case h3 => first | exact Bool.or_eq_true_iff.2 (.inr rfl) | (refine Bool.or_eq_true_iff.2 (.inl ?_); simp only [clos, List.all_cons, List.all_nil, Bool.and_true, go_sem])); (case h4 => first | rfl | simp only [go_sem, Bool.and_true])) | with_reducible (refine U_gb (q := ?_) ?h1 (fun _ => ?_) (fun _ => ?_); case h1 => ((try simp only [hA1, List.take_succ_cons, List.take_zero, List.drop_succ_cons, List.drop_zero, go_sem]) <;> rfl)) | with_reducible (refine UC_cdb (q := ?_) ?h1 (fun _ => ?_) (fun _ => ?_); case h1 => ((try simp only [hA1, List.take_succ_cons, List.take_zero, List.drop_succ_cons, List.drop_zero, go_sem]) <;> rfl))))
  refine U_pc (vs := [.ag (cel n)]) (ws := [.ag (cel n)]) (by simp only [go_sem]) (fzsU_ok (by simp only [List.all_cons, List.all_nil, Bool.and_true, go_sem])) (Bool.or_eq_true_iff.2 (.inl (by simp only [clos, List.all_cons, List.all_nil, Bool.and_true, go_sem]))) ?_ hM ?_
  · simp only [go_sem, u4_cld, sc_cld, ls_cld, cldLL_in, ml_cld, bo_cld, Bool.and_true]
  (repeat (with_reducible (first | refine U_nil ?_ | refine UC_sq ?_ | refine UC_rg ?_ | refine UC_bk ?_ | refine UC_sk ?_ | refine X_nx ?_ | ((first | refine U_q (v := ?_) ?h1 ?_ | refine U_alc (n := ?_) ?h1 ?_); case h1 => ((try simp only [List.length_map, List.take_succ_cons, List.take_zero, List.drop_succ_cons, List.drop_zero, go_sem]) <;> rfl)) | (refine U_sto (id := ?_) (i := ?_) (j := ?_) (q := ?_) (es := ?_) (cs := ?_) (vs := ?_) (es' := ?_) ?h1 ?h2 ?h3 ?h4 ?h5 ?h6 ?h7 ?_; case h1 | h2 | h3 | h4 | h5 | h6 | h7 => ((try simp only [List.length_map, List.take_succ_cons, List.take_zero, List.drop_succ_cons, List.drop_zero, go_sem]) <;> rfl)) | (refine UC_cdf ?h1 ?_; case h1 => ((try simp only [List.length_map, List.take_succ_cons, List.take_zero, List.drop_succ_cons, List.drop_zero, go_sem]) <;> rfl)))))
  refine U_lp (fun r e o => ∃ p : Nat, p + r = Mo.length ∧ e 3 = .pt 3 0 0 ∧ e 5 = .i .i64 p ∧ o 3 = some (.row 15 [[.i .i64 ak, .i .u64 (as_ 0), .i .u64 (as_ 1), .i .u64 (as_ 2), .i .u64 (as_ 3), .sl (ap.map cel), .i .i64 al, .i .i64 ah, .sl (S.map u4), .sl (Cs.map scC), .sl (R.map lsC), .sl (Fi.map inC), .sl (Mo.map mlC), .sl (La.map boC), .bo Em]])) (k := Mo.length) ?_ (Call_le F) ?_
  · exact ⟨0, by omega, by simp only [go_sem], by (simp only [go_sem] <;> rfl), by simp only [go_sem]⟩
  rintro r e o ⟨p, hpr, r3, r5, o3⟩
  dsimp only [b6_2]
  (repeat (with_reducible (first | refine U_nil ?_ | refine UC_sq ?_ | refine UC_rg ?_ | refine X_nx ?_ | ((first | refine U_q (v := ?_) ?h1 ?_ | refine U_ld (v := ?_) ?h1 ?_); case h1 => ((try simp only [r3, r5, o3, List.length_map, go_sem]) <;> rfl)))))
  refine UC_cdb (q := decide ((p : Int) < (Mo.length : Int))) (by simp only [go_sem]) (fun hc1 => ?_) (fun hc1 => ?_)
  · have hp : p < Mo.length := by simpa using hc1
    have hpp : (0 : Int) ≤ (p : Int) := by omega
    have hmp : (Mo.map mlC)[p]? = some [.sl (Mo[p].map mvC)] := by rw [List.getElem?_map, List.getElem?_eq_getElem hp]; rfl
    have hmvp := w11 p Mo[p] (List.getElem?_eq_getElem hp)
    have hll := hLn Mo[p] (List.getElem_mem hp)
    generalize Mo[p] = l at hmp hmvp hll
    have hwp : IntKind.i64.wrap ((p : Int) + 1) = ((p + 1 : Nat) : Int) := by rw [wrap_i64 (by omega) (by omega)]; rfl
    (repeat (with_reducible (first | refine U_nil ?_ | refine UC_sq ?_ | refine UC_rg ?_ | refine UC_bk ?_ | refine UC_sk ?_ | refine X_nx ?_ | (refine U_q (v := ?_) ?h1 ?_; case h1 => ((try simp only [r3, r5, o3, hpp, hmp, Int.toNat_natCast, go_sem]) <;> rfl)))))
    refine UC_cutx (fun e o => e 3 = .pt 3 0 0 ∧ e 5 = .i .i64 p ∧ o 3 = some (.row 15 [[.i .i64 ak, .i .u64 (as_ 0), .i .u64 (as_ 1), .i .u64 (as_ 2), .i .u64 (as_ 3), .sl (ap.map cel), .i .i64 al, .i .i64 ah, .sl (S.map u4), .sl (Cs.map scC), .sl (R.map lsC), .sl (Fi.map inC), .sl (Mo.map mlC), .sl (La.map boC), .bo Em]])) ?_ ?_
    · refine U_lp (fun r e o => ∃ i : Nat, i + r = l.length ∧ e 3 = .pt 3 0 0 ∧ e 5 = .i .i64 p ∧ e 6 = .i .i64 i ∧ o 3 = some (.row 15 [[.i .i64 ak, .i .u64 (as_ 0), .i .u64 (as_ 1), .i .u64 (as_ 2), .i .u64 (as_ 3), .sl (ap.map cel), .i .i64 al, .i .i64 ah, .sl (S.map u4), .sl (Cs.map scC), .sl (R.map lsC), .sl (Fi.map inC), .sl (Mo.map mlC), .sl (La.map boC), .bo Em]])) (k := l.length) ?_ (Call_le F) ?_
      · exact ⟨0, by omega, by simp only [r3, go_sem], by simp only [r5, go_sem], by (simp only [go_sem] <;> rfl), o3⟩
      clear r3 r5 o3
      rintro r' e o ⟨i, hir, r3, r5, r6, o3⟩
      dsimp only [b6_1]
      (repeat (with_reducible (first | refine U_nil ?_ | refine UC_sq ?_ | refine UC_rg ?_ | refine X_nx ?_ | ((first | refine U_q (v := ?_) ?h1 ?_ | refine U_ld (v := ?_) ?h1 ?_); case h1 => ((try simp only [r3, r5, r6, o3, hpp, hmp, Int.toNat_natCast, List.length_map, go_sem]) <;> rfl)))))
      refine UC_cdb (q := decide ((i : Int) < (l.length : Int))) (by simp only [go_sem]) (fun hc2 => ?_) (fun hc2 => ?_)
      · have hi : i < l.length := by simpa using hc2
        have hip : (0 : Int) ≤ (i : Int) := by omega
        obtain ⟨h1, h2, h3, h4, lp, lt, pre, h5, h6, h7, h8, h9⟩ := hmvp l[i] (List.getElem_mem hi)
        have hmi : (l.map mvC)[i]? = some [.i .i64 l[i].to, .i .i64 l[i].keep, .bo l[i].again] := by rw [List.getElem?_map, List.getElem?_eq_getElem hi]; rfl
        generalize l[i] = m at h1 h2 h3 h4 h5 h6 h7 h8 h9 hmi
        obtain ⟨mt, mk, ma⟩ := m
        dsimp only at h1 h2 h3 h4 h5 h6 h7 h8 h9 hmi
        have har : (R.map lsC)[p]? = some [.sl (lp.map inC)] := by rw [List.getElem?_map, h5]; rfl
        have hat : (R.map lsC)[mt]? = some [.sl (lt.map inC)] := by rw [List.getElem?_map, h6]; rfl
        have htp : (0 : Int) ≤ (mt : Int) := by omega
        have hlp := w7 lp (List.mem_of_getElem? h5)
        have hl7 := h7.length_le
        have hl8 := h8.length_le
        have hwi : IntKind.i64.wrap ((i : Int) + 1) = ((i + 1 : Nat) : Int) := by rw [wrap_i64 (by omega) (by omega)]; rfl
        have hwk : IntKind.i64.wrap ((mk : Int) + 1) = ((mk + 1 : Nat) : Int) := by rw [wrap_i64 (by omega) (by omega)]; rfl
        (repeat (with_reducible (first | refine U_nil ?_ | refine UC_sq ?_ | refine UC_rg ?_ | refine UC_bk ?_ | refine UC_sk ?_ | refine X_nx ?_ | ((first | refine U_q (v := ?_) ?h1 ?_ | refine U_ld (v := ?_) ?h1 ?_ | refine U_alc (n := ?_) ?h1 ?_); case h1 => ((try simp only [r3, r5, r6, o3, hpp, hmp, hip, hmi, Int.toNat_natCast, List.take_succ_cons, List.take_zero, List.drop_succ_cons, List.drop_zero, go_sem]) <;> rfl)) | (refine U_sto (id := ?_) (i := ?_) (j := ?_) (q := ?_) (es := ?_) (cs := ?_) (vs := ?_) (es' := ?_) ?h1 ?h2 ?h3 ?h4 ?h5 ?h6 ?h7 ?_; case h1 | h2 | h3 | h4 | h5 | h6 | h7 => ((try simp only [r3, r5, r6, o3, hpp, hmp, hip, hmi, Int.toNat_natCast, List.take_succ_cons, List.take_zero, List.drop_succ_cons, List.drop_zero, go_sem]) <;> rfl)))))
        obtain ⟨nn, hnn⟩ : ∃ nn : Nat, nn = mk + (if ma then 1 else 0) := ⟨_, rfl⟩
        rw [← hnn] at h9
        refine UC_cut (fun e o => e 3 = .pt 3 0 0 ∧ e 5 = .i .i64 p ∧ e 6 = .i .i64 i ∧ e 7 = .pt 7 0 0 ∧ e 8 = .i .i64 nn ∧ o 7 = some (.row 3 [[.i .i64 mt, .i .i64 mk, .bo ma]]) ∧ o 3 = some (.row 15 [[.i .i64 ak, .i .u64 (as_ 0), .i .u64 (as_ 1), .i .u64 (as_ 2), .i .u64 (as_ 3), .sl (ap.map cel), .i .i64 al, .i .i64 ah, .sl (S.map u4), .sl (Cs.map scC), .sl (R.map lsC), .sl (Fi.map inC), .sl (Mo.map mlC), .sl (La.map boC), .bo Em]])) ?_ ?_
        · cases ma
          · rw [if_neg (by decide), Nat.add_zero] at hnn
            subst hnn
            (repeat (with_reducible (first | refine UC_sk ?_ | (refine UC_cdf ?h1 ?_; case h1 => ((try simp only [go_sem]) <;> rfl)))))
            exact ⟨rfl, by simp only [r3, go_sem], by simp only [r5, go_sem], by simp only [r6, go_sem], by simp only [go_sem], by simp only [go_sem], by simp only [go_sem], by simp only [o3, go_sem]⟩
          · rw [if_pos rfl] at hnn
            subst hnn
            (repeat (with_reducible (first | refine U_nil ?_ | refine UC_rg ?_ | (refine U_q (v := ?_) ?h1 ?_; case h1 => ((try simp only [hwk, go_sem]) <;> rfl)) | (refine UC_cdt ?h1 ?_; case h1 => ((try simp only [hwk, go_sem]) <;> rfl)))))
            exact ⟨rfl, by simp only [r3, go_sem], by simp only [r5, go_sem], by simp only [r6, go_sem], by simp only [go_sem], by simp only [go_sem], by simp only [go_sem], by simp only [o3, go_sem]⟩
        clear r3 r5 r6 o3
        rintro e o ⟨r3, r5, r6, r7, r8, o7, o3⟩
        have c1 : decide ((p : Int) < 1) = false := by simp; omega
        have c2 : decide ((mt : Int) < 1) = false := by simp; omega
        have c3 : decide ((mt : Int) ≥ (R.length : Int)) = false := by simp; omega
        have c4 : decide ((mk : Int) < 0) = false := by simp
        have c5 : decide ((nn : Int) > (lp.length : Int)) = false := by simp; omega
        have c6 : decide ((nn : Int) > (lt.length : Int)) = false := by simp; omega
        (repeat (with_reducible (first | refine U_nil ?_ | refine UC_sq ?_ | refine UC_rg ?_ | refine UC_bk ?_ | refine UC_sk ?_ | refine X_nx ?_ | ((first | refine U_q (v := ?_) ?h1 ?_ | refine U_ld (v := ?_) ?h1 ?_); case h1 => ((try simp only [r3, r5, r6, r7, r8, o7, o3, hpp, har, hat, htp, c1, c2, c3, c4, c5, c6, Int.toNat_natCast, List.length_map, List.take_succ_cons, List.take_zero, List.drop_succ_cons, List.drop_zero, go_sem]) <;> rfl)) | (refine U_gt ?h1 ?_; case h1 => ((try simp only [r3, r5, r6, r7, r8, o7, o3, hpp, har, hat, htp, c1, c2, c3, c4, c5, c6, Int.toNat_natCast, List.length_map, List.take_succ_cons, List.take_zero, List.drop_succ_cons, List.drop_zero, go_sem]) <;> rfl)) | (refine UC_cdf ?h1 ?_; case h1 => ((try simp only [r3, r5, r6, r7, r8, o7, o3, hpp, har, hat, htp, c1, c2, c3, c4, c5, c6, Int.toNat_natCast, List.length_map, List.take_succ_cons, List.take_zero, List.drop_succ_cons, List.drop_zero, go_sem]) <;> rfl)))))
        refine UC_cutx (fun e o => e 3 = .pt 3 0 0 ∧ e 5 = .i .i64 p ∧ e 6 = .i .i64 i ∧ o 3 = some (.row 15 [[.i .i64 ak, .i .u64 (as_ 0), .i .u64 (as_ 1), .i .u64 (as_ 2), .i .u64 (as_ 3), .sl (ap.map cel), .i .i64 al, .i .i64 ah, .sl (S.map u4), .sl (Cs.map scC), .sl (R.map lsC), .sl (Fi.map inC), .sl (Mo.map mlC), .sl (La.map boC), .bo Em]])) ?_ ?_
        · refine U_lp (fun r e o => ∃ j : Nat, j + r = nn ∧ e 3 = .pt 3 0 0 ∧ e 5 = .i .i64 p ∧ e 6 = .i .i64 i ∧ e 7 = .pt 7 0 0 ∧ e 8 = .i .i64 nn ∧ e 9 = .i .i64 j ∧ o 7 = some (.row 3 [[.i .i64 mt, .i .i64 mk, .bo ma]]) ∧ o 3 = some (.row 15 [[.i .i64 ak, .i .u64 (as_ 0), .i .u64 (as_ 1), .i .u64 (as_ 2), .i .u64 (as_ 3), .sl (ap.map cel), .i .i64 al, .i .i64 ah, .sl (S.map u4), .sl (Cs.map scC), .sl (R.map lsC), .sl (Fi.map inC), .sl (Mo.map mlC), .sl (La.map boC), .bo Em]])) (k := nn) ?_ (Call_le F) ?_
          · exact ⟨0, by omega, by simp only [r3, go_sem], by simp only [r5, go_sem], by simp only [r6, go_sem], by simp only [r7, go_sem], by simp only [r8, go_sem], by (simp only [go_sem] <;> rfl), o7, o3⟩
          clear r3 r5 r6 r7 r8 o7 o3
          rintro r2 e o ⟨j, hjr, r3, r5, r6, r7, r8, r9, o7, o3⟩
          dsimp only [b6_0]
          (repeat (with_reducible (first | refine U_nil ?_ | refine UC_sq ?_ | refine UC_rg ?_ | refine X_nx ?_ | (refine U_q (v := ?_) ?h1 ?_; case h1 => ((try simp only [r8, r9, go_sem]) <;> rfl)))))
          refine UC_cdb (q := decide ((j : Int) < (nn : Int))) (by simp only [go_sem]) (fun hc3 => ?_) (fun hc3 => ?_)
          · have hj : j < nn := by simpa using hc3
            have hjp : (0 : Int) ≤ (j : Int) := by omega
            have hjpre : j < pre.length := by omega
            have hxp : (lp.map inC)[j]? = some [.i .i64 pre[j]] := by rw [List.getElem?_map, pre_get h7 (List.getElem?_eq_getElem hjpre)]; rfl
            have hxt : (lt.map inC)[j]? = some [.i .i64 pre[j]] := by rw [List.getElem?_map, pre_get h8 (List.getElem?_eq_getElem hjpre)]; rfl
            have hwj : IntKind.i64.wrap ((j : Int) + 1) = ((j + 1 : Nat) : Int) := by rw [wrap_i64 (by omega) (by omega)]; rfl
            (repeat (with_reducible (first | refine U_nil ?_ | refine UC_sq ?_ | refine UC_rg ?_ | refine UC_bk ?_ | refine UC_sk ?_ | refine X_nx ?_ | refine B_nx ?_ | ((first | refine U_q (v := ?_) ?h1 ?_ | refine U_ld (v := ?_) ?h1 ?_); case h1 => ((try simp only [r3, r5, r6, r7, r8, r9, o7, o3, hpp, har, hat, htp, hjp, hxp, hxt, hwj, Int.toNat_natCast, List.take_succ_cons, List.take_zero, List.drop_succ_cons, List.drop_zero, go_sem]) <;> rfl)) | (refine UC_cdf ?h1 ?_; case h1 => ((try simp only [r3, r5, r6, r7, r8, r9, o7, o3, hpp, har, hat, htp, hjp, hxp, hxt, hwj, Int.toNat_natCast, List.take_succ_cons, List.take_zero, List.drop_succ_cons, List.drop_zero, go_sem]) <;> rfl)))))
            exact ⟨r2 - 1, by omega, j + 1, by omega, by simp only [r3, go_sem], by simp only [r5, go_sem], by simp only [r6, go_sem], by simp only [r7, go_sem], by simp only [r8, go_sem], by simp only [go_sem], o7, o3⟩
          · (repeat (with_reducible (first | refine UC_ex ?_ | refine X_ex ?_)))
            exact ⟨rfl, by simp only [r3, go_sem], by simp only [r5, go_sem], by simp only [r6, go_sem], o3⟩
        · clear r3 r5 r6 r7 r8 o7 o3
          rintro e o ⟨r3, r5, r6, o3⟩
          (repeat (with_reducible (first | refine U_nil ?_ | refine UC_rg ?_ | refine X_nx ?_ | refine B_nx ?_ | (refine U_q (v := ?_) ?h1 ?_; case h1 => ((try simp only [r6, hwi, go_sem]) <;> rfl)))))
          exact ⟨r' - 1, by omega, i + 1, by omega, by simp only [r3, go_sem], by simp only [r5, go_sem], by simp only [go_sem], o3⟩
      · (repeat (with_reducible (first | refine UC_ex ?_ | refine X_ex ?_)))
        exact ⟨rfl, by simp only [r3, go_sem], by simp only [r5, go_sem], o3⟩
    · clear r3 r5 o3
      rintro e o ⟨r3, r5, o3⟩
      (repeat (with_reducible (first | refine U_nil ?_ | refine UC_rg ?_ | refine X_nx ?_ | refine B_nx ?_ | (refine U_q (v := ?_) ?h1 ?_; case h1 => ((try simp only [r5, hwp, go_sem]) <;> rfl)))))
      exact ⟨r - 1, by omega, p + 1, by omega, by simp only [r3, go_sem], by simp only [go_sem], o3⟩
  · (repeat (with_reducible (first | refine U_nil ?_ | refine UC_sq ?_ | refine UC_rg ?_ | refine UC_ex ?_ | refine UC_rt ?_ | refine X_nx ?_ | refine X_ex ?_ | refine B_self ?_ | ((first | refine U_q (v := ?_) ?h1 ?_ | refine E_1 (v := ?_) ?h1 ?_); case h1 => ((try simp only [go_sem]) <;> rfl)))))
    rfl

end Go.Proofs.Ytcnmcbkmfmcdjaa
