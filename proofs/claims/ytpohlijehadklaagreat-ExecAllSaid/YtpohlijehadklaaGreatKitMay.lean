import Derived.Test.YtpohlijehadklaaGreatKitIns
set_option linter.unusedSimpArgs false
set_option linter.unusedVariables false
set_option linter.constructorNameAsVariable false
set_option autoImplicit false
namespace Go.Eng
open Go Go.RowKit Go.Proofs
theorem nameE2 {op : Int} : (nameF op).toList.isEmpty = !named op := by
  have h := nameE (op := op)
  cases hn : named op <;> rw [hn] at h <;> simp at h <;> simp [h]
set_option maxHeartbeats 16000000 in
theorem c_May_0 {op d a b l m behind locs : Int} (hD : hasD op = true) (hA : hasA op = false) (hB : hasB op = false) (hL : hasL op = false) (hI : hasI op = true) : SC Tryz.prog 47 [.agg [C .i64 op, C .i64 d, C .i64 a, C .i64 b, C .i64 l, C .i64 m], I .i64 behind, I .i64 locs] (B (mayF op d a b l m behind locs)) := by
  refine scx_of Tryz.func47 rfl rfl rfl (Nat.le_of_ble_eq_true rfl) ?_
  repeat' (first
 | exact aw_ret (ret_vals (by simp; exact rfl) (by simp [mayF, okF, *]; fail_if_success (show _)))
 | refine ar_end rfl ?_
 | refine ar_fin rfl ?_
 | refine ar_callV Tryz.call64 c_of rfl rfl rfl rfl rfl (by simp; done) (by rfl) (by simp; done) ?_
 | refine ar_callV Tryz.call48 c_ins_Kind rfl rfl rfl rfl rfl (by simp; done) (by rfl) (by simp; done) ?_
 | refine ar_callV_if Tryz.call65 c_between rfl rfl rfl rfl rfl rfl (by simp; done) rfl (by rfl) (by simp; done) ?_
 | refine ar_callV Tryz.call66 c_imm rfl rfl rfl rfl rfl (by simp; done) (by rfl) (by simp; done) ?_
 | refine ar_go3 _ rfl (by simp [fD, fA, fB, fL, fI, kind0, wrap64s, nameE2, *]; exact ⟨rfl, rfl, rfl⟩) rfl ?_
 | refine aw_sregK 0 [0, 1, 2] ?_
 | refine aw_sregK 1 [1, 2, 3] ?_
 | refine aw_sregK 2 [1, 2, 3, 7] ?_
 | refine aw_sregK 3 [1, 2, 3, 7, 8] ?_
 | refine aw_sregK 5 [1, 2, 3, 7, 8] ?_
 | refine aw_sregK 6 [1, 2, 3, 7, 8, 9] ?_
 | refine aw_sregK 7 [1, 3, 7, 37, 38, 39] ?_
 | refine aw_sregK 8 [1, 3, 7, 37, 38, 39] ?_
 | refine aw_sregK 9 [1, 3, 7, 11, 37, 38, 39] ?_
 | refine aw_sregK 10 [] ?_
 | refine aw_regK 11 [1, 3, 7, 37, 38, 39] ?_
 | refine aw_sregK 12 [1, 3, 7] ?_
 | refine aw_sregK 14 [1, 3] ?_
 | refine aw_ifT (b := true) rfl rfl ?_
 | refine aw_ifF (b := false) rfl rfl ?_
 | refine aw_rounds 5 ?_
 | refine awr_step ?_
 | refine aw_seq ?_
 | refine aw_block ?_
 | refine aw_skip ?_
 | refine aw_exit ?_
 | (refine ar_guard rfl rfl rfl rfl (fun h => ?_) (fun h => ?_) <;> (fail_if_success (cases h; done)) <;> (try simp at h) <;> (try subst h))
 | (refine aw_both rfl (fun h => ?_) (fun h => ?_) <;> (fail_if_success (cases h; done)) <;> (try simp at h) <;> (try subst h)))
set_option maxHeartbeats 16000000 in
theorem c_May_1 {op d a b l m behind locs : Int} (hD : hasD op = true) (hA : hasA op = true) (hB : hasB op = true) (hL : hasL op = false) (hI : hasI op = false) : SC Tryz.prog 47 [.agg [C .i64 op, C .i64 d, C .i64 a, C .i64 b, C .i64 l, C .i64 m], I .i64 behind, I .i64 locs] (B (mayF op d a b l m behind locs)) := by
  refine scx_of Tryz.func47 rfl rfl rfl (Nat.le_of_ble_eq_true rfl) ?_
  repeat' (first
 | exact aw_ret (ret_vals (by simp; exact rfl) (by simp [mayF, okF, *]; fail_if_success (show _)))
 | refine ar_end rfl ?_
 | refine ar_fin rfl ?_
 | refine ar_callV Tryz.call64 c_of rfl rfl rfl rfl rfl (by simp; done) (by rfl) (by simp; done) ?_
 | refine ar_callV Tryz.call48 c_ins_Kind rfl rfl rfl rfl rfl (by simp; done) (by rfl) (by simp; done) ?_
 | refine ar_callV_if Tryz.call65 c_between rfl rfl rfl rfl rfl rfl (by simp; done) rfl (by rfl) (by simp; done) ?_
 | refine ar_go3 _ rfl (by simp [fD, fA, fB, fL, fI, kind0, wrap64s, nameE2, *]; exact ⟨rfl, rfl, rfl⟩) rfl ?_
 | refine aw_sregK 0 [0, 1, 2] ?_
 | refine aw_sregK 1 [1, 2, 3] ?_
 | refine aw_sregK 2 [1, 2, 3, 7] ?_
 | refine aw_sregK 3 [1, 2, 3, 7, 8] ?_
 | refine aw_sregK 5 [1, 2, 3, 7, 8] ?_
 | refine aw_sregK 6 [1, 2, 3, 7, 8, 9] ?_
 | refine aw_sregK 7 [1, 3, 7, 37, 38, 39] ?_
 | refine aw_sregK 8 [1, 3, 7, 37, 38, 39] ?_
 | refine aw_sregK 9 [1, 3, 7, 11, 37, 38, 39] ?_
 | refine aw_sregK 10 [] ?_
 | refine aw_regK 11 [1, 3, 7, 37, 38, 39] ?_
 | refine aw_sregK 12 [1, 3, 7] ?_
 | refine aw_sregK 13 [3, 7] ?_
 | refine aw_ifT (b := true) rfl rfl ?_
 | refine aw_ifF (b := false) rfl rfl ?_
 | refine aw_rounds 5 ?_
 | refine awr_step ?_
 | refine aw_seq ?_
 | refine aw_block ?_
 | refine aw_skip ?_
 | refine aw_exit ?_
 | (refine ar_guard rfl rfl rfl rfl (fun h => ?_) (fun h => ?_) <;> (fail_if_success (cases h; done)) <;> (try simp at h) <;> (try subst h))
 | (refine aw_both rfl (fun h => ?_) (fun h => ?_) <;> (fail_if_success (cases h; done)) <;> (try simp at h) <;> (try subst h)))
set_option maxHeartbeats 16000000 in
theorem c_May_2 {op d a b l m behind locs : Int} (hD : hasD op = true) (hA : hasA op = true) (hB : hasB op = false) (hL : hasL op = true) (hI : hasI op = false) : SC Tryz.prog 47 [.agg [C .i64 op, C .i64 d, C .i64 a, C .i64 b, C .i64 l, C .i64 m], I .i64 behind, I .i64 locs] (B (mayF op d a b l m behind locs)) := by
  refine scx_of Tryz.func47 rfl rfl rfl (Nat.le_of_ble_eq_true rfl) ?_
  repeat' (first
 | exact aw_ret (ret_vals (by simp; exact rfl) (by simp [mayF, okF, *]; fail_if_success (show _)))
 | refine ar_end rfl ?_
 | refine ar_fin rfl ?_
 | refine ar_callV Tryz.call64 c_of rfl rfl rfl rfl rfl (by simp; done) (by rfl) (by simp; done) ?_
 | refine ar_callV Tryz.call48 c_ins_Kind rfl rfl rfl rfl rfl (by simp; done) (by rfl) (by simp; done) ?_
 | refine ar_callV_if Tryz.call65 c_between rfl rfl rfl rfl rfl rfl (by simp; done) rfl (by rfl) (by simp; done) ?_
 | refine ar_go3 _ rfl (by simp [fD, fA, fB, fL, fI, kind0, wrap64s, nameE2, *]; exact ⟨rfl, rfl, rfl⟩) rfl ?_
 | refine aw_sregK 0 [0, 1, 2] ?_
 | refine aw_sregK 1 [1, 2, 3] ?_
 | refine aw_sregK 2 [1, 2, 3, 7] ?_
 | refine aw_sregK 3 [1, 2, 3, 7, 8] ?_
 | refine aw_regK 4 [1, 2, 3, 7] ?_
 | refine aw_sregK 5 [1, 2, 3, 7, 8] ?_
 | refine aw_sregK 6 [1, 2, 3, 7, 8, 9] ?_
 | refine aw_sregK 7 [1, 3, 7, 37, 38, 39] ?_
 | refine aw_sregK 8 [1, 3, 7, 37, 38, 39] ?_
 | refine aw_sregK 9 [1, 3, 7, 11, 37, 38, 39] ?_
 | refine aw_sregK 10 [] ?_
 | refine aw_regK 11 [1, 3, 7, 37, 38, 39] ?_
 | refine aw_sregK 12 [1, 3, 7] ?_
 | refine aw_sregK 13 [3, 7] ?_
 | refine aw_ifT (b := true) rfl rfl ?_
 | refine aw_ifF (b := false) rfl rfl ?_
 | refine aw_rounds 5 ?_
 | refine awr_step ?_
 | refine aw_seq ?_
 | refine aw_block ?_
 | refine aw_skip ?_
 | refine aw_exit ?_
 | (refine ar_guard rfl rfl rfl rfl (fun h => ?_) (fun h => ?_) <;> (fail_if_success (cases h; done)) <;> (try simp at h) <;> (try subst h))
 | (refine aw_both rfl (fun h => ?_) (fun h => ?_) <;> (fail_if_success (cases h; done)) <;> (try simp at h) <;> (try subst h)))
set_option maxHeartbeats 16000000 in
theorem c_May_3 {op d a b l m behind locs : Int} (hD : hasD op = false) (hA : hasA op = true) (hB : hasB op = true) (hL : hasL op = true) (hI : hasI op = false) : SC Tryz.prog 47 [.agg [C .i64 op, C .i64 d, C .i64 a, C .i64 b, C .i64 l, C .i64 m], I .i64 behind, I .i64 locs] (B (mayF op d a b l m behind locs)) := by
  refine scx_of Tryz.func47 rfl rfl rfl (Nat.le_of_ble_eq_true rfl) ?_
  repeat' (first
 | exact aw_ret (ret_vals (by simp; exact rfl) (by simp [mayF, okF, *]; fail_if_success (show _)))
 | refine ar_end rfl ?_
 | refine ar_fin rfl ?_
 | refine ar_callV Tryz.call64 c_of rfl rfl rfl rfl rfl (by simp; done) (by rfl) (by simp; done) ?_
 | refine ar_callV Tryz.call48 c_ins_Kind rfl rfl rfl rfl rfl (by simp; done) (by rfl) (by simp; done) ?_
 | refine ar_callV_if Tryz.call65 c_between rfl rfl rfl rfl rfl rfl (by simp; done) rfl (by rfl) (by simp; done) ?_
 | refine ar_go3 _ rfl (by simp [fD, fA, fB, fL, fI, kind0, wrap64s, nameE2, *]; exact ⟨rfl, rfl, rfl⟩) rfl ?_
 | refine aw_sregK 0 [0, 1, 2] ?_
 | refine aw_sregK 1 [1, 2, 3] ?_
 | refine aw_sregK 2 [1, 2, 3, 7] ?_
 | refine aw_sregK 3 [1, 2, 3, 7, 8] ?_
 | refine aw_regK 4 [1, 2, 3, 7] ?_
 | refine aw_sregK 5 [1, 2, 3, 7, 8] ?_
 | refine aw_sregK 6 [1, 2, 3, 7, 8, 9] ?_
 | refine aw_sregK 7 [1, 3, 7, 37, 38, 39] ?_
 | refine aw_sregK 8 [1, 3, 7, 37, 38, 39] ?_
 | refine aw_sregK 9 [1, 3, 7, 11, 37, 38, 39] ?_
 | refine aw_sregK 10 [] ?_
 | refine aw_regK 11 [1, 3, 7, 37, 38, 39] ?_
 | refine aw_sregK 12 [1, 3, 7] ?_
 | refine aw_sregK 13 [3, 7] ?_
 | refine aw_ifT (b := true) rfl rfl ?_
 | refine aw_ifF (b := false) rfl rfl ?_
 | refine aw_rounds 5 ?_
 | refine awr_step ?_
 | refine aw_seq ?_
 | refine aw_block ?_
 | refine aw_skip ?_
 | refine aw_exit ?_
 | (refine ar_guard rfl rfl rfl rfl (fun h => ?_) (fun h => ?_) <;> (fail_if_success (cases h; done)) <;> (try simp at h) <;> (try subst h))
 | (refine aw_both rfl (fun h => ?_) (fun h => ?_) <;> (fail_if_success (cases h; done)) <;> (try simp at h) <;> (try subst h)))
set_option maxHeartbeats 16000000 in
theorem c_May_4 {op d a b l m behind locs : Int} (hD : hasD op = true) (hA : hasA op = true) (hB : hasB op = true) (hL : hasL op = true) (hI : hasI op = false) : SC Tryz.prog 47 [.agg [C .i64 op, C .i64 d, C .i64 a, C .i64 b, C .i64 l, C .i64 m], I .i64 behind, I .i64 locs] (B (mayF op d a b l m behind locs)) := by
  refine scx_of Tryz.func47 rfl rfl rfl (Nat.le_of_ble_eq_true rfl) ?_
  repeat' (first
 | exact aw_ret (ret_vals (by simp; exact rfl) (by simp [mayF, okF, *]; fail_if_success (show _)))
 | refine ar_end rfl ?_
 | refine ar_fin rfl ?_
 | refine ar_callV Tryz.call64 c_of rfl rfl rfl rfl rfl (by simp; done) (by rfl) (by simp; done) ?_
 | refine ar_callV Tryz.call48 c_ins_Kind rfl rfl rfl rfl rfl (by simp; done) (by rfl) (by simp; done) ?_
 | refine ar_callV_if Tryz.call65 c_between rfl rfl rfl rfl rfl rfl (by simp; done) rfl (by rfl) (by simp; done) ?_
 | refine ar_go3 _ rfl (by simp [fD, fA, fB, fL, fI, kind0, wrap64s, nameE2, *]; exact ⟨rfl, rfl, rfl⟩) rfl ?_
 | refine aw_sregK 0 [0, 1, 2] ?_
 | refine aw_sregK 1 [1, 2, 3] ?_
 | refine aw_sregK 2 [1, 2, 3, 7] ?_
 | refine aw_sregK 3 [1, 2, 3, 7, 8] ?_
 | refine aw_regK 4 [1, 2, 3, 7] ?_
 | refine aw_sregK 5 [1, 2, 3, 7, 8] ?_
 | refine aw_sregK 6 [1, 2, 3, 7, 8, 9] ?_
 | refine aw_sregK 7 [1, 3, 7, 37, 38, 39] ?_
 | refine aw_sregK 8 [1, 3, 7, 37, 38, 39] ?_
 | refine aw_sregK 9 [1, 3, 7, 11, 37, 38, 39] ?_
 | refine aw_sregK 10 [] ?_
 | refine aw_regK 11 [1, 3, 7, 37, 38, 39] ?_
 | refine aw_sregK 12 [1, 3, 7] ?_
 | refine aw_sregK 13 [3, 7] ?_
 | refine aw_ifT (b := true) rfl rfl ?_
 | refine aw_ifF (b := false) rfl rfl ?_
 | refine aw_rounds 5 ?_
 | refine awr_step ?_
 | refine aw_seq ?_
 | refine aw_block ?_
 | refine aw_skip ?_
 | refine aw_exit ?_
 | (refine ar_guard rfl rfl rfl rfl (fun h => ?_) (fun h => ?_) <;> (fail_if_success (cases h; done)) <;> (try simp at h) <;> (try subst h))
 | (refine aw_both rfl (fun h => ?_) (fun h => ?_) <;> (fail_if_success (cases h; done)) <;> (try simp at h) <;> (try subst h)))
set_option maxHeartbeats 16000000 in
theorem c_May_5 {op d a b l m behind locs : Int} (hD : hasD op = false) (hA : hasA op = false) (hB : hasB op = false) (hL : hasL op = false) (hI : hasI op = true) : SC Tryz.prog 47 [.agg [C .i64 op, C .i64 d, C .i64 a, C .i64 b, C .i64 l, C .i64 m], I .i64 behind, I .i64 locs] (B (mayF op d a b l m behind locs)) := by
  refine scx_of Tryz.func47 rfl rfl rfl (Nat.le_of_ble_eq_true rfl) ?_
  repeat' (first
 | exact aw_ret (ret_vals (by simp; exact rfl) (by simp [mayF, okF, *]; fail_if_success (show _)))
 | refine ar_end rfl ?_
 | refine ar_fin rfl ?_
 | refine ar_callV Tryz.call64 c_of rfl rfl rfl rfl rfl (by simp; done) (by rfl) (by simp; done) ?_
 | refine ar_callV Tryz.call48 c_ins_Kind rfl rfl rfl rfl rfl (by simp; done) (by rfl) (by simp; done) ?_
 | refine ar_callV Tryz.call66 c_imm rfl rfl rfl rfl rfl (by simp; done) (by rfl) (by simp; done) ?_
 | refine ar_go3 _ rfl (by simp [fD, fA, fB, fL, fI, kind0, wrap64s, nameE2, *]; exact ⟨rfl, rfl, rfl⟩) rfl ?_
 | refine aw_sregK 0 [0, 1, 2] ?_
 | refine aw_sregK 1 [1, 2, 3] ?_
 | refine aw_sregK 2 [1, 2, 3, 7] ?_
 | refine aw_sregK 3 [1, 2, 3, 7, 8] ?_
 | refine aw_sregK 5 [1, 2, 3, 7, 8] ?_
 | refine aw_sregK 6 [1, 2, 3, 7, 8, 9] ?_
 | refine aw_sregK 7 [1, 3, 7, 37, 38, 39] ?_
 | refine aw_sregK 8 [1, 3, 7, 37, 38, 39] ?_
 | refine aw_sregK 9 [1, 3, 7, 11, 37, 38, 39] ?_
 | refine aw_sregK 10 [] ?_
 | refine aw_regK 11 [1, 3, 7, 37, 38, 39] ?_
 | refine aw_sregK 12 [1, 3, 7] ?_
 | refine aw_sregK 14 [1, 3] ?_
 | refine aw_ifT (b := true) rfl rfl ?_
 | refine aw_ifF (b := false) rfl rfl ?_
 | refine aw_rounds 5 ?_
 | refine awr_step ?_
 | refine aw_seq ?_
 | refine aw_block ?_
 | refine aw_skip ?_
 | refine aw_exit ?_
 | (refine ar_guard rfl rfl rfl rfl (fun h => ?_) (fun h => ?_) <;> (fail_if_success (cases h; done)) <;> (try simp at h) <;> (try subst h)))
set_option maxHeartbeats 16000000 in
theorem c_May_6 {op d a b l m behind locs : Int} (hD : hasD op = false) (hA : hasA op = false) (hB : hasB op = false) (hL : hasL op = false) (hI : hasI op = false) : SC Tryz.prog 47 [.agg [C .i64 op, C .i64 d, C .i64 a, C .i64 b, C .i64 l, C .i64 m], I .i64 behind, I .i64 locs] (B (mayF op d a b l m behind locs)) := by
  refine scx_of Tryz.func47 rfl rfl rfl (Nat.le_of_ble_eq_true rfl) ?_
  repeat' (first
 | exact aw_ret (ret_vals (by simp; exact rfl) (by simp [mayF, okF, *]; fail_if_success (show _)))
 | refine ar_end rfl ?_
 | refine ar_fin rfl ?_
 | refine ar_callV Tryz.call64 c_of rfl rfl rfl rfl rfl (by simp; done) (by rfl) (by simp; done) ?_
 | refine ar_callV Tryz.call48 c_ins_Kind rfl rfl rfl rfl rfl (by simp; done) (by rfl) (by simp; done) ?_
 | refine ar_go3 _ rfl (by simp [fD, fA, fB, fL, fI, kind0, wrap64s, nameE2, *]; exact ⟨rfl, rfl, rfl⟩) rfl ?_
 | refine aw_sregK 0 [0, 1, 2] ?_
 | refine aw_sregK 1 [1, 2, 3] ?_
 | refine aw_sregK 2 [1, 2, 3, 7] ?_
 | refine aw_sregK 3 [1, 2, 3, 7, 8] ?_
 | refine aw_sregK 5 [1, 2, 3, 7, 8] ?_
 | refine aw_sregK 6 [1, 2, 3, 7, 8, 9] ?_
 | refine aw_sregK 7 [1, 3, 7, 37, 38, 39] ?_
 | refine aw_sregK 8 [1, 3, 7, 37, 38, 39] ?_
 | refine aw_sregK 9 [1, 3, 7, 11, 37, 38, 39] ?_
 | refine aw_sregK 10 [] ?_
 | refine aw_regK 11 [1, 3, 7, 37, 38, 39] ?_
 | refine aw_sregK 12 [1, 3, 7] ?_
 | refine aw_sregK 13 [3, 7] ?_
 | refine aw_ifT (b := true) rfl rfl ?_
 | refine aw_ifF (b := false) rfl rfl ?_
 | refine aw_rounds 5 ?_
 | refine awr_step ?_
 | refine aw_seq ?_
 | refine aw_block ?_
 | refine aw_skip ?_
 | refine aw_exit ?_
 | (refine ar_guard rfl rfl rfl rfl (fun h => ?_) (fun h => ?_) <;> (fail_if_success (cases h; done)) <;> (try simp at h) <;> (try subst h)))
set_option maxHeartbeats 16000000 in
theorem c_May_7 {op d a b l m behind locs : Int} (hD : hasD op = false) (hA : hasA op = true) (hB : hasB op = false) (hL : hasL op = false) (hI : hasI op = true) : SC Tryz.prog 47 [.agg [C .i64 op, C .i64 d, C .i64 a, C .i64 b, C .i64 l, C .i64 m], I .i64 behind, I .i64 locs] (B (mayF op d a b l m behind locs)) := by
  refine scx_of Tryz.func47 rfl rfl rfl (Nat.le_of_ble_eq_true rfl) ?_
  repeat' (first
 | exact aw_ret (ret_vals (by simp; exact rfl) (by simp [mayF, okF, *]; fail_if_success (show _)))
 | refine ar_end rfl ?_
 | refine ar_fin rfl ?_
 | refine ar_callV Tryz.call64 c_of rfl rfl rfl rfl rfl (by simp; done) (by rfl) (by simp; done) ?_
 | refine ar_callV Tryz.call48 c_ins_Kind rfl rfl rfl rfl rfl (by simp; done) (by rfl) (by simp; done) ?_
 | refine ar_callV_if Tryz.call65 c_between rfl rfl rfl rfl rfl rfl (by simp; done) rfl (by rfl) (by simp; done) ?_
 | refine ar_callV Tryz.call66 c_imm rfl rfl rfl rfl rfl (by simp; done) (by rfl) (by simp; done) ?_
 | refine ar_go3 _ rfl (by simp [fD, fA, fB, fL, fI, kind0, wrap64s, nameE2, *]; exact ⟨rfl, rfl, rfl⟩) rfl ?_
 | refine aw_sregK 0 [0, 1, 2] ?_
 | refine aw_sregK 1 [1, 2, 3] ?_
 | refine aw_sregK 2 [1, 2, 3, 7] ?_
 | refine aw_sregK 3 [1, 2, 3, 7, 8] ?_
 | refine aw_sregK 5 [1, 2, 3, 7, 8] ?_
 | refine aw_sregK 6 [1, 2, 3, 7, 8, 9] ?_
 | refine aw_sregK 7 [1, 3, 7, 37, 38, 39] ?_
 | refine aw_sregK 8 [1, 3, 7, 37, 38, 39] ?_
 | refine aw_sregK 9 [1, 3, 7, 11, 37, 38, 39] ?_
 | refine aw_sregK 10 [] ?_
 | refine aw_regK 11 [1, 3, 7, 37, 38, 39] ?_
 | refine aw_sregK 12 [1, 3, 7] ?_
 | refine aw_sregK 14 [1, 3] ?_
 | refine aw_ifT (b := true) rfl rfl ?_
 | refine aw_ifF (b := false) rfl rfl ?_
 | refine aw_rounds 5 ?_
 | refine awr_step ?_
 | refine aw_seq ?_
 | refine aw_block ?_
 | refine aw_skip ?_
 | refine aw_exit ?_
 | (refine ar_guard rfl rfl rfl rfl (fun h => ?_) (fun h => ?_) <;> (fail_if_success (cases h; done)) <;> (try simp at h) <;> (try subst h))
 | (refine aw_both rfl (fun h => ?_) (fun h => ?_) <;> (fail_if_success (cases h; done)) <;> (try simp at h) <;> (try subst h)))
theorem sets (op : Int) : (hasD op = true ∧ hasA op = false ∧ hasB op = false ∧ hasL op = false ∧ hasI op = true) ∨ (hasD op = true ∧ hasA op = true ∧ hasB op = true ∧ hasL op = false ∧ hasI op = false) ∨ (hasD op = true ∧ hasA op = true ∧ hasB op = false ∧ hasL op = true ∧ hasI op = false) ∨ (hasD op = false ∧ hasA op = true ∧ hasB op = true ∧ hasL op = true ∧ hasI op = false) ∨ (hasD op = true ∧ hasA op = true ∧ hasB op = true ∧ hasL op = true ∧ hasI op = false) ∨ (hasD op = false ∧ hasA op = false ∧ hasB op = false ∧ hasL op = false ∧ hasI op = true) ∨ (hasD op = false ∧ hasA op = false ∧ hasB op = false ∧ hasL op = false ∧ hasI op = false) ∨ (hasD op = false ∧ hasA op = true ∧ hasB op = false ∧ hasL op = false ∧ hasI op = true) := by
  rcases ops op with rfl | rfl | rfl | rfl | rfl | rfl | rfl | rfl | rfl | rfl | rfl | rfl | rfl | rfl | rfl | h
  any_goals decide
  right; right; right; right; right; right; left
  unfold hasD hasA hasB hasL hasI
  simp only [decide_eq_false_iff_not]
  omega
set_option maxHeartbeats 16000000 in
theorem c_May {op d a b l m behind locs : Int} : SC Tryz.prog 47 [.agg [C .i64 op, C .i64 d, C .i64 a, C .i64 b, C .i64 l, C .i64 m], I .i64 behind, I .i64 locs] (B (mayF op d a b l m behind locs)) := by
  rcases sets op with ⟨h1, h2, h3, h4, h5⟩ | ⟨h1, h2, h3, h4, h5⟩ | ⟨h1, h2, h3, h4, h5⟩ | ⟨h1, h2, h3, h4, h5⟩ | ⟨h1, h2, h3, h4, h5⟩ | ⟨h1, h2, h3, h4, h5⟩ | ⟨h1, h2, h3, h4, h5⟩ | ⟨h1, h2, h3, h4, h5⟩
  · exact c_May_0 h1 h2 h3 h4 h5
  · exact c_May_1 h1 h2 h3 h4 h5
  · exact c_May_2 h1 h2 h3 h4 h5
  · exact c_May_3 h1 h2 h3 h4 h5
  · exact c_May_4 h1 h2 h3 h4 h5
  · exact c_May_5 h1 h2 h3 h4 h5
  · exact c_May_6 h1 h2 h3 h4 h5
  · exact c_May_7 h1 h2 h3 h4 h5
end Go.Eng
