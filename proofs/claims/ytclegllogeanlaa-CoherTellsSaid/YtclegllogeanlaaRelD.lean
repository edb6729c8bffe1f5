import Derived.Test.YtclegllogeanlaaRelC
set_option linter.unusedSimpArgs false
set_option linter.unusedVariables false
set_option linter.constructorNameAsVariable false
set_option autoImplicit false
namespace Go.Eng
open Go Go.RowKit Go.Proofs
def ints (l : List Int) : List (List PV) := l.map fun n => [C .i64 n]
theorem ints_len {l : List Int} : (ints l).length = l.length := by simp [ints]
theorem ints_getE {l : List Int} {i : Nat} (h : i < (ints l).length) : (ints l)[i] = [C .i64 (l[i]'(by simpa [ints] using h))] := by simp [ints]
def maskW (l : List Nat) : Wd := l.foldl (fun m k => m ||| 1#32 <<< k) 0#32
theorem mask_snoc (l : List Nat) (k : Nat) : maskW (l ++ [k]) = maskW l ||| 1#32 <<< k := by simp [maskW, List.foldl_append]
theorem maskl_bit (l : List Nat) : ∀ (m : Wd) (j : Nat), j < 32 → (l.foldl (fun m k => m ||| 1#32 <<< k) m).getLsbD j = (m.getLsbD j || decide (j ∈ l)) := by
  induction l with
  | nil => intro m j _; simp
  | cons k l ih =>
    intro m j hj
    rw [List.foldl_cons, ih _ _ hj, or_bit, shl1_bit]
    by_cases h : j = k
    · subst h; simp [hj]
    · simp [h]
theorem mask_bit {l : List Nat} {j : Nat} (hj : j < 32) : (maskW l).getLsbD j = decide (j ∈ l) := by
  unfold maskW; rw [maskl_bit _ _ _ hj]; simp
def someE (q : Ev → Bool) (es : List Ev) (i : Nat) : Bool := match es[i]? with | some x => q x | none => false
def maskE (q : Ev → Bool) (es : List Ev) : Wd := maskW ((List.range es.length).filter (someE q es))
theorem filter_range_succ (p : Nat → Bool) (i : Nat) : (List.range (i + 1)).filter p = (List.range i).filter p ++ (if p i = true then [i] else []) := by
  rw [List.range_succ, List.filter_append]
  congr 1
  cases h : p i <;> simp [h]
theorem maskE_bit {q : Ev → Bool} {es : List Ev} (h32 : es.length ≤ 32) {j : Nat} (hj : j < es.length) : (maskE q es).getLsbD j = q es[j] := by
  unfold maskE
  rw [mask_bit (by omega)]
  have e : someE q es j = q es[j] := by unfold someE; rw [List.getElem?_eq_getElem hj]
  cases h : q es[j]
  · refine decide_eq_false fun hm => ?_
    have := (List.mem_filter.1 hm).2
    rw [e, h] at this; cases this
  · exact decide_eq_true (List.mem_filter.2 ⟨List.mem_range.2 hj, by rw [e, h]⟩)
theorem maskE_out {q : Ev → Bool} {es : List Ev} {j : Nat} (hj : es.length ≤ j) : (maskE q es).getLsbD j = false := by
  by_cases h32 : j < 32
  · unfold maskE
    rw [mask_bit h32]
    refine decide_eq_false fun hm => ?_
    have := List.mem_range.1 (List.mem_filter.1 hm).1
    omega
  · exact BitVec.getLsbD_of_ge _ _ (by omega)
def behQ (loc : Int) (x : Ev) : Bool := decide (x.k = 2) && decide (x.l = loc)
def behindR (es : List Ev) (r : Nat) (w : Int) (co : RL) : Wd :=
  if w = -1 then maskE (behQ ((es.map (·.l)).getD r 0)) es
  else if w < 0 ∨ (es.length : Int) ≤ w ∨ ¬(es.map (·.k)).getD w.toNat 0 = 2 then 0#32
  else maskW ((List.range es.length).filter fun k => hasR co w k)
def frUp (es : List Ev) (fm : List Int) (co : RL) : Nat → RL
  | 0 => newR es.length
  | r + 1 => bothR (· ||| ·) (frUp es fm co r) (crossR es.length (1#32 <<< r) (behindR es r (fm.getD r 0) co &&& ~~~(1#32 <<< r)))
def frR (es : List Ev) (fm : List Int) (co : RL) : RL := frUp es fm co (min fm.length es.length)
theorem cross_cl {n : Nat} (h : n ≤ 32) (fr to : Wd) : Cl n (crossR n fr to) ∧ ∀ i k, i < n → k < n → bitR (crossR n fr to) i k = (fr.getLsbD i && to.getLsbD k) := by
  unfold crossR
  have hl : (List.replicate n (allB n)).length = n := by simp
  have hc := only_cl (a := List.replicate n (allB n)) (by rw [hl]; exact h) fr to
  rw [hl] at hc
  refine ⟨hc, fun i k hi hk => ?_⟩
  rw [only_bit, clean_bit (by rw [hl]; exact h), hl]
  have : bitR (List.replicate n (allB n)) i k = true := by
    unfold bitR; rw [getD_in _ _ (by simpa using hi)]
    simp [allB_bit h, hk]
  rw [this]; simp [hk]
set_option maxHeartbeats 16000000 in
theorem c_mask {g : FuncId} {q : Ev → Bool} {T : TypeId} {p : PV} (hent : Enters Try.prog g) (hg : ∀ x : Ev, SCX Try.prog g [.agg (evL x), .ptr (.ext 0) 0] [(.ext 0, some (.box T [.pv p]))] (B (q x)) [(.ext 0, some (.box T [.pv p]))]) {es : List Ev} (h32 : es.length ≤ 32) : SCX Try.prog 84 [.agg (exL es), .fn g [] [.ptr (.ext 0) 0]] [(.ext 0, some (.box T [.pv p]))] (I .u32 (ub (maskE q es))) [(.ext 0, some (.box T [.pv p]))] := by
  unfold maskE
  have hqs : ∀ i, (hi : i < es.length) → someE q es i = q es[i] := fun i hi => by unfold someE; rw [List.getElem?_eq_getElem hi]
  generalize someE q es = qs at *
  refine scx_of Try.func84 rfl rfl rfl (Nat.le_of_ble_eq_true rfl) ?_
  repeat' (first
    | refine ar_end rfl ?_
    | refine ar_endD rfl (by kernel_rfl) ?_
    | refine ar_fin rfl ?_
    | refine ar_finD rfl (by kernel_rfl) ?_
    | refine ar_go3 _ rfl (by simp [rl_len, rl_getE, rl_set, rl_nil, List.length_set, List.getElem_set, IntKind.bits, ub_shl1', ub_shr, ub_or, ub_and, ub_andNot, ub_bit, Int.toNat_natCast, ub_zero, evsL_len, evsL_getE, evL, prs_len, prs_getE]; exact ⟨rfl, rfl, rfl⟩) rfl ?_
    | refine aw_sregK 0 [0, 1] ?_
    | refine aw_regK 0 [0, 1] ?_
    | refine aw_sregK 1 [1, 2] ?_
    | refine aw_regK 1 [1, 2] ?_
    | refine aw_sregK 2 [1, 2, 5] ?_
    | refine aw_regK 2 [1, 2, 5] ?_
    | refine aw_sreg ?_
    | refine aw_sregD mixed ?_
    | refine aw_ifT (b := true) rfl rfl ?_
    | refine aw_ifF (b := false) rfl rfl ?_
    | refine aw_ifT rfl (by assumption) ?_
    | refine aw_ifF rfl (by assumption) ?_
    | refine aw_ifT rfl (decide_eq_true (by assumption)) ?_
    | refine aw_ifF rfl (decide_eq_false (by assumption)) ?_
    | refine aw_seq ?_
    | refine aw_block ?_
    | refine aw_skip ?_
    | refine aw_region ?_
    | refine aw_region_draw mixed ?_
    | refine aw_exit ?_
    | refine rq_exit ?_
    | refine blockQ_hit ?_
    | refine blockQ_miss (by decide) ?_
    | (refine ar_guard rfl rfl rfl rfl (fun h => ?_) (fun h => ?_) <;> (fail_if_success (cases h; done)) <;> (try simp at h) <;> (try subst h))
    | (refine aw_both rfl (fun h => ?_) (fun h => ?_) <;> (fail_if_success (cases h; done)) <;> (try simp at h) <;> (try subst h)))
  refine aw_loopN [1, 5, 9, 10, 11] [.ext 0] (by simp; exact rfl) (ι := {i : Nat // i ≤ es.length}) (fun i => ⟨26, [(1, .fn g [] [.ptr (.ext 0) 0]), (5, I .u32 (ub (maskW ((List.range i.1).filter qs)))), (9, .pv (.sl 7 (evsL es))), (10, I .i64 es.length), (11, I .i64 i.1)], [(.ext 0, some (.box T [.pv p]))]⟩) (fun i => es.length - i.1) ⟨0, by omega⟩ (by simp [maskW, ub_zero, evsL_len]) ?_
  rintro ⟨i, hi⟩
  by_cases hlt : i < es.length
  · have hw : IntKind.wrap .i64 ((i : Int) + 1) = (i : Int) + 1 := wrap64s (by omega) (by omega)
    have hwu := wrap64u (n := i) (by omega)
    have hd : (i : Int) < (es.length : Int) := by omega
    have hfs := filter_range_succ qs i
    have hqi := hqs i hlt
    generalize hx : es[i] = x at hqi
    have hG := hg x
    rw [hqi] at hfs
    generalize (List.range i).filter qs = F at *
    cases hb : q x
    · rw [hb] at hfs hG
      rw [if_neg (by decide), List.append_nil] at hfs
      repeat' (first
        | refine ar_end rfl ?_
        | refine ar_endD rfl (by kernel_rfl) ?_
        | refine ar_fin rfl ?_
        | refine ar_finD rfl (by kernel_rfl) ?_
        | refine ar_callE [.ext 0] [.ext 0] [] hent hG rfl rfl rfl rfl (by simp; exact rfl) rfl (by simp; done) (by rfl) (by simp; fail_if_success (show _)) rfl ⟨by simp, by simp, (by simp [okY]; fail_if_success (show _)), by simp, by simp⟩ (by simp; fail_if_success (show _)) ?_
        | refine bq_norm ?_
        | refine lq_normN [1, 5, 9, 10, 11] [.ext 0] (by simp; exact rfl) ⟨i + 1, by omega⟩ (by dsimp only; omega) (by simp [hfs])
        | refine ar_go3 _ rfl (by simp [rl_len, rl_getE, rl_set, rl_nil, List.length_set, List.getElem_set, IntKind.bits, ub_shl1', ub_shr, ub_or, ub_and, ub_andNot, ub_bit, Int.toNat_natCast, ub_zero, evsL_len, evsL_getE, evL, prs_len, prs_getE, hlt, hd, hx, hw, hwu]; exact ⟨rfl, rfl, rfl⟩) rfl ?_
        | refine aw_sregK 3 [1, 5, 9, 10, 11] ?_
        | refine aw_regK 3 [1, 5, 9, 10, 11] ?_
        | refine aw_sregK 4 [1, 5, 9, 10, 11] ?_
        | refine aw_regK 4 [1, 5, 9, 10, 11] ?_
        | refine aw_sregK 5 [1, 5, 6, 7, 9, 10, 11] ?_
        | refine aw_regK 5 [1, 5, 6, 7, 9, 10, 11] ?_
        | refine aw_sregK 6 [1, 5, 6, 9, 10, 11] ?_
        | refine aw_regK 6 [1, 5, 6, 9, 10, 11] ?_
        | refine aw_sregK 7 [1, 5, 9, 10, 11] ?_
        | refine aw_regK 7 [1, 5, 9, 10, 11] ?_
        | refine aw_sreg ?_
        | refine aw_sregD mixed ?_
        | refine aw_ifT (b := true) rfl rfl ?_
        | refine aw_ifF (b := false) rfl rfl ?_
        | refine aw_ifT rfl (by assumption) ?_
        | refine aw_ifF rfl (by assumption) ?_
        | refine aw_ifT rfl (decide_eq_true (by assumption)) ?_
        | refine aw_ifF rfl (decide_eq_false (by assumption)) ?_
        | refine aw_seq ?_
        | refine aw_block ?_
        | refine aw_skip ?_
        | refine aw_region ?_
        | refine aw_region_draw mixed ?_
        | refine aw_exit ?_
        | refine rq_exit ?_
        | refine blockQ_hit ?_
        | refine blockQ_miss (by decide) ?_
        | (refine ar_guard rfl rfl rfl rfl (fun h => ?_) (fun h => ?_) <;> (fail_if_success (cases h; done)) <;> (try simp at h) <;> (try subst h))
        | (refine aw_both rfl (fun h => ?_) (fun h => ?_) <;> (fail_if_success (cases h; done)) <;> (try simp at h) <;> (try subst h)))
    · rw [hb] at hfs hG
      rw [if_pos rfl] at hfs
      have hms := mask_snoc F i
      rw [← hfs] at hms
      repeat' (first
        | refine ar_end rfl ?_
        | refine ar_endD rfl (by kernel_rfl) ?_
        | refine ar_fin rfl ?_
        | refine ar_finD rfl (by kernel_rfl) ?_
        | refine ar_callE [.ext 0] [.ext 0] [] hent hG rfl rfl rfl rfl (by simp; exact rfl) rfl (by simp; done) (by rfl) (by simp; fail_if_success (show _)) rfl ⟨by simp, by simp, (by simp [okY]; fail_if_success (show _)), by simp, by simp⟩ (by simp; fail_if_success (show _)) ?_
        | refine bq_norm ?_
        | refine lq_normN [1, 5, 9, 10, 11] [.ext 0] (by simp; exact rfl) ⟨i + 1, by omega⟩ (by dsimp only; omega) (by simp [hms])
        | refine ar_go3 _ rfl (by simp [rl_len, rl_getE, rl_set, rl_nil, List.length_set, List.getElem_set, IntKind.bits, ub_shl1', ub_shr, ub_or, ub_and, ub_andNot, ub_bit, Int.toNat_natCast, ub_zero, evsL_len, evsL_getE, evL, prs_len, prs_getE, hlt, hd, hx, hw, hwu]; exact ⟨rfl, rfl, rfl⟩) rfl ?_
        | refine aw_sregK 3 [1, 5, 9, 10, 11] ?_
        | refine aw_regK 3 [1, 5, 9, 10, 11] ?_
        | refine aw_sregK 4 [1, 5, 9, 10, 11] ?_
        | refine aw_regK 4 [1, 5, 9, 10, 11] ?_
        | refine aw_sregK 5 [1, 5, 6, 7, 9, 10, 11] ?_
        | refine aw_regK 5 [1, 5, 6, 7, 9, 10, 11] ?_
        | refine aw_sregK 6 [1, 5, 6, 9, 10, 11] ?_
        | refine aw_regK 6 [1, 5, 6, 9, 10, 11] ?_
        | refine aw_sregK 7 [1, 5, 9, 10, 11] ?_
        | refine aw_regK 7 [1, 5, 9, 10, 11] ?_
        | refine aw_sreg ?_
        | refine aw_sregD mixed ?_
        | refine aw_ifT (b := true) rfl rfl ?_
        | refine aw_ifF (b := false) rfl rfl ?_
        | refine aw_ifT rfl (by assumption) ?_
        | refine aw_ifF rfl (by assumption) ?_
        | refine aw_ifT rfl (decide_eq_true (by assumption)) ?_
        | refine aw_ifF rfl (decide_eq_false (by assumption)) ?_
        | refine aw_seq ?_
        | refine aw_block ?_
        | refine aw_skip ?_
        | refine aw_region ?_
        | refine aw_region_draw mixed ?_
        | refine aw_exit ?_
        | refine rq_exit ?_
        | refine blockQ_hit ?_
        | refine blockQ_miss (by decide) ?_
        | (refine ar_guard rfl rfl rfl rfl (fun h => ?_) (fun h => ?_) <;> (fail_if_success (cases h; done)) <;> (try simp at h) <;> (try subst h))
        | (refine aw_both rfl (fun h => ?_) (fun h => ?_) <;> (fail_if_success (cases h; done)) <;> (try simp at h) <;> (try subst h)))
  · have hd : ¬(i : Int) < (es.length : Int) := by omega
    have hie : i = es.length := by omega
    subst hie
    repeat' (first
      | refine ar_end rfl ?_
      | refine ar_endD rfl (by kernel_rfl) ?_
      | refine ar_fin rfl ?_
      | refine ar_finD rfl (by kernel_rfl) ?_
      | refine lq_exit ?_
      | exact aw_ret (ret_rens .ret (.inr rfl) [] [.ext 0] (by simp; exact rfl) (by simp; exact rfl) (by simp []; fail_if_success (show _)) (by simp []; fail_if_success (show _)) (by simp))
      | refine ar_go3 _ rfl (by simp [rl_len, rl_getE, rl_set, rl_nil, List.length_set, List.getElem_set, IntKind.bits, ub_shl1', ub_shr, ub_or, ub_and, ub_andNot, ub_bit, Int.toNat_natCast, ub_zero, evsL_len, evsL_getE, evL, prs_len, prs_getE, hd]; exact ⟨rfl, rfl, rfl⟩) rfl ?_
      | refine aw_sregK 3 [1, 5, 9, 10, 11] ?_
      | refine aw_regK 3 [1, 5, 9, 10, 11] ?_
      | refine aw_sregK 8 [5] ?_
      | refine aw_regK 8 [5] ?_
      | refine aw_sreg ?_
      | refine aw_sregD mixed ?_
      | refine aw_ifT (b := true) rfl rfl ?_
      | refine aw_ifF (b := false) rfl rfl ?_
      | refine aw_ifT rfl (by assumption) ?_
      | refine aw_ifF rfl (by assumption) ?_
      | refine aw_ifT rfl (decide_eq_true (by assumption)) ?_
      | refine aw_ifF rfl (decide_eq_false (by assumption)) ?_
      | refine aw_seq ?_
      | refine aw_block ?_
      | refine aw_skip ?_
      | refine aw_region ?_
      | refine aw_region_draw mixed ?_
      | refine aw_exit ?_
      | refine rq_exit ?_
      | refine blockQ_hit ?_
      | refine blockQ_miss (by decide) ?_
      | (refine ar_guard rfl rfl rfl rfl (fun h => ?_) (fun h => ?_) <;> (fail_if_success (cases h; done)) <;> (try simp at h) <;> (try subst h))
      | (refine aw_both rfl (fun h => ?_) (fun h => ?_) <;> (fail_if_success (cases h; done)) <;> (try simp at h) <;> (try subst h)))
set_option maxHeartbeats 16000000 in
theorem c_behQ {loc : Int} {x : Ev} : SCX Try.prog 93 [.agg (evL x), .ptr (.ext 0) 0] [(.ext 0, some (.box 3 [I .i64 loc]))] (B (behQ loc x)) [(.ext 0, some (.box 3 [I .i64 loc]))] := by
  refine scx_of Try.func93 rfl rfl rfl (Nat.le_of_ble_eq_true rfl) ?_
  by_cases hk : x.k = 2
  ·
    repeat' (first
      | refine ar_end rfl ?_
      | refine ar_endD rfl (by kernel_rfl) ?_
      | refine ar_fin rfl ?_
      | refine ar_finD rfl (by kernel_rfl) ?_
      | exact aw_ret (ret_rens .ret (.inr rfl) [] [.ext 0] (by simp; exact rfl) (by simp; exact rfl) (by simp [behQ, hk]; fail_if_success (show _)) (by simp [behQ, hk]; fail_if_success (show _)) (by simp))
      | refine ar_go3 _ rfl (by simp [evL, hk]; exact ⟨rfl, rfl, rfl⟩) rfl ?_
      | refine aw_sregK 0 [0, 1] ?_
      | refine aw_regK 0 [0, 1] ?_
      | refine aw_sregK 1 [1, 2] ?_
      | refine aw_regK 1 [1, 2] ?_
      | refine aw_sreg ?_
      | refine aw_sregD mixed ?_
      | refine aw_ifT (b := true) rfl rfl ?_
      | refine aw_ifF (b := false) rfl rfl ?_
      | refine aw_ifT rfl (by assumption) ?_
      | refine aw_ifF rfl (by assumption) ?_
      | refine aw_ifT rfl (decide_eq_true (by assumption)) ?_
      | refine aw_ifF rfl (decide_eq_false (by assumption)) ?_
      | refine aw_seq ?_
      | refine aw_block ?_
      | refine aw_skip ?_
      | refine aw_region ?_
      | refine aw_region_draw mixed ?_
      | refine aw_exit ?_
      | refine rq_exit ?_
      | refine blockQ_hit ?_
      | refine blockQ_miss (by decide) ?_
      | (refine ar_guard rfl rfl rfl rfl (fun h => ?_) (fun h => ?_) <;> (fail_if_success (cases h; done)) <;> (try simp at h) <;> (try subst h))
      | (refine aw_both rfl (fun h => ?_) (fun h => ?_) <;> (fail_if_success (cases h; done)) <;> (try simp at h) <;> (try subst h)))
  ·
    repeat' (first
      | refine ar_end rfl ?_
      | refine ar_endD rfl (by kernel_rfl) ?_
      | refine ar_fin rfl ?_
      | refine ar_finD rfl (by kernel_rfl) ?_
      | exact aw_ret (ret_rens .ret (.inr rfl) [] [.ext 0] (by simp; exact rfl) (by simp; exact rfl) (by simp [behQ, hk]; fail_if_success (show _)) (by simp [behQ, hk]; fail_if_success (show _)) (by simp))
      | refine ar_go3 _ rfl (by simp [evL, hk]; exact ⟨rfl, rfl, rfl⟩) rfl ?_
      | refine aw_sregK 0 [0, 1] ?_
      | refine aw_regK 0 [0, 1] ?_
      | refine aw_sregK 1 [1, 2] ?_
      | refine aw_regK 1 [1, 2] ?_
      | refine aw_sreg ?_
      | refine aw_sregD mixed ?_
      | refine aw_ifT (b := true) rfl rfl ?_
      | refine aw_ifF (b := false) rfl rfl ?_
      | refine aw_ifT rfl (by assumption) ?_
      | refine aw_ifF rfl (by assumption) ?_
      | refine aw_ifT rfl (decide_eq_true (by assumption)) ?_
      | refine aw_ifF rfl (decide_eq_false (by assumption)) ?_
      | refine aw_seq ?_
      | refine aw_block ?_
      | refine aw_skip ?_
      | refine aw_region ?_
      | refine aw_region_draw mixed ?_
      | refine aw_exit ?_
      | refine rq_exit ?_
      | refine blockQ_hit ?_
      | refine blockQ_miss (by decide) ?_
      | (refine ar_guard rfl rfl rfl rfl (fun h => ?_) (fun h => ?_) <;> (fail_if_success (cases h; done)) <;> (try simp at h) <;> (try subst h))
      | (refine aw_both rfl (fun h => ?_) (fun h => ?_) <;> (fail_if_success (cases h; done)) <;> (try simp at h) <;> (try subst h)))
set_option maxHeartbeats 16000000 in
theorem c_behind {es : List Ev} {r : Nat} {w : Int} {co : RL} (hr : r < es.length) (h32 : es.length ≤ 32) : SC Try.prog 72 [.agg (exL es), I .i64 r, I .i64 w, .pv (.sl 1 (rl co))] (I .u32 (ub (behindR es r w co))) := by
  by_cases hw1 : w = -1
  · have hM := c_mask (T := 3) Try.call93 (fun x => c_behQ (loc := es[r].l) (x := x)) h32
    have e : behindR es r w co = maskE (behQ es[r].l) es := by
      unfold behindR; rw [if_pos hw1, getD_in _ _ (by simpa using hr), List.getElem_map]
    rw [e]
    subst hw1
    generalize hx : es[r] = x at *
    refine scx_of Try.func72 rfl rfl rfl (Nat.le_of_ble_eq_true rfl) ?_
    repeat' (first
      | exact aw_ret (ret_vals (by simp; exact rfl) (by simp [*]; fail_if_success (show _)))
      | exact aw_ret (ret_vals (by simp; exact rfl) (by simp [*]; omega))
      | refine ar_end rfl ?_
      | refine ar_endD rfl (by kernel_rfl) ?_
      | refine ar_fin rfl ?_
      | refine ar_finD rfl (by kernel_rfl) ?_
      | refine ar_callE [.loc 9] [.loc 9] [] Try.call84 hM rfl rfl rfl rfl (by simp; exact rfl) rfl (by simp; done) (by rfl) (by simp; fail_if_success (show _)) rfl ⟨by simp, by simp, (by simp [okY]; fail_if_success (show _)), by simp, by simp⟩ (by simp; fail_if_success (show _)) ?_
      | refine ar_go3 _ rfl (by simp [rl_len, rl_getE, rl_set, rl_nil, List.length_set, List.getElem_set, IntKind.bits, ub_shl1', ub_shr, ub_or, ub_and, ub_andNot, ub_bit, Int.toNat_natCast, ub_zero, evsL_len, evsL_getE, evL, prs_len, prs_getE, hr, hx]; exact ⟨rfl, rfl, rfl⟩) rfl ?_
      | refine aw_sregK 0 [0, 1, 2, 3] ?_
      | refine aw_regK 0 [0, 1, 2, 3] ?_
      | refine aw_sregK 1 [1, 2, 3, 4] ?_
      | refine aw_regK 1 [1, 2, 3, 4] ?_
      | refine aw_sregK 2 [1, 4] ?_
      | refine aw_regK 2 [1, 4] ?_
      | refine aw_sregK 3 [4, 9] ?_
      | refine aw_regK 3 [4, 9] ?_
      | refine aw_sreg ?_
      | refine aw_sregD mixed ?_
      | refine aw_ifT (b := true) rfl rfl ?_
      | refine aw_ifF (b := false) rfl rfl ?_
      | refine aw_ifT rfl (by assumption) ?_
      | refine aw_ifF rfl (by assumption) ?_
      | refine aw_ifT rfl (decide_eq_true (by assumption)) ?_
      | refine aw_ifF rfl (decide_eq_false (by assumption)) ?_
      | refine aw_seq ?_
      | refine aw_block ?_
      | refine aw_skip ?_
      | refine aw_region ?_
      | refine aw_region_draw mixed ?_
      | refine aw_exit ?_
      | refine rq_exit ?_
      | refine blockQ_hit ?_
      | refine blockQ_miss (by decide) ?_
      | (refine ar_guard rfl rfl rfl rfl (fun h => ?_) (fun h => ?_) <;> (fail_if_success (cases h; done)) <;> (try simp at h) <;> (try subst h))
      | (refine aw_both rfl (fun h => ?_) (fun h => ?_) <;> (fail_if_success (cases h; done)) <;> (try simp at h) <;> (try subst h)))
  by_cases hw0 : w < 0
  · have e : behindR es r w co = 0#32 := by unfold behindR; rw [if_neg hw1, if_pos (.inl hw0)]
    rw [e]
    refine scx_of Try.func72 rfl rfl rfl (Nat.le_of_ble_eq_true rfl) ?_
    repeat' (first
      | exact aw_ret (ret_vals (by simp; exact rfl) (by simp [ub_zero]; fail_if_success (show _)))
      | exact aw_ret (ret_vals (by simp; exact rfl) (by simp [ub_zero]; omega))
      | refine ar_end rfl ?_
      | refine ar_endD rfl (by kernel_rfl) ?_
      | refine ar_fin rfl ?_
      | refine ar_finD rfl (by kernel_rfl) ?_
      | refine ar_go3 _ rfl (by simp [rl_len, rl_getE, rl_set, rl_nil, List.length_set, List.getElem_set, IntKind.bits, ub_shl1', ub_shr, ub_or, ub_and, ub_andNot, ub_bit, Int.toNat_natCast, ub_zero, evsL_len, evsL_getE, evL, prs_len, prs_getE, hw1, hw0]; exact ⟨rfl, rfl, rfl⟩) rfl ?_
      | refine aw_sregK 0 [0, 1, 2, 3] ?_
      | refine aw_regK 0 [0, 1, 2, 3] ?_
      | refine aw_sregK 1 [1, 2, 3, 4] ?_
      | refine aw_regK 1 [1, 2, 3, 4] ?_
      | refine aw_sregK 2 [1, 4] ?_
      | refine aw_regK 2 [1, 4] ?_
      | refine aw_sregK 3 [4, 9] ?_
      | refine aw_regK 3 [4, 9] ?_
      | refine aw_sregK 4 [2, 3, 4] ?_
      | refine aw_regK 4 [2, 3, 4] ?_
      | refine aw_sregK 5 [] ?_
      | refine aw_regK 5 [] ?_
      | refine aw_sreg ?_
      | refine aw_sregD mixed ?_
      | refine aw_ifT (b := true) rfl rfl ?_
      | refine aw_ifF (b := false) rfl rfl ?_
      | refine aw_ifT rfl (by assumption) ?_
      | refine aw_ifF rfl (by assumption) ?_
      | refine aw_ifT rfl (decide_eq_true (by assumption)) ?_
      | refine aw_ifF rfl (decide_eq_false (by assumption)) ?_
      | refine aw_seq ?_
      | refine aw_block ?_
      | refine aw_skip ?_
      | refine aw_region ?_
      | refine aw_region_draw mixed ?_
      | refine aw_exit ?_
      | refine rq_exit ?_
      | refine blockQ_hit ?_
      | refine blockQ_miss (by decide) ?_
      | (refine ar_guard rfl rfl rfl rfl (fun h => ?_) (fun h => ?_) <;> (fail_if_success (cases h; done)) <;> (try simp at h) <;> (try subst h))
      | (refine aw_both rfl (fun h => ?_) (fun h => ?_) <;> (fail_if_success (cases h; done)) <;> (try simp at h) <;> (try subst h)))
  obtain ⟨a, rfl⟩ : ∃ a : Nat, w = (a : Int) := ⟨w.toNat, by omega⟩
  by_cases hwn : es.length ≤ a
  · have hwn' : (es.length : Int) ≤ (a : Int) := by omega
    have e : behindR es r a co = 0#32 := by unfold behindR; rw [if_neg hw1, if_pos (.inr (.inl hwn'))]
    rw [e]
    refine scx_of Try.func72 rfl rfl rfl (Nat.le_of_ble_eq_true rfl) ?_
    repeat' (first
      | exact aw_ret (ret_vals (by simp; exact rfl) (by simp [ub_zero]; fail_if_success (show _)))
      | exact aw_ret (ret_vals (by simp; exact rfl) (by simp [ub_zero]; omega))
      | refine ar_end rfl ?_
      | refine ar_endD rfl (by kernel_rfl) ?_
      | refine ar_fin rfl ?_
      | refine ar_finD rfl (by kernel_rfl) ?_
      | refine ar_go3 _ rfl (by simp [rl_len, rl_getE, rl_set, rl_nil, List.length_set, List.getElem_set, IntKind.bits, ub_shl1', ub_shr, ub_or, ub_and, ub_andNot, ub_bit, Int.toNat_natCast, ub_zero, evsL_len, evsL_getE, evL, prs_len, prs_getE, hw1, hw0, hwn']; exact ⟨rfl, rfl, rfl⟩) rfl ?_
      | refine aw_sregK 0 [0, 1, 2, 3] ?_
      | refine aw_regK 0 [0, 1, 2, 3] ?_
      | refine aw_sregK 1 [1, 2, 3, 4] ?_
      | refine aw_regK 1 [1, 2, 3, 4] ?_
      | refine aw_sregK 2 [1, 4] ?_
      | refine aw_regK 2 [1, 4] ?_
      | refine aw_sregK 3 [4, 9] ?_
      | refine aw_regK 3 [4, 9] ?_
      | refine aw_sregK 4 [2, 3, 4] ?_
      | refine aw_regK 4 [2, 3, 4] ?_
      | refine aw_sregK 5 [] ?_
      | refine aw_regK 5 [] ?_
      | refine aw_sreg ?_
      | refine aw_sregD mixed ?_
      | refine aw_ifT (b := true) rfl rfl ?_
      | refine aw_ifF (b := false) rfl rfl ?_
      | refine aw_ifT rfl (by assumption) ?_
      | refine aw_ifF rfl (by assumption) ?_
      | refine aw_ifT rfl (decide_eq_true (by assumption)) ?_
      | refine aw_ifF rfl (decide_eq_false (by assumption)) ?_
      | refine aw_seq ?_
      | refine aw_block ?_
      | refine aw_skip ?_
      | refine aw_region ?_
      | refine aw_region_draw mixed ?_
      | refine aw_exit ?_
      | refine rq_exit ?_
      | refine blockQ_hit ?_
      | refine blockQ_miss (by decide) ?_
      | (refine ar_guard rfl rfl rfl rfl (fun h => ?_) (fun h => ?_) <;> (fail_if_success (cases h; done)) <;> (try simp at h) <;> (try subst h))
      | (refine aw_both rfl (fun h => ?_) (fun h => ?_) <;> (fail_if_success (cases h; done)) <;> (try simp at h) <;> (try subst h)))
  have hal : a < es.length := by omega
  have hwn' : ¬(es.length : Int) ≤ (a : Int) := by omega
  by_cases hk : es[a].k = 2
  · have e : behindR es r a co = maskW ((List.range es.length).filter fun k => hasR co a k) := by
      unfold behindR
      rw [if_neg hw1, if_neg (by rintro (h | h | h); exact hw0 h; exact hwn' h; exact h (by rw [getD_in _ _ (by simpa using hal), List.getElem_map]; exact hk))]
    rw [e]
    generalize hx : es[a] = x at *
    generalize hqs : (fun k : Nat => hasR co (a : Int) (k : Int)) = qs
    refine scx_of Try.func72 rfl rfl rfl (Nat.le_of_ble_eq_true rfl) ?_
    repeat' (first
      | refine ar_end rfl ?_
      | refine ar_endD rfl (by kernel_rfl) ?_
      | refine ar_fin rfl ?_
      | refine ar_finD rfl (by kernel_rfl) ?_
      | refine ar_go3 _ rfl (by simp [rl_len, rl_getE, rl_set, rl_nil, List.length_set, List.getElem_set, IntKind.bits, ub_shl1', ub_shr, ub_or, ub_and, ub_andNot, ub_bit, Int.toNat_natCast, ub_zero, evsL_len, evsL_getE, evL, prs_len, prs_getE, hw1, hw0, hwn', hal, hx, hk]; exact ⟨rfl, rfl, rfl⟩) rfl ?_
      | refine aw_sregK 0 [0, 1, 2, 3] ?_
      | refine aw_regK 0 [0, 1, 2, 3] ?_
      | refine aw_sregK 1 [1, 2, 3, 4] ?_
      | refine aw_regK 1 [1, 2, 3, 4] ?_
      | refine aw_sregK 2 [1, 4] ?_
      | refine aw_regK 2 [1, 4] ?_
      | refine aw_sregK 3 [4, 9] ?_
      | refine aw_regK 3 [4, 9] ?_
      | refine aw_sregK 4 [2, 3, 4] ?_
      | refine aw_regK 4 [2, 3, 4] ?_
      | refine aw_sregK 5 [] ?_
      | refine aw_regK 5 [] ?_
      | refine aw_sregK 6 [2, 3, 4] ?_
      | refine aw_regK 6 [2, 3, 4] ?_
      | refine aw_sregK 7 [2, 3, 4, 10] ?_
      | refine aw_regK 7 [2, 3, 4, 10] ?_
      | refine aw_sreg ?_
      | refine aw_sregD mixed ?_
      | refine aw_ifT (b := true) rfl rfl ?_
      | refine aw_ifF (b := false) rfl rfl ?_
      | refine aw_ifT rfl (by assumption) ?_
      | refine aw_ifF rfl (by assumption) ?_
      | refine aw_ifT rfl (decide_eq_true (by assumption)) ?_
      | refine aw_ifF rfl (decide_eq_false (by assumption)) ?_
      | refine aw_seq ?_
      | refine aw_block ?_
      | refine aw_skip ?_
      | refine aw_region ?_
      | refine aw_region_draw mixed ?_
      | refine aw_exit ?_
      | refine rq_exit ?_
      | refine blockQ_hit ?_
      | refine blockQ_miss (by decide) ?_
      | (refine ar_guard rfl rfl rfl rfl (fun h => ?_) (fun h => ?_) <;> (fail_if_success (cases h; done)) <;> (try simp at h) <;> (try subst h))
      | (refine aw_both rfl (fun h => ?_) (fun h => ?_) <;> (fail_if_success (cases h; done)) <;> (try simp at h) <;> (try subst h)))
    refine aw_loopN [2, 3, 10, 45, 46] [] (by simp; exact rfl) (ι := {i : Nat // i ≤ es.length}) (fun i => ⟨60, [(2, I .i64 a), (3, .pv (.sl 1 (rl co))), (10, I .u32 (ub (maskW ((List.range i.1).filter qs)))), (45, I .i64 es.length), (46, I .i64 i.1)], []⟩) (fun i => es.length - i.1) ⟨0, by omega⟩ (by simp [maskW, ub_zero, evsL_len]) ?_
    rintro ⟨i, hi⟩
    by_cases hlt : i < es.length
    · have hw : IntKind.wrap .i64 ((i : Int) + 1) = (i : Int) + 1 := wrap64s (by omega) (by omega)
      have hwu := wrap64u (n := i) (by omega)
      have hd : (i : Int) < (es.length : Int) := by omega
      have hfs := filter_range_succ qs i
      have hH := c_has (r := co) (i := a) (k := i)
      have hqi : hasR co (a : Int) (i : Int) = qs i := by rw [← hqs]
      rw [hqi] at hH
      generalize (List.range i).filter qs = F at *
      cases hb : qs i
      · rw [hb] at hfs hH
        rw [if_neg (by decide), List.append_nil] at hfs
        repeat' (first
          | refine ar_end rfl ?_
          | refine ar_endD rfl (by kernel_rfl) ?_
          | refine ar_fin rfl ?_
          | refine ar_finD rfl (by kernel_rfl) ?_
          | refine ar_callV Try.call17 hH rfl rfl rfl rfl rfl (by simp; done) (by rfl) (by simp; done) ?_
          | refine ar_callV_if Try.call17 hH rfl rfl rfl rfl rfl rfl (by simp; done) rfl (by rfl) (by simp; done) ?_
          | refine bq_norm ?_
          | refine lq_normN [2, 3, 10, 45, 46] [] (by simp; exact rfl) ⟨i + 1, by omega⟩ (by dsimp only; omega) (by simp [hfs])
          | refine ar_go3 _ rfl (by simp [rl_len, rl_getE, rl_set, rl_nil, List.length_set, List.getElem_set, IntKind.bits, ub_shl1', ub_shr, ub_or, ub_and, ub_andNot, ub_bit, Int.toNat_natCast, ub_zero, hlt, hd, hw, hwu]; exact ⟨rfl, rfl, rfl⟩) rfl ?_
          | refine aw_sregK 8 [2, 3, 10, 45, 46] ?_
          | refine aw_regK 8 [2, 3, 10, 45, 46] ?_
          | refine aw_sregK 9 [2, 3, 10, 45, 46] ?_
          | refine aw_regK 9 [2, 3, 10, 45, 46] ?_
          | refine aw_sregK 10 [2, 3, 10, 11, 45, 46] ?_
          | refine aw_regK 10 [2, 3, 10, 11, 45, 46] ?_
          | refine aw_sregK 11 [2, 3, 10, 11, 45, 46] ?_
          | refine aw_regK 11 [2, 3, 10, 11, 45, 46] ?_
          | refine aw_sregK 12 [2, 3, 10, 45, 46] ?_
          | refine aw_regK 12 [2, 3, 10, 45, 46] ?_
          | refine aw_sreg ?_
          | refine aw_sregD mixed ?_
          | refine aw_ifT (b := true) rfl rfl ?_
          | refine aw_ifF (b := false) rfl rfl ?_
          | refine aw_ifT rfl (by assumption) ?_
          | refine aw_ifF rfl (by assumption) ?_
          | refine aw_ifT rfl (decide_eq_true (by assumption)) ?_
          | refine aw_ifF rfl (decide_eq_false (by assumption)) ?_
          | refine aw_seq ?_
          | refine aw_block ?_
          | refine aw_skip ?_
          | refine aw_region ?_
          | refine aw_region_draw mixed ?_
          | refine aw_exit ?_
          | refine rq_exit ?_
          | refine blockQ_hit ?_
          | refine blockQ_miss (by decide) ?_
          | (refine ar_guard rfl rfl rfl rfl (fun h => ?_) (fun h => ?_) <;> (fail_if_success (cases h; done)) <;> (try simp at h) <;> (try subst h))
          | (refine aw_both rfl (fun h => ?_) (fun h => ?_) <;> (fail_if_success (cases h; done)) <;> (try simp at h) <;> (try subst h)))
      · rw [hb] at hfs hH
        rw [if_pos rfl] at hfs
        have hms := mask_snoc F i
        rw [← hfs] at hms
        repeat' (first
          | refine ar_end rfl ?_
          | refine ar_endD rfl (by kernel_rfl) ?_
          | refine ar_fin rfl ?_
          | refine ar_finD rfl (by kernel_rfl) ?_
          | refine ar_callV Try.call17 hH rfl rfl rfl rfl rfl (by simp; done) (by rfl) (by simp; done) ?_
          | refine ar_callV_if Try.call17 hH rfl rfl rfl rfl rfl rfl (by simp; done) rfl (by rfl) (by simp; done) ?_
          | refine bq_norm ?_
          | refine lq_normN [2, 3, 10, 45, 46] [] (by simp; exact rfl) ⟨i + 1, by omega⟩ (by dsimp only; omega) (by simp [hms])
          | refine ar_go3 _ rfl (by simp [rl_len, rl_getE, rl_set, rl_nil, List.length_set, List.getElem_set, IntKind.bits, ub_shl1', ub_shr, ub_or, ub_and, ub_andNot, ub_bit, Int.toNat_natCast, ub_zero, hlt, hd, hw, hwu]; exact ⟨rfl, rfl, rfl⟩) rfl ?_
          | refine aw_sregK 8 [2, 3, 10, 45, 46] ?_
          | refine aw_regK 8 [2, 3, 10, 45, 46] ?_
          | refine aw_sregK 9 [2, 3, 10, 45, 46] ?_
          | refine aw_regK 9 [2, 3, 10, 45, 46] ?_
          | refine aw_sregK 10 [2, 3, 10, 11, 45, 46] ?_
          | refine aw_regK 10 [2, 3, 10, 11, 45, 46] ?_
          | refine aw_sregK 11 [2, 3, 10, 11, 45, 46] ?_
          | refine aw_regK 11 [2, 3, 10, 11, 45, 46] ?_
          | refine aw_sregK 12 [2, 3, 10, 45, 46] ?_
          | refine aw_regK 12 [2, 3, 10, 45, 46] ?_
          | refine aw_sreg ?_
          | refine aw_sregD mixed ?_
          | refine aw_ifT (b := true) rfl rfl ?_
          | refine aw_ifF (b := false) rfl rfl ?_
          | refine aw_ifT rfl (by assumption) ?_
          | refine aw_ifF rfl (by assumption) ?_
          | refine aw_ifT rfl (decide_eq_true (by assumption)) ?_
          | refine aw_ifF rfl (decide_eq_false (by assumption)) ?_
          | refine aw_seq ?_
          | refine aw_block ?_
          | refine aw_skip ?_
          | refine aw_region ?_
          | refine aw_region_draw mixed ?_
          | refine aw_exit ?_
          | refine rq_exit ?_
          | refine blockQ_hit ?_
          | refine blockQ_miss (by decide) ?_
          | (refine ar_guard rfl rfl rfl rfl (fun h => ?_) (fun h => ?_) <;> (fail_if_success (cases h; done)) <;> (try simp at h) <;> (try subst h))
          | (refine aw_both rfl (fun h => ?_) (fun h => ?_) <;> (fail_if_success (cases h; done)) <;> (try simp at h) <;> (try subst h)))
    · have hd : ¬(i : Int) < (es.length : Int) := by omega
      have hie : i = es.length := by omega
      subst hie
      repeat' (first
        | exact aw_ret (ret_vals (by simp; exact rfl) (by simp [*]; fail_if_success (show _)))
        | exact aw_ret (ret_vals (by simp; exact rfl) (by simp [*]; omega))
        | refine ar_end rfl ?_
        | refine ar_endD rfl (by kernel_rfl) ?_
        | refine ar_fin rfl ?_
        | refine ar_finD rfl (by kernel_rfl) ?_
        | refine lq_exit ?_
        | refine ar_go3 _ rfl (by simp [rl_len, rl_getE, rl_set, rl_nil, List.length_set, List.getElem_set, IntKind.bits, ub_shl1', ub_shr, ub_or, ub_and, ub_andNot, ub_bit, Int.toNat_natCast, ub_zero, hd]; exact ⟨rfl, rfl, rfl⟩) rfl ?_
        | refine aw_sregK 8 [2, 3, 10, 45, 46] ?_
        | refine aw_regK 8 [2, 3, 10, 45, 46] ?_
        | refine aw_sregK 13 [10] ?_
        | refine aw_regK 13 [10] ?_
        | refine aw_sreg ?_
        | refine aw_sregD mixed ?_
        | refine aw_ifT (b := true) rfl rfl ?_
        | refine aw_ifF (b := false) rfl rfl ?_
        | refine aw_ifT rfl (by assumption) ?_
        | refine aw_ifF rfl (by assumption) ?_
        | refine aw_ifT rfl (decide_eq_true (by assumption)) ?_
        | refine aw_ifF rfl (decide_eq_false (by assumption)) ?_
        | refine aw_seq ?_
        | refine aw_block ?_
        | refine aw_skip ?_
        | refine aw_region ?_
        | refine aw_region_draw mixed ?_
        | refine aw_exit ?_
        | refine rq_exit ?_
        | refine blockQ_hit ?_
        | refine blockQ_miss (by decide) ?_
        | (refine ar_guard rfl rfl rfl rfl (fun h => ?_) (fun h => ?_) <;> (fail_if_success (cases h; done)) <;> (try simp at h) <;> (try subst h))
        | (refine aw_both rfl (fun h => ?_) (fun h => ?_) <;> (fail_if_success (cases h; done)) <;> (try simp at h) <;> (try subst h)))
  · have e : behindR es r a co = 0#32 := by
      unfold behindR
      rw [if_neg hw1, if_pos (.inr (.inr (by rw [show ((a : Int)).toNat = a from rfl, getD_in _ _ (by simpa using hal), List.getElem_map]; exact hk)))]
    rw [e]
    generalize hx : es[a] = x at *
    refine scx_of Try.func72 rfl rfl rfl (Nat.le_of_ble_eq_true rfl) ?_
    repeat' (first
      | exact aw_ret (ret_vals (by simp; exact rfl) (by simp [ub_zero]; fail_if_success (show _)))
      | exact aw_ret (ret_vals (by simp; exact rfl) (by simp [ub_zero]; omega))
      | refine ar_end rfl ?_
      | refine ar_endD rfl (by kernel_rfl) ?_
      | refine ar_fin rfl ?_
      | refine ar_finD rfl (by kernel_rfl) ?_
      | refine ar_go3 _ rfl (by simp [rl_len, rl_getE, rl_set, rl_nil, List.length_set, List.getElem_set, IntKind.bits, ub_shl1', ub_shr, ub_or, ub_and, ub_andNot, ub_bit, Int.toNat_natCast, ub_zero, evsL_len, evsL_getE, evL, prs_len, prs_getE, hw1, hw0, hwn', hal, hx, hk]; exact ⟨rfl, rfl, rfl⟩) rfl ?_
      | refine aw_sregK 0 [0, 1, 2, 3] ?_
      | refine aw_regK 0 [0, 1, 2, 3] ?_
      | refine aw_sregK 1 [1, 2, 3, 4] ?_
      | refine aw_regK 1 [1, 2, 3, 4] ?_
      | refine aw_sregK 2 [1, 4] ?_
      | refine aw_regK 2 [1, 4] ?_
      | refine aw_sregK 3 [4, 9] ?_
      | refine aw_regK 3 [4, 9] ?_
      | refine aw_sregK 4 [2, 3, 4] ?_
      | refine aw_regK 4 [2, 3, 4] ?_
      | refine aw_sregK 5 [] ?_
      | refine aw_regK 5 [] ?_
      | refine aw_sreg ?_
      | refine aw_sregD mixed ?_
      | refine aw_ifT (b := true) rfl rfl ?_
      | refine aw_ifF (b := false) rfl rfl ?_
      | refine aw_ifT rfl (by assumption) ?_
      | refine aw_ifF rfl (by assumption) ?_
      | refine aw_ifT rfl (decide_eq_true (by assumption)) ?_
      | refine aw_ifF rfl (decide_eq_false (by assumption)) ?_
      | refine aw_seq ?_
      | refine aw_block ?_
      | refine aw_skip ?_
      | refine aw_region ?_
      | refine aw_region_draw mixed ?_
      | refine aw_exit ?_
      | refine rq_exit ?_
      | refine blockQ_hit ?_
      | refine blockQ_miss (by decide) ?_
      | (refine ar_guard rfl rfl rfl rfl (fun h => ?_) (fun h => ?_) <;> (fail_if_success (cases h; done)) <;> (try simp at h) <;> (try subst h))
      | (refine aw_both rfl (fun h => ?_) (fun h => ?_) <;> (fail_if_success (cases h; done)) <;> (try simp at h) <;> (try subst h)))
set_option maxHeartbeats 16000000 in
theorem c_cross {n : Nat} {fr to : Wd} (h : n ≤ 32) : SCO Try.prog 71 [I .i64 n, I .u32 (ub fr), I .u32 (ub to)] 33 1 (rl (crossR n fr to)) := by
  have hN := c_new h
  have hA := c_all h
  have hO := c_only (a := List.replicate n (allB n)) (fr := fr) (to := to) (by simp [maxLen]; omega)
  unfold crossR
  generalize onlyR (List.replicate n (allB n)) fr to = R at *
  generalize hz : List.replicate n (allB n) = z at *
  have hzl : z.length = (newR n).length := by rw [← hz]; simp [newR]
  refine scx_of Try.func71 rfl rfl rfl (Nat.le_of_ble_eq_true rfl) ?_
  repeat' (first
    | refine ar_end rfl ?_
    | refine ar_endD rfl (by kernel_rfl) ?_
    | refine ar_fin rfl ?_
    | refine ar_finD rfl (by kernel_rfl) ?_
    | refine ar_callO Try.call29 hN rfl rfl rfl rfl (by simp; exact rfl) rfl (by simp; done) (by rfl) rfl ?_
    | refine ar_go3 _ rfl (by simp [rl_len, rl_getE, rl_set, rl_nil, List.length_set, List.getElem_set, IntKind.bits, ub_shl1', ub_shr, ub_or, ub_and, ub_andNot, ub_bit, Int.toNat_natCast, ub_zero]; exact ⟨rfl, rfl, rfl⟩) rfl ?_
    | refine aw_sregK 0 [0, 1, 2] ?_
    | refine aw_regK 0 [0, 1, 2] ?_
    | refine aw_sregK 1 [0, 1, 2] ?_
    | refine aw_regK 1 [0, 1, 2] ?_
    | refine aw_sregK 2 [0, 1, 2, 7] ?_
    | refine aw_regK 2 [0, 1, 2, 7] ?_
    | refine aw_sreg ?_
    | refine aw_sregD mixed ?_
    | refine aw_ifT (b := true) rfl rfl ?_
    | refine aw_ifF (b := false) rfl rfl ?_
    | refine aw_ifT rfl (by assumption) ?_
    | refine aw_ifF rfl (by assumption) ?_
    | refine aw_ifT rfl (decide_eq_true (by assumption)) ?_
    | refine aw_ifF rfl (decide_eq_false (by assumption)) ?_
    | refine aw_seq ?_
    | refine aw_block ?_
    | refine aw_skip ?_
    | refine aw_region ?_
    | refine aw_region_draw mixed ?_
    | refine aw_exit ?_
    | refine rq_exit ?_
    | refine blockQ_hit ?_
    | refine blockQ_miss (by decide) ?_
    | (refine ar_guard rfl rfl rfl rfl (fun h => ?_) (fun h => ?_) <;> (fail_if_success (cases h; done)) <;> (try simp at h) <;> (try subst h))
    | (refine aw_both rfl (fun h => ?_) (fun h => ?_) <;> (fail_if_success (cases h; done)) <;> (try simp at h) <;> (try subst h)))
  refine aw_loopN [0, 1, 2, 7, 12, 13] [.loc 10] (by simp; exact rfl) (ι := {i : Nat // i ≤ n}) (fun i => ⟨26, [(0, I .i64 n), (1, I .u32 (ub fr)), (2, I .u32 (ub to)), (7, .own (.loc 10)), (12, I .i64 n), (13, I .i64 i.1)], [(.loc 10, some (.own 33 1 (rl (mixR (newR n) z i.1))))]⟩) (fun i => n - i.1) ⟨0, by omega⟩ (by simp [mix_zero, rl_len, newR]) ?_
  rintro ⟨i, hi⟩
  have hnl : (newR n).length = n := by simp [newR]
  by_cases hlt : i < n
  · have hw : IntKind.wrap .i64 ((i : Int) + 1) = (i : Int) + 1 := wrap64s (by omega) (by omega)
    have hd : (i : Int) < (n : Int) := by omega
    have hml := mix_len (i := i) hzl (by omega)
    have hms := mix_set (b := allB n) hzl (i := i) (by omega) (by simp [← hz])
    generalize mixR (newR n) z i = m at hml hms
    have hlm : i < m.length := by omega
    repeat' (first
      | refine ar_end rfl ?_
      | refine ar_endD rfl (by kernel_rfl) ?_
      | refine ar_fin rfl ?_
      | refine ar_finD rfl (by kernel_rfl) ?_
      | refine ar_callV Try.call79 hA rfl rfl rfl rfl rfl (by simp; done) (by rfl) (by simp; done) ?_
      | refine ar_callV_if Try.call79 hA rfl rfl rfl rfl rfl rfl (by simp; done) rfl (by rfl) (by simp; done) ?_
      | refine bq_norm ?_
      | refine lq_normN [0, 1, 2, 7, 12, 13] [.loc 10] (by simp; exact rfl) ⟨i + 1, by omega⟩ (by dsimp only; omega) (by simp [hms])
      | refine ar_go3 _ rfl (by simp [rl_len, rl_getE, rl_set, rl_nil, List.length_set, List.getElem_set, IntKind.bits, ub_shl1', ub_shr, ub_or, ub_and, ub_andNot, ub_bit, Int.toNat_natCast, ub_zero, hlm, hd, hw]; exact ⟨rfl, rfl, rfl⟩) rfl ?_
      | refine aw_sregK 3 [0, 1, 2, 7, 12, 13] ?_
      | refine aw_regK 3 [0, 1, 2, 7, 12, 13] ?_
      | refine aw_sregK 4 [0, 1, 2, 7, 12, 13] ?_
      | refine aw_regK 4 [0, 1, 2, 7, 12, 13] ?_
      | refine aw_sregK 5 [0, 1, 2, 7, 8, 12, 13] ?_
      | refine aw_regK 5 [0, 1, 2, 7, 8, 12, 13] ?_
      | refine aw_sregK 6 [0, 1, 2, 7, 12, 13] ?_
      | refine aw_regK 6 [0, 1, 2, 7, 12, 13] ?_
      | refine aw_sreg ?_
      | refine aw_sregD mixed ?_
      | refine aw_ifT (b := true) rfl rfl ?_
      | refine aw_ifF (b := false) rfl rfl ?_
      | refine aw_ifT rfl (by assumption) ?_
      | refine aw_ifF rfl (by assumption) ?_
      | refine aw_ifT rfl (decide_eq_true (by assumption)) ?_
      | refine aw_ifF rfl (decide_eq_false (by assumption)) ?_
      | refine aw_seq ?_
      | refine aw_block ?_
      | refine aw_skip ?_
      | refine aw_region ?_
      | refine aw_region_draw mixed ?_
      | refine aw_exit ?_
      | refine rq_exit ?_
      | refine blockQ_hit ?_
      | refine blockQ_miss (by decide) ?_
      | (refine ar_guard rfl rfl rfl rfl (fun h => ?_) (fun h => ?_) <;> (fail_if_success (cases h; done)) <;> (try simp at h) <;> (try subst h))
      | (refine aw_both rfl (fun h => ?_) (fun h => ?_) <;> (fail_if_success (cases h; done)) <;> (try simp at h) <;> (try subst h)))
  · have hd : ¬(i : Int) < (n : Int) := by omega
    have hie : i = n := by omega
    have hme := mix_end hzl
    rw [hnl] at hme
    subst hie
    rw [hme]
    refine aw_frz (.loc 10) (by simp; exact rfl) ?_
    repeat' (first
      | refine ar_end rfl ?_
      | refine ar_endD rfl (by kernel_rfl) ?_
      | refine ar_fin rfl ?_
      | refine ar_finD rfl (by kernel_rfl) ?_
      | refine lq_exit ?_
      | refine ar_callO Try.call18 hO rfl rfl rfl rfl (by simp; exact rfl) rfl (by simp; done) (by rfl) rfl ?_
      | exact aw_ret (ret_own (.loc 25) (by simp; exact rfl) (by simp) (by simp []))
      | refine ar_go3 _ rfl (by simp [rl_len, rl_getE, rl_set, rl_nil, List.length_set, List.getElem_set, IntKind.bits, ub_shl1', ub_shr, ub_or, ub_and, ub_andNot, ub_bit, Int.toNat_natCast, ub_zero, hd]; exact ⟨rfl, rfl, rfl⟩) rfl ?_
      | refine aw_sregK 3 [0, 1, 2, 7, 12, 13] ?_
      | refine aw_regK 3 [0, 1, 2, 7, 12, 13] ?_
      | refine aw_sregK 7 [1, 2, 7] ?_
      | refine aw_regK 7 [1, 2, 7] ?_
      | refine aw_sreg ?_
      | refine aw_sregD mixed ?_
      | refine aw_ifT (b := true) rfl rfl ?_
      | refine aw_ifF (b := false) rfl rfl ?_
      | refine aw_ifT rfl (by assumption) ?_
      | refine aw_ifF rfl (by assumption) ?_
      | refine aw_ifT rfl (decide_eq_true (by assumption)) ?_
      | refine aw_ifF rfl (decide_eq_false (by assumption)) ?_
      | refine aw_seq ?_
      | refine aw_block ?_
      | refine aw_skip ?_
      | refine aw_region ?_
      | refine aw_region_draw mixed ?_
      | refine aw_exit ?_
      | refine rq_exit ?_
      | refine blockQ_hit ?_
      | refine blockQ_miss (by decide) ?_
      | (refine ar_guard rfl rfl rfl rfl (fun h => ?_) (fun h => ?_) <;> (fail_if_success (cases h; done)) <;> (try simp at h) <;> (try subst h))
      | (refine aw_both rfl (fun h => ?_) (fun h => ?_) <;> (fail_if_success (cases h; done)) <;> (try simp at h) <;> (try subst h)))
set_option maxHeartbeats 16000000 in
theorem c_crossV {n : Nat} {fr to : Wd} (h : n ≤ 32) : SC Try.prog 71 [I .i64 n, I .u32 (ub fr), I .u32 (ub to)] (.pv (.sl 1 (rl (crossR n fr to)))) := sco_sc (c_cross h)
theorem fr_len {es : List Ev} {fm : List Int} {co : RL} (h : es.length ≤ 32) : ∀ r, Cl es.length (frUp es fm co r)
  | 0 => new_cl h
  | r + 1 => (orR (fr_len h r) (cross_cl h _ _).1).1
set_option maxHeartbeats 16000000 in
theorem c_fr {es : List Ev} {fm : List Int} {co : RL} (h32 : es.length ≤ 32) : SC Try.prog 44 [.agg (exL es), .pv (.sl 1 (ints fm)), .pv (.sl 1 (rl co))] (.pv (.sl 1 (rl (frR es fm co)))) := by
  have hN := c_newV (n := es.length) h32
  unfold frR
  obtain ⟨m, hm⟩ : ∃ m, m = min fm.length es.length := ⟨_, rfl⟩
  have hm1 : m ≤ fm.length := by omega
  have hm2 : m ≤ es.length := by omega
  have hmm : mm false (fm.length : Int) (es.length : Int) = (m : Int) := by unfold mm; simp; omega
  rw [← hm]
  refine scx_of Try.func44 rfl rfl rfl (Nat.le_of_ble_eq_true rfl) ?_
  repeat' (first
    | refine ar_end rfl ?_
    | refine ar_endD rfl (by kernel_rfl) ?_
    | refine ar_fin rfl ?_
    | refine ar_finD rfl (by kernel_rfl) ?_
    | refine ar_callV Try.call29 hN rfl rfl rfl rfl rfl (by simp; done) (by rfl) (by simp; done) ?_
    | refine ar_callV_if Try.call29 hN rfl rfl rfl rfl rfl rfl (by simp; done) rfl (by rfl) (by simp; done) ?_
    | refine ar_go3 _ rfl (by simp [rl_len, rl_getE, rl_set, rl_nil, List.length_set, List.getElem_set, IntKind.bits, ub_shl1', ub_shr, ub_or, ub_and, ub_andNot, ub_bit, Int.toNat_natCast, ub_zero, evsL_len, evsL_getE, evL, prs_len, prs_getE, ints_len, hmm]; exact ⟨rfl, rfl, rfl⟩) rfl ?_
    | refine aw_sregK 0 [0, 1, 2] ?_
    | refine aw_regK 0 [0, 1, 2] ?_
    | refine aw_sregK 1 [1, 2, 3] ?_
    | refine aw_regK 1 [1, 2, 3] ?_
    | refine aw_sregK 2 [1, 2, 3, 7] ?_
    | refine aw_regK 2 [1, 2, 3, 7] ?_
    | refine aw_sregK 3 [1, 2, 3, 7, 8] ?_
    | refine aw_regK 3 [1, 2, 3, 7, 8] ?_
    | refine aw_sreg ?_
    | refine aw_sregD mixed ?_
    | refine aw_ifT (b := true) rfl rfl ?_
    | refine aw_ifF (b := false) rfl rfl ?_
    | refine aw_ifT rfl (by assumption) ?_
    | refine aw_ifF rfl (by assumption) ?_
    | refine aw_ifT rfl (decide_eq_true (by assumption)) ?_
    | refine aw_ifF rfl (decide_eq_false (by assumption)) ?_
    | refine aw_seq ?_
    | refine aw_block ?_
    | refine aw_skip ?_
    | refine aw_region ?_
    | refine aw_region_draw mixed ?_
    | refine aw_exit ?_
    | refine rq_exit ?_
    | refine blockQ_hit ?_
    | refine blockQ_miss (by decide) ?_
    | (refine ar_guard rfl rfl rfl rfl (fun h => ?_) (fun h => ?_) <;> (fail_if_success (cases h; done)) <;> (try simp at h) <;> (try subst h))
    | (refine aw_both rfl (fun h => ?_) (fun h => ?_) <;> (fail_if_success (cases h; done)) <;> (try simp at h) <;> (try subst h)))
  refine aw_loopN [1, 2, 3, 7, 8, 19, 20] [.loc 3] (by simp; exact rfl) (ι := {i : Nat // i ≤ m}) (fun i => ⟨43, [(1, .pv (.sl 1 (ints fm))), (2, .pv (.sl 1 (rl co))), (3, .ptr (.loc 3) 0), (7, I .i64 es.length), (8, .pv (.sl 1 (rl (frUp es fm co i.1)))), (19, I .i64 m), (20, I .i64 i.1)], [(.loc 3, some (.box 28 [.pv (.sl 7 (evsL es)), .pv (.v (.slice none 0 0)), .pv (.v (.slice none 0 0)), .pv (.v (.slice none 0 0)), .pv (.v (.slice none 0 0)), .pv (.v (.slice none 0 0)), .pv (.v (.slice none 0 0))]))]⟩) (fun i => m - i.1) ⟨0, by omega⟩ (by simp [frUp, evsL_len]) ?_
  rintro ⟨i, hi⟩
  by_cases hlt : i < m
  · have hw : IntKind.wrap .i64 ((i : Int) + 1) = (i : Int) + 1 := wrap64s (by omega) (by omega)
    have hwu := wrap64u (n := i) (by omega)
    have hd : (i : Int) < (m : Int) := by omega
    have hst : frUp es fm co (i + 1) = bothR (· ||| ·) (frUp es fm co i) (crossR es.length (1#32 <<< i) (behindR es i (fm.getD i 0) co &&& ~~~(1#32 <<< i))) := rfl
    have hfl : i < fm.length := by omega
    have hB := c_behind (es := es) (r := i) (w := fm.getD i 0) (co := co) (by omega) h32
    rw [getD_in _ _ hfl] at hB hst
    have hcl := (fr_len (fm := fm) (co := co) h32 i).len
    generalize hf : fm[i] = w at *
    generalize behindR es i w co = b at *
    generalize frUp es fm co i = F at *
    have hX := c_crossV (n := es.length) (fr := 1#32 <<< i) (to := b &&& ~~~(1#32 <<< i)) h32
    have hxl := (cross_cl h32 (1#32 <<< i) (b &&& ~~~(1#32 <<< i))).1.len
    generalize crossR es.length (1#32 <<< i) (b &&& ~~~(1#32 <<< i)) = X at *
    have hO := c_orV (a := F) (b := X) (by rw [hcl]; simp [maxLen]; omega) (by rw [hxl]; simp [maxLen]; omega)
    repeat' (first
      | refine ar_end rfl ?_
      | refine ar_endD rfl (by kernel_rfl) ?_
      | refine ar_fin rfl ?_
      | refine ar_finD rfl (by kernel_rfl) ?_
      | refine ar_callV Try.call72 hB rfl rfl rfl rfl rfl (by simp; done) (by rfl) (by simp; done) ?_
      | refine ar_callV_if Try.call72 hB rfl rfl rfl rfl rfl rfl (by simp; done) rfl (by rfl) (by simp; done) ?_
      | refine ar_callV Try.call71 hX rfl rfl rfl rfl rfl (by simp; done) (by rfl) (by simp; done) ?_
      | refine ar_callV_if Try.call71 hX rfl rfl rfl rfl rfl rfl (by simp; done) rfl (by rfl) (by simp; done) ?_
      | refine ar_callV Try.call16 hO rfl rfl rfl rfl rfl (by simp; done) (by rfl) (by simp; done) ?_
      | refine ar_callV_if Try.call16 hO rfl rfl rfl rfl rfl rfl (by simp; done) rfl (by rfl) (by simp; done) ?_
      | refine bq_norm ?_
      | refine lq_normN [1, 2, 3, 7, 8, 19, 20] [.loc 3] (by simp; exact rfl) ⟨i + 1, by omega⟩ (by dsimp only; omega) (by simp [hst])
      | refine ar_go3 _ rfl (by simp [rl_len, rl_getE, rl_set, rl_nil, List.length_set, List.getElem_set, IntKind.bits, ub_shl1', ub_shr, ub_or, ub_and, ub_andNot, ub_bit, Int.toNat_natCast, ub_zero, evsL_len, evsL_getE, evL, prs_len, prs_getE, ints_len, ints_getE, hfl, hf, hd, hw, hwu]; exact ⟨rfl, rfl, rfl⟩) rfl ?_
      | refine aw_sregK 4 [1, 2, 3, 7, 8, 19, 20] ?_
      | refine aw_regK 4 [1, 2, 3, 7, 8, 19, 20] ?_
      | refine aw_sregK 5 [1, 2, 3, 7, 8, 19, 20] ?_
      | refine aw_regK 5 [1, 2, 3, 7, 8, 19, 20] ?_
      | refine aw_sregK 6 [1, 2, 3, 7, 8, 9, 19, 20] ?_
      | refine aw_regK 6 [1, 2, 3, 7, 8, 9, 19, 20] ?_
      | refine aw_sregKD mixed 7 [1, 2, 3, 7, 8, 9, 10, 19, 20] (by simp; exact rfl) ?_
      | refine aw_regKD mixed 7 [1, 2, 3, 7, 8, 9, 10, 19, 20] (by simp; exact rfl) ?_
      | refine aw_sregK 8 [1, 2, 3, 7, 8, 19, 20] ?_
      | refine aw_regK 8 [1, 2, 3, 7, 8, 19, 20] ?_
      | refine aw_sreg ?_
      | refine aw_sregD mixed ?_
      | refine aw_ifT (b := true) rfl rfl ?_
      | refine aw_ifF (b := false) rfl rfl ?_
      | refine aw_ifT rfl (by assumption) ?_
      | refine aw_ifF rfl (by assumption) ?_
      | refine aw_ifT rfl (decide_eq_true (by assumption)) ?_
      | refine aw_ifF rfl (decide_eq_false (by assumption)) ?_
      | refine aw_seq ?_
      | refine aw_block ?_
      | refine aw_skip ?_
      | refine aw_region ?_
      | refine aw_region_draw mixed ?_
      | refine aw_exit ?_
      | refine rq_exit ?_
      | refine blockQ_hit ?_
      | refine blockQ_miss (by decide) ?_
      | (refine ar_guard rfl rfl rfl rfl (fun h => ?_) (fun h => ?_) <;> (fail_if_success (cases h; done)) <;> (try simp at h) <;> (try subst h))
      | (refine aw_both rfl (fun h => ?_) (fun h => ?_) <;> (fail_if_success (cases h; done)) <;> (try simp at h) <;> (try subst h)))
  · have hd : ¬(i : Int) < (m : Int) := by omega
    have hie : i = m := by omega
    subst hie
    repeat' (first
      | exact aw_ret (ret_vals (by simp; exact rfl) (by simp [*]; fail_if_success (show _)))
      | exact aw_ret (ret_vals (by simp; exact rfl) (by simp [*]; omega))
      | refine ar_end rfl ?_
      | refine ar_endD rfl (by kernel_rfl) ?_
      | refine ar_fin rfl ?_
      | refine ar_finD rfl (by kernel_rfl) ?_
      | refine lq_exit ?_
      | refine ar_go3 _ rfl (by simp [rl_len, rl_getE, rl_set, rl_nil, List.length_set, List.getElem_set, IntKind.bits, ub_shl1', ub_shr, ub_or, ub_and, ub_andNot, ub_bit, Int.toNat_natCast, ub_zero, hd]; exact ⟨rfl, rfl, rfl⟩) rfl ?_
      | refine aw_sregK 4 [1, 2, 3, 7, 8, 19, 20] ?_
      | refine aw_regK 4 [1, 2, 3, 7, 8, 19, 20] ?_
      | refine aw_sregK 9 [8] ?_
      | refine aw_regK 9 [8] ?_
      | refine aw_sreg ?_
      | refine aw_sregD mixed ?_
      | refine aw_ifT (b := true) rfl rfl ?_
      | refine aw_ifF (b := false) rfl rfl ?_
      | refine aw_ifT rfl (by assumption) ?_
      | refine aw_ifF rfl (by assumption) ?_
      | refine aw_ifT rfl (decide_eq_true (by assumption)) ?_
      | refine aw_ifF rfl (decide_eq_false (by assumption)) ?_
      | refine aw_seq ?_
      | refine aw_block ?_
      | refine aw_skip ?_
      | refine aw_region ?_
      | refine aw_region_draw mixed ?_
      | refine aw_exit ?_
      | refine rq_exit ?_
      | refine blockQ_hit ?_
      | refine blockQ_miss (by decide) ?_
      | (refine ar_guard rfl rfl rfl rfl (fun h => ?_) (fun h => ?_) <;> (fail_if_success (cases h; done)) <;> (try simp at h) <;> (try subst h))
      | (refine aw_both rfl (fun h => ?_) (fun h => ?_) <;> (fail_if_success (cases h; done)) <;> (try simp at h) <;> (try subst h)))
end Go.Eng
