import Derived.Test.YtclegllogeanlaaRelD
import Derived.Test.YtclegllogeanlaaShelfB
import Derived.Test.YtclegllogeanlaaEngE
set_option linter.unusedSimpArgs false
set_option linter.unusedVariables false
set_option linter.constructorNameAsVariable false
set_option autoImplicit false
namespace Go.Eng
open Go Go.RowKit Go.Proofs
set_option maxHeartbeats 16000000 in
theorem c_sortC : SortC Try.prog 80 := ⟨fun blk off cap zs w h1 h2 h3 => Try.slices_Sort_int blk off cap zs w h1 h2 h3, fun p cap w => Try.slices_Sort_int_none p cap w⟩
theorem ar_sortI {ops : Array Oper} {draw : Bool} {st0 : AState} {Q : Exit → AState → Prop} {i : Nat} {st : AState} {acc : List Eff} {o : Oper} {x y : Operand} {ats : Array TypeId} {f : FuncId} {n : Name} {e : TypeId} {l : List Int} {d : Nat} (hent : Enters Try.prog f) (hc : SortC Try.prog f) (ho : ops[i]? = some o) (hg : o.guard = none) (hop : o.op = .call { callee := .value x, args := #[y], argTypes := ats }) (hd : o.dst = some d) (hlt : d < st.n)
    (hx : ev st x = .fn f [] []) (hy : ev st y = .own n) (hs : sget st.s n = some (.own e 1 (ints l))) (hl : l.length < 4611686018427387904)
    (k : AR Try.prog ops draw st0 Q (i + 1, st.app ⟨[(d, .tup [])], [(n, some (.own e 1 (ints (sortI l))))]⟩, if draw = true then acc ++ [⟨keyO x ++ keyO y ++ [.slot n], ⟨[(d, .tup [])], [(n, some (.own e 1 (ints (sortI l))))]⟩, []⟩] else acc)) : AR Try.prog ops draw st0 Q (i, st, acc) :=
  ar_sort hent hc ho hg hop hd hlt hx hy hs rfl hl k
theorem compactUp_le (d : Array Int) : ∀ n, (Lib.compactUpTo d n).length ≤ n := by
  intro n; unfold Lib.compactUpTo; exact Nat.le_trans (by simp; exact List.length_filter_le _ _) (by simp)
theorem compact_le (l : List Int) : (Lib.compact l).length ≤ l.length := by
  unfold Lib.compact; exact Nat.le_trans (compactUp_le _ _) (by simp)
set_option maxHeartbeats 16000000 in
theorem c_compact {l : List Int} (hl : l.length ≤ 1000000) : SCX Try.prog 81 [.own (.ext 0)] [(.ext 0, some (.own 3 1 (ints l)))] (.own (.ext 0)) [(.ext 0, some (.own 3 1 (ints (Lib.compact l))))] := by
  have hle : (Lib.compact l).length ≤ l.length := compact_le l
  exact scx_shrink (f := 81) (exA := []) (exV := []) (l := l) (ts := Lib.compact l) (rest := List.replicate (l.length - (Lib.compact l).length) 0) (fun ρ w vs h => h) (fun blk off cap w _ hH h1 h2 => Try.slices_Compact_int blk off cap l w hH (by omega) h1) (fun h => ⟨by subst h; rfl, fun p cap w => Try.slices_Compact_int_empty p cap w⟩) (by simp; omega)
set_option maxHeartbeats 16000000 in
theorem c_delete {l : List Int} {i : Nat} (hi : i < l.length) : SCX Try.prog 82 [.own (.ext 0), I .i64 i, I .i64 ((i : Int) + 1)] [(.ext 0, some (.own 3 1 (ints l)))] (.own (.ext 0)) [(.ext 0, some (.own 3 1 (ints (l.eraseIdx i))))] := by
  have e : l.eraseIdx i = l.take i ++ l.drop (i + 1) := List.eraseIdx_eq_take_drop_succ l i
  refine scx_shrink (f := 82) (exA := [I .i64 i, I .i64 ((i : Int) + 1)]) (exV := [.int .i64 i, .int .i64 ((i : Int) + 1)]) (l := l) (ts := l.eraseIdx i) (rest := [0]) (fun ρ w vs h => ?_) (fun blk off cap w _ hH h1 h2 => ?_) (fun h => by subst h; simp at hi) (by rw [e]; simp; omega)
  · obtain ⟨v1, vs1, rfl, ⟨rfl, _⟩, v2, vs2, rfl, ⟨rfl, _⟩, rfl⟩ := h
    rfl
  · refine (Try.slices_Delete_int blk off cap i (i + 1) l w hH h1 h2 (by omega) (by omega)).mono ?_
    rintro ex w' ⟨rfl, q, rfl⟩
    refine ⟨?_, q, ?_⟩
    · rw [List.length_eraseIdx_of_lt hi]; congr 2; omega
    · rw [e]; simp
set_option maxHeartbeats 16000000 in
theorem c_clone {l : List Int} (hl : l.length ≤ 1000000) : SCO Try.prog 83 [.pv (.sl 1 (ints l))] 3 1 (ints l) :=
  sco_clone (fun b off n c zs w h1 h2 h3 => Try.slices_Clone_int b off n c zs w h1 h2 h3) (fun n c w => Try.slices_Clone_int_nil n c w) (fun a c w => Try.slices_Clone_int_zero a c w) (by omega)
theorem ints_app (s l : List Int) : ints (s ++ l) = ints s ++ ints l := by simp [ints]
def intsL (l : List (List Int)) : List (List PV) := l.map fun x => [.sl 1 (ints x)]
theorem intsL_len {l : List (List Int)} : (intsL l).length = l.length := by simp [intsL]
theorem intsL_getE {l : List (List Int)} {i : Nat} (h : i < (intsL l).length) : (intsL l)[i] = [.sl 1 (ints (l[i]'(by simpa [intsL] using h)))] := by simp [intsL]
theorem intsL_app (s l : List (List Int)) : intsL (s ++ l) = intsL s ++ intsL l := by simp [intsL]
def wlocs (es : List Ev) : List Int := (es.filter fun e => decide (e.k = 2)).map (·.l)
def placesF (es : List Ev) : List Int := Lib.compact (sortI (wlocs es))
theorem wlocs_succ {es : List Ev} {i : Nat} (h : i < es.length) : wlocs (es.take (i + 1)) = wlocs (es.take i) ++ (if es[i].k = 2 then [es[i].l] else []) := by
  unfold wlocs
  rw [filter_take_succ h, List.map_append]
  by_cases hk : es[i].k = 2 <;> simp [hk]
theorem wlocs_len (es : List Ev) : (wlocs es).length ≤ es.length := by unfold wlocs; simp; exact List.length_filter_le _ _
def wrQ (loc : Int) (x : Ev) : Bool := decide (x.k = 2) && decide (x.l = loc)
def writesF (es : List Ev) (loc : Int) : List Int := ((List.range es.length).filter (someE (wrQ loc) es)).map fun (k : Nat) => (k : Int)
set_option maxHeartbeats 16000000 in
theorem c_places {es : List Ev} (h32 : es.length ≤ 32) : SC Try.prog 57 [.agg (exL es)] (.pv (.sl 1 (ints (placesF es)))) := by
  refine scx_of Try.func57 rfl rfl rfl (Nat.le_of_ble_eq_true rfl) ?_
  repeat' (first
    | refine ar_end rfl ?_
    | refine ar_endD rfl (by kernel_rfl) ?_
    | refine ar_fin rfl ?_
    | refine ar_finD rfl (by kernel_rfl) ?_
    | refine ar_go3 _ rfl (by simp [evsL_len, evsL_getE, evL, prs_len, prs_getE]; exact ⟨rfl, rfl, rfl⟩) rfl ?_
    | refine aw_sregK 0 [0] ?_
    | refine aw_regK 0 [0] ?_
    | refine aw_sregK 1 [1] ?_
    | refine aw_regK 1 [1] ?_
    | refine aw_sregK 2 [1, 3] ?_
    | refine aw_regK 2 [1, 3] ?_
    | refine aw_sreg ?_
    | refine aw_sregD mixed ?_
    | refine aw_ifT (b := true) rfl rfl ?_
    | refine aw_ifF (b := false) rfl rfl ?_
    | refine aw_ifT rfl (by assumption) ?_
    | refine aw_ifF rfl (by assumption) ?_
    | refine aw_ifT rfl (decide_eq_true (by assumption)) ?_
    | refine aw_ifF rfl (decide_eq_false (by assumption)) ?_
    | refine aw_seq ?_
    | refine aw_block ?_
    | refine aw_skip ?_
    | refine aw_region ?_
    | refine aw_region_draw mixed ?_
    | refine aw_exit ?_
    | refine rq_exit ?_
    | refine blockQ_hit ?_
    | refine blockQ_miss (by decide) ?_
    | (refine ar_guard rfl rfl rfl rfl (fun h => ?_) (fun h => ?_) <;> (fail_if_success (cases h; done)) <;> (try simp at h) <;> (try subst h))
    | (refine aw_both rfl (fun h => ?_) (fun h => ?_) <;> (fail_if_success (cases h; done)) <;> (try simp at h) <;> (try subst h)))
  refine aw_nil 3 (.loc 1000) 3 1 (by simp; exact rfl) ?_
  refine aw_loopN [3, 7, 8, 9] [.loc 1000] (by simp; exact rfl) (ι := {i : Nat // i ≤ es.length}) (fun i => ⟨26, [(3, .own (.loc 1000)), (7, .pv (.sl 7 (evsL es))), (8, I .i64 es.length), (9, I .i64 i.1)], [(.loc 1000, some (.own 3 1 (ints (wlocs (es.take i.1)))))]⟩) (fun i => es.length - i.1) ⟨0, by omega⟩ (by simp [wlocs, ints, evsL_len]) ?_
  rintro ⟨i, hi⟩
  have hwl := wlocs_len (es.take i)
  rw [List.length_take] at hwl
  by_cases hlt : i < es.length
  · have hw : IntKind.wrap .i64 ((i : Int) + 1) = (i : Int) + 1 := wrap64s (by omega) (by omega)
    have hd : (i : Int) < (es.length : Int) := by omega
    have hs := wlocs_succ hlt
    generalize hx : es[i] = x at hs
    generalize wlocs (es.take i) = F at *
    by_cases hk : x.k = 2
    · rw [if_pos hk] at hs
      repeat' (first
        | refine ar_end rfl ?_
        | refine ar_endD rfl (by kernel_rfl) ?_
        | refine ar_fin rfl ?_
        | refine ar_finD rfl (by kernel_rfl) ?_
        | refine ar_appO rfl rfl rfl rfl rfl (by simp; exact rfl) rfl (by simp; exact rfl) (by simp; exact rfl) (by simp; exact ⟨rfl, rfl⟩) rfl (by simp; exact rfl) (by simp; done) (by decide) (by simp [ints_len, maxLen]; try omega) ?_
        | refine bq_norm ?_
        | refine lq_normR (.loc 20) (.loc 1000) [3, 7, 8, 9] [.loc 1000] (by simp; exact rfl) ⟨i + 1, by omega⟩ (by dsimp only; omega) (by rw [hs, ints_app]; simp [ints])
        | refine ar_go3 _ rfl (by simp [evsL_len, evsL_getE, evL, prs_len, prs_getE, hlt, hd, hx, hk, hw]; exact ⟨rfl, rfl, rfl⟩) rfl ?_
        | refine aw_sregK 3 [3, 7, 8, 9] ?_
        | refine aw_regK 3 [3, 7, 8, 9] ?_
        | refine aw_sregK 4 [3, 7, 8, 9] ?_
        | refine aw_regK 4 [3, 7, 8, 9] ?_
        | refine aw_sregK 5 [3, 5, 7, 8, 9] ?_
        | refine aw_regK 5 [3, 5, 7, 8, 9] ?_
        | refine aw_sregK 6 [3, 5, 7, 8, 9] ?_
        | refine aw_regK 6 [3, 5, 7, 8, 9] ?_
        | refine aw_sregK 7 [3, 7, 8, 9] ?_
        | refine aw_regK 7 [3, 7, 8, 9] ?_
        | refine aw_sreg ?_
        | refine aw_sregD mixed ?_
        | refine aw_ifT (b := true) rfl rfl ?_
        | refine aw_ifF (b := false) rfl rfl ?_
        | refine aw_ifT rfl (by assumption) ?_
        | refine aw_ifF rfl (by assumption) ?_
        | refine aw_ifT rfl (decide_eq_true (by assumption)) ?_
        | refine aw_ifF rfl (decide_eq_false (by assumption)) ?_
        | refine aw_seq ?_
        | refine aw_block ?_
        | refine aw_skip ?_
        | refine aw_region ?_
        | refine aw_region_draw mixed ?_
        | refine aw_exit ?_
        | refine rq_exit ?_
        | refine blockQ_hit ?_
        | refine blockQ_miss (by decide) ?_
        | (refine ar_guard rfl rfl rfl rfl (fun h => ?_) (fun h => ?_) <;> (fail_if_success (cases h; done)) <;> (try simp at h) <;> (try subst h))
        | (refine aw_both rfl (fun h => ?_) (fun h => ?_) <;> (fail_if_success (cases h; done)) <;> (try simp at h) <;> (try subst h)))
    · rw [if_neg hk, List.append_nil] at hs
      repeat' (first
        | refine ar_end rfl ?_
        | refine ar_endD rfl (by kernel_rfl) ?_
        | refine ar_fin rfl ?_
        | refine ar_finD rfl (by kernel_rfl) ?_
        | refine bq_norm ?_
        | refine lq_normN [3, 7, 8, 9] [.loc 1000] (by simp; exact rfl) ⟨i + 1, by omega⟩ (by dsimp only; omega) (by simp [hs])
        | refine ar_go3 _ rfl (by simp [evsL_len, evsL_getE, evL, prs_len, prs_getE, hlt, hd, hx, hk, hw]; exact ⟨rfl, rfl, rfl⟩) rfl ?_
        | refine aw_sregK 3 [3, 7, 8, 9] ?_
        | refine aw_regK 3 [3, 7, 8, 9] ?_
        | refine aw_sregK 4 [3, 7, 8, 9] ?_
        | refine aw_regK 4 [3, 7, 8, 9] ?_
        | refine aw_sregK 5 [3, 5, 7, 8, 9] ?_
        | refine aw_regK 5 [3, 5, 7, 8, 9] ?_
        | refine aw_sregK 6 [3, 5, 7, 8, 9] ?_
        | refine aw_regK 6 [3, 5, 7, 8, 9] ?_
        | refine aw_sregK 7 [3, 7, 8, 9] ?_
        | refine aw_regK 7 [3, 7, 8, 9] ?_
        | refine aw_sreg ?_
        | refine aw_sregD mixed ?_
        | refine aw_ifT (b := true) rfl rfl ?_
        | refine aw_ifF (b := false) rfl rfl ?_
        | refine aw_ifT rfl (by assumption) ?_
        | refine aw_ifF rfl (by assumption) ?_
        | refine aw_ifT rfl (decide_eq_true (by assumption)) ?_
        | refine aw_ifF rfl (decide_eq_false (by assumption)) ?_
        | refine aw_seq ?_
        | refine aw_block ?_
        | refine aw_skip ?_
        | refine aw_region ?_
        | refine aw_region_draw mixed ?_
        | refine aw_exit ?_
        | refine rq_exit ?_
        | refine blockQ_hit ?_
        | refine blockQ_miss (by decide) ?_
        | (refine ar_guard rfl rfl rfl rfl (fun h => ?_) (fun h => ?_) <;> (fail_if_success (cases h; done)) <;> (try simp at h) <;> (try subst h))
        | (refine aw_both rfl (fun h => ?_) (fun h => ?_) <;> (fail_if_success (cases h; done)) <;> (try simp at h) <;> (try subst h)))
  · have hd : ¬(i : Int) < (es.length : Int) := by omega
    have hie : es.take i = es := List.take_of_length_le (by omega)
    rw [hie] at hwl
    simp only [hie]
    have hK := c_compact (l := sortI (wlocs es)) (by rw [sortI_len]; omega)
    unfold placesF
    generalize wlocs es = W at *
    repeat' (first
      | refine ar_end rfl ?_
      | refine ar_endD rfl (by kernel_rfl) ?_
      | refine ar_fin rfl ?_
      | refine ar_finD rfl (by kernel_rfl) ?_
      | refine lq_exit ?_
      | refine ar_sortI (l := W) Try.call80 c_sortC rfl rfl rfl rfl (by simp; done) rfl rfl (by simp; exact rfl) (by omega) ?_
      | refine ar_callE [.loc 1000] [.loc 25] [.loc 25] Try.call81 hK rfl rfl rfl rfl (by simp; exact rfl) rfl (by simp; done) (by rfl) (by simp; fail_if_success (show _)) rfl ⟨by simp, by simp, (by simp [okY]; fail_if_success (show _)), by simp, by simp⟩ (by simp; fail_if_success (show _)) ?_
      | exact aw_ret (ret_frz (.loc 25) (by simp; exact rfl) (by simp; fail_if_success (show _)))
      | refine ar_go3 _ rfl (by simp [evsL_len, evsL_getE, evL, prs_len, prs_getE, hd]; exact ⟨rfl, rfl, rfl⟩) rfl ?_
      | refine aw_sregK 3 [3, 7, 8, 9] ?_
      | refine aw_regK 3 [3, 7, 8, 9] ?_
      | refine aw_sregK 8 [3] ?_
      | refine aw_regK 8 [3] ?_
      | refine aw_sregK 9 [3] ?_
      | refine aw_regK 9 [3] ?_
      | refine aw_sreg ?_
      | refine aw_sregD mixed ?_
      | refine aw_ifT (b := true) rfl rfl ?_
      | refine aw_ifF (b := false) rfl rfl ?_
      | refine aw_ifT rfl (by assumption) ?_
      | refine aw_ifF rfl (by assumption) ?_
      | refine aw_ifT rfl (decide_eq_true (by assumption)) ?_
      | refine aw_ifF rfl (decide_eq_false (by assumption)) ?_
      | refine aw_seq ?_
      | refine aw_block ?_
      | refine aw_skip ?_
      | refine aw_region ?_
      | refine aw_region_draw mixed ?_
      | refine aw_exit ?_
      | refine rq_exit ?_
      | refine blockQ_hit ?_
      | refine blockQ_miss (by decide) ?_
      | (refine ar_guard rfl rfl rfl rfl (fun h => ?_) (fun h => ?_) <;> (fail_if_success (cases h; done)) <;> (try simp at h) <;> (try subst h))
      | (refine aw_both rfl (fun h => ?_) (fun h => ?_) <;> (fail_if_success (cases h; done)) <;> (try simp at h) <;> (try subst h)))
set_option maxHeartbeats 16000000 in
theorem c_writes {es : List Ev} {loc : Int} (h32 : es.length ≤ 32) : SC Try.prog 31 [.agg (exL es), I .i64 loc] (.pv (.sl 1 (ints (writesF es loc)))) := by
  unfold writesF
  have hqs : ∀ i, (hi : i < es.length) → someE (wrQ loc) es i = wrQ loc es[i] := fun i hi => by unfold someE; rw [List.getElem?_eq_getElem hi]
  generalize someE (wrQ loc) es = qs at *
  refine scx_of Try.func31 rfl rfl rfl (Nat.le_of_ble_eq_true rfl) ?_
  repeat' (first
    | refine ar_end rfl ?_
    | refine ar_endD rfl (by kernel_rfl) ?_
    | refine ar_fin rfl ?_
    | refine ar_finD rfl (by kernel_rfl) ?_
    | refine ar_go3 _ rfl (by simp [evsL_len, evsL_getE, evL, prs_len, prs_getE]; exact ⟨rfl, rfl, rfl⟩) rfl ?_
    | refine aw_sregK 0 [0, 1] ?_
    | refine aw_regK 0 [0, 1] ?_
    | refine aw_sregK 1 [1, 2] ?_
    | refine aw_regK 1 [1, 2] ?_
    | refine aw_sregK 2 [1, 2, 5] ?_
    | refine aw_regK 2 [1, 2, 5] ?_
    | refine aw_sreg ?_
    | refine aw_sregD mixed ?_
    | refine aw_ifT (b := true) rfl rfl ?_
    | refine aw_ifF (b := false) rfl rfl ?_
    | refine aw_ifT rfl (by assumption) ?_
    | refine aw_ifF rfl (by assumption) ?_
    | refine aw_ifT rfl (decide_eq_true (by assumption)) ?_
    | refine aw_ifF rfl (decide_eq_false (by assumption)) ?_
    | refine aw_seq ?_
    | refine aw_block ?_
    | refine aw_skip ?_
    | refine aw_region ?_
    | refine aw_region_draw mixed ?_
    | refine aw_exit ?_
    | refine rq_exit ?_
    | refine blockQ_hit ?_
    | refine blockQ_miss (by decide) ?_
    | (refine ar_guard rfl rfl rfl rfl (fun h => ?_) (fun h => ?_) <;> (fail_if_success (cases h; done)) <;> (try simp at h) <;> (try subst h))
    | (refine aw_both rfl (fun h => ?_) (fun h => ?_) <;> (fail_if_success (cases h; done)) <;> (try simp at h) <;> (try subst h)))
  refine aw_nil 5 (.loc 1000) 3 1 (by simp; exact rfl) ?_
  refine aw_loopN [1, 5, 9, 10, 11] [.loc 1000] (by simp; exact rfl) (ι := {i : Nat // i ≤ es.length}) (fun i => ⟨31, [(1, I .i64 loc), (5, .own (.loc 1000)), (9, .pv (.sl 7 (evsL es))), (10, I .i64 es.length), (11, I .i64 i.1)], [(.loc 1000, some (.own 3 1 (ints (((List.range i.1).filter qs).map fun (k : Nat) => (k : Int)))))]⟩) (fun i => es.length - i.1) ⟨0, by omega⟩ (by simp [ints, evsL_len]) ?_
  rintro ⟨i, hi⟩
  by_cases hlt : i < es.length
  · have hw : IntKind.wrap .i64 ((i : Int) + 1) = (i : Int) + 1 := wrap64s (by omega) (by omega)
    have hd : (i : Int) < (es.length : Int) := by omega
    have hfs := congrArg (List.map fun (k : Nat) => (k : Int)) (filter_range_succ qs i)
    have hqi := hqs i hlt
    rw [List.map_append] at hfs
    have hfl : (((List.range i).filter qs).map fun (k : Nat) => (k : Int)).length ≤ i := by simp; exact Nat.le_trans (List.length_filter_le _ _) (by simp)
    generalize hx : es[i] = x at hqi
    unfold wrQ at hqi
    rw [hqi] at hfs
    generalize ((List.range i).filter qs).map (fun (k : Nat) => (k : Int)) = F at *
    by_cases hk : x.k = 2
    · by_cases hl : x.l = loc
      · simp only [hk, hl, decide_true, Bool.true_and, if_true, List.map_cons, List.map_nil] at hfs
        repeat' (first
          | refine ar_end rfl ?_
          | refine ar_endD rfl (by kernel_rfl) ?_
          | refine ar_fin rfl ?_
          | refine ar_finD rfl (by kernel_rfl) ?_
          | refine ar_appO rfl rfl rfl rfl rfl (by simp; exact rfl) rfl (by simp; exact rfl) (by simp; exact rfl) (by simp; exact ⟨rfl, rfl⟩) rfl (by simp; exact rfl) (by simp; done) (by decide) (by simp [ints_len, maxLen]; try omega) ?_
          | refine bq_norm ?_
          | refine lq_normR (.loc 28) (.loc 1000) [1, 5, 9, 10, 11] [.loc 1000] (by simp; exact rfl) ⟨i + 1, by omega⟩ (by dsimp only; omega) (by rw [hfs, ints_app]; simp [ints])
          | refine ar_go3 _ rfl (by simp [evsL_len, evsL_getE, evL, prs_len, prs_getE, hlt, hd, hx, hk, hl, hw]; exact ⟨rfl, rfl, rfl⟩) rfl ?_
          | refine aw_sregK 3 [1, 5, 9, 10, 11] ?_
          | refine aw_regK 3 [1, 5, 9, 10, 11] ?_
          | refine aw_sregK 4 [1, 5, 9, 10, 11] ?_
          | refine aw_regK 4 [1, 5, 9, 10, 11] ?_
          | refine aw_sregK 5 [1, 5, 6, 7, 9, 10, 11] ?_
          | refine aw_regK 5 [1, 5, 6, 7, 9, 10, 11] ?_
          | refine aw_sregK 6 [1, 5, 6, 9, 10, 11] ?_
          | refine aw_regK 6 [1, 5, 6, 9, 10, 11] ?_
          | refine aw_sregK 7 [1, 5, 9, 10, 11] ?_
          | refine aw_regK 7 [1, 5, 9, 10, 11] ?_
          | refine aw_sreg ?_
          | refine aw_sregD mixed ?_
          | refine aw_ifT (b := true) rfl rfl ?_
          | refine aw_ifF (b := false) rfl rfl ?_
          | refine aw_ifT rfl (by assumption) ?_
          | refine aw_ifF rfl (by assumption) ?_
          | refine aw_ifT rfl (decide_eq_true (by assumption)) ?_
          | refine aw_ifF rfl (decide_eq_false (by assumption)) ?_
          | refine aw_seq ?_
          | refine aw_block ?_
          | refine aw_skip ?_
          | refine aw_region ?_
          | refine aw_region_draw mixed ?_
          | refine aw_exit ?_
          | refine rq_exit ?_
          | refine blockQ_hit ?_
          | refine blockQ_miss (by decide) ?_
          | (refine ar_guard rfl rfl rfl rfl (fun h => ?_) (fun h => ?_) <;> (fail_if_success (cases h; done)) <;> (try simp at h) <;> (try subst h))
          | (refine aw_both rfl (fun h => ?_) (fun h => ?_) <;> (fail_if_success (cases h; done)) <;> (try simp at h) <;> (try subst h)))
      · simp only [hk, hl, decide_true, decide_false, Bool.true_and, Bool.false_eq_true, if_false, List.map_nil, List.append_nil] at hfs
        repeat' (first
          | refine ar_end rfl ?_
          | refine ar_endD rfl (by kernel_rfl) ?_
          | refine ar_fin rfl ?_
          | refine ar_finD rfl (by kernel_rfl) ?_
          | refine bq_norm ?_
          | refine lq_normN [1, 5, 9, 10, 11] [.loc 1000] (by simp; exact rfl) ⟨i + 1, by omega⟩ (by dsimp only; omega) (by simp [hfs])
          | refine ar_go3 _ rfl (by simp [evsL_len, evsL_getE, evL, prs_len, prs_getE, hlt, hd, hx, hk, hl, hw]; exact ⟨rfl, rfl, rfl⟩) rfl ?_
          | refine aw_sregK 3 [1, 5, 9, 10, 11] ?_
          | refine aw_regK 3 [1, 5, 9, 10, 11] ?_
          | refine aw_sregK 4 [1, 5, 9, 10, 11] ?_
          | refine aw_regK 4 [1, 5, 9, 10, 11] ?_
          | refine aw_sregK 5 [1, 5, 6, 7, 9, 10, 11] ?_
          | refine aw_regK 5 [1, 5, 6, 7, 9, 10, 11] ?_
          | refine aw_sregK 6 [1, 5, 6, 9, 10, 11] ?_
          | refine aw_regK 6 [1, 5, 6, 9, 10, 11] ?_
          | refine aw_sregK 7 [1, 5, 9, 10, 11] ?_
          | refine aw_regK 7 [1, 5, 9, 10, 11] ?_
          | refine aw_sreg ?_
          | refine aw_sregD mixed ?_
          | refine aw_ifT (b := true) rfl rfl ?_
          | refine aw_ifF (b := false) rfl rfl ?_
          | refine aw_ifT rfl (by assumption) ?_
          | refine aw_ifF rfl (by assumption) ?_
          | refine aw_ifT rfl (decide_eq_true (by assumption)) ?_
          | refine aw_ifF rfl (decide_eq_false (by assumption)) ?_
          | refine aw_seq ?_
          | refine aw_block ?_
          | refine aw_skip ?_
          | refine aw_region ?_
          | refine aw_region_draw mixed ?_
          | refine aw_exit ?_
          | refine rq_exit ?_
          | refine blockQ_hit ?_
          | refine blockQ_miss (by decide) ?_
          | (refine ar_guard rfl rfl rfl rfl (fun h => ?_) (fun h => ?_) <;> (fail_if_success (cases h; done)) <;> (try simp at h) <;> (try subst h))
          | (refine aw_both rfl (fun h => ?_) (fun h => ?_) <;> (fail_if_success (cases h; done)) <;> (try simp at h) <;> (try subst h)))
    · simp only [hk, decide_false, Bool.false_and, Bool.false_eq_true, if_false, List.map_nil, List.append_nil] at hfs
      repeat' (first
        | refine ar_end rfl ?_
        | refine ar_endD rfl (by kernel_rfl) ?_
        | refine ar_fin rfl ?_
        | refine ar_finD rfl (by kernel_rfl) ?_
        | refine bq_norm ?_
        | refine lq_normN [1, 5, 9, 10, 11] [.loc 1000] (by simp; exact rfl) ⟨i + 1, by omega⟩ (by dsimp only; omega) (by simp [hfs])
        | refine ar_go3 _ rfl (by simp [evsL_len, evsL_getE, evL, prs_len, prs_getE, hlt, hd, hx, hk, hw]; exact ⟨rfl, rfl, rfl⟩) rfl ?_
        | refine aw_sregK 3 [1, 5, 9, 10, 11] ?_
        | refine aw_regK 3 [1, 5, 9, 10, 11] ?_
        | refine aw_sregK 4 [1, 5, 9, 10, 11] ?_
        | refine aw_regK 4 [1, 5, 9, 10, 11] ?_
        | refine aw_sregK 5 [1, 5, 6, 7, 9, 10, 11] ?_
        | refine aw_regK 5 [1, 5, 6, 7, 9, 10, 11] ?_
        | refine aw_sregK 6 [1, 5, 6, 9, 10, 11] ?_
        | refine aw_regK 6 [1, 5, 6, 9, 10, 11] ?_
        | refine aw_sregK 7 [1, 5, 9, 10, 11] ?_
        | refine aw_regK 7 [1, 5, 9, 10, 11] ?_
        | refine aw_sreg ?_
        | refine aw_sregD mixed ?_
        | refine aw_ifT (b := true) rfl rfl ?_
        | refine aw_ifF (b := false) rfl rfl ?_
        | refine aw_ifT rfl (by assumption) ?_
        | refine aw_ifF rfl (by assumption) ?_
        | refine aw_ifT rfl (decide_eq_true (by assumption)) ?_
        | refine aw_ifF rfl (decide_eq_false (by assumption)) ?_
        | refine aw_seq ?_
        | refine aw_block ?_
        | refine aw_skip ?_
        | refine aw_region ?_
        | refine aw_region_draw mixed ?_
        | refine aw_exit ?_
        | refine rq_exit ?_
        | refine blockQ_hit ?_
        | refine blockQ_miss (by decide) ?_
        | (refine ar_guard rfl rfl rfl rfl (fun h => ?_) (fun h => ?_) <;> (fail_if_success (cases h; done)) <;> (try simp at h) <;> (try subst h))
        | (refine aw_both rfl (fun h => ?_) (fun h => ?_) <;> (fail_if_success (cases h; done)) <;> (try simp at h) <;> (try subst h)))
  · have hd : ¬(i : Int) < (es.length : Int) := by omega
    have hie : i = es.length := by omega
    subst hie
    refine aw_frz (.loc 1000) (by simp; exact rfl) ?_
    repeat' (first
      | exact aw_ret (ret_vals (by simp; exact rfl) (by simp [*]; fail_if_success (show _)))
      | exact aw_ret (ret_vals (by simp; exact rfl) (by simp [*]; omega))
      | refine ar_end rfl ?_
      | refine ar_endD rfl (by kernel_rfl) ?_
      | refine ar_fin rfl ?_
      | refine ar_finD rfl (by kernel_rfl) ?_
      | refine lq_exit ?_
      | refine ar_go3 _ rfl (by simp [evsL_len, evsL_getE, evL, prs_len, prs_getE, hd]; exact ⟨rfl, rfl, rfl⟩) rfl ?_
      | refine aw_sregK 3 [1, 5, 9, 10, 11] ?_
      | refine aw_regK 3 [1, 5, 9, 10, 11] ?_
      | refine aw_sregK 8 [5] ?_
      | refine aw_regK 8 [5] ?_
      | refine aw_sreg ?_
      | refine aw_sregD mixed ?_
      | refine aw_ifT (b := true) rfl rfl ?_
      | refine aw_ifF (b := false) rfl rfl ?_
      | refine aw_ifT rfl (by assumption) ?_
      | refine aw_ifF rfl (by assumption) ?_
      | refine aw_ifT rfl (decide_eq_true (by assumption)) ?_
      | refine aw_ifF rfl (decide_eq_false (by assumption)) ?_
      | refine aw_seq ?_
      | refine aw_block ?_
      | refine aw_skip ?_
      | refine aw_region ?_
      | refine aw_region_draw mixed ?_
      | refine aw_exit ?_
      | refine rq_exit ?_
      | refine blockQ_hit ?_
      | refine blockQ_miss (by decide) ?_
      | (refine ar_guard rfl rfl rfl rfl (fun h => ?_) (fun h => ?_) <;> (fail_if_success (cases h; done)) <;> (try simp at h) <;> (try subst h))
      | (refine aw_both rfl (fun h => ?_) (fun h => ?_) <;> (fail_if_success (cases h; done)) <;> (try simp at h) <;> (try subst h)))
end Go.Eng
