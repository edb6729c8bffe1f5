import Derived.Test.YtclegllogeanlaaCohA
set_option linter.unusedSimpArgs false
set_option linter.unusedVariables false
set_option linter.constructorNameAsVariable false
set_option autoImplicit false
namespace Go.Eng
open Go Go.RowKit Go.Proofs
def fac : Nat → Nat
  | 0 => 1
  | n + 1 => (n + 1) * fac n
def ordG : Nat → List Int → List (List Int)
  | 0, _ => [[]]
  | m + 1, l => (List.range l.length).flatMap fun i => (ordG m (l.eraseIdx i)).map (l.getD i 0 :: ·)
def ordU (m : Nat) (l : List Int) (i : Nat) : List (List Int) := (List.range i).flatMap fun i => (ordG m (l.eraseIdx i)).map (l.getD i 0 :: ·)
def ordF (l : List Int) : List (List Int) := if 6 < l.length then [] else ordG l.length l
theorem ordU_succ (m : Nat) (l : List Int) (i : Nat) : ordU m l (i + 1) = ordU m l i ++ (ordG m (l.eraseIdx i)).map (l.getD i 0 :: ·) := by
  unfold ordU; rw [List.range_succ, List.flatMap_append]; simp
theorem ordU_len {m : Nat} {l : List Int} (ih : ∀ x : List Int, x.length = m → (ordG m x).length = fac m) (hl : l.length = m + 1) : ∀ i, i ≤ m + 1 → (ordU m l i).length = i * fac m
  | 0, _ => by simp [ordU]
  | i + 1, h => by
    rw [ordU_succ, List.length_append, ordU_len ih hl i (by omega), List.length_map, ih _ (by rw [List.length_eraseIdx_of_lt (by omega)]; omega), Nat.succ_mul]
theorem ordG_len : ∀ (m : Nat) (l : List Int), l.length = m → (ordG m l).length = fac m
  | 0, l, _ => rfl
  | m + 1, l, h => by
    show (ordU m l l.length).length = _
    rw [h, ordU_len (fun x hx => ordG_len m x hx) h (m + 1) (Nat.le_refl _)]
    rfl
theorem ordG_mem : ∀ (m : Nat) (l : List Int), l.length = m → ∀ g ∈ ordG m l, g.length = m
  | 0, l, _, g, hg => by
    have : g = [] := by simpa [ordG] using hg
    rw [this]; rfl
  | m + 1, l, h, g, hg => by
    simp only [ordG, List.mem_flatMap, List.mem_range, List.mem_map] at hg
    obtain ⟨i, hi, o, ho, rfl⟩ := hg
    rw [List.length_cons, ordG_mem m _ (by rw [List.length_eraseIdx_of_lt hi]; omega) o ho]
theorem fac_le {m : Nat} (h : m ≤ 6) : fac m ≤ 720 := by
  have : ∀ k : Fin 7, fac k.1 ≤ 720 := by decide
  exact this ⟨m, by omega⟩
def ofIn (r : RL) (a : Int) (bs : List Int) : RL := bs.foldl (fun r b => putR r a b) r
def ofUp (n : Nat) (l : List Int) : Nat → RL
  | 0 => newR n
  | i + 1 => ofIn (ofUp n l i) (l.getD i 0) (l.drop (i + 1))
def ofF (n : Nat) (l : List Int) : RL := ofUp n l l.length
theorem put_len {n : Nat} {r : RL} (h : Cl n r) (i k : Int) : Cl n (putR r i k) := by
  by_cases hi : 0 ≤ i ∧ i < n ∧ 0 ≤ k ∧ k < n
  · obtain ⟨a, rfl⟩ : ∃ a : Nat, i = a := ⟨i.toNat, by omega⟩
    obtain ⟨b, rfl⟩ : ∃ b : Nat, k = b := ⟨k.toNat, by omega⟩
    rw [put_cl h (by omega) (by omega)]
    refine ⟨h.n32, by rw [add_len, h.len], fun x y hy => ?_⟩
    rw [add_bit, h.out x y hy]
    have : ¬y = b := by omega
    simp [this]
  · rw [put_out h hi]; exact h
theorem ofIn_cl {n : Nat} {a : Int} : ∀ {bs : List Int} {r : RL}, Cl n r → Cl n (ofIn r a bs)
  | [], _, h => h
  | b :: bs, r, h => ofIn_cl (bs := bs) (put_len h a b)
theorem ofUp_cl {n : Nat} {l : List Int} (h : n ≤ 32) : ∀ i, Cl n (ofUp n l i)
  | 0 => new_cl h
  | i + 1 => ofIn_cl (ofUp_cl h i)
theorem ofIn_take {r : RL} {a : Int} {bs : List Int} {j : Nat} (h : j < bs.length) : ofIn r a (bs.take (j + 1)) = putR (ofIn r a (bs.take j)) a bs[j] := by
  unfold ofIn
  rw [List.take_add_one, List.getElem?_eq_getElem h, List.foldl_append]; rfl
def rlsL (l : List RL) : List (List PV) := l.map fun r => [.sl 1 (rl r)]
theorem rlsL_len {l : List RL} : (rlsL l).length = l.length := by simp [rlsL]
theorem rlsL_getE {l : List RL} {i : Nat} (h : i < (rlsL l).length) : (rlsL l)[i] = [.sl 1 (rl (l[i]'(by simpa [rlsL] using h)))] := by simp [rlsL]
theorem rlsL_app (s l : List RL) : rlsL (s ++ l) = rlsL s ++ rlsL l := by simp [rlsL]
/-- All ways, of so many places. -/
def allUp (es : List Ev) : Nat → List RL
  | 0 => [newR es.length]
  | i + 1 => (allUp es i).flatMap fun co => (ordF (writesF es ((placesF es).getD i 0))).map fun one => bothR (· ||| ·) co (ofF es.length one)
def allR (es : List Ev) : List RL := allUp es (placesF es).length
theorem allUp_cl {es : List Ev} (h : es.length ≤ 32) : ∀ i, ∀ co ∈ allUp es i, Cl es.length co
  | 0, co, hc => by
    have : co = newR es.length := by simpa [allUp] using hc
    rw [this]; exact new_cl h
  | i + 1, co, hc => by
    simp only [allUp, List.mem_flatMap, List.mem_map] at hc
    obtain ⟨c, h1, o, h2, rfl⟩ := hc
    exact (orR (allUp_cl h i c h1) (ofUp_cl h _)).1
set_option maxHeartbeats 16000000 in
theorem c_ordG : ∀ (m : Nat), m ≤ 6 → ∀ l : List Int, l.length = m → SC Try.prog 58 [.pv (.sl 1 (ints l))] (.pv (.sl 1 (intsL (ordG m l))))
  | 0, _, l, hl => by
    have e : l = [] := List.eq_nil_of_length_eq_zero hl
    subst e
    refine scx_of Try.func58 rfl rfl rfl (Nat.le_of_ble_eq_true rfl) ?_
    repeat' (first
      | refine ar_end rfl ?_
      | refine ar_endD rfl (by kernel_rfl) ?_
      | refine ar_fin rfl ?_
      | refine ar_finD rfl (by kernel_rfl) ?_
      | refine ar_frz rfl rfl (by simp; exact rfl) rfl (by simp; fail_if_success (show _)) (by simp; exact rfl) (by simp; exact rfl) rfl (by simp; fail_if_success (show _)) ?_
      | exact aw_ret (ret_frz (.loc 15) (by simp; exact rfl) (by simp [intsL, ordG, ints]; fail_if_success (show _)))
      | refine ar_go3 _ rfl (by simp [ints]; exact ⟨rfl, rfl, rfl⟩) rfl ?_
      | refine aw_sregK 0 [0] ?_
      | refine aw_regK 0 [0] ?_
      | refine aw_sregK 1 [0] ?_
      | refine aw_regK 1 [0] ?_
      | refine aw_sregK 2 [] ?_
      | refine aw_regK 2 [] ?_
      | refine aw_sregK 3 [0] ?_
      | refine aw_regK 3 [0] ?_
      | refine aw_sregK 4 [] ?_
      | refine aw_regK 4 [] ?_
      | refine aw_sreg ?_
      | refine aw_sregD mixed ?_
      | refine aw_ifT (b := true) rfl rfl ?_
      | refine aw_ifF (b := false) rfl rfl ?_
      | refine aw_ifT rfl (by assumption) ?_
      | refine aw_ifF rfl (by assumption) ?_
      | refine aw_ifT rfl (decide_eq_true (by assumption)) ?_
      | refine aw_ifF rfl (decide_eq_false (by assumption)) ?_
      | refine aw_seq ?_
      | refine aw_block ?_
      | refine aw_skip ?_
      | refine aw_region ?_
      | refine aw_region_draw mixed ?_
      | refine aw_exit ?_
      | refine rq_exit ?_
      | refine blockQ_hit ?_
      | refine blockQ_miss (by decide) ?_
      | (refine ar_guard rfl rfl rfl rfl (fun h => ?_) (fun h => ?_) <;> (fail_if_success (cases h; done)) <;> (try simp at h) <;> (try subst h))
      | (refine aw_both rfl (fun h => ?_) (fun h => ?_) <;> (fail_if_success (cases h; done)) <;> (try simp at h) <;> (try subst h)))
  | m + 1, hm, l, hl => by
    have h6 : ¬(6 : Int) < (l.length : Int) := by omega
    have h0 : ¬(l.length : Int) = 0 := by omega
    have h0' : ¬l = [] := by intro e; subst e; simp at hl
    have hfac := fac_le (m := m) (by omega)
    have hres : ordG (m + 1) l = ordU m l l.length := rfl
    rw [hres]
    refine scx_of Try.func58 rfl rfl rfl (Nat.le_of_ble_eq_true rfl) ?_
    repeat' (first
      | refine ar_end rfl ?_
      | refine ar_endD rfl (by kernel_rfl) ?_
      | refine ar_fin rfl ?_
      | refine ar_finD rfl (by kernel_rfl) ?_
      | refine ar_go3 _ rfl (by simp [ints_len, ints_getE, intsL_len, intsL_getE, h6, h0, h0']; exact ⟨rfl, rfl, rfl⟩) rfl ?_
      | refine aw_sregK 0 [0] ?_
      | refine aw_regK 0 [0] ?_
      | refine aw_sregK 1 [0] ?_
      | refine aw_regK 1 [0] ?_
      | refine aw_sregK 2 [] ?_
      | refine aw_regK 2 [] ?_
      | refine aw_sregK 3 [0] ?_
      | refine aw_regK 3 [0] ?_
      | refine aw_sregK 4 [] ?_
      | refine aw_regK 4 [] ?_
      | refine aw_sregK 5 [0] ?_
      | refine aw_regK 5 [0] ?_
      | refine aw_sregK 6 [0, 3] ?_
      | refine aw_regK 6 [0, 3] ?_
      | refine aw_sreg ?_
      | refine aw_sregD mixed ?_
      | refine aw_ifT (b := true) rfl rfl ?_
      | refine aw_ifF (b := false) rfl rfl ?_
      | refine aw_ifT rfl (by assumption) ?_
      | refine aw_ifF rfl (by assumption) ?_
      | refine aw_ifT rfl (decide_eq_true (by assumption)) ?_
      | refine aw_ifF rfl (decide_eq_false (by assumption)) ?_
      | refine aw_seq ?_
      | refine aw_block ?_
      | refine aw_skip ?_
      | refine aw_region ?_
      | refine aw_region_draw mixed ?_
      | refine aw_exit ?_
      | refine rq_exit ?_
      | refine blockQ_hit ?_
      | refine blockQ_miss (by decide) ?_
      | (refine ar_guard rfl rfl rfl rfl (fun h => ?_) (fun h => ?_) <;> (fail_if_success (cases h; done)) <;> (try simp at h) <;> (try subst h))
      | (refine aw_both rfl (fun h => ?_) (fun h => ?_) <;> (fail_if_success (cases h; done)) <;> (try simp at h) <;> (try subst h)))
    refine aw_nil 3 (.loc 1000) 53 1 (by simp; exact rfl) ?_
    refine aw_loopN [0, 3, 16, 17, 18] [.loc 1000] (by simp; exact rfl) (ι := {i : Nat // i ≤ l.length}) (fun i => ⟨45, [(0, .pv (.sl 1 (ints l))), (3, .own (.loc 1000)), (16, .pv (.sl 1 (ints l))), (17, I .i64 l.length), (18, I .i64 i.1)], [(.loc 1000, some (.own 53 1 (intsL (ordU m l i.1))))]⟩) (fun i => l.length - i.1) ⟨0, by omega⟩ (by simp [ordU, intsL, ints_len]) ?_
    rintro ⟨i, hi⟩
    by_cases hlt : i < l.length
    · have hw : IntKind.wrap .i64 ((i : Int) + 1) = (i : Int) + 1 := wrap64s (by omega) (by omega)
      have hd : (i : Int) < (l.length : Int) := by omega
      have hK := c_clone (l := l) (by omega)
      have hD := c_delete hlt
      have hR := c_ordG m (by omega) (l.eraseIdx i) (by rw [List.length_eraseIdx_of_lt hlt]; omega)
      have hus := ordU_succ m l i
      rw [getD_in _ _ hlt] at hus
      have hul := ordU_len (fun x hx => ordG_len m x hx) hl i (by omega)
      have hgl := ordG_len m (l.eraseIdx i) (by rw [List.length_eraseIdx_of_lt hlt]; omega)
      have hGm := ordG_mem m (l.eraseIdx i) (by rw [List.length_eraseIdx_of_lt hlt]; omega)
      have hmul : i * fac m ≤ 6 * 720 := Nat.mul_le_mul (by omega) hfac
      generalize ordG m (l.eraseIdx i) = G at *
      generalize l.eraseIdx i = E at *
      generalize ordU m l i = U at *
      generalize hx : l[i] = x at *
      repeat' (first
        | refine ar_end rfl ?_
        | refine ar_endD rfl (by kernel_rfl) ?_
        | refine ar_fin rfl ?_
        | refine ar_finD rfl (by kernel_rfl) ?_
        | refine ar_callO Try.call83 hK rfl rfl rfl rfl (by simp; exact rfl) rfl (by simp; done) (by rfl) rfl ?_
        | refine ar_callE [.loc 24] [.loc 28] [.loc 28] Try.call82 hD rfl rfl rfl rfl (by simp; exact rfl) rfl (by simp; done) (by rfl) (by simp; fail_if_success (show _)) rfl ⟨by simp, by simp, (by simp [okY]; fail_if_success (show _)), by simp, by simp⟩ (by simp; fail_if_success (show _)) ?_
        | refine ar_frzV Try.call58 hR rfl rfl rfl rfl (by simp; exact rfl) (by simp; fail_if_success (show _)) (by simp; exact rfl) rfl (by simp; done) (by first | (simp; done) | (simp; exact rfl)) ⟨by rfl, by rfl, by rfl⟩ ?_
        | refine ar_go3 _ rfl (by simp [ints_len, ints_getE, intsL_len, intsL_getE, hlt, hd, hx, hw]; exact ⟨rfl, rfl, rfl⟩) rfl ?_
        | refine aw_sregK 7 [0, 3, 16, 17, 18] ?_
        | refine aw_regK 7 [0, 3, 16, 17, 18] ?_
        | refine aw_sregK 8 [0, 3, 16, 17, 18] ?_
        | refine aw_regK 8 [0, 3, 16, 17, 18] ?_
        | refine aw_sregK 9 [0, 3, 4, 5, 16, 17, 18] ?_
        | refine aw_regK 9 [0, 3, 4, 5, 16, 17, 18] ?_
        | refine aw_sreg ?_
        | refine aw_sregD mixed ?_
        | refine aw_ifT (b := true) rfl rfl ?_
        | refine aw_ifF (b := false) rfl rfl ?_
        | refine aw_ifT rfl (by assumption) ?_
        | refine aw_ifF rfl (by assumption) ?_
        | refine aw_ifT rfl (decide_eq_true (by assumption)) ?_
        | refine aw_ifF rfl (decide_eq_false (by assumption)) ?_
        | refine aw_seq ?_
        | refine aw_block ?_
        | refine aw_skip ?_
        | refine aw_region ?_
        | refine aw_region_draw mixed ?_
        | refine aw_exit ?_
        | refine rq_exit ?_
        | refine blockQ_hit ?_
        | refine blockQ_miss (by decide) ?_
        | (refine ar_guard rfl rfl rfl rfl (fun h => ?_) (fun h => ?_) <;> (fail_if_success (cases h; done)) <;> (try simp at h) <;> (try subst h))
        | (refine aw_both rfl (fun h => ?_) (fun h => ?_) <;> (fail_if_success (cases h; done)) <;> (try simp at h) <;> (try subst h)))
      refine aw_loopN [0, 3, 5, 16, 17, 18, 29, 30, 31] [.loc 1000] (by simp; exact rfl) (ι := {j : Nat // j ≤ G.length}) (fun j => ⟨45, [(0, .pv (.sl 1 (ints l))), (3, .own (.loc 1000)), (5, I .i64 x), (16, .pv (.sl 1 (ints l))), (17, I .i64 l.length), (18, I .i64 i), (29, .pv (.sl 1 (intsL G))), (30, I .i64 G.length), (31, I .i64 j.1)], [(.loc 1000, some (.own 53 1 (intsL (U ++ (G.take j.1).map (x :: ·)))))]⟩) (fun j => G.length - j.1) ⟨0, by omega⟩ (by simp [intsL_len]) ?_
      rintro ⟨j, hj⟩
      by_cases hjl : j < G.length
      · have hw2 : IntKind.wrap .i64 ((j : Int) + 1) = (j : Int) + 1 := wrap64s (by omega) (by omega)
        have hd2 : (j : Int) < (G.length : Int) := by omega
        have hts : (G.take (j + 1)).map (x :: ·) = (G.take j).map (x :: ·) ++ [x :: G[j]] := by rw [List.take_add_one, List.getElem?_eq_getElem hjl, List.map_append]; rfl
        have htl : ((G.take j).map (x :: ·)).length ≤ 720 := by simp; omega
        generalize hg : G[j] = g at *
        have hgl2 : g.length ≤ 1000 := by have := hGm g (by rw [← hg]; exact List.getElem_mem hjl); omega
        generalize (G.take j).map (x :: ·) = V at *
        repeat' (first
          | refine ar_end rfl ?_
          | refine ar_endD rfl (by kernel_rfl) ?_
          | refine ar_fin rfl ?_
          | refine ar_finD rfl (by kernel_rfl) ?_
          | refine ar_frz rfl rfl (by simp; exact rfl) rfl (by simp; fail_if_success (show _)) (by simp; exact rfl) (by simp; exact rfl) rfl (by simp; fail_if_success (show _)) ?_
          | refine ar_appO rfl rfl rfl rfl rfl (by simp; exact rfl) rfl (by simp; exact rfl) (by simp; exact rfl) (by simp; exact ⟨rfl, rfl⟩) rfl (by simp; exact rfl) (by simp; done) (by decide) (by simp [ints_len, intsL_len, maxLen]; try omega) ?_
          | refine bq_norm ?_
          | refine lq_normR (.loc 41) (.loc 1000) [0, 3, 5, 16, 17, 18, 29, 30, 31] [.loc 1000] (by simp; exact rfl) ⟨j + 1, by omega⟩ (by dsimp only; omega) (by rw [hts, ← List.append_assoc, intsL_app]; simp [intsL, ints])
          | refine ar_go3 _ rfl (by simp [ints_len, ints_getE, intsL_len, intsL_getE, hjl, hd2, hg, hw2]; exact ⟨rfl, rfl, rfl⟩) rfl ?_
          | refine aw_sregK 10 [0, 3, 5, 16, 17, 18, 29, 30, 31] ?_
          | refine aw_regK 10 [0, 3, 5, 16, 17, 18, 29, 30, 31] ?_
          | refine aw_sregK 11 [0, 3, 5, 16, 17, 18, 29, 30, 31] ?_
          | refine aw_regK 11 [0, 3, 5, 16, 17, 18, 29, 30, 31] ?_
          | refine aw_sregK 12 [0, 3, 5, 7, 16, 17, 18, 29, 30, 31] ?_
          | refine aw_regK 12 [0, 3, 5, 7, 16, 17, 18, 29, 30, 31] ?_
          | refine aw_sregK 13 [0, 3, 5, 16, 17, 18, 29, 30, 31] ?_
          | refine aw_regK 13 [0, 3, 5, 16, 17, 18, 29, 30, 31] ?_
          | refine aw_sreg ?_
          | refine aw_sregD mixed ?_
          | refine aw_ifT (b := true) rfl rfl ?_
          | refine aw_ifF (b := false) rfl rfl ?_
          | refine aw_ifT rfl (by assumption) ?_
          | refine aw_ifF rfl (by assumption) ?_
          | refine aw_ifT rfl (decide_eq_true (by assumption)) ?_
          | refine aw_ifF rfl (decide_eq_false (by assumption)) ?_
          | refine aw_seq ?_
          | refine aw_block ?_
          | refine aw_skip ?_
          | refine aw_region ?_
          | refine aw_region_draw mixed ?_
          | refine aw_exit ?_
          | refine rq_exit ?_
          | refine blockQ_hit ?_
          | refine blockQ_miss (by decide) ?_
          | (refine ar_guard rfl rfl rfl rfl (fun h => ?_) (fun h => ?_) <;> (fail_if_success (cases h; done)) <;> (try simp at h) <;> (try subst h))
          | (refine aw_both rfl (fun h => ?_) (fun h => ?_) <;> (fail_if_success (cases h; done)) <;> (try simp at h) <;> (try subst h)))
      · have hd2 : ¬(j : Int) < (G.length : Int) := by omega
        have hte : G.take j = G := List.take_of_length_le (by omega)
        rw [hte, ← hus]
        repeat' (first
          | refine ar_end rfl ?_
          | refine ar_endD rfl (by kernel_rfl) ?_
          | refine ar_fin rfl ?_
          | refine ar_finD rfl (by kernel_rfl) ?_
          | refine lq_exit ?_
          | refine bq_norm ?_
          | refine lq_normN [0, 3, 16, 17, 18] [.loc 1000] (by simp; exact rfl) ⟨i + 1, by omega⟩ (by dsimp only; omega) (by simp [hd])
          | refine ar_go3 _ rfl (by simp [ints_len, ints_getE, intsL_len, intsL_getE, hd2, hw]; exact ⟨rfl, rfl, rfl⟩) rfl ?_
          | refine aw_sregK 10 [0, 3, 5, 16, 17, 18, 29, 30, 31] ?_
          | refine aw_regK 10 [0, 3, 5, 16, 17, 18, 29, 30, 31] ?_
          | refine aw_sregK 14 [0, 3, 16, 17, 18] ?_
          | refine aw_regK 14 [0, 3, 16, 17, 18] ?_
          | refine aw_sreg ?_
          | refine aw_sregD mixed ?_
          | refine aw_ifT (b := true) rfl rfl ?_
          | refine aw_ifF (b := false) rfl rfl ?_
          | refine aw_ifT rfl (by assumption) ?_
          | refine aw_ifF rfl (by assumption) ?_
          | refine aw_ifT rfl (decide_eq_true (by assumption)) ?_
          | refine aw_ifF rfl (decide_eq_false (by assumption)) ?_
          | refine aw_seq ?_
          | refine aw_block ?_
          | refine aw_skip ?_
          | refine aw_region ?_
          | refine aw_region_draw mixed ?_
          | refine aw_exit ?_
          | refine rq_exit ?_
          | refine blockQ_hit ?_
          | refine blockQ_miss (by decide) ?_
          | (refine ar_guard rfl rfl rfl rfl (fun h => ?_) (fun h => ?_) <;> (fail_if_success (cases h; done)) <;> (try simp at h) <;> (try subst h))
          | (refine aw_both rfl (fun h => ?_) (fun h => ?_) <;> (fail_if_success (cases h; done)) <;> (try simp at h) <;> (try subst h)))
    · have hd : ¬(i : Int) < (l.length : Int) := by omega
      have hie : i = l.length := by omega
      subst hie
      refine aw_frz (.loc 1000) (by simp; exact rfl) ?_
      repeat' (first
        | exact aw_ret (ret_vals (by simp; exact rfl) (by simp [*]; fail_if_success (show _)))
        | exact aw_ret (ret_vals (by simp; exact rfl) (by simp [*]; omega))
        | refine ar_end rfl ?_
        | refine ar_endD rfl (by kernel_rfl) ?_
        | refine ar_fin rfl ?_
        | refine ar_finD rfl (by kernel_rfl) ?_
        | refine lq_exit ?_
        | refine ar_go3 _ rfl (by simp [ints_len, ints_getE, intsL_len, intsL_getE, hd]; exact ⟨rfl, rfl, rfl⟩) rfl ?_
        | refine aw_sregK 7 [0, 3, 16, 17, 18] ?_
        | refine aw_regK 7 [0, 3, 16, 17, 18] ?_
        | refine aw_sregK 15 [3] ?_
        | refine aw_regK 15 [3] ?_
        | refine aw_sreg ?_
        | refine aw_sregD mixed ?_
        | refine aw_ifT (b := true) rfl rfl ?_
        | refine aw_ifF (b := false) rfl rfl ?_
        | refine aw_ifT rfl (by assumption) ?_
        | refine aw_ifF rfl (by assumption) ?_
        | refine aw_ifT rfl (decide_eq_true (by assumption)) ?_
        | refine aw_ifF rfl (decide_eq_false (by assumption)) ?_
        | refine aw_seq ?_
        | refine aw_block ?_
        | refine aw_skip ?_
        | refine aw_region ?_
        | refine aw_region_draw mixed ?_
        | refine aw_exit ?_
        | refine rq_exit ?_
        | refine blockQ_hit ?_
        | refine blockQ_miss (by decide) ?_
        | (refine ar_guard rfl rfl rfl rfl (fun h => ?_) (fun h => ?_) <;> (fail_if_success (cases h; done)) <;> (try simp at h) <;> (try subst h))
        | (refine aw_both rfl (fun h => ?_) (fun h => ?_) <;> (fail_if_success (cases h; done)) <;> (try simp at h) <;> (try subst h)))
set_option maxHeartbeats 16000000 in
theorem c_ordAll {l : List Int} : SC Try.prog 58 [.pv (.sl 1 (ints l))] (.pv (.sl 1 (intsL (ordF l)))) := by
  unfold ordF
  by_cases h : 6 < l.length
  · rw [if_pos h]
    have h6 : (6 : Int) < (l.length : Int) := by omega
    refine scx_of Try.func58 rfl rfl rfl (Nat.le_of_ble_eq_true rfl) ?_
    repeat' (first
      | refine ar_end rfl ?_
      | refine ar_endD rfl (by kernel_rfl) ?_
      | refine ar_fin rfl ?_
      | refine ar_finD rfl (by kernel_rfl) ?_
      | exact aw_ret (ret_nil 2 1 (by simp; exact rfl) (by simp [intsL]; fail_if_success (show _)))
      | refine ar_go3 _ rfl (by simp [ints_len, ints_getE, intsL_len, intsL_getE, h6]; exact ⟨rfl, rfl, rfl⟩) rfl ?_
      | refine aw_sregK 0 [0] ?_
      | refine aw_regK 0 [0] ?_
      | refine aw_sregK 1 [0] ?_
      | refine aw_regK 1 [0] ?_
      | refine aw_sregK 2 [] ?_
      | refine aw_regK 2 [] ?_
      | refine aw_sreg ?_
      | refine aw_sregD mixed ?_
      | refine aw_ifT (b := true) rfl rfl ?_
      | refine aw_ifF (b := false) rfl rfl ?_
      | refine aw_ifT rfl (by assumption) ?_
      | refine aw_ifF rfl (by assumption) ?_
      | refine aw_ifT rfl (decide_eq_true (by assumption)) ?_
      | refine aw_ifF rfl (decide_eq_false (by assumption)) ?_
      | refine aw_seq ?_
      | refine aw_block ?_
      | refine aw_skip ?_
      | refine aw_region ?_
      | refine aw_region_draw mixed ?_
      | refine aw_exit ?_
      | refine rq_exit ?_
      | refine blockQ_hit ?_
      | refine blockQ_miss (by decide) ?_
      | (refine ar_guard rfl rfl rfl rfl (fun h => ?_) (fun h => ?_) <;> (fail_if_success (cases h; done)) <;> (try simp at h) <;> (try subst h))
      | (refine aw_both rfl (fun h => ?_) (fun h => ?_) <;> (fail_if_success (cases h; done)) <;> (try simp at h) <;> (try subst h)))
  · rw [if_neg h]
    exact c_ordG _ (by omega) l rfl
theorem ints_drop (l : List Int) (k : Nat) : List.drop k (ints l) = ints (l.drop k) := by simp [ints, List.map_drop]
set_option maxHeartbeats 16000000 in
theorem c_of {n : Nat} {l : List Int} (h32 : n ≤ 32) (hl : l.length ≤ 1000) : SC Try.prog 59 [I .i64 n, .pv (.sl 1 (ints l))] (.pv (.sl 1 (rl (ofF n l)))) := by
  have hN := c_newV (n := n) h32
  unfold ofF
  refine scx_of Try.func59 rfl rfl rfl (Nat.le_of_ble_eq_true rfl) ?_
  repeat' (first
    | refine ar_end rfl ?_
    | refine ar_endD rfl (by kernel_rfl) ?_
    | refine ar_fin rfl ?_
    | refine ar_finD rfl (by kernel_rfl) ?_
    | refine ar_callV Try.call29 hN rfl rfl rfl rfl rfl (by simp; done) (by rfl) (by simp; done) ?_
    | refine ar_callV_if Try.call29 hN rfl rfl rfl rfl rfl rfl (by simp; done) rfl (by rfl) (by simp; done) ?_
    | refine ar_go3 _ rfl (by simp [ints_len, ints_getE, intsL_len, intsL_getE]; exact ⟨rfl, rfl, rfl⟩) rfl ?_
    | refine aw_sregK 0 [0, 1] ?_
    | refine aw_regK 0 [0, 1] ?_
    | refine aw_sregK 1 [0, 1] ?_
    | refine aw_regK 1 [0, 1] ?_
    | refine aw_sregK 2 [1, 5] ?_
    | refine aw_regK 2 [1, 5] ?_
    | refine aw_sreg ?_
    | refine aw_sregD mixed ?_
    | refine aw_ifT (b := true) rfl rfl ?_
    | refine aw_ifF (b := false) rfl rfl ?_
    | refine aw_ifT rfl (by assumption) ?_
    | refine aw_ifF rfl (by assumption) ?_
    | refine aw_ifT rfl (decide_eq_true (by assumption)) ?_
    | refine aw_ifF rfl (decide_eq_false (by assumption)) ?_
    | refine aw_seq ?_
    | refine aw_block ?_
    | refine aw_skip ?_
    | refine aw_region ?_
    | refine aw_region_draw mixed ?_
    | refine aw_exit ?_
    | refine rq_exit ?_
    | refine blockQ_hit ?_
    | refine blockQ_miss (by decide) ?_
    | (refine ar_guard rfl rfl rfl rfl (fun h => ?_) (fun h => ?_) <;> (fail_if_success (cases h; done)) <;> (try simp at h) <;> (try subst h))
    | (refine aw_both rfl (fun h => ?_) (fun h => ?_) <;> (fail_if_success (cases h; done)) <;> (try simp at h) <;> (try subst h)))
  refine aw_loopN [1, 5, 12, 13, 14] [] (by simp; exact rfl) (ι := {i : Nat // i ≤ l.length}) (fun i => ⟨35, [(1, .pv (.sl 1 (ints l))), (5, .pv (.sl 1 (rl (ofUp n l i.1)))), (12, .pv (.sl 1 (ints l))), (13, I .i64 l.length), (14, I .i64 i.1)], []⟩) (fun i => l.length - i.1) ⟨0, by omega⟩ (by simp [ofUp, ints_len]) ?_
  rintro ⟨i, hi⟩
  by_cases hlt : i < l.length
  · have hw : IntKind.wrap .i64 ((i : Int) + 1) = (i : Int) + 1 := wrap64s (by omega) (by omega)
    have hd : (i : Int) < (l.length : Int) := by omega
    have hst : ofUp n l (i + 1) = ofIn (ofUp n l i) (l.getD i 0) (l.drop (i + 1)) := rfl
    rw [getD_in _ _ hlt] at hst
    have hcl := ofUp_cl (l := l) h32 i
    have hdl : (l.drop (i + 1)).length = l.length - (i + 1) := by simp
    have p0 : 0 ≤ (i : Int) + 1 := by omega
    have t0 : ((i : Int) + 1).toNat = i + 1 := by omega
    have g0 : i + 1 ≤ l.length := by omega
    generalize ofUp n l i = R at *
    generalize hx : l[i] = x at *
    have hdr := ints_drop l (i + 1)
    have htk : List.take l.length (ints l) = ints l := List.take_of_length_le (by simp [ints])
    generalize hD : l.drop (i + 1) = D at *
    repeat' (first
      | refine ar_end rfl ?_
      | refine ar_endD rfl (by kernel_rfl) ?_
      | refine ar_fin rfl ?_
      | refine ar_finD rfl (by kernel_rfl) ?_
      | refine ar_go3 _ rfl (by simp [ints_len, ints_getE, intsL_len, intsL_getE, hlt, hd, hx, hw, p0, t0, g0, htk, hdr]; exact ⟨rfl, rfl, rfl⟩) rfl ?_
      | refine aw_sregK 3 [1, 5, 12, 13, 14] ?_
      | refine aw_regK 3 [1, 5, 12, 13, 14] ?_
      | refine aw_sregK 4 [1, 5, 12, 13, 14] ?_
      | refine aw_regK 4 [1, 5, 12, 13, 14] ?_
      | refine aw_sregK 5 [1, 5, 6, 7, 12, 13, 14] ?_
      | refine aw_regK 5 [1, 5, 6, 7, 12, 13, 14] ?_
      | refine aw_sreg ?_
      | refine aw_sregD mixed ?_
      | refine aw_ifT (b := true) rfl rfl ?_
      | refine aw_ifF (b := false) rfl rfl ?_
      | refine aw_ifT rfl (by assumption) ?_
      | refine aw_ifF rfl (by assumption) ?_
      | refine aw_ifT rfl (decide_eq_true (by assumption)) ?_
      | refine aw_ifF rfl (decide_eq_false (by assumption)) ?_
      | refine aw_seq ?_
      | refine aw_block ?_
      | refine aw_skip ?_
      | refine aw_region ?_
      | refine aw_region_draw mixed ?_
      | refine aw_exit ?_
      | refine rq_exit ?_
      | refine blockQ_hit ?_
      | refine blockQ_miss (by decide) ?_
      | (refine ar_guard rfl rfl rfl rfl (fun h => ?_) (fun h => ?_) <;> (fail_if_success (cases h; done)) <;> (try simp at h) <;> (try subst h))
      | (refine aw_both rfl (fun h => ?_) (fun h => ?_) <;> (fail_if_success (cases h; done)) <;> (try simp at h) <;> (try subst h)))
    refine aw_loopN [1, 5, 7, 12, 13, 14, 22, 23, 24] [] (by simp; exact rfl) (ι := {j : Nat // j ≤ D.length}) (fun j => ⟨35, [(1, .pv (.sl 1 (ints l))), (5, .pv (.sl 1 (rl (ofIn R x (D.take j.1))))), (7, I .i64 x), (12, .pv (.sl 1 (ints l))), (13, I .i64 l.length), (14, I .i64 i), (22, .pv (.sl 1 (ints D))), (23, I .i64 D.length), (24, I .i64 j.1)], []⟩) (fun j => D.length - j.1) ⟨0, by omega⟩ (by simp [ofIn, ints_len]) ?_
    rintro ⟨j, hj⟩
    by_cases hjl : j < D.length
    · have hw2 : IntKind.wrap .i64 ((j : Int) + 1) = (j : Int) + 1 := wrap64s (by omega) (by omega)
      have hd2 : (j : Int) < (D.length : Int) := by omega
      have hit := ofIn_take (r := R) (a := x) hjl
      have hil := (ofIn_cl (a := x) (bs := D.take j) hcl).len
      generalize ofIn R x (D.take j) = S at *
      generalize hy : D[j] = y at *
      have hP := c_putV (r := S) (i := x) (k := y) (by rw [hil]; simp [maxLen]; omega)
      repeat' (first
        | refine ar_end rfl ?_
        | refine ar_endD rfl (by kernel_rfl) ?_
        | refine ar_fin rfl ?_
        | refine ar_finD rfl (by kernel_rfl) ?_
        | refine ar_callV Try.call27 hP rfl rfl rfl rfl rfl (by simp; done) (by rfl) (by simp; done) ?_
        | refine ar_callV_if Try.call27 hP rfl rfl rfl rfl rfl rfl (by simp; done) rfl (by rfl) (by simp; done) ?_
        | refine bq_norm ?_
        | refine lq_normN [1, 5, 7, 12, 13, 14, 22, 23, 24] [] (by simp; exact rfl) ⟨j + 1, by omega⟩ (by dsimp only; omega) (by simp [hit])
        | refine ar_go3 _ rfl (by simp [ints_len, ints_getE, intsL_len, intsL_getE, hjl, hd2, hy, hw2]; exact ⟨rfl, rfl, rfl⟩) rfl ?_
        | refine aw_sregK 6 [1, 5, 7, 12, 13, 14, 22, 23, 24] ?_
        | refine aw_regK 6 [1, 5, 7, 12, 13, 14, 22, 23, 24] ?_
        | refine aw_sregK 7 [1, 5, 7, 12, 13, 14, 22, 23, 24] ?_
        | refine aw_regK 7 [1, 5, 7, 12, 13, 14, 22, 23, 24] ?_
        | refine aw_sregK 8 [1, 5, 7, 9, 12, 13, 14, 22, 23, 24] ?_
        | refine aw_regK 8 [1, 5, 7, 9, 12, 13, 14, 22, 23, 24] ?_
        | refine aw_sregK 9 [1, 5, 7, 12, 13, 14, 22, 23, 24] ?_
        | refine aw_regK 9 [1, 5, 7, 12, 13, 14, 22, 23, 24] ?_
        | refine aw_sreg ?_
        | refine aw_sregD mixed ?_
        | refine aw_ifT (b := true) rfl rfl ?_
        | refine aw_ifF (b := false) rfl rfl ?_
        | refine aw_ifT rfl (by assumption) ?_
        | refine aw_ifF rfl (by assumption) ?_
        | refine aw_ifT rfl (decide_eq_true (by assumption)) ?_
        | refine aw_ifF rfl (decide_eq_false (by assumption)) ?_
        | refine aw_seq ?_
        | refine aw_block ?_
        | refine aw_skip ?_
        | refine aw_region ?_
        | refine aw_region_draw mixed ?_
        | refine aw_exit ?_
        | refine rq_exit ?_
        | refine blockQ_hit ?_
        | refine blockQ_miss (by decide) ?_
        | (refine ar_guard rfl rfl rfl rfl (fun h => ?_) (fun h => ?_) <;> (fail_if_success (cases h; done)) <;> (try simp at h) <;> (try subst h))
        | (refine aw_both rfl (fun h => ?_) (fun h => ?_) <;> (fail_if_success (cases h; done)) <;> (try simp at h) <;> (try subst h)))
    · have hd2 : ¬(j : Int) < (D.length : Int) := by omega
      have hte : D.take j = D := List.take_of_length_le (by omega)
      rw [hte, ← hst]
      repeat' (first
        | refine ar_end rfl ?_
        | refine ar_endD rfl (by kernel_rfl) ?_
        | refine ar_fin rfl ?_
        | refine ar_finD rfl (by kernel_rfl) ?_
        | refine lq_exit ?_
        | refine bq_norm ?_
        | refine lq_normN [1, 5, 12, 13, 14] [] (by simp; exact rfl) ⟨i + 1, by omega⟩ (by dsimp only; omega) (by simp [hd])
        | refine ar_go3 _ rfl (by simp [ints_len, ints_getE, intsL_len, intsL_getE, hd2, hw]; exact ⟨rfl, rfl, rfl⟩) rfl ?_
        | refine aw_sregK 6 [1, 5, 7, 12, 13, 14, 22, 23, 24] ?_
        | refine aw_regK 6 [1, 5, 7, 12, 13, 14, 22, 23, 24] ?_
        | refine aw_sregK 10 [1, 5, 12, 13, 14] ?_
        | refine aw_regK 10 [1, 5, 12, 13, 14] ?_
        | refine aw_sreg ?_
        | refine aw_sregD mixed ?_
        | refine aw_ifT (b := true) rfl rfl ?_
        | refine aw_ifF (b := false) rfl rfl ?_
        | refine aw_ifT rfl (by assumption) ?_
        | refine aw_ifF rfl (by assumption) ?_
        | refine aw_ifT rfl (decide_eq_true (by assumption)) ?_
        | refine aw_ifF rfl (decide_eq_false (by assumption)) ?_
        | refine aw_seq ?_
        | refine aw_block ?_
        | refine aw_skip ?_
        | refine aw_region ?_
        | refine aw_region_draw mixed ?_
        | refine aw_exit ?_
        | refine rq_exit ?_
        | refine blockQ_hit ?_
        | refine blockQ_miss (by decide) ?_
        | (refine ar_guard rfl rfl rfl rfl (fun h => ?_) (fun h => ?_) <;> (fail_if_success (cases h; done)) <;> (try simp at h) <;> (try subst h))
        | (refine aw_both rfl (fun h => ?_) (fun h => ?_) <;> (fail_if_success (cases h; done)) <;> (try simp at h) <;> (try subst h)))
  · have hd : ¬(i : Int) < (l.length : Int) := by omega
    have hie : i = l.length := by omega
    subst hie
    repeat' (first
      | exact aw_ret (ret_vals (by simp; exact rfl) (by simp [*]; fail_if_success (show _)))
      | exact aw_ret (ret_vals (by simp; exact rfl) (by simp [*]; omega))
      | refine ar_end rfl ?_
      | refine ar_endD rfl (by kernel_rfl) ?_
      | refine ar_fin rfl ?_
      | refine ar_finD rfl (by kernel_rfl) ?_
      | refine lq_exit ?_
      | refine ar_go3 _ rfl (by simp [ints_len, ints_getE, intsL_len, intsL_getE, hd]; exact ⟨rfl, rfl, rfl⟩) rfl ?_
      | refine aw_sregK 3 [1, 5, 12, 13, 14] ?_
      | refine aw_regK 3 [1, 5, 12, 13, 14] ?_
      | refine aw_sregK 11 [5] ?_
      | refine aw_regK 11 [5] ?_
      | refine aw_sreg ?_
      | refine aw_sregD mixed ?_
      | refine aw_ifT (b := true) rfl rfl ?_
      | refine aw_ifF (b := false) rfl rfl ?_
      | refine aw_ifT rfl (by assumption) ?_
      | refine aw_ifF rfl (by assumption) ?_
      | refine aw_ifT rfl (decide_eq_true (by assumption)) ?_
      | refine aw_ifF rfl (decide_eq_false (by assumption)) ?_
      | refine aw_seq ?_
      | refine aw_block ?_
      | refine aw_skip ?_
      | refine aw_region ?_
      | refine aw_region_draw mixed ?_
      | refine aw_exit ?_
      | refine rq_exit ?_
      | refine blockQ_hit ?_
      | refine blockQ_miss (by decide) ?_
      | (refine ar_guard rfl rfl rfl rfl (fun h => ?_) (fun h => ?_) <;> (fail_if_success (cases h; done)) <;> (try simp at h) <;> (try subst h))
      | (refine aw_both rfl (fun h => ?_) (fun h => ?_) <;> (fail_if_success (cases h; done)) <;> (try simp at h) <;> (try subst h)))
end Go.Eng
