import Derived.Test.YtpohlijehadklaaGreatValsB
import Derived.Test.YtpohlijehadklaaGreatValsS
import Derived.Test.YtpohlijehadklaaGreatValsC
set_option linter.unusedSimpArgs false
set_option linter.unusedVariables false
set_option linter.constructorNameAsVariable false
set_option autoImplicit false
namespace Go.Eng
open Go Go.RowKit Go.Proofs
section
variable {P : Program} {δ : Type} {J : δ → World → Prop} {m : Nat}
theorem tm_norm {y : Code} {Q : Exit → AState → δ → Prop} {st : AState} {d : δ} (h : AWM P J m y Q st d) : thenM P J m y Q .normal st d := h
theorem tm_exit {y : Code} {Q : Exit → AState → δ → Prop} {st : AState} {d : δ} {id : Nat} (h : Q (.exit id) st d) : thenM P J m y Q (.exit id) st d := h
theorem bm_norm {id : Nat} {Q : Exit → AState → δ → Prop} {st : AState} {d : δ} (h : Q .normal st d) : blockM id Q .normal st d := h
theorem bm_hit {id : Nat} {Q : Exit → AState → δ → Prop} {st : AState} {d : δ} (h : Q .normal st d) : blockM id Q (.exit id) st d := by simpa [blockM] using h
theorem lm_exit {ι : Type} {head : ι → AState} {dat : ι → δ} {μ : ι → Nat} {i : ι} {Q : Exit → AState → δ → Prop} {st : AState} {d : δ} {id : Nat} (h : Q (.exit id) st d) : loopM head dat μ i Q (.exit id) st d := h
theorem lm_normN {ι : Type} {head : ι → AState} {dat : ι → δ} {μ : ι → Nat} {i : ι} {Q : Exit → AState → δ → Prop} {st st' : AState} {d : δ} (L : List Nat) (N : List Name) (hs : st.keepN L N = st') (j : ι) (h1 : μ j < μ i) (h2 : st' = head j) (h3 : d = dat j) : loopM head dat μ i Q .normal st d :=
  ⟨j, h1, by rw [← h2, ← hs]; exact Sub.keepN st L N, h3⟩
theorem awm_loopN {ι : Type} {c : Code} {Q : Exit → AState → δ → Prop} {st st' : AState} {d : δ} (L : List Nat) (N : List Name) (hJ : JB m J) (hs : st.keepN L N = st') (head : ι → AState) (dat : ι → δ) (μ : ι → Nat) (i0 : ι) (h0 : st' = head i0) (hd : d = dat i0) (hr : ∀ i, AWM P J m c (loopM head dat μ i Q) (head i) (dat i)) : AWM P J m (.loop c) Q st d :=
  awm_loop hJ head dat μ i0 (by rw [← h0, ← hs]; exact Sub.keepN st L N) hd hr
end
def wvalR (R : Rn) : List Int := (R.es.filter fun e => decide (e.k = 2)).map (·.v)
def wvals (ts : List Rn) : List Int := ts.flatMap wvalR
def wvE (l : List Ev) : List Int := (l.filter fun e => decide (e.k = 2)).map (·.v)
theorem wvE_take {l : List Ev} {i : Nat} (h : i < l.length) : wvE (l.take (i + 1)) = wvE (l.take i) ++ (if l[i].k = 2 then [l[i].v] else []) := by
  unfold wvE
  rw [List.take_add_one, List.getElem?_eq_getElem h, List.filter_append, List.map_append]
  by_cases hk : l[i].k = 2 <;> simp [hk]
theorem wvE_len (l : List Ev) : (wvE l).length ≤ l.length := by unfold wvE; rw [List.length_map]; exact List.length_filter_le _ _
set_option maxHeartbeats 16000000 in
theorem c_Wrote {ts : List Rn} (hts : ts.length ≤ 2000000) (h40 : ∀ R ∈ ts, R.es.length ≤ 40) (hwf : ∀ R ∈ ts, ∀ e ∈ R.es, (Lit.int .i64 e.v).wf = true) : SCO Tryz.prog 25 [.pv (.sl 16 (trsL ts))] 2 1 (ints (sortU (wvals ts))) := by
  have hlen : ∀ i, ((ts.take i).flatMap wvalR).length ≤ 80000000 := fun i => by
    have h1 : ((ts.take i).flatMap wvalR).length ≤ (ts.take i).length * 40 := by
      have key : ∀ l : List Rn, (∀ R ∈ l, R.es.length ≤ 40) → (l.flatMap wvalR).length ≤ l.length * 40 := by
        intro l
        induction l with
        | nil => intro _; simp
        | cons R l ih =>
          intro h
          have h1 := ih fun R' h' => h R' (by simp [h'])
          have h2 := h R (by simp)
          have h3 := wvE_len R.es
          have h4 : wvalR R = wvE R.es := rfl
          rw [List.flatMap_cons, List.length_append, h4, List.length_cons]
          omega
      exact key _ fun R hR => h40 R (List.mem_of_mem_take hR)
    have h2 : (ts.take i).length ≤ ts.length := by simp; omega
    omega
  have hM : maxLen = 9223372036854775807 := rfl
  refine scx_of Tryz.func25 rfl rfl rfl (Nat.le_of_ble_eq_true rfl) ?_
  refine aw_sregK 0 [0] ?_
  refine ar_go3 _ rfl (by simp; exact ⟨rfl, rfl, rfl⟩) rfl ?_
  refine ar_end rfl ?_
  refine awm_make (J := JW) (d := []) rfl rfl rfl rfl rfl rfl (by simp) (by simp) jw_new ?_
  intro m
  refine awm_seq ?_
  refine awm_sub jw_jb (Sub.keep _ [0, 3]) ?_
  refine awm_saw jw_jb (aw_region ?_)
  refine ar_go3 _ rfl (by simp [trsL_len, trsL_getE, evsL_len, evsL_getE, trL, evL]; exact ⟨rfl, rfl, rfl⟩) rfl ?_
  refine ar_done rfl (fun h => by cases h) ?_
  refine tm_norm ?_
  refine awm_block ?_
  refine awm_loopN [3, 9, 10, 11] [] jw_jb (by simp; exact rfl) (ι := {i : Nat // i ≤ ts.length}) (fun i => ⟨33, [(3, .pv (.v (.map (some m)))), (9, .pv (.sl 16 (trsL ts))), (10, I .i64 ts.length), (11, I .i64 i.1)], []⟩) (fun i => (ts.take i.1).flatMap wvalR) (fun i => ts.length - i.1) ⟨0, by omega⟩ (by simp [trsL_len]) (by simp) ?_
  rintro ⟨i, hi⟩
  dsimp only
  by_cases hlt : i < ts.length
  · have hw : IntKind.wrap .i64 ((i : Int) + 1) = (i : Int) + 1 := wrap64s (by omega) (by omega)
    have hd : (i : Int) < (ts.length : Int) := by omega
    obtain ⟨hft, _⟩ := flat_take wvalR hlt
    have hl0 := hlen (i + 1)
    rw [hft] at hl0
    rw [List.length_append] at hl0
    have h40R := h40 _ (List.getElem_mem hlt)
    have hwfR := hwf _ (List.getElem_mem hlt)
    generalize (ts.take i).flatMap wvalR = F at *
    generalize hx : ts[i] = R at *
    refine awm_sub jw_jb (Sub.keep _ [3, 9, 10, 11]) ?_
    refine awm_saw jw_jb (aw_region ?_)
    refine ar_go3 _ rfl (by simp [trsL_len, trsL_getE, evsL_len, evsL_getE, trL, evL, hlt, hd, hx]; exact ⟨rfl, rfl, rfl⟩) rfl ?_
    refine ar_done rfl (fun h => by cases h) ?_
    refine tm_norm ?_
    refine awm_saw jw_jb (aw_ifT (b := true) (by simp [hd]; done) rfl (aw_skip ?_))
    refine tm_norm ?_
    refine awm_seq (awm_block ?_)
    refine awm_sub jw_jb (Sub.keep _ [3, 9, 10, 11]) ?_
    refine awm_saw jw_jb (aw_region ?_)
    refine ar_go3 _ rfl (by simp [trsL_len, trsL_getE, evsL_len, evsL_getE, trL, evL, hlt, hd, hx]; exact ⟨rfl, rfl, rfl⟩) rfl ?_
    refine ar_done rfl (fun h => by cases h) ?_
    refine tm_norm ?_
    refine awm_sub jw_jb (Sub.keep _ [3, 5, 9, 10, 11]) ?_
    refine awm_saw jw_jb (aw_region ?_)
    refine ar_go3 _ rfl (by simp [trsL_len, trsL_getE, evsL_len, evsL_getE, trL, evL, hlt, hd, hx]; exact ⟨rfl, rfl, rfl⟩) rfl ?_
    refine ar_done rfl (fun h => by cases h) ?_
    refine tm_norm ?_
    refine awm_block ?_
    refine awm_loopN [3, 9, 10, 11, 16, 17, 18] [] jw_jb (by simp; exact rfl) (ι := {k : Nat // k ≤ R.es.length}) (fun k => ⟨33, [(3, .pv (.v (.map (some m)))), (9, .pv (.sl 16 (trsL ts))), (10, I .i64 ts.length), (11, I .i64 i), (16, .pv (.sl 7 (evsL R.es))), (17, I .i64 R.es.length), (18, I .i64 k.1)], []⟩) (fun k => F ++ wvE (R.es.take k.1)) (fun k => R.es.length - k.1) ⟨0, by omega⟩ (by simp [evsL_len]) (by simp [wvE]) ?_
    rintro ⟨k, hk⟩
    dsimp only
    by_cases hkl : k < R.es.length
    · have hw2 : IntKind.wrap .i64 ((k : Int) + 1) = (k : Int) + 1 := wrap64s (by omega) (by omega)
      have hd2 : (k : Int) < (R.es.length : Int) := by omega
      have hwt := wvE_take hkl
      have hwl := wvE_len (R.es.take k)
      rw [List.length_take] at hwl
      have hwe := hwfR _ (List.getElem_mem hkl)
      have hFl : F.length ≤ 80000000 := by omega
      generalize wvE (R.es.take k) = G at *
      generalize hy : R.es[k] = e at *
      refine awm_sub jw_jb (Sub.keep _ [3, 9, 10, 11, 16, 17, 18]) ?_
      refine awm_saw jw_jb (aw_region ?_)
      refine ar_go3 _ rfl (by simp [trsL_len, trsL_getE, evsL_len, evsL_getE, trL, evL, hkl, hd2, hy]; exact ⟨rfl, rfl, rfl⟩) rfl ?_
      refine ar_done rfl (fun h => by cases h) ?_
      refine tm_norm ?_
      refine awm_saw jw_jb (aw_ifT (b := true) (by simp [hd2]; done) rfl (aw_skip ?_))
      refine tm_norm ?_
      refine awm_seq (awm_block ?_)
      refine awm_sub jw_jb (Sub.keep _ [3, 9, 10, 11, 16, 17, 18]) ?_
      refine awm_saw jw_jb (aw_region ?_)
      refine ar_go3 _ rfl (by simp [trsL_len, trsL_getE, evsL_len, evsL_getE, trL, evL, hkl, hd2, hy]; exact ⟨rfl, rfl, rfl⟩) rfl ?_
      refine ar_done rfl (fun h => by cases h) ?_
      refine tm_norm ?_
      by_cases he : e.k = 2
      · rw [if_pos he] at hwt
        refine awm_sub jw_jb (Sub.keep _ [3, 7, 9, 10, 11, 16, 17, 18]) ?_
        refine awm_saw jw_jb (aw_region ?_)
        refine ar_go3 _ rfl (by simp [trsL_len, trsL_getE, evsL_len, evsL_getE, trL, evL, hkl, hd2, hy, he]; exact ⟨rfl, rfl, rfl⟩) rfl ?_
        refine ar_done rfl (fun h => by cases h) ?_
        refine tm_norm ?_
        refine awm_cond (b := true) (by simp [he]; done) (fun _ => ?_) (fun h => by cases h)
        refine awm_upd (j := 3) (d' := F ++ G ++ [e.v]) (k := e.v) (b := true) jw_jb (by simp [trsL_len, trsL_getE, evsL_len, evsL_getE, trL, evL]; exact ⟨rfl, rfl⟩) rfl rfl rfl rfl rfl (by simp; done) (by simp) (by simp; done) (fun w hj => jw_put hj (by rw [List.length_append]; omega) hwe) ?_
        refine bm_norm (tm_norm ?_)
        refine awm_aw jw_jb (aw_region ?_)
        refine ar_go3 _ rfl (by simp [trsL_len, trsL_getE, evsL_len, evsL_getE, trL, evL, hw2]; exact ⟨rfl, rfl, rfl⟩) rfl ?_
        refine ar_done rfl (fun h => by cases h) ?_
        exact lm_normN [3, 9, 10, 11, 16, 17, 18] [] (by simp; exact rfl) ⟨k + 1, by omega⟩ (by dsimp only; omega) (by simp [hw2]) (by rw [hwt, List.append_assoc])
      · rw [if_neg he, List.append_nil] at hwt
        refine awm_sub jw_jb (Sub.keep _ [3, 7, 9, 10, 11, 16, 17, 18]) ?_
        refine awm_saw jw_jb (aw_region ?_)
        refine ar_go3 _ rfl (by simp [trsL_len, trsL_getE, evsL_len, evsL_getE, trL, evL, hkl, hd2, hy, he]; exact ⟨rfl, rfl, rfl⟩) rfl ?_
        refine ar_done rfl (fun h => by cases h) ?_
        refine tm_norm ?_
        refine awm_cond (b := false) (by simp [he]; done) (fun h => by cases h) (fun _ => awm_skip ?_)
        refine bm_norm (tm_norm ?_)
        refine awm_aw jw_jb (aw_region ?_)
        refine ar_go3 _ rfl (by simp [trsL_len, trsL_getE, evsL_len, evsL_getE, trL, evL, hw2]; exact ⟨rfl, rfl, rfl⟩) rfl ?_
        refine ar_done rfl (fun h => by cases h) ?_
        exact lm_normN [3, 9, 10, 11, 16, 17, 18] [] (by simp; exact rfl) ⟨k + 1, by omega⟩ (by dsimp only; omega) (by simp [hw2]) (by rw [hwt])
    · have hd2 : ¬(k : Int) < (R.es.length : Int) := by omega
      have hke : R.es.take k = R.es := List.take_of_length_le (by omega)
      rw [hke]
      refine awm_sub jw_jb (Sub.keep _ [3, 9, 10, 11, 16, 17, 18]) ?_
      refine awm_saw jw_jb (aw_region ?_)
      refine ar_go3 _ rfl (by simp [trsL_len, trsL_getE, evsL_len, evsL_getE, trL, evL, hd2]; exact ⟨rfl, rfl, rfl⟩) rfl ?_
      refine ar_done rfl (fun h => by cases h) ?_
      refine tm_norm ?_
      refine awm_saw jw_jb (aw_ifF (b := false) (by simp [hd2]; done) rfl (aw_exit ?_))
      refine tm_exit (lm_exit (bm_hit (bm_norm (tm_norm ?_))))
      refine awm_aw jw_jb (aw_region ?_)
      refine ar_go3 _ rfl (by simp [trsL_len, trsL_getE, evsL_len, evsL_getE, trL, evL, hw]; exact ⟨rfl, rfl, rfl⟩) rfl ?_
      refine ar_done rfl (fun h => by cases h) ?_
      exact lm_normN [3, 9, 10, 11] [] (by simp; exact rfl) ⟨i + 1, by omega⟩ (by dsimp only; omega) (by simp [hw]) (by rw [hft]; rfl)
  · have hd : ¬(i : Int) < (ts.length : Int) := by omega
    have hie : ts.take i = ts := List.take_of_length_le (by omega)
    rw [hie]
    refine awm_sub jw_jb (Sub.keep _ [3, 9, 10, 11]) ?_
    refine awm_saw jw_jb (aw_region ?_)
    refine ar_go3 _ rfl (by simp [trsL_len, trsL_getE, evsL_len, evsL_getE, trL, evL, hd]; exact ⟨rfl, rfl, rfl⟩) rfl ?_
    refine ar_done rfl (fun h => by cases h) ?_
    refine tm_norm ?_
    refine awm_saw jw_jb (aw_ifF (b := false) (by simp [hd]; done) rfl (aw_exit ?_))
    refine tm_exit (lm_exit (bm_hit (tm_norm ?_)))
    have hl9 := hlen ts.length
    rw [List.take_length] at hl9
    refine awm_keys (l := sortU (wvals ts)) jw_jb rfl rfl rfl rfl rfl rfl rfl rfl rfl rfl rfl rfl (by simp; done) (by simp) Tryz.call52 Tryz.call50 (fun w hj => jw_keys (d := wvals ts) hj (by unfold wvals; omega)) ?_
    exact awm_ret (ret_own (.loc 32) (by simp; exact rfl) (by simp) (by simp [ints, numsL]))
end Go.Eng
