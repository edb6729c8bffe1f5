import Derived.Test.YtamjcdfjkekdjaaTestCountsWalk
set_option linter.unusedSimpArgs false
set_option linter.unusedVariables false
set_option linter.constructorNameAsVariable false
set_option autoImplicit false
namespace Go.Eng
open Go Go.RowKit Go.Proofs
/-! Plain laws of bare and fenced threads. -/
theorem may_beh {x : In} {β β' L : Int} (h : mayI x β L = true) (hb : braF x.op = false) : mayI x β' L = true := by
  unfold mayI mayF at *
  simp only [Bool.and_eq_true] at h ⊢
  refine ⟨h.1, h.2.1, h.2.2.1, h.2.2.2.1, ?_⟩
  have h5 := h.2.2.2.2
  cases hI : hasI x.op
  · rw [hI] at h5; exact h5
  · rw [hI] at h5
    simp only [cond_true] at h5 ⊢
    have hop : x.op = 1 ∨ x.op = 11 := by unfold hasI at hI; unfold braF at hb; simp at hI hb; omega
    rcases hop with e | e <;> rw [e] at h5 ⊢ <;> simpa [immF] using h5
theorem may_setM {x : In} {β β' L n : Int} (h : mayI x β L = true) (hb : braF x.op = true) (hn : 0 ≤ n ∧ n ≤ β') : mayI (setM x n) β' L = true := by
  unfold mayI mayF at *
  simp only [Bool.and_eq_true, setM] at h ⊢
  refine ⟨h.1, h.2.1, h.2.2.1, h.2.2.2.1, ?_⟩
  have hI : hasI x.op = true := by unfold hasI; unfold braF at hb; simp at hb ⊢; omega
  have hop : ¬x.op = 1 ∧ ¬x.op = 11 := by unfold braF at hb; simp at hb; omega
  rw [hI]
  simp only [cond_true, immF, hop.1, hop.2, if_false, betw]
  simp; omega
def GoodL (L : Int) : List In → Prop
  | [] => True
  | x :: l => mayI x l.length L = true ∧ GoodL L l
theorem badI_good {L : Int} : ∀ (l : List In) (k : Nat) (len : Int), len = k + l.length → (badI L len k l = none ↔ GoodL L l)
  | [], _, _, _ => by simp [badI, GoodL]
  | x :: l, k, len, h => by
    have e : len - 1 - (k : Int) = l.length := by simp at h; omega
    rw [badI, GoodL, e]
    split
    · rename_i hm
      rw [badI_good l (k + 1) len (by simp at h ⊢; omega)]
      simp [hm]
    · rename_i hm
      simp [hm]
theorem goodT_iff {L : Int} {th : List In} : goodT L th ↔ (1 ≤ th.length ∧ th.length ≤ 8) ∧ GoodL L th := by
  unfold goodT
  rw [badI_good th 0 th.length (by simp)]
  constructor
  · rintro ⟨h1, h2⟩; exact ⟨by omega, h2⟩
  · rintro ⟨h1, h2⟩; exact ⟨by omega, h2⟩
theorem good_bare {L : Int} : ∀ {l : List In}, GoodL L l → GoodL L (turnL bareF l)
  | [], _ => trivial
  | x :: l, h => by
    have ih := good_bare h.2
    simp only [turnL]
    cases hb : braF x.op
    · have ho : oneF bareF x l = bareF x := by simp [oneF, hb]
      rw [ho]
      cases hx : barF x.op
      · have e : bareF x = [x] := by simp [bareF, hx]
        rw [e]; exact ⟨may_beh h.1 hb, ih⟩
      · have e : bareF x = [] := by simp [bareF, hx]
        rw [e]; exact ih
    · have ho : oneF bareF x l = [setM x (cntF bareF (l.take x.m.toNat))] := by simp [oneF, hb]
      rw [ho]
      have h1 := turnL_len bare_br l
      have h2 := cntF_take bareF x.m.toNat l
      have h3 := cntF_nonneg bareF (l.take x.m.toNat)
      exact ⟨may_setM h.1 hb ⟨h3, by show _ ≤ ((turnL bareF l).length : Int); omega⟩, ih⟩
theorem kc_cons (k : Int) (x : In) (l : List In) : kc k (x :: l) = (if kindF x.op = k then 1 else 0) + kc k l := by
  unfold kc
  rw [List.filter_cons]
  split <;> split <;> simp_all <;> omega
theorem kc_append (k : Int) : ∀ s l : List In, kc k (s ++ l) = kc k s + kc k l
  | [], l => by simp [kc]
  | x :: s, l => by simp only [List.cons_append, kc_cons, kc_append k s l]; omega
theorem kind_bar {op : Int} (h : barF op = true) : kindF op = 0 := by
  unfold barF at h; simp at h; unfold kindF; rw [if_neg (by omega), if_neg (by omega)]
theorem kc_bare {k : Int} (hk : k ≠ 0) : ∀ l : List In, kc k (turnL bareF l) = kc k l
  | [] => rfl
  | x :: l => by
    have ih := kc_bare hk l
    simp only [turnL, kc_append, kc_cons, ih]
    cases hb : braF x.op
    · have ho : oneF bareF x l = bareF x := by simp [oneF, hb]
      rw [ho]
      cases hx : barF x.op
      · have e : bareF x = [x] := by simp [bareF, hx]
        rw [e, kc_cons, kc_nil]; omega
      · have e : bareF x = [] := by simp [bareF, hx]
        rw [e, kc_nil, kind_bar hx, if_neg (fun h => hk h.symm)]
    · have ho : oneF bareF x l = [setM x (cntF bareF (l.take x.m.toNat))] := by simp [oneF, hb]
      rw [ho, kc_cons, kc_nil, Int.add_zero]
      rfl
theorem kcT_bare {k : Int} (hk : k ≠ 0) : ∀ t : List (List In), kcT k (bareT t) = kcT k t
  | [] => rfl
  | l :: t => by
    have ih := kcT_bare hk t
    show kc k (turnL bareF l) + kcT k (bareT t) = kc k l + kcT k t
    rw [kc_bare hk, ih]
def anyE (t : List (List In)) : Bool := t.any fun l => l.isEmpty
theorem ok_bare {i : List Int} {t : List (List In)} (h : okTest i t = true) : okTest i (bareT t) = !anyE (bareT t) := by
  obtain ⟨h1, h2, h3⟩ := okTest_iff.1 h
  have hs : sizedF i (bareT t) = true := by rw [← h1]; simp [sizedF, bareT]
  have hf : fullF (bareT t) = false := by rw [← h3]; unfold fullF; rw [kcT_bare (by decide), kcT_bare (by decide)]
  rw [Bool.eq_iff_iff, okTest_iff, badT_iff]
  simp only [hs, hf, true_and, and_true]
  rw [badT_iff] at h2
  unfold anyE
  simp only [Bool.not_eq_true', List.any_eq_false]
  constructor
  · intro hg th hth
    have := (goodT_iff.1 (hg th hth)).1
    cases th with
    | nil => simp at this
    | cons x l => simp
  · intro hg th hth
    have hne := hg th hth
    obtain ⟨s, hs', rfl⟩ := List.mem_map.1 hth
    have hgs := goodT_iff.1 (h2 s hs')
    have hl := bare_len s
    refine goodT_iff.2 ⟨⟨?_, by omega⟩, good_bare hgs.2⟩
    cases hq : turnL bareF s with
    | nil => rw [hq] at hne; simp at hne
    | cons x l => simp
def NoBar (s : List In) : Prop := ∀ x ∈ s, barF x.op = false
theorem bra_nobar {op : Int} (h : braF op = true) : barF op = false := by unfold braF at h; unfold barF; simp at h ⊢; omega
theorem nobar_bare : ∀ l : List In, NoBar (turnL bareF l)
  | [], y, hy => by cases hy
  | x :: l, y, hy => by
    simp only [turnL, List.mem_append] at hy
    rcases hy with hy | hy
    · unfold oneF at hy
      split at hy
      · rename_i hb; rw [List.mem_singleton.1 hy]; exact bra_nobar hb
      · unfold bareF at hy
        cases hx : barF x.op <;> rw [hx] at hy <;> simp at hy
        rw [hy]; exact hx
    · exact nobar_bare l y hy
theorem cnt_nobar : ∀ {s : List In}, NoBar s → cntF bareF s = s.length
  | [], _ => rfl
  | x :: s, h => by
    have e : bareF x = [x] := by simp [bareF, h x (by simp)]
    simp only [cntF, cnt_nobar (s := s) (fun y hy => h y (by simp [hy])), e, List.length_cons, List.length_nil]
    omega
theorem setM_self {x : In} {n : Int} (h : n = x.m) : setM x n = x := by subst h; rfl
theorem bare_id : ∀ {s : List In}, NoBar s → BraR s → turnL bareF s = s
  | [], _, _ => rfl
  | x :: s, hn, hr => by
    have ih := bare_id (s := s) (fun y hy => hn y (by simp [hy])) hr.2
    have e : bareF x = [x] := by simp [bareF, hn x (by simp)]
    simp only [turnL, ih]
    unfold oneF
    split
    · rename_i hb
      have hm := hr.1 hb
      rw [cnt_nobar (fun y hy => hn y (by simp [List.mem_of_mem_take hy]))]
      rw [setM_self (by rw [List.length_take]; omega)]
      rfl
    · rw [e]; rfl
theorem bareT_twice (t : List (List In)) : bareT (bareT t) = bareT t := by
  unfold bareT
  rw [List.map_map]
  refine List.map_congr_left fun l _ => ?_
  exact bare_id (nobar_bare l) (BraR.turn bare_br bare_nb l)
theorem oneF_len {T : In → List In} (hbr : ∀ x, braF x.op = true → T x = [x]) (x : In) (l : List In) : (oneF T x l).length = (T x).length := by
  unfold oneF
  split
  · rename_i hb; rw [hbr x hb]; rfl
  · rfl
theorem cnt_one {y : In} (hy : barF y.op = false) (l : List In) : cntF bareF (oneF fencedF y l) = 1 := by
  have e : bareF y = [y] := by simp [bareF, hy]
  have ed : bareF dmb = [] := by decide
  unfold oneF
  split
  · have e2 : bareF (setM y (cntF fencedF (l.take y.m.toNat))) = [setM y (cntF fencedF (l.take y.m.toNat))] := by simp [bareF, setM, hy]
    simp [cntF, e2]
  · unfold fencedF
    cases hasL y.op <;> simp [cntF, e, ed]
theorem cnt_prefix : ∀ {s : List In} {M : Nat}, NoBar s → M ≤ s.length → cntF bareF ((turnL fencedF s).take (cntF fencedF (s.take M)).toNat) = M
  | _, 0, _, _ => by simp [cntF]
  | [], M + 1, _, h => by simp at h
  | y :: s, M + 1, hn, h => by
    have ih := cnt_prefix (s := s) (M := M) (fun z hz => hn z (by simp [hz])) (by simpa using h)
    have h1 := cntF_nonneg fencedF (s.take M)
    have hl := oneF_len fenced_br y s
    simp only [List.take_succ_cons, cntF, turnL]
    have e : ((fencedF y).length + cntF fencedF (s.take M)).toNat = (oneF fencedF y s).length + (cntF fencedF (s.take M)).toNat := by omega
    rw [e, List.take_append, List.take_of_length_le (by omega), cntF_append, cnt_one (hn y (by simp))]
    rw [show (oneF fencedF y s).length + (cntF fencedF (s.take M)).toNat - (oneF fencedF y s).length = (cntF fencedF (s.take M)).toNat by omega, ih]
    omega
theorem bare_fenced : ∀ {s : List In}, NoBar s → BraR s → turnL bareF (turnL fencedF s) = s
  | [], _, _ => rfl
  | x :: s, hn, hr => by
    have ih := bare_fenced (s := s) (fun y hy => hn y (by simp [hy])) hr.2
    have hx := hn x (by simp)
    have e : bareF x = [x] := by simp [bareF, hx]
    have ed : bareF dmb = [] := by decide
    have ob : braF dmb.op = false := by decide
    simp only [turnL]
    cases hb : braF x.op
    · have ho : oneF fencedF x s = fencedF x := by simp [oneF, hb]
      have hq : ∀ l, oneF bareF x l = [x] := fun l => by simp [oneF, hb, e]
      have hd : ∀ l, oneF bareF dmb l = [] := fun l => by simp [oneF, ob, ed]
      rw [ho]
      unfold fencedF
      cases hasL x.op <;> simp [turnL, hq, hd]
      all_goals exact ih
    · have ho : oneF fencedF x s = [setM x (cntF fencedF (s.take x.m.toNat))] := by simp [oneF, hb]
      have hm := hr.1 hb
      rw [ho]
      simp only [List.cons_append, List.nil_append, turnL, ih]
      have hp := cnt_prefix (s := s) (M := x.m.toNat) (fun z hz => hn z (by simp [hz])) (by omega)
      have h2 : oneF bareF (setM x (cntF fencedF (s.take x.m.toNat))) (turnL fencedF s) = [x] := by
        unfold oneF
        rw [if_pos (show braF (setM x (cntF fencedF (s.take x.m.toNat))).op = true from hb)]
        show [setM (setM x (cntF fencedF (s.take x.m.toNat))) (cntF bareF ((turnL fencedF s).take (cntF fencedF (s.take x.m.toNat)).toNat))] = [x]
        rw [hp]
        congr 1
        show setM x (x.m.toNat : Int) = x
        exact setM_self (by omega)
      rw [h2]; rfl
theorem bare_of_fenced (t : List (List In)) : bareT (fencedT t) = bareT t := by
  unfold fencedT bareT
  rw [List.map_map, List.map_map]
  refine List.map_congr_left fun l _ => ?_
  exact bare_fenced (nobar_bare l) (BraR.turn bare_br bare_nb l)
theorem fencedT_twice (t : List (List In)) : fencedT (fencedT t) = fencedT t := by
  show (bareT (fencedT t)).map (turnL fencedF) = (bareT t).map (turnL fencedF)
  rw [bare_of_fenced]
end Go.Eng
