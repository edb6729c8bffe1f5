import Derived.Test.YtjijfghchcnbnaaDoorCondC
import Derived.Test.YtjijfghchcnbnaaDoorEngE
import Derived.Test.YtjijfghchcnbnaaDoorEngD
import Derived.Test.YtjijfghchcnbnaaDoorCondF
import Derived.Lib.AppendIntMem
set_option linter.unusedSimpArgs false
set_option linter.unusedVariables false
set_option linter.constructorNameAsVariable false
set_option autoImplicit false
namespace Go.Eng
open Go Go.RowKit Go.Proofs
/-! ## Texts -/
def sb (l : List UInt8) : ByteArray := ⟨l.toArray⟩
abbrev S (l : List UInt8) : AV := .pv (.v (.string (sb l)))
theorem sb_lit (l : List UInt8) : (⟨l.toArray⟩ : ByteArray) = sb l := rfl
theorem sb_app (a b : List UInt8) : sb a ++ sb b = sb (a ++ b) := by
  apply ByteArray.ext
  simp [sb]
theorem sb_size (a : List UInt8) : (sb a).size = a.length := by simp [sb, ByteArray.size]
theorem sb_data (a : List UInt8) : (sb a).data.toList = a := by simp [sb]
def strL (l : List (List UInt8)) : List (List PV) := l.map fun s => [.v (.string (sb s))]
theorem strL_len {l : List (List UInt8)} : (strL l).length = l.length := by simp [strL]
theorem tab_glob {ρ : Rho} {w : World} (h : GlobOK ρ.F w) : Lib.TabIs Tryd.prog w "internal/strconv.uint64pow10" .u64 Lib.pow10Tab := by
  obtain ⟨_, ty, fr, h2⟩ := h 0 _ rfl
  have hg : Tryd.prog.globalNamed "internal/strconv.uint64pow10" = some 0 := by kernel_rfl
  unfold Lib.TabIs World.var?
  rw [hg]
  simp [h2]
theorem str_elems {F : Nat → Prop} {w : World} : ∀ {l : List (List UInt8)} {vs : List Value}, PElems F w 1 (strL l) vs → vs = l.map fun s => .string (sb s)
  | [], vs, h => by simpa [strL, PElems] using h
  | s :: l, vs, h => by
    obtain ⟨v1, v2, rfl, h1, ⟨u, us, rfl, h2, h3⟩, h4⟩ := h
    obtain ⟨rfl, _⟩ := h2
    simp only [PVs] at h3
    subst h3
    rw [str_elems (l := l) h4]; rfl
def itoaF (n : Int) : List UInt8 := Lib.itoa n
def wordF (a : At) : List UInt8 := (if a.th = -1 then 120 :: itoaF a.pl else itoaF a.th ++ [58] ++ itoaF a.pl) ++ (if a.neg = true then [33] else []) ++ [61] ++ itoaF a.v
def segF (i : Nat) (l : List At) : List UInt8 := (if 0 < i then [32, 124] else []) ++ ([32] ++ (if l = [] then [116, 114, 117, 101] else [38].intercalate (l.map wordF)))
def txtF (c : Co) : Nat → List UInt8
  | 0 => if c.all = true then [102, 111, 114, 97, 108, 108] else [101, 120, 105, 115, 116, 115]
  | i + 1 => txtF c i ++ segF i (c.any.getD i [])
def textF (c : Co) : List UInt8 := txtF c c.any.length
theorem dec_len : ∀ (k n : Nat), n < 10 ^ (k + 1) → (Lib.decDigits n).length ≤ k + 1
  | 0, n, h => by rw [Lib.decDigits, dif_pos (by simpa using h)]; simp
  | k + 1, n, h => by
    rw [Lib.decDigits]
    split
    · simp
    · have := dec_len k (n / 10) (by rw [Nat.pow_succ] at h; omega)
      rw [List.length_append]
      simp only [List.length_cons, List.length_nil]
      omega
theorem itoa_len {n : Int} (h : W64 n) : (itoaF n).length ≤ 20 := by
  have hw := w64 h
  unfold itoaF Lib.itoa
  have e : (10 : Nat) ^ (18 + 1) = 10000000000000000000 := by decide
  split
  · have := dec_len 18 n.natAbs (by rw [e]; omega)
    rw [List.length_cons]; omega
  · have := dec_len 18 n.toNat (by rw [e]; omega)
    omega
structure AtOk (a : At) : Prop where
  th : W64 a.th
  pl : W64 a.pl
  v : W64 a.v
theorem word_len {a : At} (h : AtOk a) : (wordF a).length ≤ 63 := by
  have h1 := itoa_len h.th
  have h2 := itoa_len h.pl
  have h3 := itoa_len h.v
  unfold wordF
  simp only [List.length_append]
  have e1 : (if a.th = -1 then 120 :: itoaF a.pl else itoaF a.th ++ [58] ++ itoaF a.pl).length ≤ 41 := by
    split
    · rw [List.length_cons]; omega
    · simp only [List.length_append, List.length_cons, List.length_nil]; omega
  have e2 : (if a.neg = true then [(33 : UInt8)] else []).length ≤ 1 := by split <;> simp
  simp only [List.length_cons, List.length_nil]
  omega
theorem inter_len : ∀ (l : List (List UInt8)), (∀ s ∈ l, s.length ≤ 63) → ([(38 : UInt8)].intercalate l).length ≤ l.length * 64
  | [], _ => by simp [List.intercalate]
  | [x], h => by
    have := h x (by simp)
    simp [List.intercalate]; omega
  | x :: y :: l, h => by
    have h1 := h x (by simp)
    have h2 := inter_len (y :: l) (fun s hs => h s (by simp [hs]))
    have e : [(38 : UInt8)].intercalate (x :: y :: l) = x ++ [38] ++ [(38 : UInt8)].intercalate (y :: l) := by simp [List.intercalate, List.intersperse]
    rw [e]
    simp only [List.length_append, List.length_cons, List.length_nil] at h2 ⊢
    omega
theorem seg_len {i : Nat} {l : List At} (hl : l.length ≤ 20) (h : ∀ a ∈ l, AtOk a) : (segF i l).length ≤ 1300 := by
  unfold segF
  have h1 := inter_len (l.map wordF) (fun s hs => by
    obtain ⟨a, ha, rfl⟩ := List.mem_map.1 hs
    exact word_len (h a ha))
  rw [List.length_map] at h1
  have e1 : (if 0 < i then [(32 : UInt8), 124] else []).length ≤ 2 := by split <;> simp
  have e2 : (if l = [] then [(116 : UInt8), 114, 117, 101] else [38].intercalate (l.map wordF)).length ≤ 1280 := by
    split
    · decide
    · omega
  simp only [List.length_append, List.length_cons, List.length_nil]
  omega
structure CoFew (c : Co) : Prop where
  few : fewB c = true
  at_ : ∀ l ∈ c.any, ∀ a ∈ l, AtOk a
theorem txt_len {c : Co} (h : CoFew c) : ∀ i, i ≤ c.any.length → (txtF c i).length ≤ 6 + i * 1300
  | 0, _ => by unfold txtF; split <;> simp
  | i + 1, hi => by
    have h1 := txt_len h i (by omega)
    have hm := List.getElem_mem (show i < c.any.length by omega)
    have h2 := seg_len (i := i) ((fewB_iff.1 h.few).2 _ hm) (h.at_ _ hm)
    rw [txtF, getD_at (by omega), List.length_append]
    omega
end Go.Eng
set_option linter.unusedSimpArgs false
set_option linter.unusedVariables false
set_option linter.constructorNameAsVariable false
set_option autoImplicit false
namespace Go.Eng
open Go Go.RowKit Go.Proofs
theorem below_grown_draw [Trk] (w : World) (k : Nat) (os : Array Obj) : Below w.heap.size w (Sort.grow (w.drewN k) os) :=
  ⟨rfl, rfl, rfl, by show w.heap.size ≤ (w.heap ++ os).size; rw [Array.size_append]; omega, fun j hj => by show (w.heap ++ os)[j]? = w.heap[j]?; exact Array.getElem?_append_left hj⟩
set_option maxHeartbeats 16000000 in
theorem c_Itoa [Trk] {n : Int} (h : W64 n) : SC Tryd.prog 51 [I .i64 n] (S (itoaF n)) := by
  have hw := w64 h
  refine sc_calls rfl fun Γ ρ w vals hX hargs => ?_
  have hvals : vals = #[Value.int .i64 n] := by
    obtain ⟨v, vs', e1, ⟨rfl, _⟩, h2⟩ := hargs
    simp only [ARels] at h2; subst h2
    rw [← Array.toList_inj, e1]
  subst hvals
  refine (Tryd.strconv_Itoa n hw.1 hw.2 w (tab_glob hX.glob)).mono ?_
  rintro e w' ⟨rfl, k, os, rfl⟩
  exact ⟨rfl, below_grown_draw w k os, fun _ => Nat.le_add_right _ _⟩
set_option maxHeartbeats 16000000 in
theorem c_Fmt [Trk] {n : Int} (h : W64 n) : SC Tryd.prog 52 [I .i64 n, I .i64 10] (S (itoaF n)) := by
  have hw := w64 h
  refine sc_calls rfl fun Γ ρ w vals hX hargs => ?_
  have hvals : vals = #[Value.int .i64 n, Value.int .i64 10] := by
    obtain ⟨v, vs', e1, ⟨rfl, _⟩, h2⟩ := hargs
    obtain ⟨v2, vs2, rfl, ⟨rfl, _⟩, rfl⟩ := h2
    rw [← Array.toList_inj, e1]
  subst hvals
  refine (Tryd.strconv_FormatInt_10 n hw.1 hw.2 w (tab_glob hX.glob)).mono ?_
  rintro e w' ⟨rfl, k, os, rfl⟩
  exact ⟨rfl, below_grown_draw w k os, fun _ => Nat.le_add_right _ _⟩
set_option maxHeartbeats 16000000 in
theorem c_Join [Trk] {xs : List (List UInt8)} {sep : List UInt8} (hT : ¬Trk.on) (h1 : xs.length ≤ 1000) (h2 : (sep.intercalate xs).length ≤ 1000000) : SC Tryd.prog 34 [.pv (.sl 1 (strL xs)), S sep] (S (sep.intercalate xs)) := by
  refine sc_calls rfl fun Γ ρ w vals hX hargs => ?_
  obtain ⟨v, vs', e1, hv, v2, vs2, rfl, ⟨rfl, _⟩, h3⟩ := hargs
  simp only [ARels] at h3
  subst h3
  obtain ⟨a, cap, vs, rfl, k1, k2, k3, k4⟩ := hv
  have hvs := str_elems k3
  rw [strL_len] at e1 k1
  have hvals : vals = #[.slice a xs.length cap, .string (sb sep)] := by rw [← Array.toList_inj, e1]
  subst hvals
  cases xs with
  | nil =>
    refine (Tryd.strings_Join_none a cap (sb sep) w).mono ?_
    rintro e w' ⟨rfl, rfl⟩
    exact ⟨rfl, Below.refl _ _, fun _ => Nat.le_refl _⟩
  | cons x xs =>
    subst hvs
    rcases k4 with k4 | ⟨ad, rfl, hF, k5⟩
    · simp at k4
    obtain ⟨b, off, sp⟩ := ad
    have h0 := k5 0 (.string (sb x)) (by simp)
    have hsp : sp = none := by
      simp only [Addr.add, if_true, World.cell?] at h0
      split at h0
      · cases sp with
        | none => rfl
        | some q => simp at h0
      · cases h0
    subst hsp
    have hdat : ((x :: xs).map sb).map (·.data.toList) = x :: xs := by
      rw [List.map_map]
      have : (fun x : ByteArray => x.data.toList) ∘ sb = id := funext fun y => sb_data y
      rw [this, List.map_id]
    have hj : Lib.join (((x :: xs).map sb).map (·.data.toList)) (sb sep).data.toList = sep.intercalate (x :: xs) := by rw [hdat, sb_data]; rfl
    have hc := Tryd.strings_Join b off cap ((x :: xs).map sb) (sb sep) w (fun j y hy => by
      have := k5 j (.string y) (by
        rw [List.getElem?_map] at hy ⊢
        cases hq : (x :: xs)[j]? with
        | none => rw [hq] at hy; cases hy
        | some z => rw [hq] at hy; cases hy; rfl)
      rwa [Addr.add_lit] at this) (hX.flt _ hF) (by rw [List.length_map]; omega) (by rw [List.length_map]; exact k1) (by rw [hj]; omega)
    rw [hj, List.length_map] at hc
    refine hc.mono ?_
    rintro e w' ⟨rfl, hb⟩
    exact ⟨rfl, hb, fun h => absurd h hT⟩
set_option maxHeartbeats 16000000 in
theorem c_word [Trk] {a : At} (h : AtOk a) : SC Tryd.prog 33 [.agg (atC a)] (S (wordF a)) := by
  have h1 := c_Itoa h.th
  have h2 := c_Itoa h.pl
  have h3 := c_Fmt h.v
  have l1 := itoa_len h.th
  have l2 := itoa_len h.pl
  have l3 := itoa_len h.v
  unfold wordF
  obtain ⟨th, pl, v, neg⟩ := a
  dsimp only at h1 h2 h3 l1 l2 l3 ⊢
  generalize itoaF pl = p at *
  generalize itoaF v = q at *
  have b1 : p.length + 1 ≤ 9223372036854775807 := by omega
  have b2 : 1 + p.length ≤ 9223372036854775807 := by omega
  have b3 : p.length + 1 + 1 ≤ 9223372036854775807 := by omega
  have b4 : p.length + 1 + 1 + 1 ≤ 9223372036854775807 := by omega
  have b5 : p.length + 1 + 1 + q.length ≤ 9223372036854775807 := by omega
  have b6 : p.length + 1 + 1 + 1 + q.length ≤ 9223372036854775807 := by omega
  by_cases h0 : th = -1
  · subst h0
    cases neg
    · refine scx_of Tryd.func33 rfl rfl rfl (Nat.le_of_ble_eq_true rfl) ?_
      repeat' (first
        | exact aw_ret (ret_vals (by simp; exact rfl) (by simp [sb_lit, sb_app]; fail_if_success (show _)))
        | exact aw_ret (ret_vals (by simp; exact rfl) (by simp [sb_lit, sb_app]; omega))
        | refine ar_end rfl ?_
        | refine ar_endD rfl (by kernel_rfl) ?_
        | refine ar_fin rfl ?_
        | refine ar_finD rfl (by kernel_rfl) ?_
        | refine ar_callV Tryd.call51 h2 rfl rfl rfl rfl rfl (by simp; done) (by rfl) (by simp; done) ?_
        | refine ar_callV_if Tryd.call51 h2 rfl rfl rfl rfl rfl rfl (by simp; done) rfl (by rfl) (by simp; done) ?_
        | refine ar_callV Tryd.call52 h3 rfl rfl rfl rfl rfl (by simp; done) (by rfl) (by simp; done) ?_
        | refine ar_callV_if Tryd.call52 h3 rfl rfl rfl rfl rfl rfl (by simp; done) rfl (by rfl) (by simp; done) ?_
        | refine ar_go3 _ rfl (by simp [ints_len, ints_getE, rgL_len, rgL_getE, atsL_len, atsL_getE, cosL_len, cosL_getE, ousL_len, ousL_getE, atC, ouC, coC, sb_lit, sb_app, sb_size, b1, b2, b3, b4, b5, b6]; exact ⟨rfl, rfl, rfl⟩) rfl ?_
        | refine aw_sregK 0 [0] ?_
        | refine aw_regK 0 [0] ?_
        | refine aw_sregK 1 [1] ?_
        | refine aw_regK 1 [1] ?_
        | refine aw_sregK 2 [1, 3] ?_
        | refine aw_regK 2 [1, 3] ?_
        | refine aw_sregK 4 [1, 3] ?_
        | refine aw_regK 4 [1, 3] ?_
        | refine aw_sregK 6 [1, 3] ?_
        | refine aw_regK 6 [1, 3] ?_
        | refine aw_sreg ?_
        | refine aw_sregD mixed ?_
        | refine aw_ifT (b := true) rfl rfl ?_
        | refine aw_ifF (b := false) rfl rfl ?_
        | refine aw_ifT rfl (by assumption) ?_
        | refine aw_ifF rfl (by assumption) ?_
        | refine aw_ifT rfl (decide_eq_true (by assumption)) ?_
        | refine aw_ifF rfl (decide_eq_false (by assumption)) ?_
        | refine aw_seq ?_
        | refine aw_block ?_
        | refine aw_skip ?_
        | refine aw_region ?_
        | refine aw_region_draw mixed ?_
        | refine aw_exit ?_
        | refine rq_exit ?_
        | refine blockQ_hit ?_
        | refine blockQ_miss (by decide) ?_
        | (refine ar_guard rfl rfl rfl rfl (fun h => ?_) (fun h => ?_) <;> (fail_if_success (cases h; done)) <;> (try simp at h) <;> (try subst h))
        | (refine aw_both rfl (fun h => ?_) (fun h => ?_) <;> (fail_if_success (cases h; done)) <;> (try simp at h) <;> (try subst h)))
    · refine scx_of Tryd.func33 rfl rfl rfl (Nat.le_of_ble_eq_true rfl) ?_
      repeat' (first
        | exact aw_ret (ret_vals (by simp; exact rfl) (by simp [sb_lit, sb_app]; fail_if_success (show _)))
        | exact aw_ret (ret_vals (by simp; exact rfl) (by simp [sb_lit, sb_app]; omega))
        | refine ar_end rfl ?_
        | refine ar_endD rfl (by kernel_rfl) ?_
        | refine ar_fin rfl ?_
        | refine ar_finD rfl (by kernel_rfl) ?_
        | refine ar_callV Tryd.call51 h2 rfl rfl rfl rfl rfl (by simp; done) (by rfl) (by simp; done) ?_
        | refine ar_callV_if Tryd.call51 h2 rfl rfl rfl rfl rfl rfl (by simp; done) rfl (by rfl) (by simp; done) ?_
        | refine ar_callV Tryd.call52 h3 rfl rfl rfl rfl rfl (by simp; done) (by rfl) (by simp; done) ?_
        | refine ar_callV_if Tryd.call52 h3 rfl rfl rfl rfl rfl rfl (by simp; done) rfl (by rfl) (by simp; done) ?_
        | refine ar_go3 _ rfl (by simp [ints_len, ints_getE, rgL_len, rgL_getE, atsL_len, atsL_getE, cosL_len, cosL_getE, ousL_len, ousL_getE, atC, ouC, coC, sb_lit, sb_app, sb_size, b1, b2, b3, b4, b5, b6]; exact ⟨rfl, rfl, rfl⟩) rfl ?_
        | refine aw_sregK 0 [0] ?_
        | refine aw_regK 0 [0] ?_
        | refine aw_sregK 1 [1] ?_
        | refine aw_regK 1 [1] ?_
        | refine aw_sregK 2 [1, 3] ?_
        | refine aw_regK 2 [1, 3] ?_
        | refine aw_sregK 4 [1, 3] ?_
        | refine aw_regK 4 [1, 3] ?_
        | refine aw_sregK 5 [1, 3] ?_
        | refine aw_regK 5 [1, 3] ?_
        | refine aw_sregK 6 [1, 3] ?_
        | refine aw_regK 6 [1, 3] ?_
        | refine aw_sreg ?_
        | refine aw_sregD mixed ?_
        | refine aw_ifT (b := true) rfl rfl ?_
        | refine aw_ifF (b := false) rfl rfl ?_
        | refine aw_ifT rfl (by assumption) ?_
        | refine aw_ifF rfl (by assumption) ?_
        | refine aw_ifT rfl (decide_eq_true (by assumption)) ?_
        | refine aw_ifF rfl (decide_eq_false (by assumption)) ?_
        | refine aw_seq ?_
        | refine aw_block ?_
        | refine aw_skip ?_
        | refine aw_region ?_
        | refine aw_region_draw mixed ?_
        | refine aw_exit ?_
        | refine rq_exit ?_
        | refine blockQ_hit ?_
        | refine blockQ_miss (by decide) ?_
        | (refine ar_guard rfl rfl rfl rfl (fun h => ?_) (fun h => ?_) <;> (fail_if_success (cases h; done)) <;> (try simp at h) <;> (try subst h))
        | (refine aw_both rfl (fun h => ?_) (fun h => ?_) <;> (fail_if_success (cases h; done)) <;> (try simp at h) <;> (try subst h)))
  · generalize itoaF th = t at *
    have c1 : t.length + 1 ≤ 9223372036854775807 := by omega
    have c2 : t.length + (1 + p.length) ≤ 9223372036854775807 := by omega
    have c2' : t.length + (p.length + 1) ≤ 9223372036854775807 := by omega
    have c3 : t.length + (p.length + 1) + 1 ≤ 9223372036854775807 := by omega
    have c3' : t.length + (p.length + 1 + 1) ≤ 9223372036854775807 := by omega
    have c4 : t.length + (p.length + 1) + 1 + 1 ≤ 9223372036854775807 := by omega
    have c4' : t.length + (p.length + 1 + 1) + 1 ≤ 9223372036854775807 := by omega
    have c5 : t.length + (p.length + 1) + 1 + 1 + q.length ≤ 9223372036854775807 := by omega
    have c6 : t.length + (p.length + 1 + 1) + q.length ≤ 9223372036854775807 := by omega
    have c7 : t.length + 1 + p.length ≤ 9223372036854775807 := by omega
    have c8 : t.length + (p.length + 1 + 1 + 1) + q.length ≤ 9223372036854775807 := by omega
    cases neg
    · refine scx_of Tryd.func33 rfl rfl rfl (Nat.le_of_ble_eq_true rfl) ?_
      repeat' (first
        | exact aw_ret (ret_vals (by simp; exact rfl) (by simp [sb_lit, sb_app, h0]; fail_if_success (show _)))
        | exact aw_ret (ret_vals (by simp; exact rfl) (by simp [sb_lit, sb_app, h0]; omega))
        | refine ar_end rfl ?_
        | refine ar_endD rfl (by kernel_rfl) ?_
        | refine ar_fin rfl ?_
        | refine ar_finD rfl (by kernel_rfl) ?_
        | refine ar_callV Tryd.call51 h2 rfl rfl rfl rfl rfl (by simp; done) (by rfl) (by simp; done) ?_
        | refine ar_callV_if Tryd.call51 h2 rfl rfl rfl rfl rfl rfl (by simp; done) rfl (by rfl) (by simp; done) ?_
        | refine ar_callV Tryd.call51 h1 rfl rfl rfl rfl rfl (by simp; done) (by rfl) (by simp; done) ?_
        | refine ar_callV_if Tryd.call51 h1 rfl rfl rfl rfl rfl rfl (by simp; done) rfl (by rfl) (by simp; done) ?_
        | refine ar_callV Tryd.call52 h3 rfl rfl rfl rfl rfl (by simp; done) (by rfl) (by simp; done) ?_
        | refine ar_callV_if Tryd.call52 h3 rfl rfl rfl rfl rfl rfl (by simp; done) rfl (by rfl) (by simp; done) ?_
        | refine ar_go3 _ rfl (by simp [ints_len, ints_getE, rgL_len, rgL_getE, atsL_len, atsL_getE, cosL_len, cosL_getE, ousL_len, ousL_getE, atC, ouC, coC, sb_lit, sb_app, sb_size, h0, b1, b2, b3, b4, b5, b6, c1, c2, c2', c3, c3', c4, c4', c5, c6, c7, c8]; exact ⟨rfl, rfl, rfl⟩) rfl ?_
        | refine aw_sregK 0 [0] ?_
        | refine aw_regK 0 [0] ?_
        | refine aw_sregK 1 [1] ?_
        | refine aw_regK 1 [1] ?_
        | refine aw_sregK 2 [1, 3] ?_
        | refine aw_regK 2 [1, 3] ?_
        | refine aw_sregKD mixed 3 [1] (by simp; exact rfl) ?_
        | refine aw_regKD mixed 3 [1] (by simp; exact rfl) ?_
        | refine aw_sregK 4 [1, 3] ?_
        | refine aw_regK 4 [1, 3] ?_
        | refine aw_sregK 6 [1, 3] ?_
        | refine aw_regK 6 [1, 3] ?_
        | refine aw_sreg ?_
        | refine aw_sregD mixed ?_
        | refine aw_ifT (b := true) rfl rfl ?_
        | refine aw_ifF (b := false) rfl rfl ?_
        | refine aw_ifT rfl (by assumption) ?_
        | refine aw_ifF rfl (by assumption) ?_
        | refine aw_ifT rfl (decide_eq_true (by assumption)) ?_
        | refine aw_ifF rfl (decide_eq_false (by assumption)) ?_
        | refine aw_seq ?_
        | refine aw_block ?_
        | refine aw_skip ?_
        | refine aw_region ?_
        | refine aw_region_draw mixed ?_
        | refine aw_exit ?_
        | refine rq_exit ?_
        | refine blockQ_hit ?_
        | refine blockQ_miss (by decide) ?_
        | (refine ar_guard rfl rfl rfl rfl (fun h => ?_) (fun h => ?_) <;> (fail_if_success (cases h; done)) <;> (try simp at h) <;> (try subst h))
        | (refine aw_both rfl (fun h => ?_) (fun h => ?_) <;> (fail_if_success (cases h; done)) <;> (try simp at h) <;> (try subst h)))
    · refine scx_of Tryd.func33 rfl rfl rfl (Nat.le_of_ble_eq_true rfl) ?_
      repeat' (first
        | exact aw_ret (ret_vals (by simp; exact rfl) (by simp [sb_lit, sb_app, h0]; fail_if_success (show _)))
        | exact aw_ret (ret_vals (by simp; exact rfl) (by simp [sb_lit, sb_app, h0]; omega))
        | refine ar_end rfl ?_
        | refine ar_endD rfl (by kernel_rfl) ?_
        | refine ar_fin rfl ?_
        | refine ar_finD rfl (by kernel_rfl) ?_
        | refine ar_callV Tryd.call51 h2 rfl rfl rfl rfl rfl (by simp; done) (by rfl) (by simp; done) ?_
        | refine ar_callV_if Tryd.call51 h2 rfl rfl rfl rfl rfl rfl (by simp; done) rfl (by rfl) (by simp; done) ?_
        | refine ar_callV Tryd.call51 h1 rfl rfl rfl rfl rfl (by simp; done) (by rfl) (by simp; done) ?_
        | refine ar_callV_if Tryd.call51 h1 rfl rfl rfl rfl rfl rfl (by simp; done) rfl (by rfl) (by simp; done) ?_
        | refine ar_callV Tryd.call52 h3 rfl rfl rfl rfl rfl (by simp; done) (by rfl) (by simp; done) ?_
        | refine ar_callV_if Tryd.call52 h3 rfl rfl rfl rfl rfl rfl (by simp; done) rfl (by rfl) (by simp; done) ?_
        | refine ar_go3 _ rfl (by simp [ints_len, ints_getE, rgL_len, rgL_getE, atsL_len, atsL_getE, cosL_len, cosL_getE, ousL_len, ousL_getE, atC, ouC, coC, sb_lit, sb_app, sb_size, h0, b1, b2, b3, b4, b5, b6, c1, c2, c2', c3, c3', c4, c4', c5, c6, c7, c8]; exact ⟨rfl, rfl, rfl⟩) rfl ?_
        | refine aw_sregK 0 [0] ?_
        | refine aw_regK 0 [0] ?_
        | refine aw_sregK 1 [1] ?_
        | refine aw_regK 1 [1] ?_
        | refine aw_sregK 2 [1, 3] ?_
        | refine aw_regK 2 [1, 3] ?_
        | refine aw_sregKD mixed 3 [1] (by simp; exact rfl) ?_
        | refine aw_regKD mixed 3 [1] (by simp; exact rfl) ?_
        | refine aw_sregK 4 [1, 3] ?_
        | refine aw_regK 4 [1, 3] ?_
        | refine aw_sregK 5 [1, 3] ?_
        | refine aw_regK 5 [1, 3] ?_
        | refine aw_sregK 6 [1, 3] ?_
        | refine aw_regK 6 [1, 3] ?_
        | refine aw_sreg ?_
        | refine aw_sregD mixed ?_
        | refine aw_ifT (b := true) rfl rfl ?_
        | refine aw_ifF (b := false) rfl rfl ?_
        | refine aw_ifT rfl (by assumption) ?_
        | refine aw_ifF rfl (by assumption) ?_
        | refine aw_ifT rfl (decide_eq_true (by assumption)) ?_
        | refine aw_ifF rfl (decide_eq_false (by assumption)) ?_
        | refine aw_seq ?_
        | refine aw_block ?_
        | refine aw_skip ?_
        | refine aw_region ?_
        | refine aw_region_draw mixed ?_
        | refine aw_exit ?_
        | refine rq_exit ?_
        | refine blockQ_hit ?_
        | refine blockQ_miss (by decide) ?_
        | (refine ar_guard rfl rfl rfl rfl (fun h => ?_) (fun h => ?_) <;> (fail_if_success (cases h; done)) <;> (try simp at h) <;> (try subst h))
        | (refine aw_both rfl (fun h => ?_) (fun h => ?_) <;> (fail_if_success (cases h; done)) <;> (try simp at h) <;> (try subst h)))
end Go.Eng
