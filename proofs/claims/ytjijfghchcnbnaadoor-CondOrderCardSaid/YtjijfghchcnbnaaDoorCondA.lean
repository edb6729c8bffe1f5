import Derived.Test.YtjijfghchcnbnaaDoorTabB
import Derived.Test.YtjijfghchcnbnaaDoorEngC
import Derived.Test.YtjijfghchcnbnaaDoorEngE
set_option linter.unusedSimpArgs false
set_option linter.unusedVariables false
set_option linter.constructorNameAsVariable false
set_option autoImplicit false
namespace Go.Eng
open Go Go.RowKit Go.Proofs
theorem mixed : Tryd.prog.follows .mixedOrders = true := by kernel_rfl
abbrev W64 (n : Int) : Prop := (Lit.int .i64 n).wf = true
theorem w64 {n : Int} (h : W64 n) : -9223372036854775808 ≤ n ∧ n ≤ 9223372036854775807 := by
  simp [W64, Lit.wf, IntKind.min, IntKind.max, IntKind.signed, IntKind.bits] at h; omega
theorem getD_at {α : Type} {l : List α} {d : α} {i : Nat} (h : i < l.length) : l.getD i d = l[i] := by simp [List.getD, h]
def ints (l : List Int) : List (List PV) := l.map fun n => [C .i64 n]
theorem ints_len {l : List Int} : (ints l).length = l.length := by simp [ints]
theorem ints_getE {l : List Int} {i : Nat} (h : i < (ints l).length) : (ints l)[i] = [C .i64 (l[i]'(by simpa [ints] using h))] := by simp [ints]
def rgL (l : List (List Int)) : List (List PV) := l.map fun x => [.sl 1 (ints x)]
theorem rgL_len {l : List (List Int)} : (rgL l).length = l.length := by simp [rgL]
theorem rgL_getE {l : List (List Int)} {i : Nat} (h : i < (rgL l).length) : (rgL l)[i] = [.sl 1 (ints (l[i]'(by simpa [rgL] using h)))] := by simp [rgL]
/-- An outcome: registers, memory. -/
structure Ou where
  rg : List (List Int)
  mem : List Int
def ouC (o : Ou) : List PV := [.sl 1 (rgL o.rg), .sl 1 (ints o.mem)]
def ousL (l : List Ou) : List (List PV) := l.map ouC
theorem ousL_len {l : List Ou} : (ousL l).length = l.length := by simp [ousL]
theorem ousL_getE {l : List Ou} {i : Nat} (h : i < (ousL l).length) : (ousL l)[i] = ouC (l[i]'(by simpa [ousL] using h)) := by simp [ousL]
/-- An atom. -/
structure At where
  th : Int
  pl : Int
  v : Int
  neg : Bool
def atC (a : At) : List PV := [C .i64 a.th, C .i64 a.pl, C .i64 a.v, .v (.bool a.neg)]
def atsL (l : List At) : List (List PV) := l.map atC
theorem atsL_len {l : List At} : (atsL l).length = l.length := by simp [atsL]
theorem atsL_getE {l : List At} {i : Nat} (h : i < (atsL l).length) : (atsL l)[i] = atC (l[i]'(by simpa [atsL] using h)) := by simp [atsL]
def cosL (l : List (List At)) : List (List PV) := l.map fun x => [.sl 4 (atsL x)]
theorem cosL_len {l : List (List At)} : (cosL l).length = l.length := by simp [cosL]
theorem cosL_getE {l : List (List At)} {i : Nat} (h : i < (cosL l).length) : (cosL l)[i] = [.sl 4 (atsL (l[i]'(by simpa [cosL] using h)))] := by simp [cosL]
structure Co where
  all : Bool
  any : List (List At)
def coC (c : Co) : List PV := [.v (.bool c.all), .sl 1 (cosL c.any)]
/-! ## What holds -/
def atF (l : List Int) (i : Int) : Int := if i < 0 ∨ (l.length : Int) ≤ i then 0 else l.getD i.toNat 0
def valF (a : At) (o : Ou) : Int := if a.th = -1 then atF o.mem a.pl else if 0 ≤ a.th ∧ a.th < (o.rg.length : Int) then atF (o.rg.getD a.th.toNat []) a.pl else 0
def holdsF (a : At) (o : Ou) : Bool := (decide (valF a o = a.v)) != a.neg
def evalF (c : Co) (o : Ou) : Bool := c.any.any fun l => l.all fun a => holdsF a o
def verF (c : Co) (l : List Ou) : Bool := (l.any fun o => evalF c o != c.all) != c.all
/-- Where the first one is of which it is so. -/
def idxF {α : Type} (p : α → Bool) (l : List α) : Int := match l.findIdx? p with
  | some i => (i : Int)
  | none => -1
theorem idxF_any {α : Type} (p : α → Bool) (l : List α) : decide (0 ≤ idxF p l) = l.any p := by
  unfold idxF
  cases h : l.findIdx? p with
  | none =>
    rw [List.findIdx?_eq_none_iff] at h
    have : l.any p = false := by rw [List.any_eq_false]; intro x hx; simp [h x hx]
    rw [this]; exact decide_eq_false (by show ¬(0 : Int) ≤ -1; omega)
  | some i =>
    rw [List.findIdx?_eq_some_iff_getElem] at h
    obtain ⟨h1, h2, _⟩ := h
    have : l.any p = true := List.any_eq_true.2 ⟨_, List.getElem_mem h1, h2⟩
    rw [this]; exact decide_eq_true (by show (0 : Int) ≤ (i : Int); omega)
theorem idxF_hit {α : Type} {p : α → Bool} {l : List α} {i : Nat} (hi : i < l.length) (h0 : ∀ j, (h : j < i) → p (l[j]'(by omega)) = false) (h1 : p l[i] = true) : idxF p l = (i : Int) := by
  have : l.findIdx? p = some i := by rw [List.findIdx?_eq_some_iff_getElem]; exact ⟨hi, h1, fun j hj => by simp [h0 j hj]⟩
  unfold idxF; rw [this]
theorem idxF_none {α : Type} {p : α → Bool} {l : List α} (h0 : ∀ j, (h : j < l.length) → p l[j] = false) : idxF p l = -1 := by
  have : l.findIdx? p = none := by
    rw [List.findIdx?_eq_none_iff]
    intro x hx
    obtain ⟨j, hj, rfl⟩ := List.mem_iff_getElem.1 hx
    exact h0 j hj
  unfold idxF; rw [this]
end Go.Eng
set_option linter.unusedSimpArgs false
set_option linter.unusedVariables false
set_option linter.constructorNameAsVariable false
set_option autoImplicit false
namespace Go.Eng
open Go Go.RowKit Go.Proofs
set_option maxHeartbeats 16000000 in
theorem c_at [Trk] {l : List Int} {i : Int} : SC Tryd.prog 25 [.pv (.sl 1 (ints l)), I .i64 i] (I .i64 (atF l i)) := by
  unfold atF
  by_cases h0 : i < 0
  · rw [if_pos (.inl h0)]
    refine scx_of Tryd.func25 rfl rfl rfl (Nat.le_of_ble_eq_true rfl) ?_
    repeat' (first
      | exact aw_ret (ret_vals (by simp; exact rfl) (by simp [*]; fail_if_success (show _)))
      | exact aw_ret (ret_vals (by simp; exact rfl) (by simp [*]; omega))
      | refine ar_end rfl ?_
      | refine ar_endD rfl (by kernel_rfl) ?_
      | refine ar_fin rfl ?_
      | refine ar_finD rfl (by kernel_rfl) ?_
      | refine ar_go3 _ rfl (by simp [ints_len, h0]; exact ⟨rfl, rfl, rfl⟩) rfl ?_
      | refine aw_sregK 0 [0, 1] ?_
      | refine aw_regK 0 [0, 1] ?_
      | refine aw_sregK 1 [0, 1] ?_
      | refine aw_regK 1 [0, 1] ?_
      | refine aw_sregK 2 [] ?_
      | refine aw_regK 2 [] ?_
      | refine aw_sreg ?_
      | refine aw_sregD mixed ?_
      | refine aw_ifT (b := true) rfl rfl ?_
      | refine aw_ifF (b := false) rfl rfl ?_
      | refine aw_ifT rfl (by assumption) ?_
      | refine aw_ifF rfl (by assumption) ?_
      | refine aw_ifT rfl (decide_eq_true (by assumption)) ?_
      | refine aw_ifF rfl (decide_eq_false (by assumption)) ?_
      | refine aw_seq ?_
      | refine aw_block ?_
      | refine aw_skip ?_
      | refine aw_region ?_
      | refine aw_region_draw mixed ?_
      | refine aw_exit ?_
      | refine rq_exit ?_
      | refine blockQ_hit ?_
      | refine blockQ_miss (by decide) ?_
      | (refine ar_guard rfl rfl rfl rfl (fun h => ?_) (fun h => ?_) <;> (fail_if_success (cases h; done)) <;> (try simp at h) <;> (try subst h))
      | (refine aw_both rfl (fun h => ?_) (fun h => ?_) <;> (fail_if_success (cases h; done)) <;> (try simp at h) <;> (try subst h)))
  by_cases h1 : (l.length : Int) ≤ i
  · rw [if_pos (.inr h1)]
    refine scx_of Tryd.func25 rfl rfl rfl (Nat.le_of_ble_eq_true rfl) ?_
    repeat' (first
      | exact aw_ret (ret_vals (by simp; exact rfl) (by simp [*]; fail_if_success (show _)))
      | exact aw_ret (ret_vals (by simp; exact rfl) (by simp [*]; omega))
      | refine ar_end rfl ?_
      | refine ar_endD rfl (by kernel_rfl) ?_
      | refine ar_fin rfl ?_
      | refine ar_finD rfl (by kernel_rfl) ?_
      | refine ar_go3 _ rfl (by simp [ints_len, h0, h1]; exact ⟨rfl, rfl, rfl⟩) rfl ?_
      | refine aw_sregK 0 [0, 1] ?_
      | refine aw_regK 0 [0, 1] ?_
      | refine aw_sregK 1 [0, 1] ?_
      | refine aw_regK 1 [0, 1] ?_
      | refine aw_sregK 2 [] ?_
      | refine aw_regK 2 [] ?_
      | refine aw_sreg ?_
      | refine aw_sregD mixed ?_
      | refine aw_ifT (b := true) rfl rfl ?_
      | refine aw_ifF (b := false) rfl rfl ?_
      | refine aw_ifT rfl (by assumption) ?_
      | refine aw_ifF rfl (by assumption) ?_
      | refine aw_ifT rfl (decide_eq_true (by assumption)) ?_
      | refine aw_ifF rfl (decide_eq_false (by assumption)) ?_
      | refine aw_seq ?_
      | refine aw_block ?_
      | refine aw_skip ?_
      | refine aw_region ?_
      | refine aw_region_draw mixed ?_
      | refine aw_exit ?_
      | refine rq_exit ?_
      | refine blockQ_hit ?_
      | refine blockQ_miss (by decide) ?_
      | (refine ar_guard rfl rfl rfl rfl (fun h => ?_) (fun h => ?_) <;> (fail_if_success (cases h; done)) <;> (try simp at h) <;> (try subst h))
      | (refine aw_both rfl (fun h => ?_) (fun h => ?_) <;> (fail_if_success (cases h; done)) <;> (try simp at h) <;> (try subst h)))
  rw [if_neg (by omega)]
  obtain ⟨k, rfl⟩ : ∃ k : Nat, i = (k : Int) := ⟨i.toNat, by omega⟩
  have hk : k < l.length := by omega
  rw [Int.toNat_natCast, getD_at hk]
  refine scx_of Tryd.func25 rfl rfl rfl (Nat.le_of_ble_eq_true rfl) ?_
  repeat' (first
    | exact aw_ret (ret_vals (by simp; exact rfl) (by simp [*]; fail_if_success (show _)))
    | exact aw_ret (ret_vals (by simp; exact rfl) (by simp [*]; omega))
    | refine ar_end rfl ?_
    | refine ar_endD rfl (by kernel_rfl) ?_
    | refine ar_fin rfl ?_
    | refine ar_finD rfl (by kernel_rfl) ?_
    | refine ar_go3 _ rfl (by simp [ints_len, ints_getE, h0, h1, hk]; exact ⟨rfl, rfl, rfl⟩) rfl ?_
    | refine aw_sregK 0 [0, 1] ?_
    | refine aw_regK 0 [0, 1] ?_
    | refine aw_sregK 1 [0, 1] ?_
    | refine aw_regK 1 [0, 1] ?_
    | refine aw_sregK 3 [0, 1] ?_
    | refine aw_regK 3 [0, 1] ?_
    | refine aw_sreg ?_
    | refine aw_sregD mixed ?_
    | refine aw_ifT (b := true) rfl rfl ?_
    | refine aw_ifF (b := false) rfl rfl ?_
    | refine aw_ifT rfl (by assumption) ?_
    | refine aw_ifF rfl (by assumption) ?_
    | refine aw_ifT rfl (decide_eq_true (by assumption)) ?_
    | refine aw_ifF rfl (decide_eq_false (by assumption)) ?_
    | refine aw_seq ?_
    | refine aw_block ?_
    | refine aw_skip ?_
    | refine aw_region ?_
    | refine aw_region_draw mixed ?_
    | refine aw_exit ?_
    | refine rq_exit ?_
    | refine blockQ_hit ?_
    | refine blockQ_miss (by decide) ?_
    | (refine ar_guard rfl rfl rfl rfl (fun h => ?_) (fun h => ?_) <;> (fail_if_success (cases h; done)) <;> (try simp at h) <;> (try subst h))
    | (refine aw_both rfl (fun h => ?_) (fun h => ?_) <;> (fail_if_success (cases h; done)) <;> (try simp at h) <;> (try subst h)))
set_option maxHeartbeats 16000000 in
theorem c_Holds [Trk] {a : At} {o : Ou} : SC Tryd.prog 12 [.agg (atC a), .agg (ouC o)] (B (holdsF a o)) := by
  unfold holdsF valF
  obtain ⟨th, pl, v, neg⟩ := a
  obtain ⟨rg, mem⟩ := o
  dsimp only
  by_cases h0 : th = -1
  · subst h0
    rw [if_pos rfl]
    have hA := c_at (l := mem) (i := pl)
    generalize atF mem pl = n at *
    refine scx_of Tryd.func12 rfl rfl rfl (Nat.le_of_ble_eq_true rfl) ?_
    repeat' (first
      | exact aw_ret (ret_vals (by simp; exact rfl) (by simp [*]; fail_if_success (show _)))
      | exact aw_ret (ret_vals (by simp; exact rfl) (by simp [*]; omega))
      | refine ar_end rfl ?_
      | refine ar_endD rfl (by kernel_rfl) ?_
      | refine ar_fin rfl ?_
      | refine ar_finD rfl (by kernel_rfl) ?_
      | refine ar_callV Tryd.call25 hA rfl rfl rfl rfl rfl (by simp; done) (by rfl) (by simp; done) ?_
      | refine ar_callV_if Tryd.call25 hA rfl rfl rfl rfl rfl rfl (by simp; done) rfl (by rfl) (by simp; done) ?_
      | refine ar_go3 _ rfl (by simp [ints_len, ints_getE, rgL_len, rgL_getE, atsL_len, atsL_getE, cosL_len, cosL_getE, ousL_len, ousL_getE, atC, ouC, coC]; exact ⟨rfl, rfl, rfl⟩) rfl ?_
      | refine aw_sregK 0 [0, 1] ?_
      | refine aw_regK 0 [0, 1] ?_
      | refine aw_sregK 1 [2, 3] ?_
      | refine aw_regK 1 [2, 3] ?_
      | refine aw_sregK 2 [2, 3, 5] ?_
      | refine aw_regK 2 [2, 3, 5] ?_
      | refine aw_sregK 3 [2, 3] ?_
      | refine aw_regK 3 [2, 3] ?_
      | refine aw_sregK 6 [2, 5] ?_
      | refine aw_regK 6 [2, 5] ?_
      | refine aw_sreg ?_
      | refine aw_sregD mixed ?_
      | refine aw_ifT (b := true) rfl rfl ?_
      | refine aw_ifF (b := false) rfl rfl ?_
      | refine aw_ifT rfl (by assumption) ?_
      | refine aw_ifF rfl (by assumption) ?_
      | refine aw_ifT rfl (decide_eq_true (by assumption)) ?_
      | refine aw_ifF rfl (decide_eq_false (by assumption)) ?_
      | refine aw_seq ?_
      | refine aw_block ?_
      | refine aw_skip ?_
      | refine aw_region ?_
      | refine aw_region_draw mixed ?_
      | refine aw_exit ?_
      | refine rq_exit ?_
      | refine blockQ_hit ?_
      | refine blockQ_miss (by decide) ?_
      | (refine ar_guard rfl rfl rfl rfl (fun h => ?_) (fun h => ?_) <;> (fail_if_success (cases h; done)) <;> (try simp at h) <;> (try subst h))
      | (refine aw_both rfl (fun h => ?_) (fun h => ?_) <;> (fail_if_success (cases h; done)) <;> (try simp at h) <;> (try subst h)))
  rw [if_neg h0]
  by_cases h1 : 0 ≤ th ∧ th < (rg.length : Int)
  · rw [if_pos h1]
    obtain ⟨h1, h2⟩ := h1
    obtain ⟨k, rfl⟩ : ∃ k : Nat, th = (k : Int) := ⟨th.toNat, by omega⟩
    have hk : k < rg.length := by omega
    rw [Int.toNat_natCast, getD_at hk]
    have hA := c_at (l := rg[k]) (i := pl)
    generalize hx : rg[k] = r at *
    generalize atF r pl = n at *
    refine scx_of Tryd.func12 rfl rfl rfl (Nat.le_of_ble_eq_true rfl) ?_
    repeat' (first
      | exact aw_ret (ret_vals (by simp; exact rfl) (by simp [*]; fail_if_success (show _)))
      | exact aw_ret (ret_vals (by simp; exact rfl) (by simp [*]; omega))
      | refine ar_end rfl ?_
      | refine ar_endD rfl (by kernel_rfl) ?_
      | refine ar_fin rfl ?_
      | refine ar_finD rfl (by kernel_rfl) ?_
      | refine ar_callV Tryd.call25 hA rfl rfl rfl rfl rfl (by simp; done) (by rfl) (by simp; done) ?_
      | refine ar_callV_if Tryd.call25 hA rfl rfl rfl rfl rfl rfl (by simp; done) rfl (by rfl) (by simp; done) ?_
      | refine ar_go3 _ rfl (by simp [ints_len, ints_getE, rgL_len, rgL_getE, atsL_len, atsL_getE, cosL_len, cosL_getE, ousL_len, ousL_getE, atC, ouC, coC, h0, h1, h2, hk, hx]; exact ⟨rfl, rfl, rfl⟩) rfl ?_
      | refine aw_sregK 0 [0, 1] ?_
      | refine aw_regK 0 [0, 1] ?_
      | refine aw_sregK 1 [2, 3] ?_
      | refine aw_regK 1 [2, 3] ?_
      | refine aw_sregK 2 [2, 3, 5] ?_
      | refine aw_regK 2 [2, 3, 5] ?_
      | refine aw_sregK 4 [2, 3, 5] ?_
      | refine aw_regK 4 [2, 3, 5] ?_
      | refine aw_sregKD mixed 5 [2, 3] (by simp; exact rfl) ?_
      | refine aw_regKD mixed 5 [2, 3] (by simp; exact rfl) ?_
      | refine aw_sregK 6 [2, 5] ?_
      | refine aw_regK 6 [2, 5] ?_
      | refine aw_sreg ?_
      | refine aw_sregD mixed ?_
      | refine aw_ifT (b := true) rfl rfl ?_
      | refine aw_ifF (b := false) rfl rfl ?_
      | refine aw_ifT rfl (by assumption) ?_
      | refine aw_ifF rfl (by assumption) ?_
      | refine aw_ifT rfl (decide_eq_true (by assumption)) ?_
      | refine aw_ifF rfl (decide_eq_false (by assumption)) ?_
      | refine aw_seq ?_
      | refine aw_block ?_
      | refine aw_skip ?_
      | refine aw_region ?_
      | refine aw_region_draw mixed ?_
      | refine aw_exit ?_
      | refine rq_exit ?_
      | refine blockQ_hit ?_
      | refine blockQ_miss (by decide) ?_
      | (refine ar_guard rfl rfl rfl rfl (fun h => ?_) (fun h => ?_) <;> (fail_if_success (cases h; done)) <;> (try simp at h) <;> (try subst h))
      | (refine aw_both rfl (fun h => ?_) (fun h => ?_) <;> (fail_if_success (cases h; done)) <;> (try simp at h) <;> (try subst h)))
  · rw [if_neg h1]
    by_cases h2 : 0 ≤ th
    · have h3 : ¬th < (rg.length : Int) := fun h => h1 ⟨h2, h⟩
      refine scx_of Tryd.func12 rfl rfl rfl (Nat.le_of_ble_eq_true rfl) ?_
      repeat' (first
        | exact aw_ret (ret_vals (by simp; exact rfl) (by simp [*]; fail_if_success (show _)))
        | exact aw_ret (ret_vals (by simp; exact rfl) (by simp [*]; omega))
        | refine ar_end rfl ?_
        | refine ar_endD rfl (by kernel_rfl) ?_
        | refine ar_fin rfl ?_
        | refine ar_finD rfl (by kernel_rfl) ?_
        | refine ar_go3 _ rfl (by simp [ints_len, ints_getE, rgL_len, rgL_getE, atsL_len, atsL_getE, cosL_len, cosL_getE, ousL_len, ousL_getE, atC, ouC, coC, h0, h2, h3]; exact ⟨rfl, rfl, rfl⟩) rfl ?_
        | refine aw_sregK 0 [0, 1] ?_
        | refine aw_regK 0 [0, 1] ?_
        | refine aw_sregK 1 [2, 3] ?_
        | refine aw_regK 1 [2, 3] ?_
        | refine aw_sregK 2 [2, 3, 5] ?_
        | refine aw_regK 2 [2, 3, 5] ?_
        | refine aw_sregK 4 [2, 3, 5] ?_
        | refine aw_regK 4 [2, 3, 5] ?_
        | refine aw_sregKD mixed 5 [2, 3] (by simp; exact rfl) ?_
        | refine aw_regKD mixed 5 [2, 3] (by simp; exact rfl) ?_
        | refine aw_sregK 6 [2, 5] ?_
        | refine aw_regK 6 [2, 5] ?_
        | refine aw_sreg ?_
        | refine aw_sregD mixed ?_
        | refine aw_ifT (b := true) rfl rfl ?_
        | refine aw_ifF (b := false) rfl rfl ?_
        | refine aw_ifT rfl (by assumption) ?_
        | refine aw_ifF rfl (by assumption) ?_
        | refine aw_ifT rfl (decide_eq_true (by assumption)) ?_
        | refine aw_ifF rfl (decide_eq_false (by assumption)) ?_
        | refine aw_seq ?_
        | refine aw_block ?_
        | refine aw_skip ?_
        | refine aw_region ?_
        | refine aw_region_draw mixed ?_
        | refine aw_exit ?_
        | refine rq_exit ?_
        | refine blockQ_hit ?_
        | refine blockQ_miss (by decide) ?_
        | (refine ar_guard rfl rfl rfl rfl (fun h => ?_) (fun h => ?_) <;> (fail_if_success (cases h; done)) <;> (try simp at h) <;> (try subst h))
        | (refine aw_both rfl (fun h => ?_) (fun h => ?_) <;> (fail_if_success (cases h; done)) <;> (try simp at h) <;> (try subst h)))
    · refine scx_of Tryd.func12 rfl rfl rfl (Nat.le_of_ble_eq_true rfl) ?_
      repeat' (first
        | exact aw_ret (ret_vals (by simp; exact rfl) (by simp [*]; fail_if_success (show _)))
        | exact aw_ret (ret_vals (by simp; exact rfl) (by simp [*]; omega))
        | refine ar_end rfl ?_
        | refine ar_endD rfl (by kernel_rfl) ?_
        | refine ar_fin rfl ?_
        | refine ar_finD rfl (by kernel_rfl) ?_
        | refine ar_go3 _ rfl (by simp [ints_len, ints_getE, rgL_len, rgL_getE, atsL_len, atsL_getE, cosL_len, cosL_getE, ousL_len, ousL_getE, atC, ouC, coC, h0, h2]; exact ⟨rfl, rfl, rfl⟩) rfl ?_
        | refine aw_sregK 0 [0, 1] ?_
        | refine aw_regK 0 [0, 1] ?_
        | refine aw_sregK 1 [2, 3] ?_
        | refine aw_regK 1 [2, 3] ?_
        | refine aw_sregK 2 [2, 3, 5] ?_
        | refine aw_regK 2 [2, 3, 5] ?_
        | refine aw_sregK 4 [2, 3, 5] ?_
        | refine aw_regK 4 [2, 3, 5] ?_
        | refine aw_sregKD mixed 5 [2, 3] (by simp; exact rfl) ?_
        | refine aw_regKD mixed 5 [2, 3] (by simp; exact rfl) ?_
        | refine aw_sregK 6 [2, 5] ?_
        | refine aw_regK 6 [2, 5] ?_
        | refine aw_sreg ?_
        | refine aw_sregD mixed ?_
        | refine aw_ifT (b := true) rfl rfl ?_
        | refine aw_ifF (b := false) rfl rfl ?_
        | refine aw_ifT rfl (by assumption) ?_
        | refine aw_ifF rfl (by assumption) ?_
        | refine aw_ifT rfl (decide_eq_true (by assumption)) ?_
        | refine aw_ifF rfl (decide_eq_false (by assumption)) ?_
        | refine aw_seq ?_
        | refine aw_block ?_
        | refine aw_skip ?_
        | refine aw_region ?_
        | refine aw_region_draw mixed ?_
        | refine aw_exit ?_
        | refine rq_exit ?_
        | refine blockQ_hit ?_
        | refine blockQ_miss (by decide) ?_
        | (refine ar_guard rfl rfl rfl rfl (fun h => ?_) (fun h => ?_) <;> (fail_if_success (cases h; done)) <;> (try simp at h) <;> (try subst h))
        | (refine aw_both rfl (fun h => ?_) (fun h => ?_) <;> (fail_if_success (cases h; done)) <;> (try simp at h) <;> (try subst h)))
set_option maxHeartbeats 16000000 in
theorem c_value [Trk] {a : At} {o : Ou} : SC Tryd.prog 49 [.agg (atC a), .agg (ouC o)] (I .i64 (valF a o)) := by
  unfold valF
  obtain ⟨th, pl, v, neg⟩ := a
  obtain ⟨rg, mem⟩ := o
  dsimp only
  have fin : ∀ (l : List Int) (i : Int), atF l i = if i < 0 then 0 else if (l.length : Int) ≤ i then 0 else l.getD i.toNat 0 := fun l i => by
    unfold atF
    by_cases h : i < 0
    · rw [if_pos (.inl h), if_pos h]
    · rw [if_neg h]
      by_cases h1 : (l.length : Int) ≤ i
      · rw [if_pos (.inr h1), if_pos h1]
      · rw [if_neg (by omega), if_neg h1]
  by_cases h0 : th = -1
  · subst h0
    rw [if_pos rfl, fin]
    by_cases h1 : pl < 0
    · rw [if_pos h1]
      refine scx_of Tryd.func49 rfl rfl rfl (Nat.le_of_ble_eq_true rfl) ?_
      repeat' (first
        | exact aw_ret (ret_vals (by simp; exact rfl) (by simp [*]; fail_if_success (show _)))
        | exact aw_ret (ret_vals (by simp; exact rfl) (by simp [*]; omega))
        | refine ar_end rfl ?_
        | refine ar_endD rfl (by kernel_rfl) ?_
        | refine ar_fin rfl ?_
        | refine ar_finD rfl (by kernel_rfl) ?_
        | refine ar_go3 _ rfl (by simp [ints_len, ints_getE, rgL_len, rgL_getE, atsL_len, atsL_getE, cosL_len, cosL_getE, ousL_len, ousL_getE, atC, ouC, coC, h1]; exact ⟨rfl, rfl, rfl⟩) rfl ?_
        | refine aw_sregK 0 [0, 1] ?_
        | refine aw_regK 0 [0, 1] ?_
        | refine aw_sregK 1 [2, 3] ?_
        | refine aw_regK 1 [2, 3] ?_
        | refine aw_sregK 2 [2, 3, 5] ?_
        | refine aw_regK 2 [2, 3, 5] ?_
        | refine aw_sregK 6 [2, 5] ?_
        | refine aw_regK 6 [2, 5] ?_
        | refine aw_sregK 7 [] ?_
        | refine aw_regK 7 [] ?_
        | refine aw_sreg ?_
        | refine aw_sregD mixed ?_
        | refine aw_ifT (b := true) rfl rfl ?_
        | refine aw_ifF (b := false) rfl rfl ?_
        | refine aw_ifT rfl (by assumption) ?_
        | refine aw_ifF rfl (by assumption) ?_
        | refine aw_ifT rfl (decide_eq_true (by assumption)) ?_
        | refine aw_ifF rfl (decide_eq_false (by assumption)) ?_
        | refine aw_seq ?_
        | refine aw_block ?_
        | refine aw_skip ?_
        | refine aw_region ?_
        | refine aw_region_draw mixed ?_
        | refine aw_exit ?_
        | refine rq_exit ?_
        | refine blockQ_hit ?_
        | refine blockQ_miss (by decide) ?_
        | (refine ar_guard rfl rfl rfl rfl (fun h => ?_) (fun h => ?_) <;> (fail_if_success (cases h; done)) <;> (try simp at h) <;> (try subst h))
        | (refine aw_both rfl (fun h => ?_) (fun h => ?_) <;> (fail_if_success (cases h; done)) <;> (try simp at h) <;> (try subst h)))
    rw [if_neg h1]
    by_cases h2 : (mem.length : Int) ≤ pl
    · rw [if_pos h2]
      refine scx_of Tryd.func49 rfl rfl rfl (Nat.le_of_ble_eq_true rfl) ?_
      repeat' (first
        | exact aw_ret (ret_vals (by simp; exact rfl) (by simp [*]; fail_if_success (show _)))
        | exact aw_ret (ret_vals (by simp; exact rfl) (by simp [*]; omega))
        | refine ar_end rfl ?_
        | refine ar_endD rfl (by kernel_rfl) ?_
        | refine ar_fin rfl ?_
        | refine ar_finD rfl (by kernel_rfl) ?_
        | refine ar_go3 _ rfl (by simp [ints_len, ints_getE, rgL_len, rgL_getE, atsL_len, atsL_getE, cosL_len, cosL_getE, ousL_len, ousL_getE, atC, ouC, coC, h1, h2]; exact ⟨rfl, rfl, rfl⟩) rfl ?_
        | refine aw_sregK 0 [0, 1] ?_
        | refine aw_regK 0 [0, 1] ?_
        | refine aw_sregK 1 [2, 3] ?_
        | refine aw_regK 1 [2, 3] ?_
        | refine aw_sregK 2 [2, 3, 5] ?_
        | refine aw_regK 2 [2, 3, 5] ?_
        | refine aw_sregK 6 [2, 5] ?_
        | refine aw_regK 6 [2, 5] ?_
        | refine aw_sregK 7 [] ?_
        | refine aw_regK 7 [] ?_
        | refine aw_sreg ?_
        | refine aw_sregD mixed ?_
        | refine aw_ifT (b := true) rfl rfl ?_
        | refine aw_ifF (b := false) rfl rfl ?_
        | refine aw_ifT rfl (by assumption) ?_
        | refine aw_ifF rfl (by assumption) ?_
        | refine aw_ifT rfl (decide_eq_true (by assumption)) ?_
        | refine aw_ifF rfl (decide_eq_false (by assumption)) ?_
        | refine aw_seq ?_
        | refine aw_block ?_
        | refine aw_skip ?_
        | refine aw_region ?_
        | refine aw_region_draw mixed ?_
        | refine aw_exit ?_
        | refine rq_exit ?_
        | refine blockQ_hit ?_
        | refine blockQ_miss (by decide) ?_
        | (refine ar_guard rfl rfl rfl rfl (fun h => ?_) (fun h => ?_) <;> (fail_if_success (cases h; done)) <;> (try simp at h) <;> (try subst h))
        | (refine aw_both rfl (fun h => ?_) (fun h => ?_) <;> (fail_if_success (cases h; done)) <;> (try simp at h) <;> (try subst h)))
    rw [if_neg h2]
    obtain ⟨k, rfl⟩ : ∃ k : Nat, pl = (k : Int) := ⟨pl.toNat, by omega⟩
    have hk : k < mem.length := by omega
    rw [Int.toNat_natCast, getD_at hk]
    refine scx_of Tryd.func49 rfl rfl rfl (Nat.le_of_ble_eq_true rfl) ?_
    repeat' (first
      | exact aw_ret (ret_vals (by simp; exact rfl) (by simp [*]; fail_if_success (show _)))
      | exact aw_ret (ret_vals (by simp; exact rfl) (by simp [*]; omega))
      | refine ar_end rfl ?_
      | refine ar_endD rfl (by kernel_rfl) ?_
      | refine ar_fin rfl ?_
      | refine ar_finD rfl (by kernel_rfl) ?_
      | refine ar_go3 _ rfl (by simp [ints_len, ints_getE, rgL_len, rgL_getE, atsL_len, atsL_getE, cosL_len, cosL_getE, ousL_len, ousL_getE, atC, ouC, coC, h1, h2, hk]; exact ⟨rfl, rfl, rfl⟩) rfl ?_
      | refine aw_sregK 0 [0, 1] ?_
      | refine aw_regK 0 [0, 1] ?_
      | refine aw_sregK 1 [2, 3] ?_
      | refine aw_regK 1 [2, 3] ?_
      | refine aw_sregK 2 [2, 3, 5] ?_
      | refine aw_regK 2 [2, 3, 5] ?_
      | refine aw_sregK 6 [2, 5] ?_
      | refine aw_regK 6 [2, 5] ?_
      | refine aw_sregK 8 [2, 5] ?_
      | refine aw_regK 8 [2, 5] ?_
      | refine aw_sreg ?_
      | refine aw_sregD mixed ?_
      | refine aw_ifT (b := true) rfl rfl ?_
      | refine aw_ifF (b := false) rfl rfl ?_
      | refine aw_ifT rfl (by assumption) ?_
      | refine aw_ifF rfl (by assumption) ?_
      | refine aw_ifT rfl (decide_eq_true (by assumption)) ?_
      | refine aw_ifF rfl (decide_eq_false (by assumption)) ?_
      | refine aw_seq ?_
      | refine aw_block ?_
      | refine aw_skip ?_
      | refine aw_region ?_
      | refine aw_region_draw mixed ?_
      | refine aw_exit ?_
      | refine rq_exit ?_
      | refine blockQ_hit ?_
      | refine blockQ_miss (by decide) ?_
      | (refine ar_guard rfl rfl rfl rfl (fun h => ?_) (fun h => ?_) <;> (fail_if_success (cases h; done)) <;> (try simp at h) <;> (try subst h))
      | (refine aw_both rfl (fun h => ?_) (fun h => ?_) <;> (fail_if_success (cases h; done)) <;> (try simp at h) <;> (try subst h)))
  rw [if_neg h0]
  by_cases h3 : th < 0
  · rw [if_neg (by omega)]
    refine scx_of Tryd.func49 rfl rfl rfl (Nat.le_of_ble_eq_true rfl) ?_
    repeat' (first
      | exact aw_ret (ret_vals (by simp; exact rfl) (by simp [*]; fail_if_success (show _)))
      | exact aw_ret (ret_vals (by simp; exact rfl) (by simp [*]; omega))
      | refine ar_end rfl ?_
      | refine ar_endD rfl (by kernel_rfl) ?_
      | refine ar_fin rfl ?_
      | refine ar_finD rfl (by kernel_rfl) ?_
      | refine ar_go3 _ rfl (by simp [ints_len, ints_getE, rgL_len, rgL_getE, atsL_len, atsL_getE, cosL_len, cosL_getE, ousL_len, ousL_getE, atC, ouC, coC, h0, h3]; exact ⟨rfl, rfl, rfl⟩) rfl ?_
      | refine aw_sregK 0 [0, 1] ?_
      | refine aw_regK 0 [0, 1] ?_
      | refine aw_sregK 1 [2, 3] ?_
      | refine aw_regK 1 [2, 3] ?_
      | refine aw_sregK 2 [2, 3, 5] ?_
      | refine aw_regK 2 [2, 3, 5] ?_
      | refine aw_sregK 3 [2, 3] ?_
      | refine aw_regK 3 [2, 3] ?_
      | refine aw_sregK 4 [] ?_
      | refine aw_regK 4 [] ?_
      | refine aw_sreg ?_
      | refine aw_sregD mixed ?_
      | refine aw_ifT (b := true) rfl rfl ?_
      | refine aw_ifF (b := false) rfl rfl ?_
      | refine aw_ifT rfl (by assumption) ?_
      | refine aw_ifF rfl (by assumption) ?_
      | refine aw_ifT rfl (decide_eq_true (by assumption)) ?_
      | refine aw_ifF rfl (decide_eq_false (by assumption)) ?_
      | refine aw_seq ?_
      | refine aw_block ?_
      | refine aw_skip ?_
      | refine aw_region ?_
      | refine aw_region_draw mixed ?_
      | refine aw_exit ?_
      | refine rq_exit ?_
      | refine blockQ_hit ?_
      | refine blockQ_miss (by decide) ?_
      | (refine ar_guard rfl rfl rfl rfl (fun h => ?_) (fun h => ?_) <;> (fail_if_success (cases h; done)) <;> (try simp at h) <;> (try subst h))
      | (refine aw_both rfl (fun h => ?_) (fun h => ?_) <;> (fail_if_success (cases h; done)) <;> (try simp at h) <;> (try subst h)))
  by_cases h4 : (rg.length : Int) ≤ th
  · rw [if_neg (by omega)]
    refine scx_of Tryd.func49 rfl rfl rfl (Nat.le_of_ble_eq_true rfl) ?_
    repeat' (first
      | exact aw_ret (ret_vals (by simp; exact rfl) (by simp [*]; fail_if_success (show _)))
      | exact aw_ret (ret_vals (by simp; exact rfl) (by simp [*]; omega))
      | refine ar_end rfl ?_
      | refine ar_endD rfl (by kernel_rfl) ?_
      | refine ar_fin rfl ?_
      | refine ar_finD rfl (by kernel_rfl) ?_
      | refine ar_go3 _ rfl (by simp [ints_len, ints_getE, rgL_len, rgL_getE, atsL_len, atsL_getE, cosL_len, cosL_getE, ousL_len, ousL_getE, atC, ouC, coC, h0, h3, h4]; exact ⟨rfl, rfl, rfl⟩) rfl ?_
      | refine aw_sregK 0 [0, 1] ?_
      | refine aw_regK 0 [0, 1] ?_
      | refine aw_sregK 1 [2, 3] ?_
      | refine aw_regK 1 [2, 3] ?_
      | refine aw_sregK 2 [2, 3, 5] ?_
      | refine aw_regK 2 [2, 3, 5] ?_
      | refine aw_sregK 3 [2, 3] ?_
      | refine aw_regK 3 [2, 3] ?_
      | refine aw_sregK 4 [] ?_
      | refine aw_regK 4 [] ?_
      | refine aw_sreg ?_
      | refine aw_sregD mixed ?_
      | refine aw_ifT (b := true) rfl rfl ?_
      | refine aw_ifF (b := false) rfl rfl ?_
      | refine aw_ifT rfl (by assumption) ?_
      | refine aw_ifF rfl (by assumption) ?_
      | refine aw_ifT rfl (decide_eq_true (by assumption)) ?_
      | refine aw_ifF rfl (decide_eq_false (by assumption)) ?_
      | refine aw_seq ?_
      | refine aw_block ?_
      | refine aw_skip ?_
      | refine aw_region ?_
      | refine aw_region_draw mixed ?_
      | refine aw_exit ?_
      | refine rq_exit ?_
      | refine blockQ_hit ?_
      | refine blockQ_miss (by decide) ?_
      | (refine ar_guard rfl rfl rfl rfl (fun h => ?_) (fun h => ?_) <;> (fail_if_success (cases h; done)) <;> (try simp at h) <;> (try subst h))
      | (refine aw_both rfl (fun h => ?_) (fun h => ?_) <;> (fail_if_success (cases h; done)) <;> (try simp at h) <;> (try subst h)))
  rw [if_pos (by omega), fin]
  obtain ⟨q, rfl⟩ : ∃ q : Nat, th = (q : Int) := ⟨th.toNat, by omega⟩
  have hq : q < rg.length := by omega
  rw [Int.toNat_natCast, getD_at hq]
  generalize hx : rg[q] = r at *
  by_cases h1 : pl < 0
  · rw [if_pos h1]
    refine scx_of Tryd.func49 rfl rfl rfl (Nat.le_of_ble_eq_true rfl) ?_
    repeat' (first
      | exact aw_ret (ret_vals (by simp; exact rfl) (by simp [*]; fail_if_success (show _)))
      | exact aw_ret (ret_vals (by simp; exact rfl) (by simp [*]; omega))
      | refine ar_end rfl ?_
      | refine ar_endD rfl (by kernel_rfl) ?_
      | refine ar_fin rfl ?_
      | refine ar_finD rfl (by kernel_rfl) ?_
      | refine ar_go3 _ rfl (by simp [ints_len, ints_getE, rgL_len, rgL_getE, atsL_len, atsL_getE, cosL_len, cosL_getE, ousL_len, ousL_getE, atC, ouC, coC, h0, h3, h4, hq, hx, h1]; exact ⟨rfl, rfl, rfl⟩) rfl ?_
      | refine aw_sregK 0 [0, 1] ?_
      | refine aw_regK 0 [0, 1] ?_
      | refine aw_sregK 1 [2, 3] ?_
      | refine aw_regK 1 [2, 3] ?_
      | refine aw_sregK 2 [2, 3, 5] ?_
      | refine aw_regK 2 [2, 3, 5] ?_
      | refine aw_sregK 3 [2, 3] ?_
      | refine aw_regK 3 [2, 3] ?_
      | refine aw_sregK 5 [2, 3] ?_
      | refine aw_regK 5 [2, 3] ?_
      | refine aw_sregK 6 [2, 5] ?_
      | refine aw_regK 6 [2, 5] ?_
      | refine aw_sregK 7 [] ?_
      | refine aw_regK 7 [] ?_
      | refine aw_sreg ?_
      | refine aw_sregD mixed ?_
      | refine aw_ifT (b := true) rfl rfl ?_
      | refine aw_ifF (b := false) rfl rfl ?_
      | refine aw_ifT rfl (by assumption) ?_
      | refine aw_ifF rfl (by assumption) ?_
      | refine aw_ifT rfl (decide_eq_true (by assumption)) ?_
      | refine aw_ifF rfl (decide_eq_false (by assumption)) ?_
      | refine aw_seq ?_
      | refine aw_block ?_
      | refine aw_skip ?_
      | refine aw_region ?_
      | refine aw_region_draw mixed ?_
      | refine aw_exit ?_
      | refine rq_exit ?_
      | refine blockQ_hit ?_
      | refine blockQ_miss (by decide) ?_
      | (refine ar_guard rfl rfl rfl rfl (fun h => ?_) (fun h => ?_) <;> (fail_if_success (cases h; done)) <;> (try simp at h) <;> (try subst h))
      | (refine aw_both rfl (fun h => ?_) (fun h => ?_) <;> (fail_if_success (cases h; done)) <;> (try simp at h) <;> (try subst h)))
  rw [if_neg h1]
  by_cases h2 : (r.length : Int) ≤ pl
  · rw [if_pos h2]
    refine scx_of Tryd.func49 rfl rfl rfl (Nat.le_of_ble_eq_true rfl) ?_
    repeat' (first
      | exact aw_ret (ret_vals (by simp; exact rfl) (by simp [*]; fail_if_success (show _)))
      | exact aw_ret (ret_vals (by simp; exact rfl) (by simp [*]; omega))
      | refine ar_end rfl ?_
      | refine ar_endD rfl (by kernel_rfl) ?_
      | refine ar_fin rfl ?_
      | refine ar_finD rfl (by kernel_rfl) ?_
      | refine ar_go3 _ rfl (by simp [ints_len, ints_getE, rgL_len, rgL_getE, atsL_len, atsL_getE, cosL_len, cosL_getE, ousL_len, ousL_getE, atC, ouC, coC, h0, h3, h4, hq, hx, h1, h2]; exact ⟨rfl, rfl, rfl⟩) rfl ?_
      | refine aw_sregK 0 [0, 1] ?_
      | refine aw_regK 0 [0, 1] ?_
      | refine aw_sregK 1 [2, 3] ?_
      | refine aw_regK 1 [2, 3] ?_
      | refine aw_sregK 2 [2, 3, 5] ?_
      | refine aw_regK 2 [2, 3, 5] ?_
      | refine aw_sregK 3 [2, 3] ?_
      | refine aw_regK 3 [2, 3] ?_
      | refine aw_sregK 5 [2, 3] ?_
      | refine aw_regK 5 [2, 3] ?_
      | refine aw_sregK 6 [2, 5] ?_
      | refine aw_regK 6 [2, 5] ?_
      | refine aw_sregK 7 [] ?_
      | refine aw_regK 7 [] ?_
      | refine aw_sreg ?_
      | refine aw_sregD mixed ?_
      | refine aw_ifT (b := true) rfl rfl ?_
      | refine aw_ifF (b := false) rfl rfl ?_
      | refine aw_ifT rfl (by assumption) ?_
      | refine aw_ifF rfl (by assumption) ?_
      | refine aw_ifT rfl (decide_eq_true (by assumption)) ?_
      | refine aw_ifF rfl (decide_eq_false (by assumption)) ?_
      | refine aw_seq ?_
      | refine aw_block ?_
      | refine aw_skip ?_
      | refine aw_region ?_
      | refine aw_region_draw mixed ?_
      | refine aw_exit ?_
      | refine rq_exit ?_
      | refine blockQ_hit ?_
      | refine blockQ_miss (by decide) ?_
      | (refine ar_guard rfl rfl rfl rfl (fun h => ?_) (fun h => ?_) <;> (fail_if_success (cases h; done)) <;> (try simp at h) <;> (try subst h))
      | (refine aw_both rfl (fun h => ?_) (fun h => ?_) <;> (fail_if_success (cases h; done)) <;> (try simp at h) <;> (try subst h)))
  rw [if_neg h2]
  obtain ⟨k, rfl⟩ : ∃ k : Nat, pl = (k : Int) := ⟨pl.toNat, by omega⟩
  have hk : k < r.length := by omega
  rw [Int.toNat_natCast, getD_at hk]
  refine scx_of Tryd.func49 rfl rfl rfl (Nat.le_of_ble_eq_true rfl) ?_
  repeat' (first
    | exact aw_ret (ret_vals (by simp; exact rfl) (by simp [*]; fail_if_success (show _)))
    | exact aw_ret (ret_vals (by simp; exact rfl) (by simp [*]; omega))
    | refine ar_end rfl ?_
    | refine ar_endD rfl (by kernel_rfl) ?_
    | refine ar_fin rfl ?_
    | refine ar_finD rfl (by kernel_rfl) ?_
    | refine ar_go3 _ rfl (by simp [ints_len, ints_getE, rgL_len, rgL_getE, atsL_len, atsL_getE, cosL_len, cosL_getE, ousL_len, ousL_getE, atC, ouC, coC, h0, h3, h4, hq, hx, h1, h2, hk]; exact ⟨rfl, rfl, rfl⟩) rfl ?_
    | refine aw_sregK 0 [0, 1] ?_
    | refine aw_regK 0 [0, 1] ?_
    | refine aw_sregK 1 [2, 3] ?_
    | refine aw_regK 1 [2, 3] ?_
    | refine aw_sregK 2 [2, 3, 5] ?_
    | refine aw_regK 2 [2, 3, 5] ?_
    | refine aw_sregK 3 [2, 3] ?_
    | refine aw_regK 3 [2, 3] ?_
    | refine aw_sregK 5 [2, 3] ?_
    | refine aw_regK 5 [2, 3] ?_
    | refine aw_sregK 6 [2, 5] ?_
    | refine aw_regK 6 [2, 5] ?_
    | refine aw_sregK 8 [2, 5] ?_
    | refine aw_regK 8 [2, 5] ?_
    | refine aw_sreg ?_
    | refine aw_sregD mixed ?_
    | refine aw_ifT (b := true) rfl rfl ?_
    | refine aw_ifF (b := false) rfl rfl ?_
    | refine aw_ifT rfl (by assumption) ?_
    | refine aw_ifF rfl (by assumption) ?_
    | refine aw_ifT rfl (decide_eq_true (by assumption)) ?_
    | refine aw_ifF rfl (decide_eq_false (by assumption)) ?_
    | refine aw_seq ?_
    | refine aw_block ?_
    | refine aw_skip ?_
    | refine aw_region ?_
    | refine aw_region_draw mixed ?_
    | refine aw_exit ?_
    | refine rq_exit ?_
    | refine blockQ_hit ?_
    | refine blockQ_miss (by decide) ?_
    | (refine ar_guard rfl rfl rfl rfl (fun h => ?_) (fun h => ?_) <;> (fail_if_success (cases h; done)) <;> (try simp at h) <;> (try subst h))
    | (refine aw_both rfl (fun h => ?_) (fun h => ?_) <;> (fail_if_success (cases h; done)) <;> (try simp at h) <;> (try subst h)))
set_option maxHeartbeats 16000000 in
theorem c_rHolds [Trk] {a : At} {o : Ou} : SC Tryd.prog 30 [.agg (atC a), .agg (ouC o)] (B (holdsF a o)) := by
  unfold holdsF
  have hV := c_value (a := a) (o := o)
  generalize valF a o = n at *
  obtain ⟨th, pl, v, neg⟩ := a
  dsimp only at hV ⊢
  cases neg
  · refine scx_of Tryd.func30 rfl rfl rfl (Nat.le_of_ble_eq_true rfl) ?_
    repeat' (first
      | exact aw_ret (ret_vals (by simp; exact rfl) (by simp [*]; fail_if_success (show _)))
      | exact aw_ret (ret_vals (by simp; exact rfl) (by simp [*]; omega))
      | refine ar_end rfl ?_
      | refine ar_endD rfl (by kernel_rfl) ?_
      | refine ar_fin rfl ?_
      | refine ar_finD rfl (by kernel_rfl) ?_
      | refine ar_callV Tryd.call49 hV rfl rfl rfl rfl rfl (by simp; done) (by rfl) (by simp; done) ?_
      | refine ar_callV_if Tryd.call49 hV rfl rfl rfl rfl rfl rfl (by simp; done) rfl (by rfl) (by simp; done) ?_
      | refine ar_go3 _ rfl (by simp [ints_len, ints_getE, rgL_len, rgL_getE, atsL_len, atsL_getE, cosL_len, cosL_getE, ousL_len, ousL_getE, atC, ouC, coC]; exact ⟨rfl, rfl, rfl⟩) rfl ?_
      | refine aw_sregK 0 [0, 1] ?_
      | refine aw_regK 0 [0, 1] ?_
      | refine aw_sregK 1 [2, 3] ?_
      | refine aw_regK 1 [2, 3] ?_
      | refine aw_sregKD mixed 2 [2, 3] (by simp; exact rfl) ?_
      | refine aw_regKD mixed 2 [2, 3] (by simp; exact rfl) ?_
      | refine aw_sregKD mixed 3 [2, 3] (by simp; exact rfl) ?_
      | refine aw_regKD mixed 3 [2, 3] (by simp; exact rfl) ?_
      | refine aw_sreg ?_
      | refine aw_sregD mixed ?_
      | refine aw_ifT (b := true) rfl rfl ?_
      | refine aw_ifF (b := false) rfl rfl ?_
      | refine aw_ifT rfl (by assumption) ?_
      | refine aw_ifF rfl (by assumption) ?_
      | refine aw_ifT rfl (decide_eq_true (by assumption)) ?_
      | refine aw_ifF rfl (decide_eq_false (by assumption)) ?_
      | refine aw_seq ?_
      | refine aw_block ?_
      | refine aw_skip ?_
      | refine aw_region ?_
      | refine aw_region_draw mixed ?_
      | refine aw_exit ?_
      | refine rq_exit ?_
      | refine blockQ_hit ?_
      | refine blockQ_miss (by decide) ?_
      | (refine ar_guard rfl rfl rfl rfl (fun h => ?_) (fun h => ?_) <;> (fail_if_success (cases h; done)) <;> (try simp at h) <;> (try subst h))
      | (refine aw_both rfl (fun h => ?_) (fun h => ?_) <;> (fail_if_success (cases h; done)) <;> (try simp at h) <;> (try subst h)))
  · refine scx_of Tryd.func30 rfl rfl rfl (Nat.le_of_ble_eq_true rfl) ?_
    repeat' (first
      | exact aw_ret (ret_vals (by simp; exact rfl) (by simp [*]; fail_if_success (show _)))
      | exact aw_ret (ret_vals (by simp; exact rfl) (by simp [*]; omega))
      | refine ar_end rfl ?_
      | refine ar_endD rfl (by kernel_rfl) ?_
      | refine ar_fin rfl ?_
      | refine ar_finD rfl (by kernel_rfl) ?_
      | refine ar_callV Tryd.call49 hV rfl rfl rfl rfl rfl (by simp; done) (by rfl) (by simp; done) ?_
      | refine ar_callV_if Tryd.call49 hV rfl rfl rfl rfl rfl rfl (by simp; done) rfl (by rfl) (by simp; done) ?_
      | refine ar_go3 _ rfl (by simp [ints_len, ints_getE, rgL_len, rgL_getE, atsL_len, atsL_getE, cosL_len, cosL_getE, ousL_len, ousL_getE, atC, ouC, coC]; exact ⟨rfl, rfl, rfl⟩) rfl ?_
      | refine aw_sregK 0 [0, 1] ?_
      | refine aw_regK 0 [0, 1] ?_
      | refine aw_sregK 1 [2, 3] ?_
      | refine aw_regK 1 [2, 3] ?_
      | refine aw_sregKD mixed 2 [2, 3] (by simp; exact rfl) ?_
      | refine aw_regKD mixed 2 [2, 3] (by simp; exact rfl) ?_
      | refine aw_sregKD mixed 3 [2, 3] (by simp; exact rfl) ?_
      | refine aw_regKD mixed 3 [2, 3] (by simp; exact rfl) ?_
      | refine aw_sreg ?_
      | refine aw_sregD mixed ?_
      | refine aw_ifT (b := true) rfl rfl ?_
      | refine aw_ifF (b := false) rfl rfl ?_
      | refine aw_ifT rfl (by assumption) ?_
      | refine aw_ifF rfl (by assumption) ?_
      | refine aw_ifT rfl (decide_eq_true (by assumption)) ?_
      | refine aw_ifF rfl (decide_eq_false (by assumption)) ?_
      | refine aw_seq ?_
      | refine aw_block ?_
      | refine aw_skip ?_
      | refine aw_region ?_
      | refine aw_region_draw mixed ?_
      | refine aw_exit ?_
      | refine rq_exit ?_
      | refine blockQ_hit ?_
      | refine blockQ_miss (by decide) ?_
      | (refine ar_guard rfl rfl rfl rfl (fun h => ?_) (fun h => ?_) <;> (fail_if_success (cases h; done)) <;> (try simp at h) <;> (try subst h))
      | (refine aw_both rfl (fun h => ?_) (fun h => ?_) <;> (fail_if_success (cases h; done)) <;> (try simp at h) <;> (try subst h)))
end Go.Eng
