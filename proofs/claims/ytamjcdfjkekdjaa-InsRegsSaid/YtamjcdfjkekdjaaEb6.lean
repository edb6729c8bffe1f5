import Derived.Test.YtamjcdfjkekdjaaEb5
set_option autoImplicit false
set_option linter.unusedVariables false
set_option linter.unusedSimpArgs false
namespace Go.Eng
open Go Go.RowKit
variable {P : Program}

/-! ## Calls -/
def nmR (r : List Name) : Name → Name
  | .ext i => r.getD i (.loc 0)
  | n => n
mutual
def AV.ren (r : List Name) : AV → AV
  | .own n => .own (nmR r n)
  | .ptr n off => .ptr (nmR r n) off
  | .eptr n es i j => .eptr (nmR r n) es i j
  | .tup l => .tup (AV.renL r l)
  | .fn f a b => .fn f (AV.renL r a) (AV.renL r b)
  | .pv p => .pv p
  | .agg cs => .agg cs
  | .tight es xs => .tight es xs
  | .rptr cs => .rptr cs
  | .dead => .dead
def AV.renL (r : List Name) : List AV → List AV
  | [] => []
  | a :: l => AV.ren r a :: AV.renL r l
end
def Slot.ren (r : List Name) : Slot → Slot
  | .box T cells => .box T (AV.renL r cells)
  | .own e es xs => .own e es xs

structure RenOf (r : List Name) (ρ ρc : Rho) : Prop where
  blk : ∀ n, ρc.blk n = ρ.blk (nmR r n)
  ov : ∀ n, ρc.ov n = ρ.ov (nmR r n)
  F : ρc.F = ρ.F
mutual
theorem ARel.renIff {r : List Name} {ρ ρc : Rho} (h : RenOf r ρ ρc) {w : World} : ∀ (a : AV) (v : Value), ARel ρc w a v ↔ ARel ρ w (a.ren r) v
  | .own n, v => by simp only [ARel, AV.ren, h.ov]
  | .ptr n off, v => by simp only [ARel, AV.ren, h.blk]
  | .eptr n es i j, v => by simp only [ARel, AV.ren, h.ov]
  | .tup l, v => by simp only [ARel, AV.ren, ARels.renIff h l]
  | .fn f a b, v => by simp only [ARel, AV.ren, ARels.renIff h a, ARels.renIff h b]
  | .pv p, v => by simp only [ARel, AV.ren, h.F]
  | .agg cs, v => by simp only [ARel, AV.ren, h.F]
  | .tight es xs, v => by simp only [ARel, AV.ren, h.F]
  | .rptr cs, v => by simp only [ARel, AV.ren, h.F]
  | .dead, v => by simp only [ARel, AV.ren]
theorem ARels.renIff {r : List Name} {ρ ρc : Rho} (h : RenOf r ρ ρc) {w : World} : ∀ (l : List AV) (vs : List Value), ARels ρc w l vs ↔ ARels ρ w (AV.renL r l) vs
  | [], vs => by simp only [ARels, AV.renL]
  | a :: l, vs => by simp only [ARels, AV.renL, ARel.renIff h a, ARels.renIff h l]
end

/-- May a name of the other side be told here? 'b': as a slice. -/
def okName (r r2 C : List Name) (b : Bool) : Name → Bool
  | .ext i => decide (i < r2.length) && (C.contains (r2.getD i (.loc 0)) || (!b && decide (i < r.length) && decide (r2.getD i (.loc 0) = r.getD i (.loc 0)) && !C.contains (r.getD i (.loc 0))))
  | .loc _ => false
mutual
def AV.okN (r r2 C : List Name) : AV → Bool
  | .own n => okName r r2 C true n
  | .eptr n _ _ _ => okName r r2 C true n
  | .ptr n _ => okName r r2 C false n
  | .tup l => AV.okL r r2 C l
  | .fn _ a b => AV.okL r r2 C a && AV.okL r r2 C b
  | _ => true
def AV.okL (r r2 C : List Name) : List AV → Bool
  | [] => true
  | a :: l => AV.okN r r2 C a && AV.okL r r2 C l
end
/-- The roles behind a call. -/
noncomputable def Rho.behind (ρ ρc : Rho) (r2 C : List Name) : Rho where
  blk := fun n => if n ∈ C then ρc.blk (.ext (r2.idxOf n)) else ρ.blk n
  ov := fun n => if n ∈ C then ρc.ov (.ext (r2.idxOf n)) else ρ.ov n
  F := ρc.F
theorem idxOf_getD {r2 : List Name} (hnd : r2.Nodup) {i : Nat} (hi : i < r2.length) : r2.idxOf (r2.getD i (.loc 0)) = i := by
  have : r2.getD i (.loc 0) = r2[i] := by simp [List.getD, List.getElem?_eq_getElem hi]
  rw [this]; exact hnd.idxOf_getElem i hi
structure Behind (r r2 C : List Name) (ρ ρc : Rho) : Prop where
  nd : r2.Nodup
  same : ∀ i, i < r.length → ρc.blk (.ext i) = ρ.blk (r.getD i (.loc 0))
theorem behind_own {r r2 C : List Name} {ρ ρc : Rho} (h : Behind r r2 C ρ ρc) {b : Bool} {n : Name} (hn : okName r r2 C b n = true) (hb : b = true) : (ρ.behind ρc r2 C).ov (nmR r2 n) = ρc.ov n := by
  cases n with
  | loc d => simp [okName] at hn
  | ext i =>
    subst hb
    simp only [okName, Bool.and_eq_true, decide_eq_true_eq, Bool.or_eq_true, Bool.not_true, Bool.false_and, Bool.false_eq_true, or_false] at hn
    obtain ⟨h1, h2⟩ := hn
    simp only [Rho.behind, nmR]
    rw [if_pos (by simpa using h2), idxOf_getD h.nd h1]
theorem behind_blk {r r2 C : List Name} {ρ ρc : Rho} (h : Behind r r2 C ρ ρc) {b : Bool} {n : Name} (hn : okName r r2 C b n = true) : (ρ.behind ρc r2 C).blk (nmR r2 n) = ρc.blk n := by
  cases n with
  | loc d => simp [okName] at hn
  | ext i =>
    simp only [okName, Bool.and_eq_true, decide_eq_true_eq, Bool.or_eq_true, Bool.not_eq_true'] at hn
    obtain ⟨h1, h2⟩ := hn
    simp only [Rho.behind, nmR]
    rcases h2 with h2 | ⟨⟨⟨_, h3⟩, h4⟩, h5⟩
    · rw [if_pos (by simpa using h2), idxOf_getD h.nd h1]
    · rw [h4, if_neg (by simpa using h5), h.same i h3]
mutual
theorem ARel.behind {r r2 C : List Name} {ρ ρc : Rho} (h : Behind r r2 C ρ ρc) {w : World} : ∀ (a : AV) (v : Value), a.okN r r2 C = true → ARel ρc w a v → ARel (ρ.behind ρc r2 C) w (a.ren r2) v
  | .own n, v, hn, hv => by
    have hv' : v = ρc.ov n := hv
    show v = (ρ.behind ρc r2 C).ov (nmR r2 n)
    rw [behind_own h hn rfl]; exact hv'
  | .ptr n off, v, hn, hv => by
    have hv' : v = .pointer (some ⟨ρc.blk n, off, none⟩) := hv
    show v = .pointer (some ⟨(ρ.behind ρc r2 C).blk (nmR r2 n), off, none⟩)
    rw [behind_blk h hn]; exact hv'
  | .eptr n es i j, v, hn, hv => by
    obtain ⟨b, h1, h2⟩ := hv
    exact ⟨b, by rw [behind_own h hn rfl]; exact h1, h2⟩
  | .tup l, v, hn, hv => by
    obtain ⟨a, h1, h2⟩ := hv
    exact ⟨a, h1, ARels.behind h l _ hn h2⟩
  | .fn f a b, v, hn, hv => by
    simp only [AV.okN, Bool.and_eq_true] at hn
    obtain ⟨x, y, h1, h2, h3⟩ := hv
    exact ⟨x, y, h1, ARels.behind h a _ hn.1 h2, ARels.behind h b _ hn.2 h3⟩
  | .pv p, v, _, hv => hv
  | .agg cs, v, _, hv => hv
  | .tight es xs, v, _, hv => hv
  | .rptr cs, v, _, hv => hv
  | .dead, v, _, hv => trivial
theorem ARels.behind {r r2 C : List Name} {ρ ρc : Rho} (h : Behind r r2 C ρ ρc) {w : World} : ∀ (l : List AV) (vs : List Value), AV.okL r r2 C l = true → ARels ρc w l vs → ARels (ρ.behind ρc r2 C) w (AV.renL r2 l) vs
  | [], vs, _, hv => hv
  | a :: l, vs, hn, hv => by
    simp only [AV.okL, Bool.and_eq_true] at hn
    obtain ⟨v, vs', h1, h2, h3⟩ := hv
    exact ⟨v, vs', h1, ARel.behind h a v hn.1 h2, ARels.behind h l vs' hn.2 h3⟩
end
def Slot.okN (r r2 C : List Name) (n : Name) : Slot → Bool
  | .box _ cells => okName r r2 C false n && AV.okL r r2 C cells
  | .own _ _ _ => okName r r2 C true n
def renS (r2 : List Name) : SMap → SMap
  | [] => []
  | (n, s) :: l => (nmR r2 n, s.map (Slot.ren r2)) :: renS r2 l
def noneS : List Name → SMap
  | [] => []
  | n :: l => (n, none) :: noneS l
def okY (r r2 C : List Name) : SMap → Bool
  | [] => true
  | (n, some s) :: l => s.okN r r2 C n && okY r r2 C l
  | (_, none) :: _ => false
theorem okY_mem {r r2 C : List Name} : ∀ {Y : SMap}, okY r r2 C Y = true → ∀ p ∈ Y, ∃ s, p.2 = some s ∧ s.okN r r2 C p.1 = true
  | [], _, _, hp => by cases hp
  | (n, some s) :: l, h, p, hp => by
    simp only [okY, Bool.and_eq_true] at h
    cases hp with
    | head => exact ⟨s, rfl, h.1⟩
    | tail _ hp => exact okY_mem h.2 p hp
theorem okN_name {r r2 C : List Name} {n : Name} {s : Slot} (h : s.okN r r2 C n = true) : ∃ b, okName r r2 C b n = true := by
  cases s with
  | box T cells => simp only [Slot.okN, Bool.and_eq_true] at h; exact ⟨_, h.1⟩
  | own e es xs => exact ⟨_, h⟩
theorem okName_lt {r r2 C : List Name} {b : Bool} {n : Name} (h : okName r r2 C b n = true) : ∃ i, n = .ext i ∧ i < r2.length := by
  cases n with
  | loc d => simp [okName] at h
  | ext i => simp only [okName, Bool.and_eq_true, decide_eq_true_eq] at h; exact ⟨i, rfl, h.1⟩
theorem nmR_inj {r2 : List Name} (hnd : r2.Nodup) {i j : Nat} (hi : i < r2.length) (hj : j < r2.length) (h : nmR r2 (.ext i) = nmR r2 (.ext j)) : i = j := by
  simp only [nmR] at h
  rw [← idxOf_getD hnd hi, ← idxOf_getD hnd hj, h]
theorem sget_renS {r r2 C : List Name} (hnd : r2.Nodup) : ∀ {Y : SMap}, okY r r2 C Y = true → ∀ {m : Name} {t : Slot}, sget (renS r2 Y) m = some t →
    ∃ n s, sget Y n = some s ∧ nmR r2 n = m ∧ t = s.ren r2 ∧ s.okN r r2 C n = true
  | [], _, m, t, h => by simp [renS, sget] at h
  | (n, some s) :: l, hy, m, t, h => by
    simp only [okY, Bool.and_eq_true] at hy
    simp only [renS, sget] at h
    split at h
    · rename_i hm
      simp at h
      exact ⟨n, s, by simp [sget], hm.symm, h.symm, hy.1⟩
    · rename_i hm
      obtain ⟨n', s', h1, h2, h3, h4⟩ := sget_renS hnd hy.2 h
      refine ⟨n', s', ?_, h2, h3, h4⟩
      simp only [sget]
      rw [if_neg]
      · exact h1
      · intro e; subst e; exact hm h2.symm
theorem sget_noneS : ∀ {l : List Name} {n : Name}, sget (noneS l) n = none
  | [], _ => rfl
  | m :: l, n => by simp only [noneS, sget]; split; · rfl
                    · exact sget_noneS
theorem noneS_keys : ∀ l : List Name, (noneS l).map (·.1) = l
  | [] => rfl
  | n :: l => by simp [noneS, noneS_keys l]
theorem renS_keys (r2 : List Name) : ∀ Y : SMap, (renS r2 Y).map (·.1) = Y.map (fun p => nmR r2 p.1)
  | [] => rfl
  | (n, s) :: l => by simp [renS, renS_keys r2 l]

end Go.Eng
