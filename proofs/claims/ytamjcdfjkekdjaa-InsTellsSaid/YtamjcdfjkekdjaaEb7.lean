import Derived.Test.YtamjcdfjkekdjaaEb6
set_option autoImplicit false
set_option linter.unusedVariables false
set_option linter.unusedSimpArgs false
namespace Go.Eng
open Go Go.RowKit
variable {P : Program}

theorem slotBlk_lt {Γ : Ctx} {S : SMap} {ρ : Rho} {w : World} (h : SOk Γ S ρ w) {n : Name} {s : Slot} {b : Nat} (hn : sget S n = some s) (hb : slotBlk ρ n s = some b) : b < w.heap.size := by
  have := h.slots n s hn
  cases s with
  | box T cells => obtain ⟨cs, h1, _⟩ := this; simp [slotBlk] at hb; subst hb; exact (Array.getElem?_eq_some_iff.1 h1).1
  | own e es xs => obtain ⟨vs, h1, _⟩ := this; exact h1.lt hb

/-- The other side's roles at the call. -/
def Rho.at (ρ : Rho) (r : List Name) : Rho := ⟨fun n => ρ.blk (nmR r n), fun n => ρ.ov (nmR r n), ρ.F⟩
theorem Rho.at_ren (ρ : Rho) (r : List Name) : RenOf r ρ (ρ.at r) := ⟨fun _ => rfl, fun _ => rfl, rfl⟩
def X0of (ρc : Rho) (X : SMap) : Nat → Prop := fun b => ∃ n s, sget X n = some s ∧ slotBlk ρc n s = some b
def ctxAt (w : World) (ρc : Rho) (X : SMap) : Ctx := ⟨w, ρc.F, X0of ρc X, fun i => ρc.blk (.ext i)⟩
/-- Each variable that is handed on, and where it is. -/
def OkX (r : List Name) (st : AState) (X : SMap) : Prop := ∀ p ∈ X, ∃ i s, p.1 = .ext i ∧ i < r.length ∧ p.2 = some s ∧ sget st.s (r.getD i (.loc 0)) = some (s.ren r)
theorem slotBlk_at (ρ : Rho) (r : List Name) (n : Name) (s : Slot) : slotBlk (ρ.at r) n s = slotBlk ρ (nmR r n) (s.ren r) := by cases s <;> rfl
theorem SlotOK_at {ρ : Rho} {r : List Name} {w : World} {n : Name} {s : Slot} (h : SlotOK ρ w (nmR r n) (s.ren r)) : SlotOK (ρ.at r) w n s := by
  cases s with
  | box T cells => obtain ⟨cs, h1, h2, h3⟩ := h; exact ⟨cs, h1, (ARels.renIff (ρ.at_ren r) cells _).2 h2, h3⟩
  | own e es xs => exact h
theorem getX {r : List Name} {st : AState} {X : SMap} (h : OkX r st X) {n : Name} {s : Slot} (hn : sget X n = some s) : ∃ i, n = .ext i ∧ i < r.length ∧ sget st.s (nmR r n) = some (s.ren r) := by
  rcases sget_mem (l := X) (n := n) with hq | hq
  · rw [hq] at hn; cases hn
  · obtain ⟨i, s', h1, h2, h3, h4⟩ := h _ hq
    simp only at h1 h3
    rw [hn] at h3; cases h3
    subst h1
    exact ⟨i, rfl, h2, h4⟩
theorem SOk.at {Γ : Ctx} {st : AState} {ρ : Rho} {w : World} (h : SOk Γ st.s ρ w) {r : List Name} (hnd : r.Nodup) {X : SMap} (hX : OkX r st X) : SOk (ctxAt w (ρ.at r) X) X (ρ.at r) w where
  slots n s hn := by obtain ⟨i, _, _, h1⟩ := getX hX hn; exact SlotOK_at (h.slots _ _ h1)
  disj n m s s' b h1 h2 h3 h4 := by
    obtain ⟨i, rfl, hi, k1⟩ := getX hX h1
    obtain ⟨j, rfl, hj, k2⟩ := getX hX h2
    rw [slotBlk_at] at h3 h4
    have := h.disj _ _ _ _ b k1 k2 h3 h4
    rw [nmR_inj hnd hi hj this]
  sep n s b h1 h2 := by
    obtain ⟨i, _, _, k1⟩ := getX hX h1
    rw [slotBlk_at] at h2
    exact h.sep _ _ b k1 h2
  flt := h.flt
  os := rfl
  tape := rfl
  output := rfl
  size := Nat.le_refl _
  below _ _ _ := rfl
  fmono _ hb := hb
  fnew _ hb := .inl hb
  home n s b h1 h2 := .inl ⟨n, s, h1, h2⟩
  xblk _ := rfl

/-- What the call's result, and the variables that were handed on, are behind it. -/
structure CallOk (r r2 C : List Name) (Y : SMap) : Prop where
  nd : r.Nodup
  nd2 : r2.Nodup
  y : okY r r2 C Y = true
  loc : ∀ n ∈ C, ∃ d, n = .loc d
  cov : ∀ n ∈ C, n ∈ Y.map (fun p => nmR r2 p.1)
theorem SOk.behind {Γ : Ctx} {st : AState} {ρ ρc : Rho} {w w' : World} (h : SOk Γ st.s ρ w) {r r2 C : List Name} {X Y : SMap} (hX : OkX r st X) (hc : CallOk r r2 C Y) (hfree : ∀ n ∈ C, st.free n)
    (hrX : ∀ i, i < r.length → ∃ s, sget X (.ext i) = some s) (h' : SOk (ctxAt w (ρ.at r) X) Y ρc w') : SOk Γ (renS r2 Y ++ (noneS r ++ st.s)) (ρ.behind ρc r2 C) w' := by
  have hB : Behind r r2 C ρ ρc := ⟨hc.nd2, fun i _ => by rw [h'.xblk i]; rfl⟩
  -- blocks of what was handed on
  have hx0 : ∀ b, X0of (ρ.at r) X b → ∃ m s, m ∈ r ∧ sget st.s m = some s ∧ slotBlk ρ m s = some b := by
    rintro b ⟨n, s, h1, h2⟩
    obtain ⟨i, rfl, hi, k1⟩ := getX hX h1
    rw [slotBlk_at] at h2
    refine ⟨_, _, ?_, k1, h2⟩
    simp only [nmR, List.getD, List.getElem?_eq_getElem hi, Option.getD_some]
    exact List.getElem_mem hi
  have hget : ∀ m t, sget (renS r2 Y ++ (noneS r ++ st.s)) m = some t →
      (∃ n s, sget Y n = some s ∧ nmR r2 n = m ∧ t = s.ren r2 ∧ s.okN r r2 C n = true) ∨ (m ∉ r ∧ m ∉ C ∧ sget st.s m = some t) := by
    intro m t hm
    rw [sget_append] at hm
    split at hm
    · exact .inl (sget_renS hc.nd2 hc.y hm)
    · rename_i hk
      rw [sget_append] at hm
      split at hm
      · rw [sget_noneS] at hm; cases hm
      · rename_i hk2
        rw [noneS_keys] at hk2
        rw [renS_keys] at hk
        exact .inr ⟨hk2, fun hC => hk (hc.cov m hC), hm⟩
  have hother : ∀ m t b, m ∉ r → sget st.s m = some t → slotBlk ρ m t = some b → ¬X0of (ρ.at r) X b := by
    intro m t b hm h1 h2 hx
    obtain ⟨m', s, h3, h4, h5⟩ := hx0 b hx
    exact hm (by rw [h.disj m m' t s b h1 h4 h2 h5]; exact h3)
  have hheap : ∀ b, b < w.heap.size → ¬X0of (ρ.at r) X b → w'.heap[b]? = w.heap[b]? := h'.below
  have hFx : ∀ b, ρ.F b → ¬X0of (ρ.at r) X b := by
    intro b hb hx
    obtain ⟨m', s, h3, h4, h5⟩ := hx0 b hx
    exact h.sep m' s b h4 h5 hb
  have hk : Keep ρ.F w (ρ.behind ρc r2 C).F w' := ⟨fun b hb => h'.fmono b hb, fun b hb => hheap b (h.flt b hb) (hFx b hb)⟩
  have hblkC : ∀ m t, m ∉ C → slotBlk (ρ.behind ρc r2 C) m t = slotBlk ρ m t := by
    intro m t hm
    cases t <;> simp [slotBlk, Rho.behind, hm]
  have hblkY : ∀ n s, s.okN r r2 C n = true → slotBlk (ρ.behind ρc r2 C) (nmR r2 n) (s.ren r2) = slotBlk ρc n s := by
    intro n s hs
    cases s with
    | box T cells => simp only [Slot.okN, Bool.and_eq_true] at hs; simp only [slotBlk, Slot.ren]; rw [behind_blk hB hs.1]
    | own e es xs => simp only [slotBlk, Slot.ren]; rw [behind_own hB hs rfl]
  have hnot : ∀ m t b, m ∉ r → sget st.s m = some t → slotBlk ρ m t = some b → ∀ n s, sget Y n = some s → slotBlk ρc n s ≠ some b := by
    intro m t b hm h1 h2 n s h3 h4
    rcases h'.home n s b h3 h4 with hx | hx
    · exact hother m t b hm h1 h2 hx
    · have := slotBlk_lt h h1 h2
      have hx' : w.heap.size ≤ b := hx
      omega
  have hX0 : ∀ b, X0of (ρ.at r) X b → Γ.X0 b ∨ Γ.w0.heap.size ≤ b := by
    intro b hx
    obtain ⟨m', s, h3, h4, h5⟩ := hx0 b hx
    exact h.home m' s b h4 h5
  have hw : w.heap.size ≤ w'.heap.size := h'.size
  refine { slots := ?_, disj := ?_, sep := ?_, flt := h'.flt, os := ?_, tape := ?_, output := ?_, size := ?_, below := ?_, fmono := ?_, fnew := ?_, home := ?_, xblk := ?_ }
  · intro m t hm
    rcases hget m t hm with ⟨n, s, h1, rfl, rfl, h4⟩ | ⟨h1, h2, h3⟩
    · have := h'.slots n s h1
      cases s with
      | box T cells =>
        simp only [Slot.okN, Bool.and_eq_true] at h4
        obtain ⟨cs, k1, k2, k3⟩ := this
        exact ⟨cs, by rw [behind_blk hB h4.1]; exact k1, ARels.behind hB cells _ h4.2 k2, k3⟩
      | own e es xs =>
        obtain ⟨vs, k1, k2⟩ := this
        exact ⟨vs, by rw [behind_own hB h4 rfl]; exact k1, k2⟩
    · have := h.slots m t h3
      have hsame : ∀ x, t.has x = true → Same ρ (ρ.behind ρc r2 C) x := by
        intro x hx
        have : x ∉ C := fun hC => by have := (hfree x hC).2 m t h3; rw [this] at hx; cases hx
        exact ⟨by simp [Rho.behind, this], by simp [Rho.behind, this]⟩
      cases t with
      | box T cells =>
        obtain ⟨cs, k1, k2, k3⟩ := this
        refine ⟨cs, ?_, ARels.keep hk _ _ hsame k2, k3⟩
        have hb : slotBlk ρ m (.box T cells) = some (ρ.blk m) := rfl
        have e : (ρ.behind ρc r2 C).blk m = ρ.blk m := by simp [Rho.behind, h2]
        rw [e, hheap _ (slotBlk_lt h h3 hb) (hother m _ _ h1 h3 hb)]; exact k1
      | own e es xs =>
        obtain ⟨vs, k1, k2⟩ := this
        have ee : (ρ.behind ρc r2 C).ov m = ρ.ov m := by simp [Rho.behind, h2]
        refine ⟨vs, ?_, PElems.keep hk _ _ k2⟩
        rw [ee]
        refine k1.keepB (fun b hb => ?_)
        have hb' : slotBlk ρ m (.own e es xs) = some b := hb
        exact hheap _ (slotBlk_lt h h3 hb') (hother m _ _ h1 h3 hb')
  · intro m m' t t' b h1 h2 h3 h4
    rcases hget m t h1 with ⟨n, s, k1, rfl, rfl, k4⟩ | ⟨k1, k2, k3⟩
    · rw [hblkY n s k4] at h3
      rcases hget m' t' h2 with ⟨n', s', l1, rfl, rfl, l4⟩ | ⟨l1, l2, l3⟩
      · rw [hblkY n' s' l4] at h4
        rw [h'.disj n n' s s' b k1 l1 h3 h4]
      · rw [hblkC _ _ l2] at h4
        exact absurd h3 (hnot m' t' b l1 l3 h4 n s k1)
    · rw [hblkC _ _ k2] at h3
      rcases hget m' t' h2 with ⟨n', s', l1, rfl, rfl, l4⟩ | ⟨l1, l2, l3⟩
      · rw [hblkY n' s' l4] at h4
        exact absurd h4 (hnot m t b k1 k3 h3 n' s' l1)
      · rw [hblkC _ _ l2] at h4
        exact h.disj m m' t t' b k3 l3 h3 h4
  · intro m t b h1 h2 h3
    have h3' : ρc.F b := h3
    rcases hget m t h1 with ⟨n, s, k1, rfl, rfl, k4⟩ | ⟨k1, k2, k3⟩
    · rw [hblkY n s k4] at h2
      exact h'.sep n s b k1 h2 h3'
    · rw [hblkC _ _ k2] at h2
      rcases h'.fnew b h3' with hx | hx | hx
      · exact h.sep m t b k3 h2 hx
      · exact hother m t b k1 k3 h2 hx
      · have := slotBlk_lt h k3 h2
        have hx' : w.heap.size ≤ b := hx
        omega
  · exact h'.os.trans h.os
  · exact h'.tape.trans h.tape
  · exact h'.output.trans h.output
  · exact Nat.le_trans h.size hw
  · intro b hb1 hb2
    rw [hheap b (Nat.lt_of_lt_of_le hb1 h.size) (fun hx => by
      rcases hX0 b hx with h1 | h1
      · exact hb2 h1
      · omega)]
    exact h.below b hb1 hb2
  · intro b hb; exact h'.fmono b (h.fmono b hb)
  · intro b hb
    rcases h'.fnew b hb with hx | hx | hx
    · exact h.fnew b hx
    · exact .inr (hX0 b hx)
    · exact .inr (.inr (Nat.le_trans h.size hx))
  · intro m t b h1 h2
    rcases hget m t h1 with ⟨n, s, k1, rfl, rfl, k4⟩ | ⟨k1, k2, k3⟩
    · rw [hblkY n s k4] at h2
      rcases h'.home n s b k1 h2 with hx | hx
      · exact hX0 b hx
      · exact .inr (Nat.le_trans h.size hx)
    · rw [hblkC _ _ k2] at h2; exact h.home m t b k3 h2
  · intro i
    have : Name.ext i ∉ C := fun hC => by obtain ⟨d, hd⟩ := hc.loc _ hC; cases hd
    simp only [Rho.behind]
    rw [if_neg this]; exact h.xblk i

end Go.Eng
