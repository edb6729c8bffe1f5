import Derived.Test.YtjijfghchcnbnaaDoorSetE
import Derived.Test.YtjijfghchcnbnaaDoorCondSetsWalk
set_option autoImplicit false
set_option linter.unusedVariables false
set_option linter.unusedSimpArgs false
namespace Go.Eng
open Go Go.RowKit Go.Proofs Go.Sort Go.Shelf Go.Lib
theorem prel_up [Trk] {F : Nat → Prop} {w : World} (hF : ∀ b, F b → b < w.heap.size) {ps : List PV} {vs : List Value} (h : PVs F w ps vs) : PVs (fun b => b < w.heap.size) w ps vs := PVs.keep ⟨hF, fun _ _ => rfl⟩ _ _ h
theorem els_of [Trk] {F : Nat → Prop} {w : World} (hF : ∀ b, F b → b < w.heap.size) : ∀ {l : List Ou} {vs : List Value}, PElems F w 2 (ousL l) vs → (∀ o ∈ l, OuOk o) → ∃ els : List (EL F w), els.map (·.o) = l ∧ flat2 els = vs
  | [], vs, h, _ => ⟨[], rfl, by simpa [ousL, PElems, flat2] using h.symm⟩
  | o :: l, vs, h, ho => by
    obtain ⟨v1, v2, rfl, h1, h2, h3⟩ := h
    obtain ⟨els, h4, h5⟩ := els_of hF (l := l) h3 (fun o h => ho o (by simp [h]))
    have h2' := h2
    obtain ⟨u1, us, rfl, ⟨a1, c1, w1, rfl, g1, g2, g3, g4⟩, u2, us2, rfl, ⟨a2, c2, w2, rfl, g5, g6, g7, g8⟩, rfl⟩ := h2'
    exact ⟨⟨⟨a1, _, c1, a2, _, c2⟩, o, prel_up hF h2, h2, ho o (by simp)⟩ :: els, by rw [List.map_cons, h4], by unfold flat2 at *; rw [List.flatMap_cons, h5]⟩
theorem elems_of [Trk] {F F' : Nat → Prop} {w w' : World} (k : Keep F w F' w') : ∀ (r : List (EL F w)), PElems F' w' 2 (ousL (r.map (·.o))) (flat2 r)
  | [] => rfl
  | x :: r => ⟨[x.x.v1, x.x.v2], flat2 r, rfl, rfl, PVs.keep k _ _ x.relF, elems_of k r⟩
theorem sl_none {w : World} {ad : Addr} {u : Value} (h : w.cell? ad = some u) : ad = ⟨ad.block, ad.off, none⟩ := by
  obtain ⟨b, off, sp⟩ := ad
  unfold World.cell? at h
  split at h
  · cases sp with
    | none => rfl
    | some q => simp at h
  · cases h
theorem fresh_rowO [Trk] {Γ : Ctx} {ρ : Rho} {w w' : World} {v' : Value} {xs : List (List PV)} {vs : List Value} (hT : ¬Trk.on) (h : SOk Γ [] ρ w) (hown : w'.ownsRow w.heap.size 30 2 v' xs.length vs) (hel : PElems ρ.F w' 2 xs vs) (hb : RowKit.Below w.heap.size w w') :
    SOk Γ [(.ext 0, some (.own 30 2 xs))] (ρ.slice (.ext 0) v') w' := by
  exact h.slot (ρ' := ρ.slice (.ext 0) v') (w' := w') (.ext 0) (some (.own 30 2 xs)) rfl (fun _ => rfl) (fun m hm => ρ.slice_same _ _ hm) (.inr fun m s hm => by cases hm) none
    ⟨hb.os, hb.tape, hb.output, hb.size, fun k hk _ => hb.block k hk⟩ (fun h => absurd h hT) (fun b hb' => by cases hb') (fun s hs => by
      cases hs
      refine ⟨vs, .inl ?_, hel⟩
      simp only [Rho.slice, if_true]
      obtain ⟨h1, h2⟩ := hown
      refine ⟨h1, ?_⟩
      rcases h2 with h2 | ⟨g, cap, cur, q0, q1, q2⟩
      · exact .inl h2
      · exact .inr ⟨g, cap, cur, q0, Nat.zero_le _, q2⟩) (fun s b hs hsb => by
      cases hs
      left
      simp only [slotBlk, Rho.slice, if_true] at hsb
      exact (hown.lt b (ownBlk_some hsb)).1)
theorem c_SetO [Trk] (hT : ¬Trk.on) {l : List Ou} (hl : OusOk l) : SCO Tryd.prog 22 [.pv (.sl 2 (ousL l))] 30 2 (ousL (setO l)) := by
  intro Γ ρ w vals hw hX hargs
  obtain ⟨v, vs', e1, h1, rfl⟩ := hargs
  have hvals : vals = #[v] := by rw [← Array.toList_inj]; simpa using e1
  subst hvals
  obtain ⟨a, cap, vs, rfl, k1, k2, k3, k4⟩ := h1
  rw [ousL_len] at k1 ⊢
  obtain ⟨els, m1, m2⟩ := els_of hX.flt k3 hl.2
  have ml : els.length = l.length := by rw [← m1, List.length_map]
  have hI : vOV w.heap.size w (.slice a els.length cap) (els.map (·.x)) := by
    by_cases h0 : els = []
    · subst h0; exact .inl ⟨rfl, a, cap, rfl⟩
    · have hv0 : vs ≠ [] := by
        rw [← m2]
        intro e
        have := flat2_len els
        rw [e] at this
        have hp : 0 < els.length := List.length_pos_iff.2 h0
        simp at this; omega
      rcases k4 with k4 | ⟨ad, rfl, kF, k5⟩
      · exact absurd k4 hv0
      · have hz : vs[0]? = some vs[0]! := by
          have : 0 < vs.length := List.length_pos_iff.2 hv0
          simp [this]
        have hc0 := k5 0 _ hz
        have had0 : ad.add 0 = ad := by unfold Addr.add; simp
        rw [had0] at hc0
        have had := sl_none hc0
        refine .inr ⟨ad.block, ad.off, cap, by rw [← had, List.length_map], hX.flt _ kF, fun j hj => ?_⟩
        rw [List.length_map] at hj
        have ge : ∀ c, c < 2 → vs[j * 2 + c]? = some ((encO ovE (els.toArray[j]!))[c]!) := fun c hc => by
          have h := flat2_get els (j * 2 + c) (by omega)
          rw [m2, show (j * 2 + c) / 2 = j by omega, show (j * 2 + c) % 2 = c by omega] at h
          exact h
        have hx : (els.map (·.x))[j]?.getD default = ovE (els.toArray[j]!) := by
          simp [hj, ovE]
        rw [hx]
        have a0 := k5 _ _ (ge 0 (by omega))
        have a1 := k5 _ _ (ge 1 (by omega))
        rw [had, Addr.add_lit] at a0 a1
        exact ⟨a0, a1⟩
  have hR := Tryd.set22 (hX.glob.keep ⟨hX.flt, fun _ _ => rfl⟩) els a cap (by rw [ml]; exact hl.1) hI
  rw [ml] at hR
  refine Calls.mono hR ?_
  rintro e w' ⟨hB, ⟨h0, rfl⟩ | ⟨blk, cp, cur, r, rfl, q1, q2, q3, q4, q5, q6, q7⟩⟩
  · have hl0 : l = [] := by rw [← m1, h0]; rfl
    subst hl0
    exact ⟨_, ρ.slice (.ext 0) (.slice none 0 0), rfl, by simp [ARel, Rho.slice], fresh_rowO hT hX ⟨rfl, .inl ⟨rfl, rfl⟩⟩ rfl hB⟩
  · rw [m1] at q7
    have hel := elems_of (F' := ρ.F) (w' := w') ⟨fun b h => h, fun b hb => hB.block b (hX.flt b hb)⟩ r
    rw [q7] at hel
    have hrl : r.length = (ousL (setO l)).length := by rw [ousL_len, ← q7, List.length_map]
    refine ⟨_, ρ.slice (.ext 0) (.slice (some ⟨blk, 0, none⟩) r.length cp), rfl, by simp [ARel, Rho.slice], fresh_rowO hT hX ?_ hel hB⟩
    rw [← hrl]
    exact ⟨flat2_len r, .inr ⟨blk, cp, cur, rfl, q1, q2, q3, q4, q5, q6⟩⟩
theorem c_Set [Trk] (hT : ¬Trk.on) : SetSaid := fun l hl => sco_sc (c_SetO hT hl)
end Go.Eng
