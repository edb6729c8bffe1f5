import Derived.Test.YtpohlijehadklaaGreatValsA
import Derived.Test.YtpohlijehadklaaGreatEngF
import Derived.Test.YtpohlijehadklaaGreatValsP
import Derived.Test.YtpohlijehadklaaGreatValsS
set_option linter.unusedSimpArgs false
set_option linter.unusedVariables false
set_option linter.constructorNameAsVariable false
set_option autoImplicit false
namespace Go.Eng
open Go Go.RowKit Go.Proofs Go.Sort
theorem fresh_rowS {P : Program} {Γ : Ctx} {ρ : Rho} {w w' : World} {e : TypeId} {v' : Value} {l : List Int} {S : SMap} (N : Name) (hS : ∀ m s, sget S m = some s → s.has N = false) (h : SOk Γ S ρ w) (hown : w'.ownsRow w.heap.size e 1 v' l.length (l.map (Value.int .i64))) (hb : Below w.heap.size w w') : SOk Γ ((N, some (.own e 1 (numsL l))) :: S) (ρ.slice N v') w' := by
  have key := h.slot (ρ' := ρ.slice N v') (w' := w') N (some (.own e 1 (numsL l))) rfl (fun _ => rfl) (fun m hm => ρ.slice_same _ _ hm) (.inr hS) none
    ⟨hb.os, hb.tape, hb.output, hb.size, fun k hk _ => hb.block k hk⟩ (fun b hb' => by cases hb') (fun s hs => by
      cases hs
      refine ⟨l.map (Value.int .i64), .inl ?_, nums_elems.2 rfl⟩
      rw [numsL_len]
      simp only [Rho.slice, if_true]
      obtain ⟨h1, h2⟩ := hown
      refine ⟨h1, ?_⟩
      rcases h2 with h2 | ⟨g, cap, cur, q0, q1, q2⟩
      · exact .inl h2
      · exact .inr ⟨g, cap, cur, q0, Nat.zero_le _, q2⟩) (fun s b hs hsb => by
      cases hs
      left
      simp only [slotBlk, Rho.slice, if_true] at hsb
      exact (hown.lt b (ownBlk_some hsb)).1)
  exact key
theorem l_callBox {P : Program} {o : Oper} {st : AState} {d : Nat} {x y : Operand} {ats : Array TypeId} {f g : FuncId} {T es : Nat} {xs : List (List PV)} (ho : o.op = .call { callee := .value x, args := #[y], argTypes := ats }) (hd : o.dst = some d) (hlt : d < st.n) (hent : Enters P f) (hx : ev st x = .fn f [] []) (hy : ev st y = .pv (.sl es xs))
    (hc : ∀ (a : Option Addr) (n c : Nat) (w : World), Calls P f #[.slice a n c] w fun e w' => e = .returned (.func (.func g) #[] #[.pointer (some ⟨w.heap.size, 0, none⟩)]) ∧ w' = w.alloc (.cells #[.slice a n c] T)) :
    Local P o st ⟨keyO x ++ keyO y, ⟨[(d, .fn g [] [.ptr (.loc d) 0])], [(.loc d, some (.box T [.pv (.sl es xs)]))]⟩, [.loc d]⟩ := by
  intro st2 hn hr
  have hx2 : ev st2 x = .fn f [] [] := by rw [ev_agree hr (fun k h => List.mem_append.2 (.inl h)), hx]
  have hy2 : ev st2 y = .pv (.sl es xs) := by rw [ev_agree hr (fun k h => List.mem_append.2 (.inr h)), hy]
  clear hr hx hy
  generalize hnn : Name.loc d = n at *
  have hxb : ∀ (ρ : Rho) (b : Nat) (i : Nat), (ρ.box n b).blk (.ext i) = ρ.blk (.ext i) := fun ρ b i => by subst hnn; simp [Rho.box]
  intro Γ ρ a w K Q hok hfr hk
  have hfr' := hfr n (by simp)
  have hfv := ev_rel hok x
  rw [hx2] at hfv
  obtain ⟨af, ac, h1, h2, h3⟩ := hfv
  have haf : af = #[] := by rw [← Array.toList_inj]; exact h2
  have hac : ac = #[] := by rw [← Array.toList_inj]; exact h3
  subst haf
  subst hac
  have hyv := ev_rel hok y
  rw [hy2] at hyv
  have hyr := hyv
  obtain ⟨ad, cap, vs, e1, _⟩ := hyv
  rw [e1] at hyr
  have hrun : (execOp a.eval o).run P w = .ok (.enter f #[.slice ad xs.length cap]) w := by
    unfold execOp
    simp only [ho, resolve, h1, Deferred.ofValue, Sem.run_bind, Sem.run_pure, Result.andThen_ok, invoke]
    rw [hent]
    simp [e1]
  unfold Oper.wp
  rw [hrun, Oper.upon_enter]
  refine (hc ad xs.length cap w).mono ?_
  rintro e w' ⟨rfl, rfl⟩
  have hg := World.grownBy_alloc w (.cells #[.slice ad xs.length cap] T) none
  have hok1 := hok.slot (ρ' := ρ.box n w.heap.size) (w' := w.alloc (.cells #[.slice ad xs.length cap] T)) n (some (.box T [.pv (.sl es xs)])) rfl (hxb ρ _) (fun m hm => ρ.box_same n _ hm) (.inr hfr') none hg (by simp)
    (fun s hs => by
      cases hs
      refine ⟨#[.slice ad xs.length cap], ?_, ⟨_, [], rfl, ?_, rfl⟩, by simp [Value.oneCell']⟩
      · have hb : (ρ.box n w.heap.size).blk n = w.heap.size := by simp [Rho.box]
        rw [hb]
        exact heap_alloc_new w _
      · exact PRel.keep ⟨fun b hb => hb, fun b hb => hg.block b (hok.sok.flt b hb) (by simp)⟩ _ _ hyr)
    (fun s b hs hb => by
      cases hs
      simp [slotBlk, Rho.box] at hb
      exact .inl (by omega))
  have hok2 := hok1.setT (d := d) (av := .fn g [] [.ptr n 0]) (v := .func (.func g) #[] #[.pointer (some ⟨w.heap.size, 0, none⟩)]) (show d < st2.n by rw [hn]; exact hlt) ⟨#[], #[.pointer (some ⟨w.heap.size, 0, none⟩)], rfl, rfl, _, [], rfl, by simp [ARel, Rho.box], rfl⟩
  rw [AState.app_app] at hok2
  rw [hd]
  exact hk _ _ _ hok2
theorem ar_callBox {P : Program} {ops : Array Oper} {draw : Bool} {st0 : AState} {Q : Exit → AState → Prop} {i d : Nat} {st st1 : AState} {acc : List Eff} {o : Oper} {x y : Operand} {ats : Array TypeId} {f g : FuncId} {T es : Nat} {xs : List (List PV)} (hent : Enters P f)
    (hc : ∀ (a : Option Addr) (n c : Nat) (w : World), Calls P f #[.slice a n c] w fun e w' => e = .returned (.func (.func g) #[] #[.pointer (some ⟨w.heap.size, 0, none⟩)]) ∧ w' = w.alloc (.cells #[.slice a n c] T))
    (ho : ops[i]? = some o) (hg : o.guard = none) (hop : o.op = .call { callee := .value x, args := #[y], argTypes := ats }) (hd : o.dst = some d) (hk : st.killAll [.loc d] = st1) (hlt : d < st1.n) (hx : ev st1 x = .fn f [] []) (hy : ev st1 y = .pv (.sl es xs))
    (k : AR P ops draw st0 Q (i + 1, st1.app ⟨[(d, .fn g [] [.ptr (.loc d) 0])], [(.loc d, some (.box T [.pv (.sl es xs)]))]⟩, if draw = true then acc ++ [⟨keyO x ++ keyO y, ⟨[(d, .fn g [] [.ptr (.loc d) 0])], [(.loc d, some (.box T [.pv (.sl es xs)]))]⟩, [.loc d]⟩] else acc)) : AR P ops draw st0 Q (i, st, acc) :=
  ar_loc (E := ⟨keyO x ++ keyO y, ⟨[(d, .fn g [] [.ptr (.loc d) 0])], [(.loc d, some (.box T [.pv (.sl es xs)]))]⟩, [.loc d]⟩) ho hg hk (l_callBox hop hd hlt hent hx hy hc) k
set_option maxHeartbeats 16000000 in
theorem c_values147 (a : Option Addr) (n c : Nat) (w : World) : Calls Tryz.prog 51 #[.slice a n c] w fun e w' => e = .returned (.func (.func 69) #[] #[.pointer (some ⟨w.heap.size, 0, none⟩)]) ∧ w' = w.alloc (.cells #[.slice a n c] 22) :=
  callsIn_wide.1 (Tryz.values_in Fence.wide 6 trivial rfl a n c w)
set_option maxHeartbeats 16000000 in
theorem c_AppV {l : List Int} (hl : l.length ≤ 100000000) : SCX Tryz.prog 93 [.pv (.v (.slice none 0 0)), .fn 69 [] [.ptr (.ext 0) 0]] [(.ext 0, some (.box 22 [.pv (.sl 1 (ints l))]))] (.own (.ext 1)) [(.ext 1, some (.own 2 1 (ints l))), (.ext 0, some (.box 22 [.pv (.sl 1 (ints l))]))] := by
  intro Γ ρ w vals hw hX hargs
  obtain ⟨v0, r0, e0, ⟨h0, _⟩, v1, r1, e1, ⟨fa, fb, hf, hfa, hfb⟩, e2⟩ := hargs
  obtain ⟨p, ps, hp, hp1, hp2⟩ := hfb
  have hfa : fa = #[] := by rw [← Array.toList_inj]; exact hfa
  have hfb : fb = #[.pointer (some ⟨ρ.blk (.ext 0), 0, none⟩)] := by
    rw [← Array.toList_inj, hp]
    have hp1 : p = .pointer (some ⟨ρ.blk (.ext 0), 0, none⟩) := hp1
    have hp2 : ps = [] := hp2
    rw [hp1, hp2]
  have hvals : vals = #[.slice none 0 0, .func (.func 69) #[] #[.pointer (some ⟨ρ.blk (.ext 0), 0, none⟩)]] := by
    have e2 : r1 = [] := e2
    rw [← Array.toList_inj, e0, e1, e2, h0, hf, hfa, hfb]
  subst hvals
  obtain ⟨cs, k1, k2, k3⟩ := hX.slots (.ext 0) _ rfl
  obtain ⟨sv, svs, e3, k4, e4⟩ := k2
  have hcs : cs = #[sv] := by
    have e4 : svs = [] := e4
    rw [← Array.toList_inj, e3, e4]
  subst hcs
  have hcell : w.cell? ⟨ρ.blk (.ext 0), 0, none⟩ = some sv := by simp [World.cell?, k1]
  have hblt : ρ.blk (.ext 0) < w.heap.size := (Array.getElem?_eq_some_iff.1 k1).1
  have hI : vInts w.heap.size w sv l := by
    obtain ⟨a, cap, vs, rfl, q1, q2, q3, q4⟩ := k4
    have hvs := nums_elems.1 q3
    subst hvs
    rw [ints_len]
    cases l with
    | nil => exact .inl ⟨rfl, a, cap, rfl⟩
    | cons n l =>
      rcases q4 with q4 | ⟨ad, rfl, q5, q6⟩
      · simp at q4
      · obtain ⟨b, off, sp⟩ := ad
        have h0 := q6 0 (.int .i64 n) (by simp)
        have hsp : sp = none := by
          simp only [Addr.add, if_true, World.cell?] at h0
          split at h0
          · cases sp with
            | none => rfl
            | some q => simp at h0
          · cases h0
        subst hsp
        refine .inr ⟨b, off, cap, rfl, hX.flt _ q5, fun j hj => ?_⟩
        have := q6 j (.int .i64 ((n :: l)[j])) (by rw [List.getElem?_map, List.getElem?_eq_getElem hj]; rfl)
        have e2 : (Addr.add ⟨b, off, none⟩ j) = ⟨b, off + j, none⟩ := by
          unfold Addr.add
          split
          · rename_i h; subst h; rfl
          · rfl
        rw [e2] at this
        rw [this, List.getElem?_eq_getElem hj, Option.getD_some]
  refine (callsIn_wide.1 (Tryz.vappend_in Fence.wide 6 trivial trivial rfl (by omega) _ sv l (by have : maxLen = 9223372036854775807 := rfl; omega) (by omega) w hblt hcell hI)).mono ?_
  rintro _ w' ⟨v, rfl, hown, _, hb⟩
  refine ⟨v, ρ.slice (.ext 1) v, rfl, by simp [ARel, Rho.slice], ?_⟩
  refine fresh_rowS (P := Tryz.prog) (.ext 1) (fun m s hm => ?_) hX hown hb
  simp only [sget] at hm
  split at hm
  · cases hm; rfl
  · cases hm
set_option maxHeartbeats 16000000 in
theorem c_CollectV {l : List Int} (hl : l.length ≤ 100000000) : SCX Tryz.prog 67 [.fn 69 [] [.ptr (.ext 0) 0]] [(.ext 0, some (.box 22 [.pv (.sl 1 (ints l))]))] (.own (.ext 1)) [(.ext 0, some (.box 22 [.pv (.sl 1 (ints l))])), (.ext 1, some (.own 2 1 (ints l)))] := by
  have hA := c_AppV hl
  refine scx_of Tryz.func67 rfl rfl rfl (Nat.le_of_ble_eq_true rfl) ?_
  repeat' (first
 | refine ar_end rfl ?_
 | refine ar_callE [.ext 0] [.ext 0, .loc 4] [.loc 4] Tryz.call93 hA rfl rfl rfl rfl (by simp; exact rfl) rfl (by simp; done) (by rfl) (by simp; fail_if_success (show _)) rfl ⟨by simp, by simp, (by simp [okY]; fail_if_success (show _)), by simp, by simp⟩ (by simp; fail_if_success (show _)) ?_
 | exact aw_ret (ret_rens .ret (.inr rfl) [(.loc 4, .ext 1)] [.ext 0, .ext 1] (by simp; exact rfl) (by simp; exact rfl) rfl (by simp []; fail_if_success (show _)) (by simp))
 | refine ar_go3 _ rfl (by simp [*]; exact ⟨rfl, rfl, rfl⟩) rfl ?_
 | refine aw_sregK 0 [0] ?_
 | refine aw_sregK 1 [0] ?_)
set_option maxHeartbeats 16000000 in
theorem c_sortC : SortC Tryz.prog 68 := ⟨fun blk off cap zs w h1 h2 h3 => Tryz.vSort blk off cap zs w h1 h2 h3, fun p cap w => Tryz.vSort_none p cap w⟩
set_option maxHeartbeats 16000000 in
theorem c_compact {l : List Int} (hl : l.length ≤ 100000000) : SCX Tryz.prog 49 [.own (.ext 0)] [(.ext 0, some (.own 2 1 (ints l)))] (.own (.ext 0)) [(.ext 0, some (.own 2 1 (ints (Lib.compact l))))] := by
  have hle : (Lib.compact l).length ≤ l.length := vcompact_le l
  exact scx_shrink (f := 49) (exA := []) (exV := []) (l := l) (ts := Lib.compact l) (rest := List.replicate (l.length - (Lib.compact l).length) 0) (fun ρ w vs h => h) (fun blk off cap w _ hH h1 h2 => Tryz.slices_Compact_int blk off cap l w hH (by omega) h1) (fun h => ⟨by subst h; rfl, fun p cap w => Tryz.slices_Compact_int_empty p cap w⟩) (by simp; omega)
set_option maxHeartbeats 16000000 in
theorem c_SortedV {l : List Int} (hl : l.length ≤ 100000000) : SCX Tryz.prog 50 [.fn 69 [] [.ptr (.ext 0) 0]] [(.ext 0, some (.box 22 [.pv (.sl 1 (ints l))]))] (.own (.ext 1)) [(.ext 0, some (.box 22 [.pv (.sl 1 (ints l))])), (.ext 1, some (.own 2 1 (ints (l.mergeSort fun x y => decide (x ≤ y)))))] := by
  have hA := c_CollectV hl
  refine scx_of Tryz.func50 rfl rfl rfl (Nat.le_of_ble_eq_true rfl) ?_
  repeat' (first
 | refine ar_end rfl ?_
 | refine ar_callE [.ext 0] [.ext 0, .loc 5] [.loc 5] Tryz.call67 hA rfl rfl rfl rfl (by simp; exact rfl) rfl (by simp; done) (by rfl) (by simp; fail_if_success (show _)) rfl ⟨by simp, by simp, (by simp [okY]; fail_if_success (show _)), by simp, by simp⟩ (by simp; fail_if_success (show _)) ?_
 | refine ar_sort Tryz.call68 c_sortC rfl rfl rfl rfl (by simp; done) rfl rfl (by simp; exact ⟨rfl, rfl⟩) (l := l) rfl (by omega) ?_
 | exact aw_ret (ret_rens .ret (.inr rfl) [(.loc 5, .ext 1)] [.ext 0, .ext 1] (by simp; exact rfl) (by simp; exact rfl) rfl (by simp [ints, numsL, sortI]; fail_if_success (show _)) (by simp))
 | refine ar_go3 _ rfl (by simp [*]; exact ⟨rfl, rfl, rfl⟩) rfl ?_
 | refine aw_sregK 0 [0] ?_
 | refine aw_sregK 1 [0] ?_
 | refine aw_sregK 2 [3] ?_
 | refine aw_sregK 3 [3] ?_)
set_option maxHeartbeats 16000000 in
theorem c_once {l : List Int} (hl : l.length ≤ 100000000) : SCO Tryz.prog 23 [.pv (.sl 1 (ints l))] 2 1 (ints (sortU l)) := by
  have h2 := c_SortedV hl
  have h3 := c_compact (l := l.mergeSort fun x y => decide (x ≤ y)) (by rw [List.length_mergeSort]; exact hl)
  rw [compact_msort] at h3
  generalize l.mergeSort (fun x y => decide (x ≤ y)) = s at *
  refine scx_of Tryz.func23 rfl rfl rfl (Nat.le_of_ble_eq_true rfl) ?_
  repeat' (first
 | refine ar_end rfl ?_
 | refine ar_callBox Tryz.call51 c_values147 rfl rfl rfl rfl (by simp; exact rfl) (by simp; done) rfl (by simp; exact ⟨rfl, rfl⟩) ?_
 | refine ar_callE [.loc 4] [.loc 4, .loc 5] [.loc 5] Tryz.call50 h2 rfl rfl rfl rfl (by simp; exact rfl) rfl (by simp; done) (by rfl) (by simp; fail_if_success (show _)) rfl ⟨by simp, by simp, (by simp [okY]; fail_if_success (show _)), by simp, by simp⟩ (by simp; fail_if_success (show _)) ?_
 | refine ar_callE [.loc 5] [.loc 6] [.loc 6] Tryz.call49 h3 rfl rfl rfl rfl (by simp; exact rfl) rfl (by simp; done) (by rfl) (by simp; fail_if_success (show _)) rfl ⟨by simp, by simp, (by simp [okY]; fail_if_success (show _)), by simp, by simp⟩ (by simp; fail_if_success (show _)) ?_
 | exact aw_ret (ret_own (.loc 6) (by simp; exact rfl) (by simp) (by simp; fail_if_success (show _)))
 | refine ar_go3 _ rfl (by simp [*]; exact ⟨rfl, rfl, rfl⟩) rfl ?_
 | refine aw_sregK 0 [0] ?_
 | refine aw_sregK 1 [0] ?_)
end Go.Eng
