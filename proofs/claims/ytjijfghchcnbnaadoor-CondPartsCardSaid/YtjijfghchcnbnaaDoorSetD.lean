import Derived.Test.YtjijfghchcnbnaaDoorSetC
import Derived.Test.YtjijfghchcnbnaaDoorSetA
import Derived.Test.YtjijfghchcnbnaaDoorCondD
import Derived.Test.YtjijfghchcnbnaaDoorEngC
import Derived.Lib.QuietBelow
set_option autoImplicit false
set_option linter.unusedVariables false
set_option linter.unusedSimpArgs false
namespace Go.Eng
open Go Go.RowKit Go.Proofs Go.Sort Go.Shelf
/-- A contract's call, in whatever world: nothing of old turns; the tape is never asked less. -/
theorem calls_below {P : Program} [Trk] {f : FuncId} {as' : List AV} {res : Value} {args : Array Value} {w : World} (ht : Trk.on) (h : SC P f as' (.pv (.v res))) (hT : GlobOK (fun b => b < w.heap.size) w) (hr : ARels (rho0 w) w as' args.toList) :
    Calls P f args w fun e w' => e = .returned res ∧ Below w.heap.size w w' ∧ w.drawn ≤ w'.drawn := by
  refine (h ⟨w, fun b => b < w.heap.size, fun _ => False, fun _ => 0⟩ (rho0 w) w args rfl ?_ hr).mono ?_
  · refine { slots := ?_, disj := ?_, sep := ?_, flt := fun b h => h, os := rfl, tape := rfl, output := rfl, size := Nat.le_refl _, below := fun _ _ _ => rfl, fmono := fun b h => h, fnew := fun b h => .inl h, home := ?_, xblk := fun _ => rfl, glob := hT, drawn := fun _ => Nat.le_refl _ }
    · intro n s h; cases h
    · intro n m s s' b h; cases h
    · intro n s b h; cases h
    · intro n s b h; cases h
  · rintro e w' ⟨v, ρ', rfl, h1, h2⟩
    have := pv_inv h1
    subst this
    exact ⟨rfl, ⟨h2.os, h2.tape, h2.output, h2.size, fun k hk => h2.below k hk (fun h => h)⟩, h2.drawn ht⟩
/-- An element: its two cells, and what they read as in the call's first world. -/
structure EL (FF : Nat → Prop) (w : World) where
  x : OV
  o : Ou
  rel : PVs (fun b => b < w.heap.size) w (ouC o) [x.v1, x.v2]
  relF : PVs FF w (ouC o) [x.v1, x.v2]
  ok : OuOk o
variable {FF : Nat → Prop}
instance (w : World) : Inhabited (EL FF w) := ⟨⟨default, ⟨[], []⟩, ⟨_, _, rfl, ⟨none, 0, [], rfl, Nat.le_refl _, Nat.zero_le _, rfl, .inl rfl⟩, _, _, rfl, ⟨none, 0, [], rfl, Nat.le_refl _, Nat.zero_le _, rfl, .inl rfl⟩, rfl⟩, ⟨_, _, rfl, ⟨none, 0, [], rfl, Nat.le_refl _, Nat.zero_le _, rfl, .inl rfl⟩, _, _, rfl, ⟨none, 0, [], rfl, Nat.le_refl _, Nat.zero_le _, rfl, .inl rfl⟩, rfl⟩, ⟨Nat.zero_le _, (fun _ h => by cases h), Nat.zero_le _⟩⟩⟩
theorem keep_below {w W : World} (h : Below w.heap.size w W) : Keep (fun b => b < w.heap.size) w (fun b => b < W.heap.size) W := ⟨fun b hb => Nat.lt_of_lt_of_le hb h.size, fun b hb => h.block b hb⟩
theorem EL.arel [Trk] {w W : World} (h : Below w.heap.size w W) (x : EL FF w) : ARel (rho0 W) W (.agg (ouC x.o)) (.agg #[x.x.v1, x.x.v2]) := ⟨_, rfl, PVs.keep (keep_below h) _ _ x.rel⟩
theorem glob_below [Trk] {w W : World} (h : Below w.heap.size w W) (hT : GlobOK (fun b => b < w.heap.size) w) : GlobOK (fun b => b < W.heap.size) W := hT.keep (keep_below h)
def cfE {w : World} (x y : EL FF w) : Int := cmpF x.o y.o
theorem swo_cfE {w : World} : SWO (ltOf (cfE (FF := FF) (w := w))) where
  irrefl x := by simp [ltOf, cfE, cmp_ord.refl]
  trans x y z h1 h2 := by
    have k1 : cmpF x.o y.o < 0 := of_decide_eq_true h1
    have k2 : cmpF y.o z.o < 0 := of_decide_eq_true h2
    exact decide_eq_true (cmp_ord.tr _ _ _ k1 k2)
  ntrans x y z h1 h2 := by
    have k1 : ¬cmpF x.o y.o < 0 := of_decide_eq_false h1
    have k2 : ¬cmpF y.o z.o < 0 := of_decide_eq_false h2
    refine decide_eq_false fun h3 => ?_
    have h3 : cmpF x.o z.o < 0 := h3
    have e1 := cmp_ord.neg y.o x.o
    by_cases e : cmpF y.o x.o = 0
    · have := cmp_ord.eq _ _ e
      rw [← this] at h3; exact k2 h3
    · exact k2 (cmp_ord.tr _ _ _ (show cmpF y.o x.o < 0 by omega) h3)
theorem grown_of_below {W w' : World} (h : Below W.heap.size W w') (hd : W.drawn ≤ w'.drawn) : ∃ q os', w' = grow (W.drewN q) os' := by
  obtain ⟨p, hp⟩ := regrown_of_below h
  have e : w'.drawn = p.d := by rw [hp]; rfl
  refine ⟨p.d - W.drawn, p.os, ?_⟩
  have e2 : W.drawn + (p.d - W.drawn) = p.d := by omega
  rw [hp]
  unfold World.drewN redrawn
  rw [e2]
end Go.Eng
set_option linter.unusedSimpArgs false
set_option linter.unusedVariables false
set_option linter.constructorNameAsVariable false
set_option autoImplicit false
namespace Go.Eng
open Go Go.RowKit Go.Proofs
set_option maxHeartbeats 16000000 in
theorem c_same42 [Trk] {a b : Ou} (ha : OuOk a) (hb : OuOk b) : SC Tryd.prog 42 [.agg (ouC a), .agg (ouC b)] (B (decide (cmpF a b = 0))) := by
  have hC := c_Compare ha hb
  generalize cmpF a b = n at *
  refine scx_of Tryd.func42 rfl rfl rfl (Nat.le_of_ble_eq_true rfl) ?_
  repeat' (first
    | exact aw_ret (ret_vals (by simp; exact rfl) (by simp [*]; fail_if_success (show _)))
    | exact aw_ret (ret_vals (by simp; exact rfl) (by simp [*]; omega))
    | refine ar_end rfl ?_
    | refine ar_endD rfl (by kernel_rfl) ?_
    | refine ar_fin rfl ?_
    | refine ar_finD rfl (by kernel_rfl) ?_
    | refine ar_callV Tryd.call19 hC rfl rfl rfl rfl rfl (by simp; done) (by rfl) (by simp; done) ?_
    | refine ar_callV_if Tryd.call19 hC rfl rfl rfl rfl rfl rfl (by simp; done) rfl (by rfl) (by simp; done) ?_
    | refine ar_go3 _ rfl (by simp [ints_len, ints_getE, rgL_len, rgL_getE, atsL_len, atsL_getE, cosL_len, cosL_getE, ousL_len, ousL_getE, atC, ouC, coC]; exact ⟨rfl, rfl, rfl⟩) rfl ?_
    | refine aw_sregK 0 [0, 1] ?_
    | refine aw_regK 0 [0, 1] ?_
    | refine aw_sregK 1 [2, 3] ?_
    | refine aw_regK 1 [2, 3] ?_
    | refine aw_sreg ?_
    | refine aw_sregD mixed ?_
    | refine aw_ifT (b := true) rfl rfl ?_
    | refine aw_ifF (b := false) rfl rfl ?_
    | refine aw_ifT rfl (by assumption) ?_
    | refine aw_ifF rfl (by assumption) ?_
    | refine aw_ifT rfl (decide_eq_true (by assumption)) ?_
    | refine aw_ifF rfl (decide_eq_false (by assumption)) ?_
    | refine aw_seq ?_
    | refine aw_block ?_
    | refine aw_skip ?_
    | refine aw_region ?_
    | refine aw_region_draw mixed ?_
    | refine aw_exit ?_
    | refine rq_exit ?_
    | refine blockQ_hit ?_
    | refine blockQ_miss (by decide) ?_
    | (refine ar_guard rfl rfl rfl rfl (fun h => ?_) (fun h => ?_) <;> (fail_if_success (cases h; done)) <;> (try simp at h) <;> (try subst h))
    | (refine aw_both rfl (fun h => ?_) (fun h => ?_) <;> (fail_if_success (cases h; done)) <;> (try simp at h) <;> (try subst h)))
end Go.Eng
set_option autoImplicit false
set_option linter.unusedVariables false
set_option linter.unusedSimpArgs false
namespace Go.Eng
open Go Go.RowKit Go.Proofs Go.Sort Go.Shelf Go.Lib
variable {FF : Nat → Prop}
def ovE {w : World} (x : EL FF w) : OV := x.x
/-- What is asked of a closure in a world of the sort's is had from what it says in whatever world. -/
theorem sorted_below {w W : World} (h : Below w.heap.size w W) {blk : Nat} (hb : w.heap.size ≤ blk) (m : Nat) (dk : Array (EL FF w)) (os : Array Obj) : Below w.heap.size w (sortWorldK (encO ovE) 2 W blk 0 m dk os) := by
  refine ⟨h.os, h.tape, h.output, Nat.le_trans h.size (size_sortWorldK_c (encO ovE) 2 W blk 0 m dk os), fun k hk => ?_⟩
  rw [← h.block k hk]
  have hkW : k < W.heap.size := Nat.lt_of_lt_of_le hk h.size
  have hne : blk ≠ k := by omega
  unfold sortWorldK
  rw [heap_grow_old _ _ (by rw [size_putRowK]; exact hkW)]
  simp [putRowK, putRow, mapBlock, Sort.ahead, Array.getElem?_modify, hne]
theorem lays_cmp {w W : World} (hT : GlobOK (fun b => b < w.heap.size) w) (h : Below w.heap.size w W) {blk : Nat} (hb : w.heap.size ≤ blk) (size : Nat) : CmpLays Tryd.prog 19 #[] (encO (ovE (FF := FF) (w := w))) 2 cfE blk 0 size W := by
  intro m os dk hs x y
  have hB := sorted_below h hb m dk os
  let i : Trk := ⟨⟨True⟩⟩
  refine (calls_below (args := #[.agg #[x.x.v1, x.x.v2], .agg #[y.x.v1, y.x.v2]]) trivial (c_Compare x.ok y.ok) (glob_below hB hT) ⟨_, _, rfl, EL.arel hB x, _, _, rfl, EL.arel hB y, rfl⟩).mono ?_
  rintro e w' ⟨rfl, h1, h2⟩
  exact ⟨rfl, grown_of_below h1 h2⟩
theorem lays_eq {w W : World} (hT : GlobOK (fun b => b < w.heap.size) w) (h : Below w.heap.size w W) {blk : Nat} (hb : w.heap.size ≤ blk) (size : Nat) : EqLays Tryd.prog 42 #[] (encO (ovE (FF := FF) (w := w))) 2 (fun x y => decide (cmpF x.o y.o = 0)) blk 0 size W := by
  intro m os dk hs x y
  have hB := sorted_below h hb m dk os
  let i : Trk := ⟨⟨True⟩⟩
  refine (calls_below (args := #[.agg #[x.x.v1, x.x.v2], .agg #[y.x.v1, y.x.v2]]) trivial (c_same42 x.ok y.ok) (glob_below hB hT) ⟨_, _, rfl, EL.arel hB x, _, _, rfl, EL.arel hB y, rfl⟩).mono ?_
  rintro e w' ⟨rfl, h1, h2⟩
  exact ⟨rfl, grown_of_below h1 h2⟩
end Go.Eng
set_option autoImplicit false
set_option linter.unusedVariables false
set_option linter.unusedSimpArgs false
namespace Go.Eng
open Go Go.RowKit Go.Proofs Go.Sort Go.Shelf Go.Lib
variable {FF : Nat → Prop}
/-! ## Rows of outcomes, cell by cell -/
def flat2 {w : World} (d : List (EL FF w)) : List Value := d.flatMap fun x => [x.x.v1, x.x.v2]
theorem flat2_len {w : World} (d : List (EL FF w)) : (flat2 d).length = d.length * 2 := by
  unfold flat2
  induction d with
  | nil => rfl
  | cons x d ih => rw [List.flatMap_cons, List.length_append, ih]; simp; omega
theorem flat2_get {w : World} : ∀ (d : List (EL FF w)) (t : Nat), t < d.length * 2 → (flat2 d)[t]? = some ((encO ovE (d.toArray[t / 2]!))[t % 2]!)
  | [], t, h => by simp at h
  | x :: d, 0, h => rfl
  | x :: d, 1, h => rfl
  | x :: d, t + 2, h => by
    have h' : t < d.length * 2 := by simp at h; omega
    have e1 : (t + 2) / 2 = t / 2 + 1 := by omega
    have e2 : (t + 2) % 2 = t % 2 := by omega
    have ih := flat2_get d t h'
    rw [e1, e2]
    have hl : t / 2 < d.length := by omega
    have e3 : ((x :: d).toArray[t / 2 + 1]!) = d.toArray[t / 2]! := by simp [hl]
    rw [e3, ← ih]
    rfl
theorem flatK_flat2 {w : World} (d : List (EL FF w)) : flatK (encO ovE) 2 d.toArray = (flat2 d).toArray := by
  refine ext_get! (by rw [size_flatK]; simp [flat2_len]) fun t ht => ?_
  rw [size_flatK] at ht
  rw [get_flatK _ _ _ t ht]
  have h := flat2_get d t (by simpa using ht)
  rw [getElem!_def]
  simp [h]
  generalize (encO ovE (d[t / 2]?.getD default))[t % 2]? = z
  cases z <;> rfl
theorem holds2 {w W : World} {g : Nat} {cur : Array Value} {d : List (EL FF w)} (hb : W.heap[g]? = some (.cells cur 30 (0, 0))) (ht : cur.toList.take (d.length * 2) = flat2 d) : HoldsK (encO ovE) 2 W g 0 d.toArray := by
  unfold HoldsK
  rw [flatK_flat2]
  intro j hj
  have hj' : j < (flat2 d).length := by simpa using hj
  refine ⟨?_, by simp [World.frozen?, hb]⟩
  have h1 : (cur.toList.take (d.length * 2))[j]? = (flat2 d)[j]? := by rw [ht]
  rw [List.getElem?_take_of_lt (by rw [← flat2_len]; exact hj')] at h1
  simp only [World.cell?, hb, Nat.zero_add]
  simp only [Option.isSome_none, Bool.false_eq_true, if_false]
  rw [← Array.getElem?_toList, h1]
  simp [hj']
theorem heap2 {W : World} {g n : Nat} {os : Array Obj} {cur : Array Value} {e : TypeId} {fr : Nat × Nat} (F : Array Value) (hb : W.heap[g]? = some (.cells cur e fr)) :
    (grow (putRow id (Sort.ahead W n) g 0 F) os).heap[g]? = some (.cells (putCells id 0 F cur) e fr) := by
  have hg : g < W.heap.size := (Array.getElem?_eq_some_iff.1 hb).1
  rw [heap_grow_old _ _ (by simpa using hg)]
  simp [putRow, mapBlock, Sort.ahead, Array.getElem?_modify, hb, onCells]
theorem take2 (cur F : Array Value) (m : Nat) (h : F.size ≤ cur.size) (hm : m ≤ F.size) : (putCells id 0 F cur).toList.take m = F.toList.take m := by
  apply List.ext_getElem?
  intro j
  by_cases hj : j < m
  · rw [List.getElem?_take_of_lt hj, List.getElem?_take_of_lt hj, Array.getElem?_toList, Array.getElem?_toList]
    simp [putCells, show j < F.size by omega, show j < cur.size by omega]
  · rw [List.getElem?_take_eq_none (by omega), List.getElem?_take_eq_none (by omega)]
/-- slices.Collect over slices.Values. -/
theorem Tryd.collect {w : World} (els : List (EL FF w)) (W : World) (Bs : Nat) (sv : Value) (hlen : els.length * 48 ≤ 140737488351232) (hBs : Bs < W.heap.size) (hcs : W.cell? ⟨Bs, 0, none⟩ = some sv) (hI : vOV W.heap.size W sv (els.map (·.x))) :
    Calls Tryd.prog 59 #[.func (.func 61) #[] #[.pointer (some ⟨Bs, 0, none⟩)]] W fun e W' => ∃ v, e = .returned v ∧ W'.ownsRow W.heap.size 30 2 v els.length (flat2 els) ∧ (v = .slice none 0 0 ↔ els = []) ∧ Below W.heap.size W W' := by
  have mixed : Tryd.prog.follows .mixedOrders = true := by kernel_rfl
  have hM : maxLen = 9223372036854775807 := rfl
  have h := callsIn_wide.1 (Tryd.vappend_in Fence.wide 3 trivial trivial rfl (by omega) Bs sv (els.map (·.x)) (by rw [List.length_map]; omega) (by rw [List.length_map]; exact hlen) W hBs hcs hI)
  have e1 : (els.map (·.x)).flatMap OV.cells2 = flat2 els := by rw [List.flatMap_map]; rfl
  rw [List.length_map, e1] at h
  have e2 : els.map (·.x) = [] ↔ els = [] := List.map_eq_nil_iff
  rw [e2] at h
  go_enter Tryd.func59, Tryd.ntmps59
  go_wp2_with fail
  refine h.mono ?_
  rintro e W' ⟨v, rfl, hp⟩
  go_wp2_with fail
  go_ret
  exact ⟨v, rfl, hp⟩
set_option maxHeartbeats 1000000 in
set_option maxRecDepth 1000000 in
/-- slices.SortedFunc over slices.Values, at the elements of the call's first world. -/
theorem Tryd.sorted44 {w : World} (hT : GlobOK (fun b => b < w.heap.size) w) (els : List (EL FF w)) (W : World) (hW : Below w.heap.size w W) (Bs : Nat) (sv : Value) (hlen : els.length * 48 ≤ 140737488351232) (hBs : Bs < W.heap.size) (hcs : W.cell? ⟨Bs, 0, none⟩ = some sv) (hI : vOV W.heap.size W sv (els.map (·.x))) :
    Calls Tryd.prog 44 #[.func (.func 61) #[] #[.pointer (some ⟨Bs, 0, none⟩)], .func (.func 19) #[] #[]] W fun e W' => Below w.heap.size w W' ∧
      ((els = [] ∧ e = .returned (.slice none 0 0)) ∨ ∃ (blk cap : Nat) (cur : Array Value) (d : Array (EL FF w)), e = .returned (.slice (some ⟨blk, 0, none⟩) els.length cap) ∧ els.length ≤ cap ∧ cap ≤ maxLen ∧ w.heap.size ≤ blk ∧
        W'.heap[blk]? = some (.cells cur 30 (0, 0)) ∧ cur.size = cap * 2 ∧ HoldsK (encO ovE) 2 W' blk 0 d ∧ d.size = els.length ∧ d.toList.Perm els ∧ d.toList.Pairwise (fun x y => ltOf cfE y x = false)) := by
  have mixed : Tryd.prog.follows .mixedOrders = true := by kernel_rfl
  have hM : maxLen = 9223372036854775807 := rfl
  have hC := Tryd.collect els W Bs sv hlen hBs hcs hI
  go_enter Tryd.func44, Tryd.ntmps44
  go_wp2_with fail
  refine hC.mono ?_
  rintro e W1 ⟨v, rfl, hown, hnil, hB1⟩
  go_wp2_with fail
  have hWW : RowKit.Below w.heap.size w W1 := hW.trans (hB1.mono hW.size)
  by_cases h0 : els = []
  · have hv := hnil.2 h0
    subst hv
    have hS := AnyF.slices_SortFunc_none Tryd.sortO none 0 (.func (.func 19) #[] #[]) W1
    refine Calls.mono hS ?_
    rintro e W2 ⟨rfl, rfl⟩
    go_wp2_with fail
    go_ret
    exact ⟨hWW, .inl ⟨h0, rfl⟩⟩
  · have hlen0 : 0 < els.length := List.length_pos_iff.2 h0
    rcases hown.2 with ⟨rfl, hz⟩ | ⟨g, cap, cur, rfl, q1, q2, q3, q4, q5, q6⟩
    · omega
    · have hbg : w.heap.size ≤ g := Nat.le_trans hW.size q1
      have hH := holds2 (d := els) q2 q6
      have hg : g < W1.heap.size := (Array.getElem?_eq_some_iff.1 q2).1
      have hS := AnyQ.slices_SortFunc Tryd.sortO 2 Tryd.isAgg30 Tryd.sizeOf30 (encO ovE) (fun _ => rfl) (fun x v hv => by
        simp only [encO, List.mem_cons, List.not_mem_nil, or_false] at hv
        rcases hv with rfl | rfl <;> rfl) cfE swo_cfE 19 #[] g 0 cap els.toArray W1 (enters_of Tryd.func19 (by kernel_rfl) rfl) (lays_cmp hT hWW hbg _) hH hg (by simp; omega)
      refine Calls.mono hS ?_
      rintro e W2 ⟨rfl, d', n, os, hp, hs, rfl⟩
      have hds : d'.size = els.toArray.size := hp.1
      have hHd := holdsK_sortWorldK_c (encO ovE) 2 W1 g 0 els.toArray d' n os hH hg hds
      have hbl := sorted_below hWW hbg n d' os
      have hhp : (sortWorldK (encO ovE) 2 W1 g 0 n d' os).heap[g]? = some (.cells (putCells id 0 (flatK (encO ovE) 2 d') cur) 30 (0, 0)) := heap2 _ q2
      generalize sortWorldK (encO ovE) 2 W1 g 0 n d' os = W2 at hHd hbl hhp ⊢
      go_wp2_with fail
      go_ret
      refine ⟨hbl, .inr ⟨g, cap, _, d', rfl, q3, q4, hbg, hhp, by simp [putCells, q5], hHd, by simpa using hds, ?_, ?_⟩⟩
      · have h3 := hp.2.2
        have h4 : d'.toList.take els.length = d'.toList := List.take_of_length_le (by rw [Array.length_toList, hds]; simp)
        rw [← hds] at h3
        simp [hds] at h3
        rwa [h4] at h3
      · rw [List.pairwise_iff_getElem]
        intro i j hi hj hij
        have h3 := hs i j (Nat.zero_le _) hij (by rw [← hds]; simpa using hj)
        rw [getElem!_pos d' i (by simpa using hi), getElem!_pos d' j (by simpa using hj)] at h3
        simpa using h3
end Go.Eng
