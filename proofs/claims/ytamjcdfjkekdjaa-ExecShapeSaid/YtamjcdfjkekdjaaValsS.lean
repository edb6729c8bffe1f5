import Derived.Shelf.SlIterI.Sorted
import Derived.Shelf.SortM.Plain
import Derived.Shelf.SortM.SortNone
import Derived.Test.YtamjcdfjkekdjaaChecked
import Derived.Test.YtamjcdfjkekdjaaEngF
import Derived.Test.YtamjcdfjkekdjaaValsP
import Derived.Maps.OwnSet
import Derived.RangeFuncBox
import Derived.RangeFuncLeaves
import Derived.Shelf.Abstract
import Derived.WalkKit
import Derived.OwnWalkIn
import Derived.TacticsInMore
import Derived.LoopNIn
import Derived.LoopIn
import Derived.Maps.AppendAt
import Derived.KernelRfl
import Derived.Test.YtamjcdfjkekdjaaProg
import Derived.Shelf.SlicesG.CompactI
set_option autoImplicit false
namespace Go.Proofs
open Go.RowKit Go.Maps Go.Sort Go.Shelf
def Try.keysA_ren : Go.Shelf.Ren := ⟨fun | 7 => 122 | 10 => 145 | n => n, fun | 23 => 147 | 26 => 2 | 3 => 4 | 28 => 150 | 0 => 0 | 27 => 149 | 33 => 166 | 4 => 4 | n => n, fun | n => n⟩
theorem Try.keysA : SlLaysZI.n7 Try.prog Try.keysA_ren := {
  mixed := by kernel_rfl
  f7 := ⟨Try.f122.name, by kernel_rfl, Try.func122.trans (congrArg some (by kernel_rfl))⟩
  f10 := ⟨Try.f145.name, by kernel_rfl, Try.func145.trans (congrArg some (by kernel_rfl))⟩
  t0 := Try.underlying0
  a0 := Try.isAgg0
  z0 := Try.sizeOf0
  v0 := Try.zeroValue0
  t4 := Try.underlying4
  a4 := Try.isAgg4
  z4 := Try.sizeOf4
  v4 := Try.zeroValue4
  t23 := Try.underlying147
  a23 := Try.isAgg147
  z23 := Try.sizeOf147
  v23 := Try.zeroValue147
  t26 := Try.underlying2
  a26 := Try.isAgg2
  z26 := Try.sizeOf2
  v26 := Try.zeroValue2
  t27 := Try.underlying149
  a27 := Try.isAgg149
  z27 := Try.sizeOf149
  v27 := Try.zeroValue149
  t28 := Try.underlying150
  a28 := Try.isAgg150
  z28 := Try.sizeOf150
  v28 := Try.zeroValue150
  t33 := Try.underlying166
  a33 := Try.isAgg166
  z33 := Try.sizeOf166
  v33 := Try.zeroValue166 }
def Try.sortedA_ren : Go.Shelf.Ren := ⟨fun | 6 => 121 | 8 => 143 | 9 => 144 | 11 => 157 | 13 => 159 | 12 => 158 | 23 => 173 | 24 => 174 | 14 => 164 | 15 => 165 | 16 => 166 | 17 => 167 | 18 => 168 | 19 => 169 | 20 => 170 | 21 => 171 | 22 => 172 | 25 => 175 | 26 => 176 | 27 => 177 | 28 => 178 | 29 => 179 | 30 => 180 | 31 => 181 | n => n, fun | 26 => 2 | 28 => 150 | 24 => 52 | 0 => 0 | 3 => 3 | 37 => 84 | 48 => 23 | 50 => 181 | 4 => 4 | 40 => 185 | 39 => 184 | 45 => 190 | 5 => 5 | 9 => 9 | 51 => 194 | 55 => 198 | 57 => 200 | 58 => 62 | 33 => 166 | n => n, fun | n => n⟩
theorem Try.sortedA : SlLaysZI.n6 Try.prog Try.sortedA_ren := {
  mixed := by kernel_rfl
  f6 := ⟨Try.f121.name, by kernel_rfl, Try.func121.trans (congrArg some (by kernel_rfl))⟩
  f8 := ⟨Try.f143.name, by kernel_rfl, Try.func143.trans (congrArg some (by kernel_rfl))⟩
  f11 := ⟨Try.f157.name, by kernel_rfl, Try.func157.trans (congrArg some (by kernel_rfl))⟩
  t0 := Try.underlying0
  a0 := Try.isAgg0
  z0 := Try.sizeOf0
  v0 := Try.zeroValue0
  t24 := Try.underlying52
  a24 := Try.isAgg52
  z24 := Try.sizeOf52
  v24 := Try.zeroValue52
  t26 := Try.underlying2
  a26 := Try.isAgg2
  z26 := Try.sizeOf2
  v26 := Try.zeroValue2
  t28 := Try.underlying150
  a28 := Try.isAgg150
  z28 := Try.sizeOf150
  v28 := Try.zeroValue150
  i26 := by kernel_rfl }
def Try.sortA_ren : Go.Shelf.Ren := ⟨fun | 5 => 144 | 8 => 159 | 7 => 158 | 19 => 173 | 20 => 174 | 10 => 164 | 11 => 165 | 12 => 166 | 13 => 167 | 14 => 168 | 15 => 169 | 16 => 170 | 17 => 171 | 18 => 172 | 30 => 175 | 31 => 176 | 32 => 177 | 33 => 178 | 34 => 179 | 35 => 180 | 40 => 181 | n => n, fun | 23 => 52 | 25 => 2 | 3 => 3 | 32 => 84 | 22 => 52 | 0 => 0 | 44 => 23 | 46 => 181 | 4 => 4 | 36 => 185 | 35 => 184 | 41 => 190 | 5 => 5 | 9 => 9 | 53 => 194 | 57 => 198 | 63 => 200 | 64 => 62 | n => n, fun | n => n⟩
theorem Try.sortA : SlLaysM.n5 Try.prog Try.sortA_ren := {
  mixed := by kernel_rfl
  f5 := ⟨Try.f144.name, by kernel_rfl, Try.func144.trans (congrArg some (by kernel_rfl))⟩
  f7 := ⟨Try.f158.name, by kernel_rfl, Try.func158.trans (congrArg some (by kernel_rfl))⟩
  f8 := Try.func159.trans (congrArg some (by kernel_rfl))
  f10 := ⟨Try.f164.name, by kernel_rfl, Try.func164.trans (congrArg some (by kernel_rfl))⟩
  f11 := ⟨Try.f165.name, by kernel_rfl, Try.func165.trans (congrArg some (by kernel_rfl))⟩
  f12 := ⟨Try.f166.name, by kernel_rfl, Try.func166.trans (congrArg some (by kernel_rfl))⟩
  f13 := ⟨Try.f167.name, by kernel_rfl, Try.func167.trans (congrArg some (by kernel_rfl))⟩
  f14 := ⟨Try.f168.name, by kernel_rfl, Try.func168.trans (congrArg some (by kernel_rfl))⟩
  f15 := ⟨Try.f169.name, by kernel_rfl, Try.func169.trans (congrArg some (by kernel_rfl))⟩
  f16 := ⟨Try.f170.name, by kernel_rfl, Try.func170.trans (congrArg some (by kernel_rfl))⟩
  f17 := ⟨Try.f171.name, by kernel_rfl, Try.func171.trans (congrArg some (by kernel_rfl))⟩
  f18 := ⟨Try.f172.name, by kernel_rfl, Try.func172.trans (congrArg some (by kernel_rfl))⟩
  f19 := Try.func173.trans (congrArg some (by kernel_rfl))
  f20 := Try.func174.trans (congrArg some (by kernel_rfl))
  f30 := ⟨Try.f175.name, by kernel_rfl, Try.func175.trans (congrArg some (by kernel_rfl))⟩
  f31 := Try.func176.trans (congrArg some (by kernel_rfl))
  f32 := Try.func177.trans (congrArg some (by kernel_rfl))
  f33 := ⟨Try.f178.name, by kernel_rfl, Try.func178.trans (congrArg some (by kernel_rfl))⟩
  f34 := ⟨Try.f179.name, by kernel_rfl, Try.func179.trans (congrArg some (by kernel_rfl))⟩
  f35 := ⟨Try.f180.name, by kernel_rfl, Try.func180.trans (congrArg some (by kernel_rfl))⟩
  f40 := ⟨Try.f181.name, by kernel_rfl, Try.func181.trans (congrArg some (by kernel_rfl))⟩
  t0 := Try.underlying0
  a0 := Try.isAgg0
  z0 := Try.sizeOf0
  v0 := Try.zeroValue0
  t3 := Try.underlying3
  a3 := Try.isAgg3
  z3 := Try.sizeOf3
  v3 := Try.zeroValue3
  t4 := Try.underlying4
  a4 := Try.isAgg4
  z4 := Try.sizeOf4
  v4 := Try.zeroValue4
  t5 := Try.underlying5
  a5 := Try.isAgg5
  z5 := Try.sizeOf5
  v5 := Try.zeroValue5
  t9 := Try.underlying9
  a9 := Try.isAgg9
  z9 := Try.sizeOf9
  v9 := Try.zeroValue9
  t22 := Try.underlying52
  a22 := Try.isAgg52
  z22 := Try.sizeOf52
  v22 := Try.zeroValue52
  t23 := Try.underlying52
  a23 := Try.isAgg52
  z23 := Try.sizeOf52
  v23 := Try.zeroValue52
  t25 := Try.underlying2
  a25 := Try.isAgg2
  z25 := Try.sizeOf2
  v25 := Try.zeroValue2
  t32 := Try.underlying84
  a32 := Try.isAgg84
  z32 := Try.sizeOf84
  v32 := Try.zeroValue84
  t35 := Try.underlying184
  a35 := Try.isAgg184
  z35 := Try.sizeOf184
  v35 := Try.zeroValue184
  t36 := Try.underlying185
  a36 := Try.isAgg185
  z36 := Try.sizeOf185
  v36 := Try.zeroValue185
  t41 := Try.underlying190
  a41 := Try.isAgg190
  z41 := Try.sizeOf190
  v41 := Try.zeroValue190
  t44 := Try.underlying23
  a44 := Try.isAgg23
  z44 := Try.sizeOf23
  v44 := Try.zeroValue23
  t46 := Try.underlying181
  a46 := Try.isAgg181
  z46 := Try.sizeOf181
  v46 := Try.zeroValue181
  t53 := Try.underlying194
  a53 := Try.isAgg194
  z53 := Try.sizeOf194
  v53 := Try.zeroValue194
  t57 := Try.underlying198
  a57 := Try.isAgg198
  z57 := Try.sizeOf198
  v57 := Try.zeroValue198
  t63 := Try.underlying200
  a63 := Try.isAgg200
  z63 := Try.sizeOf200
  v63 := Try.zeroValue200
  t64 := Try.underlying62
  a64 := Try.isAgg62
  z64 := Try.sizeOf62
  v64 := Try.zeroValue62 }
theorem Try.sortsA (m : Nat) : AnyZI.SortsIn Try.prog Try.sortedA_ren Fence.wide m :=
  ⟨fun blk off cap ss W hH hblk hsz => callsIn_wide.2 (AnyM.slices_Sort_int Try.sortA blk off cap ss W hH hblk hsz),
   fun p cap W => callsIn_wide.2 (AnyM.slices_Sort_int_none Try.sortA p cap W)⟩
theorem Try.vSort (blk off cap : Nat) (zs : List Int) (w : World) (hH : Holds (Value.int .i64) w blk off zs.toArray) (hblk : blk < w.heap.size) (hsz : zs.length < 4611686018427387904) :
    Calls Try.prog 144 #[.slice (some ⟨blk, off, none⟩) zs.length cap] w fun e w' => e = .returned (.tuple #[]) ∧ ∃ n os, w' = grow (putRow (Value.int .i64) (Sort.ahead w n) blk off (zs.mergeSort fun x y => decide (x ≤ y)).toArray) os :=
  AnyM.slices_Sort_int Try.sortA blk off cap zs w hH hblk hsz
theorem Try.vSort_none (p : Option Addr) (cap : Nat) (w : World) : Calls Try.prog 144 #[.slice p 0 cap] w fun e w' => e = .returned (.tuple #[]) ∧ w' = w :=
  AnyM.slices_Sort_int_none Try.sortA p cap w
/-- slices.Sorted(maps.Keys(m)): the iterator, then the sorted keys. -/
theorem Try.vKeys {H : Type} (b nn : Nat) (D0 : DataW H) (R : Value → Option (DataW H × List MemPlace)) (w : World) (hown : w.ownsMap Try.prog 2 R b nn D0) (hmax : Maps.size D0 ≤ maxLen) (hbytes : Maps.size D0 * 8 ≤ 140737488355328) :
    Calls Try.prog 122 #[.map (some b)] w fun ex w1 => ∃ fv, ex = .returned fv ∧ Calls Try.prog 121 #[fv] w1 fun ex w' => ∃ v, ex = .returned v ∧ ∃ ss : List Int, ss.Perm (intKeys D0) ∧ w'.ownsRow w.heap.size 2 1 v ss.length ((ss.mergeSort (fun x y => decide (x ≤ y))).map encZ) ∧ Below w.heap.size w w' := by
  have hbl := hown.lt
  have hseq : SeqGives Fence.wide 2 Try.prog 145 #[.pointer (some ⟨w.heap.size, 0, none⟩)] encZ (fun ss => ss.Perm (intKeys D0)) (Maps.size D0) (w.alloc (.cells #[.map (some b)] 147)) :=
    AnyZI.keys_gives (ρ := Try.keysA_ren) { Try.keysA with } Fence.wide _ trivial rfl (by omega) w.heap.size b nn D0 _ (by simp) (by simp) (by
      obtain ⟨es, clock, hb, Ft, hs, hD⟩ := hown
      exact ⟨es, clock, (Below.heap_alloc _ _ b hbl).trans hb, Ft, hs, hD⟩)
  have cK : CallsIn Fence.wide 5 Try.prog 122 #[.map (some b)] w fun e w' => e = .returned (.func (.func 145) #[] #[.pointer (some ⟨w.heap.size, 0, none⟩)]) ∧ w' = w.alloc (.cells #[.map (some b)] 147) := AnyZI.keys_in Try.keysA Fence.wide 5 trivial rfl (some b) w
  have cS := AnyZI.sorted_in Try.sortedA Fence.wide 5 trivial trivial trivial trivial rfl (by omega) (Try.sortsA _) (enters_of Try.func144 (by kernel_rfl) rfl) 145 #[.pointer (some ⟨w.heap.size, 0, none⟩)] trivial (enters_of Try.func145 (by kernel_rfl) rfl) _ _ hmax hbytes _ hseq
  change CallsIn _ _ Try.prog 121 _ _ _ at cS
  refine (callsIn_wide.1 cK).mono ?_
  rintro _ _ ⟨rfl, rfl⟩
  refine ⟨_, rfl, (callsIn_wide.1 cS).mono ?_⟩
  rintro e w' ⟨v, ss, rfl, hS, hrow, hnil, hb⟩
  exact ⟨v, rfl, ss, hS, ownsRow_base_a hrow (by simp), ((Below.refl _ w).alloc (Nat.le_refl _) _).trans (hb.mono (by simp))⟩
#print axioms Try.vKeys
#print axioms Try.vSort
end Go.Proofs
set_option autoImplicit false
set_option linter.unusedSimpArgs false
namespace Go.Eng
open Go Go.RowKit Go.Proofs Go.Maps
def putsD (d : List Int) : DataW Nat := (d.map (Lit.int .i64)).foldl (fun m x => m.put x (.lit (.bool true))) (.map [])
theorem putsD_app (d : List Int) (k : Int) : putsD (d ++ [k]) = (putsD d).put (.int .i64 k) (.lit (.bool true)) := by simp [putsD, List.foldl_append]
theorem putsD_has (d : List Int) (x : Int) : has (putsD d) (.int .i64 x) = true ↔ x ∈ d := by
  unfold putsD
  rw [has_fold _ _ _ _ isMap_empty (fun y hy => by obtain ⟨a, _, rfl⟩ := List.mem_map.1 hy; trivial)]
  simp only [has, List.any_nil, Bool.false_or, List.any_eq_true, List.mem_map]
  constructor
  · rintro ⟨_, ⟨a, ha, rfl⟩, h⟩
    have : a = x := by simpa [Lit.sameKey] using h
    exact this ▸ ha
  · intro h
    exact ⟨_, ⟨x, h, rfl⟩, by simp [Lit.sameKey]⟩
def JW (m : Nat) (d : List Int) (w : World) : Prop := w.ownsMap Try.prog 2 (plainElem Try.prog 4) m d.length (putsD d)
theorem jw_jb {m : Nat} : JB m (JW m) := by
  rintro d w w' hh ⟨es, clock, hb, F, hs, hD⟩
  exact ⟨es, clock, hh.trans hb, F, hs, hD⟩
theorem jw_new (w : World) : JW w.heap.size [] (w.alloc (.map #[] 0)) := World.ownsMap_made w _ _ _
theorem jw_put {m : Nat} {d : List Int} {w : World} {k : Int} (h : JW m d w) (hd : d.length < maxLen) (hk : (Lit.int .i64 k).wf = true) :
    ∃ w', (Instr.mapUpdate 147 (.map (some m)) (.int .i64 k) (.bool true)).run Try.prog w = .ok () w' ∧ JW m (d ++ [k]) w' ∧ w.grownBy w' (some m) := by
  obtain ⟨w', h1, h2, h3⟩ := World.ownsMap.update h (int_keyed Try.underlying2) Try.underlying147 hd (key := .int .i64 k) (kl := .int .i64 k) (keyOf_int_mk Try.underlying2 hk) (plainElem_bool Try.underlying4 true)
  refine ⟨w', h1, ?_, h3⟩
  unfold JW
  rw [putsD_app, List.length_append]
  exact h2
theorem jw_keys {m : Nat} {d : List Int} {w : World} (h : JW m d w) (hd : d.length ≤ 1000000000) : Calls Try.prog 122 #[.map (some m)] w fun ex w1 => ∃ fv, ex = .returned fv ∧ Calls Try.prog 121 #[fv] w1 fun ex w' => ∃ v, ex = .returned v ∧ w'.ownsRow w.heap.size 2 1 v (sortU d).length ((sortU d).map (Value.int .i64)) ∧ Below w.heap.size w w' := by
  have hs := World.ownsMap.size_le h
  have hM : maxLen = 9223372036854775807 := rfl
  have hp : (sortU d).Perm (intKeys (putsD d)) := by
    obtain ⟨es, hD, hpw, _⟩ := World.ownsMap.entries h (int_keyed Try.underlying2)
    obtain ⟨es', hD', hko⟩ := World.ownsMap.keysOf h
    obtain rfl : es = es' := by rw [hD] at hD'; simpa using hD'
    have hh := putsD_has d
    rw [hD] at hh ⊢
    exact perm_intKeys hpw (fun p hp => by obtain ⟨v, hv⟩ := hko p hp; obtain ⟨x, _, hx, _⟩ := Maps.keyOf_i64 Try.underlying2 hv; exact ⟨x, hx⟩) (asc_nodup (sortU_asc d)) (fun x => (sortU_mem d x).trans (hh x).symm)
  refine (Try.vKeys m _ _ _ w h (by omega) (by omega)).mono ?_
  rintro e w1 ⟨fv, rfl, hc⟩
  refine ⟨fv, rfl, hc.mono ?_⟩
  rintro e w' ⟨v, rfl, ss, hS, hrow, hb⟩
  have hq : ss.Perm (sortU d) := hS.trans hp.symm
  have e1 : ss.mergeSort (fun x y => decide (x ≤ y)) = sortU d := by
    rw [mergeSort_of_perm_i hq, msort_sortU (asc_nodup (sortU_asc d)), sortU_id (sortU_asc d)]
  rw [e1, hq.length_eq] at hrow
  exact ⟨v, rfl, hrow, hb⟩
end Go.Eng
set_option autoImplicit false
namespace Go.Proofs
open Go.RowKit Go.Shelf
attribute [local go_sem] Oper.semAt_some
def vUpto (f : Nat → Int) (k : Nat) : List Int := (List.range k).map f
theorem vUpto_succ (f : Nat → Int) (k : Nat) : vUpto f (k + 1) = vUpto f k ++ [f k] := by simp [vUpto, List.range_succ]
theorem vUpto_length (f : Nat → Int) (k : Nat) : (vUpto f k).length = k := by simp [vUpto]
theorem vUpto_all (zs : List Int) : vUpto (fun j => zs[j]?.getD 0) zs.length = zs := by
  apply List.ext_getElem
  · simp [vUpto]
  · intro i h1 h2
    simp [vUpto, h2]
set_option maxRecDepth 100000 in
set_option maxHeartbeats 2000000 in
theorem Try.values1_in (F : Fence) (n : Nat) (h7 : F.fn 160) (hro : F.round = none) (hn : 1 ≤ n) (l Bs n₀ b off len cap : Nat) (zs : List Int) (hreach : len * 8 ≤ 140737488351232) (hb : b < n₀) (J Jx : List Int → World → Prop)
    (hY : ∀ pre x W, J pre W → pre.length < len → YieldAt F (n - 1) Try.prog l #[.int .i64 x] W fun e W' =>
      (e = .returned (.bool true) ∧ J (pre ++ [x]) W' ∧ Below n₀ W W') ∨ (e = .returned (.bool false) ∧ Jx (pre ++ [x]) W'))
    (W : World) (hBs : W.cell? ⟨Bs, 0, none⟩ = some (.slice (some ⟨b, off, none⟩) len cap)) (hc : ∀ j, j < len → W.cell? ⟨b, off + j, none⟩ = some (.int .i64 (zs[j]?.getD 0))) (h0 : J [] W) :
    CallsIn F n Try.prog 160 #[.func (.yield l) #[] #[], .pointer (some ⟨Bs, 0, none⟩)] W fun e W' => (∃ v, e = .returned v) ∧
      ((∃ ys, ys = vUpto (fun j => zs[j]?.getD 0) len ∧ J ys W') ∨ (∃ pre, Jx pre W')) := by
  refine callsIn_of_wp Try.func160 rfl h7 ?_ hro
  simp only [Try.ntmps160, List.size_toArray, List.length_cons, List.length_nil, Nat.reduceAdd, Nat.reduceSub, Array.replicate_succ, Array.replicate_zero, List.push_toArray, List.append_toArray, List.nil_append, List.cons_append]
  gi_wp2
  gi_loopw [7] (fun i wr => ∃ k : Nat, k ≤ len ∧ i = .int .i64 k ∧ J (vUpto (fun j => zs[j]?.getD 0) k) wr ∧ Below n₀ W wr)
    (fun i _ => len - (intOf i).toNat)
  case atStart => exact ⟨0, Nat.zero_le _, rfl, h0, Below.refl _ _⟩
  case round =>
    obtain ⟨k, hk, rfl, hJs, hnx⟩ := hrel
    have hcx : k < len → wr.cell? ⟨b, off + k, none⟩ = some (.int .i64 (zs[k]?.getD 0)) := fun h => (hnx.cell (p := ⟨b, off + k, none⟩) hb).trans (hc k h)
    by_cases hlt : k < len
    · obtain ⟨fn, tmps, assign, body, hy, hR⟩ := hY _ (zs[k]?.getD 0) wr hJs (by rw [vUpto_length]; exact hlt)
      have hcx' := hcx hlt
      gi_wp2
      refine hR.mono ?_
      rintro e W3 (⟨rfl, hJ3, hk3⟩ | ⟨rfl, hJx3⟩)
      · gi_wp2
        go_roundw
        case rel => exact ⟨k + 1, by omega, by simp, by rw [vUpto_succ]; exact hJ3, hnx.trans hk3⟩
        case measure => simp [intOf]; omega
      · gi_wp2
        refine bodyPost_ret (results_none rfl _ _ _) rfl ?_
        exact ⟨⟨_, rfl⟩, .inr ⟨_, hJx3⟩⟩
    · obtain rfl : k = len := by omega
      gi_wp2
      go_end0
      exact ⟨⟨_, rfl⟩, .inl ⟨_, rfl, hJs⟩⟩
/-- The slice value holds the numbers, in a block below n₀; or there are none. -/
def vInts (n₀ : Nat) (W : World) (sv : Value) (zs : List Int) : Prop :=
  (zs = [] ∧ ∃ a cap, sv = .slice a 0 cap) ∨ ∃ b off cap, sv = .slice (some ⟨b, off, none⟩) zs.length cap ∧ b < n₀ ∧ ∀ j, j < zs.length → W.cell? ⟨b, off + j, none⟩ = some (.int .i64 (zs[j]?.getD 0))
theorem vInts.below {n₀ : Nat} {A B : World} (h : Below n₀ A B) {sv : Value} {zs : List Int} : vInts n₀ A sv zs → vInts n₀ B sv zs
  | .inl e => .inl e
  | .inr ⟨b, off, cap, e, hb, hc⟩ => .inr ⟨b, off, cap, e, hb, fun j hj => (h.cell (p := ⟨b, off + j, none⟩) hb).trans (hc j hj)⟩
set_option maxRecDepth 100000 in
set_option maxHeartbeats 1000000 in
theorem Try.values1_nil_in (F : Fence) (n : Nat) (h7 : F.fn 160) (hro : F.round = none) (l Bs : Nat) (a : Option Addr) (cap : Nat) (J : List Int → World → Prop) (W : World) (hBs : W.cell? ⟨Bs, 0, none⟩ = some (.slice a 0 cap)) (h0 : J [] W) :
    CallsIn F n Try.prog 160 #[.func (.yield l) #[] #[], .pointer (some ⟨Bs, 0, none⟩)] W fun e W' => (∃ v, e = .returned v) ∧ J [] W' := by
  refine callsIn_of_wp Try.func160 rfl h7 ?_ hro
  simp only [Try.ntmps160, List.size_toArray, List.length_cons, List.length_nil, Nat.reduceAdd, Nat.reduceSub, Array.replicate_succ, Array.replicate_zero, List.push_toArray, List.append_toArray, List.nil_append, List.cons_append]
  gi_wp2
  gi_loopw [7] (fun i wr => i = .int .i64 0 ∧ J [] wr) (fun _ _ => 0)
  case atStart => exact ⟨rfl, h0⟩
  case round =>
    obtain ⟨rfl, hJs⟩ := hrel
    gi_wp2
    go_end0
    exact ⟨⟨_, rfl⟩, hJs⟩
theorem Try.values_stops (F : Fence) (n : Nat) (h7 : F.fn 160) (hro : F.round = none) (hn : 1 ≤ n) (Bs n₀ : Nat) (sv : Value) (zs : List Int) (hreach : zs.length * 8 ≤ 140737488351232) (w : World) (hBs : Bs < w.heap.size) (hn₀ : n₀ ≤ w.heap.size)
    (hc : w.cell? ⟨Bs, 0, none⟩ = some sv) (hI : vInts n₀ w sv zs) :
    SeqStopsK F n Try.prog 160 #[.pointer (some ⟨Bs, 0, none⟩)] (fun x : Int => #[Value.int .i64 x]) (Below n₀) (fun ys => ys = zs) (fun _ => True) zs.length w := fun l J Jx W hW _ _ hY h0 => by
  have hc' := (hW.cell (p := ⟨Bs, 0, none⟩) hBs).trans hc
  rcases hI.below (hW.mono hn₀) with ⟨rfl, a, cap, rfl⟩ | ⟨b, off, cap, rfl, hb, hcs⟩
  · exact (Try.values1_nil_in F n h7 hro l Bs a cap J W hc' h0).mono fun e W' ⟨he, hj⟩ => ⟨he, .inl ⟨_, rfl, hj⟩⟩
  · refine (Try.values1_in F n h7 hro hn l Bs n₀ b off zs.length cap zs hreach hb J Jx hY W hc' hcs h0).mono ?_
    rintro e W' ⟨he, ⟨ys, rfl, hj⟩ | ⟨pre, hj⟩⟩
    · exact ⟨he, .inl ⟨_, vUpto_all zs, hj⟩⟩
    · exact ⟨he, .inr ⟨_, trivial, hj⟩⟩
set_option maxHeartbeats 1000000 in
theorem Try.values_in (F : Fence) (n : Nat) (h5 : F.fn 147) (hro : F.round = none) (a : Option Addr) (len cap : Nat) (w : World) :
    CallsIn F n Try.prog 147 #[.slice a len cap] w fun e w' => e = .returned (.func (.func 160) #[] #[.pointer (some ⟨w.heap.size, 0, none⟩)]) ∧ w' = w.alloc (.cells #[.slice a len cap] 52) := by
  refine callsIn_of_wp Try.func147 rfl h5 ?_ hro
  simp only [Try.ntmps147, List.size_toArray, List.length_cons, List.length_nil, Nat.reduceAdd, Nat.reduceSub, Array.replicate_succ, Array.replicate_zero, List.push_toArray, List.append_toArray, List.nil_append, List.cons_append]
  gi_wp2
  go_ret
  exact ⟨rfl, rfl⟩
theorem Try.vinfo2 : (Try.prog.info? 2).map (fun i => (i.zero, i.size, i.bytes)) = some (some (.int .i64 0), 1, 8) := by kernel_rfl
set_option maxRecDepth 100000 in
set_option maxHeartbeats 2000000 in
/-- slices.AppendSeq(nil, slices.Values(s)): a new slice that owns s's values. -/
theorem Try.vappend_in (F : Fence) (n : Nat) (h157 : F.fn 157) (h160 : F.fn 160) (hro : F.round = none) (hn : 3 ≤ n) (Bs : Nat) (sv : Value) (zs : List Int) (hlen : zs.length ≤ maxLen) (hbytes : zs.length * 8 ≤ 140737488351232) (w : World) (hBs : Bs < w.heap.size) (hcs : w.cell? ⟨Bs, 0, none⟩ = some sv) (hI : vInts w.heap.size w sv zs) :
    CallsIn F n Try.prog 157 #[.slice none 0 0, .func (.func 160) #[] #[.pointer (some ⟨Bs, 0, none⟩)]] w fun e W' => ∃ v, e = .returned v ∧ W'.ownsRow w.heap.size 2 1 v zs.length (zs.map (Value.int .i64)) ∧ (v = .slice none 0 0 ↔ zs = []) ∧ Below w.heap.size w W' := by
  have h1 : 1 ≤ n := by omega
  obtain ⟨i0, hi, hz0, hz1, hz2⟩ := info_parts Try.vinfo2
  refine callsIn_of_wp_marks Try.func157 rfl h157 ?_ hro
  simp only [Try.ntmps157, List.size_toArray, List.length_cons, List.length_nil, Nat.reduceAdd, Nat.reduceSub, Array.replicate_succ, Array.replicate_zero, List.push_toArray, List.append_toArray, List.nil_append, List.cons_append]
  gi_wp2
  have bO := Boxed.new w 52 (.slice none 0 0)
  have hB0 : Below w.heap.size w (w.alloc (.cells #[.slice none 0 0] 52)) := (Below.refl _ w).alloc (Nat.le_refl _) _
  refine wpIn_rangeFunc_ownG hro h1 (gf := 160) (lb := #[.pointer (some ⟨Bs, 0, none⟩)]) rfl h160 (enters_of Try.func160 (by kernel_rfl) rfl)
    (Try.values_stops F (n - 1) h160 hro (by omega) Bs w.heap.size sv zs hbytes w hBs (Nat.le_refl _) hcs hI) belowK_t (belowK_b (by simp)) hB0 (fun _ => rfl)
    (fun pre W => (∃ v, Boxed W w.heap.size 52 v ∧ W.ownsRow w.heap.size 2 1 v pre.length (pre.map (Value.int .i64)) ∧ (v = .slice none 0 0 ↔ pre = [])) ∧ Below w.heap.size w W)
    (fun _ _ _ => False)
    (OwnFrom.and (Own.from (holdsRow_own w.heap.size w.heap.size 52 2 1 (fun pre : List Int => pre.length) (fun pre => pre.map (Value.int .i64)) (fun pre v => v = .slice none 0 0 ↔ pre = [])) _) (ownFrom_below (Nat.le_refl _) (by simp)))
    (fun _ _ _ _ _ hs _ _ => hs)
    ⟨⟨_, bO, World.ownsRow_nil _ _ _ _, by simp⟩, hB0⟩
    (fun x => { tmps := #[.slice none 0 0, .func (.func 160) #[] #[.pointer (some ⟨Bs, 0, none⟩)], .pointer (some ⟨w.heap.size, 0, none⟩), undef, .slice none 0 0, .int .i64 x, .func (.func 160) #[] #[.pointer (some ⟨Bs, 0, none⟩)], .int .i64 x, undef, undef, undef, undef, undef], defers := [] }) ?assign ?body ?done ?stop
  case assign =>
    intro l x W K hK
    gi_wp2
    exact hK
  case body =>
    rintro l pre x W ⟨⟨v, hv, hrow, hnil⟩, hB⟩ hlt
    have hc := hv.cell
    gi_wp2_with (gi_at_builtin; refine wpListIn_append_own _ rfl _ _ 52 rfl w.heap.size 2 i0 (.int .i64 0) 1 8 Try.underlying52 hi hz0 hz1 hz2 rfl (by decide) _ _ _ rfl (hrow.alloc _) ⟨W.heap.size, 0, none⟩ 1 1 [.int .i64 x] rfl rfl (cell_one_new _ _ _) (by simp [Value.oneCell']) (by omega) (by omega) (by have := hB.size; simp; omega) ?_; intro v' w1 hown' hgrow _; obtain ⟨g', cap', rfl⟩ := ownsRow_succ hown'; obtain ⟨hv1, hv2, hr2, hk2, hb2⟩ := hv.appended (by decide) hrow hB.size (Nat.le_refl _) hown' hgrow; have hc1 := hv1.cell; have hf1 := hv1.frozen)
    exact ⟨hk2.from _, hb2, ⟨_, hv2, by simpa using hr2, by simp⟩, hB.trans hb2⟩
  case done =>
    rintro D ys W hD rfl ⟨⟨v, hv, hrow, hnil⟩, hB⟩ hK
    have hc := hv.cell
    gi_wp2
    refine ⟨by simp, .inl ⟨_, _, rfl, run_takeDeferred hK, ?_⟩⟩
    exact ⟨_, results_tmp rfl _ _ _, v, rfl, ownsRow_putObj hrow _ hK rfl, hnil, hB.trans (belowK_b (w := w) (Nat.le_refl _) W D _ _ (by simp at hD; omega) hK rfl rfl)⟩
  case stop =>
    rintro D c pre W _ _ h _
    exact h.elim
#print axioms Try.vappend_in
end Go.Proofs
set_option autoImplicit false
namespace Go.Proofs
open Go.Shelf
open Go.Shelf
def Try.laysSlN43_f146_ren : Go.Shelf.Ren := ⟨fun | 43 => 146 | n => n, fun | 22 => 52 | 23 => 2 | 3 => 3 | 4 => 4 | 0 => 0 | n => n, fun | n => n⟩
theorem Try.laysSlN43_f146 : Go.Proofs.SlLaysN.n43 Try.prog Try.laysSlN43_f146_ren := {
  mixed := by kernel_rfl
  f43 := ⟨Try.f146.name, by decide, Try.func146.trans (congrArg some (by kernel_rfl))⟩
  t0 := Try.underlying0
  a0 := Try.isAgg0
  z0 := Try.sizeOf0
  v0 := Try.zeroValue0
  t3 := Try.underlying3
  a3 := Try.isAgg3
  z3 := Try.sizeOf3
  v3 := Try.zeroValue3
  t4 := Try.underlying4
  a4 := Try.isAgg4
  z4 := Try.sizeOf4
  v4 := Try.zeroValue4
  t22 := Try.underlying52
  a22 := Try.isAgg52
  z22 := Try.sizeOf52
  v22 := Try.zeroValue52
  t23 := Try.underlying2
  a23 := Try.isAgg2
  z23 := Try.sizeOf2
  v23 := Try.zeroValue2
  i23 := by kernel_rfl }
open Go.RowKit Go.Lib Go.Sort in
theorem Try.slices_Compact_int (blk off cap : Nat) (zs : List Int) (w : World) (hH : Holds (Value.int .i64) w blk off zs.toArray) (hsz : zs.length ≤ 9223372036854775807) (hcap : zs.length ≤ cap) :
    Calls Try.prog 146 #[.slice (some ⟨blk, off, none⟩) zs.length cap] w fun e w' => e = .returned (.slice (some ⟨blk, off, none⟩) (Lib.compact zs).length cap) ∧ ∃ q, w' = putRow (Value.int .i64) (Sort.ahead w q) blk off (Lib.compact zs ++ List.replicate (zs.length - (Lib.compact zs).length) 0).toArray := AnyG.slices_Compact_int Try.laysSlN43_f146 blk off cap zs w hH hsz hcap
open Go.RowKit Go.Lib Go.Sort in
theorem Try.slices_Compact_int_empty (a : Option Addr) (cap : Nat) (w : World) :
    Calls Try.prog 146 #[.slice a 0 cap] w fun e w' => e = .returned (.slice a 0 cap) ∧ w' = w := AnyG.slices_Compact_int_empty Try.laysSlN43_f146 a cap w
end Go.Proofs
