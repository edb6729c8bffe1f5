import Derived.Test.YtamjcdfjkekdjaaGreatEngC
set_option autoImplicit false
set_option linter.unusedVariables false
set_option linter.unusedSimpArgs false
namespace Go.Eng
open Go Go.RowKit
variable {P : Program}
theorem ar_frz_if {ops : Array Oper} {draw : Bool} {st0 : AState} {Q : Exit → AState → Prop} {i j dj : Nat} {b : Bool} {st st1 : AState} {acc : List Eff} {o : Oper} {E0 E : Eff} {L : List Nat} (ho : ops[i]? = some o) (hg : o.guard = some (j, b)) (hj : (ops[j]?).bind (·.dst) = some dj) (hv : tget st.t dj = .pv (.v (.bool b))) (hk : st.killAll (creates o) = st1) (hL : ownTs st1 (partsO o) = L) (hne : L ≠ []) (h0 : frzE st1 L = some E0)
    (hs : step P o (st1.app E0.u) = some E) (hE : E.c = creates o) (hc : (creates o).all (fun n => !E0.u.has n) = true)
    (k : AR P ops draw st0 Q (i + 1, st1.app (seqE E0 E).u, if draw = true then acc ++ [{ seqE E0 E with r := .tmp dj :: (seqE E0 E).r }] else acc)) : AR P ops draw st0 Q (i, st, acc) := by
  refine ar_loc_if (E := seqE E0 E) (st1 := st1) ho hg hj hv (by show st.killAll E.c = st1; rw [hE]; exact hk) (l_pre (frzE_ghost h0) (fun n hn => ?_) (step_local hs)) k
  rw [hE] at hn
  have := List.all_eq_true.1 hc n hn
  simpa using this
end Go.Eng
