import Derived.Test.YtamjcdfjkekdjaaRegs
import Derived.MapKept
import Derived.Carry
set_option linter.unusedSimpArgs false
set_option linter.unusedVariables false
set_option linter.constructorNameAsVariable false
set_option autoImplicit false
namespace Go.Eng
open Go Go.RowKit Go.Proofs Go.MapKept
theorem run_insert {P : Program} {t kt et : TypeId} {k : IntKind} {r clock : Nat} {es : Array MapEntry} {n : Int} {val : Value} {w : World} (hm : P.underlying t = some (.map kt et)) (hk : P.underlying kt = some (.int k)) (hb : w.heap[r]? = some (.map es clock))
    (hf : Instr.findNow (.int k) (.int k n) es.toList 0 = some none) :
    (Instr.mapUpdate t (.map (some r)) (.int k n) val).run P w = .ok () { w with heap := w.heap.setIfInBounds r (.map (es.push { key := .int k n, val := val, born := clock }) (clock + 1)) } := by
  have h1 := run_checkKey (P := P) (w := w) hk (k := .int k n) (by simp [IsKey]) false 9999
  have h2 := run_findKey (P := P) (w := w) hk hf
  have h3 : (getObj r).run P w = .ok (.map es clock) w := by simp [getObj, Sem.run, hb]
  simp only [Instr.mapUpdate, Sem.run_bind, run_underlying hm, Result.andThen_ok, h3, h1, h2]
  exact run_setObj_map _ hb
theorem run_lookup_int {P : Program} {t kt et : TypeId} {k : IntKind} {r clock : Nat} {es : Array MapEntry} {n : Int} {v : Value} {w : World} (hm : P.underlying t = some (.map kt et)) (hk : P.underlying kt = some (.int k)) (hb : w.heap[r]? = some (.map es clock))
    (hf : ∃ i, Instr.findNow (.int k) (.int k n) es.toList 0 = some (some (i, v))) :
    (Instr.lookup t (.map (some r)) (.int k n) false).run P w = .ok v w := by
  obtain ⟨i, hf⟩ := hf
  have h1 := run_checkKey (P := P) (w := w) hk (k := .int k n) (by simp [IsKey]) es.isEmpty 9999
  have h2 := run_findKey (P := P) (w := w) hk hf
  have h3 : (getObj r).run P w = .ok (.map es clock) w := by simp [getObj, Sem.run, hb]
  simp only [Instr.lookup, Sem.run_bind, run_underlying hm, Result.andThen_ok, h3, Sem.run_pure, h1, h2]
  rfl
theorem run_lookup_none {P : Program} {t kt et : TypeId} {k : IntKind} {r clock : Nat} {es : Array MapEntry} {n : Int} {z : Value} {w : World} (hm : P.underlying t = some (.map kt et)) (hk : P.underlying kt = some (.int k)) (hb : w.heap[r]? = some (.map es clock))
    (hf : Instr.findNow (.int k) (.int k n) es.toList 0 = some none) (hz : zeroOf P et = some z) :
    (Instr.lookup t (.map (some r)) (.int k n) false).run P w = .ok z w := by
  have h1 := run_checkKey (P := P) (w := w) hk (k := .int k n) (by simp [IsKey]) es.isEmpty 9999
  have h2 := run_findKey (P := P) (w := w) hk hf
  have h3 : (getObj r).run P w = .ok (.map es clock) w := by simp [getObj, Sem.run, hb]
  simp only [Instr.lookup, Sem.run_bind, run_underlying hm, Result.andThen_ok, h3, Sem.run_pure, h1, h2, run_zero hz]
  rfl
end Go.Eng
