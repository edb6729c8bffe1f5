import Derived.Test.YtamjcdfjkekdjaaEb7
set_option autoImplicit false
set_option linter.unusedVariables false
set_option linter.unusedSimpArgs false
namespace Go.Eng
open Go Go.RowKit
variable {P : Program}

theorem run_callFunc_body {f : FuncId} {fn : Func} (hf : P.funcs[f]? = some fn) (hname : (fn.name == "runtime.NumGoroutine") = false) (hb : fn.body.isNone = false) (args : Array Value) (w : World) : (callFunc f args).run P w = .ok (.enter f args) w := by
  have h1 : ¬ fn.name = "runtime.NumGoroutine" := by simpa using hname
  have h2 : ¬ fn.body = none := by cases hx : fn.body <;> simp_all
  simp [callFunc, hf, h1, h2]
def Enters (P : Program) (f : FuncId) : Prop := ∀ (args : Array Value) (w : World), (callFunc f args).run P w = .ok (.enter f args) w

def dstU (d : Option Nat) (a : AV) : List (Nat × AV) := match d with | some d => [(d, a)] | none => []

theorem behind_keep {Γ : Ctx} {st : AState} {ρ ρc : Rho} {w w' : World} (h : SOk Γ st.s ρ w) {r : List Name} {X Y : SMap} (hX : OkX r st X) (h' : SOk (ctxAt w (ρ.at r) X) Y ρc w') (r2 C : List Name) : Keep ρ.F w (ρ.behind ρc r2 C).F w' := by
  refine ⟨fun b hb => h'.fmono b hb, fun b hb => h'.below b (h.flt b hb) ?_⟩
  rintro ⟨n, s, h1, h2⟩
  obtain ⟨i, rfl, hi, k1⟩ := getX hX h1
  rw [slotBlk_at] at h2
  exact h.sep _ _ b k1 h2 hb

theorem Ok.behind {Γ : Ctx} {st : AState} {ρ ρc : Rho} {a : Act} {w w' : World} (h : Ok Γ st ρ a w) {r r2 C : List Name} {X Y : SMap} {res : AV} {v : Value} (hX : OkX r st X) (hc : CallOk r r2 C Y) (hfree : ∀ n ∈ C, st.free n)
    (hrX : ∀ i, i < r.length → ∃ s, sget X (.ext i) = some s) (hres : res.okN r r2 C = true) (h' : SOk (ctxAt w (ρ.at r) X) Y ρc w') (hv : ARel ρc w' res v) (dst : Option Nat) (hd : ∀ d, dst = some d → d < st.n) :
    Ok Γ (st.app ⟨dstU dst (res.ren r2), renS r2 Y ++ noneS r⟩) (ρ.behind ρc r2 C) (a.put dst v) w' := by
  have hB : Behind r r2 C ρ ρc := ⟨hc.nd2, fun i _ => by rw [h'.xblk i]; rfl⟩
  have hk := behind_keep h.sok hX h' r2 C
  have hsame : ∀ n, n ∉ C → Same ρ (ρ.behind ρc r2 C) n := fun n hn => ⟨by simp [Rho.behind, hn], by simp [Rho.behind, hn]⟩
  have htm : ∀ t, ARel (ρ.behind ρc r2 C) w' (tget st.t t) (a.tmps.getD t undef) := fun t =>
    ARel.keep (ρ := ρ) (ρ' := ρ.behind ρc r2 C) hk _ _ (fun n hn => hsame n fun hC => by rw [(hfree n hC).1 t] at hn; cases hn) (h.tmps t)
  have hsok := h.sok.behind hX hc hfree hrX h'
  have hsok' : SOk Γ ((renS r2 Y ++ noneS r) ++ st.s) (ρ.behind ρc r2 C) w' := by rw [List.append_assoc]; exact hsok
  cases dst with
  | none => exact ⟨h.defers, h.size, htm, hsok'⟩
  | some d =>
    have hlt := hd d rfl
    have h0 : Ok Γ { st with s := (renS r2 Y ++ noneS r) ++ st.s } (ρ.behind ρc r2 C) a w' := ⟨h.defers, h.size, htm, hsok'⟩
    exact h0.setT hlt (ARel.behind hB _ _ hres hv)

/-- The call's arguments, as the other side has them. -/
structure Args (st : AState) (x : Operand) (args : Array Operand) (f : FuncId) (r : List Name) (cargs : List AV) : Prop where
  callee : ∃ fi ca, ev st x = .fn f fi ca ∧ AV.renL r cargs = fi ++ args.toList.map (ev st) ++ ca
theorem ARels.ev {Γ : Ctx} {st : AState} {ρ : Rho} {a : Act} {w : World} (h : Ok Γ st ρ a w) : ∀ l : List Operand, ARels ρ w (l.map (ev st)) (l.map a.eval)
  | [] => rfl
  | x :: l => ⟨_, _, rfl, ev_rel h x, ARels.ev h l⟩
theorem map_ev_agree {st st2 : AState} {r : List Key} (h : ∀ k ∈ r, st2.get k = st.get k) : ∀ (l : List Operand), (∀ k ∈ keysL l, k ∈ r) → l.map (ev st2) = l.map (ev st)
  | [], _ => rfl
  | x :: l, hk => by
    simp only [List.map_cons]
    rw [ev_agree h (fun k hx => hk k (by simp [keysL, hx])), map_ev_agree h l (fun k hx => hk k (by
      simp only [keysL, List.flatMap_cons, List.mem_append]; exact .inr hx))]

theorem l_call {o : Oper} {st : AState} {x : Operand} {args : Array Operand} {ats : Array TypeId} {f : FuncId} {fi ca : List AV} {r r2 C : List Name} {X Y : SMap} {cargs : List AV} {res : AV}
    (ho : o.op = .call { callee := .value x, args, argTypes := ats }) (hx : ev st x = .fn f fi ca) (hargs : AV.renL r cargs = fi ++ (args.toList.map (ev st) ++ ca)) (hent : Enters P f) (hsc : SCX P f cargs X res Y)
    (hX : OkX r st X) (hc : CallOk r r2 C Y) (hrX : ∀ i, i < r.length → ∃ s, sget X (.ext i) = some s) (hres : res.okN r r2 C = true) (hd : ∀ d, o.dst = some d → d < st.n) :
    Local P o st ⟨keyO x ++ keysL args.toList ++ r.map .slot, ⟨dstU o.dst (res.ren r2), renS r2 Y ++ noneS r⟩, C⟩ := by
  intro st2 hn hr Γ ρ a w K Q hok hfree hk
  have hx2 : ev st2 x = .fn f fi ca := by rw [ev_agree hr (fun k h => by simp [h]), hx]
  have ha2 : args.toList.map (ev st2) = args.toList.map (ev st) := map_ev_agree hr _ (fun k h => by simp [h])
  have hX2 : OkX r st2 X := by
    intro p hp
    obtain ⟨i, s, h1, h2, h3, h4⟩ := hX p hp
    refine ⟨i, s, h1, h2, h3, ?_⟩
    rw [sget_agree hr, h4]
    simp only [List.mem_append, List.mem_map]
    refine .inr ⟨_, ?_, rfl⟩
    simp only [List.getD, List.getElem?_eq_getElem h2, Option.getD_some]
    exact List.getElem_mem h2
  have hf := ev_rel hok x
  rw [hx2] at hf
  obtain ⟨af, ac, h1, h2, h3⟩ := hf
  have hvals : ARels ρ w (AV.renL r cargs) (af ++ (args.map a.eval) ++ ac).toList := by
    rw [hargs, ← ha2]
    simp only [Array.toList_append, Array.toList_map, List.append_assoc]
    exact h2.append ((ARels.ev hok _).append h3)
  have hcall := hsc (ctxAt w (ρ.at r) X) (ρ.at r) w (af ++ (args.map a.eval) ++ ac) rfl (hok.sok.at hc.nd hX2) ((ARels.renIff (ρ.at_ren r) _ _).2 hvals)
  unfold Oper.wp
  have hrun : (execOp a.eval o).run P w = .ok (.enter f (af ++ (args.map a.eval) ++ ac)) w := by
    unfold execOp
    simp only [ho, resolve, h1, Deferred.ofValue, Sem.run_bind, Sem.run_pure, Result.andThen_ok, invoke]
    rw [hent]
  rw [hrun, Oper.upon_enter]
  refine hcall.mono ?_
  rintro e w' ⟨v, ρc, rfl, hv, h'⟩
  exact hk _ _ _ (hok.behind hX2 hc hfree hrX hres h' hv o.dst (fun d hd' => by rw [hn]; exact hd d hd'))

end Go.Eng
