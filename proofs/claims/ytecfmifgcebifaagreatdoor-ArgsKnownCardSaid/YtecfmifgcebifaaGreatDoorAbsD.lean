/-
  An interpreter over lists and objects for the given form of Go code, and the proof that it answers as the model does. Part 4.
-/
import Derived.Test.YtecfmifgcebifaaGreatDoorAbsC
import Derived.Test.YtecfmifgcebifaaGreatDoorAbsB
import Derived.Laws.Externs
import Derived.Lib.Bytealg
import Derived.Below
/-
  Functions: what the small form's call answers, the model's does.
-/
section
namespace Go.Abs

def cres (P : Program) (N : Nat) : List ResultVar → Option (List ARes)
  | [] => some []
  | .tmp t :: l => if Nat.blt t N then (cres P N l).map (.tmp t :: ·) else none
  | .cell t ty :: l => if Nat.blt t N then (match agT P ty with
    | some ag => (cres P N l).map (.cell t ag :: ·)
    | none => none) else none

/-- A function of the small form, out of the model's. -/
def cfn (P : Program) (C : Cfg) (f : FuncId) : Option AFn :=
  match P.funcs[f]? with
  | none => none
  | some fn => match fn.body with
    | none => none
    | some c => (cres P fn.ntmps fn.results.toList).map fun rs => ⟨ccode P C fn.ntmps (C.ob f) c, rs, C.keep f⟩

def resF (tmps : Array Value) : ResultVar → Sem Value
  | .tmp t => pure (tmps.getD t undef)
  | .cell a t => do loadVar t (← asAddr (tmps.getD a undef))

section
variable {P : Program} {C : Cfg} {N : Nat} {g : G} {M : AMem} {hl : HL} {w : World} {l : List AVal} {a : Act}

theorem results_list (s : SRel C g M hl w l a.tmps) (hN : N ≤ a.tmps.size) : ∀ (rs : List ResultVar) (rs' : List ARes) (vs : List AVal), cres P N rs = some rs' → resultsA l M rs' = some vs →
    ∃ us, (rs.mapM (resF a.tmps)).run P w = .ok us w ∧ VRels g M.hw hl vs us
  | [], rs', vs, hc, h => by
    simp only [cres, Option.some.injEq] at hc
    subst hc
    simp only [resultsA, Option.some.injEq] at h
    subst h
    exact ⟨[], by simp, VRels_nil⟩
  | .tmp t :: rs, rs', vs, hc, h => by
    simp only [cres] at hc
    split at hc
    · rename_i ht
      rw [Nat.blt_eq] at ht
      cases hr : cres P N rs with
      | none => rw [hr] at hc; cases hc
      | some rs1 =>
        rw [hr] at hc
        simp only [Option.map_some, Option.some.injEq] at hc
        subst hc
        simp only [resultsA, Option.bind_eq_bind, Option.bind_some] at h
        cases hv : resultsA l M rs1 with
        | none => rw [hv] at h; cases h
        | some vs1 =>
          rw [hv] at h
          simp only [Option.bind_some, Option.some.injEq] at h
          subst h
          obtain ⟨us, h1, h2⟩ := results_list s hN rs rs1 vs1 hr hv
          refine ⟨a.tmps.getD t undef :: us, ?_, VRels_cons (s.t t (Nat.lt_of_lt_of_le ht hN)) h2⟩
          simp [List.mapM_cons, resF, h1]
    · cases hc
  | .cell t ty :: rs, rs', vs, hc, h => by
    simp only [cres] at hc
    split at hc
    · rename_i ht
      rw [Nat.blt_eq] at ht
      split at hc
      · rename_i ag hag
        cases hr : cres P N rs with
        | none => rw [hr] at hc; cases hc
        | some rs1 =>
          rw [hr] at hc
          simp only [Option.map_some, Option.some.injEq] at hc
          subst hc
          simp only [resultsA, Option.bind_eq_bind] at h
          cases hl1 : ReadOp.run M (Opd.ev l) (.load ag (.tmp t)) with
          | none => rw [hl1] at h; cases h
          | some v =>
            rw [hl1] at h
            simp only [Option.bind_some] at h
            cases hv : resultsA l M rs1 with
            | none => rw [hv] at h; cases h
            | some vs1 =>
              rw [hv] at h
              simp only [Option.bind_some, Option.some.injEq] at h
              subst h
              obtain ⟨us, h1, h2⟩ := results_list s hN rs rs1 vs1 hr hv
              have rt := s.t t (Nat.lt_of_lt_of_le ht hN)
              have hload : ∃ u, (resF a.tmps (.cell t ty)).run P w = .ok u w ∧ VRel g M.hw hl v u := by
                simp only [ReadOp.run, Opd.ev] at hl1
                split at hl1
                · rename_i ob i ex
                  rw [ex] at rt; simp only [VRel] at rt
                  obtain ⟨b, hb, hvv⟩ := rt
                  split at hl1
                  · rename_i ls hls
                    obtain ⟨b', hb', hcell⟩ := obj_cells s.wr hls
                    rw [hb] at hb'; injection hb' with hb'; subst hb'
                    obtain ⟨u, q1, q2⟩ := loadVar_run (P := P) (hl := Stk.empty) (g := g) (hw := M.hw) (w := w) hag hl1 (b := b) (off := 0) (fun j x hj => by rw [Nat.zero_add]; exact hcell j x hj)
                    rw [Nat.zero_add] at q1
                    exact ⟨u, by simp only [resF, hvv, asAddr, Sem.run_bind, Sem.run_pure, Result.andThen_ok, q1], q2.toFrame⟩
                  · cases hl1
                · rename_i ls i ex
                  rw [ex] at rt; simp only [VRel] at rt
                  obtain ⟨b, k, hvv, hf⟩ := rt
                  obtain ⟨u, q1, q2⟩ := loadVar_run (P := P) (hl := Stk.empty) (g := g) (hw := M.hw) (w := w) hag hl1 (b := b) (off := k) (fix_cells s.wr hf)
                  exact ⟨u, by simp only [resF, hvv, asAddr, Sem.run_bind, Sem.run_pure, Result.andThen_ok, q1], q2.toFrame⟩
                · cases hl1
              obtain ⟨u, q1, q2⟩ := hload
              refine ⟨u :: us, ?_, VRels_cons q2 h2⟩
              simp only [List.mapM_cons, Sem.run_bind, q1, Result.andThen_ok, h1, Sem.run_pure]
      · cases hc
    · cases hc

def oneOrTupV (us : List Value) : Value := if h : us.toArray.size = 1 then us.toArray[0] else .tuple us.toArray

theorem oneOrTup_rel {hw : Stk Nat} {vs : List AVal} {us : List Value} (h2 : VRels g hw hl vs us) : VRel g hw hl (oneOrTup vs) (oneOrTupV us) := by
  unfold oneOrTupV
  match vs, us, h2 with
  | [], us, h2 =>
    simp only [VRels] at h2; subst h2
    simp only [oneOrTup, VRel]
    exact ⟨[], by simp, VRels_nil⟩
  | [x], us, h2 =>
    simp only [VRels] at h2
    obtain ⟨v, r, rfl, hv, rfl⟩ := h2
    simpa [oneOrTup] using hv
  | x :: y :: zs, us, h2 =>
    have hl := VRels_length h2
    have hne : ¬ us.toArray.size = 1 := by simp at hl ⊢; omega
    rw [dif_neg hne]
    simp only [oneOrTup, VRel]
    exact ⟨us, rfl, h2⟩

theorem results_vals (s : SRel C g M hl w l a.tmps) (hN : N ≤ a.tmps.size) (fn : Func) {rs' : List ARes} {vs : List AVal} (hc : cres P N fn.results.toList = some rs') (h : resultsA l M rs' = some vs) :
    ∃ us, (results fn a.tmps).run P w = .ok (oneOrTupV us) w ∧ VRels g M.hw hl vs us := by
  obtain ⟨us, h1, h2⟩ := results_list (P := P) s hN _ _ _ hc h
  have e : results fn a.tmps = (fn.results.mapM (resF a.tmps)) >>= fun vs => pure (if h : vs.size = 1 then vs[0] else .tuple vs) := by
    unfold results
    congr 1
  have e2 : (fn.results.mapM (resF a.tmps)).run P w = .ok us.toArray w := by
    rw [Array.mapM_eq_mapM_toList]
    simp only [Sem.run_map, h1]
    rfl
  refine ⟨us, ?_, h2⟩
  rw [e, Sem.run_bind, e2]
  simp [oneOrTupV]

theorem results_sound (s : SRel C g M hl w l a.tmps) (hN : N ≤ a.tmps.size) (fn : Func) {rs' : List ARes} {vs : List AVal} (hc : cres P N fn.results.toList = some rs') (h : resultsA l M rs' = some vs) :
    ∃ v, (results fn a.tmps).run P w = .ok v w ∧ VRel g M.hw hl (oneOrTup vs) v := by
  obtain ⟨us, h1, h2⟩ := results_list (P := P) s hN _ _ _ hc h
  have e : results fn a.tmps = (fn.results.mapM (resF a.tmps)) >>= fun vs => pure (if h : vs.size = 1 then vs[0] else .tuple vs) := by
    unfold results
    congr 1
  have e2 : (fn.results.mapM (resF a.tmps)).run P w = .ok us.toArray w := by
    rw [Array.mapM_eq_mapM_toList]
    simp only [Sem.run_map, h1]
    rfl
  refine ⟨if h : us.toArray.size = 1 then us.toArray[0] else .tuple us.toArray, ?_, ?_⟩
  · rw [e, Sem.run_bind, e2]
    simp
  · match vs, us, h2 with
    | [], us, h2 =>
      simp only [VRels] at h2; subst h2
      simp only [oneOrTup, VRel]
      exact ⟨[], by simp, VRels_nil⟩
    | [x], us, h2 =>
      simp only [VRels] at h2
      obtain ⟨v, r, rfl, hv, rfl⟩ := h2
      simpa [oneOrTup] using hv
    | x :: y :: zs, us, h2 =>
      have hl := VRels_length h2
      have hne : ¬ us.toArray.size = 1 := by simp at hl ⊢; omega
      rw [dif_neg hne]
      simp only [oneOrTup, VRel]
      exact ⟨us, rfl, h2⟩

/-- What the functions are. -/
structure FsOK (P : Program) (C : Cfg) (fs : FuncId → Option Callee) : Prop where
  order : P.follows .mixedOrders = true
  code : ∀ f fn, fs f = some (.code fn) → cfn P C f = some fn
  prim : ∀ f run, fs f = some (.prim run) → FOK P C f run
  tame : ∀ f run, fs f = some (.prim run) → ∀ args M r, run args M = some r → Tame M r.2
  name : ∀ (f : Nat) fn, P.funcs[f]? = some fn → (fn.name == "runtime.NumGoroutine") = false

theorem acall_tame {fs : FuncId → Option Callee} (ht : ∀ f run, fs f = some (.prim run) → ∀ args M r, run args M = some r → Tame M r.2) : ∀ (k : Nat) (f : FuncId) (args : List AVal) (M : AMem) (r : AVal × AMem), acall fs k f args M = some r → Tame M r.2
  | 0, f, args, M, r, h => by simp [acall] at h
  | k + 1, f, args, M, r, h => by
    simp only [acall] at h
    cases hf : fs f with
    | none => rw [hf] at h; cases h
    | some ce =>
      rw [hf] at h
      cases ce with
      | prim run => exact ht f run hf args M r h
      | code fn =>
        simp only at h
        have fin : ∀ (fr : Fr) (M1 : AMem), Tame { M with dirty := [] } M1 → (match resultsA fr.tmps M1 fn.res with | some vs => finish fn.keep fr.hl M M1 vs | none => none) = some r → Tame M r.2 := by
          intro fr M1 t hr
          cases hv : resultsA fr.tmps M1 fn.res with
          | none => rw [hv] at hr; cases hr
          | some vs => rw [hv] at hr; obtain ⟨v, M'⟩ := r; exact finish_tame t hr
        split at h
        · rename_i fr M1 hex
          exact fin fr M1 (exec_tame (acall_tame ht k) k _ hex) h
        · rename_i fr M1 hex
          exact fin fr M1 (exec_tame (acall_tame ht k) k _ hex) h
        · cases h

theorem acall_sound {fs : FuncId → Option Callee} (hfs : FsOK P C fs) : ∀ (k : Nat) (f : FuncId), FOK P C f (acall fs k f)
  | 0, f => fun args M av M' h => by simp [acall] at h
  | k + 1, f => by
    intro args M av M' h g w vs hP wr hglob rargs o a next Q K
    simp only [acall] at h
    cases hf : fs f with
    | none => rw [hf] at h; cases h
    | some ce =>
      rw [hf] at h
      cases ce with
      | prim run => exact hfs.prim f run hf args M av M' h g w vs hP wr hglob rargs o a next Q K
      | code fn =>
        simp only at h
        have hc := hfs.code f fn hf
        unfold cfn at hc
        split at hc
        · cases hc
        · rename_i func hfunc
          split at hc
          · cases hc
          · rename_i c hbody
            cases hres : cres P func.ntmps func.results.toList with
            | none => rw [hres] at hc; cases hc
            | some rs =>
              rw [hres] at hc
              simp only [Option.map_some, Option.some.injEq] at hc
              subst hc
              have hcall : (callFunc f vs).run P w = .ok (.enter f vs) w := by
                have hn := hfs.name f func hfunc
                simp only [beq_eq_false_iff_ne, ne_eq] at hn
                simp [callFunc, hfunc, hn, hbody]
              rw [hcall]
              show Calls P f vs w _
              refine calls_of_wp hfunc hbody ?_
              -- the frame at its beginning
              let a0 : Act := { tmps := vs ++ Array.replicate (func.ntmps - vs.size) undef, defers := [] }
              have hN : func.ntmps ≤ a0.tmps.size := by simp [a0]; omega
              have s0 : SRel C g { M with dirty := [] } Stk.empty w args a0.tmps := by
                have wr' : WRel g { M with dirty := [] } w := ⟨wr.okO, wr.okH, wr.dom, wr.obj, wr.inj, wr.fix, wr.own, wr.ownInj, wr.res, wr.size, wr.os, wr.tape, wr.output, wr.lim⟩
                refine ⟨wr', ⟨Stk.ok_empty, fun t e h => ?_, fun t t' e e' b fr to fr' to' h => ?_, fun t t' e e' b fr to fr' to' h => ?_⟩, ?_, hglob⟩
                · have := Stk.get?_lt h; exact absurd this (Nat.not_lt_zero _)
                · have := Stk.get?_lt h; exact absurd this (Nat.not_lt_zero _)
                · have := Stk.get?_lt h; exact absurd this (Nat.not_lt_zero _)
                · intro t ht
                  have hlen := VRels_length rargs
                  simp only [Array.length_toList] at hlen
                  by_cases hlt : t < vs.size
                  · have hx : args[t]? = some args[t] := List.getElem?_eq_getElem (by omega)
                    obtain ⟨v, hv, rv⟩ := VRels_get rargs hx
                    rw [Array.getElem?_toList] at hv
                    have e1 : lget .undef args t = args[t] := by rw [lget_eq_getD]; simp [List.getD, hx]
                    have e2 : a0.tmps.getD t undef = v := by
                      have : a0.tmps[t]? = some v := by
                        show (vs ++ _)[t]? = _
                        rw [Array.getElem?_append_left hlt]; exact hv
                      rw [Array.getD_eq_getD_getElem?, this]; rfl
                    rw [e1, e2]; exact rv
                  · have e1 : lget .undef args t = .undef := lget_ge _ _ _ (by omega)
                    have e2 : a0.tmps.getD t undef = undef := by
                      rw [Array.getD_eq_getD_getElem?]
                      show ((vs ++ _)[t]?).getD undef = _
                      rw [Array.getElem?_append_right (by omega), Array.getElem?_replicate]
                      split <;> rfl
                    rw [e1, e2]; exact VRel_undef
              -- the rest is the same for both ways out
              have fin : ∀ (fr : Fr) (M1 : AMem), Tame { M with dirty := [] } M1 → (match resultsA fr.tmps M1 rs with | some vs => finish (C.keep f) fr.hl M M1 vs | none => none) = some (av, M') →
                  ∀ e, (e = .normal ∨ e = .ret) → Cont C g { M with dirty := [] } Stk.empty a0 fr.tmps fr.hl M1 (bodyPost P func (fun
                    | .returned v, w'' => next (a.put o.dst v) w''
                    | .panicked chain, w'' => Q (.panic chain) a w''
                    | .outgrown, _ => LetsOut Q) e) := by
                intro fr M1 tm hr e he a' w' g' le' s' z1 z2 z3 z4
                cases hv : resultsA fr.tmps M1 rs with
                | none => rw [hv] at hr; cases hr
                | some xs =>
                  rw [hv] at hr
                  simp only at hr
                  obtain ⟨us, hus1, hus2⟩ := results_vals (P := P) s' (by rw [z1]; exact hN) func hres hv
                  have done : a'.defers = [] ∧ ∃ v, (results func a'.tmps).run P w' = .ok v w' ∧ next (a.put o.dst v) w' := by
                    refine ⟨z2, _, hus1, ?_⟩
                    unfold finish at hr
                    cases hk : C.keep f with
                    | true =>
                      rw [hk] at hr
                      simp only [cond_true, finishKeep, Option.some.injEq, Prod.mk.injEq] at hr
                      obtain ⟨rfl, rfl⟩ := hr
                      obtain ⟨g2, a1, a2, a3, a4, a5, _, _⟩ := adopt_sound _ s' hus2
                      have sd := a2.dirty (unionDirty M1.dirty M.dirty)
                      exact K _ w' g2 (oneOrTup_rel a3) (le'.toEmpty.trans a1.toEmpty) sd.wr (a4.trans z3) (a5.trans z4)
                    | false =>
                      rw [hk] at hr
                      simp only [cond_false] at hr
                      obtain ⟨g2, k1, k2, k3, k4, k5⟩ := gc_sound wr s'.wr le'.toEmpty tm (VRel.sealv Stk.empty (oneOrTup_rel hus2)) hr
                      exact K _ w' g2 k3 k2 k1 (k4.trans z3) (k5.trans z4)
                  rcases he with rfl | rfl
                  · exact done
                  · exact done
              split at h
              · rename_i fr M1 hex
                exact (code_sound (acall_sound hfs k) hfs.order k).1 c ⟨args, Stk.empty⟩ _ _ fr M1 hex g w a0 s0 hP hN _ (fin fr M1 (exec_tame (acall_tame hfs.tame k) k _ hex) h .normal (.inl rfl))
              · rename_i fr M1 hex
                exact (code_sound (acall_sound hfs k) hfs.order k).1 c ⟨args, Stk.empty⟩ _ _ fr M1 hex g w a0 s0 hP hN _ (fin fr M1 (exec_tame (acall_tame hfs.tame k) k _ hex) h .ret (.inr rfl))
              · cases h

end
end Go.Abs
end

/-
  A call at empty memory that answers a plain value: all that it made may be forgotten.
-/
section
namespace Go.Abs

def AVal.plain : AVal → Bool
  | .bool _ | .int _ _ | .str _ | .nilp | .nils | .nilm | .nilf | .nili => true
  | _ => false

theorem VRel.plain {g g' : G} {hw hw' : Stk Nat} {hl hl' : HL} {a : AVal} (h : a.plain = true) {v : Value} (r : VRel g hw hl a v) : VRel g' hw' hl' a v := by
  cases a <;> simp [AVal.plain] at h <;> simpa only [VRel] using r

/-- A run at empty memory, whose memory is forgotten. -/
def forgetRun (run : List AVal → AMem → Option (AVal × AMem)) (args : List AVal) (M : AMem) : Option (AVal × AMem) :=
  if Nat.beq M.objs.n 0 && Nat.beq M.hw.n 0 then
    match run args ⟨Stk.empty, Stk.empty, []⟩ with
    | some (v, _) => if v.plain then some (v, M) else none
    | none => none
  else none

theorem forget_sound {P : Program} {C : Cfg} {f : FuncId} {run : List AVal → AMem → Option (AVal × AMem)} (hf : FOK P C f run) : FOK P C f (forgetRun run) := by
  intro args M av M' h g w vs hP wr hglob rargs o a next Q K
  unfold forgetRun at h
  split at h
  · rename_i h0
    simp only [Bool.and_eq_true, nbeq] at h0
    obtain ⟨h1, h2⟩ := h0
    split at h
    · rename_i v M1 hr
      split at h
      · rename_i hpl
        simp only [Option.some.injEq, Prod.mk.injEq] at h
        obtain ⟨rfl, rfl⟩ := h
        have noobj : ∀ o b, g.obj o ≠ some b := fun o b ho => by have := wr.dom o b ho; omega
        have nohw : ∀ t e, M.hw.get? t ≠ some e := fun t e he => by have := Stk.get?_lt he; omega
        have noget : ∀ o x, M.objs.get? o ≠ some x := fun o x hx => by have := Stk.get?_lt hx; omega
        let ge : G := { g with res := fun b => b < w.heap.size, w0 := { w with lim := fun b i => ∃ a, g.fix b i = some a } }
        have le : GLe g M.hw Stk.empty ge Stk.empty Stk.empty := by
          refine ⟨rfl, fun _ _ h => h, fun _ _ _ h => h, by omega, fun t e' _ he => ?_, Nat.le_refl _, fun _ _ ht => absurd ht (Nat.not_lt_zero _)⟩
          have := Stk.get?_lt he
          exact absurd this (Nat.not_lt_zero _)
        have wre : WRel ge ⟨Stk.empty, Stk.empty, []⟩ w := {
          okO := Stk.ok_empty
          okH := Stk.ok_empty
          dom := fun o b ho => absurd ho (noobj o b)
          obj := fun o x hx => absurd (Stk.get?_lt hx) (Nat.not_lt_zero _)
          inj := fun o o' b ho => absurd ho (noobj o b)
          fix := fun b i a ha => by
            obtain ⟨k1, v, k2, k3⟩ := wr.fix b i a ha
            exact ⟨k1, v, k2, k3.mono le⟩
          own := fun t e he => absurd (Stk.get?_lt he) (Nat.not_lt_zero _)
          ownInj := fun t t' e e' b fr to fr' to' he => absurd (Stk.get?_lt he) (Nat.not_lt_zero _)
          res := fun b hb => ⟨hb, rfl⟩
          size := Nat.le_refl _
          os := rfl
          tape := rfl
          output := rfl
          lim := fun b i a _ ha => ⟨a, ha⟩ }
        refine hf args _ _ _ hr ge w vs hP wre (fun x v hx => (hglob x v hx).mono le) (rargs.mono le) o a next Q ?_
        intro v' w' g' hv _ wr' hres hw0
        have kept : ∀ b, b < w.heap.size → w'.heap[b]? = w.heap[b]? := fun b hb => by
          have h3 := (wr'.res b (by rw [hres]; exact hb)).2
          rw [hw0] at h3; exact h3
        refine K v' w' g (hv.plain hpl) (GLe.refl _ _ _) ?_ rfl rfl
        exact {
          okO := wr.okO
          okH := wr.okH
          dom := wr.dom
          obj := fun o x hx => absurd hx (noget o x)
          inj := wr.inj
          fix := fun b i a ha => by
            obtain ⟨k1, v, k2, k3⟩ := wr.fix b i a ha
            refine ⟨k1, v, ?_, k3⟩
            obtain ⟨c, el, fr, hb, hi⟩ := cell_heap k2
            exact cell_of ((kept b (lt_of_heap hb)).trans hb) hi
          own := fun t e he => absurd he (nohw t e)
          ownInj := wr.ownInj
          res := fun b hb => by
            obtain ⟨k1, k2⟩ := wr.res b hb
            have h4 := wr'.size
            rw [hw0] at h4
            exact ⟨Nat.lt_of_lt_of_le k1 h4, (kept b k1).trans k2⟩
          size := Nat.le_trans wr.size (by have := wr'.size; rw [hw0] at this; exact this)
          os := (by have := wr'.os; rw [hw0] at this; exact this : w'.os = w.os).trans wr.os
          tape := (by have := wr'.tape; rw [hw0] at this; exact this : w'.tape = w.tape).trans wr.tape
          output := (by have := wr'.output; rw [hw0] at this; exact this : w'.output = w.output).trans wr.output
          lim := wr.lim }
      · cases h
    · cases h
  · cases h

/-- What is told of fewer runs is told of them. -/
theorem FOK.sub {P : Program} {C : Cfg} {f : FuncId} {run run' : List AVal → AMem → Option (AVal × AMem)} (hf : FOK P C f run) (h : ∀ args M r, run' args M = some r → run args M = some r) : FOK P C f run' :=
  fun args M av M' hr => hf args M av M' (h _ _ _ hr)

end Go.Abs
end

/-
  Functions without a body, and how a whole call is told by the small form's run at empty memory.
-/
section
namespace Go.Abs
open Go.RowKit

section
variable {P : Program} {C : Cfg} {f : FuncId}

/-- A function that answers at once and leaves the world alone. -/
theorem FOK.of_still {run : List AVal → AMem → Option (AVal × AMem)}
    (h : ∀ args M av M', run args M = some (av, M') → M' = M ∧ ∀ (g : G) (w : World) (vs : Array Value), VRels g M.hw Stk.empty args vs.toList → ∃ v, (callFunc f vs).run P w = .ok (.value v) w ∧ VRel g M.hw Stk.empty av v) : FOK P C f run := by
  intro args M av M' hr g w vs hP wr hglob rargs o a next Q K
  obtain ⟨rfl, h⟩ := h args M av M' hr
  obtain ⟨v, h1, h2⟩ := h g w vs rargs
  rw [h1]
  exact K v w g h2 (GLe.refl _ _ _) wr rfl rfl

def primIndexByte (args : List AVal) (M : AMem) : Option (AVal × AMem) :=
  match args with
  | [.str s, .int .u8 (.ofNat c)] => if Nat.blt c 256 then some (.int .i64 (findByte c 0 s), M) else none
  | _ => none

theorem findByte_eq (c : Nat) (hc : c < 256) : ∀ (s : List Nat) (i : Nat), isBytes s → findByte c i s = (let r := Lib.indexByte (s.map UInt8.ofNat) (UInt8.ofNat c); if r = -1 then -1 else r + i)
  | [], i, _ => by simp [findByte, Lib.indexByte]
  | b :: s, i, hb => by
    have hb0 : b < 256 := hb b List.mem_cons_self
    have ih := findByte_eq c hc s (i + 1) (fun x hx => hb x (List.mem_cons_of_mem _ hx))
    have e : (UInt8.ofNat b == UInt8.ofNat c) = Nat.beq b c := by
      rw [Bool.eq_iff_iff, beq_iff_eq, nbeq]
      constructor
      · intro h
        have := congrArg UInt8.toNat h
        simp only [UInt8.toNat_ofNat', Nat.reducePow] at this
        omega
      · intro h; rw [h]
    have hge := Lib.indexByte_ge (s.map UInt8.ofNat) (UInt8.ofNat c)
    simp only [findByte, List.map_cons, Lib.indexByte, e]
    cases hbc : Nat.beq b c with
    | true => simp
    | false =>
      simp only [Bool.false_eq_true, if_false]
      rw [ih]
      simp only [beq_iff_eq]
      split
      · rename_i h1; simp
      · rename_i h1
        rw [if_neg (by omega)]
        omega

theorem fok_indexByte {fn : Func} (hf : P.funcs[f]? = some fn) (hname : (fn.name == "runtime.NumGoroutine") = false) (hb : fn.body.isNone = true) (hn : Extern.findNext fn = none) (he : Extern.find fn = some Extern.BytealgIndexByte.indexByte) :
    FOK P C f primIndexByte := by
  refine FOK.of_still fun args M av M' h => ?_
  unfold primIndexByte at h
  split at h
  · rename_i s c
    split at h
    · rename_i hc
      rw [Nat.blt_eq] at hc
      simp only [Option.some.injEq, Prod.mk.injEq] at h
      obtain ⟨rfl, rfl⟩ := h
      refine ⟨rfl, fun g w vs r => ?_⟩
      simp only [VRels, VRel] at r
      obtain ⟨v1, r1, e1, ⟨rfl, hbs⟩, v2, r2, e2, rfl, rfl⟩ := r
      subst e2
      have evs : vs = #[.string (bytesV s), .int .u8 (Int.ofNat c)] := by
        apply Array.ext'; simpa using e1
      subst evs
      refine ⟨.int .i64 (findByte c 0 s), ?_, by simp only [VRel]⟩
      rw [run_callFunc_extern hf hname hb hn he, Lib.run_indexByteString, Result.andThen_ok]
      congr 3
      rw [findByte_eq c hc s 0 hbs]
      have e3 : (bytesV s).data.toList = s.map UInt8.ofNat := by simp [bytesV]
      have e4 : (Int.ofNat c).toNat.toUInt8 = UInt8.ofNat c := by simp
      rw [e3, e4]
      have hge := Lib.indexByte_ge (s.map UInt8.ofNat) (UInt8.ofNat c)
      simp only
      split
      · assumption
      · simp
    · cases h
  · cases h

end

/-! ## A whole call -/

/-- Cells that the program's own start has laid, and nobody changes. -/
def baseG (P : Program) (C : Cfg) (w : World) : G where
  P := P
  obj _ := none
  fix b i := match C.glob b with | some (.rp l 0) => l[i]? | _ => none
  own _ := none
  loc _ := none
  res b := b < w.heap.size
  w0 := { w with lim := fun _ _ => True }

structure GlobsAt (C : Cfg) (w : World) : Prop where
  form : ∀ x v, C.glob x = some v → ∃ l, v = .rp l 0 ∧ ∀ (i : Nat) a, l[i]? = some a → ∃ k n, a = .int k n ∧ w.cell? ⟨x, i, none⟩ = some (.int k n)

def emptyM : AMem := ⟨Stk.empty, Stk.empty, []⟩

theorem base_wrel {P : Program} {C : Cfg} {w : World} (hg : GlobsAt C w) : WRel (baseG P C w) emptyM w where
  okO := Stk.ok_empty
  okH := Stk.ok_empty
  dom o b h := by cases h
  obj o x h := absurd (Stk.get?_lt h) (Nat.not_lt_zero _)
  inj o o' b h := by cases h
  fix b i a ha := by
    refine ⟨(fun o h => by cases h), ?_⟩
    simp only [baseG] at ha
    split at ha
    · rename_i l hl
      obtain ⟨l', e, hc⟩ := hg.form _ _ hl
      injection e with e1 _; subst e1
      obtain ⟨k, n, rfl, hcell⟩ := hc i a ha
      exact ⟨_, hcell, by simp only [VRel]⟩
    · cases ha
  own t e h := absurd (Stk.get?_lt h) (Nat.not_lt_zero _)
  ownInj t t' e e' b fr to fr' to' h := absurd (Stk.get?_lt h) (Nat.not_lt_zero _)
  res b h := ⟨h, rfl⟩
  size := Nat.le_refl _
  os := rfl
  tape := rfl
  output := rfl
  lim _ _ _ _ _ := trivial

theorem base_glob {P : Program} {C : Cfg} {w : World} (hg : GlobsAt C w) : GlobOK C (baseG P C w) emptyM := by
  intro x v hx
  obtain ⟨l, rfl, _⟩ := hg.form x v hx
  simp only [VRel]
  refine ⟨x, 0, rfl, fun j a hj => ?_⟩
  simp only [baseG, hx, Nat.zero_add]
  exact hj

/-- What the small form's run at empty memory answers, the model's call does; and all that was there is as it was. -/
theorem calls_of_run {P : Program} {C : Cfg} {f : FuncId} {run : List AVal → AMem → Option (AVal × AMem)} (hf : FOK P C f run) {fn : Func} (hfn : P.funcs[f]? = some fn) (hname : (fn.name == "runtime.NumGoroutine") = false)
    {c : Code} (hbody : fn.body = some c) {args : List AVal} {vs : Array Value} {w : World} (hg : GlobsAt C w) (hargs : ∀ g hw, VRels g hw Stk.empty args vs.toList) {b : Bool} {M' : AMem} (h : run args emptyM = some (.bool b, M')) :
    Calls P f vs w fun e w' => e = .returned (.bool b) ∧ Below w.heap.size w w' := by
  have key := hf args emptyM (.bool b) M' h (baseG P C w) w vs rfl (base_wrel hg) (base_glob hg) (hargs _ _) { (default : Oper) with dst := some 0 } { tmps := #[undef], defers := [] }
    (fun a w' => a.tmps.getD 0 undef = .bool b ∧ Below w.heap.size w w') (fun _ _ _ => False) (fun v w' g' hv _ wr hres hw0 => ?_)
  · have hcall : (callFunc f vs).run P w = .ok (.enter f vs) w := by
      have hn : fn.name ≠ "runtime.NumGoroutine" := by simpa using hname
      simp [callFunc, hfn, hn, hbody]
    rw [hcall] at key
    refine Calls.mono key ?_
    intro e w' he
    cases e with
    | returned v =>
      simp only [Act.put] at he
      refine ⟨?_, he.2⟩
      have := he.1
      simp [Array.getD] at this
      rw [this]
    | panicked c => exact he.elim
    | outgrown =>
      obtain ⟨_, _, h⟩ := he
      exact h.elim
  · simp only [VRel] at hv
    subst hv
    refine ⟨by simp [Act.put, Array.getD], ?_⟩
    have hw0' : g'.w0 = { w with lim := fun _ _ => True } := hw0
    refine ⟨?_, ?_, ?_, ?_, fun k hk => ?_⟩
    · have := wr.os; rw [hw0'] at this; exact this
    · have := wr.tape; rw [hw0'] at this; exact this
    · have := wr.output; rw [hw0'] at this; exact this
    · have := wr.size; rw [hw0'] at this; exact this
    · have := (wr.res k (by rw [hres]; exact hk)).2
      rw [hw0'] at this; exact this

end Go.Abs
end

/-
  The same run, in small steps that are soon evaluated.
-/
section
namespace Go.Abs

/-! ## Slots as a tree -/

inductive TT where
  | leaf
  | node (v : AVal) (l r : TT)

def TT.get : TT → Nat → AVal
  | .leaf, _ => .undef
  | .node v l r, i => bif Nat.beq i 0 then v else bif Nat.beq (i % 2) 1 then l.get (i / 2) else r.get (i / 2 - 1)

def TT.path : Nat → Nat → AVal → TT
  | 0, _, v => .node v .leaf .leaf
  | f + 1, i, v => bif Nat.beq i 0 then .node v .leaf .leaf else bif Nat.beq (i % 2) 1 then .node .undef (TT.path f (i / 2) v) .leaf else .node .undef .leaf (TT.path f (i / 2 - 1) v)

def TT.set : TT → Nat → AVal → TT
  | .leaf, i, v => TT.path i i v
  | .node u l r, i, v => bif Nat.beq i 0 then .node v l r else bif Nat.beq (i % 2) 1 then .node u (l.set (i / 2) v) r else .node u l (r.set (i / 2 - 1) v)

theorem TT.get_node (v : AVal) (l r : TT) (i : Nat) : (TT.node v l r).get i = if i = 0 then v else if i % 2 = 1 then l.get (i / 2) else r.get (i / 2 - 1) := by
  simp only [TT.get]
  by_cases h : i = 0
  · rw [beq_true h, if_pos h]; rfl
  · rw [beq_false h, if_neg h]
    by_cases h2 : i % 2 = 1
    · rw [beq_true h2, if_pos h2]; rfl
    · rw [beq_false h2, if_neg h2]; rfl

theorem TT.get_path (v : AVal) : ∀ (f i j : Nat), i ≤ f → (TT.path f i v).get j = if i = j then v else .undef
  | 0, i, j, h => by
    have : i = 0 := by omega
    subst this
    simp only [TT.path, TT.get_node, TT.get]
    by_cases hj : j = 0
    · subst hj; simp
    · rw [if_neg hj, if_neg (Ne.symm hj)]; simp
  | f + 1, i, j, h => by
    simp only [TT.path]
    by_cases h0 : i = 0
    · subst h0
      rw [beq_true rfl]
      simp only [cond_true, TT.get_node, TT.get]
      by_cases hj : j = 0
      · subst hj; simp
      · rw [if_neg hj, if_neg (Ne.symm hj)]; simp
    · rw [beq_false h0]
      simp only [cond_false]
      by_cases h1 : i % 2 = 1
      · rw [beq_true h1]
        simp only [cond_true, TT.get_node, TT.get]
        rw [TT.get_path v f (i / 2) (j / 2) (by omega)]
        by_cases hj : j = 0
        · subst hj; rw [if_pos rfl, if_neg h0]
        · rw [if_neg hj]
          by_cases hj1 : j % 2 = 1
          · rw [if_pos hj1]
            by_cases e : i = j
            · subst e; simp
            · rw [if_neg e, if_neg (by omega)]
          · rw [if_neg hj1, if_neg (by omega)]
      · rw [beq_false h1]
        simp only [cond_false, TT.get_node, TT.get]
        rw [TT.get_path v f (i / 2 - 1) (j / 2 - 1) (by omega)]
        by_cases hj : j = 0
        · subst hj; rw [if_pos rfl, if_neg h0]
        · rw [if_neg hj]
          by_cases hj1 : j % 2 = 1
          · rw [if_pos hj1, if_neg (by omega)]
          · rw [if_neg hj1]
            by_cases e : i = j
            · subst e; simp
            · rw [if_neg e, if_neg (by omega)]

theorem TT.get_set (v : AVal) : ∀ (t : TT) (i j : Nat), (t.set i v).get j = if i = j then v else t.get j
  | .leaf, i, j => by simp only [TT.set, TT.get]; exact TT.get_path v i i j (Nat.le_refl _)
  | .node u l r, i, j => by
    simp only [TT.set]
    by_cases h0 : i = 0
    · subst h0
      rw [beq_true rfl]
      simp only [cond_true, TT.get_node]
      by_cases hj : j = 0
      · subst hj; simp
      · rw [if_neg hj, if_neg (Ne.symm hj), if_neg hj]
    · rw [beq_false h0]
      simp only [cond_false]
      by_cases h1 : i % 2 = 1
      · rw [beq_true h1]
        simp only [cond_true, TT.get_node]
        rw [TT.get_set v l (i / 2) (j / 2)]
        by_cases hj : j = 0
        · subst hj; rw [if_pos rfl, if_neg h0, if_pos rfl]
        · rw [if_neg hj, if_neg hj]
          by_cases hj1 : j % 2 = 1
          · rw [if_pos hj1, if_pos hj1]
            by_cases e : i = j
            · subst e; simp
            · rw [if_neg e, if_neg (by omega)]
          · rw [if_neg hj1, if_neg (by omega), if_neg hj1]
      · rw [beq_false h1]
        simp only [cond_false, TT.get_node]
        rw [TT.get_set v r (i / 2 - 1) (j / 2 - 1)]
        by_cases hj : j = 0
        · subst hj; rw [if_pos rfl, if_neg h0, if_pos rfl]
        · rw [if_neg hj, if_neg hj]
          by_cases hj1 : j % 2 = 1
          · rw [if_pos hj1, if_neg (by omega), if_pos hj1]
          · rw [if_neg hj1, if_neg hj1]
            by_cases e : i = j
            · subst e; simp
            · rw [if_neg e, if_neg (by omega)]

def TT.put (t : TT) (d : Option Nat) (v : AVal) : TT :=
  match d with
  | none => t
  | some i => t.set i v

def TT.ofList : Nat → List AVal → TT → TT
  | _, [], t => t
  | i, v :: l, t => TT.ofList (i + 1) l (t.set i v)

def Rep (t : TT) (l : List AVal) : Prop := ∀ i, t.get i = lget .undef l i

theorem Rep.put {t : TT} {l : List AVal} (h : Rep t l) (d : Option Nat) (v : AVal) : Rep (t.put d v) (putA l d v) := by
  cases d with
  | none => exact h
  | some s =>
    intro i
    simp only [TT.put, putA, TT.get_set, lget_lset, h i]

theorem TT.get_ofList : ∀ (l : List AVal) (i : Nat) (t : TT) (j : Nat), (TT.ofList i l t).get j = if i ≤ j ∧ j < i + l.length then lget .undef l (j - i) else t.get j
  | [], i, t, j => by
    simp only [TT.ofList, List.length_nil, Nat.add_zero]
    rw [if_neg (by omega)]
  | v :: l, i, t, j => by
    simp only [TT.ofList, List.length_cons]
    rw [TT.get_ofList l (i + 1), TT.get_set]
    by_cases h1 : i + 1 ≤ j ∧ j < i + 1 + l.length
    · rw [if_pos h1, if_pos (by omega)]
      rw [show j - i = (j - (i + 1)) + 1 by omega]
      rfl
    · rw [if_neg h1]
      by_cases h2 : i = j
      · subst h2
        rw [if_pos rfl, if_pos (by omega), Nat.sub_self]; rfl
      · rw [if_neg h2, if_neg (by omega)]

theorem Rep.ofList (l : List AVal) : Rep (TT.ofList 0 l .leaf) l := by
  intro i
  rw [TT.get_ofList]
  by_cases h : i < l.length
  · rw [if_pos (by omega), Nat.sub_zero]
  · rw [if_neg (by omega), TT.get, lget_eq_getD]
    simp [List.getD, List.getElem?_eq_none (Nat.le_of_not_lt h)]

def fev (t : TT) : Opd → AVal
  | .tmp i => t.get i
  | .con v => v

theorem fev_eq {t : TT} {l : List AVal} (h : Rep t l) : fev t = Opd.ev l := by
  funext x
  cases x with
  | tmp i => exact h i
  | con v => rfl

/-! ## Operations, one by one -/

section
variable (ev : Opd → AVal)

def qPick (c a b : Opd) : Option AVal := match ev c with
    | .bool true => some (ev a)
    | .bool false => some (ev b)
    | _ => none
def qNil (x : Opd) : Option AVal := match ev x with
    | .ptr o i => some (.ptr o i)
    | .rp c k => some (.rp c k)
    | .fn f a b => some (.fn f a b)
    | _ => none
def eqQ (lit : Bool) (c : EqC) (x y : AVal) : Option Bool := eqF lit c x y
def binE (op : BinOp) (c : EqC) (lit : Bool) (x y : AVal) : Option AVal := match op with
  | .eql => (eqQ lit c x y).map .bool
  | .neq => (eqQ lit c x y).map fun b => .bool (!b)
  | _ => none
def binR (op : BinOp) (c : EqC) (lit : Bool) (x y : AVal) : Option AVal := match x with
  | .int k a => (match y with | .int k' b => if sameKind k k' then binInt op k a b else none | _ => binE op c lit x y)
  | .str a => (match y with | .str b => binStr op a b | _ => binE op c lit x y)
  | _ => binE op c lit x y
def shQ (op : BinOp) (x y : AVal) : Option AVal := match x with
  | .int k a => (match y with | .int _ n => (match n with | .ofNat b => shiftF op k a b | _ => none) | _ => none)
  | _ => none
def isSh : BinOp → Bool
  | .shl | .shr => true
  | _ => false
def binQ (op : BinOp) (c : EqC) (lit : Bool) (x y : AVal) : Option AVal := bif isSh op then shQ op x y else binR op c lit x y

theorem binQ_eq (op : BinOp) (c : EqC) (lit : Bool) (x y : AVal) : binQ op c lit x y = binF op c lit x y := by
  cases op
  case shl =>
    cases x <;> first | rfl | skip
    cases y <;> first | rfl | skip
    rename_i n
    cases n <;> rfl
  case shr =>
    cases x <;> first | rfl | skip
    cases y <;> first | rfl | skip
    rename_i n
    cases n <;> rfl
  all_goals
    cases x <;> first | rfl | (cases y <;> rfl)


def qBuild (zero : List AVal) (parts : List (Nat × Nat × Opd)) : Option AVal := (fillParts zero (evParts ev parts)).map .agg
def qBuildSl (sz n : Nat) (zero : List AVal) (parts : List (Nat × Nat × Opd)) : Option AVal := (fillParts (rep zero n) (sealParts (evParts ev parts))).map fun r => .sl sz (chunk sz n r) .full
def qEqA (neg : Bool) (ls : List Leaf) (x y : Opd) : Option AVal := match ev x, ev y with
    | .agg l, .agg m => if leafAll ls l && leafAll ls m then some (.bool (if neg then !sameAll l m else sameAll l m)) else none
    | _, _ => none
def qArrp (n sz : Nat) (x : Opd) : Option AVal := match ev x with
    | .sl sz' rows _ => if Nat.beq sz sz' && Nat.ble n rows.length then some (.rp (rows.flatten) 0) else none
    | .os o i ln _ sz' => if Nat.beq sz sz' && Nat.ble n ln then some (.ptr o i) else none
    | _ => none
def qMkfn (f : FuncId) (a b : List Opd) : Option AVal := some (.fn f (evAll ev a) (evAll ev b))
def qSliceS (x : Opd) (lo hi : Option Opd) : Option AVal := match ev x with
    | .str s => (bounds s.length s.length (mapEv ev lo) (mapEv ev hi)).map fun (l, h) => .str (takeN (h - l) (dropN l s))
    | _ => none
def qSliceL (sz : Nat) (x : Opd) (lo hi mx : Option Opd) : Option AVal := sliceRows sz (ev x) (mapEv ev lo) (mapEv ev hi) (mapEv ev mx)
def qSliceA (n sz : Nat) (x : Opd) (lo hi mx : Option Opd) : Option AVal := match mx with
    | none => sliceArr n sz (ev x) (mapEv ev lo) (mapEv ev hi)
    | some _ => none
def qFaddr (off : Nat) (x : Opd) : Option AVal := match ev x with
    | .ptr o i => some (.ptr o (i + off))
    | .rp c k => some (.rp c (k + off))
    | _ => none
def qField (off : Nat) (ag : Option Nat) (x : Opd) : Option AVal := match ev x with
    | .agg l => aggOf ag l off
    | _ => none
def qIaddr (sz : Nat) (x i : Opd) : Option AVal := (natOf (ev i)).bind fun n => match ev x with
    | .sl sz' rows _ => if Nat.beq sz sz' then (nth? rows n).map fun r => .rp r 0 else none
    | .os o i0 ln _ sz' => if Nat.beq sz sz' && Nat.blt n ln then some (.ptr o (i0 + n * sz)) else none
    | _ => none
def qIaddrA (n sz : Nat) (x i : Opd) : Option AVal := (natOf (ev i)).bind fun j => if Nat.blt j n then
      (match ev x with
      | .ptr o i0 => some (.ptr o (i0 + j * sz))
      | .rp c k => some (.rp c (k + j * sz))
      | _ => none) else none
def qIndexS (x i : Opd) : Option AVal := (natOf (ev i)).bind fun n => match ev x with
    | .str s => (nth? s n).map fun b => .int .u8 (.ofNat b)
    | _ => none
def qIndexA (n sz : Nat) (ag : Option Nat) (x i : Opd) : Option AVal := (natOf (ev i)).bind fun j => if Nat.blt j n then
      (match ev x with
      | .agg l => aggOf ag l (j * sz)
      | _ => none) else none
def qExtract (x : Opd) (i : Nat) : Option AVal := match ev x with
    | .tup l => nth? l i
    | _ => none
def qLen (b : Bool) (x : Opd) : Option AVal := (lenF b (ev x)).map fun n => .int .i64 (.ofNat n)
def qCap (x : Opd) : Option AVal := match ev x with
    | .nils => some (.int .i64 0)
    | .sl _ rows .full => some (.int .i64 (.ofNat rows.length))
    | .os _ _ _ (some c) _ => some (.int .i64 (.ofNat c))
    | _ => none

def pureF (o : PureOp) : Option AVal := match o with
  | .move x => some (ev x)
  | .pick c a b => qPick ev c a b
  | .build z ps => qBuild ev z ps
  | .buildSl sz n z ps => qBuildSl ev sz n z ps
  | .nilck x => qNil ev x
  | .bin op c lit x y => binQ op c lit (ev x) (ev y)
  | .eqA neg ls x y => qEqA ev neg ls x y
  | .un op x => unF op (ev x)
  | .conv c x => convF c (ev x)
  | .arrp n sz x => qArrp ev n sz x
  | .mkif t x => some (.iface t (ev x))
  | .mkfn f a b => qMkfn ev f a b
  | .sliceS x lo hi => qSliceS ev x lo hi
  | .sliceL sz x lo hi mx => qSliceL ev sz x lo hi mx
  | .sliceA n sz x lo hi mx => qSliceA ev n sz x lo hi mx
  | .faddr off x => qFaddr ev off x
  | .field off ag x => qField ev off ag x
  | .iaddr sz x i => qIaddr ev sz x i
  | .iaddrA n sz x i => qIaddrA ev n sz x i
  | .indexS x i => qIndexS ev x i
  | .indexA n sz ag x i => qIndexA ev n sz ag x i
  | .extract x i => qExtract ev x i
  | .len b x => qLen ev b x
  | .lenC n => some (.int .i64 (.ofNat n))
  | .cap x => qCap ev x
  | .minmax mx xs => minmaxF mx (evAll ev xs)

theorem pureF_eq (o : PureOp) : pureF ev o = o.run ev := by
  cases o
  case bin op c lit x y => exact binQ_eq _ _ _ _ _
  case sliceA n sz x lo hi mx => cases mx <;> rfl
  all_goals rfl

variable (M : AMem) (hl : HL)

def qLoad (ag : Option Nat) (a : Opd) : Option AVal := match ev a with
    | .ptr o i => (match M.objs.get? o with
      | some (.cells l) => aggOf ag l i
      | _ => none)
    | .rp l i => aggOf ag l i
    | _ => none
def readF (o : ReadOp) : Option AVal := match o with
  | .load ag a => qLoad ev M ag a
  | .lookup kt zero ok m k => ReadOp.run M ev (.lookup kt zero ok m k)
  | .lenM m => ReadOp.run M ev (.lenM m)
  | .str x => ReadOp.run M ev (.str x)
theorem readF_eq (o : ReadOp) : readF ev M o = o.run M ev := by cases o <;> rfl

def qBox (sz : Nat) (x : Opd) : Option (AVal × HL × AMem) :=
  let r := adopt (ev x).cells hl M.hw
  if Nat.beq r.1.length sz && allCells r.1 then
    some (.ptr M.objs.n 0, r.2.1, { M with objs := M.objs.push (.cells r.1), hw := r.2.2 })
  else none
def qStore (sz : Nat) (a x : Opd) : Option (AVal × HL × AMem) := match ev a with
    | .ptr o i => (match M.objs.get? o with
      | some (.cells l) =>
        let r := adopt (ev x).cells hl M.hw
        if Nat.beq r.1.length sz && allCells r.1 then
          (overlay l i r.1).map fun l' => (.undef, r.2.1, { objs := M.objs.set o (.cells l'), hw := r.2.2, dirty := markDirty o M.dirty })
        else none
      | _ => none)
    | _ => none
def qAppend (ob : Bool) (sz bytes : Nat) (s x : Opd) : Option (AVal × HL × AMem) := match rowsF M sz (ev x) with
    | none => none
    | some src => appendF ob sz bytes M hl (ev s) src
def writeF (o : WriteOp) : Option (AVal × HL × AMem) := match o with
  | .new zero => some (.ptr M.objs.n 0, hl, { M with objs := M.objs.push (.cells zero) })
  | .box sz x => qBox ev M hl sz x
  | .store sz a x => qStore ev M hl sz a x
  | .append ob sz bytes s x => qAppend ev M hl ob sz bytes s x
  | o => o.run M hl ev
theorem writeF_eq (o : WriteOp) : writeF ev M hl o = o.run M hl ev := by cases o <;> rfl

end

/-! ## Code -/

structure FF where
  t : TT
  hl : HL

def qCallv (call : CallH) (M : AMem) (hl : HL) (ev : Opd → AVal) (f : Opd) (args : List Opd) : Option (AVal × HL × AMem) := match ev f with
    | .fn f a b => (runCall call f (a ++ evAll ev args ++ b) M).map fun (v, M') => (v, hl, M')
    | _ => none

def aopF (call : CallH) (M : AMem) (hl : HL) (ev : Opd → AVal) (op : AOp) : Option (AVal × HL × AMem) := match op with
  | .p o => (pureF ev o).map fun v => (v, hl, M)
  | .r o _ => (readF ev M o).map fun v => (v, hl, M)
  | .w o => writeF ev M hl o
  | .call f args => (runCall call f (evAll ev args) M).map fun (v, M') => (v, hl, M')
  | .callv f args => qCallv call M hl ev f args
  | .skip => some (.undef, hl, M)
  | .fail => none

theorem aopF_eq (call : CallH) (M : AMem) (l : List AVal) (hl : HL) (op : AOp) : aopF call M hl (Opd.ev l) op = runAOp call op ⟨l, hl⟩ M := by
  cases op with
  | p o => simp only [aopF, runAOp, pureF_eq]
  | r o _ => simp only [aopF, runAOp, readF_eq]
  | w o => simp only [aopF, runAOp, writeF_eq]
  | call f args => rfl
  | callv f args => rfl
  | skip => rfl
  | fail => rfl

def wantF (t : TT) (g : Option (Nat × Bool)) : Bool := match g with
  | none => true
  | some (i, b) => match t.get i with
    | .bool c => c == b
    | _ => false

theorem wantF_eq {t : TT} {l : List AVal} (h : Rep t l) (g : Option (Nat × Bool)) : wantF t g = wantedA l g := by
  cases g with
  | none => rfl
  | some x =>
    obtain ⟨i, b⟩ := x
    simp only [wantF, wantedA, h i]
    cases lget .undef l i <;> rfl

def opsF (call : CallH) : List AOper → TT → HL → AMem → Option (FF × AMem)
  | [], t, hl, M => some (⟨t, hl⟩, M)
  | o :: ops, t, hl, M =>
    bif wantF t o.guard then
      match aopF call M hl (fev t) o.op with
      | some (v, hl', M') => opsF call ops (t.put o.dst v) hl' M'
      | none => none
    else opsF call ops (t.put o.dst .undef) hl M

theorem opsF_ok {call : CallH} : ∀ (ops : List AOper) {t : TT} {l : List AVal} {hl : HL} {M : AMem} {ff : FF} {M' : AMem}, Rep t l → opsF call ops t hl M = some (ff, M') →
    ∃ l', runOps call ops ⟨l, hl⟩ M = some (⟨l', ff.hl⟩, M') ∧ Rep ff.t l'
  | [], t, l, hl, M, ff, M', h, e => by
    simp only [opsF, Option.some.injEq, Prod.mk.injEq] at e
    obtain ⟨rfl, rfl⟩ := e
    exact ⟨l, rfl, h⟩
  | o :: ops, t, l, hl, M, ff, M', h, e => by
    simp only [opsF, wantF_eq h, fev_eq h, aopF_eq] at e
    simp only [runOps]
    cases hw : wantedA l o.guard with
    | true =>
      rw [hw, cond_true] at e
      simp only [if_true]
      cases hr : runAOp call o.op ⟨l, hl⟩ M with
      | none => rw [hr] at e; cases e
      | some r =>
        obtain ⟨v, hl1, M1⟩ := r
        rw [hr] at e
        exact opsF_ok ops (h.put o.dst v) e
    | false =>
      rw [hw, cond_false] at e
      simp only [Bool.false_eq_true, if_false]
      exact opsF_ok ops (h.put o.dst .undef) e

structure ChkF where
  op : ReadOp
  t : TT
  v : AVal
  at_ : List Nat

def chkOf (op : AOp) (t : TT) (v : AVal) (cs : List ChkF) : List ChkF := match op with
  | .r op (c :: l) => ⟨op, t, v, c :: l⟩ :: cs
  | _ => cs

def opsDF (call : CallH) : List AOper → TT → HL → AMem → List AMem → List ChkF → Option (FF × AMem × List AMem × List ChkF)
  | [], t, hl, M, Ms, cs => some (⟨t, hl⟩, M, Ms, cs)
  | o :: ops, t, hl, M, Ms, cs =>
    bif wantF t o.guard then
      match aopF call M hl (fev t) o.op with
      | some (v, hl', M') => opsDF call ops (t.put o.dst v) hl' M' (M' :: Ms) (chkOf o.op t v cs)
      | none => none
    else opsDF call ops (t.put o.dst .undef) hl M (M :: Ms) cs

inductive RepCs : List ChkF → List Chk → Prop
  | nil : RepCs [] []
  | cons {c : ChkF} {d : Chk} {cs : List ChkF} {ds : List Chk} : c.op = d.op → Rep c.t d.tmps → c.v = d.v → c.at_ = d.at_ → RepCs cs ds → RepCs (c :: cs) (d :: ds)

theorem opsDF_ok {call : CallH} : ∀ (ops : List AOper) {t : TT} {l : List AVal} {hl : HL} {M : AMem} {Ms : List AMem} {cs : List ChkF} {ds : List Chk} {ff : FF} {M' : AMem} {Ms' : List AMem} {cs' : List ChkF}, Rep t l → RepCs cs ds →
    opsDF call ops t hl M Ms cs = some (ff, M', Ms', cs') → ∃ l' ds', runOpsD call ops ⟨l, hl⟩ M Ms ds = some (⟨l', ff.hl⟩, M', Ms', ds') ∧ Rep ff.t l' ∧ RepCs cs' ds'
  | [], t, l, hl, M, Ms, cs, ds, ff, M', Ms', cs', h, hc, e => by
    simp only [opsDF, Option.some.injEq, Prod.mk.injEq] at e
    obtain ⟨rfl, rfl, rfl, rfl⟩ := e
    exact ⟨l, ds, rfl, h, hc⟩
  | o :: ops, t, l, hl, M, Ms, cs, ds, ff, M', Ms', cs', h, hc, e => by
    simp only [opsDF, wantF_eq h, fev_eq h, aopF_eq] at e
    simp only [runOpsD]
    cases hw : wantedA l o.guard with
    | true =>
      rw [hw, cond_true] at e
      simp only [if_true]
      cases hr : runAOp call o.op ⟨l, hl⟩ M with
      | none => rw [hr] at e; cases e
      | some r =>
        obtain ⟨v, hl1, M1⟩ := r
        rw [hr] at e
        simp only at e ⊢
        refine opsDF_ok ops (h.put o.dst v) ?_ e
        unfold chkOf
        split
        · rename_i op c l' e1
          rw [e1]
          exact .cons rfl h rfl rfl hc
        · rename_i hne
          split
          · rename_i op c l' e1
            exact absurd e1 (hne _ _ _)
          · exact hc
    | false =>
      rw [hw, cond_false] at e
      simp only [Bool.false_eq_true, if_false]
      exact opsDF_ok ops (h.put o.dst .undef) hc e

def ChkF.ok (n : Nat) (Ms : List AMem) (c : ChkF) : Bool :=
  c.at_.all fun m => match nth? Ms (n - m) with
    | some M => (match readF (fev c.t) M c.op with
      | some v => c.v.same v
      | none => false)
    | none => false

def okAll (n : Nat) (Ms : List AMem) : List ChkF → Bool
  | [] => true
  | c :: cs => c.ok n Ms && okAll n Ms cs

theorem okAll_ok {n : Nat} {Ms : List AMem} : ∀ {cs : List ChkF} {ds : List Chk}, RepCs cs ds → okAll n Ms cs = true → ds.all (Chk.ok n Ms) = true
  | _, _, .nil, _ => rfl
  | _, _, .cons h1 h2 h3 h4 hr, h => by
    simp only [okAll, Bool.and_eq_true] at h
    simp only [List.all_cons, Bool.and_eq_true]
    refine ⟨?_, okAll_ok hr h.2⟩
    have := h.1
    unfold ChkF.ok at this
    unfold Chk.ok
    rw [← h4, ← h3, ← h1, ← fev_eq h2]
    simp only [readF_eq] at this
    exact this

def regD (r : Option (FF × AMem × List AMem × List ChkF)) : Option (AExit × FF × AMem) := match r with
  | some (ff, M', Ms, cs) => bif okAll (Ms.length - 1) Ms cs then some (.normal, ff, M') else none
  | none => none
def regN (r : Option (FF × AMem)) : Option (AExit × FF × AMem) := match r with
  | some (ff, M') => some (.normal, ff, M')
  | none => none
def seqF (r : Option (AExit × FF × AMem)) (k : FF → AMem → Option (AExit × FF × AMem)) : Option (AExit × FF × AMem) := match r with
  | some (.normal, ff, M') => k ff M'
  | r => r
def condF (v : AVal) (a b : Option (AExit × FF × AMem)) : Option (AExit × FF × AMem) := match v with
  | .bool true => a
  | .bool false => b
  | _ => none
def blockF (id : Nat) (r : Option (AExit × FF × AMem)) : Option (AExit × FF × AMem) := match r with
  | some (.exit id', ff, M') => bif Nat.beq id' id then some (.normal, ff, M') else some (.exit id', ff, M')
  | r => r

def execF (call : CallH) : Nat → ACode → FF → AMem → Option (AExit × FF × AMem)
  | 0, _, _, _ => none
  | k + 1, c, ff, M =>
    match c with
    | .skip => some (.normal, ff, M)
    | .region ops => regN (opsF call ops ff.t ff.hl M)
    | .regionD ops => regD (opsDF call ops ff.t ff.hl M [M] [])
    | .seq a b => seqF (execF call k a ff M) (execF call k b)
    | .cond c a b => condF (fev ff.t c) (execF call k a ff M) (execF call k b ff M)
    | .block id b => blockF id (execF call k b ff M)
    | .loop b => seqF (execF call k b ff M) (execF call k (.loop b))
    | .exit id => some (.exit id, ff, M)
    | .ret => some (.ret, ff, M)
    | .fail => none

theorem execF_ok {call : CallH} : ∀ (k : Nat) (c : ACode) {ff : FF} {l : List AVal} {M : AMem} {e : AExit} {ff' : FF} {M' : AMem}, Rep ff.t l → execF call k c ff M = some (e, ff', M') →
    ∃ l', aexec call k c ⟨l, ff.hl⟩ M = some (e, ⟨l', ff'.hl⟩, M') ∧ Rep ff'.t l'
  | 0, c, ff, l, M, e, ff', M', h, he => by simp [execF] at he
  | k + 1, c, ff, l, M, e, ff', M', h, he => by
    have seq : ∀ (a b : ACode), seqF (execF call k a ff M) (execF call k b) = some (e, ff', M') →
        ∃ l', (match aexec call k a ⟨l, ff.hl⟩ M with | some (.normal, fr', M') => aexec call k b fr' M' | r => r) = some (e, ⟨l', ff'.hl⟩, M') ∧ Rep ff'.t l' := by
      intro a b he
      cases ha : execF call k a ff M with
      | none => rw [ha] at he; cases he
      | some r =>
        obtain ⟨e1, ff1, M1⟩ := r
        rw [ha] at he
        obtain ⟨l1, h1, h2⟩ := execF_ok k a h ha
        rw [h1]
        cases e1 with
        | normal =>
          obtain ⟨l2, h3, h4⟩ := execF_ok k b h2 he
          exact ⟨l2, h3, h4⟩
        | exit id =>
          simp only [seqF, Option.some.injEq, Prod.mk.injEq] at he
          obtain ⟨rfl, rfl, rfl⟩ := he
          exact ⟨l1, rfl, h2⟩
        | ret =>
          simp only [seqF, Option.some.injEq, Prod.mk.injEq] at he
          obtain ⟨rfl, rfl, rfl⟩ := he
          exact ⟨l1, rfl, h2⟩
    cases c with
    | skip =>
      simp only [execF, Option.some.injEq, Prod.mk.injEq] at he
      obtain ⟨rfl, rfl, rfl⟩ := he
      exact ⟨l, rfl, h⟩
    | exit id =>
      simp only [execF, Option.some.injEq, Prod.mk.injEq] at he
      obtain ⟨rfl, rfl, rfl⟩ := he
      exact ⟨l, rfl, h⟩
    | ret =>
      simp only [execF, Option.some.injEq, Prod.mk.injEq] at he
      obtain ⟨rfl, rfl, rfl⟩ := he
      exact ⟨l, rfl, h⟩
    | fail => simp [execF] at he
    | region ops =>
      simp only [execF] at he
      cases hr : opsF call ops ff.t ff.hl M with
      | none => rw [hr] at he; cases he
      | some r =>
        obtain ⟨f1, M1⟩ := r
        rw [hr] at he
        simp only [regN, Option.some.injEq, Prod.mk.injEq] at he
        obtain ⟨rfl, rfl, rfl⟩ := he
        obtain ⟨l1, h1, h2⟩ := opsF_ok ops h hr
        exact ⟨l1, by simp only [aexec, h1], h2⟩
    | regionD ops =>
      simp only [execF] at he
      cases hr : opsDF call ops ff.t ff.hl M [M] [] with
      | none => rw [hr] at he; cases he
      | some r =>
        obtain ⟨f1, M1, Ms, cs⟩ := r
        rw [hr] at he
        simp only [regD] at he
        cases hok : okAll (Ms.length - 1) Ms cs with
        | false => rw [hok] at he; cases he
        | true =>
          rw [hok] at he
          simp only [cond_true, Option.some.injEq, Prod.mk.injEq] at he
          obtain ⟨rfl, rfl, rfl⟩ := he
          obtain ⟨l1, ds, h1, h2, h3⟩ := opsDF_ok ops h .nil hr
          exact ⟨l1, by simp only [aexec, h1, okAll_ok h3 hok, if_true], h2⟩
    | seq a b =>
      simp only [execF] at he
      obtain ⟨l1, h1, h2⟩ := seq a b he
      exact ⟨l1, by simp only [aexec]; exact h1, h2⟩
    | loop b =>
      simp only [execF] at he
      obtain ⟨l1, h1, h2⟩ := seq b (.loop b) he
      exact ⟨l1, by simp only [aexec]; exact h1, h2⟩
    | cond c a b =>
      simp only [execF, fev_eq h] at he
      unfold condF at he
      split at he
      · rename_i ec
        obtain ⟨l1, h1, h2⟩ := execF_ok k a h he
        exact ⟨l1, by simp only [aexec, ec]; exact h1, h2⟩
      · rename_i ec
        obtain ⟨l1, h1, h2⟩ := execF_ok k b h he
        exact ⟨l1, by simp only [aexec, ec]; exact h1, h2⟩
      · cases he
    | block id b =>
      simp only [execF] at he
      cases hb : execF call k b ff M with
      | none => rw [hb] at he; cases he
      | some r =>
        obtain ⟨e1, f1, M1⟩ := r
        rw [hb] at he
        obtain ⟨l1, h1, h2⟩ := execF_ok k b h hb
        cases e1 with
        | normal =>
          simp only [blockF, Option.some.injEq, Prod.mk.injEq] at he
          obtain ⟨rfl, rfl, rfl⟩ := he
          exact ⟨l1, by simp only [aexec, h1], h2⟩
        | ret =>
          simp only [blockF, Option.some.injEq, Prod.mk.injEq] at he
          obtain ⟨rfl, rfl, rfl⟩ := he
          exact ⟨l1, by simp only [aexec, h1], h2⟩
        | exit id' =>
          simp only [blockF] at he
          cases hid : Nat.beq id' id with
          | true =>
            rw [hid] at he
            simp only [cond_true, Option.some.injEq, Prod.mk.injEq] at he
            obtain ⟨rfl, rfl, rfl⟩ := he
            exact ⟨l1, by simp only [aexec, h1, hid, if_true], h2⟩
          | false =>
            rw [hid] at he
            simp only [cond_false, Option.some.injEq, Prod.mk.injEq] at he
            obtain ⟨rfl, rfl, rfl⟩ := he
            exact ⟨l1, by simp [aexec, h1, hid], h2⟩

def resF' (t : TT) (M : AMem) : List ARes → Option (List AVal)
  | [] => some []
  | .tmp i :: l => (resF' t M l).map (t.get i :: ·)
  | .cell i ag :: l => (qLoad (fev t) M ag (.tmp i)).bind fun v => (resF' t M l).map (v :: ·)

theorem resF'_eq {t : TT} {l : List AVal} (h : Rep t l) (M : AMem) : ∀ rs, resF' t M rs = resultsA l M rs
  | [] => rfl
  | .tmp i :: rs => by
    simp only [resF', resultsA, h i, resF'_eq h M rs, Option.bind_eq_bind, Option.bind_some]
    cases resultsA l M rs <;> rfl
  | .cell i ag :: rs => by
    simp only [resF', resultsA, resF'_eq h M rs, Option.bind_eq_bind, fev_eq h]
    have e : qLoad (Opd.ev l) M ag (.tmp i) = ReadOp.run M (Opd.ev l) (.load ag (.tmp i)) := rfl
    rw [e]
    cases ReadOp.run M (Opd.ev l) (.load ag (.tmp i)) with
    | none => rfl
    | some v => cases resultsA l M rs <;> rfl

def endF (fn : AFn) (M : AMem) (r : Option (AExit × FF × AMem)) : Option (AVal × AMem) := match r with
  | some (.normal, ff, M1) => (resF' ff.t M1 fn.res).bind fun vs => finish fn.keep ff.hl M M1 vs
  | some (.ret, ff, M1) => (resF' ff.t M1 fn.res).bind fun vs => finish fn.keep ff.hl M M1 vs
  | _ => none

def callCode (call : CallH) (k : Nat) (fn : AFn) (args : List AVal) (M : AMem) : Option (AVal × AMem) :=
  endF fn M (execF call k fn.body ⟨TT.ofList 0 args .leaf, Stk.empty⟩ { M with dirty := [] })

def callF (fs : FuncId → Option Callee) : Nat → FuncId → List AVal → AMem → Option (AVal × AMem)
  | 0, _, _, _ => none
  | k + 1, f, args, M =>
    match fs f with
    | none => none
    | some (.prim run) => run args M
    | some (.code fn) => callCode (callF fs k) k fn args M

/-- Handlers that answer less. -/
theorem runCall_le {call call' : CallH} (h : ∀ f args M r, call f args M = some r → call' f args M = some r) {f : FuncId} {args : List AVal} {M : AMem} {r : AVal × AMem} (e : runCall call f args M = some r) : runCall call' f args M = some r := h _ _ _ _ e

theorem runAOp_le {call call' : CallH} (h : ∀ f args M r, call f args M = some r → call' f args M = some r) {op : AOp} {fr : Fr} {M : AMem} {r : AVal × HL × AMem} (e : runAOp call op fr M = some r) : runAOp call' op fr M = some r := by
  cases op with
  | call f args =>
    simp only [runAOp] at e ⊢
    cases hc : runCall call f (evAll (Opd.ev fr.tmps) args) M with
    | none => rw [hc] at e; cases e
    | some x => rw [hc] at e; rw [runCall_le h hc]; exact e
  | callv f args =>
    simp only [runAOp] at e ⊢
    split at e
    · rename_i g a b eg
      cases hc : runCall call g (a ++ evAll (Opd.ev fr.tmps) args ++ b) M with
      | none => rw [hc] at e; cases e
      | some x => rw [hc] at e; rw [runCall_le h hc]; exact e
    · cases e
  | _ => exact e

theorem runOps_le {call call' : CallH} (h : ∀ f args M r, call f args M = some r → call' f args M = some r) : ∀ (ops : List AOper) {fr : Fr} {M : AMem} {r : Fr × AMem}, runOps call ops fr M = some r → runOps call' ops fr M = some r
  | [], _, _, _, e => e
  | o :: ops, fr, M, r, e => by
    simp only [runOps] at e ⊢
    split at e
    · rename_i hw
      rw [if_pos hw]
      cases hr : runAOp call o.op fr M with
      | none => rw [hr] at e; cases e
      | some x => rw [hr] at e; rw [runAOp_le h hr]; exact runOps_le h ops e
    · rename_i hw
      rw [if_neg hw]
      exact runOps_le h ops e

theorem runOpsD_le {call call' : CallH} (h : ∀ f args M r, call f args M = some r → call' f args M = some r) : ∀ (ops : List AOper) {fr : Fr} {M : AMem} {Ms : List AMem} {cs : List Chk} {r : Fr × AMem × List AMem × List Chk},
    runOpsD call ops fr M Ms cs = some r → runOpsD call' ops fr M Ms cs = some r
  | [], _, _, _, _, _, e => e
  | o :: ops, fr, M, Ms, cs, r, e => by
    simp only [runOpsD] at e ⊢
    split at e
    · rename_i hw
      rw [if_pos hw]
      cases hr : runAOp call o.op fr M with
      | none => rw [hr] at e; cases e
      | some x => rw [hr] at e; rw [runAOp_le h hr]; exact runOpsD_le h ops e
    · rename_i hw
      rw [if_neg hw]
      exact runOpsD_le h ops e

/-- More rounds, handlers that answer more: the same. -/
theorem aexec_le {call call' : CallH} (h : ∀ f args M r, call f args M = some r → call' f args M = some r) : ∀ {k k' : Nat} (_ : k ≤ k') {c : ACode} {fr : Fr} {M : AMem} {r : AExit × Fr × AMem}, aexec call k c fr M = some r → aexec call' k' c fr M = some r
  | 0, _, _, c, fr, M, r, e => by simp [aexec] at e
  | k + 1, 0, hk, _, _, _, _, _ => by omega
  | k + 1, k' + 1, hk, c, fr, M, r, e => by
    have ih : ∀ {c : ACode} {fr : Fr} {M : AMem} {r : AExit × Fr × AMem}, aexec call k c fr M = some r → aexec call' k' c fr M = some r := fun e => aexec_le h (by omega) e
    have seq : ∀ (a b : ACode), (match aexec call k a fr M with | some (.normal, fr', M') => aexec call k b fr' M' | r => r) = some r → (match aexec call' k' a fr M with | some (.normal, fr', M') => aexec call' k' b fr' M' | r => r) = some r := by
      intro a b e
      cases ha : aexec call k a fr M with
      | none => rw [ha] at e; cases e
      | some x =>
        obtain ⟨e1, fr1, M1⟩ := x
        rw [ha] at e
        rw [ih ha]
        cases e1 with
        | normal => exact ih e
        | exit id => exact e
        | ret => exact e
    cases c with
    | skip => exact e
    | exit id => exact e
    | ret => exact e
    | fail => simp [aexec] at e
    | region ops =>
      simp only [aexec] at e ⊢
      cases hr : runOps call ops fr M with
      | none => rw [hr] at e; cases e
      | some x => rw [hr] at e; rw [runOps_le h ops hr]; exact e
    | regionD ops =>
      simp only [aexec] at e ⊢
      cases hr : runOpsD call ops fr M [M] [] with
      | none => rw [hr] at e; cases e
      | some x => rw [hr] at e; rw [runOpsD_le h ops hr]; exact e
    | seq a b => simp only [aexec] at e ⊢; exact seq a b e
    | loop b => simp only [aexec] at e ⊢; exact seq b (.loop b) e
    | cond c a b =>
      simp only [aexec] at e ⊢
      split at e
      · exact ih e
      · exact ih e
      · cases e
    | block id b =>
      simp only [aexec] at e ⊢
      cases hb : aexec call k b fr M with
      | none => rw [hb] at e; cases e
      | some x => rw [hb] at e; rw [ih hb]; exact e

theorem acall_le {fs : FuncId → Option Callee} : ∀ {k k' : Nat} (_ : k ≤ k') {f : FuncId} {args : List AVal} {M : AMem} {r : AVal × AMem}, acall fs k f args M = some r → acall fs k' f args M = some r
  | 0, _, _, f, args, M, r, e => by simp [acall] at e
  | k + 1, 0, hk, _, _, _, _, _ => by omega
  | k + 1, k' + 1, hk, f, args, M, r, e => by
    simp only [acall] at e ⊢
    cases hf : fs f with
    | none => rw [hf] at e; cases e
    | some ce =>
      rw [hf] at e
      cases ce with
      | prim run => exact e
      | code fn =>
        simp only at e ⊢
        cases hx : aexec (acall fs k) k fn.body ⟨args, Stk.empty⟩ { M with dirty := [] } with
        | none => rw [hx] at e; cases e
        | some x =>
          rw [hx] at e
          rw [aexec_le (fun f args M r h => acall_le (show k ≤ k' by omega) h) (show k ≤ k' by omega) hx]
          exact e

theorem callF_ok {fs : FuncId → Option Callee} : ∀ (k : Nat) {f : FuncId} {args : List AVal} {M : AMem} {r : AVal × AMem}, callF fs k f args M = some r → acall fs k f args M = some r
  | 0, f, args, M, r, e => by simp [callF] at e
  | k + 1, f, args, M, r, e => by
    simp only [callF] at e
    simp only [acall]
    cases hf : fs f with
    | none => rw [hf] at e; cases e
    | some ce =>
      rw [hf] at e
      cases ce with
      | prim run => exact e
      | code fn =>
        simp only [callCode] at e
        cases hx : execF (callF fs k) k fn.body ⟨TT.ofList 0 args .leaf, Stk.empty⟩ { M with dirty := [] } with
        | none => rw [hx] at e; cases e
        | some x =>
          obtain ⟨ex, ff, M1⟩ := x
          rw [hx] at e
          obtain ⟨l1, h1, h2⟩ := execF_ok k fn.body (Rep.ofList args) hx
          have h3 := aexec_le (fun f args M r h => callF_ok k h) (Nat.le_refl k) h1
          simp only
          rw [h3]
          cases ex with
          | normal =>
            simp only [endF, resF'_eq h2] at e
            simp only
            cases hr : resultsA l1 M1 fn.res with
            | none => rw [hr] at e; cases e
            | some vs => rw [hr] at e; exact e
          | ret =>
            simp only [endF, resF'_eq h2] at e
            simp only
            cases hr : resultsA l1 M1 fn.res with
            | none => rw [hr] at e; cases e
            | some vs => rw [hr] at e; exact e
          | exit id => cases e

end Go.Abs
end

/-
  Functions by their numbers.
-/
section
namespace Go.Abs

namespace BT
variable {α : Type}

def ofList : List (Nat × α) → BT α
  | [] => .leaf
  | (i, v) :: l => (ofList l).set i v

theorem get_ofList : ∀ (l : List (Nat × α)) (j : Nat) (x : α), (ofList l).get j = some x → (j, x) ∈ l
  | [], j, x, e => by simp [ofList, get] at e
  | (i, v) :: l, j, x, e => by
    simp only [ofList, get_set] at e
    split at e
    · rename_i h
      subst h
      injection e with e; subst e
      exact List.mem_cons_self
    · exact List.mem_cons_of_mem _ (get_ofList l j x e)
end BT

theorem forall_nil {α : Type} {p : α → Prop} : ∀ x ∈ ([] : List α), p x := fun x h => by simp at h
theorem forall_cons {α : Type} {p : α → Prop} {a : α} {l : List α} (h : p a) (t : ∀ x ∈ l, p x) : ∀ x ∈ a :: l, p x := fun x hx => by
  rcases List.mem_cons.1 hx with rfl | hx
  · exact h
  · exact t x hx

/-- The functions of a table; some without a body ahead of them. -/
def fsOf (prims : Nat → Option (List AVal → AMem → Option (AVal × AMem))) (t : BT AFn) (f : FuncId) : Option Callee :=
  match t.get f with
  | some c => some (.code c)
  | none => (prims f).map .prim

theorem fsOf_ok {P : Program} {C : Cfg} {prims : Nat → Option (List AVal → AMem → Option (AVal × AMem))} {l : List (Nat × AFn)} (h1 : P.follows .mixedOrders = true) (h2 : ∀ x ∈ l, cfn P C x.1 = some x.2)
    (h3 : ∀ f run, prims f = some run → FOK P C f run) (h5 : ∀ f run, prims f = some run → ∀ args M r, run args M = some r → Tame M r.2) (h4 : ∀ (f : Nat) fn, P.funcs[f]? = some fn → (fn.name == "runtime.NumGoroutine") = false) : FsOK P C (fsOf prims (BT.ofList l)) where
  order := h1
  code f fn h := by
    unfold fsOf at h
    split at h
    · rename_i c hc
      injection h with h; injection h with h; subst h
      exact h2 _ (BT.get_ofList l f c hc)
    · cases hp : prims f with
      | none => rw [hp] at h; cases h
      | some r => rw [hp] at h; cases h
  prim f run h := by
    unfold fsOf at h
    split at h
    · cases h
    · cases hp : prims f with
      | none => rw [hp] at h; cases h
      | some r =>
        rw [hp] at h
        simp only [Option.map_some, Option.some.injEq, Callee.prim.injEq] at h
        subst h
        exact h3 f r hp
  tame f run h := by
    unfold fsOf at h
    split at h
    · cases h
    · cases hp : prims f with
      | none => rw [hp] at h; cases h
      | some r =>
        rw [hp] at h
        simp only [Option.map_some, Option.some.injEq, Callee.prim.injEq] at h
        subst h
        exact h5 f r hp
  name := h4

end Go.Abs
end

/-
  The run without a bound on rounds: what it comes to, as equations.
-/
section
namespace Go.Abs

/-! ## Limits of what answers more and more -/

open Classical in
noncomputable def limit {α : Type} (f : Nat → Option α) : Option α := if h : ∃ k r, f k = some r then f (Classical.choose h) else none

def Grows {α : Type} (f : Nat → Option α) : Prop := ∀ k k' r, k ≤ k' → f k = some r → f k' = some r

theorem limit_some {α : Type} {f : Nat → Option α} (hf : Grows f) {r : α} : limit f = some r ↔ ∃ k, f k = some r := by
  unfold limit
  constructor
  · intro h
    split at h
    · exact ⟨_, h⟩
    · cases h
  · rintro ⟨k, hk⟩
    have hex : ∃ k r, f k = some r := ⟨k, r, hk⟩
    rw [dif_pos hex]
    obtain ⟨r', hr'⟩ := Classical.choose_spec hex
    rw [hr']
    rcases Nat.le_total k (Classical.choose hex) with h | h
    · have := hf _ _ _ h hk; rw [hr'] at this; exact this
    · have := hf _ _ _ h hr'; rw [hk] at this; exact this.symm

theorem limit_eq {α : Type} {f g : Nat → Option α} (hf : Grows f) (hg : Grows g) (h : ∀ r, (∃ k, f k = some r) ↔ ∃ k, g k = some r) : limit f = limit g := by
  cases hl : limit f with
  | some r =>
    have := (limit_some hf).1 hl
    exact ((limit_some hg).2 ((h r).1 this)).symm
  | none =>
    cases hr : limit g with
    | none => rfl
    | some r =>
      have := (limit_some hg).1 hr
      rw [(limit_some hf).2 ((h r).2 this)] at hl; cases hl

section
variable (fs : FuncId → Option Callee)

noncomputable def call (f : FuncId) (args : List AVal) (M : AMem) : Option (AVal × AMem) := limit fun k => acall fs k f args M
noncomputable def exec (c : ACode) (fr : Fr) (M : AMem) : Option (AExit × Fr × AMem) := limit fun k => aexec (acall fs k) k c fr M

theorem call_grows (f : FuncId) (args : List AVal) (M : AMem) : Grows fun k => acall fs k f args M := fun _ _ _ h e => acall_le h e
theorem exec_grows (c : ACode) (fr : Fr) (M : AMem) : Grows fun k => aexec (acall fs k) k c fr M := fun _ _ _ h e => aexec_le (fun _ _ _ _ e => acall_le h e) h e

variable {fs}

theorem call_of {k : Nat} {f : FuncId} {args : List AVal} {M : AMem} {r : AVal × AMem} (h : acall fs k f args M = some r) : call fs f args M = some r := (limit_some (call_grows fs f args M)).2 ⟨k, h⟩
theorem call_some {f : FuncId} {args : List AVal} {M : AMem} {r : AVal × AMem} : call fs f args M = some r ↔ ∃ k, acall fs k f args M = some r := limit_some (call_grows fs f args M)
theorem call_ofF {k : Nat} {f : FuncId} {args : List AVal} {M : AMem} {r : AVal × AMem} (h : callF fs k f args M = some r) : call fs f args M = some r := call_of (callF_ok k h)
theorem exec_some {c : ACode} {fr : Fr} {M : AMem} {r : AExit × Fr × AMem} : exec fs c fr M = some r ↔ ∃ k, aexec (acall fs k) k c fr M = some r := limit_some (exec_grows fs c fr M)

theorem call_ok {P : Program} {C : Cfg} (h : FsOK P C fs) (f : FuncId) : FOK P C f (call fs f) := by
  intro args M av M' hr
  obtain ⟨k, hk⟩ := call_some.1 hr
  exact acall_sound h k f args M av M' hk

/-! ## Equations -/

theorem eq_of_some {α : Type} {a b : Option α} (h : ∀ r, a = some r ↔ b = some r) : a = b := by
  cases a with
  | some r => exact ((h r).1 rfl).symm
  | none =>
    cases b with
    | none => rfl
    | some r => exact absurd ((h r).2 rfl) (by simp)

theorem aop_limit {op : AOp} {fr : Fr} {M : AMem} {r : AVal × HL × AMem} : runAOp (call fs) op fr M = some r ↔ ∃ k, runAOp (acall fs k) op fr M = some r := by
  constructor
  · intro h
    cases op with
    | call f args =>
      simp only [runAOp, runCall] at h ⊢
      cases hc : call fs f (sealAll (evAll (Opd.ev fr.tmps) args)) M with
      | none => rw [hc] at h; cases h
      | some x =>
        obtain ⟨k, hk⟩ := call_some.1 hc
        rw [hc] at h
        exact ⟨k, by rw [hk]; exact h⟩
    | callv f args =>
      simp only [runAOp, runCall] at h ⊢
      split at h
      · rename_i g a b eg
        cases hc : call fs g (sealAll (a ++ evAll (Opd.ev fr.tmps) args ++ b)) M with
        | none => rw [hc] at h; cases h
        | some x =>
          obtain ⟨k, hk⟩ := call_some.1 hc
          rw [hc] at h
          exact ⟨k, by rw [hk]; exact h⟩
      · cases h
    | _ => exact ⟨0, h⟩
  · rintro ⟨k, h⟩
    exact runAOp_le (fun f args M r e => call_of e) h

theorem ops_limit : ∀ (ops : List AOper) {fr : Fr} {M : AMem} {r : Fr × AMem}, runOps (call fs) ops fr M = some r ↔ ∃ k, runOps (acall fs k) ops fr M = some r
  | [], fr, M, r => ⟨fun h => ⟨0, h⟩, fun ⟨_, h⟩ => h⟩
  | o :: ops, fr, M, r => by
    constructor
    · intro h
      simp only [runOps] at h ⊢
      by_cases hw : wantedA fr.tmps o.guard = true
      · simp only [hw, if_true] at h ⊢
        cases hr : runAOp (call fs) o.op fr M with
        | none => rw [hr] at h; cases h
        | some x =>
          obtain ⟨v, hl, M1⟩ := x
          rw [hr] at h
          obtain ⟨k1, h1⟩ := aop_limit.1 hr
          obtain ⟨k2, h2⟩ := (ops_limit ops).1 h
          refine ⟨k1 + k2, ?_⟩
          rw [runAOp_le (fun f args M r e => acall_le (Nat.le_add_right k1 k2) e) h1]
          exact runOps_le (fun f args M r e => acall_le (Nat.le_add_left k2 k1) e) ops h2
      · simp only [hw] at h ⊢
        exact (ops_limit ops).1 h
    · rintro ⟨k, h⟩
      exact runOps_le (fun f args M r e => call_of e) _ h

theorem opsD_limit : ∀ (ops : List AOper) {fr : Fr} {M : AMem} {Ms : List AMem} {cs : List Chk} {r : Fr × AMem × List AMem × List Chk}, runOpsD (call fs) ops fr M Ms cs = some r ↔ ∃ k, runOpsD (acall fs k) ops fr M Ms cs = some r
  | [], fr, M, Ms, cs, r => ⟨fun h => ⟨0, h⟩, fun ⟨_, h⟩ => h⟩
  | o :: ops, fr, M, Ms, cs, r => by
    constructor
    · intro h
      simp only [runOpsD] at h ⊢
      by_cases hw : wantedA fr.tmps o.guard = true
      · simp only [hw, if_true] at h ⊢
        cases hr : runAOp (call fs) o.op fr M with
        | none => rw [hr] at h; cases h
        | some x =>
          obtain ⟨v, hl, M1⟩ := x
          rw [hr] at h
          obtain ⟨k1, h1⟩ := aop_limit.1 hr
          obtain ⟨k2, h2⟩ := (opsD_limit ops).1 h
          refine ⟨k1 + k2, ?_⟩
          rw [runAOp_le (fun f args M r e => acall_le (Nat.le_add_right k1 k2) e) h1]
          exact runOpsD_le (fun f args M r e => acall_le (Nat.le_add_left k2 k1) e) ops h2
      · simp only [hw] at h ⊢
        exact (opsD_limit ops).1 h
    · rintro ⟨k, h⟩
      exact runOpsD_le (fun f args M r e => call_of e) _ h

/-- A later round serves as well. -/
theorem exec_at {c : ACode} {fr : Fr} {M : AMem} {r : AExit × Fr × AMem} (h : exec fs c fr M = some r) : ∃ k, ∀ k', k ≤ k' → aexec (acall fs k') k' c fr M = some r := by
  obtain ⟨k, hk⟩ := exec_some.1 h
  exact ⟨k, fun k' h' => exec_grows fs c fr M k k' r h' hk⟩

/-- One round more than is asked for. -/
theorem exec_succ {c : ACode} {fr : Fr} {M : AMem} {r : AExit × Fr × AMem} : exec fs c fr M = some r ↔ ∃ k, aexec (acall fs (k + 1)) (k + 1) c fr M = some r := by
  rw [exec_some]
  constructor
  · rintro ⟨k, h⟩; exact ⟨k, exec_grows fs c fr M k (k + 1) r (Nat.le_succ k) h⟩
  · rintro ⟨k, h⟩; exact ⟨k + 1, h⟩

theorem exec_skip (fr : Fr) (M : AMem) : exec fs .skip fr M = some (.normal, fr, M) := exec_succ.2 ⟨0, rfl⟩
theorem exec_exit (id : Nat) (fr : Fr) (M : AMem) : exec fs (.exit id) fr M = some (.exit id, fr, M) := exec_succ.2 ⟨0, rfl⟩
theorem exec_ret (fr : Fr) (M : AMem) : exec fs .ret fr M = some (.ret, fr, M) := exec_succ.2 ⟨0, rfl⟩

def normalR : Option (Fr × AMem) → Option (AExit × Fr × AMem)
  | some (fr, M) => some (.normal, fr, M)
  | none => none
def normalD : Option (Fr × AMem × List AMem × List Chk) → Option (AExit × Fr × AMem)
  | some (fr, M, Ms, cs) => if cs.all (Chk.ok (Ms.length - 1) Ms) then some (.normal, fr, M) else none
  | none => none

theorem exec_region (ops : List AOper) (fr : Fr) (M : AMem) : exec fs (.region ops) fr M = normalR (runOps (call fs) ops fr M) := by
  apply eq_of_some
  intro r
  rw [exec_succ]
  constructor
  · rintro ⟨k, h⟩
    simp only [aexec] at h
    split at h
    · rename_i fr1 M1 h1
      rw [(ops_limit ops).2 ⟨_, h1⟩]; exact h
    · cases h
  · intro h
    cases hr : runOps (call fs) ops fr M with
    | none => rw [hr] at h; cases h
    | some x =>
      rw [hr] at h
      obtain ⟨k, hk⟩ := (ops_limit ops).1 hr
      refine ⟨k, ?_⟩
      simp only [aexec, runOps_le (fun f args M r e => acall_le (Nat.le_succ k) e) ops hk]
      exact h

theorem exec_regionD (ops : List AOper) (fr : Fr) (M : AMem) : exec fs (.regionD ops) fr M = normalD (runOpsD (call fs) ops fr M [M] []) := by
  apply eq_of_some
  intro r
  rw [exec_succ]
  constructor
  · rintro ⟨k, h⟩
    simp only [aexec] at h
    split at h
    · rename_i fr1 M1 Ms cs h1
      rw [(opsD_limit ops).2 ⟨_, h1⟩]; exact h
    · cases h
  · intro h
    cases hr : runOpsD (call fs) ops fr M [M] [] with
    | none => rw [hr] at h; cases h
    | some x =>
      rw [hr] at h
      obtain ⟨k, hk⟩ := (opsD_limit ops).1 hr
      refine ⟨k, ?_⟩
      simp only [aexec, runOpsD_le (fun f args M r e => acall_le (Nat.le_succ k) e) ops hk]
      exact h

def thenR (r : Option (AExit × Fr × AMem)) (k : Fr → AMem → Option (AExit × Fr × AMem)) : Option (AExit × Fr × AMem) := match r with
  | some (.normal, fr, M) => k fr M
  | some (.exit id, fr, M) => some (.exit id, fr, M)
  | some (.ret, fr, M) => some (.ret, fr, M)
  | none => none
def condR (v : AVal) (a b : Option (AExit × Fr × AMem)) : Option (AExit × Fr × AMem) := match v with
  | .bool true => a
  | .bool false => b
  | _ => none
def blockR (id : Nat) (r : Option (AExit × Fr × AMem)) : Option (AExit × Fr × AMem) := match r with
  | some (.exit id', fr, M) => if Nat.beq id' id then some (.normal, fr, M) else some (.exit id', fr, M)
  | some (.normal, fr, M) => some (.normal, fr, M)
  | some (.ret, fr, M) => some (.ret, fr, M)
  | none => none

theorem seq_limit (a b : ACode) (fr : Fr) (M : AMem) (r : AExit × Fr × AMem) :
    (∃ k, (match aexec (acall fs (k + 1)) k a fr M with | some (.normal, fr', M') => aexec (acall fs (k + 1)) k b fr' M' | r => r) = some r) ↔ thenR (exec fs a fr M) (exec fs b) = some r := by
  have up : ∀ {c : ACode} {fr : Fr} {M : AMem} {r : AExit × Fr × AMem} {k : Nat}, aexec (acall fs (k + 1)) k c fr M = some r → exec fs c fr M = some r := fun {c fr M r k} h =>
    exec_some.2 ⟨k + 1, aexec_le (fun _ _ _ _ e => e) (Nat.le_succ k) h⟩
  constructor
  · rintro ⟨k, h⟩
    cases ha : aexec (acall fs (k + 1)) k a fr M with
    | none => rw [ha] at h; cases h
    | some x =>
      obtain ⟨e, fr1, M1⟩ := x
      rw [ha] at h
      rw [up ha]
      cases e with
      | normal => exact up h
      | exit id => exact h
      | ret => exact h
  · intro h
    cases ha : exec fs a fr M with
    | none => rw [ha] at h; cases h
    | some x =>
      obtain ⟨e, fr1, M1⟩ := x
      rw [ha] at h
      obtain ⟨k1, h1⟩ := exec_at ha
      cases e with
      | normal =>
        obtain ⟨k2, h2⟩ := exec_at h
        refine ⟨k1 + k2, ?_⟩
        have g1 := aexec_le (fun f args M r e => acall_le (Nat.le_succ (k1 + k2)) e) (Nat.le_refl _) (h1 (k1 + k2) (by omega))
        have g2 := aexec_le (fun f args M r e => acall_le (Nat.le_succ (k1 + k2)) e) (Nat.le_refl _) (h2 (k1 + k2) (by omega))
        rw [g1]; exact g2
      | exit id =>
        refine ⟨k1, ?_⟩
        rw [aexec_le (fun f args M r e => acall_le (Nat.le_succ k1) e) (Nat.le_refl _) (h1 k1 (Nat.le_refl _))]; exact h
      | ret =>
        refine ⟨k1, ?_⟩
        rw [aexec_le (fun f args M r e => acall_le (Nat.le_succ k1) e) (Nat.le_refl _) (h1 k1 (Nat.le_refl _))]; exact h

theorem exec_seq (a b : ACode) (fr : Fr) (M : AMem) : exec fs (.seq a b) fr M = thenR (exec fs a fr M) (exec fs b) := by
  apply eq_of_some
  intro r
  rw [exec_succ, ← seq_limit]
  rfl

theorem exec_loop (b : ACode) (fr : Fr) (M : AMem) : exec fs (.loop b) fr M = thenR (exec fs b fr M) (exec fs (.loop b)) := by
  apply eq_of_some
  intro r
  rw [exec_succ, ← seq_limit]
  rfl

theorem exec_cond (c : Opd) (a b : ACode) (fr : Fr) (M : AMem) : exec fs (.cond c a b) fr M = condR (c.ev fr.tmps) (exec fs a fr M) (exec fs b fr M) := by
  have up : ∀ {c : ACode} {fr : Fr} {M : AMem} {r : AExit × Fr × AMem} {k : Nat}, aexec (acall fs (k + 1)) k c fr M = some r → exec fs c fr M = some r := fun {c fr M r k} h =>
    exec_some.2 ⟨k + 1, aexec_le (fun _ _ _ _ e => e) (Nat.le_succ k) h⟩
  have down : ∀ {c : ACode} {fr : Fr} {M : AMem} {r : AExit × Fr × AMem}, exec fs c fr M = some r → ∃ k, aexec (acall fs (k + 1)) k c fr M = some r := fun {c fr M r} h => by
    obtain ⟨k, hk⟩ := exec_some.1 h
    exact ⟨k, aexec_le (fun f args M r e => acall_le (Nat.le_succ k) e) (Nat.le_refl _) hk⟩
  apply eq_of_some
  intro r
  rw [exec_succ]
  simp only [aexec]
  constructor
  · rintro ⟨k, h⟩
    split at h
    · rename_i e; rw [e]; exact up h
    · rename_i e; rw [e]; exact up h
    · cases h
  · intro h
    unfold condR at h
    split at h
    · rename_i e
      obtain ⟨k, hk⟩ := down h
      exact ⟨k, by rw [e]; exact hk⟩
    · rename_i e
      obtain ⟨k, hk⟩ := down h
      exact ⟨k, by rw [e]; exact hk⟩
    · cases h

theorem exec_block (id : Nat) (b : ACode) (fr : Fr) (M : AMem) : exec fs (.block id b) fr M = blockR id (exec fs b fr M) := by
  have up : ∀ {c : ACode} {fr : Fr} {M : AMem} {r : AExit × Fr × AMem} {k : Nat}, aexec (acall fs (k + 1)) k c fr M = some r → exec fs c fr M = some r := fun {c fr M r k} h =>
    exec_some.2 ⟨k + 1, aexec_le (fun _ _ _ _ e => e) (Nat.le_succ k) h⟩
  have down : ∀ {c : ACode} {fr : Fr} {M : AMem} {r : AExit × Fr × AMem}, exec fs c fr M = some r → ∃ k, aexec (acall fs (k + 1)) k c fr M = some r := fun {c fr M r} h => by
    obtain ⟨k, hk⟩ := exec_some.1 h
    exact ⟨k, aexec_le (fun f args M r e => acall_le (Nat.le_succ k) e) (Nat.le_refl _) hk⟩
  apply eq_of_some
  intro r
  rw [exec_succ]
  simp only [aexec]
  constructor
  · rintro ⟨k, h⟩
    cases hb : aexec (acall fs (k + 1)) k b fr M with
    | none => rw [hb] at h; cases h
    | some x =>
      obtain ⟨e, fr1, M1⟩ := x
      rw [hb] at h
      rw [up hb]
      cases e <;> exact h
  · intro h
    cases hb : exec fs b fr M with
    | none => rw [hb] at h; cases h
    | some x =>
      obtain ⟨e, fr1, M1⟩ := x
      rw [hb] at h
      obtain ⟨k, hk⟩ := down hb
      refine ⟨k, ?_⟩
      rw [hk]
      cases e <;> exact h

def endR (fn : AFn) (M : AMem) (r : Option (AExit × Fr × AMem)) : Option (AVal × AMem) := match r with
  | some (.normal, fr, M1) => (resultsA fr.tmps M1 fn.res).bind fun vs => finish fn.keep fr.hl M M1 vs
  | some (.ret, fr, M1) => (resultsA fr.tmps M1 fn.res).bind fun vs => finish fn.keep fr.hl M M1 vs
  | some (.exit _, _, _) => none
  | none => none

theorem call_code {f : FuncId} {fn : AFn} (hf : fs f = some (.code fn)) (args : List AVal) (M : AMem) : call fs f args M = endR fn M (exec fs fn.body ⟨args, Stk.empty⟩ { M with dirty := [] }) := by
  apply eq_of_some
  intro r
  rw [call_some]
  constructor
  · rintro ⟨k, h⟩
    cases k with
    | zero => simp [acall] at h
    | succ k =>
      simp only [acall, hf] at h
      cases hx : aexec (acall fs k) k fn.body ⟨args, Stk.empty⟩ { M with dirty := [] } with
      | none => rw [hx] at h; cases h
      | some x =>
        obtain ⟨e, fr, M1⟩ := x
        rw [hx] at h
        rw [exec_some.2 ⟨k, hx⟩]
        cases e with
        | exit id => cases h
        | normal =>
          simp only at h
          simp only [endR]
          split at h
          · rename_i vs hvs; rw [hvs]; exact h
          · cases h
        | ret =>
          simp only at h
          simp only [endR]
          split at h
          · rename_i vs hvs; rw [hvs]; exact h
          · cases h
  · intro h
    cases hx : exec fs fn.body ⟨args, Stk.empty⟩ { M with dirty := [] } with
    | none => rw [hx] at h; cases h
    | some x =>
      obtain ⟨e, fr, M1⟩ := x
      rw [hx] at h
      obtain ⟨k, hk⟩ := exec_some.1 hx
      refine ⟨k + 1, ?_⟩
      simp only [acall, hf, hk]
      cases e with
      | exit id => cases h
      | normal =>
        simp only [endR] at h
        simp only
        cases hvs : resultsA fr.tmps M1 fn.res with
        | none => rw [hvs] at h; cases h
        | some vs => rw [hvs] at h; exact h
      | ret =>
        simp only [endR] at h
        simp only
        cases hvs : resultsA fr.tmps M1 fn.res with
        | none => rw [hvs] at h; cases h
        | some vs => rw [hvs] at h; exact h

theorem call_prim {f : FuncId} {run : List AVal → AMem → Option (AVal × AMem)} (hf : fs f = some (.prim run)) (args : List AVal) (M : AMem) : call fs f args M = run args M := by
  apply eq_of_some
  intro r
  rw [call_some]
  constructor
  · rintro ⟨k, h⟩
    cases k with
    | zero => simp [acall] at h
    | succ k => simpa only [acall, hf] using h
  · intro h
    exact ⟨1, by simpa only [acall, hf] using h⟩

end
end Go.Abs
end

/-
  Equations of the run by which simp steps through a function: each asks its first part alone.
-/
section
namespace Go.Abs

theorem lget_self {α : Type} (d : α) (l : List α) (i : Nat) (v : α) : lget d (lset d l i v) i = v := by rw [lget_lset, if_pos rfl]
theorem lget_ne {α : Type} (d : α) (l : List α) (i j : Nat) (v : α) (h : (i == j) = false) : lget d (lset d l i v) j = lget d l j := by
  rw [lget_lset, if_neg (fun e => by rw [e] at h; simp at h)]
theorem lget_cons_zero {α : Type} (d a : α) (l : List α) : lget d (a :: l) 0 = a := rfl

variable {fs : FuncId → Option Callee}

def opR (h : CallH) (dst : Option Nat) (ops : List AOper) (tmps : List AVal) : Option (AVal × HL × AMem) → Option (Fr × AMem)
  | some (v, hl, M) => runOps h ops ⟨putA tmps dst v, hl⟩ M
  | none => none
def guardR (h : CallH) (o : AOper) (ops : List AOper) (tmps : List AVal) (hl : HL) (M : AMem) : Bool → Option (Fr × AMem)
  | true => opR h o.dst ops tmps (runAOp h o.op ⟨tmps, hl⟩ M)
  | false => runOps h ops ⟨putA tmps o.dst .undef, hl⟩ M

theorem ops_nil (h : CallH) (fr : Fr) (M : AMem) : runOps h [] fr M = some (fr, M) := rfl
theorem ops_cons (h : CallH) (o : AOper) (ops : List AOper) (tmps : List AVal) (hl : HL) (M : AMem) : runOps h (o :: ops) ⟨tmps, hl⟩ M = guardR h o ops tmps hl M (wantedA tmps o.guard) := by
  simp only [runOps, guardR]
  cases wantedA tmps o.guard with
  | true => rfl
  | false => rfl
theorem guard_true (h : CallH) (dst : Option Nat) (op : AOp) (g : Option (Nat × Bool)) (ops : List AOper) (tmps : List AVal) (hl : HL) (M : AMem) : guardR h ⟨dst, op, g⟩ ops tmps hl M true = opR h dst ops tmps (runAOp h op ⟨tmps, hl⟩ M) := rfl
theorem guard_false (h : CallH) (dst : Option Nat) (op : AOp) (g : Option (Nat × Bool)) (ops : List AOper) (tmps : List AVal) (hl : HL) (M : AMem) : guardR h ⟨dst, op, g⟩ ops tmps hl M false = runOps h ops ⟨putA tmps dst .undef, hl⟩ M := rfl
theorem opR_some (h : CallH) (dst : Option Nat) (ops : List AOper) (tmps : List AVal) (v : AVal) (hl : HL) (M : AMem) : opR h dst ops tmps (some (v, hl, M)) = runOps h ops ⟨putA tmps dst v, hl⟩ M := rfl

theorem wanted_none (l : List AVal) : wantedA l none = true := rfl
def isB (b : Bool) : AVal → Bool
  | .bool c => c == b
  | _ => false
theorem wanted_some (l : List AVal) (t : Nat) (b : Bool) : wantedA l (some (t, b)) = isB b (lget .undef l t) := by
  simp only [wantedA, isB]
  cases lget AVal.undef l t <;> rfl
theorem isB_bool (b c : Bool) : isB b (.bool c) = (c == b) := rfl
theorem isB_undef (b : Bool) : isB b .undef = false := rfl

theorem op_p (h : CallH) (o : PureOp) (tmps : List AVal) (hl : HL) (M : AMem) : runAOp h (.p o) ⟨tmps, hl⟩ M = (o.run (Opd.ev tmps)).map fun v => (v, hl, M) := rfl
theorem op_r (h : CallH) (o : ReadOp) (l : List Nat) (tmps : List AVal) (hl : HL) (M : AMem) : runAOp h (.r o l) ⟨tmps, hl⟩ M = (o.run M (Opd.ev tmps)).map fun v => (v, hl, M) := rfl
theorem op_w (h : CallH) (o : WriteOp) (tmps : List AVal) (hl : HL) (M : AMem) : runAOp h (.w o) ⟨tmps, hl⟩ M = o.run M hl (Opd.ev tmps) := rfl
theorem op_call (h : CallH) (f : FuncId) (args : List Opd) (tmps : List AVal) (hl : HL) (M : AMem) : runAOp h (.call f args) ⟨tmps, hl⟩ M = (h f (sealAll (evAll (Opd.ev tmps) args)) M).map fun r => (r.1, hl, r.2) := rfl
theorem op_skip (h : CallH) (tmps : List AVal) (hl : HL) (M : AMem) : runAOp h .skip ⟨tmps, hl⟩ M = some (.undef, hl, M) := rfl
def callvR (h : CallH) (args : List AVal) (hl : HL) (M : AMem) : AVal → Option (AVal × HL × AMem)
  | .fn f a b => (h f (sealAll (a ++ args ++ b)) M).map fun r => (r.1, hl, r.2)
  | _ => none
theorem op_callv (h : CallH) (f : Opd) (args : List Opd) (tmps : List AVal) (hl : HL) (M : AMem) : runAOp h (.callv f args) ⟨tmps, hl⟩ M = callvR h (evAll (Opd.ev tmps) args) hl M (f.ev tmps) := by
  simp only [runAOp, callvR, runCall]
  cases Opd.ev tmps f <;> rfl
theorem callvR_fn (h : CallH) (args : List AVal) (hl : HL) (M : AMem) (f : FuncId) (a b : List AVal) : callvR h args hl M (.fn f a b) = (h f (sealAll (a ++ args ++ b)) M).map fun r => (r.1, hl, r.2) := rfl

/-! ## Control -/

noncomputable def condE (fs : FuncId → Option Callee) (a b : ACode) (fr : Fr) (M : AMem) : AVal → Option (AExit × Fr × AMem)
  | .bool true => exec fs a fr M
  | .bool false => exec fs b fr M
  | _ => none
theorem exec_condE (c : Opd) (a b : ACode) (fr : Fr) (M : AMem) : exec fs (.cond c a b) fr M = condE fs a b fr M (c.ev fr.tmps) := by
  rw [exec_cond]
  cases c.ev fr.tmps with
  | bool x => cases x <;> rfl
  | _ => rfl
theorem condE_true (a b : ACode) (fr : Fr) (M : AMem) : condE fs a b fr M (.bool true) = exec fs a fr M := rfl
theorem condE_false (a b : ACode) (fr : Fr) (M : AMem) : condE fs a b fr M (.bool false) = exec fs b fr M := rfl
theorem normalR_some (fr : Fr) (M : AMem) : normalR (some (fr, M)) = some (.normal, fr, M) := rfl
theorem thenR_normal (fr : Fr) (M : AMem) (k : Fr → AMem → Option (AExit × Fr × AMem)) : thenR (some (.normal, fr, M)) k = k fr M := rfl
theorem thenR_ret (fr : Fr) (M : AMem) (k : Fr → AMem → Option (AExit × Fr × AMem)) : thenR (some (.ret, fr, M)) k = some (.ret, fr, M) := rfl
theorem thenR_exit (id : Nat) (fr : Fr) (M : AMem) (k : Fr → AMem → Option (AExit × Fr × AMem)) : thenR (some (.exit id, fr, M)) k = some (.exit id, fr, M) := rfl
theorem blockR_normal (id : Nat) (fr : Fr) (M : AMem) : blockR id (some (.normal, fr, M)) = some (.normal, fr, M) := rfl
theorem blockR_ret (id : Nat) (fr : Fr) (M : AMem) : blockR id (some (.ret, fr, M)) = some (.ret, fr, M) := rfl
theorem blockR_exit (id : Nat) (fr : Fr) (M : AMem) : blockR id (some (.exit id, fr, M)) = some (.normal, fr, M) := by simp [blockR]
theorem blockR_exit_ne (id id' : Nat) (h : Nat.beq id' id = false) (fr : Fr) (M : AMem) : blockR id (some (.exit id', fr, M)) = some (.exit id', fr, M) := by simp only [blockR, h]; rfl
theorem endR_ret (fn : AFn) (M : AMem) (fr : Fr) (M1 : AMem) : endR fn M (some (.ret, fr, M1)) = (resultsA fr.tmps M1 fn.res).bind fun vs => finish fn.keep fr.hl M M1 vs := rfl
theorem endR_normal (fn : AFn) (M : AMem) (fr : Fr) (M1 : AMem) : endR fn M (some (.normal, fr, M1)) = (resultsA fr.tmps M1 fn.res).bind fun vs => finish fn.keep fr.hl M M1 vs := rfl

def endB (res : List ARes) (keep : Bool) (M : AMem) : Option (AExit × Fr × AMem) → Option (AVal × AMem)
  | some (.normal, fr, M1) => (resultsA fr.tmps M1 res).bind fun vs => finish keep fr.hl M M1 vs
  | some (.ret, fr, M1) => (resultsA fr.tmps M1 res).bind fun vs => finish keep fr.hl M M1 vs
  | some (.exit _, _, _) => none
  | none => none
theorem call_body {f : FuncId} {body : ACode} {res : List ARes} {keep : Bool} (hf : fs f = some (.code ⟨body, res, keep⟩)) (args : List AVal) (M : AMem) :
    call fs f args M = endB res keep M (exec fs body ⟨args, Stk.empty⟩ ⟨M.objs, M.hw, []⟩) := by
  rw [call_code hf]
  simp only [endR, endB] <;> rfl
theorem endB_ret (res : List ARes) (keep : Bool) (M : AMem) (fr : Fr) (M1 : AMem) : endB res keep M (some (.ret, fr, M1)) = (resultsA fr.tmps M1 res).bind fun vs => finish keep fr.hl M M1 vs := rfl
theorem endB_normal (res : List ARes) (keep : Bool) (M : AMem) (fr : Fr) (M1 : AMem) : endB res keep M (some (.normal, fr, M1)) = (resultsA fr.tmps M1 res).bind fun vs => finish keep fr.hl M M1 vs := rfl
theorem resA_nil (l : List AVal) (M : AMem) : resultsA l M [] = some [] := rfl
theorem resA_tmp (l : List AVal) (M : AMem) (t : Nat) (rs : List ARes) : resultsA l M (.tmp t :: rs) = (resultsA l M rs).map (lget .undef l t :: ·) := by
  simp only [resultsA]
  cases resultsA l M rs <;> rfl
theorem emptyM_again : (⟨emptyM.objs, emptyM.hw, []⟩ : AMem) = emptyM := rfl

/-! ## Operations -/

theorem ev_tmp (l : List AVal) (t : Nat) : Opd.ev l (.tmp t) = lget .undef l t := rfl
theorem ev_con (l : List AVal) (v : AVal) : Opd.ev l (.con v) = v := rfl
theorem putA_some (l : List AVal) (d : Nat) (v : AVal) : putA l (some d) v = lset .undef l d v := rfl
theorem putA_none (l : List AVal) (v : AVal) : putA l none v = l := rfl
variable (ev : Opd → AVal)
theorem run_move (x : Opd) : (PureOp.move x).run ev = some (ev x) := rfl
def pickF (a b : AVal) : AVal → Option AVal
  | .bool true => some a
  | .bool false => some b
  | _ => none
theorem run_pick (c a b : Opd) : (PureOp.pick c a b).run ev = pickF (ev a) (ev b) (ev c) := by
  simp only [PureOp.run]
  cases ev c with
  | bool x => cases x <;> rfl
  | _ => rfl
theorem pickF_true (a b : AVal) : pickF a b (.bool true) = some a := rfl
theorem pickF_false (a b : AVal) : pickF a b (.bool false) = some b := rfl
theorem run_bin (op : BinOp) (c : EqC) (lit : Bool) (x y : Opd) : (PureOp.bin op c lit x y).run ev = binF op c lit (ev x) (ev y) := rfl
theorem run_un (op : UnOp) (x : Opd) : (PureOp.un op x).run ev = unF op (ev x) := rfl
theorem run_len (b : Bool) (x : Opd) : (PureOp.len b x).run ev = (lenF b (ev x)).map fun n => .int .i64 (.ofNat n) := rfl
def extractF (i : Nat) : AVal → Option AVal
  | .tup l => nth? l i
  | _ => none
theorem run_extract (x : Opd) (i : Nat) : (PureOp.extract x i).run ev = extractF i (ev x) := by
  simp only [PureOp.run]
  cases ev x <;> rfl
theorem extractF_0 (a : AVal) (l : List AVal) : extractF 0 (.tup (a :: l)) = some a := rfl
theorem extractF_1 (a b : AVal) (l : List AVal) : extractF 1 (.tup (a :: b :: l)) = some b := rfl
theorem extractF_2 (a b c : AVal) (l : List AVal) : extractF 2 (.tup (a :: b :: c :: l)) = some c := rfl
theorem extractF_3 (a b c d : AVal) (l : List AVal) : extractF 3 (.tup (a :: b :: c :: d :: l)) = some d := rfl
theorem evAll_nil : evAll ev [] = [] := rfl
theorem evAll_cons (x : Opd) (l : List Opd) : evAll ev (x :: l) = ev x :: evAll ev l := rfl
theorem sealAll_nil : sealAll [] = [] := rfl
theorem sealAll_cons (v : AVal) (l : List AVal) : sealAll (v :: l) = v.sealv :: sealAll l := rfl
theorem seal_str (s : List Nat) : (AVal.str s).sealv = .str s := rfl
theorem seal_int (k : IntKind) (n : Int) : (AVal.int k n).sealv = .int k n := rfl
theorem seal_bool (b : Bool) : (AVal.bool b).sealv = .bool b := rfl
theorem seal_ptr (o i : Nat) : (AVal.ptr o i).sealv = .ptr o i := rfl
theorem seal_nils : AVal.nils.sealv = .nils := rfl
theorem seal_nilp : AVal.nilp.sealv = .nilp := rfl

theorem bin_str_eql (c : EqC) (lit : Bool) (a b : List Nat) : binF .eql c lit (.str a) (.str b) = binStr .eql a b := rfl
theorem bin_str_neq (c : EqC) (lit : Bool) (a b : List Nat) : binF .neq c lit (.str a) (.str b) = binStr .neq a b := rfl
theorem bin_bool_eql (lit : Bool) (a b : Bool) : binF .eql .bool lit (.bool a) (.bool b) = some (.bool (a == b)) := rfl
theorem bin_bool_neq (lit : Bool) (a b : Bool) : binF .neq .bool lit (.bool a) (.bool b) = some (.bool (!(a == b))) := rfl
theorem bin_ptr_eql (lit : Bool) (o i : Nat) : binF .eql .ptr lit (.ptr o i) .nilp = some (.bool false) := rfl
theorem bin_ptr_neq (lit : Bool) (o i : Nat) : binF .neq .ptr lit (.ptr o i) .nilp = some (.bool true) := rfl
theorem un_not (b : Bool) : unF .not (.bool b) = some (.bool (!b)) := rfl
theorem len_str (s : List Nat) : lenF true (.str s) = some s.length := rfl
theorem len_nils : lenF false .nils = some 0 := rfl
theorem len_sl (z : Nat) (rows : List (List AVal)) (t : Tok) : lenF false (.sl z rows t) = some rows.length := rfl
theorem len_os (o i n : Nat) (c : Option Nat) (z : Nat) : lenF false (.os o i n c z) = some n := rfl
theorem sk (k : IntKind) : sameKind k k = true := by cases k <;> rfl
theorem bin_int_eql (c : EqC) (lit : Bool) (k : IntKind) (a b : Int) : binF .eql c lit (.int k a) (.int k b) = some (.bool (sameInt a b)) := by simp only [binF, sk, if_true, binInt]
theorem bin_int_neq (c : EqC) (lit : Bool) (k : IntKind) (a b : Int) : binF .neq c lit (.int k a) (.int k b) = some (.bool (!sameInt a b)) := by simp only [binF, sk, if_true, binInt]
theorem bin_int_lss (c : EqC) (lit : Bool) (k : IntKind) (a b : Int) : binF .lss c lit (.int k a) (.int k b) = some (.bool (ltI a b)) := by simp only [binF, sk, if_true, binInt]
theorem bin_int_gtr (c : EqC) (lit : Bool) (k : IntKind) (a b : Int) : binF .gtr c lit (.int k a) (.int k b) = some (.bool (ltI b a)) := by simp only [binF, sk, if_true, binInt]
theorem bin_int_leq (c : EqC) (lit : Bool) (k : IntKind) (a b : Int) : binF .leq c lit (.int k a) (.int k b) = some (.bool (!ltI b a)) := by simp only [binF, sk, if_true, binInt]
theorem bin_int_geq (c : EqC) (lit : Bool) (k : IntKind) (a b : Int) : binF .geq c lit (.int k a) (.int k b) = some (.bool (!ltI a b)) := by simp only [binF, sk, if_true, binInt]
theorem sameInt_nat (a b : Nat) : sameInt (.ofNat a) (.ofNat b) = (a == b) := by
  rw [Bool.eq_iff_iff, sameInt_iff, beq_iff_eq]
  constructor
  · intro h; injection h
  · intro h; rw [h]
theorem ltI_nat (a b : Nat) : ltI (.ofNat a) (.ofNat b) = decide (a < b) := by
  rw [ltI_eq, decide_eq_decide]
  simp
theorem tt_beq : (true == true) = true := rfl
theorem tf_beq : (true == false) = false := rfl
theorem ft_beq : (false == true) = false := rfl
theorem ff_beq : (false == false) = true := rfl
theorem str_eql (a b : List Nat) : binStr .eql a b = some (.bool (a == b)) := by rw [← sameNats_eq]; rfl
theorem str_neq (a b : List Nat) : binStr .neq a b = some (.bool (!(a == b))) := by rw [← sameNats_eq]; rfl

end Go.Abs
end

/-
  A run in which some calls are told, not stepped.
-/
section
namespace Go.Abs

variable {fs : FuncId → Option Callee}

theorem exec_told : ∀ (k : Nat) {c : ACode} {fr : Fr} {M : AMem} {r : AExit × Fr × AMem}, aexec (call fs) k c fr M = some r → exec fs c fr M = some r
  | 0, c, fr, M, r, h => by simp [aexec] at h
  | k + 1, c, fr, M, r, h => by
    have seqC : ∀ (a b : ACode), (match aexec (call fs) k a fr M with | some (.normal, fr', M') => aexec (call fs) k b fr' M' | r => r) = some r → thenR (exec fs a fr M) (exec fs b) = some r := by
      intro a b h
      cases ha : aexec (call fs) k a fr M with
      | none => rw [ha] at h; cases h
      | some x =>
        obtain ⟨e, fr1, M1⟩ := x
        rw [ha] at h
        rw [exec_told k ha]
        cases e with
        | normal => exact exec_told k h
        | exit id => exact h
        | ret => exact h
    cases c with
    | skip => rw [exec_skip]; exact h
    | exit id => rw [exec_exit]; exact h
    | ret => rw [exec_ret]; exact h
    | fail => simp [aexec] at h
    | region ops =>
      rw [exec_region]
      simp only [aexec] at h
      cases hr : runOps (call fs) ops fr M with
      | none => rw [hr] at h; cases h
      | some x => rw [hr] at h; exact h
    | regionD ops =>
      rw [exec_regionD]
      simp only [aexec] at h
      cases hr : runOpsD (call fs) ops fr M [M] [] with
      | none => rw [hr] at h; cases h
      | some x => rw [hr] at h; exact h
    | seq a b => rw [exec_seq]; exact seqC a b h
    | loop b => rw [exec_loop]; exact seqC b (.loop b) h
    | cond c a b =>
      rw [exec_cond]
      simp only [aexec] at h
      split at h
      · rename_i e; rw [e]; exact exec_told k h
      · rename_i e; rw [e]; exact exec_told k h
      · cases h
    | block id b =>
      rw [exec_block]
      simp only [aexec] at h
      cases hb : aexec (call fs) k b fr M with
      | none => rw [hb] at h; cases h
      | some x =>
        obtain ⟨e, fr1, M1⟩ := x
        rw [hb] at h
        rw [exec_told k hb]
        cases e <;> exact h

/-- The same functions; what some of them answer is told. -/
def Told (fs fs' : FuncId → Option Callee) : Prop := ∀ f ce, fs' f = some ce → fs f = some ce ∨ ∃ run, ce = .prim run ∧ ∀ args M r, run args M = some r → call fs f args M = some r

theorem acall_told {fs' : FuncId → Option Callee} (h : Told fs fs') : ∀ (k : Nat) {f : FuncId} {args : List AVal} {M : AMem} {r : AVal × AMem}, acall fs' k f args M = some r → call fs f args M = some r
  | 0, f, args, M, r, e => by simp [acall] at e
  | k + 1, f, args, M, r, e => by
    simp only [acall] at e
    cases hf : fs' f with
    | none => rw [hf] at e; cases e
    | some ce =>
      rw [hf] at e
      rcases h f ce hf with h1 | ⟨run, rfl, h1⟩
      · cases ce with
        | prim run => rw [call_prim h1]; exact e
        | code fn =>
          rw [call_code h1]
          simp only at e
          cases hx : aexec (acall fs' k) k fn.body ⟨args, Stk.empty⟩ { M with dirty := [] } with
          | none => rw [hx] at e; cases e
          | some x =>
            obtain ⟨ex, fr, M1⟩ := x
            rw [hx] at e
            rw [exec_told k (aexec_le (fun _ _ _ _ e => acall_told h k e) (Nat.le_refl k) hx)]
            cases ex with
            | exit id => cases e
            | normal =>
              simp only [endR]
              simp only at e
              cases hv : resultsA fr.tmps M1 fn.res with
              | none => rw [hv] at e; cases e
              | some vs => rw [hv] at e; exact e
            | ret =>
              simp only [endR]
              simp only at e
              cases hv : resultsA fr.tmps M1 fn.res with
              | none => rw [hv] at e; cases e
              | some vs => rw [hv] at e; exact e
      · exact h1 args M r e

theorem call_told {fs' : FuncId → Option Callee} (h : Told fs fs') {k : Nat} {f : FuncId} {args : List AVal} {M : AMem} {r : AVal × AMem} (e : callF fs' k f args M = some r) : call fs f args M = some r := acall_told h k (callF_ok k e)

/-- One function is told at empty memory. -/
def tellAt (fs : FuncId → Option Callee) (g : FuncId) (v : AVal) (f : FuncId) : Option Callee :=
  if Nat.beq f g then some (.prim fun _ M => match M with
    | ⟨⟨.leaf, 0⟩, ⟨.leaf, 0⟩, []⟩ => some (v, emptyM)
    | _ => none)
  else fs f

theorem told_at {g : FuncId} {v : AVal} (h : ∀ args, call fs g args emptyM = some (v, emptyM)) : Told fs (tellAt fs g v) := by
  intro f ce e
  unfold tellAt at e
  split at e
  · rename_i hf
    rw [nbeq] at hf; subst hf
    simp only [Option.some.injEq] at e
    refine Or.inr ⟨_, e.symm, fun args M r hr => ?_⟩
    split at hr
    · simp only [Option.some.injEq] at hr
      subst hr
      exact h args
    · cases hr
  · exact Or.inl e

end Go.Abs
end
