/-
  An interpreter over lists and objects for the given form of Go code, and the proof that it answers as the model does. Part 3.
-/
import Derived.Test.YtecfmifgcebifaaGreatDoorAbsB
import Derived.LoopN
/-
  Each operation but calls: what the small form answers, the model does.
-/
section
namespace Go.Abs

/-- A call of a function. -/
def IsCall (C : Cfg) (N : Nat) (op : Op) (ao : AOp) : Prop :=
  (∃ f args ats xs, op = .call ⟨.value (.func f), args, ats⟩ ∧ ao = .call f xs ∧ copds C N args.toList = some xs) ∨
  (∃ fo args ats f' xs, op = .call ⟨.value fo, args, ats⟩ ∧ ao = .callv f' xs ∧ copd C N fo = some f' ∧ copds C N args.toList = some xs)

section
variable {P : Program} {C : Cfg} {N : Nat} {ob : Bool} {o : Oper} {g : G} {M : AMem} {hl hl' : HL} {M' : AMem} {w : World} {l : List AVal} {a : Act} {av : AVal} {call : CallH}

theorem runP {po : PureOp} (h : runAOp call (.p po) ⟨l, hl⟩ M = some (av, hl', M')) : po.run (Opd.ev l) = some av ∧ hl' = hl ∧ M' = M := by
  simp only [runAOp] at h
  cases hq : po.run (Opd.ev l) with
  | none => rw [hq] at h; cases h
  | some v =>
    rw [hq] at h
    simp only [Option.map_some, Option.some.injEq, Prod.mk.injEq] at h
    obtain ⟨rfl, rfl, rfl⟩ := h
    exact ⟨rfl, rfl, rfl⟩

theorem runR {ro : ReadOp} {cs : List Nat} (h : runAOp call (.r ro cs) ⟨l, hl⟩ M = some (av, hl', M')) : ro.run M (Opd.ev l) = some av ∧ hl' = hl ∧ M' = M := by
  simp only [runAOp] at h
  cases hq : ro.run M (Opd.ev l) with
  | none => rw [hq] at h; cases h
  | some v =>
    rw [hq] at h
    simp only [Option.map_some, Option.some.injEq, Prod.mk.injEq] at h
    obtain ⟨rfl, rfl, rfl⟩ := h
    exact ⟨rfl, rfl, rfl⟩

theorem cop_builtin (s : SRel C g M hl w l a.tmps) (hP : g.P = P) (hN : N ≤ a.tmps.size) {c : Call} (ho : o.op = .call c) {b : Builtin} (hcb : c.callee = .builtin b) {ao : AOp}
    (hc : cbuiltin P C N ob b c.argTypes c.args.toList = some ao) (h : runAOp call ao ⟨l, hl⟩ M = some (av, hl', M')) : StepOK P C o a g M hl w l av hl' M' := by
  unfold cbuiltin at hc
  split at hc
  · -- len
    rename_i t x ht hx
    split at hc
    · rename_i x' h1 h2
      injection hc with hc; subst hc
      replace h := runP h; obtain ⟨h, rfl, rfl⟩ := h
      exact step_len s hN ho hcb hx ht h2 (.inl ⟨rfl, h1⟩) h
    · rename_i e x' h1 h2
      injection hc with hc; subst hc
      replace h := runP h; obtain ⟨h, rfl, rfl⟩ := h
      exact step_len s hN ho hcb hx ht h2 (.inr ⟨rfl, e, h1⟩) h
    · rename_i n e x' h1 h2
      injection hc with hc; subst hc
      replace h := runP h; obtain ⟨h, rfl, rfl⟩ := h
      simp only [PureOp.run, Option.some.injEq] at h; subst h
      exact step_lenC s ho (.inl rfl) hcb hx ht (.inl ⟨e, h1⟩)
    · rename_i p x' h1 h2
      split at hc
      · rename_i n e h3
        injection hc with hc; subst hc
        replace h := runP h; obtain ⟨h, rfl, rfl⟩ := h
        simp only [PureOp.run, Option.some.injEq] at h; subst h
        exact step_lenC s ho (.inl rfl) hcb hx ht (.inr ⟨p, e, h1, h3⟩)
      · cases hc
    · rename_i kt e x' h1 h2
      injection hc with hc; subst hc
      replace h := runR h; obtain ⟨h, rfl, rfl⟩ := h
      exact step_lenM s hN ho hcb hx ht h2 h1 h
    · cases hc
  · -- cap
    rename_i t x ht hx
    split at hc
    · rename_i e x' h1 h2
      injection hc with hc; subst hc
      replace h := runP h; obtain ⟨h, rfl, rfl⟩ := h
      exact step_cap s hN ho hcb hx ht h2 h1 h
    · rename_i n e x' h1 h2
      injection hc with hc; subst hc
      replace h := runP h; obtain ⟨h, rfl, rfl⟩ := h
      simp only [PureOp.run, Option.some.injEq] at h; subst h
      exact step_lenC s ho (.inr rfl) hcb hx ht (.inl ⟨e, h1⟩)
    · cases hc
  · -- append
    rename_i t u sx x ht hx
    split at hc
    · rename_i e d s' x' h1 h2 h3 h4
      split at hc
      · rename_i k i h5
        split at hc
        · rename_i hcc
          simp only [Bool.and_eq_true, Nat.blt_eq] at hcc
          obtain ⟨⟨k1, k2⟩, k3⟩ := hcc
          cases hz : zeroCellsT P e with
          | none => rw [hz] at k3; cases k3
          | some z =>
            injection hc with hc; subst hc
            exact step_growz s hN ho hcb hx ht h3 h4 h1 h2 h5 k1 k2 hz h
        · cases hc
      · rename_i i hne h5
        split at hc
        · rename_i hcc
          simp only [Bool.and_eq_true, Nat.blt_eq] at hcc
          obtain ⟨⟨k1, k2⟩, k3⟩ := hcc
          cases hz : zeroCellsT P e with
          | none => rw [hz] at k3; cases k3
          | some z =>
            injection hc with hc; subst hc
            exact step_append s hN ho hcb hx ht h3 h4 h1 h2 (fun k hk => hne k hk) h5 k1 k2 hz h
        · cases hc
      · cases hc
    · cases hc
  · -- copy
    rename_i t ts d x ht hx
    split at hc
    · rename_i e d' x' h1 h2 h3
      split at hc
      · rename_i n h4
        split at hc
        · injection hc with hc; subst hc
          exact step_copy s hN ho hcb hx ht h2 h3 h1 h4 h
        · cases hc
      · cases hc
    · cases hc
  · -- delete
    rename_i t ts m k ht hx
    split at hc
    · rename_i kt e m' k' h1 h2 h3
      cases hk : keyT P kt with
      | none => rw [hk] at hc; cases hc
      | some kt' =>
        rw [hk] at hc
        simp only [Option.map_some, Option.some.injEq] at hc
        subst hc
        exact step_delete s hP hN ho hcb hx (by rw [list_arr ht]; simp) h2 h3 h1 hk h
    · cases hc
  · -- max
    cases hx : copds C N c.args.toList with
    | none => rw [hx] at hc; cases hc
    | some xs =>
      rw [hx] at hc
      simp only [Option.map_some, Option.some.injEq] at hc
      subst hc
      replace h := runP h; obtain ⟨h, rfl, rfl⟩ := h
      exact step_minmax s hN ho (mx := true) hcb hx h
  · -- min
    cases hx : copds C N c.args.toList with
    | none => rw [hx] at hc; cases hc
    | some xs =>
      rw [hx] at hc
      simp only [Option.map_some, Option.some.injEq] at hc
      subst hc
      replace h := runP h; obtain ⟨h, rfl, rfl⟩ := h
      exact step_minmax s hN ho (mx := false) hcb hx h
  · cases hc

theorem cop_step (s : SRel C g M hl w l a.tmps) (hP : g.P = P) (hN : N ≤ a.tmps.size) {ao : AOp} (hc : cop P C N ob o.op = some ao) (h : runAOp call ao ⟨l, hl⟩ M = some (av, hl', M')) :
    StepOK P C o a g M hl w l av hl' M' ∨ IsCall C N o.op ao := by
  have moved : ∀ x, (o.op = .move x ∨ o.op = .assign x) → (copd C N x).map (fun x => AOp.p (.move x)) = some ao → StepOK P C o a g M hl w l av hl' M' := by
    intro x ho hc
    cases hx : copd C N x with
    | none => rw [hx] at hc; cases hc
    | some x' =>
      rw [hx] at hc
      simp only [Option.map_some, Option.some.injEq] at hc
      subst hc
      replace h := runP h; obtain ⟨h, rfl, rfl⟩ := h
      simp only [PureOp.run, Option.some.injEq] at h; subst h
      exact step_move s hN ho hx
  have mapupd : ∀ t m k x, (o.op = .mapUpdate t m k x ∨ o.op = .insert t m k x) → cop P C N ob (.mapUpdate t m k x) = some ao → StepOK P C o a g M hl w l av hl' M' := by
    intro t m k x ho hc
    simp only [cop] at hc
    split at hc
    · rename_i kt e m' k' x' h1 h2 h3 h4
      cases hk : keyT P kt with
      | none => rw [hk] at hc; cases hc
      | some kt' =>
        rw [hk] at hc
        simp only [Option.map_some, Option.some.injEq] at hc
        subst hc
        exact step_mapupd s hP hN ho h2 h3 h4 h1 hk h
    · cases hc
  cases hop : o.op <;> rw [hop] at hc <;> (try (simp only [cop] at hc; cases hc; done))
  case move x => exact .inl <| moved x (.inl hop) (by simpa only [cop] using hc)
  case assign x => exact .inl <| moved x (.inr hop) (by simpa only [cop] using hc)
  case mapUpdate t m k x => exact .inl <| mapupd t m k x (.inl hop) hc
  case insert t m k x => exact .inl <| mapupd t m k x (.inr hop) (by simpa only [cop] using hc)
  case pick c x y =>
    simp only [cop] at hc
    split at hc
    · rename_i c' x' y' h1 h2 h3
      injection hc with hc; subst hc
      replace h := runP h; obtain ⟨h, rfl, rfl⟩ := h
      exact .inl <| step_pick s hN hop h1 h2 h3 h
    · cases hc
  case alloc t =>
    simp only [cop] at hc
    cases hz : zeroCellsT P t with
    | none => rw [hz] at hc; cases hc
    | some z =>
      rw [hz] at hc
      simp only [Option.map_some, Option.some.injEq] at hc
      subst hc
      exact .inl <| step_new s hop hz h
  case box t x =>
    simp only [cop] at hc
    split at hc
    · rename_i n x' h1 h2
      injection hc with hc; subst hc
      exact .inl <| step_box s hN hop h2 h
    · cases hc
  case build t ps =>
    simp only [cop] at hc
    split at hc
    · rename_i fs z h1 h2
      split at hc
      · rename_i hall
        cases hp : cpartsS P C N fs ps.toList with
        | none => rw [hp] at hc; cases hc
        | some ps' =>
          rw [hp] at hc
          simp only [Option.map_some, Option.some.injEq] at hc
          subst hc
          replace h := runP h; obtain ⟨h, rfl, rfl⟩ := h
          exact .inl <| step_buildS s hN hop h2 h1 hall hp h
      · cases hc
    · rename_i n e z h1 h2
      split at hc
      · rename_i m h3
        cases hp : cpartsA C N m ps.toList with
        | none => rw [hp] at hc; cases hc
        | some ps' =>
          rw [hp] at hc
          simp only [Option.map_some, Option.some.injEq] at hc
          subst hc
          replace h := runP h; obtain ⟨h, rfl, rfl⟩ := h
          exact .inl <| step_buildA s hN hop h2 h1 h3 hp h
      · cases hc
    · cases hc
  case buildSlice t len ps =>
    simp only [cop] at hc
    split at hc
    · rename_i e h1
      split at hc
      · rename_i n z ps' h2 h3 h4
        split at hc
        · rename_i hcc
          simp only [Bool.and_eq_true, Nat.blt_eq, Stk.ble_iff] at hcc
          obtain ⟨⟨k1, k2⟩, k3⟩ := hcc
          split at hc
          · injection hc with hc; subst hc
            exact .inl <| step_bsl s hN hop h1 h3 h2 k1 k2 k3 h4 h
          · injection hc with hc; subst hc
            replace h := runP h; obtain ⟨h, rfl, rfl⟩ := h
            exact .inl <| step_buildSl s hN hop h1 h3 h2 k1 k2 k3 h4 h
        · split at hc
          · split at hc
            · rename_i hcc
              simp only [Bool.and_eq_true, Nat.blt_eq, nbeq] at hcc
              obtain ⟨rfl, k1⟩ := hcc
              injection hc with hc; subst hc
              replace h := runP h; obtain ⟨h, rfl, rfl⟩ := h
              have hps : ps.toList = [] := List.eq_nil_of_length_eq_zero (cpartsA_spec h4).1.symm
              exact .inl <| step_buildSl0 s hop h1 h2 k1 hps h
            · cases hc
          · cases hc
      · cases hc
    · cases hc
  case load t x =>
    simp only [cop] at hc
    split at hc
    · rename_i ag x' h1 h2
      injection hc with hc; subst hc
      replace h := runR h; obtain ⟨h, rfl, rfl⟩ := h
      exact .inl <| step_load s hN hop h2 h1 h
    · cases hc
  case store t x y =>
    simp only [cop] at hc
    split at hc
    · rename_i n x' y' h1 h2 h3
      injection hc with hc; subst hc
      exact .inl <| step_store s hN hop h2 h3 h1 h
    · cases hc
  case nilCheck x =>
    simp only [cop] at hc
    cases hx : copd C N x with
    | none => rw [hx] at hc; cases hc
    | some x' =>
      rw [hx] at hc
      simp only [Option.map_some, Option.some.injEq] at hc
      subst hc
      replace h := runP h; obtain ⟨h, rfl, rfl⟩ := h
      exact .inl <| step_nilck s hN hop hx h
  case binOp op t x y t' =>
    simp only [cop] at hc
    split at hc
    · rename_i x' y' h1 h2
      have agg : ∀ neg : Bool, o.op = .binOp (if neg then .neq else .eql) t x y t' → isAggT P t = true → (if P.eqGuardType P.depth t then none else (leaves P 50 t).map fun l => AOp.p (.eqA neg l x' y')) = some ao → StepOK P C o a g M hl w l av hl' M' := by
        intro neg ho hag hc
        split at hc
        · cases hc
        · rename_i hgd
          cases hls : leaves P 50 t with
          | none => rw [hls] at hc; cases hc
          | some ls =>
            rw [hls] at hc
            simp only [Option.map_some, Option.some.injEq] at hc
            subst hc
            replace h := runP h; obtain ⟨h, rfl, rfl⟩ := h
            exact step_eqA s hN ho h1 h2 hls hag (by simpa using hgd) h
      split at hc
      · split at hc
        · rename_i hag
          exact .inl <| agg false hop hag hc
        · injection hc with hc; subst hc
          replace h := runP h; obtain ⟨h, rfl, rfl⟩ := h
          exact .inl <| step_bin s hN hop h1 h2 (fun _ => ⟨rfl, rfl⟩) h
      · split at hc
        · rename_i hag
          exact .inl <| agg true hop hag hc
        · injection hc with hc; subst hc
          replace h := runP h; obtain ⟨h, rfl, rfl⟩ := h
          exact .inl <| step_bin s hN hop h1 h2 (fun _ => ⟨rfl, rfl⟩) h
      · rename_i n1 n2
        injection hc with hc; subst hc
        replace h := runP h; obtain ⟨h, rfl, rfl⟩ := h
        exact .inl <| step_bin s hN hop h1 h2 (fun hh => by rcases hh with hh | hh; exact absurd hh n1; exact absurd hh n2) h
    · cases hc
  case unOp op t x =>
    simp only [cop] at hc
    cases hx : copd C N x with
    | none => rw [hx] at hc; cases hc
    | some x' =>
      rw [hx] at hc
      simp only [Option.map_some, Option.some.injEq] at hc
      subst hc
      replace h := runP h; obtain ⟨h, rfl, rfl⟩ := h
      exact .inl <| step_un s hN hop hx h
  case convert t t' x =>
    simp only [cop] at hc
    split at hc
    · rename_i q k x' h1 h2 h3
      injection hc with hc; subst hc
      replace h := runP h; obtain ⟨h, rfl, rfl⟩ := h
      exact .inl <| step_conv_int s hN hop h3 h1 h2 h
    · rename_i q x' h1 h2 h3
      injection hc with hc; subst hc
      replace h := runP h; obtain ⟨h, rfl, rfl⟩ := h
      exact .inl <| step_conv_rune s hN hop h3 h1 h2 h
    · rename_i x' h1 h2 h3
      injection hc with hc; subst hc
      replace h := runP h; obtain ⟨h, rfl, rfl⟩ := h
      simp only [PureOp.run] at h
      split at h
      · rename_i p ex
        have hb : bounds p.length p.length none none = some (0, p.length) := by
          simp [bounds]
        simp only [mapEv, hb, Option.map_some, Option.some.injEq, takeN_eq, dropN_eq, Nat.sub_zero, List.drop_zero, List.take_length] at h
        subst h
        exact .inl <| step_conv_str s hN hop h3 h1 h2 ex
      · cases h
    · rename_i e x' h1 h2 h3
      split at hc
      · rename_i hcc
        simp only [Bool.and_eq_true] at hcc
        injection hc with hc; subst hc
        replace h := runP h; obtain ⟨h, rfl, rfl⟩ := h
        exact .inl <| step_conv_bytes s hN hop h3 h1 h2 hcc.1 h
      · cases hc
    · rename_i e x' h1 h2 h3
      split at hc
      · rename_i hcc
        injection hc with hc; subst hc
        replace h := runR h; obtain ⟨h, rfl, rfl⟩ := h
        exact .inl <| step_str s hN hop h3 h1 h2 hcc h
      · cases hc
    · cases hc
  case sliceToArrayPointer t x =>
    simp only [cop] at hc
    split at hc
    · rename_i n e x' h1 h2
      cases hz : szT P e with
      | none => rw [hz] at hc; cases hc
      | some sz =>
        rw [hz] at hc
        simp only [Option.map_some, Option.some.injEq] at hc
        subst hc
        replace h := runP h; obtain ⟨h, rfl, rfl⟩ := h
        exact .inl <| step_arrp s hN hop h2 h1 h
    · cases hc
  case makeInterface t x =>
    simp only [cop] at hc
    split at hc
    · cases hc
    · rename_i d x' hne h1 h2
      injection hc with hc; subst hc
      replace h := runP h; obtain ⟨h, rfl, rfl⟩ := h
      simp only [PureOp.run, Option.some.injEq] at h; subst h
      exact .inl <| step_mkif s hN hop h2 h1 (fun ms hms => hne ms hms)
    · cases hc
  case makeFunc c fs cs =>
    cases c <;> simp only [cop] at hc <;> (try (cases hc; done))
    split at hc
    · rename_i fs' cs' h1 h2
      injection hc with hc; subst hc
      replace h := runP h; obtain ⟨h, rfl, rfl⟩ := h
      simp only [PureOp.run, Option.some.injEq] at h; subst h
      exact .inl <| step_mkfn s hN hop h1 h2
    · cases hc
  case makeMap t n =>
    cases n <;> simp only [cop] at hc <;> (try (cases hc; done))
    split at hc
    · rename_i kt e h1
      cases hk : keyT P kt with
      | none => rw [hk] at hc; cases hc
      | some kt' =>
        rw [hk] at hc
        simp only [Option.map_some, Option.some.injEq] at hc
        subst hc
        exact .inl <| step_mkmap s hP hop hk h
    · cases hc
  case makeSlice t x y =>
    simp only [cop] at hc
    split at hc
    · rename_i e x' y' h1 h2 h3
      split at hc
      · rename_i i z h4 h5
        split at hc
        · injection hc with hc; subst hc
          exact .inl <| step_mksl s hN hop h2 h3 h1 h4 h5 h
        · cases hc
      · cases hc
    · cases hc
  case slice t x lo hi mx =>
    simp only [cop] at hc
    split at hc
    · rename_i n e x' lo' hi' mx' h1 h2 h3 h4 h5
      cases hz : szT P e with
      | none => rw [hz] at hc; cases hc
      | some sz =>
        rw [hz] at hc
        simp only [Option.bind_some] at hc
        split at hc
        · rename_i hpos
          rw [Nat.blt_eq] at hpos
          injection hc with hc; subst hc
          replace h := runP h; obtain ⟨h, rfl, rfl⟩ := h
          cases mx with
          | none =>
            simp only [copdO, Option.some.injEq] at h5; subst h5
            exact .inl <| step_sliceA s hN hop h2 h3 h4 h1 hz hpos h
          | some m =>
            simp only [copdO] at h5
            cases hm : copd C N m with
            | none => rw [hm] at h5; cases h5
            | some m' =>
              rw [hm] at h5
              simp only [Option.map_some, Option.some.injEq] at h5; subst h5
              simp [PureOp.run] at h
        · cases hc
    · rename_i x' lo' hi' h1 h2 h3 h4 h5
      injection hc with hc; subst hc
      replace h := runP h; obtain ⟨h, rfl, rfl⟩ := h
      cases mx with
      | none => exact .inl <| step_sliceS s hN hop h2 h3 h4 h1 h
      | some m =>
        simp only [copdO] at h5
        cases hm : copd C N m with
        | none => rw [hm] at h5; cases h5
        | some m' => rw [hm] at h5; cases h5
    · rename_i e x' lo' hi' mx' h1 h2 h3 h4 h5
      cases hz : szT P e with
      | none => rw [hz] at hc; cases hc
      | some sz =>
        rw [hz] at hc
        simp only [Option.bind_some] at hc
        split at hc
        · rename_i hpos
          rw [Nat.blt_eq] at hpos
          injection hc with hc; subst hc
          replace h := runP h; obtain ⟨h, rfl, rfl⟩ := h
          exact .inl <| step_sliceL s hN hop h2 h3 h4 h5 h1 hz hpos h
        · cases hc
    · cases hc
  case fieldAddr t x f =>
    simp only [cop] at hc
    split at hc
    · rename_i fs x' h1 h2
      split at hc
      · rename_i fd h3
        split at hc
        · rename_i n h4
          split at hc
          · rename_i hpos
            rw [Nat.blt_eq] at hpos
            injection hc with hc; subst hc
            replace h := runP h; obtain ⟨h, rfl, rfl⟩ := h
            exact .inl <| step_faddr s hN hop h2 h1 h3 h4 hpos h
          · cases hc
        · cases hc
      · cases hc
    · cases hc
  case field t x f =>
    simp only [cop] at hc
    split at hc
    · rename_i fs x' h1 h2
      split at hc
      · rename_i fd h3
        cases hag : agT P fd.type with
        | none => rw [hag] at hc; cases hc
        | some ag =>
          rw [hag] at hc
          simp only [Option.map_some, Option.some.injEq] at hc
          subst hc
          replace h := runP h; obtain ⟨h, rfl, rfl⟩ := h
          exact .inl <| step_field s hN hop h2 h1 h3 hag h
      · cases hc
    · cases hc
  case indexAddr t x y =>
    simp only [cop] at hc
    split at hc
    · rename_i n e x' y' h1 h2 h3
      cases hz : szT P e with
      | none => rw [hz] at hc; cases hc
      | some sz =>
        rw [hz] at hc
        simp only [Option.map_some, Option.some.injEq] at hc
        subst hc
        replace h := runP h; obtain ⟨h, rfl, rfl⟩ := h
        exact .inl <| step_iaddrA s hN hop h2 h3 h1 hz h
    · rename_i e x' y' h1 h2 h3
      cases hz : szT P e with
      | none => rw [hz] at hc; cases hc
      | some sz =>
        rw [hz] at hc
        simp only [Option.map_some, Option.some.injEq] at hc
        subst hc
        replace h := runP h; obtain ⟨h, rfl, rfl⟩ := h
        exact .inl <| step_iaddr s hN hop h2 h3 h1 hz h
    · cases hc
  case index t x y =>
    simp only [cop] at hc
    split at hc
    · rename_i n e x' y' h1 h2 h3
      split at hc
      · rename_i sz ag h4 h5
        injection hc with hc; subst hc
        replace h := runP h; obtain ⟨h, rfl, rfl⟩ := h
        exact .inl <| step_indexA s hN hop h2 h3 h1 h4 h5 h
      · cases hc
    · rename_i x' y' h1 h2 h3
      injection hc with hc; subst hc
      replace h := runP h; obtain ⟨h, rfl, rfl⟩ := h
      exact .inl <| step_indexS s hN hop h2 h3 h1 h
    · cases hc
  case lookup t m k ok =>
    simp only [cop] at hc
    split at hc
    · rename_i kt e m' k' h1 h2 h3
      split at hc
      · rename_i kt' z h4 h5
        injection hc with hc; subst hc
        replace h := runR h; obtain ⟨h, rfl, rfl⟩ := h
        exact .inl <| step_lookup s hP hN hop h2 h3 h1 h4 h5 h
      · cases hc
    · cases hc
  case mapEntry t m k =>
    simp only [cop] at hc
    split at hc
    · rename_i kt e m' k' h1 h2 h3
      split at hc
      · rename_i kt' z h4 h5
        injection hc with hc; subst hc
        exact .inl <| step_mapent s hP hN hop h2 h3 h1 h4 h5 h
      · cases hc
    · cases hc
  case entryStore t m k x =>
    simp only [cop] at hc
    split at hc
    · rename_i m' k' x' h1 h2 h3
      injection hc with hc; subst hc
      exact .inl <| step_entst s hN hop h1 h2 h3 h
    · cases hc
  case range t x =>
    simp only [cop] at hc
    split at hc
    · rename_i x' h1 h2
      injection hc with hc; subst hc
      exact .inl <| step_range s hN hop h2 h1 h
    · cases hc
  case next x b =>
    cases b <;> simp only [cop] at hc <;> (try (cases hc; done))
    cases hx : copd C N x with
    | none => rw [hx] at hc; cases hc
    | some x' =>
      rw [hx] at hc
      simp only [Option.map_some, Option.some.injEq] at hc
      subst hc
      exact .inl <| step_next s hN hop hx h
  case extract x i =>
    simp only [cop] at hc
    cases hx : copd C N x with
    | none => rw [hx] at hc; cases hc
    | some x' =>
      rw [hx] at hc
      simp only [Option.map_some, Option.some.injEq] at hc
      subst hc
      replace h := runP h; obtain ⟨h, rfl, rfl⟩ := h
      exact .inl <| step_extract s hN hop hx h
  case call c =>
    obtain ⟨callee, args, argTypes⟩ := c
    cases callee with
    | builtin b =>
      simp only [cop] at hc
      exact .inl <| cop_builtin (c := ⟨.builtin b, args, argTypes⟩) s hP hN hop rfl hc h
    | value f =>
      right
      cases f <;> simp only [cop] at hc
      case func f =>
        cases hx : copds C N args.toList with
        | none => rw [hx] at hc; cases hc
        | some xs =>
          rw [hx] at hc
          simp only [Option.map_some, Option.some.injEq] at hc
          exact .inl ⟨f, args, argTypes, xs, rfl, hc.symm, hx⟩
      all_goals
        split at hc
        · rename_i f' xs h1 h2
          injection hc with hc
          exact .inr ⟨_, args, argTypes, f', xs, rfl, hc.symm, h1, h2⟩
        · cases hc
    | _ => simp only [cop] at hc; cases hc

end
end Go.Abs
end

/-
  Calls: what a frame owns stays, whatever the callee does.
-/
section
namespace Go.Abs

def GlobOK (C : Cfg) (g : G) (M : AMem) : Prop := ∀ x v, C.glob x = some v → VRel g M.hw Stk.empty v (.pointer (some ⟨x, 0, none⟩))

/-- What a function owes: whatever it answers by the small form, it answers by the model. -/
def FOK (P : Program) (C : Cfg) (f : FuncId) (run : List AVal → AMem → Option (AVal × AMem)) : Prop :=
  ∀ (args : List AVal) (M : AMem) (av : AVal) (M' : AMem), run args M = some (av, M') → ∀ (g : G) (w : World) (vs : Array Value), g.P = P → WRel g M w → GlobOK C g M → VRels g M.hw Stk.empty args vs.toList →
    ∀ (o : Oper) (a : Act) (next : Act → World → Prop) (Q : Exit → Act → World → Prop),
      (∀ v w' g', VRel g' M'.hw Stk.empty av v → GLe g M.hw Stk.empty g' M'.hw Stk.empty → WRel g' M' w' → g'.res = g.res → g'.w0 = g.w0 → next (a.put o.dst v) w') →
      o.upon P a next Q ((callFunc f vs).run P w)

def G.enter (g : G) (hl : HL) (w : World) : G :=
  { g with
    res := fun b => g.res b ∨ ∃ t e fr to, hl.get? t = some (some e) ∧ g.loc t = some (b, fr, to)
    w0 := { w with lim := fun b i => ∃ a, g.fix b i = some a } }

section
variable {P : Program} {C : Cfg} {N : Nat} {ob : Bool} {o : Oper} {g : G} {M : AMem} {hl hl' : HL} {M' : AMem} {w : World} {l : List AVal} {a : Act} {av : AVal} {call : CallH} {tmps : Array Value}

theorem GLe.enter (hw : Stk Nat) (hl1 : HL) : GLe g hw hl1 (g.enter hl w) hw hl1 :=
  ⟨rfl, fun _ _ h => h, fun _ _ _ h => h, Nat.le_refl _, fun _ e' _ h => ⟨e', h, Nat.le_refl _, fun _ => rfl⟩, Nat.le_refl _, fun _ e' _ h => ⟨e', h, Nat.le_refl _, fun _ => rfl⟩⟩

theorem SRel.enter (s : SRel C g M hl w l tmps) : WRel (g.enter hl w) M w where
  okO := s.wr.okO
  okH := s.wr.okH
  dom := s.wr.dom
  obj o x hx := by
    obtain ⟨b, h1, h2, h3⟩ := s.wr.obj o x hx
    refine ⟨b, h1, ?_, h3.mono (GLe.enter _ _)⟩
    rintro (hr | ⟨t, e, fr, to, k1, k2⟩)
    · exact h2 hr
    · obtain ⟨tb, fr', to', k3, k4⟩ := s.lo.loc t e k1
      rw [k2] at k3
      simp only [Option.some.injEq, Prod.mk.injEq] at k3
      obtain ⟨rfl, _, _⟩ := k3
      exact k4.obj o h1
  inj := s.wr.inj
  fix b i a ha := by
    obtain ⟨h1, v, h2, h3⟩ := s.wr.fix b i a ha
    exact ⟨h1, v, h2, h3.mono (GLe.enter _ _)⟩
  own t e he := by
    obtain ⟨tb, fr, to, h1, h2⟩ := s.wr.own t e he
    refine ⟨tb, fr, to, h1, ?_, h2.obj, h2.le, h2.there, h2.fix⟩
    rintro (hr | ⟨t', e', fr', to', k1, k2⟩)
    · exact h2.res hr
    · exact s.lo.apart t' t e' e tb fr' to' fr to k1 he k2 h1
  ownInj := s.wr.ownInj
  res b hb := by
    rcases hb with hr | ⟨t, e, fr, to, k1, k2⟩
    · exact ⟨(s.wr.res b hr).1, rfl⟩
    · obtain ⟨tb, fr', to', k3, k4⟩ := s.lo.loc t e k1
      rw [k2] at k3
      simp only [Option.some.injEq, Prod.mk.injEq] at k3
      obtain ⟨rfl, _, _⟩ := k3
      exact ⟨k4.lt, rfl⟩
  size := Nat.le_refl _
  os := rfl
  tape := rfl
  output := rfl
  lim b i a _ ha := ⟨a, ha⟩

/-- Back from a call. -/
def G.leave (g' g : G) : G := { g' with res := g.res, w0 := g.w0, loc := g.loc }

theorem SRel.leave (s : SRel C g M hl w l tmps) {g' : G} {w' : World} (le : GLe (g.enter hl w) M.hw Stk.empty g' M'.hw Stk.empty) (wr : WRel g' M' w') (hres : g'.res = (g.enter hl w).res) (hw0 : g'.w0 = (g.enter hl w).w0) :
    GLe g M.hw hl (g'.leave g) M'.hw hl ∧ SRel C (g'.leave g) M' hl w' l tmps ∧ GLe g' M'.hw Stk.empty (g'.leave g) M'.hw Stk.empty := by
  have le1 : GLe g M.hw hl (g'.leave g) M'.hw hl :=
    ⟨le.P, le.obj, le.fix, le.hwn, le.own, Nat.le_refl _, fun _ e' _ h => ⟨e', h, Nat.le_refl _, fun _ => rfl⟩⟩
  have le2 : GLe g' M'.hw Stk.empty (g'.leave g) M'.hw Stk.empty :=
    ⟨rfl, fun _ _ h => h, fun _ _ _ h => h, Nat.le_refl _, fun _ e' _ h => ⟨e', h, Nat.le_refl _, fun _ => rfl⟩, Nat.le_refl _, fun _ _ ht => absurd ht (Nat.not_lt_zero _)⟩
  have isres : ∀ b, g.res b → g'.res b := fun b hb => by rw [hres]; exact .inl hb
  have tailres : ∀ t e tb fr to, hl.get? t = some (some e) → g.loc t = some (tb, fr, to) → g'.res tb := fun t e tb fr to h1 h2 => by rw [hres]; exact .inr ⟨t, e, fr, to, h1, h2⟩
  have kept : ∀ b, g'.res b → w'.heap[b]? = w.heap[b]? := fun b hb => by have := (wr.res b hb).2; rw [hw0] at this; exact this
  refine ⟨le1, ⟨?_, ?_, s.t.mono le1, fun y v hy => (s.glob y v hy).mono le1.toEmpty⟩, le2⟩
  · exact {
      okO := wr.okO
      okH := wr.okH
      dom := wr.dom
      obj := fun o x hx => by
        obtain ⟨b, h1, h2, h3⟩ := wr.obj o x hx
        exact ⟨b, h1, fun hb => h2 (isres b hb), h3.mono le2⟩
      inj := wr.inj
      fix := fun b i a ha => by
        obtain ⟨h1, v, h2, h3⟩ := wr.fix b i a ha
        exact ⟨h1, v, h2, h3.mono le2⟩
      own := fun t e he => by
        obtain ⟨tb, fr, to, h1, h2⟩ := wr.own t e he
        exact ⟨tb, fr, to, h1, fun hb => h2.res (isres tb hb), h2.obj, h2.le, h2.there, h2.fix⟩
      ownInj := wr.ownInj
      res := fun b hb => by
        obtain ⟨h1, h2⟩ := s.wr.res b hb
        exact ⟨(wr.res b (isres b hb)).1, (kept b (isres b hb)).trans h2⟩
      size := Nat.le_trans s.wr.size (by have := wr.size; rw [hw0] at this; exact this)
      os := (by have := wr.os; rw [hw0] at this; exact this : w'.os = w.os).trans s.wr.os
      tape := (by have := wr.tape; rw [hw0] at this; exact this : w'.tape = w.tape).trans s.wr.tape
      output := (by have := wr.output; rw [hw0] at this; exact this : w'.output = w.output).trans s.wr.output
      lim := fun b i a hb ha => by
        have h1 := wr.lim b i a (isres b hb) ha
        rw [hw0] at h1
        obtain ⟨a', ha'⟩ := h1
        exact s.wr.lim b i a' hb ha' }
  · exact {
      ok := s.lo.ok
      loc := fun t e he => by
        obtain ⟨tb, fr, to, h1, h2⟩ := s.lo.loc t e he
        have hr := tailres t e tb fr to he h1
        refine ⟨tb, fr, to, h1, h2.res, fun o ho => ?_, h2.le, ?_, fun i hi => ?_⟩
        · obtain ⟨x, hx⟩ := Stk.get?_some wr.okO (wr.dom o tb ho)
          obtain ⟨b', k1, k2, _⟩ := wr.obj o x hx
          have k0 : g'.obj o = some tb := ho
          rw [k0] at k1; injection k1 with k1; subst k1
          exact k2 hr
        · obtain ⟨c, el, lo, hi, hb, r⟩ := h2.there
          exact ⟨c, el, lo, hi, (kept tb hr).trans hb, r⟩
        · cases hf : (g'.leave g).fix tb i with
          | none => rfl
          | some x =>
            have h3 := wr.lim tb i x hr hf
            rw [hw0] at h3
            obtain ⟨a', ha'⟩ := h3
            rw [h2.fix i hi] at ha'; cases ha'
      inj := s.lo.inj
      apart := fun t t' e e' b fr to fr' to' h1 h2 h3 h4 => by
        obtain ⟨tb, fr1, to1, k1, k2⟩ := wr.own t' e' h2
        have k0 : g'.own t' = some (b, fr', to') := h4
        rw [k0] at k1
        simp only [Option.some.injEq, Prod.mk.injEq] at k1
        obtain ⟨rfl, _, _⟩ := k1
        exact k2.res (tailres t e b fr to h1 h3) }

/-- A call within a frame. -/
theorem call_sound (hcall : ∀ f, FOK P C f (call f)) (s : SRel C g M hl w l a.tmps) (hP : g.P = P) {f : FuncId} {args : List AVal} {vs : Array Value} (rs : VRels g M.hw hl args vs.toList) (h : call f (sealAll args) M = some (av, M'))
    (next : Act → World → Prop) (Q : Exit → Act → World → Prop)
    (K : ∀ v w' g', VRel g' M'.hw hl av v → GLe g M.hw hl g' M'.hw hl → SRel C g' M' hl w' l a.tmps → g'.res = g.res → g'.w0 = g.w0 → next (a.put o.dst v) w') : o.upon P a next Q ((callFunc f vs).run P w) := by
  refine hcall f _ _ _ _ h (g.enter hl w) w vs hP s.enter (fun x v hx => (s.glob x v hx).mono (GLe.enter _ _)) ((VRels.sealv Stk.empty rs).mono (GLe.enter _ _)) o a next Q ?_
  intro v w' g' hv le wr hres hw0
  obtain ⟨k1, k2, k3⟩ := s.leave le wr hres hw0
  exact K v w' _ (hv.mono k3).toFrame k1 k2 rfl rfl

/-- Any operation, by the model. -/
theorem oper_sound (hcall : ∀ f, FOK P C f (call f)) (s : SRel C g M hl w l a.tmps) (hP : g.P = P) (hN : N ≤ a.tmps.size) {ao : AOp} (hc : cop P C N ob o.op = some ao)
    (h : runAOp call ao ⟨l, hl⟩ M = some (av, hl', M')) (next : Act → World → Prop) (Q : Exit → Act → World → Prop)
    (K : ∀ v w' g', VRel g' M'.hw hl' av v → GLe g M.hw hl g' M'.hw hl' → SRel C g' M' hl' w' l a.tmps → g'.res = g.res → g'.w0 = g.w0 → next (a.put o.dst v) w') : o.wp P a w next Q := by
  unfold Oper.wp
  rcases cop_step s hP hN hc h with hs | hs
  · obtain ⟨v, w', g', hrun, hv, le, s', hr, hw⟩ := hs
    rcases hrun with hrun | ⟨hrun, rfl⟩
    · rw [hrun]; exact K v w' g' hv le s' hr hw
    · rw [hrun]; exact K undef w' g' hv le s' hr hw
  · rcases hs with ⟨f, args, ats, xs, hop, rfl, hxs⟩ | ⟨fo, args, ats, f', xs, hop, rfl, hf, hxs⟩
    · simp only [runAOp] at h
      cases hr : runCall call f (evAll (Opd.ev l) xs) M with
      | none => rw [hr] at h; cases h
      | some r =>
        obtain ⟨v, M1⟩ := r
        rw [hr] at h
        simp only [Option.map_some, Option.some.injEq, Prod.mk.injEq] at h
        obtain ⟨rfl, rfl, rfl⟩ := h
        have e : execOp a.eval o = callFunc f (args.map a.eval) := by
          simp [execOp, hop, resolve, Act.eval, Deferred.ofValue, invoke]
        rw [e]
        exact call_sound hcall s hP (by simpa using copds_sound s hN hxs) hr next Q K
    · have rf := copd_sound s hN hf
      simp only [runAOp] at h
      split at h
      · rename_i f x y ef
        rw [ef] at rf
        simp only [VRel] at rf
        obtain ⟨us, cs, hv, r1, r2⟩ := rf
        cases hr : runCall call f (x ++ evAll (Opd.ev l) xs ++ y) M with
        | none => rw [hr] at h; cases h
        | some r =>
          obtain ⟨v, M1⟩ := r
          rw [hr] at h
          simp only [Option.map_some, Option.some.injEq, Prod.mk.injEq] at h
          obtain ⟨rfl, rfl, rfl⟩ := h
          have e : execOp a.eval o = callFunc f ((⟨us⟩ : Array Value) ++ args.map a.eval ++ (⟨cs⟩ : Array Value)) := by
            simp [execOp, hop, resolve, hv, Deferred.ofValue, invoke]
          rw [e]
          exact call_sound hcall s hP (by simpa using VRels_append (VRels_append r1 (copds_sound s hN hxs)) r2) hr next Q K
      · cases h

end
end Go.Abs
end

/-
  Code and functions of the small form, out of the model's.
-/
section
namespace Go.Abs

def cguard (N : Nat) (ops : List Oper) : Option (Nat × Bool) → Option (Option (Nat × Bool))
  | none => some none
  | some (j, b) => match nth? ops j with
    | some o => (match o.dst with
      | some t => if Nat.blt t N then some (some (t, b)) else none
      | none => none)
    | none => none

def coper (P : Program) (C : Cfg) (N : Nat) (ob : Bool) (ops : List Oper) (o : Oper) : AOper :=
  match cguard N ops o.guard with
  | some gd => ⟨o.dst, orFail (cop P C N ob o.op), gd⟩
  | none => ⟨o.dst, .fail, none⟩

def cops (P : Program) (C : Cfg) (N : Nat) (ob : Bool) (ops : List Oper) : List Oper → List AOper
  | [] => []
  | o :: l => coper P C N ob ops o :: cops P C N ob ops l

/-! ## Which tmps an operation looks at -/

def Opd.tmps : Opd → List Nat
  | .tmp t => [t]
  | .con _ => []

def tmpsAll : List Opd → List Nat
  | [] => []
  | x :: l => x.tmps ++ tmpsAll l

def tmpsO : Option Opd → List Nat
  | none => []
  | some x => x.tmps

def tmpsParts : List (Nat × Nat × Opd) → List Nat
  | [] => []
  | (_, _, x) :: l => x.tmps ++ tmpsParts l

def PureOp.tmps : PureOp → List Nat
  | .move x | .nilck x | .un _ x | .conv _ x | .arrp _ _ x | .mkif _ x | .faddr _ x | .field _ _ x | .extract x _ | .len _ x | .cap x => x.tmps
  | .pick c a b => c.tmps ++ a.tmps ++ b.tmps
  | .build _ ps | .buildSl _ _ _ ps => tmpsParts ps
  | .bin _ _ _ x y | .eqA _ _ x y | .iaddr _ x y | .iaddrA _ _ x y | .indexS x y | .indexA _ _ _ x y => x.tmps ++ y.tmps
  | .mkfn _ a b => tmpsAll a ++ tmpsAll b
  | .sliceS x lo hi => x.tmps ++ tmpsO lo ++ tmpsO hi
  | .sliceL _ x lo hi mx | .sliceA _ _ x lo hi mx => x.tmps ++ tmpsO lo ++ tmpsO hi ++ tmpsO mx
  | .lenC _ => []
  | .minmax _ xs => tmpsAll xs

def ReadOp.tmps : ReadOp → List Nat
  | .load _ x | .lenM x | .str x => x.tmps
  | .lookup _ _ _ m k => m.tmps ++ k.tmps

def WriteOp.tmps : WriteOp → List Nat
  | .new _ | .mkmap _ => []
  | .box _ x | .range x | .next x => x.tmps
  | .store _ a x => a.tmps ++ x.tmps
  | .mapupd _ m k x => m.tmps ++ k.tmps ++ x.tmps
  | .mapent _ _ m k | .delete _ m k => m.tmps ++ k.tmps
  | .entst m s x => m.tmps ++ s.tmps ++ x.tmps
  | .append _ _ _ s x | .copy _ s x => s.tmps ++ x.tmps
  | .growz _ _ s x => s.tmps ++ x.tmps
  | .bsl _ _ _ ps => tmpsParts ps
  | .push _ _ s z x i => s.tmps ++ z.tmps ++ x.tmps ++ i.tmps
  | .mksl _ _ _ l c => l.tmps ++ c.tmps

def AOp.tmps : AOp → List Nat
  | .p o => o.tmps
  | .r o _ => o.tmps
  | .w o => o.tmps
  | .call _ args => tmpsAll args
  | .callv f args => f.tmps ++ tmpsAll args
  | .skip | .fail => []

def AOper.looks (o : AOper) : List Nat :=
  match o.guard with
  | none => o.op.tmps
  | some (t, _) => t :: o.op.tmps

section
variable {l l' : List AVal}

theorem ev_congr {x : Opd} (h : ∀ t ∈ x.tmps, lget .undef l t = lget .undef l' t) : x.ev l = x.ev l' := by
  cases x with
  | tmp t => exact h t (by simp [Opd.tmps])
  | con v => rfl

theorem evAll_congr : ∀ {xs : List Opd}, (∀ t ∈ tmpsAll xs, lget .undef l t = lget .undef l' t) → evAll (Opd.ev l) xs = evAll (Opd.ev l') xs
  | [], _ => rfl
  | x :: xs, h => by
    simp only [evAll]
    rw [ev_congr (fun t ht => h t (by simp [tmpsAll, ht])), evAll_congr (xs := xs) (fun t ht => h t (by simp [tmpsAll, ht]))]

theorem evParts_congr : ∀ {xs : List (Nat × Nat × Opd)}, (∀ t ∈ tmpsParts xs, lget .undef l t = lget .undef l' t) → evParts (Opd.ev l) xs = evParts (Opd.ev l') xs
  | [], _ => rfl
  | (a, b, x) :: xs, h => by
    simp only [evParts]
    rw [ev_congr (fun t ht => h t (by simp [tmpsParts, ht])), evParts_congr (xs := xs) (fun t ht => h t (by simp [tmpsParts, ht]))]

theorem mapEv_congr {x : Option Opd} (h : ∀ t ∈ tmpsO x, lget .undef l t = lget .undef l' t) : mapEv (Opd.ev l) x = mapEv (Opd.ev l') x := by
  cases x with
  | none => rfl
  | some x => simp only [mapEv]; rw [ev_congr h]

theorem pure_congr {o : PureOp} (h : ∀ t ∈ o.tmps, lget .undef l t = lget .undef l' t) : o.run (Opd.ev l) = o.run (Opd.ev l') := by
  cases o
  case sliceA n sz x lo hi mx =>
    have h1 := ev_congr (x := x) (fun t ht => h t (by simp [PureOp.tmps, ht]))
    have h2 := mapEv_congr (x := lo) (fun t ht => h t (by simp [PureOp.tmps, ht]))
    have h3 := mapEv_congr (x := hi) (fun t ht => h t (by simp [PureOp.tmps, ht]))
    cases mx <;> simp only [PureOp.run, h1, h2, h3]
  case sliceL sz x lo hi mx =>
    have h1 := ev_congr (x := x) (fun t ht => h t (by simp [PureOp.tmps, ht]))
    have h2 := mapEv_congr (x := lo) (fun t ht => h t (by simp [PureOp.tmps, ht]))
    have h3 := mapEv_congr (x := hi) (fun t ht => h t (by simp [PureOp.tmps, ht]))
    have h4 := mapEv_congr (x := mx) (fun t ht => h t (by simp [PureOp.tmps, ht]))
    simp only [PureOp.run, h1, h2, h3, h4]
  case sliceS x lo hi =>
    have h1 := ev_congr (x := x) (fun t ht => h t (by simp [PureOp.tmps, ht]))
    have h2 := mapEv_congr (x := lo) (fun t ht => h t (by simp [PureOp.tmps, ht]))
    have h3 := mapEv_congr (x := hi) (fun t ht => h t (by simp [PureOp.tmps, ht]))
    simp only [PureOp.run, h1, h2, h3]
  case build z ps =>
    have h1 := evParts_congr (xs := ps) (fun t ht => h t ht)
    simp only [PureOp.run, h1]
  case buildSl a b c ps =>
    have h1 := evParts_congr (xs := ps) (fun t ht => h t ht)
    simp only [PureOp.run, h1]
  case mkfn f a b =>
    have h1 := evAll_congr (xs := a) (fun t ht => h t (by simp [PureOp.tmps, ht]))
    have h2 := evAll_congr (xs := b) (fun t ht => h t (by simp [PureOp.tmps, ht]))
    simp only [PureOp.run, h1, h2]
  case minmax m xs =>
    have h1 := evAll_congr (xs := xs) (fun t ht => h t ht)
    simp only [PureOp.run, h1]
  case pick c a b =>
    have h1 := ev_congr (x := c) (fun t ht => h t (by simp [PureOp.tmps, ht]))
    have h2 := ev_congr (x := a) (fun t ht => h t (by simp [PureOp.tmps, ht]))
    have h3 := ev_congr (x := b) (fun t ht => h t (by simp [PureOp.tmps, ht]))
    simp only [PureOp.run, h1, h2, h3]
  case lenC n => rfl
  case extract x i =>
    have h1 := ev_congr (x := x) (fun t ht => h t ht)
    simp only [PureOp.run, h1]
  case bin op c li x y =>
    have h1 := ev_congr (x := x) (fun t ht => h t (by simp [PureOp.tmps, ht]))
    have h2 := ev_congr (x := y) (fun t ht => h t (by simp [PureOp.tmps, ht]))
    simp only [PureOp.run, h1, h2]
  case eqA n ls x y =>
    have h1 := ev_congr (x := x) (fun t ht => h t (by simp [PureOp.tmps, ht]))
    have h2 := ev_congr (x := y) (fun t ht => h t (by simp [PureOp.tmps, ht]))
    simp only [PureOp.run, h1, h2]
  case iaddr sz x y =>
    have h1 := ev_congr (x := x) (fun t ht => h t (by simp [PureOp.tmps, ht]))
    have h2 := ev_congr (x := y) (fun t ht => h t (by simp [PureOp.tmps, ht]))
    simp only [PureOp.run, h1, h2]
  case iaddrA n sz x y =>
    have h1 := ev_congr (x := x) (fun t ht => h t (by simp [PureOp.tmps, ht]))
    have h2 := ev_congr (x := y) (fun t ht => h t (by simp [PureOp.tmps, ht]))
    simp only [PureOp.run, h1, h2]
  case indexS x y =>
    have h1 := ev_congr (x := x) (fun t ht => h t (by simp [PureOp.tmps, ht]))
    have h2 := ev_congr (x := y) (fun t ht => h t (by simp [PureOp.tmps, ht]))
    simp only [PureOp.run, h1, h2]
  case indexA n sz ag x y =>
    have h1 := ev_congr (x := x) (fun t ht => h t (by simp [PureOp.tmps, ht]))
    have h2 := ev_congr (x := y) (fun t ht => h t (by simp [PureOp.tmps, ht]))
    simp only [PureOp.run, h1, h2]
  all_goals
    rename_i x
    have h1 := ev_congr (x := x) (fun t ht => h t ht)
    simp only [PureOp.run, h1]

theorem read_congr {o : ReadOp} {M : AMem} (h : ∀ t ∈ o.tmps, lget .undef l t = lget .undef l' t) : o.run M (Opd.ev l) = o.run M (Opd.ev l') := by
  cases o with
  | load ag x => have h1 := ev_congr (x := x) (fun t ht => h t ht); simp only [ReadOp.run, h1]
  | lenM x => have h1 := ev_congr (x := x) (fun t ht => h t ht); simp only [ReadOp.run, h1]
  | str x => have h1 := ev_congr (x := x) (fun t ht => h t ht); simp only [ReadOp.run, h1]
  | lookup kt z ok m k =>
    have h1 := ev_congr (x := m) (fun t ht => h t (by simp [ReadOp.tmps, ht]))
    have h2 := ev_congr (x := k) (fun t ht => h t (by simp [ReadOp.tmps, ht]))
    simp only [ReadOp.run, h1, h2]

theorem write_congr {o : WriteOp} {M : AMem} {hl : HL} (h : ∀ t ∈ o.tmps, lget .undef l t = lget .undef l' t) : o.run M hl (Opd.ev l) = o.run M hl (Opd.ev l') := by
  cases o with
  | new z => rfl
  | mkmap k => rfl
  | box n x => have h1 := ev_congr (x := x) (fun t ht => h t ht); simp only [WriteOp.run, h1]
  | range x => have h1 := ev_congr (x := x) (fun t ht => h t ht); simp only [WriteOp.run, h1]
  | next x => have h1 := ev_congr (x := x) (fun t ht => h t ht); simp only [WriteOp.run, h1]
  | store n x y =>
    have h1 := ev_congr (x := x) (fun t ht => h t (by simp [WriteOp.tmps, ht]))
    have h2 := ev_congr (x := y) (fun t ht => h t (by simp [WriteOp.tmps, ht]))
    simp only [WriteOp.run, h1, h2]
  | mapupd kt x y z =>
    have h1 := ev_congr (x := x) (fun t ht => h t (by simp [WriteOp.tmps, ht]))
    have h2 := ev_congr (x := y) (fun t ht => h t (by simp [WriteOp.tmps, ht]))
    have h3 := ev_congr (x := z) (fun t ht => h t (by simp [WriteOp.tmps, ht]))
    simp only [WriteOp.run, h1, h2, h3]
  | mapent kt z x y =>
    have h1 := ev_congr (x := x) (fun t ht => h t (by simp [WriteOp.tmps, ht]))
    have h2 := ev_congr (x := y) (fun t ht => h t (by simp [WriteOp.tmps, ht]))
    simp only [WriteOp.run, h1, h2]
  | delete kt x y =>
    have h1 := ev_congr (x := x) (fun t ht => h t (by simp [WriteOp.tmps, ht]))
    have h2 := ev_congr (x := y) (fun t ht => h t (by simp [WriteOp.tmps, ht]))
    simp only [WriteOp.run, h1, h2]
  | entst x y z =>
    have h1 := ev_congr (x := x) (fun t ht => h t (by simp [WriteOp.tmps, ht]))
    have h2 := ev_congr (x := y) (fun t ht => h t (by simp [WriteOp.tmps, ht]))
    have h3 := ev_congr (x := z) (fun t ht => h t (by simp [WriteOp.tmps, ht]))
    simp only [WriteOp.run, h1, h2, h3]
  | append ob sz by' x y =>
    have h1 := ev_congr (x := x) (fun t ht => h t (by simp [WriteOp.tmps, ht]))
    have h2 := ev_congr (x := y) (fun t ht => h t (by simp [WriteOp.tmps, ht]))
    simp only [WriteOp.run, h1, h2]
  | push sz by' x y z u =>
    have h1 := ev_congr (x := x) (fun t ht => h t (by simp [WriteOp.tmps, ht]))
    have h2 := ev_congr (x := y) (fun t ht => h t (by simp [WriteOp.tmps, ht]))
    have h3 := ev_congr (x := z) (fun t ht => h t (by simp [WriteOp.tmps, ht]))
    have h4 := ev_congr (x := u) (fun t ht => h t (by simp [WriteOp.tmps, ht]))
    simp only [WriteOp.run, h1, h2, h3, h4]
  | bsl sz n z ps =>
    have h1 := evParts_congr (xs := ps) (fun t ht => h t ht)
    simp only [WriteOp.run, h1]
  | growz sz by' x y =>
    have h1 := ev_congr (x := x) (fun t ht => h t (by simp [WriteOp.tmps, ht]))
    have h2 := ev_congr (x := y) (fun t ht => h t (by simp [WriteOp.tmps, ht]))
    simp only [WriteOp.run, h1, h2]
  | copy sz x y =>
    have h1 := ev_congr (x := x) (fun t ht => h t (by simp [WriteOp.tmps, ht]))
    have h2 := ev_congr (x := y) (fun t ht => h t (by simp [WriteOp.tmps, ht]))
    simp only [WriteOp.run, h1, h2]
  | mksl sz by' z x y =>
    have h1 := ev_congr (x := x) (fun t ht => h t (by simp [WriteOp.tmps, ht]))
    have h2 := ev_congr (x := y) (fun t ht => h t (by simp [WriteOp.tmps, ht]))
    simp only [WriteOp.run, h1, h2]

theorem aop_congr {call : CallH} {o : AOp} {M : AMem} {hl : HL} (h : ∀ t ∈ o.tmps, lget .undef l t = lget .undef l' t) : runAOp call o ⟨l, hl⟩ M = runAOp call o ⟨l', hl⟩ M := by
  cases o with
  | p o => simp only [runAOp, pure_congr (o := o) h]
  | r o _ => simp only [runAOp, read_congr (o := o) h]
  | w o => simp only [runAOp, write_congr (o := o) h]
  | call f args => simp only [runAOp, evAll_congr (xs := args) h]
  | callv f args =>
    have h1 := ev_congr (x := f) (fun t ht => h t (by simp [AOp.tmps, ht]))
    have h2 := evAll_congr (xs := args) (fun t ht => h t (by simp [AOp.tmps, ht]))
    simp only [runAOp, h1, h2]
  | skip => rfl
  | fail => rfl

end

/-- Operations that leave memory alone leave it alone, and don't look at what the frame owns. -/
theorem runAOp_still {call : CallH} {o : AOp} (ho : o.writes = false) {fr : Fr} {M : AMem} {v : AVal} {hl' : HL} {M' : AMem} (h : runAOp call o fr M = some (v, hl', M')) : hl' = fr.hl ∧ M' = M := by
  cases o with
  | p o =>
    simp only [runAOp] at h
    cases hq : o.run (Opd.ev fr.tmps) with
    | none => rw [hq] at h; cases h
    | some u => rw [hq] at h; simp only [Option.map_some, Option.some.injEq, Prod.mk.injEq] at h; exact ⟨h.2.1.symm, h.2.2.symm⟩
  | r o cs =>
    simp only [runAOp] at h
    cases hq : o.run M (Opd.ev fr.tmps) with
    | none => rw [hq] at h; cases h
    | some u => rw [hq] at h; simp only [Option.map_some, Option.some.injEq, Prod.mk.injEq] at h; exact ⟨h.2.1.symm, h.2.2.symm⟩
  | skip => simp only [runAOp, Option.some.injEq, Prod.mk.injEq] at h; exact ⟨h.2.1.symm, h.2.2.symm⟩
  | fail => cases h
  | _ => simp [AOp.writes] at ho

end Go.Abs
end

/-
  Regions whose order is the text's.
-/
section
namespace Go.Abs

section
variable {P : Program} {C : Cfg} {N : Nat} {ob : Bool} {g : G} {M : AMem} {hl hl' : HL} {M' : AMem} {w : World} {l l' : List AVal} {a : Act} {call : CallH}

theorem VRel.notBool {hw : Stk Nat} {x : AVal} {v : Value} (r : VRel g hw hl x v) (h : ∀ b, x ≠ .bool b) : ∀ b, v ≠ .bool b := by
  intro b hb
  subst hb
  cases x <;> simp only [VRel] at r
  case bool c => exact h c rfl
  case raw x => exact r.2 b r.1.symm
  all_goals
    first
    | (cases r; done)
    | (simp [] at r; done)
    | (obtain ⟨r, _⟩ := r; cases r; done)
    | (obtain ⟨_, _, r⟩ := r; cases r; done)
    | (obtain ⟨_, _, r, _⟩ := r; cases r; done)
    | (obtain ⟨_, _, _, r, _⟩ := r; cases r; done)
    | (obtain ⟨_, r, _⟩ := r; cases r; done)

theorem wanted_sound (s : SRel C g M hl w l a.tmps) (hN : N ≤ a.tmps.size) {ops : Array Oper} {o : Oper} {gd : Option (Nat × Bool)} (hg : cguard N ops.toList o.guard = some gd) :
    wantedA l gd = Region.wanted o (yielded ops a.tmps) := by
  unfold cguard at hg
  unfold Region.wanted
  split at hg
  · rename_i e
    injection hg with hg; subst hg
    rw [e]; rfl
  · rename_i j b e
    split at hg
    · rename_i o' ho'
      split at hg
      · rename_i t ht
        split at hg
        · rename_i hlt
          rw [Nat.blt_eq] at hlt
          injection hg with hg; subst hg
          rw [e]
          have hsz : t < a.tmps.size := Nat.lt_of_lt_of_le hlt hN
          have r := s.t t hsz
          rw [nth?_eq, Array.getElem?_toList] at ho'
          have hy : yielded ops a.tmps j = match a.tmps.getD t undef with | .bool c => some c | _ => none := by
            have e1 : a.tmps[t]? = some (a.tmps.getD t undef) := by simp [hsz]
            unfold yielded
            simp only [ho', Option.bind_some, ht, e1]
            cases a.tmps.getD t undef <;> rfl
          have key : ∀ x v, VRel g M.hw hl x v → (match x with | .bool c => c == b | _ => false) = ((match v with | .bool c => some c | _ => none) == some b) := by
            intro x v r
            by_cases hb : ∃ c, x = .bool c
            · obtain ⟨c, rfl⟩ := hb
              simp only [VRel] at r
              subst r
              cases c <;> cases b <;> rfl
            · have nb := r.notBool (fun c hc => hb ⟨c, hc⟩)
              cases x <;> (try (exact absurd ⟨_, rfl⟩ hb)) <;> (clear r; cases v <;> first | rfl | exact absurd rfl (nb _))
          simp only [hy]
          exact key _ _ r
        · cases hg
      · cases hg
    · cases hg

/-- What comes behind: the state that the small form tells stands. -/
def Cont (C : Cfg) (g : G) (M : AMem) (hl : HL) (a : Act) (l' : List AVal) (hl' : HL) (M' : AMem) (K : Act → World → Prop) : Prop :=
  ∀ a' w' g', GLe g M.hw hl g' M'.hw hl' → SRel C g' M' hl' w' l' a'.tmps → a'.tmps.size = a.tmps.size → a'.defers = a.defers → g'.res = g.res → g'.w0 = g.w0 → K a' w'

theorem Act.put_size (a : Act) (d : Option Nat) (v : Value) : (a.put d v).tmps.size = a.tmps.size := by cases d <;> simp [Act.put]
theorem Act.put_defers' (a : Act) (d : Option Nat) (v : Value) : (a.put d v).defers = a.defers := by cases d <;> rfl

theorem SRel.put (s : SRel C g M hl w l a.tmps) {x : AVal} {v : Value} (h : VRel g M.hw hl x v) (d : Option Nat) : SRel C g M hl w (putA l d x) (a.put d v).tmps :=
  ⟨s.wr, s.lo, s.t.put h d, s.glob⟩

theorem cop_of_orFail {o : Oper} {fr : Fr} {r : AVal × HL × AMem} (h : runAOp call (orFail (cop P C N ob o.op)) fr M = some r) : ∃ ao, cop P C N ob o.op = some ao ∧ runAOp call ao fr M = some r := by
  cases hc : cop P C N ob o.op with
  | none => rw [hc] at h; cases h
  | some ao => rw [hc] at h; exact ⟨ao, rfl, h⟩

theorem region_plain (hcall : ∀ f, FOK P C f (call f)) {ops : Array Oper} {Q : Exit → Act → World → Prop} : ∀ (rest : List Oper) (i : Nat), ops.toList.drop i = rest → ∀ {g : G} {M : AMem} {hl : HL} {w : World} {l : List AVal} {a : Act} {fr' : Fr} {M' : AMem},
    SRel C g M hl w l a.tmps → g.P = P → N ≤ a.tmps.size → runOps call (cops P C N ob ops.toList rest) ⟨l, hl⟩ M = some (fr', M') → Cont C g M hl a fr'.tmps fr'.hl M' (Q .normal) →
    wpOps P ops Q (List.range' i rest.length) a w
  | [], i, hd, g, M, hl, w, l, a, fr', M', s, hP, hN, h, K => by
    simp only [cops, runOps, Option.some.injEq, Prod.mk.injEq] at h
    obtain ⟨rfl, rfl⟩ := h
    exact K a w g (GLe.refl _ _ _) s rfl rfl rfl rfl
  | o :: rest, i, hd, g, M, hl, w, l, a, fr', M', s, hP, hN, h, K => by
    have ho : ops[i]? = some o := by
      rw [← Array.getElem?_toList]
      have := congrArg (·[0]?) hd
      simpa using this
    have hd' : ops.toList.drop (i + 1) = rest := by
      have := congrArg (List.drop 1) hd
      simpa [List.drop_drop, Nat.add_comm] using this
    simp only [List.length_cons, List.range'_succ, wpOps, ho]
    simp only [cops, coper] at h
    cases hg : cguard N ops.toList o.guard with
    | none =>
      rw [hg] at h
      simp [runOps, wantedA, runAOp] at h
    | some gd =>
      rw [hg] at h
      simp only [runOps] at h
      rw [wanted_sound s hN hg] at h
      split
      · rename_i hw
        rw [if_pos hw] at h
        cases hr : runAOp call (orFail (cop P C N ob o.op)) ⟨l, hl⟩ M with
        | none => rw [hr] at h; cases h
        | some r =>
          obtain ⟨av, hl1, M1⟩ := r
          rw [hr] at h
          simp only at h
          obtain ⟨ao, hc, hr⟩ := cop_of_orFail hr
          left
          refine oper_sound hcall s hP hN hc hr _ Q ?_
          intro v w' g' hv le s' hres hw0
          refine region_plain hcall rest (i + 1) hd' (s'.put hv o.dst) (le.P.trans hP) (by rw [Act.put_size]; exact hN) h ?_
          intro a2 w2 g2 le2 s2 h1 h2 h3 h4
          exact K a2 w2 g2 (le.trans le2) s2 (h1.trans (Act.put_size _ _ _)) (h2.trans (Act.put_defers' _ _ _)) (h3.trans hres) (h4.trans hw0)
      · rename_i hw
        rw [if_neg hw] at h
        refine region_plain hcall rest (i + 1) hd' (s.put (x := .undef) (v := undef) VRel_undef o.dst) hP (by rw [Act.put_size]; exact hN) h ?_
        intro a2 w2 g2 le2 s2 h1 h2 h3 h4
        exact K a2 w2 g2 le2 s2 (h1.trans (Act.put_size _ _ _)) (h2.trans (Act.put_defers' _ _ _)) h3 h4

end
end Go.Abs
end

/-
  Regions whose order is drawn: which operations are behind which, and the run in the text's order.
-/
section
namespace Go.Abs

def preds : List Edge → List Nat
  | [] => []
  | e :: es => if Region.binds .any e then e.on :: preds es else preds es

def maskOf (acc : List Nat) : List Nat → Nat
  | [] => 0
  | p :: ps => Nat.lor (Nat.lor (Nat.shiftLeft 1 p) (lget 0 acc p)) (maskOf acc ps)

/-- For each operation, the ones that must be ahead of it, as bits. -/
def ancGo (acc : List Nat) : List Oper → List Nat
  | [] => acc
  | o :: os => ancGo (acc ++ [maskOf acc (preds o.after.toList)]) os

def before (anc : List Nat) (p i : Nat) : Bool := Nat.testBit (lget 0 anc i) p

def allIx {α : Type} (f : Nat → α → Bool) : Nat → List α → Bool
  | _, [] => true
  | i, a :: l => f i a && allIx f (i + 1) l

def memN (t : Nat) : List Nat → Bool
  | [] => false
  | x :: l => Nat.beq t x || memN t l

def sees (d : Option Nat) (l : List Nat) : Bool :=
  match d with
  | none => false
  | some t => memN t l

def sameDst : Option Nat → Option Nat → Bool
  | some a, some b => Nat.beq a b
  | _, _ => false

def okPair (anc : List Nat) (i : Nat) (a : AOper) (j : Nat) (b : AOper) : Bool :=
  !(sameDst a.dst b.dst || (a.op.writes && b.op.writes) || sees a.dst b.looks || sees b.dst a.looks) || before anc i j

def pairsOK (anc : List Nat) : Nat → List AOper → Bool
  | _, [] => true
  | i, a :: l => allIx (okPair anc i a) (i + 1) l && pairsOK anc (i + 1) l

def allBelow (i : Nat) : List Nat → Bool
  | [] => true
  | p :: ps => Nat.blt p i && allBelow i ps

def predsOK (ops : List Oper) : Bool := allIx (fun i (o : Oper) => allBelow i (preds o.after.toList)) 0 ops

def writerPos : Nat → List AOper → List Nat
  | _, [] => []
  | i, a :: l => if a.op.writes then (i + 1) :: writerPos (i + 1) l else writerPos (i + 1) l

def candOK (anc : List Nat) (as : List AOper) (i k : Nat) : Bool :=
  allIx (fun j (b : AOper) => !b.op.writes || ((!before anc j i || Nat.blt j k) && (!before anc i j || Nat.ble k j))) 0 as

def filterN (f : Nat → Bool) : List Nat → List Nat
  | [] => []
  | x :: l => if f x then x :: filterN f l else filterN f l

def moreThanOne : List Nat → List Nat
  | [] => []
  | [_] => []
  | l => l

/-- The states at which a reading operation may come to stand. -/
def cands (anc : List Nat) (as : List AOper) (i : Nat) : List Nat := moreThanOne (filterN (candOK anc as i) (0 :: writerPos 0 as))

def setAt (l : List Nat) (o : AOper) : AOper :=
  match o with
  | ⟨d, .r ro _, gd⟩ => ⟨d, .r ro l, gd⟩
  | o => o

def isRead : AOp → Bool
  | .r _ _ => true
  | _ => false

def setAts (anc : List Nat) (as : List AOper) : Nat → List AOper → List AOper
  | _, [] => []
  | i, a :: l => (if isRead a.op then setAt (cands anc as i) a else a) :: setAts anc as (i + 1) l

def cdraw (P : Program) (C : Cfg) (N : Nat) (ob : Bool) (ops : List Oper) : ACode :=
  let as := cops P C N ob ops ops
  let anc := ancGo [] ops
  if predsOK ops && pairsOK anc 0 as then .regionD (setAts anc as 0 as) else .fail

/-! ## What the tests say -/

theorem allIx_get {α : Type} {f : Nat → α → Bool} : ∀ {l : List α} {k : Nat}, allIx f k l = true → ∀ {j : Nat} {x : α}, l[j]? = some x → f (k + j) x = true
  | [], _, _, j, x, h => by simp at h
  | a :: l, k, h, j, x, hx => by
    simp only [allIx, Bool.and_eq_true] at h
    cases j with
    | zero => simp at hx; subst hx; exact h.1
    | succ j =>
      simp at hx
      have := allIx_get h.2 hx
      rwa [show k + 1 + j = k + (j + 1) by omega] at this

theorem memN_iff (t : Nat) : ∀ l, memN t l = true ↔ t ∈ l
  | [] => by simp [memN]
  | x :: l => by simp [memN, memN_iff t l]

theorem pairsOK_get {anc : List Nat} : ∀ {l : List AOper} {k : Nat}, pairsOK anc k l = true → ∀ {i j : Nat} {x y : AOper}, i < j → l[i]? = some x → l[j]? = some y → okPair anc (k + i) x (k + j) y = true
  | [], _, _, i, j, x, y, _, h, _ => by simp at h
  | a :: l, k, h, i, j, x, y, hij, hx, hy => by
    simp only [pairsOK, Bool.and_eq_true] at h
    cases j with
    | zero => omega
    | succ j =>
      simp at hy
      cases i with
      | zero =>
        simp at hx; subst hx
        have := allIx_get h.1 hy
        rwa [show k + 1 + j = k + (j + 1) by omega] at this
      | succ i =>
        simp at hx
        have := pairsOK_get h.2 (show i < j by omega) hx hy
        rwa [show k + 1 + j = k + (j + 1) by omega, show k + 1 + i = k + (i + 1) by omega] at this

theorem preds_mem : ∀ (es : List Edge) (p : Nat), p ∈ preds es → ∃ e ∈ es, Region.binds .any e = true ∧ e.on = p
  | [], p, h => by simp [preds] at h
  | e :: es, p, h => by
    simp only [preds] at h
    split at h
    · rename_i hb
      rcases List.mem_cons.1 h with rfl | h
      · exact ⟨e, List.mem_cons_self, hb, rfl⟩
      · obtain ⟨e', h1, h2⟩ := preds_mem es p h
        exact ⟨e', List.mem_cons_of_mem _ h1, h2⟩
    · obtain ⟨e', h1, h2⟩ := preds_mem es p h
      exact ⟨e', List.mem_cons_of_mem _ h1, h2⟩

theorem preds_of : ∀ (es : List Edge) (e : Edge), e ∈ es → Region.binds .any e = true → e.on ∈ preds es
  | [], e, h, _ => by simp at h
  | x :: es, e, h, hb => by
    simp only [preds]
    rcases List.mem_cons.1 h with rfl | h
    · rw [if_pos hb]; exact List.mem_cons_self
    · split
      · exact List.mem_cons_of_mem _ (preds_of es e h hb)
      · exact preds_of es e h hb

theorem allBelow_get {i : Nat} : ∀ {l : List Nat}, allBelow i l = true → ∀ {p : Nat}, p ∈ l → p < i
  | [], _, p, h => by simp at h
  | x :: l, h, p, hp => by
    simp only [allBelow, Bool.and_eq_true, Nat.blt_eq] at h
    rcases List.mem_cons.1 hp with rfl | hp
    · exact h.1
    · exact allBelow_get h.2 hp

inductive Anc (ops : List Oper) : Nat → Nat → Prop
  | pred {p i : Nat} {o : Oper} : ops[i]? = some o → p ∈ preds o.after.toList → Anc ops p i
  | step {p q i : Nat} {o : Oper} : ops[i]? = some o → q ∈ preds o.after.toList → Anc ops p q → Anc ops p i

theorem maskOf_bit (acc : List Nat) (p : Nat) : ∀ ps, Nat.testBit (maskOf acc ps) p = true → ∃ q ∈ ps, p = q ∨ Nat.testBit (lget 0 acc q) p = true
  | [], h => by simp [maskOf] at h
  | q :: ps, h => by
    have e : maskOf acc (q :: ps) = ((1 <<< q) ||| lget 0 acc q) ||| maskOf acc ps := rfl
    rw [e, Nat.testBit_or, Nat.testBit_or] at h
    simp only [Bool.or_eq_true] at h
    rcases h with (h | h) | h
    · rw [Nat.testBit_shiftLeft] at h
      simp only [Bool.and_eq_true, decide_eq_true_eq, ge_iff_le] at h
      obtain ⟨h1, h2⟩ := h
      have : p - q = 0 := by
        cases hd : p - q with
        | zero => rfl
        | succ n => rw [hd, Nat.testBit_succ] at h2; simp at h2
      exact ⟨q, List.mem_cons_self, .inl (by omega)⟩
    · exact ⟨q, List.mem_cons_self, .inr h⟩
    · obtain ⟨q', h1, h2⟩ := maskOf_bit acc p ps h
      exact ⟨q', List.mem_cons_of_mem _ h1, h2⟩

theorem lget_append_lt {α : Type} (d : α) : ∀ (l m : List α) (i : Nat), i < l.length → lget d (l ++ m) i = lget d l i
  | [], m, i, h => by simp at h
  | a :: l, m, 0, h => rfl
  | a :: l, m, i + 1, h => by simp only [List.cons_append, lget]; exact lget_append_lt d l m i (by simpa using h)

theorem lget_append_end {α : Type} (d : α) (x : α) : ∀ (l : List α), lget d (l ++ [x]) l.length = x
  | [] => rfl
  | a :: l => by simp only [List.cons_append, List.length_cons, lget]; exact lget_append_end d x l

theorem lget_ge {α : Type} (d : α) : ∀ (l : List α) (i : Nat), l.length ≤ i → lget d l i = d
  | [], i, _ => by simp [lget]
  | a :: l, 0, h => by simp at h
  | a :: l, i + 1, h => by simp only [lget]; exact lget_ge d l i (by simpa using h)

theorem ancGo_anc (ops : List Oper) : ∀ (rest : List Oper) (acc : List Nat), ops.drop acc.length = rest → acc.length ≤ ops.length → (∀ i p, i < acc.length → before acc p i = true → Anc ops p i) →
    ∀ i p, before (ancGo acc rest) p i = true → Anc ops p i
  | [], acc, _, _, h, i, p, hb => by
    simp only [ancGo] at hb
    by_cases hi : i < acc.length
    · exact h i p hi hb
    · unfold before at hb
      rw [lget_ge 0 acc i (by omega)] at hb
      simp at hb
  | o :: rest, acc, hd, hle, h, i, p, hb => by
    have ho : ops[acc.length]? = some o := by
      have := congrArg (·[0]?) hd
      simpa using this
    have hlt : acc.length < ops.length := (List.getElem?_eq_some_iff.1 ho).1
    refine ancGo_anc ops rest (acc ++ [maskOf acc (preds o.after.toList)]) ?_ (by simp; omega) ?_ i p hb
    · have := congrArg (List.drop 1) hd
      simpa [List.drop_drop, Nat.add_comm] using this
    · intro i p hi hb
      unfold before at hb
      by_cases hi' : i < acc.length
      · rw [lget_append_lt 0 _ _ _ hi'] at hb
        exact h i p hi' hb
      · have e : i = acc.length := by simp at hi; omega
        subst e
        rw [lget_append_end] at hb
        obtain ⟨q, h1, h2⟩ := maskOf_bit acc p _ hb
        rcases h2 with rfl | h2
        · exact .pred ho h1
        · have hq : q < acc.length := by
            rcases Nat.lt_or_ge q acc.length with h3 | h3
            · exact h3
            · rw [lget_ge 0 acc q h3] at h2; simp at h2
          exact .step ho h1 (h q p hq h2)

theorem before_anc {ops : List Oper} {p i : Nat} (h : before (ancGo [] ops) p i = true) : Anc ops p i :=
  ancGo_anc ops ops [] (by simp) (by simp) (fun i p hi => by simp at hi) i p h

/-! ## The run in the text's order -/

/-- One operation of a run. -/
def StepD (call : CallH) (d : AOper) (l : List AVal) (hl : HL) (M : AMem) (v : AVal) (l' : List AVal) (hl' : HL) (M' : AMem) : Prop :=
  l' = putA l d.dst v ∧ ((wantedA l d.guard = true ∧ runAOp call d.op ⟨l, hl⟩ M = some (v, hl', M')) ∨ (wantedA l d.guard = false ∧ v = .undef ∧ hl' = hl ∧ M' = M))

def aheadF {α : Type} (x : α) (f : Nat → α) : Nat → α
  | 0 => x
  | n + 1 => f n

structure Trace (call : CallH) (ds : List AOper) (L : Nat → List AVal) (H : Nat → HL) (MM : Nat → AMem) (V : Nat → AVal) : Prop where
  step : ∀ i d, ds[i]? = some d → StepD call d (L i) (H i) (MM i) (V i) (L (i + 1)) (H (i + 1)) (MM (i + 1))

theorem runOpsD_trace {call : CallH} : ∀ (ds : List AOper) (fr : Fr) (M : AMem) (Ms0 : List AMem) (cs0 : List Chk) (fr' : Fr) (M' : AMem) (Ms : List AMem) (cs : List Chk),
    runOpsD call ds fr M Ms0 cs0 = some (fr', M', Ms, cs) → ∃ L H MM V, L 0 = fr.tmps ∧ H 0 = fr.hl ∧ MM 0 = M ∧ fr' = ⟨L ds.length, H ds.length⟩ ∧ M' = MM ds.length ∧ Trace call ds L H MM V ∧
      (∀ k, 1 ≤ k → k ≤ ds.length → Ms[ds.length - k]? = some (MM k)) ∧ (∀ j, Ms[ds.length + j]? = Ms0[j]?) ∧ Ms.length = ds.length + Ms0.length ∧ (∀ c ∈ cs0, c ∈ cs) ∧
      (∀ i d ro c at_, ds[i]? = some d → d.op = .r ro (c :: at_) → wantedA (L i) d.guard = true → (⟨ro, L i, V i, c :: at_⟩ : Chk) ∈ cs)
  | [], fr, M, Ms0, cs0, fr', M', Ms, cs, h => by
    simp only [runOpsD, Option.some.injEq, Prod.mk.injEq] at h
    obtain ⟨rfl, rfl, rfl, rfl⟩ := h
    exact ⟨fun _ => fr.tmps, fun _ => fr.hl, fun _ => M, fun _ => .undef, rfl, rfl, rfl, rfl, rfl, ⟨fun i d hd => by simp at hd⟩, fun k h1 h2 => by simp at h2; omega, fun j => by simp, by simp,
      fun c hc => hc, fun i d ro c at_ hd => by simp at hd⟩
  | d :: ds, fr, M, Ms0, cs0, fr', M', Ms, cs, h => by
    have main : ∀ (v : AVal) (hl1 : HL) (M1 : AMem) (cs1 : List Chk), StepD call d fr.tmps fr.hl M v (putA fr.tmps d.dst v) hl1 M1 → (∀ c ∈ cs0, c ∈ cs1) →
        (∀ ro c at_, d.op = .r ro (c :: at_) → wantedA fr.tmps d.guard = true → (⟨ro, fr.tmps, v, c :: at_⟩ : Chk) ∈ cs1) →
        runOpsD call ds ⟨putA fr.tmps d.dst v, hl1⟩ M1 (M1 :: Ms0) cs1 = some (fr', M', Ms, cs) →
        ∃ L H MM V, L 0 = fr.tmps ∧ H 0 = fr.hl ∧ MM 0 = M ∧ fr' = ⟨L (d :: ds).length, H (d :: ds).length⟩ ∧ M' = MM (d :: ds).length ∧ Trace call (d :: ds) L H MM V ∧
          (∀ k, 1 ≤ k → k ≤ (d :: ds).length → Ms[(d :: ds).length - k]? = some (MM k)) ∧ (∀ j, Ms[(d :: ds).length + j]? = Ms0[j]?) ∧ Ms.length = (d :: ds).length + Ms0.length ∧ (∀ c ∈ cs0, c ∈ cs) ∧
          (∀ i e ro c at_, (d :: ds)[i]? = some e → e.op = .r ro (c :: at_) → wantedA (L i) e.guard = true → (⟨ro, L i, V i, c :: at_⟩ : Chk) ∈ cs) := by
      intro v hl1 M1 cs1 hst hcs hro hr
      obtain ⟨L, H, MM, V, e1, e2, e3, e4, e5, tr, m1, m2, m3, c1, c2⟩ := runOpsD_trace ds _ _ _ _ _ _ _ _ hr
      refine ⟨aheadF fr.tmps L, aheadF fr.hl H, aheadF M MM, aheadF v V, rfl, rfl, rfl, by simpa [aheadF] using e4, by simpa [aheadF] using e5, ⟨fun i e he => ?_⟩, fun k h1 h2 => ?_, fun j => ?_, ?_, fun c hc => c1 c (hcs c hc), ?_⟩
      · cases i with
        | zero =>
          simp at he; subst he
          simp only [aheadF]
          rw [e1, e2, e3]; exact hst
        | succ i =>
          simp at he
          simp only [aheadF]
          exact tr.step i e he
      · simp only [List.length_cons] at h2 ⊢
        rcases Nat.lt_or_ge 1 k with h3 | h3
        · have := m1 (k - 1) (by omega) (by omega)
          rw [show ds.length + 1 - k = ds.length - (k - 1) by omega, this]
          cases k with
          | zero => omega
          | succ k => simp [aheadF]
        · have : k = 1 := by omega
          subst this
          have := m2 0
          simp only [Nat.add_zero, List.getElem?_cons_zero] at this
          rw [show ds.length + 1 - 1 = ds.length by omega, this]
          simp [aheadF, e3]
      · have := m2 (j + 1)
        simp only [List.getElem?_cons_succ] at this
        rw [List.length_cons, show ds.length + 1 + j = ds.length + (j + 1) by omega, this]
      · rw [m3]; simp; omega
      · intro i e ro c at_ he hop hw
        cases i with
        | zero =>
          simp at he; subst he
          simp only [aheadF] at hw ⊢
          exact c1 _ (hro ro c at_ hop hw)
        | succ i =>
          simp at he
          simp only [aheadF] at hw ⊢
          exact c2 i e ro c at_ he hop hw
    simp only [runOpsD] at h
    split at h
    · rename_i hw
      cases hr : runAOp call d.op fr M with
      | none => rw [hr] at h; cases h
      | some r =>
        obtain ⟨v, hl1, M1⟩ := r
        rw [hr] at h
        simp only at h
        refine main v hl1 M1 _ ⟨rfl, .inl ⟨hw, hr⟩⟩ ?_ ?_ h
        · intro c hc
          split
          · exact List.mem_cons_of_mem _ hc
          · exact hc
        · intro ro c at_ hop _
          rw [hop]
          exact List.mem_cons_self
    · rename_i hw
      refine main .undef fr.hl M cs0 ⟨rfl, .inr ⟨by simpa using hw, rfl, rfl, rfl⟩⟩ (fun c hc => hc) ?_ h
      intro ro c at_ _ hw'
      exact absurd hw' hw

end Go.Abs
end

/-
  Regions whose order is drawn: in each order they come to what the text's order comes to.
-/
section
namespace Go.Abs

section
variable {P : Program} {C : Cfg} {N : Nat} {ob : Bool} {call : CallH}

theorem cops_get {ops : List Oper} : ∀ {l : List Oper} {i : Nat}, (cops P C N ob ops l)[i]? = (l[i]?).map (coper P C N ob ops)
  | [], i => by simp [cops]
  | o :: l, 0 => by simp [cops]
  | o :: l, i + 1 => by simp only [cops, List.getElem?_cons_succ]; exact cops_get

theorem cops_length {ops : List Oper} : ∀ {l : List Oper}, (cops P C N ob ops l).length = l.length
  | [] => rfl
  | o :: l => by simp [cops, cops_length]

def atOf (anc : List Nat) (as : List AOper) (i : Nat) (a : AOper) : AOper := if isRead a.op then setAt (cands anc as i) a else a

theorem setAts_get {anc : List Nat} {as : List AOper} : ∀ {l : List AOper} {k i : Nat}, (setAts anc as k l)[i]? = (l[i]?).map (atOf anc as (k + i))
  | [], k, i => by simp [setAts]
  | a :: l, k, 0 => by simp [setAts, atOf]
  | a :: l, k, i + 1 => by
    simp only [setAts, List.getElem?_cons_succ]
    rw [setAts_get, show k + 1 + i = k + (i + 1) by omega]

theorem setAts_length {anc : List Nat} {as : List AOper} : ∀ {l : List AOper} {k : Nat}, (setAts anc as k l).length = l.length
  | [], _ => rfl
  | a :: l, k => by simp [setAts, setAts_length]

theorem atOf_spec (anc : List Nat) (as : List AOper) (i : Nat) (a : AOper) : (atOf anc as i a).dst = a.dst ∧ (atOf anc as i a).guard = a.guard ∧ (atOf anc as i a).looks = a.looks ∧ (atOf anc as i a).op.writes = a.op.writes ∧
    (∀ fr M, runAOp call (atOf anc as i a).op fr M = runAOp call a.op fr M) ∧ (∀ ro x, a.op = .r ro x → (atOf anc as i a).op = .r ro (cands anc as i)) ∧ (isRead a.op = false → (atOf anc as i a).op = a.op) := by
  obtain ⟨d, op, gd⟩ := a
  cases op <;> simp [atOf, isRead, setAt, AOper.looks, AOp.tmps, AOp.writes, runAOp]

theorem writerPos_mem : ∀ {l : List AOper} {k j : Nat} {x : AOper}, l[j]? = some x → x.op.writes = true → k + j + 1 ∈ writerPos k l
  | [], _, j, x, h, _ => by simp at h
  | a :: l, k, j, x, h, hw => by
    simp only [writerPos]
    cases j with
    | zero =>
      simp at h; subst h
      rw [if_pos hw]; exact List.mem_cons_self
    | succ j =>
      simp at h
      have := writerPos_mem (k := k + 1) h hw
      rw [show k + 1 + j + 1 = k + (j + 1) + 1 by omega] at this
      split
      · exact List.mem_cons_of_mem _ this
      · exact this

theorem filterN_mem {f : Nat → Bool} : ∀ {l : List Nat} {x : Nat}, x ∈ l → f x = true → x ∈ filterN f l
  | [], x, h, _ => by simp at h
  | y :: l, x, h, hf => by
    simp only [filterN]
    rcases List.mem_cons.1 h with rfl | h
    · rw [if_pos hf]; exact List.mem_cons_self
    · split
      · exact List.mem_cons_of_mem _ (filterN_mem h hf)
      · exact filterN_mem h hf

theorem allIx_of {α : Type} {f : Nat → α → Bool} : ∀ {l : List α} {k : Nat}, (∀ j x, l[j]? = some x → f (k + j) x = true) → allIx f k l = true
  | [], _, _ => rfl
  | a :: l, k, h => by
    simp only [allIx, Bool.and_eq_true]
    refine ⟨by simpa using h 0 a rfl, allIx_of fun j x hx => ?_⟩
    have := h (j + 1) x (by simpa using hx)
    rwa [show k + (j + 1) = k + 1 + j by omega] at this

/-- The state behind the last writer ahead of k. -/
theorem rep_exists (as : List AOper) : ∀ k, k ≤ as.length → ∃ r, r ∈ 0 :: writerPos 0 as ∧ r ≤ k ∧ ∀ (j : Nat) x, as[j]? = some x → x.op.writes = true → j < k → j < r
  | 0, _ => ⟨0, List.mem_cons_self, Nat.le_refl _, fun j x _ _ h => by omega⟩
  | k + 1, hk => by
    obtain ⟨r, h1, h2, h3⟩ := rep_exists as k (by omega)
    cases hw : as[k]? with
    | none => simp at hw; omega
    | some x =>
      cases hx : x.op.writes with
      | true =>
        refine ⟨k + 1, List.mem_cons_of_mem _ ?_, Nat.le_refl _, fun j y _ _ h => h⟩
        have := writerPos_mem (k := 0) hw hx
        simpa using this
      | false =>
        refine ⟨r, h1, by omega, fun j y hy hyw hj => ?_⟩
        rcases Nat.lt_or_ge j k with hlt | hge
        · exact h3 j y hy hyw hlt
        · have : j = k := by omega
          subst this
          rw [hw] at hy; injection hy with hy; subst hy
          rw [hx] at hyw; cases hyw

theorem moreThanOne_nil {l : List Nat} (h : moreThanOne l = []) {x y : Nat} (hx : x ∈ l) (hy : y ∈ l) : x = y := by
  match l, h with
  | [], _ => simp at hx
  | [z], _ => simp at hx hy; rw [hx, hy]
  | a :: b :: l, h => simp [moreThanOne] at h

theorem moreThanOne_mem {l : List Nat} {x : Nat} (h : moreThanOne l ≠ []) (hx : x ∈ l) : x ∈ moreThanOne l := by
  match l, h with
  | [], h => simp [moreThanOne] at h
  | [z], h => simp [moreThanOne] at h
  | a :: b :: l, _ => exact hx

end

/-- What the tests at compile time say of a region. -/
structure Orderly (ops : List Oper) (as ds : List AOper) (anc : List Nat) : Prop where
  len : as.length = ops.length
  dlen : ds.length = ops.length
  at_ : ∀ i : Nat, ds[i]? = (as[i]?).map (atOf anc as i)
  before_ : ∀ p i, before anc p i = true → Anc ops p i
  pairs : pairsOK anc 0 as = true
  preds : ∀ (i : Nat) o, ops[i]? = some o → ∀ p ∈ preds o.after.toList, p < i

theorem Orderly.of {P : Program} {C : Cfg} {N : Nat} {ob : Bool} {ops : List Oper} (h1 : predsOK ops = true) (h2 : pairsOK (ancGo [] ops) 0 (cops P C N ob ops ops) = true) :
    Orderly ops (cops P C N ob ops ops) (setAts (ancGo [] ops) (cops P C N ob ops ops) 0 (cops P C N ob ops ops)) (ancGo [] ops) where
  len := cops_length
  dlen := by rw [setAts_length, cops_length]
  at_ i := by rw [setAts_get, Nat.zero_add]
  before_ p i h := before_anc h
  pairs := h2
  preds i o ho p hp := by
    have := allIx_get h1 ho
    rw [Nat.zero_add] at this
    exact allBelow_get this hp

section
variable {ops : List Oper} {as ds : List AOper} {anc : List Nat} {call : CallH} {L : Nat → List AVal} {H : Nat → HL} {MM : Nat → AMem} {V : Nat → AVal}

theorem Orderly.get (ord : Orderly ops as ds anc) {i : Nat} {d : AOper} (h : ds[i]? = some d) : ∃ a, as[i]? = some a ∧ d = atOf anc as i a := by
  rw [ord.at_] at h
  cases ha : as[i]? with
  | none => rw [ha] at h; cases h
  | some a => rw [ha] at h; simp only [Option.map_some, Option.some.injEq] at h; exact ⟨a, rfl, h.symm⟩

theorem Orderly.pair (ord : Orderly ops as ds anc) {i j : Nat} {x y : AOper} (hij : i < j) (hx : ds[i]? = some x) (hy : ds[j]? = some y) :
    (∀ t, x.dst = some t → y.dst = some t → Anc ops i j) ∧ (x.op.writes = true → y.op.writes = true → Anc ops i j) ∧ (∀ t, x.dst = some t → t ∈ y.looks → Anc ops i j) ∧ (∀ t, y.dst = some t → t ∈ x.looks → Anc ops i j) := by
  obtain ⟨a, ha, rfl⟩ := ord.get hx
  obtain ⟨b, hb, rfl⟩ := ord.get hy
  obtain ⟨a1, _, a3, a4, _⟩ := atOf_spec (call := fun _ _ _ => none) anc as i a
  obtain ⟨b1, _, b3, b4, _⟩ := atOf_spec (call := fun _ _ _ => none) anc as j b
  rw [a1, a3, a4, b1, b3, b4]
  have h := pairsOK_get ord.pairs hij ha hb
  rw [Nat.zero_add, Nat.zero_add] at h
  simp only [okPair, Bool.or_eq_true, Bool.not_eq_true', Bool.or_eq_false_iff] at h
  refine ⟨fun t e1 e2 => ?_, fun e1 e2 => ?_, fun t e1 e2 => ?_, fun t e1 e2 => ?_⟩
  · rcases h with ⟨⟨⟨h, _⟩, _⟩, _⟩ | h
    · rw [e1, e2] at h
      simp [sameDst] at h
    · exact ord.before_ _ _ h
  · rcases h with ⟨⟨⟨_, h⟩, _⟩, _⟩ | h
    · rw [e1, e2] at h; cases h
    · exact ord.before_ _ _ h
  · rcases h with ⟨⟨_, h⟩, _⟩ | h
    · rw [e1] at h
      simp only [sees] at h
      rw [(memN_iff t _).2 e2] at h; cases h
    · exact ord.before_ _ _ h
  · rcases h with ⟨_, h⟩ | h
    · rw [e1] at h
      simp only [sees] at h
      rw [(memN_iff t _).2 e2] at h; cases h
    · exact ord.before_ _ _ h

theorem Anc.lt (ord : Orderly ops as ds anc) {p i : Nat} (h : Anc ops p i) : p < i := by
  induction h with
  | pred ho hp => exact ord.preds _ _ ho _ hp
  | step ho hq _ ih => exact Nat.lt_trans ih (ord.preds _ _ ho _ hq)

theorem Anc.done {S : Nat → Prop} (hD : ∀ i o, ops[i]? = some o → S i → ∀ p ∈ preds o.after.toList, S p) {p i : Nat} (h : Anc ops p i) (hi : S i ∨ ∀ o, ops[i]? = some o → ∀ p ∈ preds o.after.toList, S p) : S p := by
  induction h with
  | pred ho hp =>
    rcases hi with hi | hi
    · exact hD _ _ ho hi _ hp
    · exact hi _ ho _ hp
  | step ho hq _ ih =>
    refine ih (.inl ?_)
    rcases hi with hi | hi
    · exact hD _ _ ho hi _ hq
    · exact hi _ ho _ hq

theorem putA_get {l : List AVal} {d : Option Nat} {v : AVal} {t : Nat} : lget .undef (putA l d v) t = if d = some t then v else lget .undef l t := by
  cases d with
  | none => simp [putA]
  | some s =>
    simp only [putA, lget_lset, Option.some.injEq]

/-- The tmps of the text's run: each is as its last writer left it. -/
theorem trace_tmps (tr : Trace call ds L H MM V) : ∀ i, i ≤ ds.length → ∀ t,
    (∀ j d, j < i → ds[j]? = some d → d.dst = some t → (∀ j' d', j' < i → ds[j']? = some d' → d'.dst = some t → j' ≤ j) → lget .undef (L i) t = V j) ∧
    ((∀ j d, j < i → ds[j]? = some d → d.dst ≠ some t) → lget .undef (L i) t = lget .undef (L 0) t)
  | 0, _, t => ⟨fun j d h => by omega, fun _ => rfl⟩
  | i + 1, hi, t => by
    obtain ⟨h1, h2⟩ := trace_tmps tr i (by omega) t
    have hd : ds[i]? = some ds[i] := List.getElem?_eq_getElem (by omega)
    obtain ⟨e, _⟩ := tr.step i _ hd
    rw [e]
    refine ⟨fun j d hj hjd hdt hmax => ?_, fun hall => ?_⟩
    · rw [putA_get]
      by_cases hx : ds[i].dst = some t
      · have : i ≤ j := hmax i _ (by omega) hd hx
        have : j = i := by omega
        subst this
        rw [if_pos hx]
      · rw [if_neg hx]
        have hne : j ≠ i := fun h => by
          subst h
          rw [hjd] at hd; injection hd with hd
          exact hx (by rw [← hd]; exact hdt)
        exact h1 j d (by omega) hjd hdt (fun j' d' hlt hj' hd' => hmax j' d' (by omega) hj' hd')
    · rw [putA_get, if_neg (hall i _ (by omega) hd)]
      exact h2 (fun j d hj hjd => hall j d (by omega) hjd)

/-- The last of those below n. -/
theorem last_of {p : Nat → Prop} : ∀ n, (∃ j, j < n ∧ p j) → ∃ j, j < n ∧ p j ∧ ∀ j', j' < n → p j' → j' ≤ j
  | 0, ⟨j, h, _⟩ => by omega
  | n + 1, ⟨j, h, hp⟩ => by
    by_cases hn : p n
    · exact ⟨n, by omega, hn, fun j' h' _ => by omega⟩
    · have hj : j < n := by
        rcases Nat.lt_or_ge j n with h1 | h1
        · exact h1
        · have : j = n := by omega
          subst this; exact absurd hp hn
      obtain ⟨k, h1, h2, h3⟩ := last_of n ⟨j, hj, hp⟩
      refine ⟨k, by omega, h2, fun j' h' hp' => ?_⟩
      rcases Nat.lt_or_ge j' n with h4 | h4
      · exact h3 j' h4 hp'
      · have : j' = n := by omega
        subst this; exact absurd hp' hn

/-- No writer between: the same memory. -/
theorem trace_still (tr : Trace call ds L H MM V) {r : Nat} : ∀ k, r ≤ k → k ≤ ds.length → (∀ j d, ds[j]? = some d → d.op.writes = true → r ≤ j → k ≤ j) → H k = H r ∧ MM k = MM r
  | 0, h, _, _ => by
    have : r = 0 := by omega
    subst this; exact ⟨rfl, rfl⟩
  | k + 1, h, hk, hno => by
    rcases Nat.lt_or_ge k r with hlt | hge
    · have : r = k + 1 := by omega
      subst this; exact ⟨rfl, rfl⟩
    · have hd : ds[k]? = some ds[k] := List.getElem?_eq_getElem (by omega)
      obtain ⟨_, hs⟩ := tr.step k _ hd
      have hw : ds[k].op.writes = false := by
        cases hw : ds[k].op.writes with
        | false => rfl
        | true => have := hno k _ hd hw hge; omega
      obtain ⟨e1, e2⟩ := trace_still tr k hge (by omega) (fun j d hjd hjw hj => by have := hno j d hjd hjw hj; omega)
      rcases hs with ⟨_, hs⟩ | ⟨_, _, h3, h4⟩
      · obtain ⟨h3, h4⟩ := runAOp_still hw hs
        exact ⟨h3.trans e1, h4.trans e2⟩
      · exact ⟨h3.trans e1, h4.trans e2⟩

/-- Where the writers that are done end. -/
def Pos (ds : List AOper) (S : Nat → Prop) (k : Nat) : Prop := k ≤ ds.length ∧ ∀ j d, ds[j]? = some d → d.op.writes = true → (j < k ↔ S j)

theorem Pos.same (tr : Trace call ds L H MM V) {S : Nat → Prop} {k k' : Nat} (h : Pos ds S k) (h' : Pos ds S k') : H k = H k' ∧ MM k = MM k' := by
  have key : ∀ {k k' : Nat}, Pos ds S k → Pos ds S k' → k' ≤ k → H k = H k' ∧ MM k = MM k' := by
    intro k k' h h' hle
    refine trace_still tr k hle h.1 fun j d hjd hjw hj => ?_
    rcases Nat.lt_or_ge j k with hlt | hge
    · have := (h'.2 j d hjd hjw).2 ((h.2 j d hjd hjw).1 hlt); omega
    · exact hge
  rcases Nat.le_total k k' with hle | hle
  · obtain ⟨e1, e2⟩ := key h' h hle
    exact ⟨e1.symm, e2.symm⟩
  · exact key h h' hle

end
end Go.Abs
end

/-
  Regions whose order is drawn: the proof.
-/
section
namespace Go.Abs

/-- So many are done, and all stands as the text's run tells. -/
def Inv (C : Cfg) (ds : List AOper) (L : Nat → List AVal) (H : Nat → HL) (MM : Nat → AMem) (V : Nat → AVal) (g0 : G) (a0 : Act) (S : Nat → Prop) (a : Act) (w : World) : Prop :=
  ∃ g k lS, Pos ds S k ∧ GLe g0 (MM 0).hw (H 0) g (MM k).hw (H k) ∧ SRel C g (MM k) (H k) w lS a.tmps ∧ (∀ (j : Nat) d t, ds[j]? = some d → S j → d.dst = some t → (∀ (j' : Nat) d', ds[j']? = some d' → S j' → d'.dst = some t → j' ≤ j) → lget .undef lS t = V j) ∧
    (∀ t, (∀ (j : Nat) d, ds[j]? = some d → S j → d.dst ≠ some t) → lget .undef lS t = lget .undef (L 0) t) ∧ a.tmps.size = a0.tmps.size ∧ a.defers = a0.defers ∧ g.res = g0.res ∧ g.w0 = g0.w0

section
variable {P : Program} {C : Cfg} {N : Nat} {ob : Bool} {call : CallH} {ops : Array Oper} {as ds : List AOper} {anc : List Nat} {L : Nat → List AVal} {H : Nat → HL} {MM : Nat → AMem} {V : Nat → AVal} {g0 : G} {a0 : Act}
  {Q : Exit → Act → World → Prop} {S : Nat → Prop} {k : Nat}

theorem coper_dst (l : List Oper) (o : Oper) : (coper P C N ob l o).dst = o.dst := by
  unfold coper
  split <;> rfl

/-- A reading operation answers the same wherever it may come to stand. -/
theorem read_any (ord : Orderly ops.toList as ds anc) (tr : Trace call ds L H MM V) {S : Nat → Prop} {k i : Nat} (hpos : Pos ds S k) {a : AOper} (ha : as[i]? = some a) {ro : ReadOp} {x : List Nat} (_hop : a.op = .r ro x)
    (hin : ∀ p, Anc ops.toList p i → S p) (hout : ∀ p, Anc ops.toList i p → ¬ S p) (hrun : ro.run (MM i) (Opd.ev (L i)) = some (V i))
    (hchk : ∀ m ∈ cands anc as i, m ≤ ds.length → ro.run (MM m) (Opd.ev (L i)) = some (V i)) : ro.run (MM k) (Opd.ev (L i)) = some (V i) := by
  have hwr : ∀ (j : Nat) (b : AOper), as[j]? = some b → b.op.writes = true → ∃ d, ds[j]? = some d ∧ d.op.writes = true := by
    intro j b hb hw
    refine ⟨atOf anc as j b, by rw [ord.at_, hb]; rfl, ?_⟩
    rw [(atOf_spec (call := call) anc as j b).2.2.2.1]; exact hw
  have hwr' : ∀ (j : Nat) (d : AOper), ds[j]? = some d → d.op.writes = true → ∃ b, as[j]? = some b ∧ b.op.writes = true := by
    intro j d hd hw
    obtain ⟨b, hb, rfl⟩ := ord.get hd
    rw [(atOf_spec (call := call) anc as j b).2.2.2.1] at hw
    exact ⟨b, hb, hw⟩
  have hi : i < as.length := (List.getElem?_eq_some_iff.1 ha).1
  have hlen : as.length = ds.length := ord.len.trans ord.dlen.symm
  obtain ⟨r, r1, r2, r3⟩ := rep_exists as k (by rw [hlen]; exact hpos.1)
  obtain ⟨q, q1, q2, q3⟩ := rep_exists as i (by omega)
  have same_r : MM k = MM r := (trace_still tr k r2 hpos.1 fun j d hd hw hj => by
    obtain ⟨b, hb, hbw⟩ := hwr' j d hd hw
    rcases Nat.lt_or_ge j k with hlt | hge
    · have := r3 j b hb hbw hlt; omega
    · exact hge).2
  have same_q : MM i = MM q := (trace_still tr i q2 (by omega) fun j d hd hw hj => by
    obtain ⟨b, hb, hbw⟩ := hwr' j d hd hw
    rcases Nat.lt_or_ge j i with hlt | hge
    · have := q3 j b hb hbw hlt; omega
    · exact hge).2
  have cr : candOK anc as i r = true := by
    refine allIx_of fun j b hb => ?_
    rw [Nat.zero_add]
    cases hw : b.op.writes with
    | false => simp
    | true =>
      obtain ⟨d, hd, hdw⟩ := hwr j b hb hw
      have h1 : before anc j i = true → j < r := fun h => r3 j b hb hw ((hpos.2 j d hd hdw).2 (hin j (ord.before_ _ _ h)))
      have h2 : before anc i j = true → r ≤ j := fun h => by
        rcases Nat.lt_or_ge j r with hlt | hge
        · exact absurd ((hpos.2 j d hd hdw).1 (by omega)) (hout j (ord.before_ _ _ h))
        · exact hge
      cases e1 : before anc j i <;> cases e2 : before anc i j <;> simp [Nat.blt_eq] <;> first | exact h1 e1 | exact h2 e2 | exact ⟨h1 e1, h2 e2⟩ | skip
  have cq : candOK anc as i q = true := by
    refine allIx_of fun j b hb => ?_
    rw [Nat.zero_add]
    cases hw : b.op.writes with
    | false => simp
    | true =>
      have h1 : before anc j i = true → j < q := fun h => q3 j b hb hw (Anc.lt ord (ord.before_ _ _ h))
      have h2 : before anc i j = true → q ≤ j := fun h => by have := Anc.lt ord (ord.before_ _ _ h); omega
      cases e1 : before anc j i <;> cases e2 : before anc i j <;> simp [Nat.blt_eq] <;> first | exact h1 e1 | exact h2 e2 | exact ⟨h1 e1, h2 e2⟩ | skip
  have mr := filterN_mem r1 cr
  have mq := filterN_mem q1 cq
  by_cases hnil : moreThanOne (filterN (candOK anc as i) (0 :: writerPos 0 as)) = []
  · have := moreThanOne_nil hnil mr mq
    rw [same_r, this, ← same_q]; exact hrun
  · have hm := moreThanOne_mem hnil mr
    rw [same_r]
    exact hchk r hm (Nat.le_trans r2 hpos.1)

/-- The tmps behind one more. -/
theorem inv_tmps (ord : Orderly ops.toList as ds anc) {S : Nat → Prop} {i : Nat} {d : AOper} {lS : List AVal} (hd : ds[i]? = some d) (anc_out : ∀ p, Anc ops.toList i p → ¬ S p)
    (v1 : ∀ (j : Nat) d t, ds[j]? = some d → S j → d.dst = some t → (∀ (j' : Nat) d', ds[j']? = some d' → S j' → d'.dst = some t → j' ≤ j) → lget .undef lS t = V j)
    (v2 : ∀ t, (∀ (j : Nat) d, ds[j]? = some d → S j → d.dst ≠ some t) → lget .undef lS t = lget .undef (L 0) t) :
    (∀ (j : Nat) d' t, ds[j]? = some d' → (S j ∨ j = i) → d'.dst = some t → (∀ (j' : Nat) d'', ds[j']? = some d'' → (S j' ∨ j' = i) → d''.dst = some t → j' ≤ j) → lget .undef (putA lS d.dst (V i)) t = V j) ∧
    (∀ t, (∀ (j : Nat) d', ds[j]? = some d' → (S j ∨ j = i) → d'.dst ≠ some t) → lget .undef (putA lS d.dst (V i)) t = lget .undef (L 0) t) := by
  refine ⟨?_, ?_⟩
  · intro j d' t hj hS hdt hmax
    rw [putA_get]
    by_cases ho' : d.dst = some t
    · rw [if_pos ho']
      have hle : i ≤ j := hmax i _ hd (.inr rfl) ho'
      rcases hS with hS | rfl
      · rcases Nat.lt_or_ge i j with hlt | hge
        · exact absurd hS (anc_out _ ((ord.pair hlt hd hj).1 t ho' hdt))
        · have : j = i := by omega
          subst this; rfl
      · rfl
    · rw [if_neg ho']
      rcases hS with hS | rfl
      · exact v1 j d' t hj hS hdt (fun j' d'' hj' hS' hd' => hmax j' d'' hj' (.inl hS') hd')
      · rw [hd] at hj; injection hj with hj; subst hj
        exact absurd hdt ho'
  · intro t hall
    rw [putA_get, if_neg (fun h => hall i _ hd (.inr rfl) h)]
    exact v2 t (fun j d hj hS => hall j d hj (.inl hS))

theorem pos_still (hpos : Pos ds S k) {i : Nat} {d : AOper} (hd : ds[i]? = some d) (hw : d.op.writes = false) : Pos ds (fun j => S j ∨ j = i) k := by
  refine ⟨hpos.1, fun j d' hj hjw => ?_⟩
  have hne : j ≠ i := fun h => by subst h; rw [hd] at hj; injection hj with hj; subst hj; rw [hw] at hjw; cases hjw
  rw [hpos.2 j d' hj hjw]
  exact ⟨.inl, fun h => h.resolve_right hne⟩

theorem pos_write (ord : Orderly ops.toList as ds anc) {S : Nat → Prop} {i : Nat} {d : AOper} (hd : ds[i]? = some d) (hi : ¬ S i) (anc_in : ∀ p, Anc ops.toList p i → S p) (anc_out : ∀ p, Anc ops.toList i p → ¬ S p)
    (hw : d.op.writes = true) : Pos ds S i ∧ Pos ds (fun j => S j ∨ j = i) (i + 1) := by
  have hilt : i < ds.length := (List.getElem?_eq_some_iff.1 hd).1
  have key : ∀ (j : Nat) (d' : AOper), ds[j]? = some d' → d'.op.writes = true → (j < i ↔ S j) := by
    intro j d' hj hjw
    rcases Nat.lt_trichotomy j i with h | h | h
    · exact ⟨fun _ => anc_in _ ((ord.pair h hj hd).2.1 hjw hw), fun _ => h⟩
    · subst h; exact ⟨fun h => by omega, fun h => absurd h hi⟩
    · exact ⟨fun h' => by omega, fun h' => absurd h' (anc_out _ ((ord.pair h hd hj).2.1 hw hjw))⟩
  refine ⟨⟨by omega, key⟩, ⟨by omega, fun j d' hj hjw => ?_⟩⟩
  show j < i + 1 ↔ (S j ∨ j = i)
  rw [← key j d' hj hjw]
  omega

/-- What the operation looks at is as the text's run has it. -/
theorem inv_agree (ord : Orderly ops.toList as ds anc) (tr : Trace call ds L H MM V) {S : Nat → Prop} {i : Nat} {d : AOper} {lS : List AVal} (hd : ds[i]? = some d) (hi : ¬ S i) (anc_in : ∀ p, Anc ops.toList p i → S p)
    (anc_out : ∀ p, Anc ops.toList i p → ¬ S p)
    (v1 : ∀ (j : Nat) d t, ds[j]? = some d → S j → d.dst = some t → (∀ (j' : Nat) d', ds[j']? = some d' → S j' → d'.dst = some t → j' ≤ j) → lget .undef lS t = V j)
    (v2 : ∀ t, (∀ (j : Nat) d, ds[j]? = some d → S j → d.dst ≠ some t) → lget .undef lS t = lget .undef (L 0) t) : ∀ t ∈ d.looks, lget .undef lS t = lget .undef (L i) t := by
  intro t ht
  have hilt : i < ds.length := (List.getElem?_eq_some_iff.1 hd).1
  obtain ⟨k1, k2⟩ := trace_tmps tr i (by omega) t
  -- who writes it and is done: who is ahead of i
  have done_iff : ∀ (j : Nat) x, ds[j]? = some x → x.dst = some t → (S j ↔ j < i) := by
    intro j x hj hx
    rcases Nat.lt_trichotomy j i with h | h | h
    · exact ⟨fun _ => h, fun _ => anc_in _ ((ord.pair h hj hd).2.2.1 t hx ht)⟩
    · subst h; exact ⟨fun h => absurd h hi, fun h => by omega⟩
    · exact ⟨fun h' => absurd h' (anc_out _ ((ord.pair h hd hj).2.2.2 t hx ht)), fun h' => by omega⟩
  by_cases hex : ∃ j, j < i ∧ ∃ x, ds[j]? = some x ∧ x.dst = some t
  · obtain ⟨j, hji, ⟨x, hj, hx⟩, hmax⟩ := last_of i hex
    rw [v1 j x t hj ((done_iff j x hj hx).2 hji) hx (fun j' x' hj' hS' hx' => hmax j' ((done_iff j' x' hj' hx').1 hS') ⟨x', hj', hx'⟩),
      k1 j x hji hj hx (fun j' x' hlt hj' hx' => hmax j' hlt ⟨x', hj', hx'⟩)]
  · rw [v2 t (fun j x hj hS hx => hex ⟨j, (done_iff j x hj hx).1 hS, x, hj, hx⟩), k2 (fun j x hlt hj hx => hex ⟨j, hlt, x, hj, hx⟩)]

theorem draw_step (hcall : ∀ f, FOK P C f (call f)) (ord : Orderly ops.toList as ds anc) (tr : Trace call ds L H MM V) (hP : g0.P = P) (hN : N ≤ a0.tmps.size)
    (hchk : ∀ (i : Nat) d ro at_, ds[i]? = some d → d.op = .r ro at_ → wantedA (L i) d.guard = true → ∀ m ∈ at_, m ≤ ds.length → ro.run (MM m) (Opd.ev (L i)) = some (V i))
    {K : Act → World → Prop} {S : Nat → Prop} {i : Nat} {o : Oper} (ho : ops[i]? = some o) (ha : as[i]? = some (coper P C N ob ops.toList o)) (hi : ¬ S i) (hp : ∀ p ∈ preds o.after.toList, S p)
    (hD : ∀ i o, ops.toList[i]? = some o → S i → ∀ p ∈ preds o.after.toList, S p)
    {a : Act} {w : World} (inv : Inv C ds L H MM V g0 a0 S a w) (hK : ∀ a' w', Inv C ds L H MM V g0 a0 (fun j => S j ∨ j = i) a' w' → (∃ v, a' = a.put o.dst v) → K a' w') : wpOp P ops Q i K a w := by
  obtain ⟨g, k, lS, hpos, le, s, v1, v2, z1, z2, z3, z4⟩ := inv
  have hol : ops.toList[i]? = some o := by rw [Array.getElem?_toList]; exact ho
  have anc_in : ∀ p, Anc ops.toList p i → S p := fun p h => h.done hD (.inr fun o' ho' p hp' => by rw [hol] at ho'; injection ho' with ho'; subst ho'; exact hp p hp')
  have anc_out : ∀ p, Anc ops.toList i p → ¬ S p := fun p h hp => hi (h.done hD (.inl hp))
  have hd : ds[i]? = some (atOf anc as i (coper P C N ob ops.toList o)) := by rw [ord.at_, ha]; rfl
  have hilt : i < ds.length := (List.getElem?_eq_some_iff.1 hd).1
  obtain ⟨c1, c2, c3, c4, c5, c6, c7⟩ := atOf_spec (call := call) anc as i (coper P C N ob ops.toList o)
  rw [coper_dst] at c1
  obtain ⟨t1, t2⟩ := tr.step i _ hd
  -- the operands
  have agree := inv_agree ord tr hd hi anc_in anc_out v1 v2
  have agreeOp : ∀ t ∈ (atOf anc as i (coper P C N ob ops.toList o)).op.tmps, lget .undef lS t = lget .undef (L i) t := by
    intro t ht
    refine agree t ?_
    unfold AOper.looks
    split
    · exact ht
    · exact List.mem_cons_of_mem _ ht
  -- what comes behind
  have done : ∀ (v : Value) (w' : World) (g' : G) (k' : Nat), Pos ds (fun j => S j ∨ j = i) k' → GLe g (MM k).hw (H k) g' (MM k').hw (H k') → SRel C g' (MM k') (H k') w' lS a.tmps → VRel g' (MM k').hw (H k') (V i) v →
      g'.res = g.res → g'.w0 = g.w0 → K (a.put o.dst v) w' := by
    intro v w' g' k' hpos' le' s' hv h1 h2
    obtain ⟨u1, u2⟩ := inv_tmps (L := L) ord hd anc_out v1 v2
    rw [c1] at u1 u2
    exact hK _ _ ⟨g', k', putA lS o.dst (V i), hpos', le.trans le', s'.put hv o.dst, u1, u2, (Act.put_size _ _ _).trans z1, (Act.put_defers' _ _ _).trans z2, h1.trans z3, h2.trans z4⟩ ⟨v, rfl⟩
  have posN : (atOf anc as i (coper P C N ob ops.toList o)).op.writes = false → Pos ds (fun j => S j ∨ j = i) k := fun hw => pos_still hpos hd hw
  have posW : (atOf anc as i (coper P C N ob ops.toList o)).op.writes = true → Pos ds S i ∧ Pos ds (fun j => S j ∨ j = i) (i + 1) := fun hw => pos_write ord hd hi anc_in anc_out hw
  have hgP : g.P = P := le.P.trans hP
  have hN' : N ≤ a.tmps.size := by rw [z1]; exact hN
  unfold wpOp
  simp only [ho]
  -- the guard
  cases hg : cguard N ops.toList o.guard with
  | none =>
    exfalso
    have e : coper P C N ob ops.toList o = ⟨o.dst, .fail, none⟩ := by simp [coper, hg]
    rcases t2 with ⟨_, h⟩ | ⟨h, _⟩
    · rw [c5, e] at h; cases h
    · rw [c2, e] at h; cases h
  | some gd =>
    have e : coper P C N ob ops.toList o = ⟨o.dst, orFail (cop P C N ob o.op), gd⟩ := by simp [coper, hg]
    have eg : (atOf anc as i (coper P C N ob ops.toList o)).guard = gd := by rw [c2, e]
    have hwant : wantedA lS gd = wantedA (L i) gd := by
      cases gd with
      | none => rfl
      | some tb =>
        obtain ⟨t, b⟩ := tb
        simp only [wantedA]
        rw [agree t (by unfold AOper.looks; rw [eg]; exact List.mem_cons_self)]
    rw [← wanted_sound s hN' hg, hwant]
    rcases t2 with ⟨hw, hrun⟩ | ⟨hw, hv, hh, hm⟩
    · rw [eg] at hw
      rw [if_pos hw]
      left
      have fin : ∀ (hl2 : HL) (M2 : AMem) (k' : Nat), runAOp call (coper P C N ob ops.toList o).op ⟨lS, H k⟩ (MM k) = some (V i, hl2, M2) → hl2 = H k' → M2 = MM k' → Pos ds (fun j => S j ∨ j = i) k' → o.wp P a w K Q := by
        intro hl2 M2 k' hr e1 e2 hpos'
        subst e1 e2
        rw [e] at hr
        obtain ⟨ao, hc, hr⟩ := cop_of_orFail hr
        exact oper_sound hcall s hgP hN' hc hr K Q (fun v w' g' hv le' s' h1 h2 => done v w' g' k' hpos' le' s' hv h1 h2)
      cases hwr : (atOf anc as i (coper P C N ob ops.toList o)).op.writes with
      | true =>
        obtain ⟨p1, p2⟩ := posW hwr
        obtain ⟨e1, e2⟩ := Pos.same tr hpos p1
        refine fin _ _ (i + 1) ?_ rfl rfl p2
        rw [← c5, aop_congr agreeOp, e1, e2]
        exact hrun
      | false =>
        refine fin (H k) (MM k) k ?_ rfl rfl (posN hwr)
        rw [← c5, aop_congr agreeOp]
        rw [c5] at hrun ⊢
        rw [c4] at hwr
        cases hop : (coper P C N ob ops.toList o).op with
        | p po =>
          rw [hop] at hrun
          obtain ⟨h, _, _⟩ := runP hrun
          simp only [runAOp, h, Option.map_some]
        | r ro x =>
          rw [hop] at hrun
          obtain ⟨h, _, _⟩ := runR hrun
          have := read_any ord tr hpos ha hop anc_in anc_out h (fun m hm hle => hchk i _ ro _ hd (c6 ro x hop) (by rw [eg]; exact hw) m hm hle)
          simp only [runAOp, this, Option.map_some]
        | skip =>
          rw [hop] at hrun
          simp only [runAOp, Option.some.injEq, Prod.mk.injEq] at hrun
          simp only [runAOp, hrun.1]
        | fail => rw [hop] at hrun; cases hrun
        | _ => rw [hop] at hwr; simp [AOp.writes] at hwr
    · rw [eg] at hw
      rw [if_neg (by rw [hw]; simp)]
      cases hwr : (atOf anc as i (coper P C N ob ops.toList o)).op.writes with
      | true =>
        obtain ⟨p1, p2⟩ := posW hwr
        obtain ⟨e1, e2⟩ := Pos.same tr hpos p1
        refine done undef w g (i + 1) p2 ?_ ?_ (by rw [hv]; exact VRel_undef) rfl rfl
        · rw [hh, hm, ← e1, ← e2]; exact GLe.refl _ _ _
        · rw [hh, hm, ← e1, ← e2]; exact s
      | false => exact done undef w g k (posN hwr) (GLe.refl _ _ _) s (by rw [hv]; exact VRel_undef) rfl rfl

end
end Go.Abs
end

/-
  Regions whose order is drawn: all of one.
-/
section
namespace Go.Abs

def isDone (listed : Array Bool) (j : Nat) : Prop := listed.getD j false = true

def leftOf (n : Nat) (listed : Array Bool) : Nat := ((List.range n).filter fun i => !listed.getD i true).length

theorem filter_lt {p q : Nat → Bool} {i : Nat} : ∀ (l : List Nat), (∀ x, q x = true → p x = true) → i ∈ l → p i = true → q i = false → (l.filter q).length < (l.filter p).length
  | [], _, h, _, _ => by simp at h
  | x :: l, hpq, hi, hp, hq => by
    have hle : ∀ (l : List Nat), (l.filter q).length ≤ (l.filter p).length := by
      intro l
      induction l with
      | nil => simp
      | cons y l ih =>
        simp only [List.filter_cons]
        cases hy : q y with
        | true => rw [hpq y hy]; simp; exact ih
        | false =>
          cases p y <;> simp <;> omega
    simp only [List.filter_cons]
    rcases List.mem_cons.1 hi with rfl | hi
    · rw [hp, hq]
      have := hle l
      simp; omega
    · have := filter_lt l hpq hi hp hq
      cases hx : q x with
      | true => rw [hpq x hx]; simp; exact this
      | false => cases p x <;> simp <;> omega

theorem isDone_set {listed : Array Bool} {i : Nat} (hi : i < listed.size) : isDone (listed.setIfInBounds i true) = fun j => isDone listed j ∨ j = i := by
  funext j
  apply propext
  unfold isDone
  by_cases hj : j < listed.size
  · by_cases e : i = j
    · subst e; simp [Array.getD, hj]
    · simp [Array.getD, hj, Array.getElem_setIfInBounds_ne, e, Ne.symm e]
  · have hne : j ≠ i := fun h => hj (h ▸ hi)
    simp [Array.getD, hj, hne]

section
variable {P : Program} {C : Cfg} {N : Nat} {ob : Bool} {call : CallH} {ops : Array Oper} {as ds : List AOper} {anc : List Nat} {L : Nat → List AVal} {H : Nat → HL} {MM : Nat → AMem} {V : Nat → AVal} {g0 : G} {a0 : Act}
  {Q : Exit → Act → World → Prop}

/-- Each order that is allowed: what holds of the ones that are done is kept by each that comes up. -/
theorem draw_gen (I : (Nat → Prop) → Act → World → Prop) (ordp : ∀ (i : Nat) o, ops.toList[i]? = some o → ∀ p ∈ preds o.after.toList, p < i)
    (hstep : ∀ (S : Nat → Prop) (i : Nat) (o : Oper) (a : Act) (w : World) (K : Act → World → Prop), ops[i]? = some o → ¬ S i → (∀ p ∈ preds o.after.toList, S p) →
      (∀ i o, ops.toList[i]? = some o → S i → ∀ p ∈ preds o.after.toList, S p) → I S a w → (∀ a' w', I (fun j => S j ∨ j = i) a' w' → K a' w') → wpOp P ops Q i K a w)
    (hQ : ∀ (S : Nat → Prop) a w, (∀ j, j < ops.size → S j) → I S a w → Q .normal a w) :
    ∀ (fuel : Nat) (listed : Array Bool) (a : Act) (w : World), listed.size = ops.size → leftOf ops.size listed ≤ fuel → (∀ i o, ops.toList[i]? = some o → isDone listed i → ∀ p ∈ preds o.after.toList, isDone listed p) →
      I (isDone listed) a w → wpAny P .any ops Q fuel listed a w := by
  -- none is ready: all are done
  have all : ∀ (listed : Array Bool), listed.size = ops.size → Region.ready .any ops listed = [] → ∀ j, j < ops.size → isDone listed j := by
    intro listed hsz hr j
    induction j using Nat.strongRecOn with
    | _ j ih =>
      intro hj
      cases hd : listed.getD j false with
      | true => exact hd
      | false =>
        exfalso
        have ho : ops[j]? = some ops[j] := Array.getElem?_eq_getElem hj
        have hmem : j ∈ Region.ready .any ops listed := by
          unfold Region.ready
          rw [List.mem_filter]
          refine ⟨List.mem_range.2 hj, ?_⟩
          have hjl : j < listed.size := by omega
          have e1 : listed.getD j true = false := by
            simp [Array.getD, hjl] at hd ⊢; exact hd
          rw [e1, ho]
          simp only [Bool.not_false, Option.map_some, Option.getD_some, Bool.true_and]
          rw [Array.all_eq_true_iff_forall_mem]
          intro e he
          cases hb : Region.binds .any e with
          | false => rfl
          | true =>
            have hp := preds_of ops[j].after.toList e (Array.mem_toList_iff.2 he) hb
            have hlt := ordp j _ (by rw [Array.getElem?_toList]; exact ho) _ hp
            have := ih e.on hlt (by omega)
            simp only [Bool.not_true, Bool.false_or]
            exact this
        rw [hr] at hmem
        simp at hmem
  intro fuel
  induction fuel with
  | zero =>
    intro listed a w hsz hleft _ inv
    have hnil : Region.ready .any ops listed = [] := by
      have h0 : leftOf ops.size listed = 0 := by omega
      unfold leftOf at h0
      rw [List.length_eq_zero_iff] at h0
      rw [List.eq_nil_iff_forall_not_mem] at h0 ⊢
      intro x hx
      unfold Region.ready at hx
      rw [List.mem_filter] at hx
      refine h0 x (List.mem_filter.2 ⟨hx.1, ?_⟩)
      have := hx.2
      rw [Bool.and_eq_true] at this
      exact this.1
    exact ⟨hnil, hQ _ a w (all listed hsz hnil) inv⟩
  | succ fuel ih =>
    intro listed a w hsz hleft hD inv
    refine ⟨fun hnil => hQ _ a w (all listed hsz hnil) inv, fun i hi => ?_⟩
    unfold Region.ready at hi
    rw [List.mem_filter, Bool.and_eq_true] at hi
    obtain ⟨h1, h2, h3⟩ := hi
    have hlt : i < ops.size := List.mem_range.1 h1
    have ho : ops[i]? = some ops[i] := Array.getElem?_eq_getElem hlt
    rw [ho] at h3
    simp only [Option.map_some, Option.getD_some] at h3
    rw [Array.all_eq_true_iff_forall_mem] at h3
    have hnot : ¬ isDone listed i := by
      intro hd
      unfold isDone at hd
      have hjl : i < listed.size := by omega
      simp [Array.getD, hjl] at hd h2
      rw [hd] at h2; cases h2
    have hpre : ∀ p ∈ preds ops[i].after.toList, isDone listed p := by
      intro p hp
      obtain ⟨e, he, hb, rfl⟩ := preds_mem _ _ hp
      have := h3 e (Array.mem_toList_iff.1 he)
      rw [hb] at this
      simp only [Bool.not_true, Bool.false_or] at this
      exact this
    refine hstep _ i _ a w _ ho hnot hpre hD inv fun a' w' inv' => ?_
    rw [← isDone_set (by omega)] at inv'
    refine ih _ a' w' (by simpa using hsz) ?_ ?_ inv'
    · have : leftOf ops.size (listed.setIfInBounds i true) < leftOf ops.size listed := by
        refine filter_lt (i := i) _ (fun x hx => ?_) h1 h2 ?_
        · by_cases e : i = x
          · subst e
            have hjl : i < listed.size := by omega
            simp [Array.getD, hjl] at hx
          · by_cases hxl : x < listed.size
            · simp [Array.getD, hxl, Array.getElem_setIfInBounds_ne, e] at hx ⊢; exact hx
            · simp [Array.getD, hxl] at hx
        · have hjl : i < listed.size := by omega
          simp [Array.getD, hjl]
      omega
    · intro j o hj hdone p hp
      rw [isDone_set (by omega)] at hdone ⊢
      rcases hdone with hdone | rfl
      · exact .inl (hD j o hj hdone p hp)
      · rw [Array.getElem?_toList, ho] at hj
        injection hj with hj; subst hj
        exact .inl (hpre p hp)

theorem draw_any (hcall : ∀ f, FOK P C f (call f)) (ord : Orderly ops.toList as ds anc) (has : as = cops P C N ob ops.toList ops.toList) (tr : Trace call ds L H MM V) (hP : g0.P = P) (hN : N ≤ a0.tmps.size)
    (hchk : ∀ (i : Nat) d ro at_, ds[i]? = some d → d.op = .r ro at_ → wantedA (L i) d.guard = true → ∀ m ∈ at_, m ≤ ds.length → ro.run (MM m) (Opd.ev (L i)) = some (V i))
    (hQ : ∀ (S : Nat → Prop) a w, (∀ j, j < ops.size → S j) → Inv C ds L H MM V g0 a0 S a w → Q .normal a w) :
    ∀ (fuel : Nat) (listed : Array Bool) (a : Act) (w : World), listed.size = ops.size → leftOf ops.size listed ≤ fuel → (∀ i o, ops.toList[i]? = some o → isDone listed i → ∀ p ∈ preds o.after.toList, isDone listed p) →
      Inv C ds L H MM V g0 a0 (isDone listed) a w → wpAny P .any ops Q fuel listed a w :=
  draw_gen (fun S a w => Inv C ds L H MM V g0 a0 S a w) ord.preds (fun S i o a w K ho hi hp hD inv hK => by
    have ha : as[i]? = some (coper P C N ob ops.toList o) := by rw [has, cops_get, Array.getElem?_toList, ho]; rfl
    exact draw_step hcall ord tr hP hN hchk ho ha hi hp hD inv (fun a' w' inv' _ => hK a' w' inv')) hQ

/-- A region whose order is drawn: out of the run in the text's order, if each order keeps to it. -/
theorem region_drawn (ord : Orderly ops.toList as ds anc) (hm : P.follows .mixedOrders = true) {id : Nat}
    {g : G} {M : AMem} {hl : HL} {w : World} {l : List AVal} {a : Act} {fr' : Fr} {M' : AMem} {Ms : List AMem} {cs : List Chk} (s : SRel C g M hl w l a.tmps)
    (h : runOpsD call ds ⟨l, hl⟩ M [M] [] = some (fr', M', Ms, cs)) (hc : cs.all (Chk.ok (Ms.length - 1) Ms) = true) (K : Cont C g M hl a fr'.tmps fr'.hl M' (Q .normal))
    (run : ∀ L H MM V, Trace call ds L H MM V → (∀ (i : Nat) d ro at_, ds[i]? = some d → d.op = .r ro at_ → wantedA (L i) d.guard = true → ∀ m ∈ at_, m ≤ ds.length → ro.run (MM m) (Opd.ev (L i)) = some (V i)) →
      (∀ (S : Nat → Prop) a' w, (∀ j, j < ops.size → S j) → Inv C ds L H MM V g a S a' w → Q .normal a' w) → ∀ (listed : Array Bool) (a' : Act) (w : World), listed.size = ops.size → leftOf ops.size listed ≤ ops.size →
      (∀ i o, ops.toList[i]? = some o → isDone listed i → ∀ p ∈ preds o.after.toList, isDone listed p) → (∀ j, ¬ isDone listed j) → Inv C ds L H MM V g a (isDone listed) a' w → wpAny P .any ops Q ops.size listed a' w) :
    (Code.region id ops true).wp P Q a w := by
  obtain ⟨L, H, MM, V, e1, e2, e3, e4, e5, tr, m1, m2, m3, _, c2⟩ := runOpsD_trace _ _ _ _ _ _ _ _ _ h
  subst e4 e5
  have hlen : Ms.length - 1 = ds.length := by rw [m3]; simp
  have hsize : ds.length = ops.size := by rw [ord.dlen]; simp
  have none_done : ∀ j, ¬ isDone (Array.replicate ops.size false) j := by
    intro j hd
    unfold isDone at hd
    by_cases hi : j < ops.size <;> simp [Array.getD, hi] at hd
  refine wp_region_any hm (run L H MM V tr ?_ ?_ _ a _ (by simp) ?_ (fun i o _ hd => absurd hd (none_done i)) none_done ?_)
  · intro i d ro at_ hd hop hw m hm' hle
    cases at_ with
    | nil => simp at hm'
    | cons c at_ =>
      have hmem := c2 i d ro c at_ hd hop hw
      rw [List.all_eq_true] at hc
      have := hc _ hmem
      unfold Chk.ok at this
      rw [List.all_eq_true] at this
      have := this m hm'
      rw [hlen] at this
      have hMs : nth? Ms (ds.length - m) = some (MM m) := by
        rw [nth?_eq]
        rcases Nat.eq_zero_or_pos m with rfl | hpos
        · have := m2 0
          simp only [Nat.add_zero, List.getElem?_cons_zero] at this
          rw [Nat.sub_zero, this, e3]
        · exact m1 m hpos hle
      rw [hMs] at this
      simp only at this
      split at this
      · rename_i v hv
        rw [AVal.same_eq _ _ this]; exact hv
      · cases this
  · intro S a' w' hall inv
    obtain ⟨g', k, lS, hpos, le, s', v1, v2, z1, z2, z3, z4⟩ := inv
    have hposn : Pos ds S ds.length :=
      ⟨Nat.le_refl _, fun j d hj _ => ⟨fun _ => hall j (by rw [← hsize]; exact (List.getElem?_eq_some_iff.1 hj).1), fun _ => (List.getElem?_eq_some_iff.1 hj).1⟩⟩
    obtain ⟨q1, q2⟩ := Pos.same tr hpos hposn
    rw [e2, e3] at le
    rw [q1, q2] at le s'
    refine K a' w' g' le ⟨s'.wr, s'.lo, ?_, s'.glob⟩ z1 z2 z3 z4
    intro t ht
    have hr := s'.t t ht
    have : lget .undef lS t = lget .undef (L ds.length) t := by
      obtain ⟨k1, k2⟩ := trace_tmps tr _ (Nat.le_refl _) t
      by_cases hex : ∃ j, j < ds.length ∧ ∃ x, ds[j]? = some x ∧ x.dst = some t
      · obtain ⟨j, hlt, ⟨x, hj, hx⟩, hmax⟩ := last_of _ hex
        rw [v1 j x t hj (hall j (by rw [← hsize]; exact hlt)) hx (fun j' x' hj' _ hx' => hmax j' (List.getElem?_eq_some_iff.1 hj').1 ⟨x', hj', hx'⟩), k1 j x hlt hj hx (fun j' x' hlt' hj' hx' => hmax j' hlt' ⟨x', hj', hx'⟩)]
      · rw [v2 t (fun j x hj _ hx => hex ⟨j, (List.getElem?_eq_some_iff.1 hj).1, x, hj, hx⟩), k2 (fun j x hlt hj hx => hex ⟨j, hlt, x, hj, hx⟩)]
    rw [← this]; exact hr
  · unfold leftOf
    have := List.length_filter_le (fun i => !(Array.replicate ops.size false).getD i true) (List.range ops.size)
    simpa using this
  · refine ⟨g, 0, l, ⟨Nat.zero_le _, fun j d _ _ => ⟨fun h => by omega, fun hd => absurd hd (none_done j)⟩⟩, GLe.refl _ _ _, ?_, fun j d t _ hd => absurd hd (none_done j), fun t _ => by rw [e1], rfl, rfl, rfl, rfl⟩
    rw [e2, e3]
    exact s.ext (Ext.drew w _)

theorem region_draw (hcall : ∀ f, FOK P C f (call f)) (hm : P.follows .mixedOrders = true) {id : Nat} (h1 : predsOK ops.toList = true) (h2 : pairsOK (ancGo [] ops.toList) 0 (cops P C N ob ops.toList ops.toList) = true)
    {g : G} {M : AMem} {hl : HL} {w : World} {l : List AVal} {a : Act} {fr' : Fr} {M' : AMem} {Ms : List AMem} {cs : List Chk} (s : SRel C g M hl w l a.tmps) (hP : g.P = P) (hN : N ≤ a.tmps.size)
    (h : runOpsD call (setAts (ancGo [] ops.toList) (cops P C N ob ops.toList ops.toList) 0 (cops P C N ob ops.toList ops.toList)) ⟨l, hl⟩ M [M] [] = some (fr', M', Ms, cs))
    (hc : cs.all (Chk.ok (Ms.length - 1) Ms) = true) (K : Cont C g M hl a fr'.tmps fr'.hl M' (Q .normal)) : (Code.region id ops true).wp P Q a w := by
  have ord := Orderly.of h1 h2
  refine region_drawn ord hm s h hc K ?_
  intro L H MM V tr hchk hQ listed a' w' q1 q2 q3 _ inv
  exact draw_any (N := N) (ob := ob) hcall ord rfl tr hP hN hchk hQ ops.size listed a' w' q1 q2 q3 inv

end
end Go.Abs
end

/-
  A block that no value of the small form names yet: it stays as it is.
-/
section
namespace Go.Abs

structure Free (g : G) (M : AMem) (hl : HL) (w : World) (b : Nat) : Prop where
  lt : b < w.heap.size
  obj : ∀ o, g.obj o ≠ some b
  fix : ∀ i, g.fix b i = none
  tail : ∀ τ e fr to, liveAt hl M.hw τ = some e → tailAt g τ ≠ some (b, fr, to)
  res : ¬ g.res b

def G.keep (g : G) (b : Nat) (w : World) : G :=
  { g with
    res := fun x => g.res x ∨ x = b
    w0 := { w with lim := fun x i => ∃ a, g.fix x i = some a } }

def G.unkeep (g' g : G) : G := { g' with res := g.res, w0 := g.w0 }

theorem GLe.keep {g : G} {b : Nat} {w : World} (hw : Stk Nat) (hl1 : HL) : GLe g hw hl1 (g.keep b w) hw hl1 :=
  ⟨rfl, fun _ _ h => h, fun _ _ _ h => h, Nat.le_refl _, fun _ e' _ h => ⟨e', h, Nat.le_refl _, fun _ => rfl⟩, Nat.le_refl _, fun _ e' _ h => ⟨e', h, Nat.le_refl _, fun _ => rfl⟩⟩

theorem GLe.unkeep {g' g : G} (hw : Stk Nat) (hl1 : HL) : GLe g' hw hl1 (g'.unkeep g) hw hl1 :=
  ⟨rfl, fun _ _ h => h, fun _ _ _ h => h, Nat.le_refl _, fun _ e' _ h => ⟨e', h, Nat.le_refl _, fun _ => rfl⟩, Nat.le_refl _, fun _ e' _ h => ⟨e', h, Nat.le_refl _, fun _ => rfl⟩⟩

section
variable {C : Cfg} {g g' : G} {M M' : AMem} {hl hl' : HL} {w w' : World} {l l' : List AVal} {tmps tmps' : Array Value} {b : Nat}

theorem SRel.keep (s : SRel C g M hl w l tmps) (hf : Free g M hl w b) : SRel C (g.keep b w) M hl w l tmps where
  wr := {
    okO := s.wr.okO
    okH := s.wr.okH
    dom := s.wr.dom
    obj := fun o x hx => by
      obtain ⟨b', h1, h2, h3⟩ := s.wr.obj o x hx
      refine ⟨b', h1, ?_, h3.mono (GLe.keep _ _)⟩
      rintro (hr | rfl)
      · exact h2 hr
      · exact hf.obj o h1
    inj := s.wr.inj
    fix := fun b' i a ha => by
      obtain ⟨h1, v, h2, h3⟩ := s.wr.fix b' i a ha
      exact ⟨h1, v, h2, h3.mono (GLe.keep _ _)⟩
    own := fun t e he => by
      obtain ⟨tb, fr, to, h1, h2⟩ := s.wr.own t e he
      refine ⟨tb, fr, to, h1, ?_, h2.obj, h2.le, h2.there, h2.fix⟩
      rintro (hr | rfl)
      · exact h2.res hr
      · exact hf.tail (false, t) e fr to he h1
    ownInj := s.wr.ownInj
    res := fun b' hb => by
      rcases hb with hr | rfl
      · exact ⟨(s.wr.res b' hr).1, rfl⟩
      · exact ⟨hf.lt, rfl⟩
    size := Nat.le_refl _
    os := rfl
    tape := rfl
    output := rfl
    lim := fun b' i a _ ha => ⟨a, ha⟩ }
  lo := {
    ok := s.lo.ok
    loc := fun t e he => by
      obtain ⟨tb, fr, to, h1, h2⟩ := s.lo.loc t e he
      refine ⟨tb, fr, to, h1, ?_, h2.obj, h2.le, h2.there, h2.fix⟩
      rintro (hr | rfl)
      · exact h2.res hr
      · exact hf.tail (true, t) e fr to (live_loc.2 he) h1
    inj := s.lo.inj
    apart := s.lo.apart }
  t := s.t.mono (GLe.keep _ _)
  glob x v hx := (s.glob x v hx).mono (GLe.keep _ _)

theorem SRel.unkeep (s : SRel C g M hl w l tmps) (hf : Free g M hl w b) (s' : SRel C g' M' hl' w' l' tmps') (hres : g'.res = (g.keep b w).res) (hw0 : g'.w0 = (g.keep b w).w0) :
    SRel C (g'.unkeep g) M' hl' w' l' tmps' ∧ Free (g'.unkeep g) M' hl' w' b ∧ w'.heap[b]? = w.heap[b]? := by
  have isres : ∀ x, g.res x → g'.res x := fun x hx => by rw [hres]; exact .inl hx
  have bres : g'.res b := by rw [hres]; exact .inr rfl
  have kept : ∀ x, g'.res x → w'.heap[x]? = w.heap[x]? := fun x hx => by have := (s'.wr.res x hx).2; rw [hw0] at this; exact this
  have size : w.heap.size ≤ w'.heap.size := by have := s'.wr.size; rw [hw0] at this; exact this
  refine ⟨⟨?_, ?_, s'.t.mono (GLe.unkeep _ _), fun x v hx => (s'.glob x v hx).mono (GLe.unkeep _ _)⟩, ?_, kept b bres⟩
  · exact {
      okO := s'.wr.okO
      okH := s'.wr.okH
      dom := s'.wr.dom
      obj := fun o x hx => by
        obtain ⟨b', h1, h2, h3⟩ := s'.wr.obj o x hx
        exact ⟨b', h1, fun hb => h2 (isres b' hb), h3.mono (GLe.unkeep _ _)⟩
      inj := s'.wr.inj
      fix := fun b' i a ha => by
        obtain ⟨h1, v, h2, h3⟩ := s'.wr.fix b' i a ha
        exact ⟨h1, v, h2, h3.mono (GLe.unkeep _ _)⟩
      own := fun t e he => by
        obtain ⟨tb, fr, to, h1, h2⟩ := s'.wr.own t e he
        exact ⟨tb, fr, to, h1, fun hb => h2.res (isres tb hb), h2.obj, h2.le, h2.there, h2.fix⟩
      ownInj := s'.wr.ownInj
      res := fun x hx => by
        obtain ⟨h1, h2⟩ := s.wr.res x hx
        exact ⟨Nat.lt_of_lt_of_le h1 size, (kept x (isres x hx)).trans h2⟩
      size := Nat.le_trans s.wr.size size
      os := (by have := s'.wr.os; rw [hw0] at this; exact this : w'.os = w.os).trans s.wr.os
      tape := (by have := s'.wr.tape; rw [hw0] at this; exact this : w'.tape = w.tape).trans s.wr.tape
      output := (by have := s'.wr.output; rw [hw0] at this; exact this : w'.output = w.output).trans s.wr.output
      lim := fun x i a hx ha => by
        have h1 := s'.wr.lim x i a (isres x hx) ha
        rw [hw0] at h1
        obtain ⟨a', ha'⟩ := h1
        exact s.wr.lim x i a' hx ha' }
  · exact {
      ok := s'.lo.ok
      loc := fun t e he => by
        obtain ⟨tb, fr, to, h1, h2⟩ := s'.lo.loc t e he
        exact ⟨tb, fr, to, h1, fun hb => h2.res (isres tb hb), h2.obj, h2.le, h2.there, h2.fix⟩
      inj := s'.lo.inj
      apart := s'.lo.apart }
  · refine ⟨Nat.lt_of_lt_of_le hf.lt size, fun o ho => ?_, fun i => ?_, fun τ e fr to he ht => ?_, hf.res⟩
    · obtain ⟨x, hx⟩ := Stk.get?_some s'.wr.okO (s'.wr.dom o b ho)
      obtain ⟨b', k1, k2, _⟩ := s'.wr.obj o x hx
      have k0 : g'.obj o = some b := ho
      rw [k0] at k1; injection k1 with k1; subst k1
      exact k2 bres
    · cases hq : (g'.unkeep g).fix b i with
      | none => rfl
      | some x =>
        have h3 := s'.wr.lim b i x bres hq
        rw [hw0] at h3
        obtain ⟨a', ha'⟩ := h3
        rw [hf.fix i] at ha'; cases ha'
    · obtain ⟨tb, fr1, to1, k1, k2⟩ := s'.tailOK he
      have k0 : tailAt g' τ = some (b, fr, to) := ht
      rw [k0] at k1
      simp only [Option.some.injEq, Prod.mk.injEq] at k1
      obtain ⟨rfl, _, _⟩ := k1
      exact k2.res bres

end
end Go.Abs
end

/-
  A block that no value named yet becomes an object.
-/
section
namespace Go.Abs

theorem SRel.register {C : Cfg} {g : G} {M : AMem} {hl : HL} {w w' : World} {l : List AVal} {tmps : Array Value} {b : Nat} (s : SRel C g M hl w l tmps) (hf : Free g M hl w b) (h : Chg w w' b)
    {x : AObj} (hx : OAt g M.hw w' b x) :
    GLe g M.hw hl (g.addObj M.objs.n b) M.hw hl ∧ SRel C (g.addObj M.objs.n b) { M with objs := M.objs.push x } hl w' l tmps := by
  have hn : g.obj M.objs.n = none := by
    cases ho : g.obj M.objs.n with
    | none => rfl
    | some b' => have := s.wr.dom _ _ ho; omega
  have le : GLe g M.hw hl (g.addObj M.objs.n b) M.hw hl := GLe.addObj hn
  have objne : ∀ tb, tb ≠ b → (∀ o, g.obj o ≠ some tb) → ∀ o, (g.addObj M.objs.n b).obj o ≠ some tb := by
    intro tb hlt hne o ho
    simp only [G.addObj] at ho
    split at ho
    · injection ho with ho; exact hlt ho.symm
    · exact hne o ho
  have tail : ∀ τ e tb fr to, liveAt hl M.hw τ = some e → tailAt g τ = some (tb, fr, to) → TailOK g w tb fr to → TailOK (g.addObj M.objs.n b) w' tb fr to := by
    intro τ e tb fr to he ht h0
    have hne : tb ≠ b := fun hh => by subst hh; exact hf.tail τ e fr to he ht
    have h1 := h0.chg h hne
    exact ⟨h1.res, objne tb hne h1.obj, h1.le, h1.there, h1.fix⟩
  refine ⟨le, ⟨?_, ?_, s.t.mono le, fun y v hy => (s.glob y v hy).mono le.toEmpty⟩⟩
  · exact {
      okO := Stk.ok_push s.wr.okO x
      okH := s.wr.okH
      dom := fun o b' ho => by
        simp only [G.addObj] at ho
        simp only [Stk.n_push]
        split at ho
        · omega
        · have := s.wr.dom o b' ho; omega
      obj := fun o y hy => by
        by_cases e : o = M.objs.n
        · subst e
          rw [Stk.get?_push_self] at hy
          injection hy with hy; subst hy
          exact ⟨b, by simp [G.addObj], hf.res, hx.mono le.toEmpty⟩
        · rw [Stk.get?_push_ne x e] at hy
          obtain ⟨b', h1, h2, h3⟩ := s.wr.obj o y hy
          have hne : b' ≠ b := fun hh => by subst hh; exact hf.obj o h1
          exact ⟨b', by simp only [G.addObj, if_neg e]; exact h1, h2, (h3.chg h hne).mono le.toEmpty⟩
      inj := fun o o' b' h1 h2 => by
        simp only [G.addObj] at h1 h2
        split at h1 <;> split at h2
        · omega
        · injection h1 with h1; subst h1; exact absurd h2 (hf.obj _)
        · injection h2 with h2; subst h2; exact absurd h1 (hf.obj _)
        · exact s.wr.inj o o' b' h1 h2
      fix := fun b' i a ha => by
        obtain ⟨h1, v, h2, h3⟩ := s.wr.fix b' i a ha
        have ha' : g.fix b' i = some a := ha
        have hne : b' ≠ b := fun hh => by subst hh; rw [hf.fix i] at ha'; cases ha'
        exact ⟨objne b' hne h1, v, by rw [h.cell hne]; exact h2, h3.mono le.toEmpty⟩
      own := fun t e he => by
        obtain ⟨tb, fr, to, h1, h2⟩ := s.wr.own t e he
        exact ⟨tb, fr, to, h1, tail (false, t) e tb fr to he h1 h2⟩
      ownInj := s.wr.ownInj
      res := fun b' hb' => by
        obtain ⟨h1, h2⟩ := s.wr.res b' hb'
        have hne : b' ≠ b := fun hh => by subst hh; exact hf.res hb'
        exact ⟨by rw [h.size]; exact h1, (h.block b' hne).trans h2⟩
      size := by rw [h.size]; exact s.wr.size
      os := h.os.trans s.wr.os
      tape := h.tape.trans s.wr.tape
      output := h.output.trans s.wr.output
      lim := s.wr.lim }
  · exact {
      ok := s.lo.ok
      loc := fun t e he => by
        obtain ⟨tb, fr, to, h1, h2⟩ := s.lo.loc t e he
        exact ⟨tb, fr, to, h1, tail (true, t) e tb fr to (live_loc.2 he) h1 h2⟩
      inj := s.lo.inj
      apart := s.lo.apart }

end Go.Abs
end

/-
  A variable that is made early in a region of drawn order, and stored into late: it is an object from the store on.
-/
section
namespace Go.Abs

def limboOps (P : Program) (C : Cfg) (N : Nat) (ops : List Oper) (as : List AOper) (p q : Nat) : Option (List AOper) :=
  match nth? ops p, nth? ops q with
  | some op, some oq =>
    match op.op, op.dst, op.guard, oq.op, oq.dst, oq.guard with
    | .alloc T, some t, none, .store T' (.tmp t') x, none, none =>
      (match szT P T, copd C N x, zeroCellsT P T with
      | some n, some x', some _ =>
        let as' := setNth (setNth as p ⟨some t, .skip, none⟩) q ⟨some t, .w (.box n x'), none⟩
        if Nat.beq t t' && Nat.beq T T' && Nat.blt t N && Nat.blt p q && !(memN t x'.tmps) &&
            allIx (fun j (a : AOper) => Nat.beq j p || Nat.beq j q || !(sees (some t) a.looks || sameDst (some t) a.dst)) 0 as' then some as' else none
      | _, _, _ => none)
    | _, _, _, _, _, _ => none
  | _, _ => none

structure Limbo (P : Program) (C : Cfg) (N : Nat) (ob : Bool) (ops : List Oper) (as' : List AOper) (p q : Nat) (T : TypeId) (t n : Nat) (x : Operand) (x' : Opd) : Prop where
  len : as'.length = ops.length
  op : ∃ o, ops[p]? = some o ∧ o.op = .alloc T ∧ o.dst = some t ∧ o.guard = none
  oq : ∃ o, ops[q]? = some o ∧ o.op = .store T (.tmp t) x ∧ o.dst = none ∧ o.guard = none
  sz : szT P T = some n
  hx : copd C N x = some x'
  zero : ∃ z, zeroCellsT P T = some z
  lt : t < N
  pq : p < q
  nx : t ∉ x'.tmps
  asp : as'[p]? = some ⟨some t, .skip, none⟩
  asq : as'[q]? = some ⟨some t, .w (.box n x'), none⟩
  aso : ∀ j o, j ≠ p → j ≠ q → ops[j]? = some o → as'[j]? = some (coper P C N ob ops o) ∧ o.dst ≠ some t
  
theorem limbo_of {P : Program} {C : Cfg} {N : Nat} {ob : Bool} {ops : List Oper} {p q : Nat} {as' : List AOper} (h : limboOps P C N ops (cops P C N ob ops ops) p q = some as') :
    ∃ T t n x x', Limbo P C N ob ops as' p q T t n x x' := by
  unfold limboOps at h
  split at h
  · rename_i op oq hop hoq
    rw [nth?_eq] at hop hoq
    split at h
    · rename_i T t T' t' x e1 e2 e3 e4 e5 e6
      split at h
      · rename_i n x' z hn hx hz
        simp only at h
        split at h
        · rename_i hc
          simp only [Option.some.injEq] at h
          simp only [Bool.and_eq_true, nbeq, Nat.blt_eq, Bool.not_eq_true'] at hc
          obtain ⟨⟨⟨⟨⟨h1, h2⟩, h3⟩, h4⟩, h5⟩, h6⟩ := hc
          have h1 : t = t' := h1
          have h2 : T = T' := h2
          subst h1 h2
          have hne : p ≠ q := by omega
          have hnx : t ∉ x'.tmps := fun hm => by rw [(memN_iff t _).2 hm] at h5; cases h5
          have hlen := cops_length (P := P) (C := C) (N := N) (ob := ob) (ops := ops) (l := ops)
          have hp := (List.getElem?_eq_some_iff.1 hop).1
          have hq := (List.getElem?_eq_some_iff.1 hoq).1
          rw [h] at h6
          rw [setNth_eq, setNth_eq] at h
          subst h
          refine ⟨T, t, n, x, x', ⟨by simp [hlen], ⟨op, hop, e1, e2, e3⟩, ⟨oq, hoq, e4, e5, e6⟩, hn, hx, ⟨z, hz⟩, h3, h4, hnx, ?_, ?_, ?_⟩⟩
          · rw [List.getElem?_set_ne (Ne.symm hne), List.getElem?_set_self (by omega)]
          · rw [List.getElem?_set_self (by simp; omega)]
          · intro j o hjp hjq hj
            have e : (((cops P C N ob ops ops).set p ⟨some t, .skip, none⟩).set q ⟨some t, .w (.box n x'), none⟩)[j]? = some (coper P C N ob ops o) := by
              rw [List.getElem?_set_ne (Ne.symm hjq), List.getElem?_set_ne (Ne.symm hjp), cops_get, hj]; rfl
            refine ⟨e, fun hd => ?_⟩
            have h7 := allIx_get h6 e
            rw [Nat.zero_add] at h7
            have h8 : Nat.beq j p = false := by cases hb : Nat.beq j p with | false => rfl | true => exact absurd ((nbeq _ _).1 hb) hjp
            have h9 : Nat.beq j q = false := by cases hb : Nat.beq j q with | false => rfl | true => exact absurd ((nbeq _ _).1 hb) hjq
            rw [h8, h9, coper_dst, hd] at h7
            simp [sameDst] at h7
        · cases h
      · cases h
    · cases h
  · cases h

theorem Orderly.of' {ops : List Oper} {as : List AOper} (hl : as.length = ops.length) (h1 : predsOK ops = true) (h2 : pairsOK (ancGo [] ops) 0 as = true) :
    Orderly ops as (setAts (ancGo [] ops) as 0 as) (ancGo [] ops) where
  len := hl
  dlen := by rw [setAts_length, hl]
  at_ i := by rw [setAts_get, Nat.zero_add]
  before_ p i h := before_anc h
  pairs := h2
  preds i o ho p hp := by
    have := allIx_get h1 ho
    rw [Nat.zero_add] at this
    exact allBelow_get this hp

section
variable {P : Program} {C : Cfg} {N : Nat} {ob : Bool} {call : CallH} {ops : Array Oper} {as ds : List AOper} {anc : List Nat} {L : Nat → List AVal} {H : Nat → HL} {MM : Nat → AMem} {V : Nat → AVal} {g0 : G} {a0 : Act}
  {Q : Exit → Act → World → Prop} {p q t n : Nat} {T : TypeId} {x : Operand} {x' : Opd}

/-- So many are done, and all stands as the text's run tells; what is made and not stored into yet is kept. -/
def InvL (C : Cfg) (ds : List AOper) (L : Nat → List AVal) (H : Nat → HL) (MM : Nat → AMem) (V : Nat → AVal) (g0 : G) (a0 : Act) (p q t n : Nat) (T : TypeId) (S : Nat → Prop) (a : Act) (w : World) : Prop :=
  ∃ g k lS, (Pos ds S k ∧ GLe g0 (MM 0).hw (H 0) g (MM k).hw (H k) ∧ SRel C g (MM k) (H k) w lS a.tmps ∧ (∀ (j : Nat) d t, ds[j]? = some d → S j → d.dst = some t → (∀ (j' : Nat) d', ds[j']? = some d' → S j' → d'.dst = some t → j' ≤ j) → lget .undef lS t = V j) ∧
    (∀ t, (∀ (j : Nat) d, ds[j]? = some d → S j → d.dst ≠ some t) → lget .undef lS t = lget .undef (L 0) t) ∧ a.tmps.size = a0.tmps.size ∧ a.defers = a0.defers ∧ g.res = g0.res ∧ g.w0 = g0.w0) ∧
    (S p → ¬ S q → ∃ b cs, Free g (MM k) (H k) w b ∧ a.tmps.getD t undef = .pointer (some ⟨b, 0, none⟩) ∧ w.heap[b]? = some (.cells cs T (0, 0)) ∧
      ∃ z : List AVal, z.length = n ∧ allCells z = true ∧ ∀ (g : G) (hw : Stk Nat), VRels g hw Stk.empty z cs.toList)

theorem put_other {a : Act} {d : Option Nat} {v : Value} (h : d ≠ some t) : (a.put d v).tmps.getD t undef = a.tmps.getD t undef := by
  cases d with
  | none => rfl
  | some s =>
    have hne : s ≠ t := fun e => h (by rw [e])
    simp only [Act.put]
    by_cases ht : t < a.tmps.size
    · simp [Array.getD, ht, Array.getElem_setIfInBounds_ne, hne]
    · simp [Array.getD, ht]

theorem put_self {a : Act} {v : Value} (h : t < a.tmps.size) : (a.put (some t) v).tmps.getD t undef = v := by
  simp [Act.put, Array.getD, h]

theorem limbo_step (hcall : ∀ f, FOK P C f (call f)) (ord : Orderly ops.toList as ds anc) (lim : Limbo P C N ob ops.toList as p q T t n x x') (tr : Trace call ds L H MM V) (hP : g0.P = P) (hN : N ≤ a0.tmps.size)
    (hchk : ∀ (i : Nat) d ro at_, ds[i]? = some d → d.op = .r ro at_ → wantedA (L i) d.guard = true → ∀ m ∈ at_, m ≤ ds.length → ro.run (MM m) (Opd.ev (L i)) = some (V i))
    (S : Nat → Prop) (i : Nat) (o : Oper) (a : Act) (w : World) (K : Act → World → Prop) (ho : ops[i]? = some o) (hi : ¬ S i) (hp : ∀ p ∈ preds o.after.toList, S p)
    (hD : ∀ i o, ops.toList[i]? = some o → S i → ∀ p ∈ preds o.after.toList, S p) (inv : InvL C ds L H MM V g0 a0 p q t n T S a w)
    (hK : ∀ a' w', InvL C ds L H MM V g0 a0 p q t n T (fun j => S j ∨ j = i) a' w' → K a' w') : wpOp P ops Q i K a w := by
  have hol : ops.toList[i]? = some o := by rw [Array.getElem?_toList]; exact ho
  have anc_in : ∀ p, Anc ops.toList p i → S p := fun p h => h.done hD (.inr fun o' ho' p hp' => by rw [hol] at ho'; injection ho' with ho'; subst ho'; exact hp p hp')
  have anc_out : ∀ p, Anc ops.toList i p → ¬ S p := fun p h hp => hi (h.done hD (.inl hp))
  obtain ⟨g, k, lS, ⟨hpos, le, s, v1, v2, z1, z2, z3, z4⟩, hlim⟩ := inv
  have hN' : N ≤ a.tmps.size := by rw [z1]; exact hN
  by_cases hip : i = p
  · -- it is made
    subst hip
    obtain ⟨o', ho', e1, e2, e3⟩ := lim.op
    rw [hol] at ho'; injection ho' with ho'; subst ho'
    obtain ⟨z, hz⟩ := lim.zero
    obtain ⟨zv, y1, y2, y3, y4⟩ := zeroCellsT_run hz
    have hd : ds[i]? = some ⟨some t, .skip, none⟩ := by rw [ord.at_, lim.asp]; rfl
    obtain ⟨_, ts⟩ := tr.step i _ hd
    have hV : V i = .undef := by
      rcases ts with ⟨_, h⟩ | ⟨h, _⟩
      · simp only [runAOp, Option.some.injEq, Prod.mk.injEq] at h; exact h.1.symm
      · cases h
    have hrun : (execOp a.eval o).run P w = .ok (.value (.pointer (some ⟨w.heap.size, 0, none⟩))) { w with heap := w.heap.push (.cells zv.cells T) } := by
      simp [execOp, e1, Instr.alloc, y1, newVar, newRow]
    unfold wpOp
    simp only [ho]
    have hw : Region.wanted o (yielded ops a.tmps) = true := by simp [Region.wanted, e3]
    rw [if_pos hw]
    left
    unfold Oper.wp
    rw [hrun]
    show K _ _
    rw [e2]
    obtain ⟨u1, u2⟩ := inv_tmps (L := L) ord hd anc_out v1 v2
    have hlt : t < a.tmps.size := Nat.lt_of_lt_of_le lim.lt hN'
    refine hK _ _ ⟨g, k, putA lS (some t) (V i), ⟨pos_still hpos hd rfl, le, ?_, u1, u2, (Act.put_size _ _ _).trans z1, (Act.put_defers' _ _ _).trans z2, z3, z4⟩, ?_⟩
    · refine (s.ext (Ext.push w _)).put ?_ _
      rw [hV]
      simp only [VRel]
      intro b h; cases h
    · intro _ _
      have hsz : z.length = n := by
        have h2 := lim.sz
        rw [y3] at h2; injection h2 with h2
      refine ⟨w.heap.size, zv.cells, ⟨by simp, fun o ho => ?_, fun i => ?_, fun τ e fr to he ht => ?_, fun hr => ?_⟩, put_self hlt, by simp, z, hsz, y4, fun g hw => y2 g hw Stk.empty⟩
      · have := s.wr.objlt ho; omega
      · cases hf : g.fix w.heap.size i with
        | none => rfl
        | some y => have := s.wr.fixlt hf; omega
      · obtain ⟨tb, fr1, to1, k1, k2⟩ := s.tailOK he
        rw [ht] at k1
        simp only [Option.some.injEq, Prod.mk.injEq] at k1
        obtain ⟨rfl, _, _⟩ := k1
        have := k2.lt; omega
      · have := (s.wr.res _ hr).1; omega
  · by_cases hiq : i = q
    · -- it is stored into
      subst hiq
      obtain ⟨o', ho', e1, e2, e3⟩ := lim.oq
      rw [hol] at ho'; injection ho' with ho'; subst ho'
      have hd : ds[i]? = some ⟨some t, .w (.box n x'), none⟩ := by rw [ord.at_, lim.asq]; rfl
      have hdp : ds[p]? = some ⟨some t, .skip, none⟩ := by rw [ord.at_, lim.asp]; rfl
      have hSp : S p := anc_in _ ((ord.pair lim.pq hdp hd).1 t rfl rfl)
      obtain ⟨p1, p2⟩ := pos_write ord hd hi anc_in anc_out rfl
      obtain ⟨w1, w2⟩ := Pos.same tr hpos p1
      have agree := inv_agree ord tr hd hi anc_in anc_out v1 v2
      obtain ⟨_, ts⟩ := tr.step i _ hd
      have hrunA : WriteOp.run (MM k) (H k) (Opd.ev lS) (.box n x') = some (V i, H (i + 1), MM (i + 1)) := by
        rcases ts with ⟨_, h⟩ | ⟨h, _⟩
        · rw [w1, w2, write_congr (o := .box n x') (fun y hy => agree y hy)]; exact h
        · cases h
      obtain ⟨b, cs, hf, htmp, hheap, z, zl, zc, zr⟩ := hlim hSp hi
      have sk := s.keep hf
      have rx := copd_sound sk hN' lim.hx
      simp only [WriteOp.run] at hrunA
      split at hrunA
      · rename_i hc
        rw [Bool.and_eq_true, nbeq] at hc
        simp only [Option.some.injEq, Prod.mk.injEq] at hrunA
        obtain ⟨hV, hH, hM⟩ := hrunA
        have rc := cells_rel rx (adopt_one hc.2)
        obtain ⟨g1, a1, a2, a3, a4, a5, a6, a7⟩ := adopt_sound _ sk rc
        obtain ⟨b1, b2, _⟩ := s.unkeep hf a2 a4 a5
        have hoat : OAt (g1.unkeep g) (adopt (x'.ev lS).cells (H k) (MM k).hw).2.2 w b (.cells z) := by
          have zr' := zr (g1.unkeep g) (adopt (x'.ev lS).cells (H k) (MM k).hw).2.2
          have hlen := VRels_length zr'
          simp only [Array.length_toList] at hlen
          refine ⟨cs, T, hheap, by omega, fun j y hj => ⟨allCells_get zc hj, ?_⟩⟩
          obtain ⟨v, hv, rv⟩ := VRels_get zr' hj
          exact ⟨v, by simpa using hv, rv⟩
        have hov : overlay z 0 (adopt (x'.ev lS).cells (H k) (MM k).hw).1 = some (adopt (x'.ev lS).cells (H k) (MM k).hw).1 := by
          unfold overlay
          rw [if_pos ((Stk.ble_iff _ _).2 (by omega)), takeN_eq, dropN_eq]
          simp [List.drop_eq_nil_of_le (show z.length ≤ (adopt (x'.ev lS).cells (H k) (MM k).hw).1.length by omega)]
        obtain ⟨w', r1, r2, r3⟩ := obj_store (P := P) hoat hov (VRels.mono (GLe.unkeep _ _) a3) hc.2
        obtain ⟨c1, c2⟩ := b1.register b2 r2 r3
        have hsz : (a.eval x).cells.size = n := by
          have h1 := VRels_length a3
          simp only [Array.length_toList] at h1; omega
        have hrun : (execOp a.eval o).run P w = .ok .skip w' := by
          have hv : a.eval (.tmp t) = .pointer (some ⟨b, 0, none⟩) := htmp
          simp only [execOp, e1, hv, Instr.storeAt, Instr.sureAddr, Sem.run_bind, Sem.run_pure, Result.andThen_ok, storeVar, szT_run lim.sz, hsz, ne_eq, not_true, if_false, r1]
        unfold wpOp
        simp only [ho]
        have hw : Region.wanted o (yielded ops a.tmps) = true := by simp [Region.wanted, e3]
        rw [if_pos hw]
        left
        unfold Oper.wp
        rw [hrun]
        show K _ _
        rw [e2]
        obtain ⟨u1, u2⟩ := inv_tmps (L := L) ord hd anc_out v1 v2
        have le1 : GLe g (MM k).hw (H k) ((g1.unkeep g).addObj (MM k).objs.n b) (adopt (x'.ev lS).cells (H k) (MM k).hw).2.2 (adopt (x'.ev lS).cells (H k) (MM k).hw).2.1 :=
          (GLe.keep _ _).trans (a1.trans ((GLe.unkeep _ _).trans c1))
        refine hK _ _ ⟨(g1.unkeep g).addObj (MM k).objs.n b, i + 1, putA lS (some t) (V i), ⟨p2, ?_, ?_, u1, u2, z1, z2, z3, z4⟩, fun _ hq => absurd (.inr rfl) hq⟩
        · rw [← hM, ← hH]
          exact le.trans le1
        · rw [← hM, ← hH]
          refine ⟨c2.wr, c2.lo, ?_, c2.glob⟩
          intro t' ht'
          rw [putA_get]
          by_cases e : (some t : Option Nat) = some t'
          · rw [if_pos e]
            injection e with e; subst e
            rw [← hV]
            simp only [VRel]
            exact ⟨b, by simp [G.addObj], htmp⟩
          · rw [if_neg e]
            exact c2.t t' ht'
      · cases hrunA
    · -- another one
      obtain ⟨ha, hdst⟩ := lim.aso i o hip hiq hol
      by_cases act : S p ∧ ¬ S q
      · obtain ⟨b, cs, hf, htmp, hheap, hz⟩ := hlim act.1 act.2
        let g0' : G := { g0 with res := (g.keep b w).res, w0 := (g.keep b w).w0 }
        have inv' : Inv C ds L H MM V g0' a0 S a w := ⟨g.keep b w, k, lS, hpos, ⟨le.P, le.obj, le.fix, le.hwn, le.own, le.hln, le.loc⟩, s.keep hf, v1, v2, z1, z2, rfl, rfl⟩
        refine draw_step hcall ord tr (g0 := g0') hP hN hchk ho ha hi hp hD inv' (fun a' w' inv1 hput => ?_)
        obtain ⟨g', k', lS', hpos', le', s', v1', v2', y1, y2, y3, y4⟩ := inv1
        obtain ⟨v, rfl⟩ := hput
        obtain ⟨u1, u2, u3⟩ := s.unkeep hf s' y3 y4
        have le2 : GLe g0 (MM 0).hw (H 0) g' (MM k').hw (H k') := ⟨le'.P, le'.obj, le'.fix, le'.hwn, le'.own, le'.hln, le'.loc⟩
        exact hK _ _ ⟨g'.unkeep g, k', lS', ⟨hpos', le2.trans (GLe.unkeep _ _), u1, v1', v2', y1, y2, z3, z4⟩, fun _ _ => ⟨b, cs, u2, (put_other hdst).trans htmp, u3.trans hheap, hz⟩⟩
      · have inv' : Inv C ds L H MM V g0 a0 S a w := ⟨g, k, lS, hpos, le, s, v1, v2, z1, z2, z3, z4⟩
        refine draw_step hcall ord tr hP hN hchk ho ha hi hp hD inv' (fun a' w' inv1 _ => ?_)
        obtain ⟨g', k', lS', h1⟩ := inv1
        refine hK _ _ ⟨g', k', lS', h1, fun hp' hq' => absurd ⟨?_, fun h => hq' (.inl h)⟩ act⟩
        rcases hp' with h | h
        · exact h
        · exact absurd h.symm hip

theorem region_limbo (hcall : ∀ f, FOK P C f (call f)) (hm : P.follows .mixedOrders = true) {id : Nat} (h1 : predsOK ops.toList = true) (lim : Limbo P C N ob ops.toList as p q T t n x x')
    (h2 : pairsOK (ancGo [] ops.toList) 0 as = true)
    {g : G} {M : AMem} {hl : HL} {w : World} {l : List AVal} {a : Act} {fr' : Fr} {M' : AMem} {Ms : List AMem} {cs : List Chk} (s : SRel C g M hl w l a.tmps) (hP : g.P = P) (hN : N ≤ a.tmps.size)
    (h : runOpsD call (setAts (ancGo [] ops.toList) as 0 as) ⟨l, hl⟩ M [M] [] = some (fr', M', Ms, cs))
    (hc : cs.all (Chk.ok (Ms.length - 1) Ms) = true) (K : Cont C g M hl a fr'.tmps fr'.hl M' (Q .normal)) : (Code.region id ops true).wp P Q a w := by
  have ord := Orderly.of' lim.len h1 h2
  have hq : q < ops.size := by
    obtain ⟨o, ho, _⟩ := lim.oq
    have := (List.getElem?_eq_some_iff.1 ho).1
    simpa using this
  refine region_drawn ord hm s h hc K ?_
  intro L H MM V tr hchk hQ listed a' w' q1 q2 q3 q4 inv
  refine draw_gen (InvL C _ L H MM V g a p q t n T) ord.preds (limbo_step hcall ord lim tr hP hN hchk) ?_ ops.size listed a' w' q1 q2 q3 ?_
  · intro S a w hall inv
    obtain ⟨g', k', lS', h1, _⟩ := inv
    exact hQ S a w hall ⟨g', k', lS', h1⟩
  · obtain ⟨g', k', lS', h1⟩ := inv
    exact ⟨g', k', lS', h1, fun h => absurd h (q4 p)⟩

end
end Go.Abs
end

/-
  A row is put behind a slice, and written afterwards: as if it had been put there whole.
-/
section
namespace Go.Abs

section
variable {P : Program} {C : Cfg} {N : Nat} {ob : Bool} {o : Oper} {g : G} {M : AMem} {hl hl' : HL} {M' : AMem} {w : World} {l : List AVal} {a : Act} {av : AVal} {tmps : Array Value}

/-- What comes of it: the slice, where its last row lies, the world ahead of the row's own cells and behind them. -/
def PushOK (P : Program) (C : Cfg) (t u ty : TypeId) (g : G) (M : AMem) (hl : HL) (w : World) (l : List AVal) (tmps : Array Value) (sz n : Nat) (sv zv : Value) (xs : List Value) (av : AVal) (hl' : HL) (M' : AMem) : Prop :=
  ∃ (b off cap : Nat) (w1 : World) (g' : G) (c : Array Value) (el : TypeId) (fr : Nat × Nat),
    (Builtin.append_ #[t, u] ty #[sv, zv]).run P w = .ok (.slice (some ⟨b, off, none⟩) (n + 1) cap) w1 ∧
    w1.heap[b]? = some (.cells c el fr) ∧ fr.2 ≤ off + n * sz ∧ off + n * sz + xs.length ≤ c.size ∧ (∀ v ∈ xs, v.oneCell' = true) ∧ (∀ o, g'.obj o ≠ some b) ∧
    VRel g' M'.hw hl' av (.slice (some ⟨b, off, none⟩) (n + 1) cap) ∧ GLe g M.hw hl g' M'.hw hl' ∧
    SRel C g' M' hl' (w1.setRow b (c.toList.take (off + n * sz) ++ xs ++ c.toList.drop (off + n * sz + xs.length)).toArray) l tmps ∧ g'.res = g.res ∧ g'.w0 = g.w0

theorem PushOK.dirty {t u ty : TypeId} {sz n : Nat} {sv zv : Value} {xs : List Value} {M1 : AMem} {hl1 : HL} (h : PushOK P C t u ty g M hl w l tmps sz n sv zv xs av hl1 M1) (d : List Nat) : PushOK P C t u ty g M hl w l tmps sz n sv zv xs av hl1 { M1 with dirty := d } := by
  obtain ⟨b, off, cap, w1, g', c, el, fr, h1, h2, h3, h4, h5, h6, h7, h8, h9, h10, h11⟩ := h
  exact ⟨b, off, cap, w1, g', c, el, fr, h1, h2, h3, h4, h5, h6, h7, h8, h9.dirty d, h10, h11⟩

theorem cells_one {hw : Stk Nat} {cs : List AVal} {vs : List Value} (hr : VRels g hw Stk.empty cs vs) (hc : allCells cs = true) : ∀ v ∈ vs, v.oneCell' = true := by
  intro v hv
  have hlen := VRels_length hr
  obtain ⟨j, hj, hjv⟩ := List.getElem_of_mem hv
  obtain ⟨u, hu, ru⟩ := VRels_get hr (List.getElem?_eq_getElem (show j < cs.length by omega))
  rw [List.getElem?_eq_getElem hj] at hu
  injection hu with hu
  rw [← hjv, hu]
  exact isCell_one (allCells_get hc (List.getElem?_eq_getElem _)) ru

theorem push_world (s : SRel C g M hl w l a.tmps) {t u ty e : TypeId} (ht : P.underlying t = some (.slice e)) {d : TypeDesc} (hu : P.underlying u = some d) (hd : ∀ k, d ≠ .int k) {i : TypeInfo} (hi : P.info? e = some i)
    (h0 : 0 < i.size) (hb : 0 < i.bytes) {zc : List AVal} (hzc : zeroCellsT P e = some zc) {sa za : AVal} {sv zv : Value} (rs : VRel g M.hw hl sa sv) (rz : VRel g M.hw hl za zv) {r0 : List AVal} (hz0 : rowsF M i.size za = some [r0])
    (hr0 : allCells r0 = true) {row : List AVal} {xs : List Value} (rrow : VRels g M.hw Stk.empty row xs) (hrc : allCells row = true) (hrl : row.length = i.size) {n : Nat} (hn : lenF false sa = some n)
    (h : appendF false i.size i.bytes M hl sa [row] = some (av, hl', M')) : PushOK P C t u ty g M hl w l a.tmps i.size n sv zv xs av hl' M' := by
  -- the zero
  obtain ⟨zv', z1, z2, z3, _⟩ := zeroCellsT_run hzc
  have hz : i.zero = some zv' := by
    have := z1 w
    cases hzz : i.zero with
    | none => simp [zeroValue, typeInfo, hi, hzz] at this
    | some z => simp [zeroValue, typeInfo, hi, hzz] at this; rw [this]
  have hzs : zv'.cells.size = i.size := by
    have h1 := VRels_length (z2 g M.hw hl)
    have h2 : szT P e = some i.size := by simp [szT, hi]
    rw [h2] at z3; injection z3 with z3
    simp only [Array.length_toList] at h1; omega
  have hxl := VRels_length rrow
  obtain ⟨k1, k2, zs, hzs', hfc⟩ := rowsF_sound (P := P) s rz hz0
  have hzl := VRels_length hzs'
  have hr0l : r0.length = i.size := k2 r0 List.mem_cons_self
  have hzl' : zs.length = i.size := by simp at hzl; omega
  have hzone := cells_one hzs' (by simpa using hr0)
  have hxone := cells_one rrow hrc
  -- a new row, of one owner
  have grown : ∀ (rows : List (List AVal)) (base : Option Addr) (sCap : Nat) (us : List Value) (σ : Bool × Nat) (e' : Nat) (hl1 : HL) (hw1 : Stk Nat), sv = .slice base rows.length sCap → (∀ r ∈ rows, r.length = i.size) →
      VRels g M.hw Stk.empty rows.flatten us → (Builtin.firstCells i.size rows.length (.slice base rows.length sCap)).run P w.drew = .ok ⟨us⟩ w.drew → sCap < rows.length + 1 → n = rows.length →
      (rows.length + 1) * i.bytes ≤ 1099511627776 → OwnStep hl M.hw σ e' hl1 hw1 → PushOK P C t u ty g M hl w l a.tmps i.size n sv zv xs (.sl i.size (rows ++ [row]) (tokOf σ e')) hl1 { M with hw := hw1 } := by
    intro rows base sCap us σ e' hl1 hw1 hv hrows hus hfo hgt hnr hfit st
    subst hnr
    have hl1' : rows.flatten.length = rows.length * i.size := len_rows hrows
    have hul := VRels_length hus
    have hfc' := hfc 1 (Nat.le_refl _) w.drew (fun _ _ h => h)
    rw [List.take_of_length_le (by omega)] at hfc'
    have hrun := run_append_more (w := w) (ty := ty) ht hu hd hi hz k1 (by simpa using hgt) hb (by simp; omega) hfc' hfo
    simp only [List.length_cons, List.length_nil, Nat.zero_add] at hrun
    have hcap := grownCap_ge w (rows.length + 1) sCap e
    generalize hcapv : grownCap w (rows.length + 1) sCap e = cap at hrun hcap
    generalize hpad : (Builtin.zeroCells zv'.cells (cap - (rows.length + 1))) = pad at hrun
    have hpads : pad.size = (cap - (rows.length + 1)) * i.size := by rw [← hpad]; simp [size_zeroCells, hzs]
    have hcs : ((⟨us⟩ : Array Value) ++ (⟨zs⟩ : Array Value) ++ pad).toList = us ++ zs ++ pad.toList := by simp
    have husl : us.length = rows.length * i.size := by omega
    have htake : (us ++ zs ++ pad.toList).take (0 + rows.length * i.size) = us := by
      rw [Nat.zero_add, List.append_assoc, List.take_left' husl]
    have hdrop : (us ++ zs ++ pad.toList).drop (0 + rows.length * i.size + xs.length) = pad.toList := by
      rw [Nat.zero_add, List.drop_left']
      simp; omega
    have hcell : ∀ (j : Nat) (c : AVal), (rows ++ [row]).flatten[j]? = some c → ∃ v, (us ++ xs ++ pad.toList).toArray[j]? = some v ∧ VRel g M.hw Stk.empty c v := by
      intro j c hj
      rw [List.flatten_append] at hj
      have hlt := (List.getElem?_eq_some_iff.1 hj).1
      have hr2 : VRels g M.hw Stk.empty ([row].flatten) xs := by simpa using rrow
      obtain ⟨v, hv, rv⟩ := VRels_get (VRels_append hus hr2) hj
      refine ⟨v, ?_, rv⟩
      rw [List.length_append, hl1', show ([row].flatten).length = row.length by simp] at hlt
      rw [List.getElem?_toArray, List.getElem?_append_left (by rw [List.length_append]; omega)]
      exact hv
    have hflen : (rows ++ [row]).flatten.length = (rows.length + 1) * i.size := by
      rw [List.flatten_append, List.length_append, hl1']
      simp [hrl, Nat.add_mul]
    have hsz2 : cap * i.size ≤ (us ++ xs ++ pad.toList).toArray.size := by
      simp only [List.size_toArray, List.length_append, Array.length_toList, hpads, husl]
      rw [← hxl, hrl]
      have : rows.length * i.size + i.size + (cap - (rows.length + 1)) * i.size = cap * i.size := by
        rw [show rows.length * i.size + i.size = (rows.length + 1) * i.size by rw [Nat.add_mul, Nat.one_mul], ← Nat.add_mul]
        congr 1; omega
      omega
    have hheap0 := heap_drew_alloc w (.cells ((⟨us⟩ : Array Value) ++ (⟨zs⟩ : Array Value) ++ pad) e)
    have hheap1 := setRow_heap (w.drew.alloc (.cells ((⟨us⟩ : Array Value) ++ (⟨zs⟩ : Array Value) ++ pad) e)) w.heap.size _ (us ++ xs ++ pad.toList).toArray e (0, 0) hheap0
    have hext : Ext w ((w.drew.alloc (.cells ((⟨us⟩ : Array Value) ++ (⟨zs⟩ : Array Value) ++ pad) e)).setRow w.heap.size (us ++ xs ++ pad.toList).toArray) := by
      have h1 := ext_drew_alloc w (.cells ((⟨us⟩ : Array Value) ++ (⟨zs⟩ : Array Value) ++ pad) e)
      refine ⟨by rw [setRow_size]; exact h1.size, fun b hb => ?_, rfl, rfl, rfl⟩
      rw [setRow_other _ _ _ _ (by omega)]
      exact h1.block b hb
    have hto : (rows ++ [row]).flatten.length ≤ cap * i.size := by rw [hflen]; exact Nat.mul_le_mul_right _ hcap
    obtain ⟨le, s2⟩ := s.grow st hext (Nat.le_refl _) hheap1 hcell hto hsz2
    refine ⟨w.heap.size, 0, cap, _, _, _, e, (0, 0), by rw [hv]; exact hrun, hheap0, Nat.zero_le _, ?_, hxone, ?_, ?_, le, ?_, rfl, rfl⟩
    · simp only [Array.size_append, List.size_toArray]
      omega
    · intro o ho
      have := s.wr.objlt ho; omega
    · simp only [VRel]
      refine ⟨w.heap.size, 0, cap, by simp, by simpa using hcap, h0, fun r hr => ?_, FixAt.room, ?_⟩
      · rcases List.mem_append.1 hr with hr | hr
        · exact hrows r hr
        · rw [List.mem_singleton] at hr; subst hr; exact hrl
      · exact st.tok (G.room_tail g σ _ _ _ _) (by rw [List.length_append, hflen]; simp) (by omega)
    · rw [hcs, htake, hdrop]
      exact s2
  -- rows behind an owner's others
  have owned : ∀ (rows : List (List AVal)) (σ : Bool × Nat) (e0 : Nat) (hl1 : HL) (hw1 : Stk Nat) (b off cap : Nat), sv = .slice (some ⟨b, off, none⟩) rows.length cap → rows.length ≤ cap → (∀ r ∈ rows, r.length = i.size) →
      FixAt g b off rows.flatten → liveAt hl M.hw σ = some e0 → TailIs (tailAt g σ) b off i.size rows.length cap → n = rows.length → (rows.length + 1) * i.bytes ≤ 1099511627776 →
      OwnStep hl M.hw σ (e0 + 1) hl1 hw1 → ∀ d, PushOK P C t u ty g M hl w l a.tmps i.size n sv zv xs (.sl i.size (rows ++ [row]) (tokOf σ (e0 + 1))) hl1 { M with hw := hw1, dirty := d } := by
    intro rows σ e0 hl1 hw1 b off cap hv hlc hrows hf hlive htail hnr hfit st d0
    refine PushOK.dirty (M1 := { M with hw := hw1 }) ?_ d0
    subst hnr
    have hl1' : rows.flatten.length = rows.length * i.size := len_rows hrows
    by_cases hroom : rows.length + 1 ≤ cap
    · obtain ⟨tb, fr, to, ht1, ht2⟩ := htail
      rcases ht2 with ⟨h1, _⟩ | ⟨rfl, hfr, hto⟩
      · omega
      · have hto' : fr + row.length ≤ to := by
          rw [hrl, ← hfr, ← hto, Nat.add_assoc]
          have : rows.length * i.size + i.size = (rows.length + 1) * i.size := by rw [Nat.add_mul, Nat.one_mul]
          rw [this]
          exact Nat.add_le_add_left (Nat.mul_le_mul_right _ hroom) _
        obtain ⟨w', q1, le, s2⟩ := s.lay (P := P) st hlive ht1 rrow hrc hto'
        obtain ⟨tb', fr', to', k3, ok⟩ := s.tailOK hlive
        rw [ht1] at k3
        simp only [Option.some.injEq, Prod.mk.injEq] at k3
        obtain ⟨rfl, rfl, rfl⟩ := k3
        obtain ⟨c, el, lo, hi', hheap, hsz, hfz⟩ := ok.there
        have q3 := run_storeCells_atF P tb fr el (lo, hi') xs 0 c w hheap (by simpa using hfz) (by simp; omega) hxone
        rw [q1] at q3
        simp only [Nat.add_zero, Result.ok.injEq, true_and] at q3
        have q4 := run_storeCells_atF P tb fr el (lo, hi') zs 0 c w hheap (by simpa using hfz) (by simp; omega) hzone
        simp only [Nat.add_zero] at q4
        have hfc' := hfc 1 (Nat.le_refl _) w (fun _ _ h => h)
        rw [List.take_of_length_le (by omega)] at hfc'
        have q2 := run_append_fit (w := w) (ty := ty) ht hu hd hi k1 (base := some ⟨tb, off, none⟩) (by simpa using hroom) hfc'
        simp only [Addr.add_lit, hfr, q4, Result.andThen_ok, List.length_cons, List.length_nil, Nat.zero_add] at q2
        have hheap1 := setRow_heap w tb c (c.toList.take fr ++ zs ++ c.toList.drop (fr + zs.length)).toArray el (lo, hi') hheap
        have hfrl : fr ≤ c.toList.length := by have := ok.le; simp; omega
        refine ⟨tb, off, cap, _, g.room σ (tb, fr + row.length, to) tb fr row, _, el, (lo, hi'), by rw [hv]; exact q2, hheap1, by rw [hfr]; simpa using hfz, ?_, hxone, ok.obj, ?_, le, ?_, rfl, rfl⟩
        · rw [hfr]
          simp only [List.size_toArray, List.length_append, List.length_take, List.length_drop, Array.length_toList] at hfrl ⊢
          omega
        · simp only [VRel]
          refine ⟨tb, off, cap, by simp, by simpa using hroom, h0, fun r hr => ?_, ?_, ?_⟩
          · rcases List.mem_append.1 hr with hr | hr
            · exact hrows r hr
            · rw [List.mem_singleton] at hr; subst hr; exact hrl
          · rw [List.flatten_append]
            refine FixAt_append (hf.mono le.fix) ?_
            rw [hl1', hfr]
            have : [row].flatten = row := by simp
            rw [this]
            exact FixAt.room
          · refine st.tok (G.room_tail g σ _ _ _ _) ?_ hto
            simp only [List.length_append, List.length_cons, List.length_nil, Nat.add_mul, hrl]; omega
        · rw [setRow_setRow, hfr]
          have e1 : (c.toList.take fr ++ zs ++ c.toList.drop (fr + zs.length)).take fr = c.toList.take fr := by
            rw [List.append_assoc, List.take_left' (by simp at hfrl ⊢; omega)]
          have e2 : (c.toList.take fr ++ zs ++ c.toList.drop (fr + zs.length)).drop (fr + xs.length) = c.toList.drop (fr + xs.length) := by
            rw [show fr + xs.length = fr + zs.length by omega, List.drop_left' (by simp at hfrl ⊢; omega)]
          show SRel C _ _ _ (w.setRow tb ((c.toList.take fr ++ zs ++ c.toList.drop (fr + zs.length)).take fr ++ xs ++ (c.toList.take fr ++ zs ++ c.toList.drop (fr + zs.length)).drop (fr + xs.length)).toArray) l a.tmps
          rw [e1, e2, ← q3]
          exact s2
    · obtain ⟨us, rus, hus⟩ := cells_run (g := g) (hl := Stk.empty) (w := w) (hw := M.hw) (b := b) (off := off) (fix_cells s.wr hf)
      have hul := VRels_length rus
      refine grown rows (some ⟨b, off, none⟩) cap us σ _ hl1 hw1 hv hrows rus ?_ (by omega) rfl hfit st
      exact run_firstCells_some w.drew i.size rows.length ⟨b, off, none⟩ rows.length cap us (by omega) (fun j v hj => by rw [Addr.add_lit]; exact hus j v hj)
  have push := OwnStep.push (hl := hl) (hw := M.hw) s.lo.ok s.wr.okH
  delta appendF growF at h
  simp only at h
  split at h
  · rename_i hn0
    simp at hn0
  · split at h
    · simp only [lenF, Option.some.injEq] at hn
      simp only [VRel] at rs
      split at h
      · rename_i hfit
        rw [Stk.ble_iff] at hfit
        simp only [Bool.false_eq_true, if_false, Option.some.injEq, Prod.mk.injEq] at h
        obtain ⟨rfl, rfl, rfl⟩ := h
        exact grown [] none 0 [] (true, hl.n) _ _ _ rs (fun r hr => by simp at hr) VRels_nil (by simp [Builtin.firstCells]) (by simp) hn.symm (by simpa using hfit) (push _)
      · cases h
    · rename_i sz' rows tok
      simp only [lenF, Option.some.injEq] at hn
      split at h
      · rename_i hsz
        rw [nbeq] at hsz; subst hsz
        simp only [VRel] at rs
        obtain ⟨b, off, cap, hv, r1, _, r3, hf, htok⟩ := rs
        obtain ⟨us, rus, hus⟩ := cells_run (g := g) (hl := Stk.empty) (w := w) (hw := M.hw) (b := b) (off := off) (fix_cells s.wr hf)
        have hul := VRels_length rus
        have hl1' : rows.flatten.length = rows.length * i.size := len_rows r3
        have hfo := run_firstCells_some (P := P) w.drew i.size rows.length ⟨b, off, none⟩ rows.length cap us (by omega) (fun j v hj => by rw [Addr.add_lit]; exact hus j v hj)
        simp only [Bool.false_eq_true, if_false] at h
        split at h
        · simp only [TokRel] at htok
          split at h
          · rename_i hfit
            rw [Stk.ble_iff] at hfit
            simp only [Option.some.injEq, Prod.mk.injEq] at h
            obtain ⟨rfl, rfl, rfl⟩ := h
            exact grown rows _ cap us (true, hl.n) _ _ _ hv r3 rus hfo (by omega) hn.symm (by simpa using hfit) (push _)
          · cases h
        · rename_i tt te
          split at h
          · rename_i te' hget
            split at h
            · rename_i hcc
              simp only [Bool.and_eq_true, nbeq, Stk.ble_iff] at hcc
              obtain ⟨⟨rfl, hfit⟩, hcell⟩ := hcc
              simp only [Option.some.injEq, Prod.mk.injEq] at h
              obtain ⟨rfl, rfl, rfl⟩ := h
              exact owned rows (true, tt) te _ _ b off cap hv r1 r3 hf (live_loc.2 hget) (htok.2.2 hget) hn.symm (by simpa using hfit) (OwnStep.setL s.lo.ok s.wr.okH hget (by simp)) M.dirty
            · cases h
          · cases h
        · rename_i tt te
          split at h
          · rename_i te' hget
            split at h
            · rename_i hcc
              simp only [Bool.and_eq_true, nbeq, Stk.ble_iff] at hcc
              obtain ⟨⟨rfl, hfit⟩, hcell⟩ := hcc
              simp only [Option.some.injEq, Prod.mk.injEq] at h
              obtain ⟨rfl, rfl, rfl⟩ := h
              exact owned rows (false, tt) te _ _ b off cap hv r1 r3 hf hget (htok.2.2 hget) hn.symm (by simpa using hfit) (OwnStep.setW s.lo.ok s.wr.okH hget (by simp)) (markOwn tt M.dirty)
            · cases h
          · cases h
        · cases h
      · cases h
    · cases h

end
end Go.Abs
end

/-
  A region of drawn order that ends with an append whose row is written behind it: the whole of it.
-/
section
namespace Go.Abs

def opdNot (x : Operand) (l : List Nat) : Bool :=
  match x with
  | .tmp t => !memN t l
  | _ => true

def notInt : TypeDesc → Bool
  | .int _ => false
  | _ => true

def noGuard (o : Oper) : Bool := match o.guard with | none => true | some _ => false

/-- The place that is written at the end. -/
def sufVar (P : Program) (C : Cfg) (N : Nat) (ta ti : Nat) (xO iO vO : Operand) : Option Oper → Option (List AOper × Opd × List AOper)
  | none => if opdNot vO [ta, ti] then (copd C N vO).map fun v' => ([], v', []) else none
  | some o3 =>
    match o3.op, o3.dst, vO with
    | .fieldAddr S yO f, some tf, .tmp tf' =>
      (match P.underlying S, copd C N yO with
      | some (.struct fs), some y' => (match fs[f]? with
        | some fl => (match szT P fl.type with
          | some nf => if Nat.blt 0 nf && Nat.beq tf tf' && Nat.blt tf N && !(Nat.beq tf ta) && !(Nat.beq tf ti) && noGuard o3 && opdNot yO [ta, ti, tf] && opdNot xO [tf] && opdNot iO [tf] then
              some ([⟨some tf, .p (.faddr fl.offset y'), none⟩], .tmp tf, [⟨some tf, .skip, none⟩]) else none
          | none => none)
        | none => none)
      | _, _ => none)
    | _, _, _ => none

def sufGo (P : Program) (C : Cfg) (N : Nat) (o0 o1 o2 : Oper) (of : Option Oper) (ov : Oper) : Option (List AOper) :=
  match o0.op, o0.dst, o1.op, o1.dst, o2.op, o2.dst, ov.op, ov.dst with
  | .call c, some ta, .indexAddr T1 (.tmp ta1) iO, some ti, .store e2 (.tmp ti1) xO, none, .store V vO (.tmp ta2), none =>
    (match c.callee, c.args.toList, c.argTypes.toList with
    | .builtin .append, [sO, .tmp tz], [t, u] =>
      (match P.underlying t, P.underlying u, P.underlying T1, copd C N sO, copd C N xO, copd C N iO with
      | some (.slice e), some d, some (.slice e1), some s', some x', some i' =>
        (match P.info? e, zeroCellsT P e, szT P e1, szT P e2, szT P V with
        | some inf, some _, some n1, some n2, some nV =>
          if notInt d && Nat.blt 0 inf.size && Nat.blt 0 inf.bytes && Nat.beq n1 inf.size && Nat.beq n2 inf.size && Nat.beq ta ta1 && Nat.beq ta ta2 && Nat.beq ti ti1 && Nat.blt ta N && Nat.blt ti N && Nat.blt tz N && !(Nat.beq ti ta) &&
              noGuard o0 && noGuard o1 && noGuard o2 && noGuard ov && opdNot xO [ta, ti] && opdNot iO [ta, ti] then
            (sufVar P C N ta ti xO iO vO of).map fun (mid, v', ends) =>
              ⟨some ta, .w (.push inf.size inf.bytes s' (.tmp tz) x' i'), none⟩ :: (mid ++ (⟨none, .w (.store nV v' (.tmp ta)), none⟩ :: ⟨some ta, .skip, none⟩ :: ⟨some ti, .skip, none⟩ :: ends))
          else none
        | _, _, _, _, _ => none)
      | _, _, _, _, _, _ => none)
    | _, _, _ => none)
  | _, _, _, _, _, _, _, _ => none

def hasAll (m : Nat) (l : List Nat) : Nat → Bool
  | 0 => true
  | k + 1 => memN k l && hasAll m l k

def guardsUnder (m : Nat) : List Oper → Bool
  | [] => true
  | o :: l => (match o.guard with | none => true | some (j, _) => Nat.blt j m) && guardsUnder m l

/-- The region's last part, if it is one of these. -/
def sufOps (P : Program) (C : Cfg) (N : Nat) (ops : List Oper) (m : Nat) : Option (List AOper) :=
  match dropN m ops with
  | [o0, o1, o2, ov] =>
    if hasAll m (preds o0.after.toList) m && memN m (preds o1.after.toList) && memN m (preds o2.after.toList) && memN (m + 1) (preds o2.after.toList) && memN m (preds ov.after.toList) && guardsUnder m (takeN m ops) then
      sufGo P C N o0 o1 o2 none ov else none
  | [o0, o1, o2, o3, ov] =>
    if hasAll m (preds o0.after.toList) m && memN m (preds o1.after.toList) && memN m (preds o2.after.toList) && memN (m + 1) (preds o2.after.toList) && memN m (preds o3.after.toList) && memN m (preds ov.after.toList) &&
        memN (m + 3) (preds ov.after.toList) && guardsUnder m (takeN m ops) then
      sufGo P C N o0 o1 o2 (some o3) ov else none
  | _ => none

/-! ## What the tests say -/

structure SufB (P : Program) (C : Cfg) (N : Nat) (o0 o1 o2 ov : Oper) (c : Call) (ta ti tz : Nat) (t u e T1 e1 e2 V : TypeId) (d : TypeDesc) (inf : TypeInfo) (sO xO iO vO : Operand) (s' x' i' : Opd) (nV : Nat) : Prop where
  p0 : o0.op = .call c
  d0 : o0.dst = some ta
  g0 : o0.guard = none
  cc : c.callee = .builtin .append
  ca : c.args.toList = [sO, .tmp tz]
  ct : c.argTypes.toList = [t, u]
  p1 : o1.op = .indexAddr T1 (.tmp ta) iO
  d1 : o1.dst = some ti
  g1 : o1.guard = none
  p2 : o2.op = .store e2 (.tmp ti) xO
  d2 : o2.dst = none
  g2 : o2.guard = none
  pv : ov.op = .store V vO (.tmp ta)
  dv : ov.dst = none
  gv : ov.guard = none
  ut : P.underlying t = some (.slice e)
  uu : P.underlying u = some d
  uT : P.underlying T1 = some (.slice e1)
  hd : ∀ k, d ≠ .int k
  hs : copd C N sO = some s'
  hx : copd C N xO = some x'
  hi : copd C N iO = some i'
  hinf : P.info? e = some inf
  zero : ∃ z, zeroCellsT P e = some z
  s0 : 0 < inf.size
  b0 : 0 < inf.bytes
  s1 : szT P e1 = some inf.size
  s2 : szT P e2 = some inf.size
  sV : szT P V = some nV
  la : ta < N
  li : ti < N
  lz : tz < N
  ne : ti ≠ ta
  nx : opdNot xO [ta, ti] = true
  ni : opdNot iO [ta, ti] = true

theorem noGuard_eq {o : Oper} (h : noGuard o = true) : o.guard = none := by
  unfold noGuard at h
  split at h
  · assumption
  · cases h

theorem nbeq_false {a b : Nat} (h : Nat.beq a b = false) : a ≠ b := fun e => by
  have : Nat.beq a b = true := (nbeq a b).2 e
  rw [this] at h; cases h

theorem sufGo_of {P : Program} {C : Cfg} {N : Nat} {o0 o1 o2 : Oper} {of : Option Oper} {ov : Oper} {suf : List AOper} (h : sufGo P C N o0 o1 o2 of ov = some suf) :
    ∃ c ta ti tz t u e T1 e1 e2 V d inf sO xO iO vO s' x' i' nV mid v' ends, SufB P C N o0 o1 o2 ov c ta ti tz t u e T1 e1 e2 V d inf sO xO iO vO s' x' i' nV ∧ sufVar P C N ta ti xO iO vO of = some (mid, v', ends) ∧
      suf = ⟨some ta, .w (.push inf.size inf.bytes s' (.tmp tz) x' i'), none⟩ :: (mid ++ (⟨none, .w (.store nV v' (.tmp ta)), none⟩ :: ⟨some ta, .skip, none⟩ :: ⟨some ti, .skip, none⟩ :: ends)) := by
  unfold sufGo at h
  split at h
  · rename_i c ta T1 ta1 iO ti e2 ti1 xO V vO ta2 a1 a2 a3 a4 a5 a6 a7 a8
    split at h
    · rename_i sO tz t u b1 b2 b3
      split at h
      · rename_i e d e1 s' x' i' c1 c2 c3 c4 c5 c6
        split at h
        · rename_i inf z n1 n2 nV f1 f2 f3 f4 f5
          split at h
          · rename_i hc
            simp only [Bool.and_eq_true, nbeq, Nat.blt_eq, Bool.not_eq_true'] at hc
            obtain ⟨⟨⟨⟨⟨⟨⟨⟨⟨⟨⟨⟨⟨⟨⟨⟨⟨k1, k2⟩, k3⟩, k4⟩, k5⟩, k6⟩, k7⟩, k8⟩, k9⟩, k10⟩, k11⟩, k12⟩, k13⟩, k14⟩, k15⟩, k16⟩, k17⟩, k18⟩ := hc
            subst k4 k5 k6 k7 k8
            cases hv : sufVar P C N ta ti xO iO vO of with
            | none => rw [hv] at h; cases h
            | some r =>
              obtain ⟨mid, v', ends⟩ := r
              rw [hv] at h
              simp only [Option.map_some, Option.some.injEq] at h
              exact ⟨c, ta, ti, tz, t, u, e, T1, e1, e2, V, d, inf, sO, xO, iO, vO, s', x', i', nV, mid, v', ends,
                ⟨a1, a2, noGuard_eq k13, b1, b2, b3, a3, a4, noGuard_eq k14, a5, a6, noGuard_eq k15, a7, a8, noGuard_eq k16, c1, c2, c3, (fun k hk => by subst hk; cases k1), c4, c5, c6, f1, ⟨z, f2⟩, k2, k3, f3, f4, f5, k9, k10, k11, nbeq_false k12, k17, k18⟩,
                hv, h.symm⟩
          · cases h
        · cases h
      · cases h
    · cases h
  · cases h

end Go.Abs
end

/-
  The place that is written at the end of such a region.
-/
section
namespace Go.Abs

section
variable {P : Program} {C : Cfg} {N : Nat} {ob : Bool} {g : G} {M : AMem} {hl : HL} {w : World} {l : List AVal} {a : Act} {call : CallH} {ta ti : Nat} {xO iO vO : Operand}

theorem eval_same {a a' : Act} {x : Operand} {l : List Nat} (hx : opdNot x l = true) (h : ∀ t, t ∉ l → a'.tmps.getD t undef = a.tmps.getD t undef) : a'.eval x = a.eval x := by
  cases x with
  | tmp t =>
    refine h t fun hm => ?_
    simp only [opdNot, Bool.not_eq_true'] at hx
    rw [(memN_iff t l).2 hm] at hx; cases hx
  | _ => rfl

theorem opdNot_append {x : Operand} {l m : List Nat} (h : opdNot x l = true) (k : opdNot x m = true) : opdNot x (l ++ m) = true := by
  cases x with
  | tmp t =>
    simp only [opdNot, Bool.not_eq_true'] at h k ⊢
    cases hm : memN t (l ++ m) with
    | false => rfl
    | true =>
      rw [memN_iff, List.mem_append] at hm
      rcases hm with hm | hm
      · rw [(memN_iff t l).2 hm] at h; cases h
      · rw [(memN_iff t m).2 hm] at k; cases k
  | _ => rfl

theorem runOps_cons {o : AOper} {ops : List AOper} {fr : Fr} {M : AMem} {r : Fr × AMem} (hg : o.guard = none) (h : runOps call (o :: ops) fr M = some r) :
    ∃ v hl1 M1, runAOp call o.op fr M = some (v, hl1, M1) ∧ runOps call ops ⟨putA fr.tmps o.dst v, hl1⟩ M1 = some r := by
  simp only [runOps, hg, wantedA, if_true] at h
  cases hr : runAOp call o.op fr M with
  | none => rw [hr] at h; cases h
  | some x =>
    obtain ⟨v, hl1, M1⟩ := x
    rw [hr] at h
    exact ⟨v, hl1, M1, rfl, h⟩

/-- How the place is come by, at each state of the slots that are in play. -/
structure VarOK (P : Program) (ta ti : Nat) (xO iO vO : Operand) (of : Option Oper) (tfs : List Nat) (ends : List AOper) (a a3 : Act) (va : Addr) : Prop where
  same : ∀ t, t ∉ tfs → a3.tmps.getD t undef = a.tmps.getD t undef
  nta : ta ∉ tfs
  nti : ti ∉ tfs
  ptrs : ∀ t ∈ tfs, a3.tmps.getD t undef = .pointer (some va)
  nx : opdNot xO tfs = true
  ni : opdNot iO tfs = true
  ends_eq : ends = tfs.map fun t => ⟨some t, .skip, none⟩
  direct : of = none → tfs = [] ∧ ∀ a' : Act, (∀ t, t ∉ [ta, ti] → a'.tmps.getD t undef = a.tmps.getD t undef) → a'.eval vO = .pointer (some va)
  byField : ∀ o3, of = some o3 → ∃ tf, tfs = [tf] ∧ o3.dst = some tf ∧ o3.guard = none ∧ vO = .tmp tf ∧
    ∀ a' : Act, (∀ t, t ∉ [ta, ti, tf] → a'.tmps.getD t undef = a.tmps.getD t undef) → ∀ w, (execOp a'.eval o3).run P w = .ok (.value (.pointer (some va))) w

theorem suf_var {of : Option Oper} {mid ends rest : List AOper} {v' : Opd} {nV : Nat} (hv : sufVar P C N ta ti xO iO vO of = some (mid, v', ends)) (s : SRel C g M hl w l a.tmps) (hN : N ≤ a.tmps.size) (_hta : ta < N)
    {r : Fr × AMem} (h : runOps call (mid ++ (⟨none, .w (.store nV v' (.tmp ta)), none⟩ :: rest)) ⟨l, hl⟩ M = some r) :
    ∃ (l3 : List AVal) (a3 : Act) (tfs : List Nat) (ov iv bo : Nat), g.obj ov = some bo ∧ v'.ev l3 = .ptr ov iv ∧ a3.eval vO = .pointer (some ⟨bo, iv, none⟩) ∧ copd C N vO = some v' ∧ SRel C g M hl w l3 a3.tmps ∧
      runOps call (⟨none, .w (.store nV v' (.tmp ta)), none⟩ :: rest) ⟨l3, hl⟩ M = some r ∧ lget .undef l3 ta = lget .undef l ta ∧ a3.tmps.size = a.tmps.size ∧ a3.defers = a.defers ∧ VarOK P ta ti xO iO vO of tfs ends a a3 ⟨bo, iv, none⟩ := by
  have ptr : ∀ (l3 : List AVal), runOps call (⟨none, .w (.store nV v' (.tmp ta)), none⟩ :: rest) ⟨l3, hl⟩ M = some r → ∃ ov iv, v'.ev l3 = .ptr ov iv := by
    intro l3 h
    obtain ⟨v, hl1, M1, h1, _⟩ := runOps_cons rfl h
    simp only [runAOp, WriteOp.run] at h1
    split at h1
    · rename_i ov iv e
      exact ⟨ov, iv, e⟩
    · cases h1
  cases of with
  | none =>
    simp only [sufVar] at hv
    split at hv
    · rename_i hn
      cases hc : copd C N vO with
      | none => rw [hc] at hv; cases hv
      | some y =>
        rw [hc] at hv
        simp only [Option.map_some, Option.some.injEq, Prod.mk.injEq] at hv
        obtain ⟨rfl, rfl, rfl⟩ := hv
        obtain ⟨ov, iv, e⟩ := ptr l h
        have rv := copd_sound s hN hc
        rw [e] at rv; simp only [VRel] at rv
        obtain ⟨bo, hb, hv⟩ := rv
        refine ⟨l, a, [], ov, iv, bo, hb, e, hv, rfl, s, h, rfl, rfl, rfl, ⟨fun t _ => rfl, by simp, by simp, by simp, by cases xO <;> rfl, by cases iO <;> rfl, rfl, fun _ => ⟨rfl, fun a' h' => ?_⟩, fun o3 h' => by cases h'⟩⟩
        rw [eval_same hn h']; exact hv
    · cases hv
  | some o3 =>
    simp only [sufVar] at hv
    split at hv
    · rename_i S yO f tf tf' e1 e2
      split at hv
      · rename_i fs y' hu hy
        split at hv
        · rename_i fl hfl
          split at hv
          · rename_i nf hnf
            split at hv
            · rename_i hc
              simp only [Bool.and_eq_true, nbeq, Nat.blt_eq, Bool.not_eq_true'] at hc
              obtain ⟨⟨⟨⟨⟨⟨⟨⟨k1, k2⟩, k3⟩, k4⟩, k5⟩, k6⟩, k7⟩, k8⟩, k9⟩ := hc
              subst k2
              have k4 := nbeq_false k4
              have k5 := nbeq_false k5
              simp only [Option.some.injEq, Prod.mk.injEq] at hv
              obtain ⟨rfl, rfl, rfl⟩ := hv
              obtain ⟨avf, hl1, M1, h1, h2⟩ := runOps_cons rfl h
              obtain ⟨q1, q2, q3⟩ := runP h1
              subst q2 q3
              clear h1
              have h1 := q1
              clear q1
              obtain ⟨ov, iv, e⟩ := ptr _ h2
              have et : avf = .ptr ov iv := by
                simp only [Opd.ev, putA, lget_lset, if_true] at e; exact e
              have hn0 : nf ≠ 0 := by omega
              have runf : ∀ (a' : Act) b i w, a'.eval yO = .pointer (some ⟨b, i, none⟩) → (execOp a'.eval o3).run P w = .ok (.value (.pointer (some ⟨b, i + fl.offset, none⟩))) w := by
                intro a' b i w e
                have hz := szT_run hnf w
                simp [execOp, e1, e, Instr.fieldAt, run_underlying hu, hfl, Instr.sureAddr, fieldPlace, hz, hn0, Addr.add_lit]
              simp only [PureOp.run] at h1
              split at h1
              · rename_i oy i0 ey
                simp only [Option.some.injEq] at h1
                rw [et] at h1
                simp only [AVal.ptr.injEq] at h1
                obtain ⟨rfl, rfl⟩ := h1
                have ry := copd_sound s hN hy
                rw [ey] at ry; simp only [VRel] at ry
                obtain ⟨bo, hb, hvy⟩ := ry
                have hlt : tf < a.tmps.size := Nat.lt_of_lt_of_le k3 hN
                refine ⟨_, a.put (some tf) (.pointer (some ⟨bo, i0 + fl.offset, none⟩)), [tf], oy, i0 + fl.offset, bo, hb, e, put_self hlt, by simp [copd, Nat.blt_eq, k3], ?_, h2, ?_, Act.put_size _ _ _, Act.put_defers' _ _ _, ?_⟩
                · refine s.put ?_ _
                  rw [et]; simp only [VRel]
                  exact ⟨bo, hb, rfl⟩
                · simp only [putA, lget_lset, if_neg k4]
                · refine ⟨fun t ht => put_other (fun h => ?_), by simpa using Ne.symm k4, by simpa using Ne.symm k5, fun t ht => ?_, k8, k9, rfl, fun h => (by cases h), fun o h => ?_⟩
                  · injection h with h; subst h; simp at ht
                  · simp at ht; subst ht; exact put_self hlt
                  · injection h with h; subst h
                    refine ⟨tf, rfl, e2, noGuard_eq k6, rfl, fun a' h' w => runf a' bo i0 w ?_⟩
                    rw [eval_same k7 h']; exact hvy
              · rename_i c k ey
                simp only [Option.some.injEq] at h1
                rw [et] at h1; cases h1
              · cases h1
            · cases hv
          · cases hv
        · cases hv
      · cases hv
    · cases hv

end
end Go.Abs
end

/-
  What the last part of such a region comes to.
-/
section
namespace Go.Abs

theorem setRow_comm (w : World) {b c : Nat} (h : b ≠ c) (x y : Array Value) : (w.setRow b x).setRow c y = (w.setRow c y).setRow b x := by
  unfold World.setRow
  congr 1
  apply Array.ext
  · simp
  · intro i h1 h2
    simp only [Array.getElem_modify]
    by_cases hb : b = i <;> by_cases hc : c = i <;> simp [hb, hc]
    exact absurd (hb.trans hc.symm) h

theorem allCells_seal : ∀ {l : List AVal}, allCells (sealAll l) = true → allCells l = true
  | [], _ => rfl
  | c :: l, h => by
    simp only [sealAll, allCells, Bool.and_eq_true] at h ⊢
    refine ⟨?_, allCells_seal h.2⟩
    have := h.1
    cases c <;> simp_all [AVal.sealv, AVal.isCell]

def clearAll (l : List AVal) : List Nat → List AVal
  | [] => l
  | t :: ts => clearAll (putA l (some t) .undef) ts

theorem clearAll_get : ∀ (ts : List Nat) (l : List AVal) (t : Nat), lget .undef (clearAll l ts) t = if t ∈ ts then .undef else lget .undef l t
  | [], l, t => by simp [clearAll]
  | s :: ts, l, t => by
    simp only [clearAll]
    rw [clearAll_get ts, putA_get]
    by_cases h1 : t ∈ ts
    · simp [h1]
    · by_cases h2 : s = t
      · subst h2; simp
      · have : t ≠ s := Ne.symm h2
        simp [h1, h2, this]

theorem runOps_skips {call : CallH} : ∀ (ts : List Nat) (l : List AVal) (hl : HL) (M : AMem), runOps call (ts.map fun t => ⟨some t, .skip, none⟩) ⟨l, hl⟩ M = some (⟨clearAll l ts, hl⟩, M)
  | [], l, hl, M => rfl
  | t :: ts, l, hl, M => by
    simp only [List.map_cons, runOps, wantedA, if_true, runAOp, clearAll]
    exact runOps_skips ts _ _ _

/-- The slots that are not in play are as they were. -/
def Kept (ts : List Nat) (a1 a : Act) : Prop := ∀ t, t ∉ ts → a.tmps.getD t undef = a1.tmps.getD t undef

structure SufD (P : Program) (C : Cfg) (o0 o1 o2 ov : Oper) (of : Option Oper) (ta ti : Nat) (tfs : List Nat) (vO : Operand) (a1 : Act) (v10 : Value) (ea va : Addr) (w1 w2 w01 wE wF : World) (gF : G) (MF : AMem) (hlF : HL) (lF : List AVal) : Prop where
  app : (execOp a1.eval o0).run P w1 = .ok (.value v10) w2
  idx : ∀ (a : Act) (w : World), Kept (ta :: ti :: tfs) a1 a → a.tmps.getD ta undef = v10 → (execOp a.eval o1).run P w = .ok (.value (.pointer (some ea))) w
  elem : ∀ (a : Act) (w w' : World), Kept (ta :: ti :: tfs) a1 a → a.tmps.getD ti undef = .pointer (some ea) → ((w = w2 ∧ w' = wE) ∨ (w = w01 ∧ w' = wF)) → (execOp a.eval o2).run P w = .ok .skip w'
  fld : ∀ o3, of = some o3 → ∃ tf, tfs = [tf] ∧ o3.dst = some tf ∧ o3.guard = none ∧ ∀ (a : Act), Kept (ta :: ti :: tfs) a1 a → ∀ w, (execOp a.eval o3).run P w = .ok (.value (.pointer (some va))) w
  nofld : of = none → tfs = []
  var : ∀ (a : Act) (w w' : World), Kept (ta :: ti :: tfs) a1 a → a.tmps.getD ta undef = v10 → (∀ t ∈ tfs, a.tmps.getD t undef = .pointer (some va)) → ((w = w2 ∧ w' = w01) ∨ (w = wE ∧ w' = wF)) → (execOp a.eval ov).run P w = .ok .skip w'
  fin : ∀ (a : Act), a.tmps.size = a1.tmps.size → Kept (ta :: ti :: tfs) a1 a → a.tmps.getD ta undef = v10 → a.tmps.getD ti undef = .pointer (some ea) → (∀ t ∈ tfs, a.tmps.getD t undef = .pointer (some va)) → SRel C gF MF hlF wF lF a.tmps
  nta : ta ∉ tfs
  nti : ti ∉ tfs

section
variable {P : Program} {C : Cfg} {N : Nat} {ob : Bool} {g : G} {M : AMem} {hl : HL} {w1 : World} {l : List AVal} {a1 : Act} {call : CallH}

theorem suf_data {o0 o1 o2 ov : Oper} {of : Option Oper} {c : Call} {ta ti tz : Nat} {t u e T1 e1 e2 V : TypeId} {d : TypeDesc} {inf : TypeInfo} {sO xO iO vO : Operand} {s' x' i' : Opd} {nV : Nat} {mid ends : List AOper} {v' : Opd}
    (B : SufB P C N o0 o1 o2 ov c ta ti tz t u e T1 e1 e2 V d inf sO xO iO vO s' x' i' nV) (hv : sufVar P C N ta ti xO iO vO of = some (mid, v', ends)) (s : SRel C g M hl w1 l a1.tmps) (hN : N ≤ a1.tmps.size)
    {fr' : Fr} {M' : AMem} (h : runOps call (⟨some ta, .w (.push inf.size inf.bytes s' (.tmp tz) x' i'), none⟩ :: (mid ++ (⟨none, .w (.store nV v' (.tmp ta)), none⟩ :: ⟨some ta, .skip, none⟩ :: ⟨some ti, .skip, none⟩ :: ends))) ⟨l, hl⟩ M = some (fr', M')) :
    ∃ tfs v10 ea va w2 w01 wE wF gF, SufD P C o0 o1 o2 ov of ta ti tfs vO a1 v10 ea va w1 w2 w01 wE wF gF M' fr'.hl fr'.tmps ∧ GLe g M.hw hl gF M'.hw fr'.hl ∧ gF.res = g.res ∧ gF.w0 = g.w0 := by
  obtain ⟨avp, hlp, Mp, h1, h2⟩ := runOps_cons rfl h
  simp only [runAOp, WriteOp.run] at h1
  split at h1
  · rename_i r0 iv0 n hz0 hin hn
    split at h1
    · rename_i hc
      simp only [Bool.and_eq_true, nbeq] at hc
      obtain ⟨⟨⟨k1, k2⟩, k3⟩, k4⟩ := hc
      subst k1
      obtain ⟨zc, hzc⟩ := B.zero
      have rs := copd_sound s hN B.hs
      have rx := copd_sound s hN B.hx
      have ri := copd_sound s hN B.hi
      have rz := copd_sound (x := .tmp tz) (y := .tmp tz) s hN (by simp [copd, Nat.blt_eq, B.lz])
      have rrow := VRels.sealv Stk.empty (cells_rel rx (allCells_seal k3))
      obtain ⟨kk, hik⟩ := natOf_some hin
      rw [hik] at ri; simp only [VRel] at ri
      obtain ⟨b, off, cap, w2, g2, cc, el, fr, r1, r2, r3, r4, r5, r6, r7, r8, r9, r10, r11⟩ := push_world (ty := o0.type) s B.ut B.uu B.hd B.hinf B.s0 B.b0 hzc rs rz hz0 k2 rrow k3 k4 hn h1
      generalize hxs : (a1.eval xO).cells.toList = xs at *
      have hxl : xs.length = inf.size := by have := VRels_length rrow; omega
      generalize hv10 : (Value.slice (some ⟨b, off, none⟩) (iv0 + 1) cap) = v10 at *
      have hlt : ta < a1.tmps.size := Nat.lt_of_lt_of_le B.la hN
      have s2 := r9.put r7 (some ta)
      obtain ⟨l3, a3, tfs, ov', iv, bo, hb, e, hev, hcv, s3, h3, q1, q2, q3, vok⟩ := suf_var hv s2 (by rw [Act.put_size]; exact hN) B.la h2
      obtain ⟨avs, hl4, M4, h4, h5⟩ := runOps_cons rfl h3
      have h4' : WriteOp.run Mp hlp (Opd.ev l3) (.store nV v' (.tmp ta)) = some (avs, hl4, M4) := h4
      have hN3 : N ≤ a3.tmps.size := by rw [q2, Act.put_size]; exact hN
      obtain ⟨vv, wF, gF, hrun, _, leF, sF, resF, w0F⟩ := step_store s3 hN3 B.pv hcv (y' := .tmp ta) (by simp [copd, Nat.blt_eq, B.la]) B.sV h4'
      -- the slots behind it
      have hta3 : a3.tmps.getD ta undef = v10 := by rw [vok.same ta vok.nta]; exact put_self hlt
      have e5 : (⟨some ta, .skip, none⟩ :: ⟨some ti, .skip, none⟩ :: ends : List AOper) = (ta :: ti :: tfs).map fun t => ⟨some t, .skip, none⟩ := by rw [vok.ends_eq]; rfl
      rw [e5, runOps_skips] at h5
      simp only [Option.some.injEq, Prod.mk.injEq] at h5
      obtain ⟨rfl, rfl⟩ := h5
      -- the place's block
      have hne : bo ≠ b := fun hh => by subst hh; exact r6 _ hb
      simp only [WriteOp.run, e] at h4'
      split at h4'
      · rename_i ls hls
        split at h4'
        · rename_i hcc
          cases hov : overlay ls iv (adopt (Opd.ev l3 (.tmp ta)).cells hlp Mp.hw).1 with
          | none => rw [hov] at h4'; cases h4'
          | some ls' =>
            rw [Bool.and_eq_true, nbeq] at hcc
            obtain ⟨ho1, _, _⟩ := overlay_spec hov
            obtain ⟨b', hb', _, hoat⟩ := s3.wr.obj _ _ hls
            rw [hb] at hb'; injection hb' with hb'; subst hb'
            obtain ⟨co, elo, hheapo, hleo, _⟩ := hoat
            have hv1 : v10.cells = #[v10] := by rw [← hv10]; rfl
            have hVsz : v10.cells.size = nV := by
              have hr := copd_sound (x := .tmp ta) (y := .tmp ta) s3 hN3 (by simp [copd, Nat.blt_eq, B.la])
              obtain ⟨_, _, _, z3, _⟩ := adopt_sound _ s3 (cells_rel hr (adopt_one hcc.2))
              have z4 := VRels_length z3
              have z5 : a3.eval (.tmp ta) = v10 := hta3
              rw [z5] at z4
              simp only [Array.length_toList] at z4; omega
            have hnV : nV = 1 := by rw [hv1] at hVsz; simpa using hVsz.symm
            have hone : v10.oneCell' = true := by rw [← hv10]; rfl
            have hroom : iv + 1 ≤ co.size := by omega
            have stV : ∀ W : World, W.heap[bo]? = some (.cells co elo (0, 0)) → (storeCells ⟨bo, iv, none⟩ v10.cells.toList).run P W = .ok () (W.setRow bo (co.toList.take iv ++ [v10] ++ co.toList.drop (iv + 1)).toArray) := by
              intro W hW
              have := run_storeCells_atF P bo iv elo (0, 0) [v10] 0 co W hW (by simp) (by simpa using hroom) (by simpa using hone)
              rw [hv1]
              simpa using this
            have stX : ∀ W : World, W.heap[b]? = some (.cells cc el fr) → (storeCells ⟨b, off + iv0 * inf.size, none⟩ xs).run P W = .ok () (W.setRow b (cc.toList.take (off + iv0 * inf.size) ++ xs ++ cc.toList.drop (off + iv0 * inf.size + xs.length)).toArray) := by
              intro W hW
              have := run_storeCells_atF P b (off + iv0 * inf.size) el fr xs 0 cc W hW (by simpa using r3) (by simpa using r4) r5
              simpa using this
            have ho2 : w2.heap[bo]? = some (.cells co elo (0, 0)) := by rw [setRow_other _ _ _ _ hne] at hheapo; exact hheapo
            have hb01 : (w2.setRow bo (co.toList.take iv ++ [v10] ++ co.toList.drop (iv + 1)).toArray).heap[b]? = some (.cells cc el fr) := by rw [setRow_other _ _ _ _ (Ne.symm hne)]; exact r2
            -- a store of the slice
            have runV : ∀ (a : Act) (W : World), a.eval vO = .pointer (some ⟨bo, iv, none⟩) → a.tmps.getD ta undef = v10 → W.heap[bo]? = some (.cells co elo (0, 0)) →
                (execOp a.eval ov).run P W = .ok .skip (W.setRow bo (co.toList.take iv ++ [v10] ++ co.toList.drop (iv + 1)).toArray) := by
              intro a W h1 h2 h3
              have h2' : a.eval (.tmp ta) = v10 := h2
              simp only [execOp, B.pv, h1, h2', Instr.storeAt, Instr.sureAddr, Sem.run_bind, Sem.run_pure, Result.andThen_ok, storeVar, szT_run B.sV, hVsz, ne_eq, not_true, if_false, stV W h3]
            have hwF : wF = (w2.setRow b (cc.toList.take (off + iv0 * inf.size) ++ xs ++ cc.toList.drop (off + iv0 * inf.size + xs.length)).toArray).setRow bo (co.toList.take iv ++ [v10] ++ co.toList.drop (iv + 1)).toArray := by
              have hr := runV a3 _ hev hta3 hheapo
              rcases hrun with hrun | ⟨hrun, _⟩
              · rw [hr] at hrun; cases hrun
              · rw [hr] at hrun
                simp only [Result.ok.injEq, true_and] at hrun
                exact hrun.symm
            subst hwF
            have sub3 : ∀ {a : Act}, Kept (ta :: ti :: tfs) a1 a → ∀ t, t ∉ (ta :: ti :: tfs) → a.tmps.getD t undef = (a1.put (some ta) v10).tmps.getD t undef := by
              intro a hk t ht
              rw [hk t ht, put_other (fun h => by injection h with h; subst h; simp at ht)]
            refine ⟨tfs, v10, ⟨b, off + iv0 * inf.size, none⟩, ⟨bo, iv, none⟩, w2, w2.setRow bo (co.toList.take iv ++ [v10] ++ co.toList.drop (iv + 1)).toArray,
              w2.setRow b (cc.toList.take (off + iv0 * inf.size) ++ xs ++ cc.toList.drop (off + iv0 * inf.size + xs.length)).toArray,
              (w2.setRow b (cc.toList.take (off + iv0 * inf.size) ++ xs ++ cc.toList.drop (off + iv0 * inf.size + xs.length)).toArray).setRow bo (co.toList.take iv ++ [v10] ++ co.toList.drop (iv + 1)).toArray, gF, ⟨?_, ?_, ?_, ?_, fun h => (vok.direct h).1, ?_, ?_, vok.nta, vok.nti⟩, r8.trans leF, resF.trans r10, w0F.trans r11⟩
            · obtain ⟨cs, hex⟩ := run_builtin (a := a1) B.p0 B.cc
              rw [hex, list_arr B.ca, list_arr B.ct]
              simp only [builtin, List.map_toArray, List.map_cons, List.map_nil, Sem.run_bind, r1, Result.andThen_ok, Sem.run_pure]
            · intro a w hk ht
              have ei : a.eval iO = .int kk (Int.ofNat iv0) := by
                rw [← ri]
                exact eval_same (l := [ta, ti] ++ tfs) (opdNot_append B.ni vok.ni) (fun t ht => hk t (by simpa using ht))
              have ea : a.eval (.tmp ta) = .slice (some ⟨b, off, none⟩) (iv0 + 1) cap := by rw [hv10]; exact ht
              have hc : (0 : Int) ≤ Int.ofNat iv0 ∧ Int.ofNat iv0 < ((iv0 + 1 : Nat) : Int) := ⟨by simp, by simp only [Int.ofNat_eq_natCast]; omega⟩
              have hz := szT_run B.s1 w
              simp only [execOp, B.p1, ea, ei, Instr.indexAt, asIntOf, Sem.run_bind, Sem.run_pure, Result.andThen_ok, run_underlying B.uT, hz, if_pos hc, Addr.add_lit]
              rfl
            · intro a W W' hk ht hw
              have ex : a.eval xO = a1.eval xO := eval_same (l := [ta, ti] ++ tfs) (opdNot_append B.nx vok.nx) (fun t ht => hk t (by simpa using ht))
              have et : a.eval (.tmp ti) = .pointer (some ⟨b, off + iv0 * inf.size, none⟩) := ht
              have hsz : (a1.eval xO).cells.size = inf.size := by rw [← Array.length_toList, hxs, hxl]
              have hst : (storeCells ⟨b, off + iv0 * inf.size, none⟩ xs).run P W = .ok () W' := by
                rcases hw with ⟨rfl, rfl⟩ | ⟨rfl, rfl⟩
                · exact stX _ r2
                · rw [stX _ hb01, setRow_comm _ hne]
              simp only [execOp, B.p2, et, ex, Instr.storeAt, Instr.sureAddr, Sem.run_bind, Sem.run_pure, Result.andThen_ok, storeVar, szT_run B.s2, hsz, ne_eq, not_true, if_false, hxs, hst]
            · intro o3 h3
              obtain ⟨tf, y1, y2, y3, _, y5⟩ := vok.byField o3 h3
              refine ⟨tf, y1, y2, y3, fun a hk w => y5 a (fun t ht => sub3 hk t ?_) w⟩
              rw [y1]; exact ht
            · intro a W W' hk ht htf hw
              have ev : a.eval vO = .pointer (some ⟨bo, iv, none⟩) := by
                cases of with
                | none =>
                  obtain ⟨y1, y2⟩ := vok.direct rfl
                  refine y2 a (fun t ht => sub3 hk t ?_)
                  rw [y1]; exact ht
                | some o3 =>
                  obtain ⟨tf, y1, _, _, y4, _⟩ := vok.byField o3 rfl
                  rw [y4]
                  exact htf tf (by rw [y1]; simp)
              rcases hw with ⟨rfl, rfl⟩ | ⟨rfl, rfl⟩
              · exact runV a _ ev ht ho2
              · exact runV a _ ev ht hheapo
            · intro a hsz hk ht hti htf
              refine ⟨sF.wr, sF.lo, ?_, sF.glob⟩
              intro t' ht'
              rw [clearAll_get]
              by_cases hm : t' ∈ ta :: ti :: tfs
              · rw [if_pos hm]
                simp only [VRel]
                intro bb hbb
                rcases List.mem_cons.1 hm with rfl | hm
                · rw [ht, ← hv10] at hbb; cases hbb
                · rcases List.mem_cons.1 hm with rfl | hm
                  · rw [hti] at hbb; cases hbb
                  · rw [htf _ hm] at hbb; cases hbb
              · rw [if_neg hm]
                have e1 : a.tmps.getD t' undef = a3.tmps.getD t' undef := by
                  rw [hk t' hm, vok.same t' (fun h => hm (by simp [h])), put_other (fun h => by injection h with h; subst h; simp at hm)]
                rw [e1]
                exact sF.t t' (by rw [q2, Act.put_size, ← hsz]; exact ht')
        · cases h4'
      · cases h4'
    · cases h1
  · cases h1

end
end Go.Abs
end

/-
  A region of drawn order with such a last part.
-/
section
namespace Go.Abs

structure SufPos (ops : List Oper) (m kv : Nat) (o0 o1 o2 ov : Oper) (of : Option Oper) : Prop where
  at0 : ops[m]? = some o0
  at1 : ops[m + 1]? = some o1
  at2 : ops[m + 2]? = some o2
  atv : ops[kv]? = some ov
  atf : ∀ o3, of = some o3 → ops[m + 3]? = some o3
  all : ∀ i o, ops[i]? = some o → m < i → (i = m + 1 ∧ o = o1) ∨ (i = m + 2 ∧ o = o2) ∨ (i = kv ∧ o = ov) ∨ (∃ o3, of = some o3 ∧ i = m + 3 ∧ o = o3)
  kvn : of = none → kv = m + 3
  kvf : ∀ o3, of = some o3 → kv = m + 4
  p0 : ∀ j, j < m → j ∈ preds o0.after.toList
  p1 : m ∈ preds o1.after.toList
  p2 : m ∈ preds o2.after.toList
  p2' : m + 1 ∈ preds o2.after.toList
  pv : m ∈ preds ov.after.toList
  pf : ∀ o3, of = some o3 → m ∈ preds o3.after.toList ∧ m + 3 ∈ preds ov.after.toList
  gd : ∀ i o j b, i < m → ops[i]? = some o → o.guard = some (j, b) → j < m

theorem hasAll_mem {m : Nat} {l : List Nat} : ∀ {k : Nat}, hasAll m l k = true → ∀ j, j < k → j ∈ l
  | 0, _, j, h => by omega
  | k + 1, h, j, hj => by
    simp only [hasAll, Bool.and_eq_true, memN_iff] at h
    rcases Nat.lt_or_ge j k with h1 | h1
    · exact hasAll_mem h.2 j h1
    · have : j = k := by omega
      subst this; exact h.1

theorem guardsUnder_get {m : Nat} : ∀ {l : List Oper}, guardsUnder m l = true → ∀ (i : Nat) o j b, l[i]? = some o → o.guard = some (j, b) → j < m
  | [], _, i, o, j, b, h, _ => by simp at h
  | x :: l, hg, i, o, j, b, h, hgd => by
    simp only [guardsUnder, Bool.and_eq_true] at hg
    cases i with
    | zero =>
      simp at h; subst h
      have := hg.1
      rw [hgd] at this
      simpa [Nat.blt_eq] using this
    | succ i => simp at h; exact guardsUnder_get hg.2 i o j b h hgd

theorem sufOps_of {P : Program} {C : Cfg} {N : Nat} {ops : List Oper} {m : Nat} {suf : List AOper} (h : sufOps P C N ops m = some suf) :
    ∃ kv o0 o1 o2 ov of, SufPos ops m kv o0 o1 o2 ov of ∧ sufGo P C N o0 o1 o2 of ov = some suf := by
  unfold sufOps at h
  have key : ∀ k, (dropN m ops)[k]? = ops[m + k]? := fun k => by rw [dropN_eq, List.getElem?_drop]
  have tk : ∀ i, i < m → (takeN m ops)[i]? = ops[i]? := fun i hi => by rw [takeN_eq, List.getElem?_take_of_lt hi]
  split at h
  · rename_i o0 o1 o2 ov hd
    split at h
    · rename_i hc
      simp only [Bool.and_eq_true, memN_iff] at hc
      obtain ⟨⟨⟨⟨⟨h1, h2⟩, h3⟩, h4⟩, h5⟩, h6⟩ := hc
      rw [hd] at key
      refine ⟨m + 3, o0, o1, o2, ov, none, ⟨(key 0).symm, (key 1).symm, (key 2).symm, (key 3).symm, (fun _ h => by cases h), ?_, fun _ => rfl, (fun _ h => by cases h), hasAll_mem h1, h2, h3, h4, h5, (fun _ h => by cases h), ?_⟩, h⟩
      · intro i o hi hlt
        obtain ⟨k, rfl⟩ : ∃ k, i = m + k := ⟨i - m, by omega⟩
        rw [← key k] at hi
        match k, hi with
        | 0, _ => omega
        | 1, hi => simp at hi; exact .inl ⟨rfl, hi.symm⟩
        | 2, hi => simp at hi; exact .inr (.inl ⟨rfl, hi.symm⟩)
        | 3, hi => simp at hi; exact .inr (.inr (.inl ⟨rfl, hi.symm⟩))
        | k + 4, hi => simp at hi
      · intro i o j b hi ho hg
        exact guardsUnder_get h6 i o j b (by rw [tk i hi]; exact ho) hg
    · cases h
  · rename_i o0 o1 o2 o3 ov hd
    split at h
    · rename_i hc
      simp only [Bool.and_eq_true, memN_iff] at hc
      obtain ⟨⟨⟨⟨⟨⟨⟨h1, h2⟩, h3⟩, h4⟩, h5⟩, h6⟩, h7⟩, h8⟩ := hc
      rw [hd] at key
      refine ⟨m + 4, o0, o1, o2, ov, some o3, ⟨(key 0).symm, (key 1).symm, (key 2).symm, (key 4).symm, (fun _ h => by injection h with h; subst h; exact (key 3).symm), ?_, (fun h => by cases h), fun _ _ => rfl, hasAll_mem h1, h2, h3, h4, h6,
        (fun _ h => by injection h with h; subst h; exact ⟨h5, h7⟩), ?_⟩, h⟩
      · intro i o hi hlt
        obtain ⟨k, rfl⟩ : ∃ k, i = m + k := ⟨i - m, by omega⟩
        rw [← key k] at hi
        match k, hi with
        | 0, _ => omega
        | 1, hi => simp at hi; exact .inl ⟨rfl, hi.symm⟩
        | 2, hi => simp at hi; exact .inr (.inl ⟨rfl, hi.symm⟩)
        | 3, hi => simp at hi; exact .inr (.inr (.inr ⟨o3, rfl, rfl, hi.symm⟩))
        | 4, hi => simp at hi; exact .inr (.inr (.inl ⟨rfl, hi.symm⟩))
        | k + 5, hi => simp at hi
      · intro i o j b hi ho hg
        exact guardsUnder_get h8 i o j b (by rw [tk i hi]; exact ho) hg
    · cases h
  · cases h

section
variable {P : Program} {C : Cfg} {N : Nat} {ob : Bool} {call : CallH} {ops : Array Oper} {as ds : List AOper} {anc : List Nat} {L : Nat → List AVal} {H : Nat → HL} {MM : Nat → AMem} {V : Nat → AVal} {g0 : G} {a0 : Act}
  {Q : Exit → Act → World → Prop}

/-- All are done: the state at the end. -/
theorem inv_end (tr : Trace call ds L H MM V) {S : Nat → Prop} {a' : Act} {w' : World} (hall : ∀ j, j < ds.length → S j) (inv : Inv C ds L H MM V g0 a0 S a' w') :
    ∃ g', GLe g0 (MM 0).hw (H 0) g' (MM ds.length).hw (H ds.length) ∧ SRel C g' (MM ds.length) (H ds.length) w' (L ds.length) a'.tmps ∧ a'.tmps.size = a0.tmps.size ∧ a'.defers = a0.defers ∧ g'.res = g0.res ∧ g'.w0 = g0.w0 := by
  obtain ⟨g', k, lS, hpos, le, s', v1, v2, z1, z2, z3, z4⟩ := inv
  have hposn : Pos ds S ds.length := ⟨Nat.le_refl _, fun j d hj _ => ⟨fun h => hall j h, fun _ => (List.getElem?_eq_some_iff.1 hj).1⟩⟩
  obtain ⟨q1, q2⟩ := Pos.same tr hpos hposn
  rw [q1, q2] at le s'
  refine ⟨g', le, ⟨s'.wr, s'.lo, ?_, s'.glob⟩, z1, z2, z3, z4⟩
  intro t ht
  have hr := s'.t t ht
  have : lget .undef lS t = lget .undef (L ds.length) t := by
    obtain ⟨k1, k2⟩ := trace_tmps tr _ (Nat.le_refl _) t
    by_cases hex : ∃ j, j < ds.length ∧ ∃ x, ds[j]? = some x ∧ x.dst = some t
    · obtain ⟨j, hlt, ⟨x, hj, hx⟩, hmax⟩ := last_of _ hex
      rw [v1 j x t hj (hall j hlt) hx (fun j' x' hj' _ hx' => hmax j' (List.getElem?_eq_some_iff.1 hj').1 ⟨x', hj', hx'⟩), k1 j x hlt hj hx (fun j' x' hlt' hj' hx' => hmax j' hlt' ⟨x', hj', hx'⟩)]
    · rw [v2 t (fun j x hj _ hx => hex ⟨j, (List.getElem?_eq_some_iff.1 hj).1, x, hj, hx⟩), k2 (fun j x hlt hj hx => hex ⟨j, hlt, x, hj, hx⟩)]
  rw [← this]; exact hr

theorem drawn_trace {l : List AVal} {hl : HL} {M : AMem} {fr' : Fr} {M' : AMem} {Ms : List AMem} {cs : List Chk} (h : runOpsD call ds ⟨l, hl⟩ M [M] [] = some (fr', M', Ms, cs)) (hc : cs.all (Chk.ok (Ms.length - 1) Ms) = true) :
    ∃ L H MM V, L 0 = l ∧ H 0 = hl ∧ MM 0 = M ∧ fr' = ⟨L ds.length, H ds.length⟩ ∧ M' = MM ds.length ∧ Trace call ds L H MM V ∧
      (∀ (i : Nat) d ro at_, ds[i]? = some d → d.op = .r ro at_ → wantedA (L i) d.guard = true → ∀ m ∈ at_, m ≤ ds.length → ro.run (MM m) (Opd.ev (L i)) = some (V i)) := by
  obtain ⟨L, H, MM, V, e1, e2, e3, e4, e5, tr, m1, m2, m3, _, c2⟩ := runOpsD_trace _ _ _ _ _ _ _ _ _ h
  have hlen : Ms.length - 1 = ds.length := by rw [m3]; simp
  refine ⟨L, H, MM, V, e1, e2, e3, e4, e5, tr, ?_⟩
  intro i d ro at_ hd hop hw m hm' hle
  cases at_ with
  | nil => simp at hm'
  | cons c at_ =>
    have hmem := c2 i d ro c at_ hd hop hw
    rw [List.all_eq_true] at hc
    have := hc _ hmem
    unfold Chk.ok at this
    rw [List.all_eq_true] at this
    have := this m hm'
    rw [hlen] at this
    have hMs : nth? Ms (ds.length - m) = some (MM m) := by
      rw [nth?_eq]
      rcases Nat.eq_zero_or_pos m with rfl | hpos
      · have := m2 0
        simp only [Nat.add_zero, List.getElem?_cons_zero] at this
        rw [Nat.sub_zero, this, e3]
      · exact m1 m hpos hle
    rw [hMs] at this
    simp only at this
    split at this
    · rename_i v hv
      rw [AVal.same_eq _ _ this]; exact hv
    · cases this

theorem wpOp_take {m i : Nat} (hi : i < m) (hg : ∀ o j b, ops[i]? = some o → o.guard = some (j, b) → j < m) {K : Act → World → Prop} {a : Act} {w : World}
    (h : wpOp P (⟨ops.toList.take m⟩ : Array Oper) Q i K a w) : wpOp P ops Q i K a w := by
  have e : ∀ j, j < m → (⟨ops.toList.take m⟩ : Array Oper)[j]? = ops[j]? := fun j hj => by
    rw [List.getElem?_toArray, List.getElem?_take_of_lt hj, Array.getElem?_toList]
  unfold wpOp at h ⊢
  rw [e i hi] at h
  cases ho : ops[i]? with
  | none => rw [ho] at h; exact h
  | some o =>
    rw [ho] at h
    simp only at h ⊢
    have hw : Region.wanted o (yielded (⟨ops.toList.take m⟩ : Array Oper) a.tmps) = Region.wanted o (yielded ops a.tmps) := by
      unfold Region.wanted
      cases hgd : o.guard with
      | none => rfl
      | some jb =>
        obtain ⟨j, b⟩ := jb
        have := hg o j b ho hgd
        simp only [yielded, e j this]
    rw [hw] at h
    exact h

theorem region_suffix (hcall : ∀ f, FOK P C f (call f)) (hm : P.follows .mixedOrders = true) {id m : Nat} {suf : List AOper} (hs : sufOps P C N ops.toList m = some suf) (h0 : predsOK ops.toList = true)
    (h1 : predsOK (ops.toList.take m) = true) (h2 : pairsOK (ancGo [] (ops.toList.take m)) 0 (cops P C N ob (ops.toList.take m) (ops.toList.take m)) = true)
    {g : G} {M : AMem} {hl : HL} {w : World} {l : List AVal} {a : Act} {fr1 fr' : Fr} {M1 M' : AMem} {Ms : List AMem} {cs : List Chk} (s : SRel C g M hl w l a.tmps) (hP : g.P = P) (hN : N ≤ a.tmps.size)
    (h : runOpsD call (setAts (ancGo [] (ops.toList.take m)) (cops P C N ob (ops.toList.take m) (ops.toList.take m)) 0 (cops P C N ob (ops.toList.take m) (ops.toList.take m))) ⟨l, hl⟩ M [M] [] = some (fr1, M1, Ms, cs))
    (hc : cs.all (Chk.ok (Ms.length - 1) Ms) = true) (h' : runOps call suf fr1 M1 = some (fr', M')) (K : Cont C g M hl a fr'.tmps fr'.hl M' (Q .normal)) : (Code.region id ops true).wp P Q a w := by
  obtain ⟨kv, o0, o1, o2, ov, of, pos, hgo⟩ := sufOps_of hs
  obtain ⟨c, ta, ti, tz, t, u, e, T1, e1, e2, V0, d, inf, sO, xO, iO, vO, s', x', i', nV, mid, v', ends, B, hv, rfl⟩ := sufGo_of hgo
  have ord := Orderly.of (ops := ops.toList.take m) h1 h2
  obtain ⟨L, H, MM, V, q1, q2, q3, q4, q5, tr, hchk⟩ := drawn_trace h hc
  generalize hds : setAts (ancGo [] (ops.toList.take m)) (cops P C N ob (ops.toList.take m) (ops.toList.take m)) 0 (cops P C N ob (ops.toList.take m) (ops.toList.take m)) = ds at *
  subst q4 q5
  have hmlt : m < ops.toList.length := (List.getElem?_eq_some_iff.1 pos.at0).1
  have hdl : ds.length = m := by rw [ord.dlen, List.length_take]; omega
  have none_done : ∀ j, ¬ isDone (Array.replicate ops.size false) j := by
    intro j hd
    unfold isDone at hd
    by_cases hi : j < ops.size <;> simp [Array.getD, hi] at hd
  have hordp : ∀ (i : Nat) o, ops.toList[i]? = some o → ∀ p ∈ preds o.after.toList, p < i := by
    intro i o ho p hp
    have := allIx_get h0 ho
    rw [Nat.zero_add] at this
    exact allBelow_get this hp
  let I : (Nat → Prop) → Act → World → Prop := fun S a' w' => ((∀ j, S j → j < m) ∧ Inv C ds L H MM V g a S a' w') ∨
    ((∀ j, j ≤ m → S j) ∧ ∃ a1 tfs v10 ea va w1 w2 w01 wE wF gF, SufD P C o0 o1 o2 ov of ta ti tfs vO a1 v10 ea va w1 w2 w01 wE wF gF M' fr'.hl fr'.tmps ∧ GLe g (MM 0).hw (H 0) gF M'.hw fr'.hl ∧ gF.res = g.res ∧ gF.w0 = g.w0 ∧
      a1.tmps.size = a.tmps.size ∧ a1.defers = a.defers ∧ a'.tmps.size = a1.tmps.size ∧ a'.defers = a1.defers ∧ Kept (ta :: ti :: tfs) a1 a' ∧ a'.tmps.getD ta undef = v10 ∧ (S (m + 1) → a'.tmps.getD ti undef = .pointer (some ea)) ∧
      (S (m + 3) → ∀ t ∈ tfs, a'.tmps.getD t undef = .pointer (some va)) ∧
      ((¬ S (m + 2) ∧ ¬ S kv ∧ w' = w2) ∨ (S (m + 2) ∧ ¬ S kv ∧ w' = wE) ∨ (¬ S (m + 2) ∧ S kv ∧ w' = w01) ∨ (S (m + 2) ∧ S kv ∧ w' = wF)))
  have kv1 : kv ≠ m + 1 := by
    cases hof : of with
    | none => have := pos.kvn hof; omega
    | some o3 => have := pos.kvf o3 hof; omega
  have kv2 : kv ≠ m + 2 := by
    cases hof : of with
    | none => have := pos.kvn hof; omega
    | some o3 => have := pos.kvf o3 hof; omega
  refine wp_region_any hm (draw_gen I hordp ?_ ?_ ops.size _ a _ (by simp) ?_ (fun i o _ hd => absurd hd (none_done i)) ?_)
  · intro S i o a' w' K' ho hi hp hD hI hK
    have hol : ops.toList[i]? = some o := by rw [Array.getElem?_toList]; exact ho
    rcases Nat.lt_trichotomy i m with hlt | heq | hgt
    · -- of the first part
      rcases hI with ⟨hS, inv⟩ | ⟨hS, _⟩
      · refine wpOp_take hlt (fun o j b ho hg => pos.gd i o j b hlt (by rw [Array.getElem?_toList]; exact ho) hg) ?_
        have eP : ∀ (j : Nat) o, (ops.toList.take m)[j]? = some o → ops.toList[j]? = some o := fun j o h => by
          have hj : j < m := by
            have := (List.getElem?_eq_some_iff.1 h).1
            rw [List.length_take] at this; omega
          rw [List.getElem?_take_of_lt hj] at h; exact h
        have hoP : (⟨ops.toList.take m⟩ : Array Oper)[i]? = some o := by rw [List.getElem?_toArray, List.getElem?_take_of_lt hlt]; exact hol
        have ha : (cops P C N ob (ops.toList.take m) (ops.toList.take m))[i]? = some (coper P C N ob (ops.toList.take m) o) := by rw [cops_get, List.getElem?_take_of_lt hlt, hol]; rfl
        refine draw_step (ops := (⟨ops.toList.take m⟩ : Array Oper)) hcall ord tr hP hN hchk hoP ha hi hp (fun i o h => hD i o (eP i o h)) inv (fun a2 w2 inv' _ => hK a2 w2 (.inl ⟨?_, inv'⟩))
        intro j hj
        rcases hj with hj | rfl
        · exact hS j hj
        · exact hlt
      · exact absurd (hS i (by omega)) hi
    · -- the append
      subst heq
      rcases hI with ⟨hS, inv⟩ | ⟨hS, _⟩
      · have eo : o = o0 := by have := pos.at0; rw [hol] at this; injection this
        subst eo
        have hall : ∀ j, j < ds.length → S j := fun j hj => hp j (pos.p0 j (by omega))
        obtain ⟨g1, le1, s1, z1, z2, z3, z4⟩ := inv_end tr hall inv
        obtain ⟨tfs, v10, ea, va, w2, w01, wE, wF, gF, D, leF, rF, wF0⟩ := suf_data B hv s1 (by rw [z1]; exact hN) h'
        unfold wpOp
        simp only [ho]
        rw [if_pos (by simp [Region.wanted, B.g0])]
        left
        unfold Oper.wp
        rw [D.app]
        show K' _ _
        rw [B.d0]
        have hlt : ta < a'.tmps.size := by rw [z1]; exact Nat.lt_of_lt_of_le B.la hN
        refine hK _ _ (.inr ⟨fun j hj => ?_, a', tfs, v10, ea, va, w', w2, w01, wE, wF, gF, D, le1.trans leF, rF.trans z3, wF0.trans z4, z1, z2, Act.put_size _ _ _, Act.put_defers' _ _ _, fun t ht => put_other (fun h => by injection h with h; subst h; simp at ht), put_self hlt, ?_, ?_, .inl ⟨?_, ?_, rfl⟩⟩)
        · rcases Nat.lt_or_ge j i with h | h
          · exact .inl (hall j (by omega))
          · exact .inr (by omega)
        · intro h
          rcases h with h | h
          · have := hS _ h; omega
          · omega
        · intro h
          rcases h with h | h
          · have := hS _ h; omega
          · omega
        · intro h
          rcases h with h | h
          · have := hS _ h; omega
          · omega
        · intro h
          have : i < kv := by
            cases hof : of with
            | none => have := pos.kvn hof; omega
            | some o3 => have := pos.kvf o3 hof; omega
          rcases h with h | h
          · have := hS _ h; omega
          · omega
      · exact absurd (hS i (by omega)) hi
    · -- behind it
      have hSm : S m := by
        rcases pos.all i o hol hgt with ⟨_, rfl⟩ | ⟨_, rfl⟩ | ⟨_, rfl⟩ | ⟨o3, h3, _, rfl⟩
        · exact hp m pos.p1
        · exact hp m pos.p2
        · exact hp m pos.pv
        · exact hp m (pos.pf _ h3).1
      rcases hI with ⟨hS, _⟩ | ⟨hS, a1, tfs, v10, ea, va, w1, w2, w01, wE, wF, gF, D, leF, rF, wF0, y1, y2, y3, y4, hk, hta, hti, htf, hw⟩
      · exact absurd (hS m hSm) (Nat.lt_irrefl _)
      · have hS' : ∀ j, j ≤ m → (S j ∨ j = i) := fun j hj => .inl (hS j hj)
        unfold wpOp
        simp only [ho]
        have hN1 : N ≤ a'.tmps.size := by rw [y3, y1]; exact hN
        rcases pos.all i o hol hgt with ⟨rfl, rfl⟩ | ⟨rfl, rfl⟩ | ⟨rfl, rfl⟩ | ⟨o3, h3, rfl, rfl⟩
        · -- the row's place
          rw [if_pos (by simp [Region.wanted, B.g1])]
          left
          unfold Oper.wp
          rw [D.idx a' w' hk hta]
          show K' _ _
          rw [B.d1]
          refine hK _ _ (.inr ⟨hS', a1, tfs, v10, ea, va, w1, w2, w01, wE, wF, gF, D, leF, rF, wF0, y1, y2, (Act.put_size _ _ _).trans y3, (Act.put_defers' _ _ _).trans y4, fun t ht => (put_other (fun h => by injection h with h; subst h; simp at ht)).trans (hk t ht),
            (put_other (fun h => by injection h with h; exact B.ne h)).trans hta, fun _ => put_self (Nat.lt_of_lt_of_le B.li hN1), fun h t ht => (put_other (fun h => by injection h with h; subst h; exact D.nti ht)).trans (htf ?_ t ht), ?_⟩)
          · rcases h with h | h
            · exact h
            · omega
          · have n2 : ∀ x, x ≠ m + 1 → ((S x ∨ x = m + 1) ↔ S x) := fun x hx => ⟨fun h => h.resolve_right hx, .inl⟩
            simp only [n2 (m + 2) (by omega), n2 kv kv1]
            exact hw
        · -- the row
          have h1 : S (m + 1) := hp _ pos.p2'
          rw [if_pos (by simp [Region.wanted, B.g2])]
          left
          unfold Oper.wp
          have n2 : ∀ x, x ≠ m + 2 → ((S x ∨ x = m + 2) ↔ S x) := fun x hx => ⟨fun h => h.resolve_right hx, .inl⟩
          have fin : ∀ W', (execOp a'.eval o).run P w' = .ok .skip W' → ((¬ S kv ∧ W' = wE) ∨ (S kv ∧ W' = wF)) → o.upon P a' K' Q ((execOp a'.eval o).run P w') := by
            intro W' hr hW
            rw [hr]
            show K' _ _
            rw [B.d2]
            refine hK _ _ (.inr ⟨hS', a1, tfs, v10, ea, va, w1, w2, w01, wE, wF, gF, D, leF, rF, wF0, y1, y2, y3, y4, hk, hta, fun _ => hti h1, fun h => htf ?_, ?_⟩)
            · rcases h with h | h
              · exact h
              · omega
            · simp only [n2 kv kv2]
              rcases hW with ⟨h1, h2⟩ | ⟨h1, h2⟩
              · exact .inr (.inl ⟨.inr trivial, h1, h2⟩)
              · exact .inr (.inr (.inr ⟨.inr trivial, h1, h2⟩))
          rcases hw with ⟨k1, k2, k3⟩ | ⟨k1, _⟩ | ⟨k1, k2, k3⟩ | ⟨k1, _⟩
          · exact fin wE (D.elem a' w' wE hk (hti h1) (.inl ⟨k3, rfl⟩)) (.inl ⟨k2, rfl⟩)
          · exact absurd k1 hi
          · exact fin wF (D.elem a' w' wF hk (hti h1) (.inr ⟨k3, rfl⟩)) (.inr ⟨k2, rfl⟩)
          · exact absurd k1 hi
        · -- the slice
          have hptr : ∀ t ∈ tfs, a'.tmps.getD t undef = .pointer (some va) := by
            cases hof : of with
            | none => intro t ht; rw [D.nofld hof] at ht; simp at ht
            | some o3 => exact htf (hp _ (pos.pf o3 hof).2)
          rw [if_pos (by simp [Region.wanted, B.gv])]
          left
          unfold Oper.wp
          have n2 : ∀ x, x ≠ i → ((S x ∨ x = i) ↔ S x) := fun x hx => ⟨fun h => h.resolve_right hx, .inl⟩
          have fin : ∀ W', (execOp a'.eval o).run P w' = .ok .skip W' → ((¬ S (m + 2) ∧ W' = w01) ∨ (S (m + 2) ∧ W' = wF)) → o.upon P a' K' Q ((execOp a'.eval o).run P w') := by
            intro W' hr hW
            rw [hr]
            show K' _ _
            rw [B.dv]
            refine hK _ _ (.inr ⟨hS', a1, tfs, v10, ea, va, w1, w2, w01, wE, wF, gF, D, leF, rF, wF0, y1, y2, y3, y4, hk, hta, fun h => hti ?_, fun _ => hptr, ?_⟩)
            · rcases h with h | h
              · exact h
              · exact absurd h.symm kv1
            · simp only [n2 (m + 2) (Ne.symm kv2)]
              rcases hW with ⟨h1, h2⟩ | ⟨h1, h2⟩
              · exact .inr (.inr (.inl ⟨h1, .inr trivial, h2⟩))
              · exact .inr (.inr (.inr ⟨h1, .inr trivial, h2⟩))
          rcases hw with ⟨k1, k2, k3⟩ | ⟨k1, k2, k3⟩ | ⟨_, k2, _⟩ | ⟨_, k2, _⟩
          · exact fin w01 (D.var a' w' w01 hk hta hptr (.inl ⟨k3, rfl⟩)) (.inl ⟨k1, rfl⟩)
          · exact fin wF (D.var a' w' wF hk hta hptr (.inr ⟨k3, rfl⟩)) (.inr ⟨k1, rfl⟩)
          · exact absurd k2 hi
          · exact absurd k2 hi
        · -- the place's field
          obtain ⟨tf, t1, t2, t3, t4⟩ := D.fld o h3
          have hkv := pos.kvf o h3
          rw [if_pos (by simp [Region.wanted, t3])]
          left
          unfold Oper.wp
          rw [t4 a' hk w']
          show K' _ _
          rw [t2]
          have hne : ta ≠ tf ∧ ti ≠ tf := by
            have h1 := D.nta
            have h2 := D.nti
            rw [t1] at h1 h2
            simp at h1 h2
            exact ⟨h1, h2⟩
          have htflt : tf < a'.tmps.size := by
            -- it is one of the slots
            have : tf < N := by
              rw [h3] at hv
              simp only [sufVar] at hv
              split at hv
              · rename_i S0 yO f0 tf0 tf1 x1 x2
                rw [x2] at t2
                injection t2 with t2; subst t2
                split at hv
                · split at hv
                  · split at hv
                    · split at hv
                      · rename_i hcc
                        simp only [Bool.and_eq_true, Nat.blt_eq] at hcc
                        exact hcc.1.1.1.1.1.1.2
                      · cases hv
                    · cases hv
                  · cases hv
                · cases hv
              · cases hv
            omega
          refine hK _ _ (.inr ⟨hS', a1, tfs, v10, ea, va, w1, w2, w01, wE, wF, gF, D, leF, rF, wF0, y1, y2, (Act.put_size _ _ _).trans y3, (Act.put_defers' _ _ _).trans y4, fun t ht => (put_other (fun h => by injection h with h; subst h; rw [t1] at ht; simp at ht)).trans (hk t ht),
            (put_other (fun h => by injection h with h; exact hne.1 h.symm)).trans hta, fun h => (put_other (fun h => by injection h with h; exact hne.2 h.symm)).trans (hti ?_), fun _ t ht => ?_, ?_⟩)
          · rcases h with h | h
            · exact h
            · omega
          · rw [t1] at ht
            simp at ht; subst ht
            exact put_self htflt
          · have n2 : ∀ x, x ≠ m + 3 → ((S x ∨ x = m + 3) ↔ S x) := fun x hx => ⟨fun h => h.resolve_right hx, .inl⟩
            simp only [n2 (m + 2) (by omega), n2 kv (by omega)]
            exact hw
  · intro S a' w' hall hI
    have hsz : ∀ (i : Nat) o, ops.toList[i]? = some o → i < ops.size := fun i o h => by
      have := (List.getElem?_eq_some_iff.1 h).1
      simpa using this
    rcases hI with ⟨hS, _⟩ | ⟨hS, a1, tfs, v10, ea, va, w1, w2, w01, wE, wF, gF, D, leF, rF, wF0, y1, y2, y3, y4, hk, hta, hti, htf, hw⟩
    · exact absurd (hS m (hall m (hsz m _ pos.at0))) (Nat.lt_irrefl _)
    · have s2 : S (m + 2) := hall _ (hsz _ _ pos.at2)
      have sv : S kv := hall _ (hsz _ _ pos.atv)
      have hptr : ∀ t ∈ tfs, a'.tmps.getD t undef = .pointer (some va) := by
        cases hof : of with
        | none => intro t ht; rw [D.nofld hof] at ht; simp at ht
        | some o3 => exact htf (hall _ (hsz _ _ (pos.atf o3 hof)))
      rcases hw with ⟨k1, _⟩ | ⟨_, k1, _⟩ | ⟨k1, _⟩ | ⟨_, _, k3⟩
      · exact absurd s2 k1
      · exact absurd sv k1
      · exact absurd s2 k1
      · subst k3
        have sF := D.fin a' y3 hk hta (hti (hall _ (hsz _ _ pos.at1))) hptr
        rw [q2, q3] at leF
        exact K a' w' gF leF sF (y3.trans y1) (y4.trans y2) rF wF0
  · unfold leftOf
    have := List.length_filter_le (fun i => !(Array.replicate ops.size false).getD i true) (List.range ops.size)
    simpa using this
  · refine .inl ⟨fun j hd => absurd hd (none_done j), g, 0, l, ⟨Nat.zero_le _, fun j d _ _ => ⟨fun h => by omega, fun hd => absurd hd (none_done j)⟩⟩, ?_, ?_, fun j d t _ hd => absurd hd (none_done j), fun t _ => by rw [q1], rfl, rfl, rfl, rfl⟩
    · exact GLe.refl _ _ _
    · rw [q2, q3]
      exact s.ext (Ext.drew w _)

end
end Go.Abs
end

/-
  Regions of drawn order: all kinds that are covered.
-/
section
namespace Go.Abs

def firstStore (t : Nat) : Nat → List Oper → Option Nat
  | _, [] => none
  | i, o :: l => match o.op with
    | .store _ (.tmp t') _ => if Nat.beq t t' then some i else firstStore t (i + 1) l
    | _ => firstStore t (i + 1) l

/-- What is made, and where it is stored into first. -/
def limboPairs : Nat → List Oper → List (Nat × Nat)
  | _, [] => []
  | i, o :: l => match o.op, o.dst with
    | .alloc _, some t => (match firstStore t (i + 1) l with
      | some q => (i, q) :: limboPairs (i + 1) l
      | none => limboPairs (i + 1) l)
    | _, _ => limboPairs (i + 1) l

def cdrawnL (P : Program) (C : Cfg) (N : Nat) (ops : List Oper) (as : List AOper) (anc : List Nat) (other : ACode) : List (Nat × Nat) → ACode
  | [] => other
  | (p, q) :: l => match limboOps P C N ops as p q with
    | some as' => if pairsOK anc 0 as' then .regionD (setAts anc as' 0 as') else cdrawnL P C N ops as anc other l
    | none => cdrawnL P C N ops as anc other l

def cdrawnS (P : Program) (C : Cfg) (N : Nat) (ob : Bool) (ops : List Oper) (other : ACode) (m : Nat) : ACode :=
  match sufOps P C N ops m with
  | some suf =>
    let l := takeN m ops
    let as := cops P C N ob l l
    let anc := ancGo [] l
    if predsOK l && pairsOK anc 0 as then .seq (.regionD (setAts anc as 0 as)) (.region suf) else other
  | none => other

def cdrawn (P : Program) (C : Cfg) (N : Nat) (ob : Bool) (ops : List Oper) : ACode :=
  if predsOK ops then
    let as := cops P C N ob ops ops
    let anc := ancGo [] ops
    if pairsOK anc 0 as then .regionD (setAts anc as 0 as)
    else cdrawnL P C N ops as anc (cdrawnS P C N ob ops (cdrawnS P C N ob ops .fail (ops.length - 5)) (ops.length - 4)) (limboPairs 0 ops)
  else .fail

section
variable {P : Program} {C : Cfg} {N : Nat} {ob : Bool} {call : CallH} {ops : Array Oper} {id : Nat} {g : G} {w : World} {a : Act}

/-- A code that comes to what the region comes to. -/
def RegOK (P : Program) (C : Cfg) (N : Nat) (call : CallH) (id : Nat) (ops : Array Oper) (c : ACode) : Prop :=
  ∀ (k : Nat) (fr : Fr) (M : AMem) (e : AExit) (fr' : Fr) (M' : AMem), aexec call k c fr M = some (e, fr', M') → e = .normal ∧ ∀ (g : G) (w : World) (a : Act) (Q : Exit → Act → World → Prop),
    SRel C g M fr.hl w fr.tmps a.tmps → g.P = P → N ≤ a.tmps.size → Cont C g M fr.hl a fr'.tmps fr'.hl M' (Q .normal) → (Code.region id ops true).wp P Q a w

theorem RegOK.fail : RegOK P C N call id ops .fail := by
  intro k fr M e fr' M' h
  cases k <;> simp [aexec] at h

theorem aexec_regionD {k : Nat} {ds : List AOper} {fr : Fr} {M : AMem} {e : AExit} {fr' : Fr} {M' : AMem} (h : aexec call k (.regionD ds) fr M = some (e, fr', M')) :
    e = .normal ∧ ∃ Ms cs, runOpsD call ds fr M [M] [] = some (fr', M', Ms, cs) ∧ cs.all (Chk.ok (Ms.length - 1) Ms) = true := by
  cases k with
  | zero => simp [aexec] at h
  | succ k =>
    simp only [aexec] at h
    split at h
    · rename_i fr1 M1 Ms cs h1
      split at h
      · rename_i hc
        simp only [Option.some.injEq, Prod.mk.injEq] at h
        obtain ⟨rfl, rfl, rfl⟩ := h
        exact ⟨rfl, Ms, cs, h1, hc⟩
      · cases h
    · cases h

theorem aexec_region {k : Nat} {os : List AOper} {fr : Fr} {M : AMem} {e : AExit} {fr' : Fr} {M' : AMem} (h : aexec call k (.region os) fr M = some (e, fr', M')) : e = .normal ∧ runOps call os fr M = some (fr', M') := by
  cases k with
  | zero => simp [aexec] at h
  | succ k =>
    simp only [aexec] at h
    split at h
    · rename_i fr1 M1 h1
      simp only [Option.some.injEq, Prod.mk.injEq] at h
      obtain ⟨rfl, rfl, rfl⟩ := h
      exact ⟨rfl, h1⟩
    · cases h

theorem drawnL_ok (hcall : ∀ f, FOK P C f (call f)) (hm : P.follows .mixedOrders = true) (h1 : predsOK ops.toList = true) {other : ACode} (ho : RegOK P C N call id ops other) :
    ∀ (l : List (Nat × Nat)), RegOK P C N call id ops (cdrawnL P C N ops.toList (cops P C N ob ops.toList ops.toList) (ancGo [] ops.toList) other l)
  | [] => ho
  | (p, q) :: l => by
    simp only [cdrawnL]
    split
    · rename_i as' has
      split
      · rename_i hok
        intro k fr M e fr' M' h
        obtain ⟨he, Ms, cs, h3, hc⟩ := aexec_regionD h
        refine ⟨he, fun g w a Q s hP hN K => ?_⟩
        obtain ⟨T, t, n, x, x', lim⟩ := limbo_of (ob := ob) has
        exact region_limbo hcall hm h1 lim hok s hP hN h3 hc K
      · exact drawnL_ok hcall hm h1 ho l
    · exact drawnL_ok hcall hm h1 ho l

theorem drawnS_ok (hcall : ∀ f, FOK P C f (call f)) (hm : P.follows .mixedOrders = true) (h1 : predsOK ops.toList = true) {other : ACode} (ho : RegOK P C N call id ops other) (m : Nat) :
    RegOK P C N call id ops (cdrawnS P C N ob ops.toList other m) := by
  simp only [cdrawnS]
  split
  · rename_i suf hs
    split
    · rename_i hok
      rw [Bool.and_eq_true, takeN_eq] at hok
      rw [takeN_eq]
      intro k fr M e fr' M' h
      cases k with
      | zero => simp [aexec] at h
      | succ k =>
        simp only [aexec] at h
        split at h
        · rename_i fr1 M1 hx
          obtain ⟨_, Ms, cs, h3, hc⟩ := aexec_regionD hx
          obtain ⟨he, h4⟩ := aexec_region h
          exact ⟨he, fun g w a Q s hP hN K => region_suffix hcall hm hs h1 hok.1 hok.2 s hP hN h3 hc h4 K⟩
        · rename_i hne
          cases hx : aexec call k (.regionD (setAts (ancGo [] (ops.toList.take m)) (cops P C N ob (ops.toList.take m) (ops.toList.take m)) 0 (cops P C N ob (ops.toList.take m) (ops.toList.take m)))) fr M with
          | none => rw [hx] at h; cases h
          | some r =>
            obtain ⟨e1, fr1, M1⟩ := r
            obtain ⟨he, _⟩ := aexec_regionD hx
            subst he
            exact absurd hx (hne _ _)
    · exact ho
  · exact ho

theorem drawn_ok (hcall : ∀ f, FOK P C f (call f)) (hm : P.follows .mixedOrders = true) : RegOK P C N call id ops (cdrawn P C N ob ops.toList) := by
  simp only [cdrawn]
  split
  · rename_i h1
    split
    · rename_i h2
      intro k fr M e fr' M' h
      obtain ⟨he, Ms, cs, h3, hc⟩ := aexec_regionD h
      exact ⟨he, fun g w a Q s hP hN K => region_draw hcall hm h1 h2 s hP hN h3 hc K⟩
    · exact drawnL_ok hcall hm h1 (drawnS_ok hcall hm h1 (drawnS_ok hcall hm h1 RegOK.fail _) _) _
  · exact RegOK.fail

end
end Go.Abs
end

/-
  Code and functions.
-/
section
namespace Go.Abs

def ccode (P : Program) (C : Cfg) (N : Nat) (ob : Bool) : Code → ACode
  | .skip => .skip
  | .label _ => .skip
  | .region _ ops draw => if draw then cdrawn P C N ob ops.toList else .region (cops P C N ob ops.toList ops.toList)
  | .seq a b => .seq (ccode P C N ob a) (ccode P C N ob b)
  | .cond c a b => match copd C N c with
    | some c' => .cond c' (ccode P C N ob a) (ccode P C N ob b)
    | none => .fail
  | .block id b => .block id (ccode P C N ob b)
  | .loop b => .loop (ccode P C N ob b)
  | .exit id => .exit id
  | .ret => .ret
  | _ => .fail

def toExit : AExit → Exit
  | .normal => .normal
  | .exit id => .exit id
  | .ret => .ret

section
variable {P : Program} {C : Cfg} {N : Nat} {ob : Bool} {call : CallH}

theorem Cont.step {g g1 : G} {M M1 : AMem} {hl hl1 : HL} {a a1 : Act} {l' : List AVal} {hl' : HL} {M' : AMem} {K : Act → World → Prop} (h : Cont C g M hl a l' hl' M' K) (le : GLe g M.hw hl g1 M1.hw hl1)
    (h1 : a1.tmps.size = a.tmps.size) (h2 : a1.defers = a.defers) (h3 : g1.res = g.res) (h4 : g1.w0 = g.w0) : Cont C g1 M1 hl1 a1 l' hl' M' K :=
  fun a' w' g' le' s' k1 k2 k3 k4 => h a' w' g' (le.trans le') s' (k1.trans h1) (k2.trans h2) (k3.trans h3) (k4.trans h4)

theorem code_sound (hcall : ∀ f, FOK P C f (call f)) (hm : P.follows .mixedOrders = true) : ∀ (k : Nat),
    (∀ (c : Code) (fr : Fr) (M : AMem) (e : AExit) (fr' : Fr) (M' : AMem), aexec call k (ccode P C N ob c) fr M = some (e, fr', M') → ∀ (g : G) (w : World) (a : Act), SRel C g M fr.hl w fr.tmps a.tmps → g.P = P → N ≤ a.tmps.size →
      ∀ Q, Cont C g M fr.hl a fr'.tmps fr'.hl M' (Q (toExit e)) → c.wp P Q a w) ∧
    (∀ (c : Code) (fr : Fr) (M : AMem) (e : AExit) (fr' : Fr) (M' : AMem), aexec call k (.loop (ccode P C N ob c)) fr M = some (e, fr', M') → ∀ (g : G) (w : World) (a : Act), SRel C g M fr.hl w fr.tmps a.tmps → g.P = P → N ≤ a.tmps.size →
      ∀ Q, Cont C g M fr.hl a fr'.tmps fr'.hl M' (Q (toExit e)) → Code.rounds P c Q k a w)
  | 0 => ⟨fun c fr M e fr' M' h => by simp [aexec] at h, fun c fr M e fr' M' h => by simp [aexec] at h⟩
  | k + 1 => by
    obtain ⟨ih1, ih2⟩ := code_sound hcall hm k
    have loop : ∀ (c : Code) (fr : Fr) (M : AMem) (e : AExit) (fr' : Fr) (M' : AMem), aexec call (k + 1) (.loop (ccode P C N ob c)) fr M = some (e, fr', M') → ∀ (g : G) (w : World) (a : Act), SRel C g M fr.hl w fr.tmps a.tmps → g.P = P → N ≤ a.tmps.size →
        ∀ Q, Cont C g M fr.hl a fr'.tmps fr'.hl M' (Q (toExit e)) → Code.rounds P c Q (k + 1) a w := by
      intro c fr M e fr' M' h g w a s hP hN Q K
      simp only [aexec] at h
      rw [rounds_succ]
      split at h
      · rename_i fr1 M1 h1
        refine ih1 c fr M _ fr1 M1 h1 g w a s hP hN _ ?_
        intro a1 w1 g1 le1 s1 z1 z2 z3 z4
        exact ih2 c fr1 M1 e fr' M' h g1 w1 a1 s1 (le1.P.trans hP) (by rw [z1]; exact hN) Q (K.step le1 z1 z2 z3 z4)
      · rename_i hne
        cases hb : aexec call k (ccode P C N ob c) fr M with
        | none => rw [hb] at h; cases h
        | some r =>
          obtain ⟨e1, fr1, M1⟩ := r
          rw [hb] at h
          simp only [Option.some.injEq, Prod.mk.injEq] at h
          obtain ⟨rfl, rfl, rfl⟩ := h
          refine ih1 c fr M _ _ _ hb g w a s hP hN _ ?_
          cases e1 with
          | normal => exact absurd hb (hne _ _)
          | exit id => exact K
          | ret => exact K
    refine ⟨?_, loop⟩
    intro c fr M e fr' M' h g w a s hP hN Q K
    cases c with
    | skip =>
      simp only [ccode, aexec, Option.some.injEq, Prod.mk.injEq] at h
      obtain ⟨rfl, rfl, rfl⟩ := h
      exact wp_skip (K a w g (GLe.refl _ _ _) s rfl rfl rfl rfl)
    | label n =>
      simp only [ccode, aexec, Option.some.injEq, Prod.mk.injEq] at h
      obtain ⟨rfl, rfl, rfl⟩ := h
      exact wp_label (K a w g (GLe.refl _ _ _) s rfl rfl rfl rfl)
    | exit id =>
      simp only [ccode, aexec, Option.some.injEq, Prod.mk.injEq] at h
      obtain ⟨rfl, rfl, rfl⟩ := h
      exact wp_exit (K a w g (GLe.refl _ _ _) s rfl rfl rfl rfl)
    | ret =>
      simp only [ccode, aexec, Option.some.injEq, Prod.mk.injEq] at h
      obtain ⟨rfl, rfl, rfl⟩ := h
      exact wp_ret (K a w g (GLe.refl _ _ _) s rfl rfl rfl rfl)
    | region id ops draw =>
      cases draw with
      | false =>
        simp only [ccode, Bool.false_eq_true, if_false, aexec] at h
        split at h
        · rename_i fr1 M1 h1
          simp only [Option.some.injEq, Prod.mk.injEq] at h
          obtain ⟨rfl, rfl, rfl⟩ := h
          refine wp_region ?_
          rw [List.range_eq_range']
          have := region_plain (N := N) (ob := ob) hcall (ops := ops) (Q := Q) ops.toList 0 (by simp) (fr' := fr1) (M' := M1) s hP hN h1 K
          simpa using this
        · cases h
      | true =>
        simp only [ccode, if_true] at h
        obtain ⟨he, hk⟩ := drawn_ok (ob := ob) (id := id) hcall hm _ _ _ _ _ _ h
        subst he
        exact hk g w a Q s hP hN K
    | seq x y =>
      simp only [ccode, aexec] at h
      refine wp_seq ?_
      split at h
      · rename_i fr1 M1 h1
        refine ih1 x fr M _ fr1 M1 h1 g w a s hP hN _ ?_
        intro a1 w1 g1 le1 s1 z1 z2 z3 z4
        exact ih1 y fr1 M1 e fr' M' h g1 w1 a1 s1 (le1.P.trans hP) (by rw [z1]; exact hN) Q (K.step le1 z1 z2 z3 z4)
      · rename_i hne
        cases hb : aexec call k (ccode P C N ob x) fr M with
        | none => rw [hb] at h; cases h
        | some r =>
          obtain ⟨e1, fr1, M1⟩ := r
          rw [hb] at h
          simp only [Option.some.injEq, Prod.mk.injEq] at h
          obtain ⟨rfl, rfl, rfl⟩ := h
          refine ih1 x fr M _ _ _ hb g w a s hP hN _ ?_
          cases e1 with
          | normal => exact absurd hb (hne _ _)
          | exit id => exact K
          | ret => exact K
    | cond c x y =>
      simp only [ccode] at h
      split at h
      · rename_i c' hc
        have rc := copd_sound s hN hc
        simp only [aexec] at h
        split at h
        · rename_i ec
          rw [ec] at rc; simp only [VRel] at rc
          exact wp_cond_true rc (ih1 x fr M e fr' M' h g w a s hP hN Q K)
        · rename_i ec
          rw [ec] at rc; simp only [VRel] at rc
          exact wp_cond_false rc (ih1 y fr M e fr' M' h g w a s hP hN Q K)
        · cases h
      · cases h
    | block id b =>
      simp only [ccode, aexec] at h
      refine wp_block ?_
      cases hb : aexec call k (ccode P C N ob b) fr M with
      | none => rw [hb] at h; cases h
      | some r =>
        obtain ⟨e1, fr1, M1⟩ := r
        rw [hb] at h
        cases e1 with
        | normal =>
          simp only [Option.some.injEq, Prod.mk.injEq] at h
          obtain ⟨rfl, rfl, rfl⟩ := h
          exact ih1 b fr M _ _ _ hb g w a s hP hN _ K
        | ret =>
          simp only [Option.some.injEq, Prod.mk.injEq] at h
          obtain ⟨rfl, rfl, rfl⟩ := h
          exact ih1 b fr M _ _ _ hb g w a s hP hN _ K
        | exit id' =>
          simp only at h
          refine ih1 b fr M _ _ _ hb g w a s hP hN _ ?_
          intro a1 w1 g1 le1 s1 z1 z2 z3 z4
          simp only [toExit, Exit.inBlock]
          split at h
          · rename_i hid
            rw [nbeq] at hid; subst hid
            simp only [Option.some.injEq, Prod.mk.injEq] at h
            obtain ⟨rfl, rfl, rfl⟩ := h
            rw [if_pos rfl]
            exact K a1 w1 g1 le1 s1 z1 z2 z3 z4
          · rename_i hid
            rw [nbeq] at hid
            simp only [Option.some.injEq, Prod.mk.injEq] at h
            obtain ⟨rfl, rfl, rfl⟩ := h
            rw [if_neg hid]
            exact K a1 w1 g1 le1 s1 z1 z2 z3 z4
    | loop b =>
      exact wp_loop_rounds (k + 1) (loop b fr M e fr' M' (by simpa only [ccode] using h) g w a s hP hN Q K)
    | _ => simp only [ccode, aexec] at h; cases h

end
end Go.Abs
end
