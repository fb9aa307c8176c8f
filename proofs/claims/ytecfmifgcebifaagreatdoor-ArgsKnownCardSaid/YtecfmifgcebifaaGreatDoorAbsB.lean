/-
  An interpreter over lists and objects for the given form of Go code, and the proof that it answers as the model does. Part 2.
-/
import Derived.Test.YtecfmifgcebifaaGreatDoorAbsA
import Derived.Laws.Tables
import Derived.Laws.Cells
import Derived.Laws.BytesArg
import Derived.Lib.FrozenHead
import Derived.Laws.AppendOwn
import Derived.IntWalk
import Derived.Laws.MakeOwn
/-
  Each pure operation of the small form is the model's: what makes blocks, lengths, the library's rows.
-/
section
namespace Go.Abs

theorem rep_get {z : List AVal} : ∀ (n i : Nat), i < n * z.length → (rep z n)[i]? = z[i % z.length]?
  | 0, i, h => by simp at h
  | n + 1, i, h => by
    rw [Nat.succ_mul] at h
    simp only [rep]
    by_cases hi : i < z.length
    · rw [List.getElem?_append_left hi, Nat.mod_eq_of_lt hi]
    · rw [List.getElem?_append_right (by omega), rep_get n (i - z.length) (by omega)]
      congr 1
      rw [← Nat.mod_eq_sub_mod (by omega)]

theorem rep_length {z : List AVal} : ∀ (n : Nat), (rep z n).length = n * z.length
  | 0 => by simp [rep]
  | n + 1 => by simp [rep, rep_length n, Nat.succ_mul]; omega

theorem rep_rel {g : G} {hw : Stk Nat} {hl : HL} {z : List AVal} {zc : Array Value} (r : VRels g hw hl z zc.toList) (n : Nat) :
    VRels g hw hl (rep z n) ((Array.range (n * z.length)).map fun i => zc[i % z.length]!).toList := by
  have hlz := VRels_length r
  simp only [Array.length_toList] at hlz
  refine VRels_of_get (by simp [rep_length]) fun i b hb => ?_
  have hi : i < n * z.length := by
    have := (List.getElem?_eq_some_iff.1 hb).1
    rw [rep_length] at this; exact this
  rw [rep_get n i hi] at hb
  obtain ⟨v, hv, rv⟩ := VRels_get r hb
  have hm : i % z.length < zc.size := by
    have := (List.getElem?_eq_some_iff.1 hb).1; omega
  refine ⟨v, ?_, rv⟩
  simp only [Array.getElem?_toList] at hv ⊢
  rw [Array.getElem?_map, Array.getElem?_range]
  rw [if_pos hi]
  simp only [Option.map_some, Option.some.injEq]
  rw [getElem!_pos zc _ hm]
  rw [Array.getElem?_eq_getElem hm] at hv
  exact Option.some.inj hv

theorem sealParts_length : ∀ (ps : List (Nat × Nat × AVal)), (sealParts ps).length = ps.length
  | [] => rfl
  | (_, _, _) :: ps => by simp [sealParts, sealParts_length ps]

theorem sealParts_get : ∀ (ps : List (Nat × Nat × AVal)) (i : Nat), (sealParts ps)[i]? = (ps[i]?).map fun (x : Nat × Nat × AVal) => (x.1, x.2.1, x.2.2.sealv)
  | [], i => by simp [sealParts]
  | (a, b, x) :: ps, 0 => by simp [sealParts]
  | (a, b, x) :: ps, i + 1 => by simp [sealParts, sealParts_get ps i]

theorem cells_eq (c : Array Value) (el : TypeId) (w : World) (i : Nat) (v : Value) (h : c[i]? = some v) : ({ w with heap := w.heap.push (.cells c el) } : World).cell? ⟨w.heap.size, i, none⟩ = some v :=
  cell_of (c := c) (el := el) (fr := (0, 0)) (by simp) h

section
variable {P : Program} {C : Cfg} {N : Nat} {ob : Bool} {o : Oper} {g : G} {M : AMem} {hl : HL} {w : World} {l : List AVal} {a : Act} {av : AVal}

theorem cpartsA_spec {n : Nat} : ∀ {ps : List (Nat × Operand)} {ps' : List (Nat × Nat × Opd)}, cpartsA C N n ps = some ps' → ps'.length = ps.length ∧
    ∀ (i : Nat) off size y, ps'[i]? = some (off, size, y) → ∃ j x, ps[i]? = some (j, x) ∧ (off = j * n ∧ size = n) ∧ copd C N x = some y
  | [], ps', h => by simp only [cpartsA, Option.some.injEq] at h; subst h; exact ⟨rfl, fun i _ _ _ h => by simp at h⟩
  | (j, x) :: ps, ps', h => by
    simp only [cpartsA] at h
    split at h
    · rename_i y r hy hr
      injection h with h; subst h
      obtain ⟨h1, h2⟩ := cpartsA_spec hr
      refine ⟨by simp [h1], fun i off size z hz => ?_⟩
      cases i with
      | zero =>
        simp only [List.getElem?_cons_zero, Option.some.injEq, Prod.mk.injEq] at hz
        obtain ⟨rfl, rfl, rfl⟩ := hz
        exact ⟨j, x, rfl, ⟨rfl, rfl⟩, hy⟩
      | succ i => simpa using h2 i off size z (by simpa using hz)
    · cases h

theorem cpartsS_spec {fs : Array Field} : ∀ {ps : List (Nat × Operand)} {ps' : List (Nat × Nat × Opd)}, cpartsS P C N fs ps = some ps' → ps'.length = ps.length ∧
    ∀ (i : Nat) off size y, ps'[i]? = some (off, size, y) → ∃ j x f, ps[i]? = some (j, x) ∧ fs[j]? = some f ∧ off = f.offset ∧ szT P f.type = some size ∧ copd C N x = some y
  | [], ps', h => by simp only [cpartsS, Option.some.injEq] at h; subst h; exact ⟨rfl, fun i _ _ _ h => by simp at h⟩
  | (j, x) :: ps, ps', h => by
    simp only [cpartsS] at h
    split at h
    · cases h
    · rename_i f hf
      split at h
      · rename_i n y r hn hy hr
        injection h with h; subst h
        obtain ⟨h1, h2⟩ := cpartsS_spec hr
        refine ⟨by simp [h1], fun i off size z hz => ?_⟩
        cases i with
        | zero =>
          simp only [List.getElem?_cons_zero, Option.some.injEq, Prod.mk.injEq] at hz
          obtain ⟨rfl, rfl, rfl⟩ := hz
          exact ⟨j, x, f, rfl, hf, rfl, hn, hy⟩
        | succ i => simpa using h2 i off size z (by simpa using hz)
      · cases h

theorem places_of : ∀ (fs : List Field), fs.all (fun f => (szT P f.type).isSome) = true → ∃ pl : List (Nat × Nat), fs.mapM (fun f => (P.info? f.type).map fun i => (f.offset, i.size)) = some pl ∧
    ∀ (j : Nat) f, fs[j]? = some f → ∃ n, szT P f.type = some n ∧ pl[j]? = some (f.offset, n)
  | [], _ => ⟨[], by simp, fun j f h => by simp at h⟩
  | f :: fs, h => by
    simp only [List.all_cons, Bool.and_eq_true] at h
    obtain ⟨pl, h1, h2⟩ := places_of fs h.2
    obtain ⟨n, hn⟩ := Option.isSome_iff_exists.1 h.1
    unfold szT at hn
    cases hi : P.info? f.type with
    | none => rw [hi] at hn; cases hn
    | some i =>
      rw [hi] at hn
      simp only [Option.map_some, Option.some.injEq] at hn
      subst hn
      refine ⟨(f.offset, i.size) :: pl, by simp [List.mapM_cons, hi, h1], fun j f' hj => ?_⟩
      cases j with
      | zero => simp at hj; subst hj; exact ⟨i.size, by simp [szT, hi], rfl⟩
      | succ j => simpa using h2 j f' (by simpa using hj)

theorem step_buildA (s : SRel C g M hl w l a.tmps) (hN : N ≤ a.tmps.size) {t e : TypeId} {m : Nat} {ps : Array (Nat × Operand)} (ho : o.op = .build t ps) {z : List AVal} (hz : zeroCellsT P t = some z)
    (hu : P.underlying t = some (.array m e)) {n : Nat} (hn : szT P e = some n) {ps' : List (Nat × Nat × Opd)} (hp : cpartsA C N n ps.toList = some ps')
    (h : PureOp.run (Opd.ev l) (.build z ps') = some av) : StepOK P C o a g M hl w l av hl M := by
  obtain ⟨h1, h2⟩ := cpartsA_spec hp
  refine step_build s hN ho hz (places := fun i => some (i * n, n)) h1 (fun i off size y hy => ?_) (fun zv cs hzv hf => ?_) h
  · obtain ⟨j, x, e1, ⟨rfl, rfl⟩, e3⟩ := h2 i off size y hy
    exact ⟨j, x, e1, rfl, e3⟩
  · simp only [Instr.build, Sem.run_bind, hzv, Result.andThen_ok, run_underlying hu, szT_run hn, hf, Sem.run_pure]

theorem step_buildS (s : SRel C g M hl w l a.tmps) (hN : N ≤ a.tmps.size) {t : TypeId} {ps : Array (Nat × Operand)} (ho : o.op = .build t ps) {z : List AVal} (hz : zeroCellsT P t = some z)
    {fs : Array Field} (hu : P.underlying t = some (.struct fs)) (hall : fs.toList.all (fun f => (szT P f.type).isSome) = true) {ps' : List (Nat × Nat × Opd)} (hp : cpartsS P C N fs ps.toList = some ps')
    (h : PureOp.run (Opd.ev l) (.build z ps') = some av) : StepOK P C o a g M hl w l av hl M := by
  obtain ⟨h1, h2⟩ := cpartsS_spec hp
  obtain ⟨pl, hpl, hpg⟩ := places_of fs.toList hall
  refine step_build s hN ho hz (places := fun i => pl.toArray[i]?) h1 (fun i off size y hy => ?_) (fun zv cs hzv hf => ?_) h
  · obtain ⟨j, x, f, e1, e2, rfl, e4, e5⟩ := h2 i off size y hy
    obtain ⟨n, e6, e7⟩ := hpg j f (by simpa using e2)
    rw [e4] at e6; injection e6 with e6; subst e6
    exact ⟨j, x, e1, by simpa using e7, e5⟩
  · have hpl' : ∀ w, (fs.mapM (m := Sem) fun f => Prod.mk f.offset <$> sizeOf f.type).run P w = .ok pl.toArray w := by
      intro w
      have e : fs = fs.toList.toArray := by simp
      rw [e, List.mapM_toArray]
      simp [run_places w fs.toList pl hpl]
    have hpl'' : ∀ w, (fs.mapM (m := Sem) fun f => do pure (f.offset, ← sizeOf f.type)).run P w = .ok pl.toArray w := by
      intro w
      have e : (fun (f : Field) => (do pure (f.offset, ← sizeOf f.type) : Sem (Nat × Nat))) = fun f => Prod.mk f.offset <$> sizeOf f.type := funext fun f => (map_eq_pure_bind (Prod.mk f.offset) (sizeOf f.type)).symm
      rw [e]; exact hpl' w
    simp only [Instr.build, Sem.run_bind, hzv, Result.andThen_ok, run_underlying hu, hpl'', hf, Sem.run_pure]

end
end Go.Abs
end

/-
  Each pure operation of the small form is the model's: slices that are made, lengths, the library's rows.
-/
section
namespace Go.Abs

section
variable {P : Program} {C : Cfg} {N : Nat} {ob : Bool} {o : Oper} {g : G} {M : AMem} {hl : HL} {w : World} {l : List AVal} {a : Act} {av : AVal}

theorem VRel.toFrame {hw : Stk Nat} {a : AVal} {v : Value} (h : VRel g hw Stk.empty a v) : VRel g hw hl a v := h.mono (GLe.frame _ _ _)

theorem step_buildSl (s : SRel C g M hl w l a.tmps) (hN : N ≤ a.tmps.size) {t e : TypeId} {n : Nat} {ps : Array (Nat × Operand)} (ho : o.op = .buildSlice t n ps) {z : List AVal}
    (hu : P.underlying t = some (.slice e)) (hz : zeroCellsT P e = some z) {sz : Nat} (hsz : szT P e = some sz) (h0 : 0 < sz) (hle : n * sz ≤ 16777216) (hn : 0 < n)
    {ps' : List (Nat × Nat × Opd)} (hp : cpartsA C N (P.cellsOf e) ps.toList = some ps')
    (h : PureOp.run (Opd.ev l) (.buildSl sz n z ps') = some av) : StepOK P C o a g M hl w l av hl M := by
  rw [szT_cells hsz] at hp
  obtain ⟨h1, h2⟩ := cpartsA_spec hp
  obtain ⟨zv, z1, z2, z3, _⟩ := zeroCellsT_run hz
  have hzl : z.length = sz := by rw [hsz] at z3; injection z3 with z3; exact z3.symm
  have hzv : zv.cells.size = sz := by have := VRels_length (z2 g M.hw hl); simpa [hzl] using this.symm
  simp only [PureOp.run] at h
  cases hf : fillParts (rep z n) (sealParts (evParts (Opd.ev l) ps')) with
  | none => rw [hf] at h; cases h
  | some cells' =>
    rw [hf] at h
    simp only [Option.map_some, Option.some.injEq] at h
    subst h
    have r0 := rep_rel (g := g) (hw := M.hw) (hl := Stk.empty) (z2 g M.hw Stk.empty) n
    rw [hzl] at r0
    obtain ⟨cs', f1, f2⟩ := fill_sound (g := g) (hl := Stk.empty) (hw := M.hw) (place := fun i => some (i * sz, sz)) (sealParts (evParts (Opd.ev l) ps')) (ps.map fun (x : Nat × Operand) => (x.1, a.eval x.2)).toList
      (by rw [sealParts_length, evParts_length, h1]; simp) (fun i off size x hx => by
        rw [sealParts_get, evParts_get] at hx
        cases hi : ps'[i]? with
        | none => rw [hi] at hx; cases hx
        | some q =>
          obtain ⟨o1, s1, y⟩ := q
          rw [hi] at hx
          simp only [Option.map_some, Option.some.injEq, Prod.mk.injEq] at hx
          obtain ⟨rfl, rfl, rfl⟩ := hx
          obtain ⟨j, x, hx, ⟨rfl, rfl⟩, hc⟩ := h2 i _ _ _ hi
          exact ⟨j, a.eval x, by simp [hx], rfl, VRel.sealv _ (copd_sound s hN hc)⟩) r0 hf
    have hlc : cells'.length = n * sz := by
      have : ∀ (ps : List (Nat × Nat × AVal)) (c c' : List AVal), fillParts c ps = some c' → c'.length = c.length := by
        intro ps
        induction ps with
        | nil => intro c c' h; simp only [fillParts, Option.some.injEq] at h; rw [h]
        | cons p ps ih =>
          obtain ⟨o1, s1, x⟩ := p
          intro c c' h
          simp only [fillParts] at h
          split at h
          · cases hov : overlay c o1 x.cells with
            | none => rw [hov] at h; cases h
            | some c1 =>
              rw [hov] at h
              simp only [Option.bind_some] at h
              rw [ih _ _ h, (overlay_spec hov).2.1]
          · cases h
      rw [this _ _ _ hf, rep_length, hzl]
    have hcs : cs'.size = n * sz := by have := VRels_length f2; simp only [Array.length_toList] at this; omega
    obtain ⟨c1, c2, c3⟩ := chunk_spec (sz := sz) n cells' (by omega)
    have ext := Ext.push w (.cells cs' e)
    obtain ⟨le, s'⟩ := s.newFix ext (b := w.heap.size) (Nat.le_refl _) (cells := cells') (fun i b hb => by
      obtain ⟨v, hv, rv⟩ := VRels_get f2 hb
      exact ⟨v, cells_eq cs' e w i v (by simpa using hv), rv⟩)
    refine ⟨.slice (some ⟨w.heap.size, 0, none⟩) n n, { w with heap := w.heap.push (.cells cs' e) }, g.addFix w.heap.size cells', .inl ?_, ?_, le, s', rfl, rfl⟩
    · have hgt : ¬ (n * sz > 2 ^ 24) := by omega
      have hnz : ¬ (n * sz = 0) := by
        have := Nat.mul_pos hn h0; omega
      simp only [execOp, ho, Instr.buildSlice, Sem.run_bind, run_underlying hu, Result.andThen_ok, szT_run hsz, if_neg hgt, if_neg hnz, Sem.run_pure, z1]
      rw [hzv, f1]
      simp [newRow]
    · simp only [VRel]
      refine ⟨w.heap.size, 0, n, by rw [c1], by rw [c1]; exact Nat.le_refl _, h0, c2, ?_, by rw [c1]; simp only [TokRel]⟩
      rw [c3, List.take_of_length_le (by omega)]
      exact FixAt.addFix

theorem step_buildSl0 (s : SRel C g M hl w l a.tmps) {t e : TypeId} {ps : Array (Nat × Operand)} (ho : o.op = .buildSlice t 0 ps) {z : List AVal}
    (hu : P.underlying t = some (.slice e)) {sz : Nat} (hsz : szT P e = some sz) (h0 : 0 < sz) (hps : ps.toList = [])
    (h : PureOp.run (Opd.ev l) (.buildSl sz 0 z []) = some av) : StepOK P C o a g M hl w l av hl M := by
  simp only [PureOp.run, evParts, sealParts, fillParts, rep, Option.map_some, Option.some.injEq, chunk] at h
  subst h
  have hp : ps = #[] := by cases ps; simp at hps; rw [hps]
  subst hp
  have ext := Ext.push w (.cells #[] e)
  obtain ⟨le, s'⟩ := s.newFix ext (b := w.heap.size) (Nat.le_refl _) (cells := []) (fun i b hb => by simp at hb)
  refine ⟨.slice (some ⟨w.heap.size, 0, none⟩) 0 0, { w with heap := w.heap.push (.cells #[] e) }, g.addFix w.heap.size [], .inl ?_, ?_, le, s', rfl, rfl⟩
  · simp [execOp, ho, Instr.buildSlice, run_underlying hu, szT_run hsz, Instr.fill, newRow, Array.range_zero']
  · simp only [VRel]
    exact ⟨w.heap.size, 0, 0, rfl, Nat.le_refl _, h0, fun r hr => by simp at hr, fun j x hx => by simp at hx, by simp [TokRel]⟩

theorem rowsOfBytes_flat : ∀ (p : List Nat), (rowsOfBytes p).flatten = p.map fun b => AVal.int .u8 (.ofNat b)
  | [] => rfl
  | b :: p => by simp [rowsOfBytes, rowsOfBytes_flat p]

theorem rowsOfBytes_length : ∀ (p : List Nat), (rowsOfBytes p).length = p.length
  | [] => rfl
  | b :: p => by simp [rowsOfBytes, rowsOfBytes_length p]

theorem rowsOfBytes_one : ∀ (p : List Nat), ∀ r ∈ rowsOfBytes p, r.length = 1
  | [], r, h => by simp [rowsOfBytes] at h
  | b :: p, r, h => by
    simp only [rowsOfBytes, List.mem_cons] at h
    rcases h with rfl | h
    · rfl
    · exact rowsOfBytes_one p r h

theorem isU8_spec {e : TypeId} (h : isU8 P e = true) : P.underlying e = some (.int .u8) := by
  unfold isU8 at h
  split at h
  · assumption
  · cases h

theorem freeze_at_end {w : World} {b n : Nat} {c : Array Value} {el : TypeId} (hb : w.heap[b]? = some (.cells c el (0, 0))) :
    (w.freeze ⟨b, n, none⟩ 1).heap[b]? = some (.cells c el (n, n + 1)) ∧ (∀ b', b' ≠ b → (w.freeze ⟨b, n, none⟩ 1).heap[b']? = w.heap[b']?) ∧ (w.freeze ⟨b, n, none⟩ 1).heap.size = w.heap.size := by
  unfold World.freeze
  rw [if_neg (by decide)]
  refine ⟨?_, fun b' h => ?_, by simp⟩
  · simp only [Array.getElem?_modify, if_true, hb, Option.map_some]
    simp
  · simp only [Array.getElem?_modify]
    rw [if_neg (fun e => h e.symm)]

theorem step_conv_bytes (s : SRel C g M hl w l a.tmps) (hN : N ≤ a.tmps.size) {t t' e : TypeId} {x : Operand} (ho : o.op = .convert t t' x) {x' : Opd} (hx : copd C N x = some x')
    (h1 : P.underlying t = some .string) (h2 : P.underlying t' = some (.slice e)) (hu : isU8 P e = true)
    (h : convF .bytes (x'.ev l) = some av) : StepOK P C o a g M hl w l av hl M := by
  have rx := copd_sound s hN hx
  have hu8 := isU8_spec hu
  unfold convF at h
  split at h <;> (try (cases h; done))
  · rename_i e1 _; cases e1
  · rename_i e1 _; cases e1
  · rename_i p _ e2
    injection h with h; subst h
    rw [e2] at rx; simp only [VRel] at rx
    obtain ⟨hv, hbs⟩ := rx
    let cap := (Question.appendCap (bytesV p).size 0 e).cut (w.tape w.drawn (.appendCap (bytesV p).size 0 e))
    let w1 : World := { w with drawn := w.drawn + 1 }
    let elems : Array Value := (bytesV p).data.map fun b => .int .u8 b.toNat
    let cells := elems ++ Array.replicate (cap - (bytesV p).size) (.int .u8 0)
    let w2 : World := { w1 with heap := w1.heap.push (.cells cells e) }
    let w3 := w2.freeze ⟨w.heap.size, cells.size, none⟩ 1
    have hcap : p.length ≤ cap := by
      show p.length ≤ (bytesV p).size + _ % _
      rw [bytesV_size]; omega
    have hb2 : w2.heap[w.heap.size]? = some (.cells cells e (0, 0)) := by
      show (w.heap.push _)[w.heap.size]? = _
      simp
    obtain ⟨fz1, fz2, fz3⟩ := freeze_at_end (n := cells.size) hb2
    have ext : Ext w w3 := by
      refine ⟨by rw [fz3]; show w.heap.size ≤ (w.heap.push _).size; simp, fun b hb => ?_, rfl, rfl, rfl⟩
      rw [fz2 b (by omega)]
      show (w.heap.push _)[b]? = _
      rw [Array.getElem?_push, if_neg (by omega)]
    have hcell : ∀ i b, (p.map fun b => AVal.int .u8 (.ofNat b))[i]? = some b → ∃ v, w3.cell? ⟨w.heap.size, i, none⟩ = some v ∧ VRel g M.hw Stk.empty b v := by
      intro i b hb
      rw [List.getElem?_map] at hb
      cases hp : p[i]? with
      | none => rw [hp] at hb; cases hb
      | some q =>
        rw [hp] at hb
        simp only [Option.map_some, Option.some.injEq] at hb
        subst hb
        have hlt : i < p.length := (List.getElem?_eq_some_iff.1 hp).1
        have hq : q < 256 := hbs q (List.mem_of_getElem? hp)
        refine ⟨.int .u8 (.ofNat q), cell_of fz1 ?_, by simp only [VRel]⟩
        show (elems ++ _)[i]? = _
        have hsz : i < elems.size := by
          show i < ((bytesV p).data.map _).size
          rw [Array.size_map]
          have : (bytesV p).data.size = p.length := bytesV_size p
          omega
        rw [Array.getElem?_append_left hsz]
        show ((bytesV p).data.map _)[i]? = _
        rw [Array.getElem?_map]
        have : (bytesV p).data[i]? = some (UInt8.ofNat q) := by
          show ((p.map UInt8.ofNat).toArray)[i]? = _
          rw [List.getElem?_toArray, List.getElem?_map, hp]; rfl
        rw [this]
        simp only [Option.map_some, toNat_byte hq]
        rfl
    obtain ⟨le, s'⟩ := s.newFix ext (b := w.heap.size) (Nat.le_refl _) (cells := p.map fun b => AVal.int .u8 (.ofNat b)) hcell
    refine ⟨.slice (some ⟨w.heap.size, 0, none⟩) (bytesV p).size cap, w3, _, .inl ?_, ?_, le, s', rfl, rfl⟩
    · have hsh : ({ w1 with heap := w1.heap.push (.cells cells e) } : World).shape? w.heap.size = some (e, cells.size) := by
        unfold World.shape?
        rw [hb2]
      have hmk : (markStringish ⟨w.heap.size, 0, none⟩).run P { w1 with heap := w1.heap.push (.cells cells e) } = .ok () w3 := by
        simp only [markStringish, Sem.run_bind, run_shape, Result.andThen_ok, hsh, run_freeze]
        rfl
      have hst : (Conv.stringToBytes e (bytesV p)).run P w = .ok (.slice (some ⟨w.heap.size, 0, none⟩) (bytesV p).size cap) w3 := by
        simp only [Conv.stringToBytes, Sem.run_bind, run_choose, Question.forced, Bool.false_eq_true, if_false, Result.andThen_ok, newRow, run_newObj, Sem.run_pure]
        have := hmk
        show Result.andThen ((markStringish ⟨w.heap.size, 0, none⟩).run P { w1 with heap := w1.heap.push (.cells cells e) }) _ = _
        rw [this]
        simp
        rfl
      simp only [execOp, ho, hv, convert, Sem.run_bind, run_underlying h1, run_underlying h2, run_underlying hu8, Result.andThen_ok, hst, Sem.run_pure]
    · simp only [VRel]
      refine ⟨w.heap.size, 0, cap, by rw [rowsOfBytes_length, bytesV_size], by rw [rowsOfBytes_length]; exact hcap, by omega, rowsOfBytes_one p, ?_, trivial⟩
      rw [rowsOfBytes_flat]
      exact FixAt.addFix

end
end Go.Abs
end

/-
  Each pure operation of the small form is the model's: lengths, the least and the greatest, arrays out of slices.
-/
section
namespace Go.Abs

section
variable {P : Program} {C : Cfg} {N : Nat} {ob : Bool} {o : Oper} {g : G} {M : AMem} {hl : HL} {w : World} {l : List AVal} {a : Act} {av : AVal}

theorem run_builtin {c : Call} (ho : o.op = .call c) {b : Builtin} (hc : c.callee = .builtin b) :
    ∃ cs, execOp a.eval o = builtin b c.argTypes o.type cs (c.args.map a.eval) := by
  refine ⟨c.args.map fun | .const _ => true | _ => false, ?_⟩
  simp only [execOp, ho, resolve, hc, pure_bind, invoke]
  rfl

theorem list_arr {α : Type} {x : Array α} {l : List α} (h : x.toList = l) : x = l.toArray := by
  subst h; simp

theorem step_len (s : SRel C g M hl w l a.tmps) (hN : N ≤ a.tmps.size) {c : Call} (ho : o.op = .call c) (hc : c.callee = .builtin .len) {t : TypeId} {x : Operand} (hargs : c.args.toList = [x]) (htys : c.argTypes.toList = [t])
    {x' : Opd} (hx : copd C N x = some x') {b : Bool} (hu : (b = true ∧ P.underlying t = some .string) ∨ (b = false ∧ ∃ e, P.underlying t = some (.slice e)))
    (h : PureOp.run (Opd.ev l) (.len b x') = some av) : StepOK P C o a g M hl w l av hl M := by
  have rx := copd_sound s hN hx
  have ea := list_arr hargs
  have et := list_arr htys
  obtain ⟨cs, hex⟩ := run_builtin (a := a) ho hc
  simp only [PureOp.run] at h
  cases hn : lenF b (x'.ev l) with
  | none => rw [hn] at h; cases h
  | some n =>
    rw [hn] at h
    simp only [Option.map_some, Option.some.injEq] at h
    subst h
    refine .same s (v := .int .i64 (.ofNat n)) ?_ (by simp only [VRel])
    rw [hex, ea, et]
    unfold lenF at hn
    rcases hu with ⟨rfl, hu⟩ | ⟨rfl, e, hu⟩
    · split at hn <;> (try (cases hn; done))
      · rename_i e1 e2
        rw [e2] at rx; simp only [VRel] at rx
        injection hn with hn; subst hn
        simp [builtin, Builtin.len_, run_underlying hu, rx.1, bytesV_size, goInt]
      all_goals (rename_i e1 _; cases e1)
    · split at hn <;> (try (cases hn; done))
      · rename_i e1 _; cases e1
      · rename_i e1 e2
        rw [e2] at rx; simp only [VRel] at rx
        injection hn with hn; subst hn
        obtain ⟨_, _, _, hv, _⟩ := rx
        simp [builtin, Builtin.len_, run_underlying hu, hv, goInt]
      · rename_i e1 e2
        rw [e2] at rx; simp only [VRel] at rx
        injection hn with hn; subst hn
        simp [builtin, Builtin.len_, run_underlying hu, rx, goInt]
      · rename_i e1 e2
        rw [e2] at rx; simp only [VRel] at rx
        injection hn with hn; subst hn
        obtain ⟨_, _, _, hv, _⟩ := rx
        simp [builtin, Builtin.len_, run_underlying hu, hv, goInt]

theorem step_lenC (s : SRel C g M hl w l a.tmps) {c : Call} (ho : o.op = .call c) {b : Builtin} (hb : b = .len ∨ b = .cap) (hc : c.callee = .builtin b) {t : TypeId} {x : Operand} (hargs : c.args.toList = [x])
    (htys : c.argTypes.toList = [t]) {n : Nat} (hu : (∃ e, P.underlying t = some (.array n e)) ∨ (∃ p e, P.underlying t = some (.pointer p) ∧ P.underlying p = some (.array n e))) : StepOK P C o a g M hl w l (.int .i64 (.ofNat n)) hl M := by
  have ea := list_arr hargs
  have et := list_arr htys
  obtain ⟨cs, hex⟩ := run_builtin (a := a) ho hc
  refine .same s (v := .int .i64 (.ofNat n)) ?_ (by simp only [VRel])
  rw [hex, ea, et]
  rcases hb with rfl | rfl <;> rcases hu with ⟨e, hu⟩ | ⟨p, e, hu, hp⟩
  · simp [builtin, Builtin.len_, run_underlying hu, goInt]
  · simp [builtin, Builtin.len_, run_underlying hu, run_underlying hp, goInt]
  · simp [builtin, Builtin.cap_, run_underlying hu, goInt]
  · simp [builtin, Builtin.cap_, run_underlying hu, run_underlying hp, goInt]

theorem step_cap (s : SRel C g M hl w l a.tmps) (hN : N ≤ a.tmps.size) {c : Call} (ho : o.op = .call c) (hc : c.callee = .builtin .cap) {t e : TypeId} {x : Operand} (hargs : c.args.toList = [x])
    (htys : c.argTypes.toList = [t]) {x' : Opd} (hx : copd C N x = some x') (hu : P.underlying t = some (.slice e)) (h : PureOp.run (Opd.ev l) (.cap x') = some av) : StepOK P C o a g M hl w l av hl M := by
  have rx := copd_sound s hN hx
  have ea := list_arr hargs
  have et := list_arr htys
  obtain ⟨cs, hex⟩ := run_builtin (a := a) ho hc
  simp only [PureOp.run] at h
  have fin : ∀ n p ln, a.eval x = .slice p ln n → av = .int .i64 (.ofNat n) → StepOK P C o a g M hl w l av hl M := by
    rintro n p ln hv rfl
    refine .same s (v := .int .i64 (.ofNat n)) ?_ (by simp only [VRel])
    rw [hex, ea, et]
    simp [builtin, Builtin.cap_, run_underlying hu, hv, goInt]
  split at h
  · rename_i e1
    rw [e1] at rx; simp only [VRel] at rx
    injection h with h
    exact fin 0 _ _ rx h.symm
  · rename_i e1
    rw [e1] at rx; simp only [VRel, TokRel] at rx
    obtain ⟨_, _, cp, hv, _, _, _, _, hcap⟩ := rx
    injection h with h
    exact fin cp _ _ hv (by rw [← h, hcap])
  · rename_i e1
    rw [e1] at rx; simp only [VRel] at rx
    obtain ⟨_, cp, _, hv, _, hcap⟩ := rx
    injection h with h
    exact fin cp _ _ hv (by rw [← h, hcap _ rfl])
  · cases h

theorem minmax_go {mx : Bool} {k : IntKind} {hw : Stk Nat} : ∀ {xs : List AVal} {vs : List Value} {n : Int}, VRels g hw hl xs vs → minmaxF.go mx k n xs = some av →
    ∃ v, (∀ w, (vs.foldlM (if mx then Builtin.max2 else Builtin.min2) (.int k n)).run P w = .ok v w) ∧ VRel g hw hl av v
  | [], vs, n, r, h => by
    simp only [VRels] at r; subst r
    simp only [minmaxF.go, Option.some.injEq] at h
    subst h
    exact ⟨.int k n, fun w => by simp, by simp only [VRel]⟩
  | x :: xs, vs, n, r, h => by
    simp only [VRels] at r
    obtain ⟨v, vs', rfl, rv, rs⟩ := r
    cases x <;> simp only [minmaxF.go] at h <;> (try (cases h; done))
    rename_i k' m
    simp only [VRel] at rv
    subst rv
    cases mx
    · simp only [Bool.false_eq_true, if_false] at h ⊢
      obtain ⟨v, h1, h2⟩ := minmax_go (mx := false) rs h
      refine ⟨v, fun w => ?_, h2⟩
      simp only [List.foldlM_cons, Sem.run_bind, Builtin.min2, Sem.run_pure, Result.andThen_ok]
      have := h1 w
      simp only [Bool.false_eq_true, if_false] at this
      rw [← this, ltI_eq]
      congr 2
      simp
    · simp only [if_true] at h ⊢
      obtain ⟨v, h1, h2⟩ := minmax_go (mx := true) rs h
      refine ⟨v, fun w => ?_, h2⟩
      simp only [List.foldlM_cons, Sem.run_bind, Builtin.max2, Sem.run_pure, Result.andThen_ok]
      have := h1 w
      simp only [if_true] at this
      rw [← this, ltI_eq]
      congr 2
      simp

theorem step_minmax (s : SRel C g M hl w l a.tmps) (hN : N ≤ a.tmps.size) {c : Call} (ho : o.op = .call c) {mx : Bool} (hc : c.callee = .builtin (if mx then .max else .min))
    {xs' : List Opd} (hx : copds C N c.args.toList = some xs') (h : PureOp.run (Opd.ev l) (.minmax mx xs') = some av) : StepOK P C o a g M hl w l av hl M := by
  have rx := copds_sound s hN hx
  obtain ⟨cs, hex⟩ := run_builtin (a := a) ho hc
  simp only [PureOp.run] at h
  cases he : evAll (Opd.ev l) xs' with
  | nil => rw [he] at h; simp [minmaxF] at h
  | cons x xs =>
    rw [he] at h rx
    simp only [VRels] at rx
    obtain ⟨v, vs, hv, rv, rs⟩ := rx
    cases x <;> simp only [minmaxF] at h <;> (try (cases h; done))
    rename_i k n
    simp only [VRel] at rv
    subst rv
    obtain ⟨v, h1, h2⟩ := minmax_go (P := P) rs h
    refine .same s (v := v) ?_ h2
    rw [hex]
    cases mx
    · have := h1 w
      simp only [Bool.false_eq_true, if_false] at this ⊢
      simp [builtin, Builtin.min_, hv, this]
    · have := h1 w
      simp only [if_true] at this ⊢
      simp [builtin, Builtin.max_, hv, this]

theorem step_arrp (s : SRel C g M hl w l a.tmps) (hN : N ≤ a.tmps.size) {t e : TypeId} {n : Nat} {x : Operand} (ho : o.op = .sliceToArrayPointer t x) {x' : Opd} (hx : copd C N x = some x')
    (hu : P.underlying t = some (.array n e)) {sz : Nat} (h : PureOp.run (Opd.ev l) (.arrp n sz x') = some av) : StepOK P C o a g M hl w l av hl M := by
  have rx := copd_sound s hN hx
  simp only [PureOp.run] at h
  have run : ∀ p len cap, a.eval x = .slice p len cap → n ≤ len → (execOp a.eval o).run P w = .ok (.value (.pointer p)) w := by
    intro p len cap hv hle
    have : ¬ len < n := by omega
    simp [execOp, ho, hv, Instr.arrayAt, run_underlying hu, this]
  split at h
  · rename_i sz' rows tok ex
    split at h
    · rename_i hc
      rw [Bool.and_eq_true, nbeq, Stk.ble_iff] at hc
      obtain ⟨rfl, hle⟩ := hc
      injection h with h; subst h
      rw [ex] at rx; simp only [VRel] at rx
      obtain ⟨b, off, cap, hv, _, _, _, hf, _⟩ := rx
      exact .same s (run _ _ _ hv hle) (by simp only [VRel]; exact ⟨b, off, rfl, hf⟩)
    · cases h
  · rename_i ob i ln cp sz' ex
    split at h
    · rename_i hc
      rw [Bool.and_eq_true, nbeq, Stk.ble_iff] at hc
      obtain ⟨rfl, hle⟩ := hc
      injection h with h; subst h
      rw [ex] at rx; simp only [VRel] at rx
      obtain ⟨b, c, hb, hv, _⟩ := rx
      exact .same s (run _ _ _ hv hle) (by simp only [VRel]; exact ⟨b, hb, rfl⟩)
    · cases h
  · cases h

end
end Go.Abs
end

/-
  Keys and entries of maps.
-/
section
namespace Go.Abs

section
variable {P : Program} {g : G} {hw : Stk Nat} {hl : HL}

theorem keyT_spec {t : TypeId} {kt : KeyT} (h : keyT P t = some kt) : kt.id = t ∧ kt.agg = isAggT P t ∧ leaves P 50 t = some kt.ls := by
  unfold keyT at h
  cases hl : leaves P 50 t with
  | none => rw [hl] at h; cases h
  | some l =>
    rw [hl] at h
    simp only [Option.map_some, Option.some.injEq] at h
    subst h
    exact ⟨rfl, rfl, rfl⟩

/-- A fitting key is its plain parts. -/
theorem fits_cells {t : TypeId} {kt : KeyT} (hk : keyT P t = some kt) {a : AVal} (hf : kt.fits a = true) {v : Value} (r : VRel g hw hl a v) :
    ∃ xs, VRels g hw hl a.cells xs ∧ leafAll kt.ls a.cells = true ∧ v = valOf P t xs := by
  obtain ⟨_, h2, h3⟩ := keyT_spec hk
  obtain ⟨ds, hu, _, h1⟩ := leaves_under h3
  cases hag : kt.agg with
  | true =>
    have e : isAggT P t = true := by rw [← h2]; exact hag
    cases a <;> simp [KeyT.fits, hag] at hf
    rename_i l
    simp only [VRel] at r
    obtain ⟨xs, rfl, rx⟩ := r
    exact ⟨xs, rx, hf, by simp [valOf, e]⟩
  | false =>
    have e : isAggT P t = false := by rw [← h2]; exact hag
    have hf' : leafAll kt.ls [a] = true := by simpa [KeyT.fits, hag] using hf
    cases hls : kt.ls with
    | nil => rw [hls] at hf'; simp [leafAll] at hf'
    | cons lf ls =>
      rw [hls] at hf'
      simp only [leafAll, Bool.and_eq_true] at hf'
      obtain ⟨hf1, hf2⟩ := hf'
      cases ls with
      | cons x y => simp [leafAll] at hf2
      | nil =>
        have hc : a.cells = [a] := by
          cases a <;> simp [AVal.cells]
          cases lf <;> simp [Leaf.fits] at hf1
        refine ⟨[v], by rw [hc]; exact VRels_cons r VRels_nil, by rw [hc]; simp [leafAll, hf1], by simp [valOf, e]⟩

theorem same_cells {a b : AVal} {kt : KeyT} (ha : kt.fits a = true) (hb : kt.fits b = true) : sameAll a.cells b.cells = a.same b := by
  unfold KeyT.fits at ha hb
  split at ha
  · rename_i l e
    split at hb
    · rename_i m e'
      simp [AVal.cells, AVal.same]
    · rename_i e'; rw [e] at e'; cases e'
    · cases hb
  · rename_i e
    split at hb
    · rename_i e'; rw [e] at e'; cases e'
    · have hc : ∀ x : AVal, leafAll kt.ls [x] = true → x.cells = [x] := by
        intro x hx
        cases hls : kt.ls with
        | nil => rw [hls] at hx; simp [leafAll] at hx
        | cons lf ls => rw [hls] at hx; simp only [leafAll, Bool.and_eq_true] at hx; cases x <;> simp [AVal.cells]; cases lf <;> simp [Leaf.fits] at hx
      rw [hc _ ha, hc _ hb]
      simp [sameAll]
    · cases hb
  · cases ha

theorem key_equal {t : TypeId} {kt : KeyT} (hk : keyT P t = some kt) {a b : AVal} (ha : kt.fits a = true) (hb : kt.fits b = true) {u v : Value} (ra : VRel g hw hl a u) (rb : VRel g hw hl b v) (w : World) :
    (Op.equal t u v).run P w = .ok (a.same b) w := by
  obtain ⟨_, _, h3⟩ := keyT_spec hk
  obtain ⟨xs, rx, fx, rfl⟩ := fits_cells hk ha ra
  obtain ⟨ys, ry, fy, rfl⟩ := fits_cells hk hb rb
  have := equalIn_leaves 50 t kt.ls h3 10000 (by omega) _ _ xs ys rx ry fx fy w
  rw [same_cells ha hb] at this
  exact this

/-- Where a key stands among entries. -/
def findPos (k : AVal) : List (AVal × AVal × Nat) → Option Nat
  | [] => none
  | (k', _, _) :: es => if k.same k' then some 0 else (findPos k es).map (· + 1)

theorem EntRel_get {kt : KeyT} : ∀ {es : List (AVal × AVal × Nat)} {ces : List MapEntry}, EntRel g hw kt es ces → ∀ {i : Nat} {k v : AVal} {b : Nat}, es[i]? = some (k, v, b) →
    ∃ e, ces[i]? = some e ∧ VRel g hw Stk.empty k e.key ∧ VRel g hw Stk.empty v e.val ∧ e.born = b ∧ kt.fits k = true
  | [], _, _, i, _, _, _, h => by simp at h
  | (k', v', b') :: es, ces, r, i, k, v, b, h => by
    obtain ⟨e, rest, rfl, h1, h2, h3, h4, h5⟩ := r
    cases i with
    | zero => simp at h; obtain ⟨rfl, rfl, rfl⟩ := h; exact ⟨e, rfl, h1, h2, h3, h4⟩
    | succ i => simp at h; simpa using EntRel_get h5 h

theorem EntRel_length {kt : KeyT} : ∀ {es : List (AVal × AVal × Nat)} {ces : List MapEntry}, EntRel g hw kt es ces → es.length = ces.length
  | [], ces, h => by simp only [EntRel] at h; subst h; rfl
  | (k, v, b) :: es, ces, h => by
    obtain ⟨e, rest, rfl, _, _, _, _, h5⟩ := h
    simp [EntRel_length h5]

theorem EntRel_append {kt : KeyT} : ∀ {es fs : List (AVal × AVal × Nat)} {ces cfs : List MapEntry}, EntRel g hw kt es ces → EntRel g hw kt fs cfs → EntRel g hw kt (es ++ fs) (ces ++ cfs)
  | [], fs, ces, cfs, h, h' => by simp only [EntRel] at h; subst h; simpa using h'
  | (k, v, b) :: es, fs, ces, cfs, h, h' => by
    obtain ⟨e, rest, rfl, h1, h2, h3, h4, h5⟩ := h
    exact ⟨e, rest ++ cfs, rfl, h1, h2, h3, h4, EntRel_append h5 h'⟩

theorem EntRel_set {kt : KeyT} : ∀ {es : List (AVal × AVal × Nat)} {ces : List MapEntry}, EntRel g hw kt es ces → ∀ (i : Nat) {k v : AVal} {e : MapEntry}, VRel g hw Stk.empty k e.key → VRel g hw Stk.empty v e.val →
    kt.fits k = true → EntRel g hw kt (es.set i (k, v, e.born)) (ces.set i e)
  | [], ces, h, i, _, _, _, _, _, _ => by simp only [EntRel] at h; subst h; simp [EntRel]
  | (k', v', b') :: es, ces, h, i, k, v, e, rk, rv, hf => by
    obtain ⟨e', rest, rfl, h1, h2, h3, h4, h5⟩ := h
    cases i with
    | zero => exact ⟨e, rest, rfl, rk, rv, rfl, hf, h5⟩
    | succ i => exact ⟨e', rest.set i e, rfl, h1, h2, h3, h4, EntRel_set h5 i rk rv hf⟩

theorem EntRel_erase {kt : KeyT} : ∀ {es : List (AVal × AVal × Nat)} {ces : List MapEntry}, EntRel g hw kt es ces → ∀ (i : Nat), EntRel g hw kt (es.eraseIdx i) (ces.eraseIdx i)
  | [], ces, h, i => by simp only [EntRel] at h; subst h; simp [EntRel]
  | (k', v', b') :: es, ces, h, i => by
    obtain ⟨e', rest, rfl, h1, h2, h3, h4, h5⟩ := h
    cases i with
    | zero => exact h5
    | succ i => exact ⟨e', rest.eraseIdx i, rfl, h1, h2, h3, h4, EntRel_erase h5 i⟩

theorem findPos_lt {k : AVal} : ∀ {es : List (AVal × AVal × Nat)} {i : Nat}, findPos k es = some i → i < es.length
  | [], _, h => by simp [findPos] at h
  | (k', v, b) :: es, i, h => by
    simp only [findPos] at h
    split at h
    · injection h with h; subst h; simp
    · cases hp : findPos k es with
      | none => rw [hp] at h; cases h
      | some j =>
        rw [hp] at h
        simp only [Option.map_some, Option.some.injEq] at h
        subst h
        have := findPos_lt hp
        simp; omega

theorem findEntry_pos (k : AVal) : ∀ (es : List (AVal × AVal × Nat)), findEntry k es = (findPos k es).bind fun i => (es[i]?).map fun e => (e.2.1, e.2.2)
  | [] => rfl
  | (k', v, b) :: es => by
    simp only [findEntry, findPos]
    split
    · rfl
    · rw [findEntry_pos k es]
      cases findPos k es <;> simp

theorem setEntry_pos (k v : AVal) (c : Nat) : ∀ (es : List (AVal × AVal × Nat)), setEntry k v c es = match findPos k es with
    | some i => (es.set i (k, v, ((es[i]?).map fun e => e.2.2).getD 0), false)
    | none => (es ++ [(k, v, c)], true)
  | [] => rfl
  | (k', v', b) :: es => by
    simp only [setEntry, findPos]
    split
    · simp
    · rw [setEntry_pos k v c es]
      cases findPos k es <;> simp

theorem dropEntry_pos (k : AVal) : ∀ (es : List (AVal × AVal × Nat)), dropEntry k es = match findPos k es with
    | some i => es.eraseIdx i
    | none => es
  | [] => rfl
  | (k', v', b) :: es => by
    simp only [dropEntry, findPos]
    split
    · simp
    · rw [dropEntry_pos k es]
      cases findPos k es <;> simp

theorem findAsking_sound {t : TypeId} {kt : KeyT} (hk : keyT P t = some kt) {k : AVal} {kv : Value} (rk : VRel g hw hl k kv) (hf : kt.fits k = true) :
    ∀ (es : List (AVal × AVal × Nat)) (ces : List MapEntry) (n : Nat), EntRel g hw kt es ces → ∀ w, (Instr.findAsking t kv ces n).run P w = .ok ((findPos k es).bind fun i => (ces[i]?).map fun e => (n + i, e.val)) w
  | [], ces, n, h, w => by simp only [EntRel] at h; subst h; rfl
  | (k', v, b) :: es, ces, n, h, w => by
    obtain ⟨e, rest, rfl, h1, h2, h3, h4, h5⟩ := h
    have he := key_equal hk hf h4 rk (h1.mono (GLe.frame g hw hl)) w
    simp only [Instr.findAsking, Sem.run_bind, he, Result.andThen_ok, findPos]
    cases hs : k.same k' with
    | true => simp
    | false =>
      have ih := findAsking_sound hk rk hf es rest (n + 1) h5 w
      simp only [Bool.false_eq_true, if_false, ih]
      cases findPos k es <;> simp [Nat.add_assoc, Nat.add_comm 1]

theorem findNow_sound {t : TypeId} {d : TypeDesc} (hu : P.underlying t = some d) {kt : KeyT} (hk : keyT P t = some kt) {k : AVal} {kv : Value} (rk : VRel g hw hl k kv) (hf : kt.fits k = true) :
    ∀ (es : List (AVal × AVal × Nat)) (ces : List MapEntry) (n : Nat), EntRel g hw kt es ces →
      Instr.findNow d kv ces n = some ((findPos k es).bind fun i => (ces[i]?).map fun e => (n + i, e.val)) ∨ (Instr.findNow d kv ces n = none)
  | [], ces, n, h => by simp only [EntRel] at h; subst h; exact .inl rfl
  | (k', v, b) :: es, ces, n, h => by
    obtain ⟨e, rest, rfl, h1, h2, h3, h4, h5⟩ := h
    simp only [Instr.findNow]
    have hsn : Instr.sameNow d kv e.key = some (k.same k') ∨ Instr.sameNow d kv e.key = none := by
      obtain ⟨xs, rx, fx, ex⟩ := fits_cells hk hf rk
      obtain ⟨ys, ry, fy, ey⟩ := fits_cells hk h4 h1
      obtain ⟨_, _, h3'⟩ := keyT_spec hk
      have hsc := same_cells hf h4
      cases d <;> (try (right; rfl))
      all_goals
        have hag : isAggT P t = false := by simp [isAggT, hu]
        simp only [leaves, hu] at h3'
        split at h3' <;> (try (cases h3'; done))
        injection h3' with h3'
        rw [← h3'] at fx fy
        obtain ⟨a1, v1, c1, rfl, f1, r1⟩ := one_leaf fx rx
        obtain ⟨a2, v2, c2, rfl, f2, r2⟩ := one_leaf fy ry
        simp only [valOf, hag, Bool.false_eq_true, if_false, List.headD_cons] at ex ey
        rw [c1, c2] at hsc
        simp only [sameAll, Bool.and_true] at hsc
      · obtain ⟨p, rfl, rfl⟩ := leaf_bool f1 r1
        obtain ⟨q, rfl, rfl⟩ := leaf_bool f2 r2
        left; rw [ex, ey, ← hsc]; rfl
      · obtain ⟨p, rfl, rfl⟩ := leaf_int f1 r1
        obtain ⟨q, rfl, rfl⟩ := leaf_int f2 r2
        left; rw [ex, ey, ← hsc]
        simp [Instr.sameNow, AVal.same, sameInt_eq, (sameKind_iff _ _).2]
      · obtain ⟨p, rfl, rfl, hp⟩ := leaf_str f1 r1
        obtain ⟨q, rfl, rfl, hq⟩ := leaf_str f2 r2
        left; rw [ex, ey, ← hsc]
        simp only [Instr.sameNow, AVal.same]
        rw [← eq_bytes hp hq, beq_toListBytes]
    rcases hsn with hsn | hsn
    · rw [hsn]
      cases hs : k.same k' with
      | true => left; simp [findPos, hs]
      | false =>
        simp only
        rcases findNow_sound hu hk rk hf es rest (n + 1) h5 with h | h
        · left
          rw [h]
          simp only [findPos, hs, Bool.false_eq_true, if_false]
          cases findPos k es <;> simp [Nat.add_assoc, Nat.add_comm 1]
        · exact .inr h
    · rw [hsn]; exact .inr rfl

theorem findKey_sound {t : TypeId} {kt : KeyT} (hk : keyT P t = some kt) {k : AVal} {kv : Value} (rk : VRel g hw hl k kv) (hf : kt.fits k = true)
    {es : List (AVal × AVal × Nat)} {ces : List MapEntry} (h : EntRel g hw kt es ces) (w : World) : (Instr.findKey t kv ces).run P w = .ok ((findPos k es).bind fun i => (ces[i]?).map fun e => (i, e.val)) w := by
  obtain ⟨_, _, h3⟩ := keyT_spec hk
  obtain ⟨d, hu, _⟩ := leaves_under h3
  simp only [Instr.findKey, Sem.run_bind, run_underlying hu, Result.andThen_ok]
  rcases findNow_sound hu hk rk hf es ces 0 h with h1 | h1
  · rw [h1]; simp
  · rw [h1]
    have := findAsking_sound hk rk hf es ces 0 h w
    simpa using this

/-! ### A key may be asked for -/

mutual
theorem checkKey_leaves (em : Bool) : ∀ (d : Nat) (t : TypeId) (ls : List Leaf), leaves P d t = some ls → ∀ D, d ≤ D → ∀ (l : List AVal) (xs : List Value), VRels g hw hl l xs → leafAll ls l = true →
    ∀ w, (Instr.checkKey em D t (valOf P t xs)).run P w = .ok () w
  | 0, _, _, h => by simp [leaves] at h
  | d + 1, t, ls, h => by
    intro D hD l xs hx fl w
    obtain ⟨D, rfl⟩ : ∃ D', D = D' + 1 := ⟨D - 1, by omega⟩
    simp only [leaves] at h
    split at h
    · rename_i hu
      have ha : isAggT P t = false := by simp [isAggT, hu]
      split at h
      · injection h with h; subst h
        obtain ⟨a, v, rfl, rfl, fa, ra⟩ := one_leaf fl hx
        obtain ⟨p, rfl, rfl⟩ := leaf_bool fa ra
        simp [valOf, ha, Instr.checkKey, run_underlying hu]
      · cases h
    · rename_i k hu
      have ha : isAggT P t = false := by simp [isAggT, hu]
      split at h
      · injection h with h; subst h
        obtain ⟨a, v, rfl, rfl, fa, ra⟩ := one_leaf fl hx
        obtain ⟨p, rfl, rfl⟩ := leaf_int fa ra
        simp [valOf, ha, Instr.checkKey, run_underlying hu]
      · cases h
    · rename_i hu
      have ha : isAggT P t = false := by simp [isAggT, hu]
      split at h
      · injection h with h; subst h
        obtain ⟨a, v, rfl, rfl, fa, ra⟩ := one_leaf fl hx
        obtain ⟨p, rfl, rfl, hp⟩ := leaf_str fa ra
        simp [valOf, ha, Instr.checkKey, run_underlying hu]
      · cases h
    · rename_i n e hu
      have ha : isAggT P t = true := by simp [isAggT, hu]
      split at h
      · rename_i le hle
        split at h
        · injection h with h; subst h
          obtain ⟨de, hde, hse, h1e⟩ := leaves_under hle
          have hlx : l.length = (repL le n).length := leafAll_length fl
          have hxs := VRels_length hx
          have hrep : ∀ n, (repL le n).length = n * le.length := by
            intro n; induction n with
            | zero => simp [repL]
            | succ n ih => simp [repL, ih, Nat.succ_mul]; omega
          have hsz := fun w => szT_run hse w
          simp only [valOf, ha, if_true, Instr.checkKey, Sem.run_bind, run_underlying hu, Result.andThen_ok]
          have key : ∀ (k j : Nat), j + k = n → leafAll (repL le k) (l.drop (j * le.length)) = true →
              (forIn (m := Sem) (List.range' j k) PUnit.unit fun i _ => do
                let s ← sizeOf e
                let p ← part e ⟨xs⟩ (i * s)
                Instr.checkKey em D e p
                pure (ForInStep.yield PUnit.unit)).run P w = .ok PUnit.unit w := by
            intro k
            induction k with
            | zero => intro j _ _; simp
            | succ k ih =>
              intro j hj h1
              simp only [repL] at h1
              obtain ⟨f1, f1'⟩ := leafAll_split h1
              have hb : j * le.length + le.length ≤ xs.length := by
                rw [← hxs, hlx, hrep]
                calc j * le.length + le.length = (j + 1) * le.length := by rw [Nat.succ_mul]
                  _ ≤ n * le.length := Nat.mul_le_mul_right _ (by omega)
              have px := part_val hde hse h1e (X := ⟨xs⟩) (off := j * le.length) (by simpa using hb) w
              have he := checkKey_leaves em d e le hle D (by omega) _ _ (VRels_take le.length (VRels_drop (j * le.length) hx)) f1 w
              have hd : (l.drop (j * le.length)).drop le.length = l.drop ((j + 1) * le.length) := by rw [List.drop_drop, Nat.succ_mul]
              rw [hd] at f1'
              rw [List.range'_succ, List.forIn_cons]
              simp only [Sem.run_bind, hsz, Result.andThen_ok, px, he, Sem.run_pure]
              exact ih (j + 1) (by omega) f1'
          have := key n 0 (by omega) (by simpa using fl)
          simp only [Std.Legacy.Range.forIn_eq_forIn_range', Std.Legacy.Range.size, Nat.sub_zero, Nat.add_one_sub_one, Nat.div_one]
          rw [this]; rfl
        · cases h
      · cases h
    · rename_i fs hu
      have ha : isAggT P t = true := by simp [isAggT, hu]
      simp only [valOf, ha, if_true, Instr.checkKey, Sem.run_bind, run_underlying hu, Result.andThen_ok]
      rw [← Array.forIn_toList]
      split at h
      · cases h
      · split at h
        · rename_i lf hlf
          split at h
          · injection h with h; subst h
            rw [checkFields_leaves em d fs.toList 0 _ hlf D (by omega) l xs hx (by simpa using fl) w]
            rfl
          · cases h
        · cases h
    · cases h
theorem checkFields_leaves (em : Bool) : ∀ (d : Nat) (fs : List Field) (off : Nat) (ls : List Leaf), leavesS P d fs off = some ls → ∀ D, d ≤ D → ∀ (l : List AVal) (xs : List Value),
    VRels g hw hl l xs → leafAll ls (l.drop off) = true → ∀ w,
      (forIn (m := Sem) fs PUnit.unit fun f _ => if f.name ≠ "_" then do
          let p ← part f.type ⟨xs⟩ f.offset
          Instr.checkKey em D f.type p
          pure (ForInStep.yield PUnit.unit)
        else pure (ForInStep.yield PUnit.unit)).run P w = .ok PUnit.unit w
  | 0, _, _, _, h => by simp [leavesS] at h
  | d + 1, [], off, ls, h => by
    intro D _ l xs _ _ w
    simp
  | d + 1, f :: fs, off, ls, h => by
    intro D hD l xs hx fl w
    simp only [leavesS] at h
    split at h
    · rename_i hc
      rw [Bool.and_eq_true, nbeq, bne_iff_ne] at hc
      obtain ⟨hname, hoff⟩ := hc
      split at h
      · rename_i le hle
        cases hr : leavesS P d fs (off + le.length) with
        | none => rw [hr] at h; cases h
        | some lr =>
          rw [hr] at h
          simp only [Option.map_some, Option.some.injEq] at h
          subst h
          obtain ⟨de, hde, hse, h1e⟩ := leaves_under hle
          obtain ⟨f1, f1'⟩ := leafAll_split fl
          have hlx := leafAll_length fl
          have hxs := VRels_length hx
          simp only [List.length_drop, List.length_append] at hlx
          have hsz : le.length = 0 ∨ off + le.length ≤ xs.length := by omega
          have px : (part f.type ⟨xs⟩ off).run P w = .ok (valOf P f.type ((xs.drop off).take le.length)) w := by
            rcases hsz with h0 | hsz
            · have ha : isAggT P f.type = true := by
                cases hag : isAggT P f.type with
                | true => rfl
                | false => have := h1e hag; omega
              have hz := szT_run hse w
              have hr' := isAggT_run hde w
              rw [ha] at hr'
              simp only [part, Sem.run_bind, hr', Result.andThen_ok, if_true, hz, Sem.run_pure, valOf, ha, h0]
              simp
            · exact part_val hde hse h1e (X := ⟨xs⟩) (off := off) (by simpa using hsz) w
          have he := checkKey_leaves em d f.type le hle D (by omega) _ _ (VRels_take le.length (VRels_drop off hx)) f1 w
          have hd : (l.drop off).drop le.length = l.drop (off + le.length) := by rw [List.drop_drop]
          rw [hd] at f1'
          rw [List.forIn_cons]
          simp only [Sem.run_bind, if_pos hname, hoff, px, Result.andThen_ok, he, Sem.run_pure]
          exact checkFields_leaves em d fs (off + le.length) lr hr D (by omega) l xs hx f1' w
      · cases h
    · cases h
end

theorem checkKey_sound {t : TypeId} {kt : KeyT} (hk : keyT P t = some kt) {k : AVal} {kv : Value} (rk : VRel g hw hl k kv) (hf : kt.fits k = true) (em : Bool) (w : World) :
    (Instr.checkKey em 10000 t kv).run P w = .ok () w := by
  obtain ⟨_, _, h3⟩ := keyT_spec hk
  obtain ⟨xs, rx, fx, rfl⟩ := fits_cells hk hf rk
  exact checkKey_leaves em 50 t kt.ls h3 10000 (by omega) _ xs rx fx w

end
end Go.Abs
end

/-
  The small form's reading operations are the model's.
-/
section
namespace Go.Abs

section
variable {P : Program} {C : Cfg} {N : Nat} {ob : Bool} {o : Oper} {g : G} {M : AMem} {hl : HL} {w : World} {l : List AVal} {a : Act} {av : AVal}

/-- Cells that stand in memory: one behind the other. -/
theorem cells_run {hw : Stk Nat} {b off : Nat} : ∀ {ls : List AVal}, (∀ (j : Nat) x, ls[j]? = some x → ∃ v, w.cell? ⟨b, off + j, none⟩ = some v ∧ VRel g hw hl x v) →
    ∃ vs, VRels g hw hl ls vs ∧ ∀ (j : Nat) v, vs[j]? = some v → w.cell? ⟨b, off + j, none⟩ = some v
  | [], _ => ⟨[], VRels_nil, fun j v h => by simp at h⟩
  | x :: ls, h => by
    obtain ⟨v, hv, rv⟩ := h 0 x rfl
    obtain ⟨vs, rs, hs⟩ := cells_run (b := b) (off := off + 1) (ls := ls) (fun j y hj => by
      have := h (j + 1) y (by simpa using hj)
      rwa [show off + (j + 1) = off + 1 + j by omega] at this)
    refine ⟨v :: vs, VRels_cons rv rs, fun j u hj => ?_⟩
    cases j with
    | zero => simp at hj; subst hj; exact hv
    | succ j =>
      simp at hj
      have := hs j u hj
      rwa [show off + 1 + j = off + (j + 1) by omega] at this

theorem loadCells_run {vs : List Value} {b off : Nat} (h : ∀ (j : Nat) v, vs[j]? = some v → w.cell? ⟨b, off + j, none⟩ = some v) : (loadCells ⟨b, off, none⟩ vs.length).run P w = .ok ⟨vs⟩ w := by
  have := run_loadCells_list (P := P) w ⟨b, off, none⟩ vs (fun j v hj => by rw [Addr.add_lit]; exact h j v hj)
  simpa using this

/-- A variable that stands in memory, cell by cell. -/
theorem loadVar_run {hw : Stk Nat} {t : TypeId} {ag : Option Nat} (hag : agT P t = some ag) {ls : List AVal} {i : Nat} (ha : aggOf ag ls i = some av) {b off : Nat}
    (h : ∀ (j : Nat) x, ls[j]? = some x → ∃ v, w.cell? ⟨b, off + j, none⟩ = some v ∧ VRel g hw hl x v) :
    ∃ v, (loadVar t ⟨b, off + i, none⟩).run P w = .ok v w ∧ VRel g hw hl av v := by
  obtain ⟨h1, h2⟩ := agT_run hag w
  cases ag with
  | none =>
    simp only [aggOf, nth?_eq] at ha
    obtain ⟨v, hv, rv⟩ := h i av ha
    refine ⟨v, ?_, rv⟩
    simp only [loadVar, Sem.run_bind, h1, Result.andThen_ok, Option.isSome_none, Bool.false_eq_true, if_false, run_load, hv]
  | some n =>
    have hs := szT_run (h2 n rfl) w
    simp only [aggOf] at ha
    split at ha
    · rename_i hle
      rw [Stk.ble_iff] at hle
      injection ha with ha; subst ha
      rw [takeN_eq, dropN_eq]
      obtain ⟨vs, rs, hvs⟩ := cells_run (g := g) (hl := hl) (w := w) (hw := hw) (b := b) (off := off + i) (ls := (ls.drop i).take n) (fun j x hj => by
        rw [List.getElem?_take] at hj
        split at hj
        · rw [List.getElem?_drop] at hj
          have := h (i + j) x hj
          rwa [show off + (i + j) = off + i + j by omega] at this
        · cases hj)
      have hlen : vs.length = n := by have := VRels_length rs; simp at this; omega
      refine ⟨.agg ⟨vs⟩, ?_, by simp only [VRel]; exact ⟨vs, rfl, rs⟩⟩
      have hl' := loadCells_run (P := P) hvs
      rw [hlen] at hl'
      simp only [loadVar, Sem.run_bind, h1, Result.andThen_ok, Option.isSome_some, if_true, hs, hl', Sem.run_pure]
    · cases ha

theorem obj_cells (r : WRel g M w) {o : Nat} {ls : List AVal} (h : M.objs.get? o = some (.cells ls)) : ∃ b, g.obj o = some b ∧ ∀ (j : Nat) x, ls[j]? = some x → ∃ v, w.cell? ⟨b, j, none⟩ = some v ∧ VRel g M.hw Stk.empty x v := by
  obtain ⟨b, h1, _, c, el, hb, _, h2⟩ := r.obj o _ h
  refine ⟨b, h1, fun j x hj => ?_⟩
  obtain ⟨_, v, hv, rv⟩ := h2 j x hj
  exact ⟨v, cell_of hb hv, rv⟩

theorem fix_cells (r : WRel g M w) {b k : Nat} {ls : List AVal} (h : FixAt g b k ls) : ∀ (j : Nat) x, ls[j]? = some x → ∃ v, w.cell? ⟨b, k + j, none⟩ = some v ∧ VRel g M.hw Stk.empty x v := by
  intro j x hj
  obtain ⟨_, v, hv, rv⟩ := r.fix _ _ _ (h j x hj)
  exact ⟨v, hv, rv⟩

theorem step_load (s : SRel C g M hl w l a.tmps) (hN : N ≤ a.tmps.size) {t : TypeId} {x : Operand} (ho : o.op = .load t x) {x' : Opd} (hx : copd C N x = some x') {ag : Option Nat} (hag : agT P t = some ag)
    (h : ReadOp.run M (Opd.ev l) (.load ag x') = some av) : StepOK P C o a g M hl w l av hl M := by
  have rx := copd_sound s hN hx
  simp only [ReadOp.run] at h
  split at h
  · rename_i ob i ex
    rw [ex] at rx; simp only [VRel] at rx
    obtain ⟨b, hb, hv⟩ := rx
    split at h
    · rename_i ls hls
      obtain ⟨b', hb', hc⟩ := obj_cells s.wr hls
      rw [hb] at hb'; injection hb' with hb'; subst hb'
      obtain ⟨v, h1, h2⟩ := loadVar_run (hl := Stk.empty) (g := g) (hw := M.hw) (w := w) hag h (b := b) (off := 0) (fun j x hj => by rw [Nat.zero_add]; exact hc j x hj)
      rw [Nat.zero_add] at h1
      exact .same s (v := v) (by simp [execOp, ho, hv, Instr.loadAt, Instr.sureAddr, h1]) h2.toFrame
    · cases h
  · rename_i ls i ex
    rw [ex] at rx; simp only [VRel] at rx
    obtain ⟨b, k, hv, hf⟩ := rx
    obtain ⟨v, h1, h2⟩ := loadVar_run (hl := Stk.empty) (g := g) (hw := M.hw) (w := w) hag h (b := b) (off := k) (fix_cells s.wr hf)
    exact .same s (v := v) (by simp [execOp, ho, hv, Instr.loadAt, Instr.sureAddr, h1]) h2.toFrame
  · cases h

theorem obj_map (r : WRel g M w) (hP : g.P = P) {o t c : Nat} {es : List (AVal × AVal × Nat)} (h : M.objs.get? o = some (.map t es c)) {kt : KeyT} (hk : keyT P t = some kt) :
    ∃ b ces, g.obj o = some b ∧ ¬ g.res b ∧ w.heap[b]? = some (.map ⟨ces⟩ c) ∧ EntRel g M.hw kt es ces := by
  obtain ⟨b, h1, h2, kt', ces, hk', hb, he⟩ := r.obj o _ h
  rw [hP, hk] at hk'
  injection hk' with hk'; subst hk'
  exact ⟨b, ces, h1, h2, hb, he⟩

theorem zeroT_run {t : TypeId} {z : AVal} (h : zeroT P t = some z) : ∃ v, (∀ w, (zeroValue t).run P w = .ok v w) ∧ ∀ (g : G) (hw : Stk Nat) (hl : HL), VRel g hw hl z v := by
  unfold zeroT at h
  cases hi : P.info? t with
  | none => rw [hi] at h; cases h
  | some i =>
    rw [hi] at h
    simp only [Option.bind_some] at h
    cases hzz : i.zero with
    | none => rw [hzz] at h; cases h
    | some v =>
      rw [hzz] at h
      simp only [Option.bind_some] at h
      exact ⟨v, fun w => by simp [zeroValue, typeInfo, hi, hzz], fun g hw hl => cval_sound h⟩

theorem run_getObj {r : Nat} {o : Obj} (h : w.heap[r]? = some o) (hc : ∀ c e f, o ≠ .cells c e f) : (getObj r).run P w = .ok o w := by
  simp only [getObj, Sem.run, h]

theorem step_lookup (s : SRel C g M hl w l a.tmps) (hP : g.P = P) (hN : N ≤ a.tmps.size) {t kt e : TypeId} {m k : Operand} {ok : Bool} (ho : o.op = .lookup t m k ok) {m' k' : Opd} (hm : copd C N m = some m')
    (hk : copd C N k = some k') (hu : P.underlying t = some (.map kt e)) {kt' : KeyT} (hkt : keyT P kt = some kt') {z : AVal} (hz : zeroT P e = some z)
    (h : ReadOp.run M (Opd.ev l) (.lookup kt' z ok m' k') = some av) : StepOK P C o a g M hl w l av hl M := by
  have rm := copd_sound s hN hm
  have rk := copd_sound s hN hk
  obtain ⟨zv, z1, z2⟩ := zeroT_run hz
  obtain ⟨hid, _, _⟩ := keyT_spec hkt
  simp only [ReadOp.run] at h
  split at h
  · rename_i hf
    have hck := checkKey_sound (P := P) hkt rk hf
    split at h
    · rename_i ex
      rw [ex] at rm; simp only [VRel] at rm
      injection h with h; subst h
      have hfk : ∀ w, (Instr.findKey kt (a.eval k) []).run P w = .ok none w := fun w => by
        have := findKey_sound (P := P) hkt rk hf (es := []) (ces := []) (by simp [EntRel]) w
        simpa [findPos] using this
      refine .same s (v := if ok then .tuple #[zv, .bool false] else zv) ?_ ?_
      · simp only [execOp, ho, rm, Instr.lookup, Sem.run_bind, run_underlying hu, Result.andThen_ok, Sem.run_pure, hck]
        simp [hfk, z1]
      · cases ok
        · simpa using z2 g M.hw hl
        · simp only [if_true, VRel]
          exact ⟨[zv, .bool false], rfl, VRels_cons (z2 _ _ _) (VRels_cons (by simp only [VRel]) VRels_nil)⟩
    · rename_i ob ex
      rw [ex] at rm; simp only [VRel] at rm
      obtain ⟨b, hb, hv⟩ := rm
      split at h
      · rename_i t' es c hes
        split at h
        · rename_i ht
          rw [nbeq] at ht; subst ht
          rw [hid] at hes
          obtain ⟨b', ces, hb', _, hheap, her⟩ := obj_map s.wr hP hes hkt
          rw [hb] at hb'; injection hb' with hb'; subst hb'
          have hfk := findKey_sound (P := P) hkt rk hf her w
          have hgo := run_getObj (P := P) hheap (by intro _ _ _ h; cases h)
          rw [findEntry_pos] at h
          cases hp : findPos (k'.ev l) es with
          | none =>
            rw [hp] at h hfk
            simp only [Option.bind_none] at h hfk
            injection h with h; subst h
            refine .same s (v := if ok then .tuple #[zv, .bool false] else zv) ?_ ?_
            · simp only [execOp, ho, hv, Instr.lookup, Sem.run_bind, run_underlying hu, Result.andThen_ok, hgo, Sem.run_pure, hck, hfk, z1]
            · cases ok
              · simpa using z2 g M.hw hl
              · simp only [if_true, VRel]
                exact ⟨[zv, .bool false], rfl, VRels_cons (z2 _ _ _) (VRels_cons (by simp only [VRel]) VRels_nil)⟩
          | some i =>
            have hi := findPos_lt hp
            rw [hp] at h hfk
            simp only [Option.bind_some, List.getElem?_eq_getElem hi, Option.map_some] at h
            obtain ⟨en, hen, _, rv, _, _⟩ := EntRel_get her (i := i) (k := es[i].1) (v := es[i].2.1) (b := es[i].2.2) (by rw [List.getElem?_eq_getElem hi])
            simp only [Option.bind_some, hen, Option.map_some] at hfk
            injection h with h; subst h
            refine .same s (v := if ok then .tuple #[en.val, .bool true] else en.val) ?_ ?_
            · simp only [execOp, ho, hv, Instr.lookup, Sem.run_bind, run_underlying hu, Result.andThen_ok, hgo, Sem.run_pure, hck, hfk]
            · cases ok
              · simpa using rv.toFrame
              · simp only [if_true, VRel]
                exact ⟨[en.val, .bool true], rfl, VRels_cons rv.toFrame (VRels_cons (by simp only [VRel]) VRels_nil)⟩
        · cases h
      · cases h
    · cases h
  · cases h

theorem step_lenM (s : SRel C g M hl w l a.tmps) (hN : N ≤ a.tmps.size) {c : Call} (ho : o.op = .call c) (hc : c.callee = .builtin .len) {t kt e : TypeId} {x : Operand} (hargs : c.args.toList = [x]) (htys : c.argTypes.toList = [t])
    {x' : Opd} (hx : copd C N x = some x') (hu : P.underlying t = some (.map kt e)) (h : ReadOp.run M (Opd.ev l) (.lenM x') = some av) : StepOK P C o a g M hl w l av hl M := by
  have rx := copd_sound s hN hx
  have ea := list_arr hargs
  have et := list_arr htys
  obtain ⟨cs, hex⟩ := run_builtin (a := a) ho hc
  simp only [ReadOp.run] at h
  split at h
  · rename_i ex
    rw [ex] at rx; simp only [VRel] at rx
    injection h with h; subst h
    refine .same s (v := .int .i64 0) ?_ (by simp only [VRel])
    rw [hex, ea, et]
    simp [builtin, Builtin.len_, run_underlying hu, rx, goInt]
  · rename_i ob ex
    rw [ex] at rx; simp only [VRel] at rx
    obtain ⟨b, hb, hv⟩ := rx
    split at h
    · rename_i t' es c' hes
      injection h with h; subst h
      obtain ⟨b', hb', _, kt', ces, _, hheap, her⟩ := s.wr.obj _ _ hes
      rw [hb] at hb'; injection hb' with hb'; subst hb'
      have hgo := run_getObj (P := P) hheap (by intro _ _ _ h; cases h)
      refine .same s (v := .int .i64 (.ofNat es.length)) ?_ (by simp only [VRel])
      rw [hex, ea, et]
      simp [builtin, Builtin.len_, run_underlying hu, hv, hgo, goInt, EntRel_length her]
    · cases h
  · cases h

theorem bytesOfCells_spec : ∀ {ls : List AVal} {p : List Nat}, bytesOfCells ls = some p → ls = (p.map fun b => AVal.int .u8 (.ofNat b)) ∧ isBytes p
  | [], p, h => by simp only [bytesOfCells, Option.some.injEq] at h; subst h; exact ⟨rfl, fun b hb => by simp at hb⟩
  | x :: ls, p, h => by
    unfold bytesOfCells at h
    split at h
    · rename_i e; cases e
    · rename_i b ls' e
      injection e with e1 e2
      subst e1 e2
      split at h
      · rename_i hb
        rw [Nat.blt_eq] at hb
        cases hp : bytesOfCells ls with
        | none => rw [hp] at h; cases h
        | some q =>
          rw [hp] at h
          simp only [Option.map_some, Option.some.injEq] at h
          subst h
          obtain ⟨h1, h2⟩ := bytesOfCells_spec hp
          refine ⟨by rw [h1]; rfl, fun c hc => ?_⟩
          rcases List.mem_cons.1 hc with rfl | hc
          · exact hb
          · exact h2 c hc
      · cases h
    · cases h

theorem bytesOfRows_spec : ∀ {ls : List (List AVal)} {p : List Nat}, bytesOfRows ls = some p → ls.flatten = (p.map fun b => AVal.int .u8 (.ofNat b)) ∧ ls.length = p.length ∧ isBytes p
  | [], p, h => by simp only [bytesOfRows, Option.some.injEq] at h; subst h; exact ⟨rfl, rfl, fun b hb => by simp at hb⟩
  | x :: ls, p, h => by
    unfold bytesOfRows at h
    split at h
    · rename_i e; cases e
    · rename_i b ls' e
      injection e with e1 e2
      subst e1 e2
      split at h
      · rename_i hb
        rw [Nat.blt_eq] at hb
        cases hp : bytesOfRows ls with
        | none => rw [hp] at h; cases h
        | some q =>
          rw [hp] at h
          simp only [Option.map_some, Option.some.injEq] at h
          subst h
          obtain ⟨h1, h2, h3⟩ := bytesOfRows_spec hp
          refine ⟨by simp [h1], by simp [h2], fun c hc => ?_⟩
          rcases List.mem_cons.1 hc with rfl | hc
          · exact hb
          · exact h3 c hc
      · cases h
    · cases h

theorem step_str (s : SRel C g M hl w l a.tmps) (hN : N ≤ a.tmps.size) {t t' e : TypeId} {x : Operand} (ho : o.op = .convert t t' x) {x' : Opd} (hx : copd C N x = some x')
    (h1 : P.underlying t = some (.slice e)) (h2 : P.underlying t' = some .string) (hu : isU8 P e = true)
    (h : ReadOp.run M (Opd.ev l) (.str x') = some av) : StepOK P C o a g M hl w l av hl M := by
  have rx := copd_sound s hN hx
  have hu8 := isU8_spec hu
  have fin : ∀ (p : List Nat) (b off len cap : Nat), a.eval x = .slice (some ⟨b, off, none⟩) len cap → p.length = len → isBytes p →
      (∀ (j : Nat) y, (p.map fun b => AVal.int .u8 (.ofNat b))[j]? = some y → ∃ v, w.cell? ⟨b, off + j, none⟩ = some v ∧ VRel g M.hw Stk.empty y v) → av = .str p → StepOK P C o a g M hl w l av hl M := by
    rintro p b off len cap hv hlen hbs hc rfl
    have hcell : ∀ i, i < len → w.cell? ⟨b, off + i, none⟩ = some (.int .u8 ((p.map Int.ofNat).getD i 0)) := by
      intro i hi
      have hp : (p.map fun b => AVal.int .u8 (.ofNat b))[i]? = some (AVal.int .u8 (.ofNat p[i])) := by
        rw [List.getElem?_map, List.getElem?_eq_getElem (by omega)]; rfl
      obtain ⟨v, h1, h2⟩ := hc i _ hp
      simp only [VRel] at h2
      subst h2
      rw [h1]
      simp [List.getD, List.getElem?_map, List.getElem?_eq_getElem (show i < p.length by omega)]
    have e := run_convert_bytes_arg (P := P) w t e h1 hu8 b off len cap (p.map Int.ofNat) (by simpa using hlen) hcell t' h2
    have es : strOfNums (p.map Int.ofNat) = bytesV p := by
      simp only [strOfNums, bytesV, List.map_map]
      rfl
    rw [es] at e
    refine .same s (v := .string (bytesV p)) ?_ (by simp only [VRel]; exact ⟨trivial, hbs⟩)
    rw [← hv] at e
    simp [execOp, ho, e]
  simp only [ReadOp.run] at h
  split at h
  · rename_i ex
    rw [ex] at rx; simp only [VRel] at rx
    injection h with h; subst h
    refine .same s (v := .string .empty) (by simp [execOp, ho, rx, convert, run_underlying h1, run_underlying h2, run_underlying hu8, Conv.bytesToString]) ?_
    simp only [VRel]
    exact ⟨rfl, fun b hb => by simp at hb⟩
  · rename_i rows tok ex
    rw [ex] at rx; simp only [VRel] at rx
    obtain ⟨b, off, cap, hv, _, _, _, hf, _⟩ := rx
    cases hp : bytesOfRows rows with
    | none => rw [hp] at h; cases h
    | some p =>
      rw [hp] at h
      simp only [Option.map_some, Option.some.injEq] at h
      obtain ⟨e1, e2, e3⟩ := bytesOfRows_spec hp
      refine fin p b off _ cap hv e2.symm e3 (fun j y hj => ?_) h.symm
      rw [e1] at hf
      exact fix_cells s.wr hf j y hj
  · rename_i ob i ln cp ex
    rw [ex] at rx; simp only [VRel] at rx
    obtain ⟨b, c, hb, hv, _⟩ := rx
    cases hca : cellsAt M ob i ln with
    | none => rw [hca] at h; cases h
    | some ls =>
      rw [hca] at h
      simp only [Option.bind_some] at h
      cases hp : bytesOfCells ls with
      | none => rw [hp] at h; cases h
      | some p =>
        rw [hp] at h
        simp only [Option.map_some, Option.some.injEq] at h
        unfold cellsAt at hca
        split at hca
        · rename_i ls' hls
          split at hca
          · rename_i hle
            rw [Stk.ble_iff] at hle
            injection hca with hca
            rw [takeN_eq, dropN_eq] at hca
            obtain ⟨e1, e3⟩ := bytesOfCells_spec hp
            obtain ⟨b', hb', hc⟩ := obj_cells s.wr hls
            rw [hb] at hb'; injection hb' with hb'; subst hb'
            have hlen : ls.length = ln := by rw [← hca]; simp; omega
            refine fin p b i ln c hv (by rw [e1] at hlen; simpa using hlen) e3 (fun j y hj => ?_) h.symm
            rw [← e1, ← hca, List.getElem?_take] at hj
            split at hj
            · rw [List.getElem?_drop] at hj
              exact hc (i + j) y hj
            · cases hj
          · cases hca
        · cases hca
  · cases h

end
end Go.Abs
end

/-
  The relation's memory: new objects, objects that are written, what the frame hands over.
-/
section
namespace Go.Abs

def G.addObj (g : G) (n b : Nat) : G := { g with obj := fun o => if o = n then some b else g.obj o }

theorem GLe.addObj {g : G} {hw : Stk Nat} {hl : HL} {n b : Nat} (h : g.obj n = none) : GLe g hw hl (g.addObj n b) hw hl where
  P := rfl
  obj o b' ho := by
    simp only [G.addObj]
    split
    · rename_i e; subst e; rw [h] at ho; cases ho
    · exact ho
  fix _ _ _ h := h
  hwn := Nat.le_refl _
  own _ e' _ h := ⟨e', h, Nat.le_refl _, fun _ => rfl⟩
  hln := Nat.le_refl _
  loc _ e' _ h := ⟨e', h, Nat.le_refl _, fun _ => rfl⟩

theorem SRel.newObj {C : Cfg} {g : G} {M : AMem} {hl : HL} {w w' : World} {l : List AVal} {tmps : Array Value} (s : SRel C g M hl w l tmps) (h : Ext w w') {b : Nat} (hb : w.heap.size ≤ b)
    {x : AObj} (hx : OAt g M.hw w' b x) :
    GLe g M.hw hl (g.addObj M.objs.n b) M.hw hl ∧ SRel C (g.addObj M.objs.n b) { M with objs := M.objs.push x } hl w' l tmps := by
  have hn : g.obj M.objs.n = none := by
    cases ho : g.obj M.objs.n with
    | none => rfl
    | some b' => have := s.wr.dom _ _ ho; omega
  have le : GLe g M.hw hl (g.addObj M.objs.n b) M.hw hl := GLe.addObj hn
  have wr := s.wr.ext h
  have notb : ∀ o b', g.obj o = some b' → b' ≠ b := fun o b' ho => by have := s.wr.objlt ho; omega
  have nres : ¬ g.res b := fun hr => by have := (s.wr.res b hr).1; omega
  have objne : ∀ tb, tb < w.heap.size → (∀ o, g.obj o ≠ some tb) → ∀ o, (g.addObj M.objs.n b).obj o ≠ some tb := by
    intro tb hlt hne o ho
    simp only [G.addObj] at ho
    split at ho
    · injection ho with ho; omega
    · exact hne o ho
  have tail : ∀ tb fr to, TailOK g w tb fr to → TailOK g w' tb fr to → TailOK (g.addObj M.objs.n b) w' tb fr to := fun tb fr to h0 h1 =>
    ⟨h1.res, objne tb h0.lt h1.obj, h1.le, h1.there, h1.fix⟩
  refine ⟨le, ⟨?_, ?_, s.t.mono le, fun y v hy => (s.glob y v hy).mono le.toEmpty⟩⟩
  · exact {
      okO := Stk.ok_push wr.okO x
      okH := wr.okH
      dom := fun o b' ho => by
        simp only [G.addObj] at ho
        simp only [Stk.n_push]
        split at ho
        · omega
        · have := wr.dom o b' ho; omega
      obj := fun o y hy => by
        by_cases e : o = M.objs.n
        · subst e
          rw [Stk.get?_push_self] at hy
          injection hy with hy; subst hy
          exact ⟨b, by simp [G.addObj], nres, hx.mono le.toEmpty⟩
        · rw [Stk.get?_push_ne x e] at hy
          obtain ⟨b', h1, h2, h3⟩ := wr.obj o y hy
          exact ⟨b', by simp only [G.addObj, if_neg e]; exact h1, h2, h3.mono le.toEmpty⟩
      inj := fun o o' b' h1 h2 => by
        simp only [G.addObj] at h1 h2
        split at h1 <;> split at h2
        · omega
        · injection h1 with h1; subst h1; exact absurd rfl (notb _ _ h2)
        · injection h2 with h2; subst h2; exact absurd rfl (notb _ _ h1)
        · exact wr.inj o o' b' h1 h2
      fix := fun b' i a ha => by
        obtain ⟨h1, v, h2, h3⟩ := wr.fix b' i a ha
        exact ⟨objne b' (s.wr.fixlt ha) h1, v, h2, h3.mono le.toEmpty⟩
      own := fun t e he => by
        obtain ⟨tb, fr, to, h1, h2⟩ := wr.own t e he
        obtain ⟨tb', fr', to', h1', h2'⟩ := s.wr.own t e he
        rw [h1] at h1'
        simp only [Option.some.injEq, Prod.mk.injEq] at h1'
        obtain ⟨rfl, rfl, rfl⟩ := h1'
        exact ⟨tb, fr, to, h1, tail _ _ _ h2' h2⟩
      ownInj := wr.ownInj
      res := wr.res
      size := wr.size
      os := wr.os
      tape := wr.tape
      output := wr.output
      lim := wr.lim }
  · exact {
      ok := s.lo.ok
      loc := fun t e he => by
        obtain ⟨tb, fr, to, h1, h2⟩ := (s.lo.ext h).loc t e he
        obtain ⟨tb', fr', to', h1', h2'⟩ := s.lo.loc t e he
        rw [h1] at h1'
        simp only [Option.some.injEq, Prod.mk.injEq] at h1'
        obtain ⟨rfl, rfl, rfl⟩ := h1'
        exact ⟨tb, fr, to, h1, tail _ _ _ h2' h2⟩
      inj := s.lo.inj
      apart := s.lo.apart }

/-- One block has changed. -/
structure Chg (w w' : World) (b : Nat) : Prop where
  size : w'.heap.size = w.heap.size
  block : ∀ b', b' ≠ b → w'.heap[b']? = w.heap[b']?
  os : w'.os = w.os
  tape : w'.tape = w.tape
  output : w'.output = w.output

theorem Chg.cell {w w' : World} {b : Nat} (h : Chg w w' b) {b' i : Nat} (hb : b' ≠ b) : w'.cell? ⟨b', i, none⟩ = w.cell? ⟨b', i, none⟩ := by
  unfold World.cell?
  rw [h.block b' hb]

theorem OAt.chg {g : G} {hw : Stk Nat} {w w' : World} {b : Nat} (h : Chg w w' b) {b' : Nat} (hb : b' ≠ b) {x : AObj} (ho : OAt g hw w b' x) : OAt g hw w' b' x := by
  cases x with
  | cells l => obtain ⟨c, el, hc, r⟩ := ho; exact ⟨c, el, (h.block b' hb).trans hc, r⟩
  | map t es clock => obtain ⟨kt, ces, hk, hc, r⟩ := ho; exact ⟨kt, ces, hk, (h.block b' hb).trans hc, r⟩
  | siter s pos => obtain ⟨hc, r⟩ := ho; exact ⟨(h.block b' hb).trans hc, r⟩

theorem TailOK.chg {g : G} {w w' : World} {b : Nat} (h : Chg w w' b) {tb fr to : Nat} (hb : tb ≠ b) (ht : TailOK g w tb fr to) : TailOK g w' tb fr to := by
  obtain ⟨c, el, lo, hi, hc, r⟩ := ht.there
  exact ⟨ht.res, ht.obj, ht.le, ⟨c, el, lo, hi, (h.block tb hb).trans hc, r⟩, ht.fix⟩

theorem SRel.setObj {C : Cfg} {g : G} {M : AMem} {hl : HL} {w w' : World} {l : List AVal} {tmps : Array Value} (s : SRel C g M hl w l tmps) {o b : Nat} (ho : g.obj o = some b) (h : Chg w w' b)
    {x : AObj} (hx : OAt g M.hw w' b x) (d : List Nat) : SRel C g { objs := M.objs.set o x, hw := M.hw, dirty := d } hl w' l tmps := by
  have hlt := s.wr.dom o b ho
  have nres : ¬ g.res b := by
    obtain ⟨y, hy⟩ := Stk.get?_some s.wr.okO hlt
    obtain ⟨b', h1, h2, _⟩ := s.wr.obj o y hy
    rw [ho] at h1; injection h1 with h1; subst h1; exact h2
  refine ⟨?_, ?_, s.t, s.glob⟩
  · exact {
      okO := Stk.ok_set s.wr.okO o x
      okH := s.wr.okH
      dom := fun o' b' h' => by simp only [Stk.n_set]; exact s.wr.dom o' b' h'
      obj := fun o' y hy => by
        rw [Stk.get?_set s.wr.okO] at hy
        split at hy
        · rename_i e
          obtain ⟨rfl, _⟩ := e
          injection hy with hy; subst hy
          exact ⟨b, ho, nres, hx⟩
        · rename_i e
          obtain ⟨b', h1, h2, h3⟩ := s.wr.obj o' y hy
          have hne : b' ≠ b := fun hbb => by
            subst hbb
            exact e ⟨s.wr.inj o o' _ ho h1, hlt⟩
          exact ⟨b', h1, h2, h3.chg h hne⟩
      inj := s.wr.inj
      fix := fun b' i a ha => by
        obtain ⟨h1, v, h2, h3⟩ := s.wr.fix b' i a ha
        have hne : b' ≠ b := fun hbb => by subst hbb; exact h1 o ho
        exact ⟨h1, v, by rw [h.cell hne]; exact h2, h3⟩
      own := fun t e he => by
        obtain ⟨tb, fr, to, h1, h2⟩ := s.wr.own t e he
        have hne : tb ≠ b := fun hbb => by subst hbb; exact h2.obj o ho
        exact ⟨tb, fr, to, h1, h2.chg h hne⟩
      ownInj := s.wr.ownInj
      res := fun b' hb' => by
        obtain ⟨h1, h2⟩ := s.wr.res b' hb'
        have hne : b' ≠ b := fun hbb => by subst hbb; exact nres hb'
        exact ⟨by rw [h.size]; exact h1, (h.block b' hne).trans h2⟩
      size := by rw [h.size]; exact s.wr.size
      os := h.os.trans s.wr.os
      tape := h.tape.trans s.wr.tape
      output := h.output.trans s.wr.output
      lim := s.wr.lim }
  · exact {
      ok := s.lo.ok
      loc := fun t e he => by
        obtain ⟨tb, fr, to, h1, h2⟩ := s.lo.loc t e he
        have hne : tb ≠ b := fun hbb => by subst hbb; exact h2.obj o ho
        exact ⟨tb, fr, to, h1, h2.chg h hne⟩
      inj := s.lo.inj
      apart := s.lo.apart }

theorem SRel.dirty {C : Cfg} {g : G} {M : AMem} {hl : HL} {w : World} {l : List AVal} {tmps : Array Value} (s : SRel C g M hl w l tmps) (d : List Nat) : SRel C g { M with dirty := d } hl w l tmps :=
  ⟨⟨s.wr.okO, s.wr.okH, s.wr.dom, s.wr.obj, s.wr.inj, s.wr.fix, s.wr.own, s.wr.ownInj, s.wr.res, s.wr.size, s.wr.os, s.wr.tape, s.wr.output, s.wr.lim⟩, ⟨s.lo.ok, s.lo.loc, s.lo.inj, s.lo.apart⟩, s.t, s.glob⟩

/-! ## What the frame hands over -/

def G.give (g : G) (t n : Nat) : G := { g with own := fun i => if i = n then g.loc t else g.own i }

theorem SRel.give {C : Cfg} {g : G} {M : AMem} {hl : HL} {w : World} {l : List AVal} {tmps : Array Value} (s : SRel C g M hl w l tmps) {t e : Nat} (ht : hl.get? t = some (some e)) :
    GLe g M.hw hl (g.give t M.hw.n) (M.hw.push e) (hl.set t none) ∧ SRel C (g.give t M.hw.n) { M with hw := M.hw.push e } (hl.set t none) w l tmps := by
  have htlt := Stk.get?_lt ht
  have getHl : ∀ t' e', (hl.set t none).get? t' = some (some e') → t' ≠ t ∧ hl.get? t' = some (some e') := by
    intro t' e' h
    rw [Stk.get?_set s.lo.ok] at h
    split at h
    · cases h
    · rename_i hne
      exact ⟨fun h' => hne ⟨h'.symm, htlt⟩, h⟩
  have le : GLe g M.hw hl (g.give t M.hw.n) (M.hw.push e) (hl.set t none) := {
    P := rfl
    obj := fun _ _ h => h
    fix := fun _ _ _ h => h
    hwn := by simp only [Stk.n_push]; omega
    own := fun t' e' hlt h => by
      rw [Stk.get?_push_ne e (by omega)] at h
      exact ⟨e', h, Nat.le_refl _, fun _ => by simp only [G.give]; rw [if_neg (by omega)]⟩
    hln := by rw [Stk.n_set]; exact Nat.le_refl _
    loc := fun t' e' _ h => ⟨e', (getHl t' e' h).2, Nat.le_refl _, fun _ => rfl⟩ }
  obtain ⟨tb, fr, to, h1, h2⟩ := s.lo.loc t e ht
  refine ⟨le, ?_, ?_, s.t.mono le, fun y v hy => (s.glob y v hy).mono le.toEmpty⟩
  · exact {
      okO := s.wr.okO
      okH := Stk.ok_push s.wr.okH e
      dom := s.wr.dom
      obj := fun o x hx => let ⟨b, a1, a2, a3⟩ := s.wr.obj o x hx; ⟨b, a1, a2, a3.mono le.toEmpty⟩
      inj := s.wr.inj
      fix := fun b i a ha => let ⟨a1, v, a2, a3⟩ := s.wr.fix b i a ha; ⟨a1, v, a2, a3.mono le.toEmpty⟩
      own := fun t' e' he => by
        by_cases hh : t' = M.hw.n
        · subst hh
          exact ⟨tb, fr, to, by simp only [G.give, if_true]; exact h1, h2.res, h2.obj, h2.le, h2.there, h2.fix⟩
        · rw [Stk.get?_push_ne e hh] at he
          obtain ⟨tb', fr', to', a1, a2⟩ := s.wr.own t' e' he
          exact ⟨tb', fr', to', by simp only [G.give, if_neg hh]; exact a1, a2.res, a2.obj, a2.le, a2.there, a2.fix⟩
      ownInj := fun i j ei ej b f1 t1 f2 t2 hi hj gi gj => by
        simp only [G.give] at gi gj
        by_cases c1 : i = M.hw.n
        · by_cases c2 : j = M.hw.n
          · omega
          · rw [if_pos c1] at gi
            rw [if_neg c2] at gj
            rw [Stk.get?_push_ne e c2] at hj
            exact (s.lo.apart t j e ej b f1 t1 f2 t2 ht hj gi gj).elim
        · rw [if_neg c1] at gi
          rw [Stk.get?_push_ne e c1] at hi
          by_cases c2 : j = M.hw.n
          · rw [if_pos c2] at gj
            exact (s.lo.apart t i e ei b f2 t2 f1 t1 ht hi gj gi).elim
          · rw [if_neg c2] at gj
            rw [Stk.get?_push_ne e c2] at hj
            exact s.wr.ownInj i j ei ej b f1 t1 f2 t2 hi hj gi gj
      res := s.wr.res
      size := s.wr.size
      os := s.wr.os
      tape := s.wr.tape
      output := s.wr.output
      lim := s.wr.lim }
  · exact {
      ok := Stk.ok_set s.lo.ok t none
      loc := fun t' e' he => by
        obtain ⟨_, he'⟩ := getHl t' e' he
        obtain ⟨tb', fr', to', a1, a2⟩ := s.lo.loc t' e' he'
        exact ⟨tb', fr', to', a1, a2.res, a2.obj, a2.le, a2.there, a2.fix⟩
      inj := fun i j ei ej b f1 t1 f2 t2 hi hj => s.lo.inj i j ei ej b f1 t1 f2 t2 (getHl i ei hi).2 (getHl j ej hj).2
      apart := fun i j ei ej b f1 t1 f2 t2 hi hj gi gj => by
        obtain ⟨hne, hi'⟩ := getHl i ei hi
        simp only [G.give] at gj
        by_cases c2 : j = M.hw.n
        · rw [if_pos c2] at gj
          exact hne (s.lo.inj i t ei e b f1 t1 f2 t2 hi' ht gi gj)
        · rw [if_neg c2] at gj
          rw [Stk.get?_push_ne e c2] at hj
          exact s.lo.apart i j ei ej b f1 t1 f2 t2 hi' hj gi gj }

theorem adopt_sound {C : Cfg} {w : World} {l : List AVal} {tmps : Array Value} : ∀ (cs : List AVal) {g : G} {M : AMem} {hl : HL} {vs : List Value} (_ : SRel C g M hl w l tmps) (_ : VRels g M.hw hl cs vs),
    ∃ g', GLe g M.hw hl g' (adopt cs hl M.hw).2.2 (adopt cs hl M.hw).2.1 ∧ SRel C g' { M with hw := (adopt cs hl M.hw).2.2 } (adopt cs hl M.hw).2.1 w l tmps ∧
      VRels g' (adopt cs hl M.hw).2.2 Stk.empty (adopt cs hl M.hw).1 vs ∧ g'.res = g.res ∧ g'.w0 = g.w0 ∧ g'.obj = g.obj ∧ g'.fix = g.fix
  | [], g, M, hl, vs, s, r => by
    simp only [VRels] at r
    subst r
    exact ⟨g, GLe.refl _ _ _, s, VRels_nil, rfl, rfl, rfl, rfl⟩
  | c :: cs, g, M, hl, vs, s, r => by
    simp only [VRels] at r
    obtain ⟨v, vs', rfl, rv, rs⟩ := r
    -- a cell that is sealed
    have plain : ∀ (c' : AVal), VRel g M.hw Stk.empty c' v → ∃ g', GLe g M.hw hl g' (adopt cs hl M.hw).2.2 (adopt cs hl M.hw).2.1 ∧ SRel C g' { M with hw := (adopt cs hl M.hw).2.2 } (adopt cs hl M.hw).2.1 w l tmps ∧
        VRels g' (adopt cs hl M.hw).2.2 Stk.empty (c' :: (adopt cs hl M.hw).1) (v :: vs') ∧ g'.res = g.res ∧ g'.w0 = g.w0 ∧ g'.obj = g.obj ∧ g'.fix = g.fix := by
      intro c' rc
      obtain ⟨g', h1, h2, h3, h4, h5, h6, h7⟩ := adopt_sound cs s rs
      exact ⟨g', h1, h2, VRels_cons (rc.mono h1.toEmpty) h3, h4, h5, h6, h7⟩
    have sealed := VRel.sealv Stk.empty rv
    cases c
    case sl sz rows tok =>
      cases tok
      case loc t e =>
        simp only [adopt]
        split
        · rename_i e' he'
          split
          · rename_i hee
            rw [nbeq] at hee; subst hee
            obtain ⟨le, s'⟩ := s.give he'
            obtain ⟨g', h1, h2, h3, h4, h5, h6, h7⟩ := adopt_sound cs (M := { M with hw := M.hw.push e }) s' (rs.mono le)
            refine ⟨g', le.trans h1, h2, VRels_cons ?_ h3, h4, h5, h6, h7⟩
            have rc : VRel (g.give t M.hw.n) (M.hw.push e) Stk.empty (.sl sz rows (.own M.hw.n e)) v := by
              simp only [VRel] at rv ⊢
              obtain ⟨b, off, cap, a1, a2, a3, a4, a5, a6⟩ := rv
              refine ⟨b, off, cap, a1, a2, a3, a4, a5, by simp [Stk.n_push], fun e' he => ?_, fun _ => ?_⟩
              · rw [Stk.get?_push_self] at he; injection he with he; omega
              · have := a6.2.2 he'
                simpa only [G.give, if_true] using this
            exact rc.mono h1.toEmpty
          · exact plain _ (by simpa only [AVal.sealv, Tok.sealv] using sealed)
        · exact plain _ (by simpa only [AVal.sealv, Tok.sealv] using sealed)
      all_goals
        simp only [adopt]
        exact plain _ sealed
    all_goals
      simp only [adopt]
      exact plain _ sealed

end Go.Abs
end

/-
  The end of a call: what it made may be forgotten.
-/
section
namespace Go.Abs

section
variable {h : Nat}

mutual
theorem strike_low (h : Nat) : ∀ (a : AVal), a.low h = true → a.strike h = a
  | .undef, _ | .bool _, _ | .int _ _, _ | .str _, _ | .raw _, _ | .ptr _ _, _ | .nilp, _ | .room _ _ _, _ | .nils, _ | .os _ _ _ _ _, _ | .map _, _ | .nilm, _ | .nilf, _ | .nili, _ => rfl
  | .rp l off, e => by simp only [AVal.low] at e; simp only [AVal.strike, strikeAll_low h l e]
  | .sl sz rows tok, e => by
    simp only [AVal.low, Bool.and_eq_true] at e
    simp only [AVal.strike, strikeRows_low h rows e.2]
    have : tok.strike h = tok := by
      cases tok with
      | own t x => have := e.1; simp only [Tok.low] at this; simp only [Tok.strike, this, cond_true]
      | loc t x => have := e.1; simp [Tok.low] at this
      | _ => rfl
    rw [this]
  | .fn f a b, e => by simp only [AVal.low, Bool.and_eq_true] at e; simp only [AVal.strike, strikeAll_low h a e.1, strikeAll_low h b e.2]
  | .iface t v, e => by simp only [AVal.low] at e; simp only [AVal.strike, strike_low h v e]
  | .agg l, e => by simp only [AVal.low] at e; simp only [AVal.strike, strikeAll_low h l e]
  | .tup l, e => by simp only [AVal.low] at e; simp only [AVal.strike, strikeAll_low h l e]
theorem strikeAll_low (h : Nat) : ∀ (l : List AVal), lowAll h l = true → strikeAll h l = l
  | [], _ => rfl
  | a :: l, e => by simp only [lowAll, Bool.and_eq_true] at e; simp only [strikeAll, strike_low h a e.1, strikeAll_low h l e.2]
theorem strikeRows_low (h : Nat) : ∀ (l : List (List AVal)), lowRows h l = true → strikeRows h l = l
  | [], _ => rfl
  | a :: l, e => by simp only [lowRows, Bool.and_eq_true] at e; simp only [strikeRows, strikeAll_low h a e.1, strikeRows_low h l e.2]
end

theorem Tok.low_mono {h h' : Nat} (hh : h ≤ h') : ∀ (t : Tok), t.low h = true → t.low h' = true
  | .own t e, hl => by simp only [Tok.low, Nat.blt_eq] at hl ⊢; omega
  | .loc t e, hl => by simp [Tok.low] at hl
  | .no, _ => rfl
  | .full, _ => rfl

mutual
theorem low_mono {h h' : Nat} (hh : h ≤ h') : ∀ (a : AVal), a.low h = true → a.low h' = true
  | .undef, _ | .bool _, _ | .int _ _, _ | .str _, _ | .raw _, _ | .ptr _ _, _ | .nilp, _ | .room _ _ _, _ | .nils, _ | .os _ _ _ _ _, _ | .map _, _ | .nilm, _ | .nilf, _ | .nili, _ => rfl
  | .rp l off, e => by simp only [AVal.low] at e ⊢; exact lowAll_mono hh l e
  | .sl sz rows tok, e => by simp only [AVal.low, Bool.and_eq_true] at e ⊢; exact ⟨tok.low_mono hh e.1, lowRows_mono hh rows e.2⟩
  | .fn f a b, e => by simp only [AVal.low, Bool.and_eq_true] at e ⊢; exact ⟨lowAll_mono hh a e.1, lowAll_mono hh b e.2⟩
  | .iface t v, e => by simp only [AVal.low] at e ⊢; exact low_mono hh v e
  | .agg l, e => by simp only [AVal.low] at e ⊢; exact lowAll_mono hh l e
  | .tup l, e => by simp only [AVal.low] at e ⊢; exact lowAll_mono hh l e
theorem lowAll_mono {h h' : Nat} (hh : h ≤ h') : ∀ (l : List AVal), lowAll h l = true → lowAll h' l = true
  | [], _ => rfl
  | a :: l, e => by simp only [lowAll, Bool.and_eq_true] at e ⊢; exact ⟨low_mono hh a e.1, lowAll_mono hh l e.2⟩
theorem lowRows_mono {h h' : Nat} (hh : h ≤ h') : ∀ (l : List (List AVal)), lowRows h l = true → lowRows h' l = true
  | [], _ => rfl
  | a :: l, e => by simp only [lowRows, Bool.and_eq_true] at e ⊢; exact ⟨lowAll_mono hh a e.1, lowRows_mono hh l e.2⟩
end

theorem strikeAll_get (h : Nat) : ∀ (l : List AVal) (i : Nat) (a : AVal), (strikeAll h l)[i]? = some a → ∃ b, l[i]? = some b ∧ a = b.strike h
  | [], i, a, e => by simp [strikeAll] at e
  | b :: l, 0, a, e => by simp [strikeAll] at e; exact ⟨b, rfl, e.symm⟩
  | b :: l, i + 1, a, e => by simp only [strikeAll, List.getElem?_cons_succ] at e ⊢; exact strikeAll_get h l i a e

theorem strikeAll_append (h : Nat) : ∀ (l m : List AVal), strikeAll h (l ++ m) = strikeAll h l ++ strikeAll h m
  | [], m => rfl
  | a :: l, m => by simp only [List.cons_append, strikeAll, strikeAll_append h l m]

theorem strikeAll_length (h : Nat) : ∀ (l : List AVal), (strikeAll h l).length = l.length
  | [] => rfl
  | a :: l => by simp only [strikeAll, List.length_cons, strikeAll_length h l]

theorem strikeRows_flatten (h : Nat) : ∀ (l : List (List AVal)), (strikeRows h l).flatten = strikeAll h l.flatten
  | [] => rfl
  | a :: l => by simp only [strikeRows, List.flatten_cons, strikeAll_append, strikeRows_flatten h l]

theorem strikeRows_length (h : Nat) : ∀ (l : List (List AVal)), (strikeRows h l).length = l.length
  | [] => rfl
  | a :: l => by simp only [strikeRows, List.length_cons, strikeRows_length h l]

theorem strikeRows_all (h sz : Nat) : ∀ (l : List (List AVal)), (∀ r ∈ l, r.length = sz) → ∀ r ∈ strikeRows h l, r.length = sz
  | [], _, r, hr => by simp [strikeRows] at hr
  | a :: l, hl, r, hr => by
    simp only [strikeRows, List.mem_cons] at hr
    rcases hr with rfl | hr
    · rw [strikeAll_length]; exact hl a List.mem_cons_self
    · exact strikeRows_all h sz l (fun r hr => hl r (List.mem_cons_of_mem _ hr)) r hr

theorem underAll_get {n : Nat} : ∀ {l : List AVal}, underAll n l = true → ∀ {i : Nat} {a : AVal}, l[i]? = some a → a.under n = true
  | [], _, i, a, e => by simp at e
  | b :: l, hu, 0, a, e => by simp only [underAll, Bool.and_eq_true] at hu; simp at e; subst e; exact hu.1
  | b :: l, hu, i + 1, a, e => by simp only [underAll, Bool.and_eq_true] at hu; simp at e; exact underAll_get hu.2 e

theorem underAll_append {n : Nat} : ∀ {l m : List AVal}, underAll n l = true → underAll n m = true → underAll n (l ++ m) = true
  | [], m, _, h => h
  | a :: l, m, h, k => by simp only [underAll, Bool.and_eq_true, List.cons_append] at h ⊢; exact ⟨h.1, underAll_append h.2 k⟩

theorem underRows_flatten {n : Nat} : ∀ {l : List (List AVal)}, underRows n l = true → underAll n l.flatten = true
  | [], _ => rfl
  | a :: l, h => by simp only [underRows, Bool.and_eq_true] at h; simp only [List.flatten_cons]; exact underAll_append h.1 (underRows_flatten h.2)
end

section
variable {g : G} {M : AMem} {w : World}

mutual
/-- What is related names what there is alone. -/
theorem rel_kept (wr : WRel g M w) : ∀ (a : AVal) (v : Value), VRel g M.hw Stk.empty a v → a.under M.objs.n = true ∧ a.low M.hw.n = true
  | .undef, _, _ | .bool _, _, _ | .int _ _, _, _ | .str _, _, _ | .raw _, _, _ | .nilp, _, _ | .nils, _, _ | .nilm, _, _ | .nilf, _, _ | .nili, _, _ => ⟨rfl, rfl⟩
  | .room sz n t, v, r => ⟨rfl, rfl⟩
  | .ptr o i, v, r => by
    simp only [VRel] at r
    obtain ⟨b, hb, _⟩ := r
    exact ⟨by simp only [AVal.under, Nat.blt_eq]; exact wr.dom o b hb, rfl⟩
  | .os o i len cap sz, v, r => by
    simp only [VRel] at r
    obtain ⟨b, c, hb, _⟩ := r
    exact ⟨by simp only [AVal.under, Nat.blt_eq]; exact wr.dom o b hb, rfl⟩
  | .map o, v, r => by
    simp only [VRel] at r
    obtain ⟨b, hb, _⟩ := r
    exact ⟨by simp only [AVal.under, Nat.blt_eq]; exact wr.dom o b hb, rfl⟩
  | .rp l off, v, r => by
    simp only [VRel] at r
    obtain ⟨b, k, _, hf⟩ := r
    have := fixed_kept wr l b k hf
    exact ⟨by simp only [AVal.under]; exact this.1, by simp only [AVal.low]; exact this.2⟩
  | .sl sz rows tok, v, r => by
    simp only [VRel] at r
    obtain ⟨b, off, cap, _, _, _, _, hf, ht⟩ := r
    have := rows_kept wr rows b off hf
    refine ⟨by simp only [AVal.under]; exact this.1, ?_⟩
    simp only [AVal.low, Bool.and_eq_true]
    refine ⟨?_, this.2⟩
    cases tok with
    | own t e => simp only [TokRel] at ht; simp only [Tok.low, Nat.blt_eq]; exact ht.1
    | loc t e => simp only [TokRel] at ht; exact absurd ht.1 (Nat.not_lt_zero _)
    | _ => rfl
  | .fn f a c, v, r => by
    simp only [VRel] at r
    obtain ⟨xs, ys, _, ha, hc⟩ := r
    have h1 := rels_kept wr a xs ha
    have h2 := rels_kept wr c ys hc
    exact ⟨by simp only [AVal.under, Bool.and_eq_true]; exact ⟨h1.1, h2.1⟩, by simp only [AVal.low, Bool.and_eq_true]; exact ⟨h1.2, h2.2⟩⟩
  | .iface t a, v, r => by
    simp only [VRel] at r
    obtain ⟨x, _, ha⟩ := r
    have h1 := rel_kept wr a x ha
    exact ⟨by simp only [AVal.under]; exact h1.1, by simp only [AVal.low]; exact h1.2⟩
  | .agg l, v, r => by
    simp only [VRel] at r
    obtain ⟨xs, _, ha⟩ := r
    have h1 := rels_kept wr l xs ha
    exact ⟨by simp only [AVal.under]; exact h1.1, by simp only [AVal.low]; exact h1.2⟩
  | .tup l, v, r => by
    simp only [VRel] at r
    obtain ⟨xs, _, ha⟩ := r
    have h1 := rels_kept wr l xs ha
    exact ⟨by simp only [AVal.under]; exact h1.1, by simp only [AVal.low]; exact h1.2⟩
theorem rels_kept (wr : WRel g M w) : ∀ (l : List AVal) (vs : List Value), VRels g M.hw Stk.empty l vs → underAll M.objs.n l = true ∧ lowAll M.hw.n l = true
  | [], _, _ => ⟨rfl, rfl⟩
  | a :: l, vs, r => by
    simp only [VRels] at r
    obtain ⟨v, r', _, ha, hl⟩ := r
    have h1 := rel_kept wr a v ha
    have h2 := rels_kept wr l r' hl
    exact ⟨by simp only [underAll, Bool.and_eq_true]; exact ⟨h1.1, h2.1⟩, by simp only [lowAll, Bool.and_eq_true]; exact ⟨h1.2, h2.2⟩⟩
theorem fixed_kept (wr : WRel g M w) : ∀ (l : List AVal) (b k : Nat), FixAt g b k l → underAll M.objs.n l = true ∧ lowAll M.hw.n l = true
  | [], _, _, _ => ⟨rfl, rfl⟩
  | a :: l, b, k, hf => by
    obtain ⟨_, v, _, rv⟩ := wr.fix b (k + 0) a (hf 0 a rfl)
    have h1 := rel_kept wr a v rv
    have h2 := fixed_kept wr l b (k + 1) (fun j x hj => by have := hf (j + 1) x (by simpa using hj); rwa [show k + 1 + j = k + (j + 1) by omega])
    exact ⟨by simp only [underAll, Bool.and_eq_true]; exact ⟨h1.1, h2.1⟩, by simp only [lowAll, Bool.and_eq_true]; exact ⟨h1.2, h2.2⟩⟩
theorem rows_kept (wr : WRel g M w) : ∀ (l : List (List AVal)) (b k : Nat), FixAt g b k l.flatten → underRows M.objs.n l = true ∧ lowRows M.hw.n l = true
  | [], _, _, _ => ⟨rfl, rfl⟩
  | r :: l, b, k, hf => by
    have h1 := fixed_kept wr r b k (fun j x hj => hf j x (by
      have := (List.getElem?_eq_some_iff.1 hj).1
      rw [List.flatten_cons, List.getElem?_append_left this]; exact hj))
    have h2 := rows_kept wr l b (k + r.length) (fun j x hj => by
      have := hf (r.length + j) x (by rw [List.flatten_cons, List.getElem?_append_right (by omega), Nat.add_sub_cancel_left]; exact hj)
      rwa [Nat.add_assoc])
    exact ⟨by simp only [underRows, Bool.and_eq_true]; exact ⟨h1.1, h2.1⟩, by simp only [lowRows, Bool.and_eq_true]; exact ⟨h1.2, h2.2⟩⟩
end

theorem ents_kept (wr : WRel g M w) {kt : KeyT} : ∀ (es : List (AVal × AVal × Nat)) (ces : List MapEntry), EntRel g M.hw kt es ces → underEntries M.objs.n es = true ∧ lowEntries M.hw.n es = true
  | [], _, _ => ⟨rfl, rfl⟩
  | (k, v, b) :: es, ces, r => by
    simp only [EntRel] at r
    obtain ⟨e, r', _, hk, hv, _, _, hr⟩ := r
    have h1 := rel_kept wr k _ hk
    have h2 := rel_kept wr v _ hv
    have h3 := ents_kept wr es r' hr
    exact ⟨by simp only [underEntries, Bool.and_eq_true]; exact ⟨⟨h1.1, h2.1⟩, h3.1⟩, by simp only [lowEntries, Bool.and_eq_true]; exact ⟨⟨h1.2, h2.2⟩, h3.2⟩⟩

theorem obj_kept (wr : WRel g M w) {b : Nat} {x : AObj} (h : OAt g M.hw w b x) : x.under M.objs.n = true ∧ x.low M.hw.n = true := by
  cases x with
  | cells l =>
    obtain ⟨c, el, _, _, hc⟩ := h
    have : ∀ (l : List AVal), (∀ (i : Nat) a, l[i]? = some a → ∃ v, VRel g M.hw Stk.empty a v) → underAll M.objs.n l = true ∧ lowAll M.hw.n l = true := by
      intro l
      induction l with
      | nil => intro _; exact ⟨rfl, rfl⟩
      | cons a l ih =>
        intro h
        obtain ⟨v, rv⟩ := h 0 a rfl
        have h1 := rel_kept wr a v rv
        have h2 := ih (fun i x hx => h (i + 1) x (by simpa using hx))
        exact ⟨by simp only [underAll, Bool.and_eq_true]; exact ⟨h1.1, h2.1⟩, by simp only [lowAll, Bool.and_eq_true]; exact ⟨h1.2, h2.2⟩⟩
    exact this l (fun i a hi => by obtain ⟨_, v, _, rv⟩ := hc i a hi; exact ⟨v, rv⟩)
  | map t es clock =>
    obtain ⟨kt, ces, _, _, hr⟩ := h
    exact ents_kept wr es ces hr
  | siter s pos => exact ⟨rfl, rfl⟩

end

/-! ## Less is known, and it stands -/

def G.forget (g : G) (n h : Nat) : G :=
  { g with
    obj := fun o => if o < n then g.obj o else none
    fix := fun b i => match g.fix b i with | some a => if a.under n = true then some (a.strike h) else none | none => none }

section
variable {g : G} {hw hw' : Stk Nat} {n h : Nat}

theorem FixAt.forget {b k : Nat} {l : List AVal} (hu : underAll n l = true) (hf : FixAt g b k l) : FixAt (g.forget n h) b k (strikeAll h l) := by
  intro j a hj
  obtain ⟨c, hc, rfl⟩ := strikeAll_get h l j a hj
  simp only [G.forget, hf j c hc, if_pos (underAll_get hu hc)]

theorem TokRel.forget (hn : hw'.n = h) (_hle : h ≤ hw.n) (hg : ∀ t, t < h → hw'.get? t = hw.get? t) {tok : Tok} {b off sz len cap : Nat} (r : TokRel g hw Stk.empty tok b off sz len cap) :
    TokRel (g.forget n h) hw' Stk.empty (tok.strike h) b off sz len cap := by
  cases tok with
  | no => trivial
  | full => exact r
  | loc t e => simp only [TokRel] at r; exact absurd r.1 (Nat.not_lt_zero _)
  | own t e =>
    simp only [TokRel] at r
    simp only [Tok.strike]
    cases hb : Nat.blt t h with
    | false => trivial
    | true =>
      rw [Nat.blt_eq] at hb
      simp only [cond_true, TokRel]
      rw [hg t hb, hn]
      exact ⟨hb, r.2⟩

mutual
theorem VRel.forget (hn : hw'.n = h) (hle : h ≤ hw.n) (hg : ∀ t, t < h → hw'.get? t = hw.get? t) : ∀ (a : AVal) (v : Value), a.under n = true → VRel g hw Stk.empty a v → VRel (g.forget n h) hw' Stk.empty (a.strike h) v
  | .undef, v, _, r | .bool _, v, _, r | .int _ _, v, _, r | .str _, v, _, r | .raw _, v, _, r | .nilp, v, _, r | .nils, v, _, r | .nilm, v, _, r | .nilf, v, _, r | .nili, v, _, r => by
    simpa only [AVal.strike, VRel] using r
  | .room sz m t, v, _, r => by
    simp only [VRel] at r
    obtain ⟨b, off, cap, _, _, _, ht⟩ := r
    simp only [TokRel] at ht
    exact absurd ht.1 (Nat.not_lt_zero _)
  | .ptr o i, v, hu, r => by
    simp only [AVal.strike, VRel] at r ⊢
    simp only [AVal.under, Nat.blt_eq] at hu
    obtain ⟨b, hb, hv⟩ := r
    exact ⟨b, by simp only [G.forget, if_pos hu]; exact hb, hv⟩
  | .os o i len cap sz, v, hu, r => by
    simp only [AVal.strike, VRel] at r ⊢
    simp only [AVal.under, Nat.blt_eq] at hu
    obtain ⟨b, c, hb, hv⟩ := r
    exact ⟨b, c, by simp only [G.forget, if_pos hu]; exact hb, hv⟩
  | .map o, v, hu, r => by
    simp only [AVal.strike, VRel] at r ⊢
    simp only [AVal.under, Nat.blt_eq] at hu
    obtain ⟨b, hb, hv⟩ := r
    exact ⟨b, by simp only [G.forget, if_pos hu]; exact hb, hv⟩
  | .rp l off, v, hu, r => by
    simp only [AVal.strike, VRel] at r ⊢
    simp only [AVal.under] at hu
    obtain ⟨b, k, hv, hf⟩ := r
    exact ⟨b, k, hv, hf.forget hu⟩
  | .sl sz rows tok, v, hu, r => by
    simp only [AVal.strike, VRel] at r ⊢
    simp only [AVal.under] at hu
    obtain ⟨b, off, cap, hv, h1, h2, h3, hf, ht⟩ := r
    refine ⟨b, off, cap, by rw [strikeRows_length]; exact hv, by rw [strikeRows_length]; exact h1, h2, strikeRows_all h sz rows h3, ?_, ?_⟩
    · rw [strikeRows_flatten]; exact hf.forget (underRows_flatten hu)
    · rw [strikeRows_length]; exact ht.forget hn hle hg
  | .fn f a c, v, hu, r => by
    simp only [AVal.strike, VRel] at r ⊢
    simp only [AVal.under, Bool.and_eq_true] at hu
    obtain ⟨xs, ys, hv, ha, hc⟩ := r
    exact ⟨xs, ys, hv, VRels.forget hn hle hg a xs hu.1 ha, VRels.forget hn hle hg c ys hu.2 hc⟩
  | .iface t a, v, hu, r => by
    simp only [AVal.strike, VRel] at r ⊢
    simp only [AVal.under] at hu
    obtain ⟨x, hv, ha⟩ := r
    exact ⟨x, hv, VRel.forget hn hle hg a x hu ha⟩
  | .agg l, v, hu, r => by
    simp only [AVal.strike, VRel] at r ⊢
    simp only [AVal.under] at hu
    obtain ⟨xs, hv, ha⟩ := r
    exact ⟨xs, hv, VRels.forget hn hle hg l xs hu ha⟩
  | .tup l, v, hu, r => by
    simp only [AVal.strike, VRel] at r ⊢
    simp only [AVal.under] at hu
    obtain ⟨xs, hv, ha⟩ := r
    exact ⟨xs, hv, VRels.forget hn hle hg l xs hu ha⟩
theorem VRels.forget (hn : hw'.n = h) (hle : h ≤ hw.n) (hg : ∀ t, t < h → hw'.get? t = hw.get? t) : ∀ (l : List AVal) (vs : List Value), underAll n l = true → VRels g hw Stk.empty l vs → VRels (g.forget n h) hw' Stk.empty (strikeAll h l) vs
  | [], vs, _, r => by simpa only [strikeAll, VRels] using r
  | a :: l, vs, hu, r => by
    simp only [strikeAll, VRels] at r ⊢
    simp only [underAll, Bool.and_eq_true] at hu
    obtain ⟨v, r', hv, ha, hl⟩ := r
    exact ⟨v, r', hv, VRel.forget hn hle hg a v hu.1 ha, VRels.forget hn hle hg l r' hu.2 hl⟩
end

theorem VRel.forget' (hn : hw'.n = h) (hle : h ≤ hw.n) (hg : ∀ t, t < h → hw'.get? t = hw.get? t) {a : AVal} {v : Value} (hu : a.under n = true) (hl : a.low h = true) (r : VRel g hw Stk.empty a v) : VRel (g.forget n h) hw' Stk.empty a v := by
  have := VRel.forget (n := n) hn hle hg a v hu r
  rwa [strike_low h a hl] at this

theorem lowAll_get {h : Nat} : ∀ {l : List AVal}, lowAll h l = true → ∀ {i : Nat} {a : AVal}, l[i]? = some a → a.low h = true
  | [], _, i, a, e => by simp at e
  | b :: l, hu, 0, a, e => by simp only [lowAll, Bool.and_eq_true] at hu; simp at e; subst e; exact hu.1
  | b :: l, hu, i + 1, a, e => by simp only [lowAll, Bool.and_eq_true] at hu; simp at e; exact lowAll_get hu.2 e

theorem EntRel.forget (hn : hw'.n = h) (hle : h ≤ hw.n) (hg : ∀ t, t < h → hw'.get? t = hw.get? t) {kt : KeyT} : ∀ (es : List (AVal × AVal × Nat)) (ces : List MapEntry), underEntries n es = true → lowEntries h es = true → EntRel g hw kt es ces →
    EntRel (g.forget n h) hw' kt es ces
  | [], ces, _, _, r => by simpa only [EntRel] using r
  | (k, v, b) :: es, ces, hu, hl, r => by
    simp only [EntRel] at r ⊢
    simp only [underEntries, lowEntries, Bool.and_eq_true] at hu hl
    obtain ⟨e, r', h1, hk, hv, h2, h3, hr⟩ := r
    exact ⟨e, r', h1, hk.forget' hn hle hg hu.1.1 hl.1.1, hv.forget' hn hle hg hu.1.2 hl.1.2, h2, h3, EntRel.forget hn hle hg es r' hu.2 hl.2 hr⟩

theorem OAt.forget (hn : hw'.n = h) (hle : h ≤ hw.n) (hg : ∀ t, t < h → hw'.get? t = hw.get? t) {w : World} {b : Nat} {x : AObj} (hu : x.under n = true) (hl : x.low h = true) (r : OAt g hw w b x) : OAt (g.forget n h) hw' w b x := by
  cases x with
  | cells l =>
    obtain ⟨c, el, h1, h2, hc⟩ := r
    refine ⟨c, el, h1, h2, fun i a hi => ?_⟩
    obtain ⟨k1, v, k2, k3⟩ := hc i a hi
    exact ⟨k1, v, k2, k3.forget' hn hle hg (underAll_get hu hi) (lowAll_get hl hi)⟩
  | map t es clock =>
    obtain ⟨kt, ces, h1, h2, hr⟩ := r
    exact ⟨kt, ces, h1, h2, EntRel.forget hn hle hg es ces hu hl hr⟩
  | siter s pos => exact r

/-- The state that is left. -/
theorem WRel.forget {M0 M1 : AMem} {w : World} (wr : WRel g M1 w) {objs : Stk AObj} {d : List Nat} (hn : hw'.n = h) (hle : h ≤ M1.hw.n) (okH : hw'.ok) (hg : ∀ t, t < h → hw'.get? t = M1.hw.get? t) (on : objs.n = M0.objs.n) (okO : objs.ok)
    (hobj : ∀ o x, objs.get? o = some x → M1.objs.get? o = some x ∧ x.under M0.objs.n = true ∧ x.low h = true) : WRel (g.forget M0.objs.n h) ⟨objs, hw', d⟩ w where
  okO := okO
  okH := okH
  dom o b ho := by
    simp only [G.forget] at ho
    split at ho
    · show o < objs.n; omega
    · cases ho
  obj o x hx := by
    have hlt : o < objs.n := Stk.get?_lt hx
    obtain ⟨h1, h2, h3⟩ := hobj o x hx
    obtain ⟨b, k1, k2, k3⟩ := wr.obj o x h1
    have hlt' : o < M0.objs.n := by omega
    exact ⟨b, by simp only [G.forget, if_pos hlt']; exact k1, k2, k3.forget hn hle hg h2 h3⟩
  inj o o' b h1 h2 := by
    simp only [G.forget] at h1 h2
    split at h1
    · split at h2
      · exact wr.inj o o' b h1 h2
      · cases h2
    · cases h1
  fix b i a ha := by
    simp only [G.forget] at ha
    split at ha
    · rename_i c hc
      split at ha
      · rename_i hu
        injection ha with ha; subst ha
        obtain ⟨h1, v, h2, h3⟩ := wr.fix b i c hc
        refine ⟨fun o ho => ?_, v, h2, VRel.forget hn hle hg c v hu h3⟩
        simp only [G.forget] at ho
        split at ho
        · exact h1 o ho
        · cases ho
      · cases ha
    · cases ha
  own t e he := by
    have hlt : t < h := by have := Stk.get?_lt he; have e : ({ objs := objs, hw := hw', dirty := d } : AMem).hw.n = h := hn; omega
    have he' : M1.hw.get? t = some e := by rw [← hg t hlt]; exact he
    obtain ⟨tb, fr, to, h1, h2⟩ := wr.own t e he'
    refine ⟨tb, fr, to, h1, h2.res, fun o ho => ?_, h2.le, h2.there, fun i hi => ?_⟩
    · simp only [G.forget] at ho
      split at ho
      · exact h2.obj o ho
      · cases ho
    · simp only [G.forget, h2.fix i hi]
  ownInj t t' e e' b fr to fr' to' h1 h2 := by
    have l1 : t < h := by have := Stk.get?_lt h1; have e : ({ objs := objs, hw := hw', dirty := d } : AMem).hw.n = h := hn; omega
    have l2 : t' < h := by have := Stk.get?_lt h2; have e : ({ objs := objs, hw := hw', dirty := d } : AMem).hw.n = h := hn; omega
    exact wr.ownInj t t' e e' b fr to fr' to' (by rw [← hg t l1]; exact h1) (by rw [← hg t' l2]; exact h2)
  res := wr.res
  size := wr.size
  os := wr.os
  tape := wr.tape
  output := wr.output
  lim b i a hb ha := by
    simp only [G.forget] at ha
    split at ha
    · rename_i c hc
      exact wr.lim b i c hb hc
    · cases ha

theorem gc_sound {g0 g1 : G} {M0 M1 : AMem} {w0 w1 : World} (wr0 : WRel g0 M0 w0) (wr1 : WRel g1 M1 w1) (le : GLe g0 M0.hw Stk.empty g1 M1.hw Stk.empty) (t : Tame { M0 with dirty := [] } M1) {v : AVal} {u : Value} (r : VRel g1 M1.hw Stk.empty v u)
    {v' : AVal} {M' : AMem} (h : finishGc M0 M1 v (oldObjs M0.objs.n M1.dirty) (oldOwns M0.hw.n M1.dirty) = some (v', M')) :
    ∃ g2, WRel g2 M' w1 ∧ GLe g0 M0.hw Stk.empty g2 M'.hw Stk.empty ∧ VRel g2 M'.hw Stk.empty v' u ∧ g2.res = g1.res ∧ g2.w0 = g1.w0 := by
  unfold finishGc at h
  cases hc : (v.under M0.objs.n && objsAre (·.under M0.objs.n) M1.objs (oldObjs M0.objs.n M1.dirty)) with
  | false =>
    rw [hc] at h
    simp only [cond_false, Option.some.injEq, Prod.mk.injEq] at h
    obtain ⟨rfl, rfl⟩ := h
    exact ⟨g1, ⟨wr1.okO, wr1.okH, wr1.dom, wr1.obj, wr1.inj, wr1.fix, wr1.own, wr1.ownInj, wr1.res, wr1.size, wr1.os, wr1.tape, wr1.output, wr1.lim⟩, le, r, rfl, rfl⟩
  | true =>
    rw [hc] at h
    rw [Bool.and_eq_true] at hc
    simp only [cond_true] at h
    have hobjs : ∀ p ∈ oldObjs M0.objs.n M1.dirty, ∃ x, M1.objs.get? p = some x := fun p hp => by
      obtain ⟨x, hx, _⟩ := objsAre_get hc.2 p hp; exact ⟨x, hx⟩
    have howns : ∀ p ∈ oldOwns M0.hw.n M1.dirty, ∃ x, M1.hw.get? p = some x := fun p hp => Stk.get?_some wr1.okH (Nat.lt_of_lt_of_le (mem_oldOwns.1 hp).2 t.hn)
    -- the objects that are left
    have objsL : ∀ o x, (restore M0.objs M1.objs (oldObjs M0.objs.n M1.dirty)).get? o = some x → M1.objs.get? o = some x ∧ x.under M0.objs.n = true ∧ (o ∉ oldObjs M0.objs.n M1.dirty → x.low M0.hw.n = true) := by
      intro o x hx
      have hlt : o < M0.objs.n := by have := Stk.get?_lt hx; rw [restore_n] at this; exact this
      rw [restore_get _ o hlt hobjs] at hx
      by_cases hm : o ∈ oldObjs M0.objs.n M1.dirty
      · rw [if_pos hm] at hx
        obtain ⟨y, hy, hyu⟩ := objsAre_get hc.2 o hm
        rw [hx] at hy; injection hy with hy; subst hy
        exact ⟨hx, hyu, fun h => absurd hm h⟩
      · rw [if_neg hm] at hx
        have hsame := t.obj o hlt (fun hd => hm (mem_oldObjs.2 ⟨hd, hlt⟩))
        obtain ⟨b, _, _, hoat⟩ := wr0.obj o x hx
        obtain ⟨k1, k2⟩ := obj_kept wr0 hoat
        exact ⟨hsame.trans hx, k1, fun _ => k2⟩
    have ownsG : ∀ s, s < M0.hw.n → (restore M0.hw M1.hw (oldOwns M0.hw.n M1.dirty)).get? s = M1.hw.get? s := by
      intro s hs
      rw [restore_get _ s hs howns]
      split
      · rfl
      · rename_i hm
        exact (t.own s hs (fun hd => hm (mem_oldOwns.2 ⟨hd, hs⟩))).symm
    have fixed : ∀ h, M0.hw.n ≤ h → ∀ b i a, g0.fix b i = some a → (g1.forget M0.objs.n h).fix b i = some a := by
      intro h hle b i a ha
      obtain ⟨_, x, _, rx⟩ := wr0.fix b i a ha
      obtain ⟨k1, k2⟩ := rel_kept wr0 a x rx
      simp only [G.forget, le.fix b i a ha, if_pos k1, strike_low h a (low_mono hle a k2)]
    have gle : ∀ (h : Nat) (hw' : Stk Nat), M0.hw.n ≤ h → hw'.n = h → h ≤ M1.hw.n → (∀ t, t < h → hw'.get? t = M1.hw.get? t) → GLe g0 M0.hw Stk.empty (g1.forget M0.objs.n h) hw' Stk.empty := by
      intro h hw' k1 k2 k3 k4
      refine ⟨le.P, fun o b ho => ?_, fixed h k1, by omega, fun s e' hs he => ?_, Nat.le_refl _, fun _ _ ht => absurd ht (Nat.not_lt_zero _)⟩
      · simp only [G.forget, if_pos (wr0.dom o b ho)]; exact le.obj o b ho
      · rw [k4 s (by omega)] at he
        exact le.own s e' hs he
    cases hnn : Nat.beq M1.hw.n M0.hw.n with
    | true =>
      rw [hnn] at h
      rw [nbeq] at hnn
      simp only [cond_true, Option.some.injEq, Prod.mk.injEq] at h
      obtain ⟨rfl, rfl⟩ := h
      obtain ⟨k1, k2⟩ := rel_kept wr1 v u r
      refine ⟨g1.forget M0.objs.n M0.hw.n, wr1.forget (restore_n _) (Nat.le_of_eq hnn.symm) (restore_ok wr0.okH _) ownsG (restore_n _) (restore_ok wr0.okO _) (fun o x hx => ?_), gle _ _ (Nat.le_refl _) (restore_n _) (Nat.le_of_eq hnn.symm) ownsG,
        r.forget' (restore_n _) (Nat.le_of_eq hnn.symm) ownsG hc.1 (by rw [← hnn]; exact k2), rfl, rfl⟩
      obtain ⟨m1, m2, _⟩ := objsL o x hx
      obtain ⟨b, _, _, hoat⟩ := wr1.obj o x m1
      exact ⟨m1, m2, by rw [← hnn]; exact (obj_kept wr1 hoat).2⟩
    | false =>
      rw [hnn] at h
      simp only [cond_false, finishHigh] at h
      cases hl2 : objsAre (·.low M0.hw.n) M1.objs (oldObjs M0.objs.n M1.dirty) with
      | true =>
        rw [hl2] at h
        simp only [cond_true, Option.some.injEq, Prod.mk.injEq] at h
        obtain ⟨rfl, rfl⟩ := h
        refine ⟨g1.forget M0.objs.n M0.hw.n, wr1.forget (restore_n _) t.hn (restore_ok wr0.okH _) ownsG (restore_n _) (restore_ok wr0.okO _) (fun o x hx => ?_), gle _ _ (Nat.le_refl _) (restore_n _) t.hn ownsG,
          VRel.forget (restore_n _) t.hn ownsG v u hc.1 r, rfl, rfl⟩
        obtain ⟨m1, m2, m3⟩ := objsL o x hx
        refine ⟨m1, m2, ?_⟩
        by_cases hm : o ∈ oldObjs M0.objs.n M1.dirty
        · obtain ⟨y, hy, hyl⟩ := objsAre_get hl2 o hm
          rw [m1] at hy; injection hy with hy; subst hy
          exact hyl
        · exact m3 hm
      | false =>
        rw [hl2] at h
        simp only [cond_false, Option.some.injEq, Prod.mk.injEq] at h
        obtain ⟨rfl, rfl⟩ := h
        obtain ⟨k1, k2⟩ := rel_kept wr1 v u r
        refine ⟨g1.forget M0.objs.n M1.hw.n, wr1.forget rfl (Nat.le_refl _) wr1.okH (fun _ _ => rfl) (restore_n _) (restore_ok wr0.okO _) (fun o x hx => ?_), gle _ _ t.hn rfl (Nat.le_refl _) (fun _ _ => rfl),
          r.forget' rfl (Nat.le_refl _) (fun _ _ => rfl) hc.1 k2, rfl, rfl⟩
        obtain ⟨m1, m2, _⟩ := objsL o x hx
        obtain ⟨b, _, _, hoat⟩ := wr1.obj o x m1
        exact ⟨m1, m2, (obj_kept wr1 hoat).2⟩

end
end Go.Abs
end

/-
  The small form's writing operations are the model's: variables, maps, texts gone through.
-/
section
namespace Go.Abs

section
variable {P : Program} {C : Cfg} {N : Nat} {ob : Bool} {o : Oper} {g : G} {M : AMem} {hl hl' : HL} {M' : AMem} {w : World} {l : List AVal} {a : Act} {av : AVal}

theorem cells_obj {hw : Stk Nat} {ls : List AVal} {cs : Array Value} (h : VRels g hw Stk.empty ls cs.toList) (hc : allCells ls = true) (el : TypeId) (w : World) :
    OAt g hw { w with heap := w.heap.push (.cells cs el) } w.heap.size (.cells ls) := by
  have hlen := VRels_length h
  simp only [Array.length_toList] at hlen
  refine ⟨cs, el, by simp, by omega, fun i b hb => ⟨allCells_get hc hb, ?_⟩⟩
  obtain ⟨v, hv, rv⟩ := VRels_get h hb
  exact ⟨v, by simpa using hv, rv⟩

theorem step_new (s : SRel C g M hl w l a.tmps) {t : TypeId} (ho : o.op = .alloc t) {z : List AVal} (hz : zeroCellsT P t = some z)
    (h : WriteOp.run M hl (Opd.ev l) (.new z) = some (av, hl', M')) : StepOK P C o a g M hl w l av hl' M' := by
  obtain ⟨zv, z1, z2, _, z4⟩ := zeroCellsT_run hz
  simp only [WriteOp.run, Option.some.injEq, Prod.mk.injEq] at h
  obtain ⟨rfl, rfl, rfl⟩ := h
  obtain ⟨le, s'⟩ := s.newObj (Ext.push w (.cells zv.cells t)) (b := w.heap.size) (Nat.le_refl _) (x := .cells z) (cells_obj (z2 g M.hw Stk.empty) z4 t w)
  refine ⟨.pointer (some ⟨w.heap.size, 0, none⟩), _, _, .inl ?_, ?_, le, s', rfl, rfl⟩
  · simp [execOp, ho, Instr.alloc, z1, newVar, newRow]
  · simp only [VRel]
    exact ⟨w.heap.size, by simp [G.addObj], rfl⟩

theorem step_bsl_end (s : SRel C g M hl w l a.tmps) (hN : N ≤ a.tmps.size) {t e : TypeId} {n : Nat} {ps : Array (Nat × Operand)} (ho : o.op = .buildSlice t n ps) {z : List AVal}
    (hu : P.underlying t = some (.slice e)) (_hz : zeroCellsT P e = some z) {sz : Nat} (hsz : szT P e = some sz) (h0 : 0 < sz) (hle : n * sz ≤ 16777216) (hn : 0 < n)
    {ps' : List (Nat × Nat × Opd)} (h1 : ps'.length = ps.toList.length) (h2 : ∀ (i : Nat) (o1 s1 : Nat) (y : Opd), ps'[i]? = some (o1, s1, y) → ∃ j x, ps.toList[i]? = some (j, x) ∧ (o1 = j * sz ∧ s1 = sz) ∧ copd C N x = some y)
    {zv : Value} (z1 : ∀ w, (zeroValue e).run P w = .ok zv w) (z2 : ∀ (g : G) (hw : Stk Nat) (hl : HL), VRels g hw hl z zv.cells.toList) (hzl : z.length = sz) (hzv : zv.cells.size = sz) {cells' : List AVal}
    (hf : fillParts (rep z n) (sealParts (evParts (Opd.ev l) ps')) = some cells') (hcell : allCells cells' = true) :
    StepOK P C o a g M hl w l (.os M.objs.n 0 n (some n) sz) hl { M with objs := M.objs.push (.cells cells') } := by
  have r0 := rep_rel (g := g) (hw := M.hw) (hl := Stk.empty) (z2 g M.hw Stk.empty) n
  rw [hzl] at r0
  obtain ⟨cs', f1, f2⟩ := fill_sound (g := g) (hl := Stk.empty) (hw := M.hw) (place := fun i => some (i * sz, sz)) (sealParts (evParts (Opd.ev l) ps')) (ps.map fun (x : Nat × Operand) => (x.1, a.eval x.2)).toList
    (by rw [sealParts_length, evParts_length, h1]; simp) (fun i off size x hx => by
      rw [sealParts_get, evParts_get] at hx
      cases hi : ps'[i]? with
      | none => rw [hi] at hx; cases hx
      | some q =>
        obtain ⟨o1, s1, y⟩ := q
        rw [hi] at hx
        simp only [Option.map_some, Option.some.injEq, Prod.mk.injEq] at hx
        obtain ⟨rfl, rfl, rfl⟩ := hx
        obtain ⟨j, x, hx, ⟨rfl, rfl⟩, hc⟩ := h2 i _ _ _ hi
        exact ⟨j, a.eval x, by simp [hx], rfl, VRel.sealv _ (copd_sound s hN hc)⟩) r0 hf
  have hlc : cells'.length = n * sz := by
    have : ∀ (ps : List (Nat × Nat × AVal)) (c c' : List AVal), fillParts c ps = some c' → c'.length = c.length := by
      intro ps
      induction ps with
      | nil => intro c c' h; simp only [fillParts, Option.some.injEq] at h; rw [h]
      | cons p ps ih =>
        obtain ⟨o1, s1, x⟩ := p
        intro c c' h
        simp only [fillParts] at h
        split at h
        · cases hov : overlay c o1 x.cells with
          | none => rw [hov] at h; cases h
          | some c1 =>
            rw [hov] at h
            simp only [Option.bind_some] at h
            rw [ih _ _ h, (overlay_spec hov).2.1]
        · cases h
    rw [this _ _ _ hf, rep_length, hzl]
  have hcs : cs'.size = n * sz := by have := VRels_length f2; simp only [Array.length_toList] at this; omega
  obtain ⟨le, s'⟩ := s.newObj (Ext.push w (.cells cs' e)) (b := w.heap.size) (Nat.le_refl _) (x := .cells cells') (cells_obj f2 hcell e w)
  refine ⟨.slice (some ⟨w.heap.size, 0, none⟩) n n, { w with heap := w.heap.push (.cells cs' e) }, _, .inl ?_, ?_, le, s', rfl, rfl⟩
  · have hgt : ¬ (n * sz > 2 ^ 24) := by omega
    have hnz : ¬ (n * sz = 0) := by
      have := Nat.mul_pos hn h0; omega
    simp only [execOp, ho, Instr.buildSlice, Sem.run_bind, run_underlying hu, Result.andThen_ok, szT_run hsz, if_neg hgt, if_neg hnz, Sem.run_pure, z1]
    rw [hzv, f1]
    simp [newRow]
  · simp only [VRel]
    exact ⟨w.heap.size, n, by simp [G.addObj], rfl, Nat.le_refl _, fun c' hc' => by injection hc'⟩


theorem step_bsl (s : SRel C g M hl w l a.tmps) (hN : N ≤ a.tmps.size) {t e : TypeId} {n : Nat} {ps : Array (Nat × Operand)} (ho : o.op = .buildSlice t n ps) {z : List AVal}
    (hu : P.underlying t = some (.slice e)) (hz : zeroCellsT P e = some z) {sz : Nat} (hsz : szT P e = some sz) (h0 : 0 < sz) (hle : n * sz ≤ 16777216) (hn : 0 < n)
    {ps' : List (Nat × Nat × Opd)} (hp : cpartsA C N (P.cellsOf e) ps.toList = some ps')
    (h : WriteOp.run M hl (Opd.ev l) (.bsl sz n z ps') = some (av, hl', M')) : StepOK P C o a g M hl w l av hl' M' := by
  rw [szT_cells hsz] at hp
  obtain ⟨h1, h2⟩ := cpartsA_spec hp
  obtain ⟨zv, z1, z2, z3, _⟩ := zeroCellsT_run hz
  have hzl : z.length = sz := by rw [hsz] at z3; injection z3 with z3; exact z3.symm
  have hzv : zv.cells.size = sz := by have := VRels_length (z2 g M.hw hl); simpa [hzl] using this.symm
  simp only [WriteOp.run] at h
  cases hf : fillParts (rep z n) (sealParts (evParts (Opd.ev l) ps')) with
  | none => rw [hf] at h; cases h
  | some cells' =>
    rw [hf] at h
    simp only at h
    split at h
    · rename_i hcell
      simp only [Option.some.injEq, Prod.mk.injEq] at h
      obtain ⟨rfl, rfl, rfl⟩ := h
      exact step_bsl_end s hN ho hu hz hsz h0 hle hn h1 h2 z1 z2 hzl hzv hf hcell
    · cases h

theorem adopt_one {hw : Stk Nat} {hl : HL} {c : AVal} (h : allCells (adopt c.cells hl hw).1 = true) : allCells c.cells = true := by
  have key : ∀ (cs : List AVal) (hl : HL) (hw : Stk Nat), allCells (adopt cs hl hw).1 = true → allCells cs = true := by
    intro cs
    induction cs with
    | nil => intro _ _ _; rfl
    | cons c cs ih =>
      intro hl hw h
      have seal_cell : c.sealv.isCell = true → c.isCell = true := by cases c <;> simp [AVal.sealv, AVal.isCell]
      have plain : ∀ c', allCells (c' :: (adopt cs hl hw).1) = true → (c'.isCell = true → c.isCell = true) → allCells (c :: cs) = true := by
        intro c' h hc
        simp only [allCells, Bool.and_eq_true] at h ⊢
        exact ⟨hc h.1, ih _ _ h.2⟩
      cases c
      case sl sz rows tok =>
        cases tok
        case loc t e =>
          simp only [adopt] at h
          split at h
          · split at h
            · simp only [allCells, Bool.and_eq_true] at h ⊢
              exact ⟨rfl, ih _ _ h.2⟩
            · exact plain _ h (fun _ => rfl)
          · exact plain _ h (fun _ => rfl)
        all_goals
          simp only [adopt] at h
          exact plain _ h seal_cell
      all_goals
        simp only [adopt] at h
        exact plain _ h seal_cell
  exact key _ _ _ h

theorem step_box (s : SRel C g M hl w l a.tmps) (hN : N ≤ a.tmps.size) {t : TypeId} {x : Operand} (ho : o.op = .box t x) {x' : Opd} (hx : copd C N x = some x') {n : Nat}
    (h : WriteOp.run M hl (Opd.ev l) (.box n x') = some (av, hl', M')) : StepOK P C o a g M hl w l av hl' M' := by
  have rx := copd_sound s hN hx
  simp only [WriteOp.run] at h
  split at h
  · rename_i hc
    rw [Bool.and_eq_true, nbeq] at hc
    simp only [Option.some.injEq, Prod.mk.injEq] at h
    obtain ⟨rfl, rfl, rfl⟩ := h
    have rc := cells_rel rx (adopt_one hc.2)
    obtain ⟨g', a1, a2, a3, a4, a5, a6, a7⟩ := adopt_sound _ s rc
    obtain ⟨le, s'⟩ := a2.newObj (Ext.push w (.cells (a.eval x).cells t)) (b := w.heap.size) (Nat.le_refl _) (x := .cells (adopt (x'.ev l).cells hl M.hw).1) (cells_obj a3 hc.2 t w)
    refine ⟨.pointer (some ⟨w.heap.size, 0, none⟩), _, _, .inl ?_, ?_, a1.trans le, s', a4, a5⟩
    · simp [execOp, ho, Instr.box, newVar, newRow]
    · simp only [VRel]
      exact ⟨w.heap.size, by simp [G.addObj], rfl⟩
  · cases h

/-- A store into an object's cells. -/
theorem obj_store {hw : Stk Nat} {b i : Nat} {ls ls' cs : List AVal} (hb : OAt g hw w b (.cells ls)) (hov : overlay ls i cs = some ls') {vs : Array Value} (hr : VRels g hw Stk.empty cs vs.toList) (hc : allCells cs = true) :
    ∃ w', (storeCells ⟨b, i, none⟩ vs.toList).run P w = .ok () w' ∧ Chg w w' b ∧ OAt g hw w' b (.cells ls') := by
  obtain ⟨c, el, hheap, hle, hcell⟩ := hb
  obtain ⟨h1, h2, h3⟩ := overlay_spec hov
  have hlen := VRels_length hr
  simp only [Array.length_toList] at hlen
  have hone : ∀ v ∈ vs.toList, v.oneCell' = true := by
    intro v hv
    obtain ⟨j, hj, hjv⟩ := List.getElem_of_mem hv
    have hj' : j < cs.length := by simp at hj; omega
    obtain ⟨u, hu, ru⟩ := VRels_get hr (List.getElem?_eq_getElem hj')
    rw [List.getElem?_eq_getElem hj] at hu
    injection hu with hu
    rw [← hjv, hu]
    exact isCell_one (allCells_get hc (List.getElem?_eq_getElem hj')) ru
  have hst := run_storeCells_atF P b i el (0, 0) vs.toList 0 c w hheap (by simp) (by simp; omega) hone
  refine ⟨_, hst, ⟨setRow_size _ _ _, fun b' hb' => setRow_other _ _ _ _ hb', rfl, rfl, rfl⟩, ?_⟩
  refine ⟨_, el, setRow_heap _ _ _ _ _ _ hheap, ?_, fun j y hj => ?_⟩
  · simp; omega
  · rw [h3 j] at hj
    by_cases hh : i ≤ j ∧ j < i + cs.length
    · rw [if_pos hh] at hj
      obtain ⟨u, hu, ru⟩ := VRels_get hr hj
      refine ⟨allCells_get hc hj, u, ?_, ru⟩
      simp only [Nat.add_zero, List.getElem?_toArray]
      rw [List.append_assoc, List.getElem?_append_right (by simp; omega)]
      have e1 : (c.toList.take i).length = i := by simp; omega
      rw [e1, List.getElem?_append_left (by simp; omega)]
      exact hu
    · rw [if_neg hh] at hj
      obtain ⟨g1, u, hu, ru⟩ := hcell j y hj
      refine ⟨g1, u, ?_, ru⟩
      simp only [Nat.add_zero, List.getElem?_toArray]
      have e1 : (c.toList.take i).length = i := by simp; omega
      by_cases h4 : j < i
      · rw [List.append_assoc, List.getElem?_append_left (by omega), List.getElem?_take_of_lt h4]
        simpa using hu
      · rw [List.getElem?_append_right (by simp; omega), List.getElem?_drop]
        simp only [List.length_append, e1, Array.length_toList]
        have : i + vs.size + (j - (i + vs.size)) = j := by omega
        rw [this]; simpa using hu

theorem step_store (s : SRel C g M hl w l a.tmps) (hN : N ≤ a.tmps.size) {t : TypeId} {x y : Operand} (ho : o.op = .store t x y) {x' y' : Opd} (hx : copd C N x = some x') (hy : copd C N y = some y') {n : Nat}
    (hs : szT P t = some n) (h : WriteOp.run M hl (Opd.ev l) (.store n x' y') = some (av, hl', M')) : StepOK P C o a g M hl w l av hl' M' := by
  have rx := copd_sound s hN hx
  have ry := copd_sound s hN hy
  simp only [WriteOp.run] at h
  split at h
  · rename_i ob i ex
    rw [ex] at rx; simp only [VRel] at rx
    obtain ⟨b, hb, hv⟩ := rx
    split at h
    · rename_i ls hls
      split at h
      · rename_i hc
        rw [Bool.and_eq_true, nbeq] at hc
        cases hov : overlay ls i (adopt (y'.ev l).cells hl M.hw).1 with
        | none => rw [hov] at h; cases h
        | some ls' =>
          rw [hov] at h
          simp only [Option.map_some, Option.some.injEq, Prod.mk.injEq] at h
          obtain ⟨rfl, rfl, rfl⟩ := h
          have rc := cells_rel ry (adopt_one hc.2)
          obtain ⟨g', a1, a2, a3, a4, a5, a6, a7⟩ := adopt_sound _ s rc
          obtain ⟨b', hb', _, hoat⟩ := a2.wr.obj _ _ hls
          have hbb : b' = b := by rw [a6, hb] at hb'; injection hb' with hb'; exact hb'.symm
          subst hbb
          obtain ⟨w', w1, w2, w3⟩ := obj_store (P := P) hoat hov a3 hc.2
          have hlen := VRels_length rc
          have hsz : (a.eval y).cells.size = n := by
            have h1 := VRels_length a3
            simp only [Array.length_toList] at h1; omega
          refine ⟨undef, w', g', .inr ⟨?_, rfl⟩, VRel_undef, a1, a2.setObj hb' w2 w3 _, a4, a5⟩
          simp only [execOp, ho, hv, Instr.storeAt, Instr.sureAddr, Sem.run_bind, Sem.run_pure, Result.andThen_ok, storeVar, szT_run hs, hsz, ne_eq, not_true, if_false, w1]
      · cases h
    · cases h
  · cases h

theorem step_mkmap (s : SRel C g M hl w l a.tmps) (hP : g.P = P) {t : TypeId} (ho : o.op = .makeMap t none) {kt : TypeId} {kt' : KeyT} (hk : keyT P kt = some kt')
    (h : WriteOp.run M hl (Opd.ev l) (.mkmap kt'.id) = some (av, hl', M')) : StepOK P C o a g M hl w l av hl' M' := by
  obtain ⟨hid, _, _⟩ := keyT_spec hk
  simp only [WriteOp.run, Option.some.injEq, Prod.mk.injEq] at h
  obtain ⟨rfl, rfl, rfl⟩ := h
  obtain ⟨le, s'⟩ := s.newObj (Ext.push w (.map #[] 0)) (b := w.heap.size) (Nat.le_refl _) (x := .map kt'.id [] 0) ⟨kt', [], by rw [hid, hP]; exact hk, by simp, by simp [EntRel]⟩
  refine ⟨.map (some w.heap.size), _, _, .inl ?_, ?_, le, s', rfl, rfl⟩
  · simp [execOp, ho, Instr.makeMap]
  · simp only [VRel]
    exact ⟨w.heap.size, by simp [G.addObj], rfl⟩

theorem run_setObj {r : Nat} {o o' : Obj} (h : w.heap[r]? = some o) (hc : ∀ c e f, o ≠ .cells c e f) : (setObj r o').run P w = .ok () { w with heap := w.heap.setIfInBounds r o' } := by
  simp only [setObj, Sem.run, h]

theorem chg_setObj {r : Nat} (o' : Obj) : Chg w { w with heap := w.heap.setIfInBounds r o' } r :=
  ⟨by simp, fun b' hb' => by simp only; rw [Array.getElem?_setIfInBounds_ne (by omega)], rfl, rfl, rfl⟩

theorem heap_setObj {r : Nat} {o o' : Obj} (h : w.heap[r]? = some o) : ({ w with heap := w.heap.setIfInBounds r o' } : World).heap[r]? = some o' := by
  have := lt_of_heap h
  simp [this]

theorem keyThatStays_same {kt : TypeId} {kt' : KeyT} (hk : keyT P kt = some kt') {x y : AVal} (hx : kt'.fits x = true) (hy : kt'.fits y = true) (hxy : x.same y = true) {hw : Stk Nat} {hl1 hl2 : HL} {u v : Value}
    (ru : VRel g hw hl1 x u) (rv : VRel g hw hl2 y v) (w : World) : (Instr.keyThatStays v u).run P w = .ok u w := by
  have e := AVal.same_eq _ _ hxy
  subst e
  have hsb : Instr.sameBits 10000 v u = true := by
    obtain ⟨xs, rx, fx, rfl⟩ := fits_cells hk hx ru
    obtain ⟨ys, ry, _, rfl⟩ := fits_cells hk hx rv
    -- plain parts: the same value
    have plain : ∀ (ls : List Leaf) (l : List AVal) (xs ys : List Value), leafAll ls l = true → VRels g hw hl1 l xs → VRels g hw hl2 l ys → xs = ys ∧ ∀ x ∈ xs, Instr.sameBits 9999 x x = true ∧ Instr.sameBits 10000 x x = true := by
      intro ls
      induction ls with
      | nil =>
        intro l xs ys hf r1 r2
        cases l with
        | nil => simp only [VRels] at r1 r2; subst r1 r2; exact ⟨rfl, fun x hx => by simp at hx⟩
        | cons _ _ => simp [leafAll] at hf
      | cons lf ls ih =>
        intro l xs ys hf r1 r2
        cases l with
        | nil => simp [leafAll] at hf
        | cons b l =>
          simp only [leafAll, Bool.and_eq_true] at hf
          simp only [VRels] at r1 r2
          obtain ⟨v1, t1, rfl, b1, q1⟩ := r1
          obtain ⟨v2, t2, rfl, b2, q2⟩ := r2
          obtain ⟨e1, e2⟩ := ih l t1 t2 hf.2 q1 q2
          have e3 : v1 = v2 ∧ Instr.sameBits 9999 v1 v1 = true ∧ Instr.sameBits 10000 v1 v1 = true := by
            cases lf
            · obtain ⟨p, rfl, rfl⟩ := leaf_bool hf.1 b1
              simp only [VRel] at b2; subst b2; exact ⟨rfl, by simp [Instr.sameBits], by simp [Instr.sameBits]⟩
            · obtain ⟨p, rfl, rfl⟩ := leaf_int hf.1 b1
              simp only [VRel] at b2; subst b2; exact ⟨rfl, by simp [Instr.sameBits], by simp [Instr.sameBits]⟩
            · obtain ⟨p, rfl, rfl, _⟩ := leaf_str hf.1 b1
              simp only [VRel] at b2; obtain ⟨rfl, _⟩ := b2; exact ⟨rfl, by simp [Instr.sameBits, beq_toListBytes], by simp [Instr.sameBits, beq_toListBytes]⟩
          obtain ⟨rfl, e4⟩ := e3
          subst e1
          exact ⟨rfl, fun x hx => by rcases List.mem_cons.1 hx with rfl | hx; exact e4; exact e2 x hx⟩
    obtain ⟨rfl, hall⟩ := plain _ _ _ _ fx rx ry
    have hlen : isAggT P kt = false → xs ≠ [] := by
      intro hag hnil
      subst hnil
      obtain ⟨_, _, h3⟩ := keyT_spec hk
      obtain ⟨_, _, _, h1⟩ := leaves_under h3
      have h4 := leafAll_length fx
      have h5 := VRels_length rx
      have := h1 hag
      simp at h5
      rw [h5] at h4
      simp at h4
      rw [← h4] at this
      simp at this
    unfold valOf
    split
    · show (xs.toArray.size == xs.toArray.size && ((⟨xs⟩ : Array Value).toList.zip (⟨xs⟩ : Array Value).toList).all fun (x, y) => Instr.sameBits 9999 x y) = true
      simp only [BEq.rfl, Bool.true_and, List.all_eq_true]
      rintro ⟨p, q⟩ hpq
      have : p = q ∧ p ∈ xs := by
        have hz : ∀ (zs : List Value), (p, q) ∈ zs.zip zs → p = q ∧ p ∈ zs := by
          intro zs
          induction zs with
          | nil => intro h; simp at h
          | cons z zs ih =>
            intro h
            simp only [List.zip_cons_cons, List.mem_cons, Prod.mk.injEq] at h
            rcases h with ⟨rfl, rfl⟩ | h
            · exact ⟨rfl, List.mem_cons_self⟩
            · exact ⟨(ih h).1, List.mem_cons_of_mem _ (ih h).2⟩
        exact hz xs hpq
      obtain ⟨rfl, hp⟩ := this
      exact (hall p hp).1
    · rename_i hag
      cases xs with
      | nil => exact absurd rfl (hlen (by simpa using hag))
      | cons x xs => exact (hall x List.mem_cons_self).2
  simp only [Instr.keyThatStays, hsb, if_true, Sem.run_pure]

end
end Go.Abs
end

/-
  The small form's writing operations are the model's: maps, texts gone through, what is made.
-/
section
namespace Go.Abs

section
variable {P : Program} {C : Cfg} {N : Nat} {ob : Bool} {o : Oper} {g : G} {M : AMem} {hl hl' : HL} {M' : AMem} {w : World} {l : List AVal} {a : Act} {av : AVal}

theorem step_mapupd (s : SRel C g M hl w l a.tmps) (hP : g.P = P) (hN : N ≤ a.tmps.size) {t kt e : TypeId} {m k x : Operand} (ho : o.op = .mapUpdate t m k x ∨ o.op = .insert t m k x) {m' k' x' : Opd}
    (hm : copd C N m = some m') (hk : copd C N k = some k') (hx : copd C N x = some x') (hu : P.underlying t = some (.map kt e)) {kt' : KeyT} (hkt : keyT P kt = some kt')
    (h : WriteOp.run M hl (Opd.ev l) (.mapupd kt' m' k' x') = some (av, hl', M')) : StepOK P C o a g M hl w l av hl' M' := by
  have rm := copd_sound s hN hm
  have rk := copd_sound s hN hk
  have rx := copd_sound s hN hx
  obtain ⟨hid, _, _⟩ := keyT_spec hkt
  simp only [WriteOp.run] at h
  split at h
  · rename_i hf
    have hck := checkKey_sound (P := P) hkt rk hf
    split at h
    · rename_i ob ex
      rw [ex] at rm; simp only [VRel] at rm
      obtain ⟨b, hb, hv⟩ := rm
      split at h
      · rename_i t' es c hes
        split at h
        · rename_i ht
          rw [nbeq] at ht; subst ht
          rw [hid] at hes
          obtain ⟨b', ces, hb', _, hheap, her⟩ := obj_map s.wr hP hes hkt
          rw [hb] at hb'; injection hb' with hb'; subst hb'
          have hfk := findKey_sound (P := P) hkt rk hf her w
          have hgo := run_getObj (P := P) hheap (by intro _ _ _ h; cases h)
          simp only [Option.some.injEq, Prod.mk.injEq] at h
          obtain ⟨rfl, rfl, rfl⟩ := h
          have rk0 : VRel g M.hw Stk.empty (k'.ev l) (a.eval k) := by
            obtain ⟨xs, rxs, fx, exk⟩ := fits_cells hkt hf rk
            have := VRel.sealv Stk.empty rk
            have hs : (k'.ev l).sealv = k'.ev l := by
              have leaf_seal : ∀ (ls : List Leaf) (l : List AVal), leafAll ls l = true → sealAll l = l := by
                intro ls
                induction ls with
                | nil => intro l hl; cases l with | nil => rfl | cons _ _ => simp [leafAll] at hl
                | cons lf ls ih =>
                  intro l hl
                  cases l with
                  | nil => simp [leafAll] at hl
                  | cons y l =>
                    simp only [leafAll, Bool.and_eq_true] at hl
                    simp only [sealAll, ih l hl.2]
                    cases lf <;> cases y <;> simp [Leaf.fits] at hl <;> rfl
              have h1 := leaf_seal _ _ fx
              cases hkk : k'.ev l <;> rw [hkk] at h1 <;> simp only [AVal.cells, sealAll, List.cons.injEq, and_true] at h1 <;> first
                | exact h1
                | (simp only [AVal.sealv, h1])
            rwa [hs] at this
          have rx0 : VRel g M.hw Stk.empty (x'.ev l).elem (a.eval x) := VRel.sealv _ rx
          rw [setEntry_pos]
          have hrun : ∀ (nc : Array MapEntry) (c' : Nat), (Instr.mapUpdate t (a.eval m) (a.eval k) (a.eval x)).run P w = .ok () { w with heap := w.heap.setIfInBounds b (.map nc c') } →
              (execOp a.eval o).run P w = .ok .skip { w with heap := w.heap.setIfInBounds b (.map nc c') } := by
            intro nc c' hr
            rcases ho with ho | ho <;> simp [execOp, ho, hr]
          cases hp : findPos (k'.ev l) es with
          | none =>
            rw [hp] at hfk
            simp only [Option.bind_none] at hfk
            refine ⟨undef, _, g, .inr ⟨hrun _ _ ?_, rfl⟩, VRel_undef, GLe.refl _ _ _, s.setObj hb (chg_setObj (.map ((⟨ces⟩ : Array MapEntry).push { key := a.eval k, val := a.eval x, born := c }) (c + 1))) ?_ _, rfl, rfl⟩
            · simp only [hv, Instr.mapUpdate, Sem.run_bind, run_underlying hu, Result.andThen_ok, hgo, hck, hfk]
              exact run_setObj hheap (by intro _ _ _ h; cases h)
            · refine ⟨kt', (⟨ces⟩ : Array MapEntry).push { key := a.eval k, val := a.eval x, born := c } |>.toList, by rw [hid, hP]; exact hkt, by rw [heap_setObj hheap]; simp, ?_⟩
              simp only [Array.toList_push]
              exact EntRel_append her ⟨_, [], rfl, rk0, rx0, rfl, hf, rfl⟩
          | some i =>
            have hi := findPos_lt hp
            rw [hp] at hfk
            obtain ⟨en, hen, rke, _, hbn, hfe⟩ := EntRel_get her (i := i) (k := es[i].1) (v := es[i].2.1) (b := es[i].2.2) (by rw [List.getElem?_eq_getElem hi])
            simp only [Option.bind_some, hen, Option.map_some] at hfk
            have hsame : (k'.ev l).same es[i].1 = true := by
              have : ∀ (es : List (AVal × AVal × Nat)) (i : Nat) (hi : i < es.length), findPos (k'.ev l) es = some i → (k'.ev l).same es[i].1 = true := by
                intro es
                induction es with
                | nil => intro i hi; simp at hi
                | cons e es ih =>
                  obtain ⟨k1, v1, b1⟩ := e
                  intro i hi hp
                  simp only [findPos] at hp
                  split at hp
                  · rename_i hs; injection hp with hp; subst hp; exact hs
                  · cases hq : findPos (k'.ev l) es with
                    | none => rw [hq] at hp; cases hp
                    | some j =>
                      rw [hq] at hp
                      simp only [Option.map_some, Option.some.injEq] at hp
                      subst hp
                      simpa using ih j (by simpa using hi) hq
              exact this es i hi hp
            have hkts := keyThatStays_same hkt hf hfe hsame rk rke w
            have hgetk : (((⟨ces⟩ : Array MapEntry)[i]?).map (·.key)).getD (a.eval k) = en.key := by simp [hen]
            refine ⟨undef, _, g, .inr ⟨hrun _ _ ?_, rfl⟩, VRel_undef, GLe.refl _ _ _, s.setObj hb (chg_setObj (.map ((⟨ces⟩ : Array MapEntry).modify i fun e => { e with key := a.eval k, val := a.eval x }) c)) ?_ _, rfl, rfl⟩
            · simp only [hv, Instr.mapUpdate, Sem.run_bind, run_underlying hu, Result.andThen_ok, hgo, hck, hfk, hgetk, hkts]
              exact run_setObj hheap (by intro _ _ _ h; cases h)
            · refine ⟨kt', ((⟨ces⟩ : Array MapEntry).modify i fun e => { e with key := a.eval k, val := a.eval x }).toList, by rw [hid, hP]; exact hkt, by rw [heap_setObj hheap]; simp, ?_⟩
              have e1 : ((⟨ces⟩ : Array MapEntry).modify i fun e => { e with key := a.eval k, val := a.eval x }).toList = ces.set i { en with key := a.eval k, val := a.eval x } := by
                apply List.ext_getElem?
                intro j
                simp only [Array.getElem?_toList, Array.getElem?_modify, List.getElem?_set]
                by_cases hj : i = j
                · subst hj
                  obtain ⟨hic, hce⟩ := List.getElem?_eq_some_iff.1 hen
                  simp [hic, hce]
                · simp [hj]
              rw [e1]
              have := EntRel_set her i (k := k'.ev l) (v := (x'.ev l).elem) (e := { en with key := a.eval k, val := a.eval x }) rk0 rx0 hf
              simp only [List.getElem?_eq_getElem hi, Option.map_some, Option.getD_some]
              rw [← hbn]
              exact this
        · cases h
      · cases h
    · cases h
  · cases h

end
end Go.Abs
end

/-
  The small form's writing operations are the model's: entries of maps, texts gone through, what is struck out.
-/
section
namespace Go.Abs

theorem BT.set_self {α : Type} (x : α) : ∀ (t : BT α) (i : Nat), t.get i = some x → t.set i x = t
  | .leaf, i, h => by simp [BT.get] at h
  | .node v l r, i, h => by
    rw [BT.get_node] at h
    simp only [BT.set]
    by_cases h0 : i = 0
    · rw [if_pos h0] at h
      rw [beq_true h0, h]; rfl
    · rw [if_neg h0] at h
      rw [beq_false h0]
      by_cases h1 : i % 2 = 1
      · rw [if_pos h1] at h
        rw [beq_true h1, BT.set_self x l _ h]; rfl
      · rw [if_neg h1] at h
        rw [beq_false h1, BT.set_self x r _ h]; rfl

theorem Stk.set_self {α : Type} {s : Stk α} {o : Nat} {x : α} (h : s.get? o = some x) : s.set o x = s := by
  rw [Stk.get?_eq] at h
  rw [Stk.set_eq]
  split at h
  · rename_i ho
    rw [if_pos ho, BT.set_self x s.t o h]
  · cases h

section
variable {P : Program} {C : Cfg} {N : Nat} {ob : Bool} {o : Oper} {g : G} {M : AMem} {hl hl' : HL} {M' : AMem} {w : World} {l : List AVal} {a : Act} {av : AVal}

theorem leafAll_seal : ∀ (ls : List Leaf) (l : List AVal), leafAll ls l = true → sealAll l = l
  | [], l, h => by cases l with | nil => rfl | cons _ _ => simp [leafAll] at h
  | lf :: ls, l, h => by
    cases l with
    | nil => simp [leafAll] at h
    | cons y l =>
      simp only [leafAll, Bool.and_eq_true] at h
      simp only [sealAll, leafAll_seal ls l h.2]
      cases lf <;> cases y <;> simp [Leaf.fits] at h <;> rfl

/-- A key is plain: it asks for no frame. -/
theorem key_seal {t : TypeId} {kt : KeyT} (hk : keyT P t = some kt) {k : AVal} (hf : kt.fits k = true) {v : Value} (r : VRel g M.hw hl k v) : VRel g M.hw Stk.empty k v := by
  obtain ⟨xs, rxs, fx, exk⟩ := fits_cells hk hf r
  have h0 := VRel.sealv Stk.empty r
  have hs : k.sealv = k := by
    have h1 := leafAll_seal _ _ fx
    cases k <;> simp only [AVal.cells, sealAll, List.cons.injEq, and_true] at h1 <;> first
      | exact h1
      | (simp only [AVal.sealv, h1])
  rwa [hs] at h0

theorem findPos_same {k : AVal} : ∀ (es : List (AVal × AVal × Nat)) (i : Nat) (hi : i < es.length), findPos k es = some i → k.same es[i].1 = true
  | [], i, hi, _ => by simp at hi
  | (k1, v1, b1) :: es, i, hi, hp => by
    simp only [findPos] at hp
    split at hp
    · rename_i hs; injection hp with hp; subst hp; exact hs
    · cases hq : findPos k es with
      | none => rw [hq] at hp; cases hp
      | some j =>
        rw [hq] at hp
        simp only [Option.map_some, Option.some.injEq] at hp
        subst hp
        simpa using findPos_same es j (by simpa using hi) hq

theorem modify_set {ces : List MapEntry} {i : Nat} {en : MapEntry} (hen : ces[i]? = some en) (f : MapEntry → MapEntry) : ((⟨ces⟩ : Array MapEntry).modify i f).toList = ces.set i (f en) := by
  apply List.ext_getElem?
  intro j
  simp only [Array.getElem?_toList, Array.getElem?_modify, List.getElem?_set]
  by_cases hj : i = j
  · subst hj
    obtain ⟨hic, hce⟩ := List.getElem?_eq_some_iff.1 hen
    simp [hic, hce]
  · simp [hj]

theorem step_mapent (s : SRel C g M hl w l a.tmps) (hP : g.P = P) (hN : N ≤ a.tmps.size) {t kt e : TypeId} {m k : Operand} (ho : o.op = .mapEntry t m k) {m' k' : Opd}
    (hm : copd C N m = some m') (hk : copd C N k = some k') (hu : P.underlying t = some (.map kt e)) {kt' : KeyT} (hkt : keyT P kt = some kt') {z : AVal} (hz : zeroT P e = some z)
    (h : WriteOp.run M hl (Opd.ev l) (.mapent kt' z m' k') = some (av, hl', M')) : StepOK P C o a g M hl w l av hl' M' := by
  have rm := copd_sound s hN hm
  have rk := copd_sound s hN hk
  obtain ⟨zv, z1, z2⟩ := zeroT_run hz
  obtain ⟨hid, _, _⟩ := keyT_spec hkt
  simp only [WriteOp.run] at h
  split at h
  · rename_i hf
    have hck := checkKey_sound (P := P) hkt rk hf
    split at h
    · rename_i ob ex
      rw [ex] at rm; simp only [VRel] at rm
      obtain ⟨b, hb, hv⟩ := rm
      split at h
      · rename_i t' es c hes
        split at h
        · rename_i ht
          rw [nbeq] at ht; subst ht
          have hes0 := hes
          rw [hid] at hes
          obtain ⟨b', ces, hb', _, hheap, her⟩ := obj_map s.wr hP hes hkt
          rw [hb] at hb'; injection hb' with hb'; subst hb'
          have hfk := findKey_sound (P := P) hkt rk hf her w
          have hgo := run_getObj (P := P) hheap (by intro _ _ _ h; cases h)
          have rk0 := key_seal hkt hf rk
          rw [findEntry_pos, setEntry_pos] at h
          have hrun : ∀ (nc : Array MapEntry) (c' : Nat) (v : Value), (Instr.mapEntry t (a.eval m) (a.eval k)).run P w = .ok v { w with heap := w.heap.setIfInBounds b (.map nc c') } →
              (execOp a.eval o).run P w = .ok (.value v) { w with heap := w.heap.setIfInBounds b (.map nc c') } := by
            intro nc c' v hr
            simp [execOp, ho, hr]
          cases hp : findPos (k'.ev l) es with
          | none =>
            rw [hp] at hfk h
            simp only [Option.bind_none] at hfk h
            simp only [Option.some.injEq, Prod.mk.injEq] at h
            obtain ⟨rfl, rfl, rfl⟩ := h
            refine ⟨.tuple #[zv, goInt c], _, g, .inl (hrun _ _ _ ?_), ?_, GLe.refl _ _ _, s.setObj hb (chg_setObj (.map ((⟨ces⟩ : Array MapEntry).push { key := a.eval k, val := zv, born := c }) (c + 1))) ?_ _, rfl, rfl⟩
            · simp only [hv, Instr.mapEntry, Sem.run_bind, run_underlying hu, Result.andThen_ok, hgo, hck, hfk, z1]
              rw [run_setObj hheap (by intro _ _ _ h; cases h)]
              simp only [Result.andThen_ok, Sem.run_pure]
            · simp only [VRel]
              exact ⟨[zv, goInt c], rfl, VRels_cons (z2 _ _ _) (VRels_cons (by simp only [VRel, goInt]; rfl) VRels_nil)⟩
            · refine ⟨kt', ((⟨ces⟩ : Array MapEntry).push { key := a.eval k, val := zv, born := c }).toList, by rw [hid, hP]; exact hkt, by rw [heap_setObj hheap], ?_⟩
              simp only [Array.toList_push]
              exact EntRel_append her ⟨_, [], rfl, rk0, z2 _ _ _, rfl, hf, rfl⟩
          | some i =>
            have hi := findPos_lt hp
            rw [hp] at hfk h
            obtain ⟨en, hen, rke, rve, hbn, hfe⟩ := EntRel_get her (i := i) (k := es[i].1) (v := es[i].2.1) (b := es[i].2.2) (by rw [List.getElem?_eq_getElem hi])
            simp only [Option.bind_some, hen, Option.map_some] at hfk
            simp only [Option.bind_some, List.getElem?_eq_getElem hi, Option.map_some, Option.some.injEq, Prod.mk.injEq] at h
            obtain ⟨rfl, rfl, rfl⟩ := h
            have hsame := findPos_same es i hi hp
            have hkts := keyThatStays_same hkt hf hfe hsame rk rke w
            have hgetk : (((⟨ces⟩ : Array MapEntry)[i]?).map (·.key)).getD (a.eval k) = en.key := by simp [hen]
            have hgetb : (((⟨ces⟩ : Array MapEntry)[i]?).map (fun x => (x.born : Int))).getD 0 = (en.born : Int) := by simp [hen]
            have hset : M.objs.set ob (.map kt'.id es c) = M.objs := Stk.set_self hes0
            have s2 := s.setObj hb (chg_setObj (w := w) (.map ((⟨ces⟩ : Array MapEntry).modify i fun e => { e with key := a.eval k }) c)) (x := .map kt'.id es c) (by
              refine ⟨kt', ((⟨ces⟩ : Array MapEntry).modify i fun e => { e with key := a.eval k }).toList, by rw [hid, hP]; exact hkt, by rw [heap_setObj hheap], ?_⟩
              rw [modify_set hen]
              have h9 := EntRel_set her i (k := k'.ev l) (v := es[i].2.1) (e := { en with key := a.eval k }) rk0 rve hf
              have h8 : es.set i (k'.ev l, es[i].2.1, en.born) = es := by
                have : k'.ev l = es[i].1 := AVal.same_eq _ _ hsame
                rw [this, hbn]
                exact List.set_getElem_self hi
              rw [show ({ en with key := a.eval k } : MapEntry).born = en.born from rfl, h8] at h9
              exact h9) (markDirty ob M.dirty)
            rw [hset] at s2
            refine ⟨.tuple #[en.val, goInt en.born], _, g, .inl (hrun _ _ _ ?_), ?_, GLe.refl _ _ _, s2, rfl, rfl⟩
            · simp only [hv, Instr.mapEntry, Sem.run_bind, run_underlying hu, Result.andThen_ok, hgo, hck, hfk, hgetk, hkts, hgetb]
              rw [run_setObj hheap (by intro _ _ _ h; cases h)]
              simp only [Result.andThen_ok, Sem.run_pure]
            · simp only [VRel]
              exact ⟨[en.val, goInt en.born], rfl, VRels_cons rve.toFrame (VRels_cons (by simp only [VRel, goInt, hbn]; rfl) VRels_nil)⟩
        · cases h
      · cases h
    · cases h
  · cases h

theorem setBorn_spec {kt : KeyT} {b : Nat} {v : AVal} {u : Value} : ∀ {es es' : List (AVal × AVal × Nat)} {ces : List MapEntry}, setBorn b v es = some es' → EntRel g M.hw kt es ces → VRel g M.hw Stk.empty v u →
    ∃ i e, ces.findIdx? (fun e => (e.born : Int) == (b : Int)) = some i ∧ ces[i]? = some e ∧ EntRel g M.hw kt es' (ces.set i { e with val := u })
  | [], es', ces, h, _, _ => by simp [setBorn] at h
  | (k1, v1, b1) :: es, es', ces, h, her, rv => by
    obtain ⟨e, rest, rfl, h1, h2, h3, h4, h5⟩ := her
    simp only [setBorn] at h
    split at h
    · rename_i hb
      rw [nbeq] at hb
      injection h with h; subst h
      refine ⟨0, e, by simp [List.findIdx?_cons, h3, hb], rfl, ?_⟩
      exact ⟨_, rest, rfl, h1, rv, h3, h4, h5⟩
    · rename_i hb
      cases hs : setBorn b v es with
      | none => rw [hs] at h; cases h
      | some es1 =>
        rw [hs] at h
        simp only [Option.map_some, Option.some.injEq] at h
        subst h
        obtain ⟨i, e', f1, f2, f3⟩ := setBorn_spec hs h5 rv
        have hne : ¬ (e.born : Int) = (b : Int) := fun he => hb ((nbeq _ _).2 (by omega))
        refine ⟨i + 1, e', by simp [List.findIdx?_cons, hne, f1], by simpa using f2, ?_⟩
        exact ⟨e, _, rfl, h1, h2, h3, h4, f3⟩

theorem step_entst (s : SRel C g M hl w l a.tmps) (hN : N ≤ a.tmps.size) {t : TypeId} {m k x : Operand} (ho : o.op = .entryStore t m k x) {m' k' x' : Opd}
    (hm : copd C N m = some m') (hk : copd C N k = some k') (hx : copd C N x = some x')
    (h : WriteOp.run M hl (Opd.ev l) (.entst m' k' x') = some (av, hl', M')) : StepOK P C o a g M hl w l av hl' M' := by
  have rm := copd_sound s hN hm
  have rk := copd_sound s hN hk
  have rx := copd_sound s hN hx
  have rx0 : VRel g M.hw Stk.empty (x'.ev l).elem (a.eval x) := VRel.sealv _ rx
  simp only [WriteOp.run] at h
  split at h
  · rename_i ob kd bn ex ek
    rw [ex] at rm; simp only [VRel] at rm
    rw [ek] at rk; simp only [VRel] at rk
    obtain ⟨b, hb, hv⟩ := rm
    split at h
    · rename_i t' es c hes
      cases hs : setBorn bn (x'.ev l).elem es with
      | none => rw [hs] at h; cases h
      | some es' =>
        rw [hs] at h
        simp only [Option.map_some, Option.some.injEq, Prod.mk.injEq] at h
        obtain ⟨rfl, rfl, rfl⟩ := h
        obtain ⟨b', hb', _, kt, ces, hkt, hheap, her⟩ := s.wr.obj _ _ hes
        rw [hb] at hb'; injection hb' with hb'; subst hb'
        obtain ⟨i, en, f1, f2, f3⟩ := setBorn_spec hs her rx0
        have hgo := run_getObj (P := P) hheap (by intro _ _ _ h; cases h)
        refine ⟨undef, _, g, .inr ⟨?_, rfl⟩, VRel_undef, GLe.refl _ _ _, s.setObj hb (chg_setObj (.map ((⟨ces⟩ : Array MapEntry).modify i fun e => { e with val := a.eval x }) c)) ?_ _, rfl, rfl⟩
        · have hidx : (⟨ces⟩ : Array MapEntry).findIdx? (fun e => (e.born : Int) == Int.ofNat bn) = some i := by
            rw [← f1]; exact List.findIdx?_toArray _ ces
          simp only [execOp, ho, hv, rk, Instr.entryStore, Sem.run_bind, hgo, Result.andThen_ok, asInt, asIntOf, Sem.run_pure, hidx]
          rw [run_setObj hheap (by intro _ _ _ h; cases h)]
          simp only [Result.andThen_ok]
        · refine ⟨kt, ((⟨ces⟩ : Array MapEntry).modify i fun e => { e with val := a.eval x }).toList, hkt, by rw [heap_setObj hheap], ?_⟩
          rw [modify_set f2]
          exact f3
    · cases h
  · cases h

theorem step_delete (s : SRel C g M hl w l a.tmps) (hP : g.P = P) (hN : N ≤ a.tmps.size) {c : Call} (ho : o.op = .call c) (hc : c.callee = .builtin .delete) {t kt e : TypeId} {m k : Operand} (hargs : c.args.toList = [m, k])
    (htys : c.argTypes[0]? = some t) {m' k' : Opd} (hm : copd C N m = some m') (hk : copd C N k = some k') (hu : P.underlying t = some (.map kt e)) {kt' : KeyT} (hkt : keyT P kt = some kt')
    (h : WriteOp.run M hl (Opd.ev l) (.delete kt' m' k') = some (av, hl', M')) : StepOK P C o a g M hl w l av hl' M' := by
  have rm := copd_sound s hN hm
  have rk := copd_sound s hN hk
  have ea := list_arr hargs
  obtain ⟨cs, hex⟩ := run_builtin (a := a) ho hc
  obtain ⟨hid, _, _⟩ := keyT_spec hkt
  have hrun : ∀ w', (Builtin.delete_ c.argTypes o.type #[a.eval m, a.eval k]).run P w = .ok (.tuple #[]) w' → (execOp a.eval o).run P w = .ok (.value (.tuple #[])) w' := by
    intro w' hr
    rw [hex, ea]
    simp only [builtin, List.map_toArray, List.map_cons, List.map_nil, Sem.run_bind, hr, Result.andThen_ok, Sem.run_pure]
  simp only [WriteOp.run] at h
  split at h
  · rename_i hf
    have hck := checkKey_sound (P := P) hkt rk hf
    split at h
    · rename_i ex
      rw [ex] at rm; simp only [VRel] at rm
      simp only [Option.some.injEq, Prod.mk.injEq] at h
      obtain ⟨rfl, rfl, rfl⟩ := h
      refine ⟨.tuple #[], w, g, .inl (hrun _ ?_), by simp only [VRel]; exact ⟨[], rfl, VRels_nil⟩, GLe.refl _ _ _, s, rfl, rfl⟩
      simp [Builtin.delete_, htys, run_underlying hu, rm, hck]
    · rename_i ob ex
      rw [ex] at rm; simp only [VRel] at rm
      obtain ⟨b, hb, hv⟩ := rm
      split at h
      · rename_i t' es c' hes
        split at h
        · rename_i ht
          rw [nbeq] at ht; subst ht
          rw [hid] at hes
          obtain ⟨b', ces, hb', _, hheap, her⟩ := obj_map s.wr hP hes hkt
          rw [hb] at hb'; injection hb' with hb'; subst hb'
          have hfk := findKey_sound (P := P) hkt rk hf her w
          have hgo := run_getObj (P := P) hheap (by intro _ _ _ h; cases h)
          simp only [Option.some.injEq, Prod.mk.injEq] at h
          obtain ⟨rfl, rfl, rfl⟩ := h
          rw [dropEntry_pos]
          cases hp : findPos (k'.ev l) es with
          | none =>
            rw [hp] at hfk
            simp only [Option.bind_none] at hfk
            refine ⟨.tuple #[], _, g, .inl (hrun { w with heap := w.heap.setIfInBounds b (.map ⟨ces⟩ c') } ?_), by simp only [VRel]; exact ⟨[], rfl, VRels_nil⟩, GLe.refl _ _ _, s.setObj hb (chg_setObj _) ?_ _, rfl, rfl⟩
            · simp [Builtin.delete_, htys, run_underlying hu, hv, hgo, hck, hfk, run_setObj hheap (show ∀ c e f, Obj.map ⟨ces⟩ c' ≠ .cells c e f by intro _ _ _ h; cases h)]
            · exact ⟨kt', ces, by rw [hid, hP]; exact hkt, by rw [heap_setObj hheap], her⟩
          | some i =>
            have hi := findPos_lt hp
            rw [hp] at hfk
            obtain ⟨en, hen, _, _, _, _⟩ := EntRel_get her (i := i) (k := es[i].1) (v := es[i].2.1) (b := es[i].2.2) (by rw [List.getElem?_eq_getElem hi])
            simp only [Option.bind_some, hen, Option.map_some] at hfk
            have hi' : i < ces.length := (List.getElem?_eq_some_iff.1 hen).1
            have hE : (⟨ces⟩ : Array MapEntry).eraseIdxIfInBounds i = ⟨ces.eraseIdx i⟩ := by
              simp [Array.eraseIdxIfInBounds, hi']
            refine ⟨.tuple #[], _, g, .inl (hrun { w with heap := w.heap.setIfInBounds b (.map ⟨ces.eraseIdx i⟩ c') } ?_), by simp only [VRel]; exact ⟨[], rfl, VRels_nil⟩, GLe.refl _ _ _, s.setObj hb (chg_setObj _) ?_ _, rfl, rfl⟩
            · simp only [Builtin.delete_, htys, Sem.run_bind, run_underlying hu, Result.andThen_ok, hv, hgo, hck, hfk, hE, List.getElem?_toArray, List.getElem?_cons_zero, List.getElem?_cons_succ]
              simp [run_setObj hheap (show ∀ c e f, Obj.map ⟨ces⟩ c' ≠ .cells c e f by intro _ _ _ h; cases h)]
            · exact ⟨kt', ces.eraseIdx i, by rw [hid, hP]; exact hkt, by rw [heap_setObj hheap], EntRel_erase her i⟩
        · cases h
      · cases h
    · cases h
  · cases h

theorem step_range (s : SRel C g M hl w l a.tmps) (hN : N ≤ a.tmps.size) {t : TypeId} {x : Operand} (ho : o.op = .range t x) {x' : Opd} (hx : copd C N x = some x') (hu : P.underlying t = some .string)
    (h : WriteOp.run M hl (Opd.ev l) (.range x') = some (av, hl', M')) : StepOK P C o a g M hl w l av hl' M' := by
  have rx := copd_sound s hN hx
  simp only [WriteOp.run] at h
  split at h
  · rename_i p ex
    rw [ex] at rx; simp only [VRel] at rx
    obtain ⟨hv, hbs⟩ := rx
    simp only [Option.some.injEq, Prod.mk.injEq] at h
    obtain ⟨rfl, rfl, rfl⟩ := h
    obtain ⟨le, s'⟩ := s.newObj (Ext.push w (.stringIter (bytesV p) 0)) (b := w.heap.size) (Nat.le_refl _) (x := .siter p 0) ⟨by simp, hbs⟩
    refine ⟨.pointer (some ⟨w.heap.size, 0, none⟩), _, _, .inl ?_, ?_, le, s', rfl, rfl⟩
    · simp [execOp, ho, Instr.range, run_underlying hu, hv]
    · simp only [VRel]
      exact ⟨w.heap.size, by simp [G.addObj], rfl⟩
  · cases h

theorem step_next (s : SRel C g M hl w l a.tmps) (hN : N ≤ a.tmps.size) {x : Operand} (ho : o.op = .next x true) {x' : Opd} (hx : copd C N x = some x')
    (h : WriteOp.run M hl (Opd.ev l) (.next x') = some (av, hl', M')) : StepOK P C o a g M hl w l av hl' M' := by
  have rx := copd_sound s hN hx
  simp only [WriteOp.run] at h
  split at h
  · rename_i ob ex
    rw [ex] at rx; simp only [VRel] at rx
    obtain ⟨b, hb, hv⟩ := rx
    split at h
    · rename_i p pos hes
      obtain ⟨b', hb', _, hheap, hbs⟩ := s.wr.obj _ _ hes
      rw [hb] at hb'; injection hb' with hb'; subst hb'
      have hgo := run_getObj (P := P) hheap (by intro _ _ _ h; cases h)
      split at h
      · rename_i hlt
        rw [Nat.blt_eq] at hlt
        simp only [Option.some.injEq, Prod.mk.injEq] at h
        obtain ⟨rfl, rfl, rfl⟩ := h
        have hlt' : pos < (bytesV p).size := by rw [bytesV_size]; exact hlt
        refine ⟨.tuple #[.bool true, goInt pos, .int .i32 (Utf8.decode (bytesV p) pos).1], _, g, .inl (?_ : _ = Result.ok _ { w with heap := w.heap.setIfInBounds b (.stringIter (bytesV p) (pos + (Utf8.decode (bytesV p) pos).2)) }), ?_, GLe.refl _ _ _, s.setObj hb (chg_setObj _) (x := .siter p (pos + (Utf8.decode (bytesV p) pos).2)) ⟨by rw [heap_setObj hheap], hbs⟩ _, rfl, rfl⟩
        · simp only [execOp, ho, hv, Instr.next, Sem.run_bind, hgo, Result.andThen_ok, if_pos hlt', Sem.run_pure]
          rw [run_setObj hheap (by intro _ _ _ h; cases h)]
          simp only [Result.andThen_ok]
        · simp only [VRel]
          exact ⟨_, rfl, VRels_cons (by simp only [VRel]) (VRels_cons (by simp only [VRel, goInt]; rfl) (VRels_cons (by simp only [VRel]; rfl) VRels_nil))⟩
      · rename_i hlt
        rw [Nat.blt_eq] at hlt
        simp only [Option.some.injEq, Prod.mk.injEq] at h
        obtain ⟨rfl, rfl, rfl⟩ := h
        have hlt' : ¬ pos < (bytesV p).size := by rw [bytesV_size]; exact hlt
        refine ⟨.tuple #[.bool false], w, g, .inl ?_, ?_, GLe.refl _ _ _, s, rfl, rfl⟩
        · simp only [execOp, ho, hv, Instr.next, Sem.run_bind, hgo, Result.andThen_ok, if_neg hlt', Sem.run_pure]
        · simp only [VRel]
          exact ⟨_, rfl, VRels_cons (by simp only [VRel]) VRels_nil⟩
    · cases h
  · cases h

end
end Go.Abs
end

/-
  The room behind a slice: it is made, written, grown into.
-/
section
namespace Go.Abs

/-- How far an owner's rows go; true: the frame's. -/
def liveAt (hl : HL) (hw : Stk Nat) : Bool × Nat → Option Nat
  | (true, t) => (hl.get? t).bind id
  | (false, t) => hw.get? t

def tailAt (g : G) : Bool × Nat → Option (Nat × Nat × Nat)
  | (true, t) => g.loc t
  | (false, t) => g.own t

theorem live_loc {hl : HL} {hw : Stk Nat} {t e : Nat} : liveAt hl hw (true, t) = some e ↔ hl.get? t = some (some e) := by
  simp only [liveAt]
  cases hl.get? t with
  | none => simp
  | some x => cases x <;> simp

theorem live_own {hl : HL} {hw : Stk Nat} {t e : Nat} : liveAt hl hw (false, t) = some e ↔ hw.get? t = some e := Iff.rfl

section
variable {C : Cfg} {g g' : G} {M : AMem} {hl hl' : HL} {hw' : Stk Nat} {w w' : World} {l : List AVal} {tmps : Array Value}

theorem SRel.tailOK (s : SRel C g M hl w l tmps) {τ : Bool × Nat} {e : Nat} (h : liveAt hl M.hw τ = some e) : ∃ tb fr to, tailAt g τ = some (tb, fr, to) ∧ TailOK g w tb fr to := by
  obtain ⟨b, t⟩ := τ
  cases b
  · exact s.wr.own t e h
  · exact s.lo.loc t e (live_loc.1 h)

theorem SRel.tailInj (s : SRel C g M hl w l tmps) {τ τ' : Bool × Nat} {e e' b fr to fr' to' : Nat} (h : liveAt hl M.hw τ = some e) (h' : liveAt hl M.hw τ' = some e')
    (ht : tailAt g τ = some (b, fr, to)) (ht' : tailAt g τ' = some (b, fr', to')) : τ = τ' := by
  obtain ⟨x, t⟩ := τ
  obtain ⟨x', t'⟩ := τ'
  cases x <;> cases x'
  · rw [s.wr.ownInj t t' e e' b fr to fr' to' h h' ht ht']
  · exact (s.lo.apart t' t e' e b fr' to' fr to (live_loc.1 h') h ht' ht).elim
  · exact (s.lo.apart t t' e e' b fr to fr' to' (live_loc.1 h) h' ht ht').elim
  · rw [s.lo.inj t t' e e' b fr to fr' to' (live_loc.1 h) (live_loc.1 h') ht ht']

/-- One owner's room changes, in one block that no object is and no other owner has. -/
theorem SRel.tail (s : SRel C g M hl w l tmps) (le : GLe g M.hw hl g' hw' hl') (okL : hl'.ok) (okH : hw'.ok) (hobj : g'.obj = g.obj) (hres : g'.res = g.res) (hw0 : g'.w0 = g.w0) (σ : Bool × Nat) {tb fr to : Nat}
    (others : ∀ τ e, τ ≠ σ → liveAt hl' hw' τ = some e → liveAt hl M.hw τ = some e ∧ tailAt g' τ = tailAt g τ)
    (apart : ∀ τ e fr to, τ ≠ σ → liveAt hl M.hw τ = some e → tailAt g τ ≠ some (tb, fr, to))
    (this : tailAt g' σ = some (tb, fr, to)) (ok : TailOK g' w' tb fr to)
    (size : w.heap.size ≤ w'.heap.size) (block : ∀ b, b < w.heap.size → b ≠ tb → w'.heap[b]? = w.heap[b]?) (os : w'.os = w.os) (tape : w'.tape = w.tape) (output : w'.output = w.output)
    (nobj : ∀ o, g.obj o ≠ some tb) (nres : ¬ g.res tb) (fix : ∀ b i, b ≠ tb → g'.fix b i = g.fix b i)
    (fixed : ∀ i a, g'.fix tb i = some a → ∃ v, w'.cell? ⟨tb, i, none⟩ = some v ∧ VRel g' hw' Stk.empty a v) : SRel C g' { M with hw := hw' } hl' w' l tmps := by
  have hcell : ∀ b i v, b ≠ tb → w.cell? ⟨b, i, none⟩ = some v → w'.cell? ⟨b, i, none⟩ = some v := by
    intro b i v hne hc
    obtain ⟨c, el, f, hb, hi⟩ := cell_heap hc
    exact cell_of ((block b (lt_of_heap hb) hne).trans hb) hi
  have hoat : ∀ b x, b ≠ tb → OAt g M.hw w b x → OAt g' hw' w' b x := by
    intro b x hne ho
    have h1 : OAt g M.hw w' b x := by
      cases x with
      | cells l => obtain ⟨c, el, hb, r⟩ := ho; exact ⟨c, el, (block b (lt_of_heap hb) hne).trans hb, r⟩
      | map t es clock => obtain ⟨kt, ces, hk, hb, r⟩ := ho; exact ⟨kt, ces, hk, (block b (lt_of_heap hb) hne).trans hb, r⟩
      | siter s pos => obtain ⟨hb, r⟩ := ho; exact ⟨(block b (lt_of_heap hb) hne).trans hb, r⟩
    exact h1.mono le.toEmpty
  have tails : ∀ τ e, liveAt hl' hw' τ = some e → ∃ tb fr to, tailAt g' τ = some (tb, fr, to) ∧ TailOK g' w' tb fr to := by
    intro τ e he
    by_cases hτ : τ = σ
    · subst hτ; exact ⟨tb, fr, to, this, ok⟩
    · obtain ⟨h1, h2⟩ := others τ e hτ he
      obtain ⟨tb', fr', to', h3, h4⟩ := s.tailOK h1
      have hne : tb' ≠ tb := fun hh => by subst hh; exact apart τ e _ _ hτ h1 h3
      refine ⟨tb', fr', to', h2.trans h3, by rw [hres]; exact h4.res, by rw [hobj]; exact h4.obj, h4.le, ?_, fun i hi => by rw [fix _ _ hne]; exact h4.fix i hi⟩
      obtain ⟨c, el, lo, hi, hb, r⟩ := h4.there
      exact ⟨c, el, lo, hi, (block _ (lt_of_heap hb) hne).trans hb, r⟩
  have inj : ∀ τ τ' e e' b fr to fr' to', liveAt hl' hw' τ = some e → liveAt hl' hw' τ' = some e' → tailAt g' τ = some (b, fr, to) → tailAt g' τ' = some (b, fr', to') → τ = τ' := by
    intro τ τ' e e' b f1 t1 f2 t2 h h' ht ht'
    by_cases c1 : τ = σ
    · by_cases c2 : τ' = σ
      · rw [c1, c2]
      · subst c1
        obtain ⟨h1, h2⟩ := others τ' e' c2 h'
        rw [this] at ht
        simp only [Option.some.injEq, Prod.mk.injEq] at ht
        obtain ⟨rfl, _, _⟩ := ht
        exact (apart τ' e' _ _ c2 h1 (h2.symm.trans ht')).elim
    · by_cases c2 : τ' = σ
      · subst c2
        obtain ⟨h1, h2⟩ := others τ e c1 h
        rw [this] at ht'
        simp only [Option.some.injEq, Prod.mk.injEq] at ht'
        obtain ⟨rfl, _, _⟩ := ht'
        exact (apart τ e _ _ c1 h1 (h2.symm.trans ht)).elim
      · obtain ⟨h1, h2⟩ := others τ e c1 h
        obtain ⟨h3, h4⟩ := others τ' e' c2 h'
        exact s.tailInj h1 h3 (h2.symm.trans ht) (h4.symm.trans ht')
  refine ⟨?_, ?_, s.t.mono le, fun y v hy => (s.glob y v hy).mono le.toEmpty⟩
  · exact {
      okO := s.wr.okO
      okH := okH
      dom := by rw [hobj]; exact s.wr.dom
      obj := fun o x hx => by
        obtain ⟨b, h1, h2, h3⟩ := s.wr.obj o x hx
        exact ⟨b, by rw [hobj]; exact h1, by rw [hres]; exact h2, hoat b x (fun hh => by subst hh; exact nobj o h1) h3⟩
      inj := by rw [hobj]; exact s.wr.inj
      fix := fun b i a ha => by
        by_cases hb : b = tb
        · subst hb
          exact ⟨by rw [hobj]; exact nobj, fixed i a ha⟩
        · rw [fix b i hb] at ha
          obtain ⟨h1, v, h2, h3⟩ := s.wr.fix b i a ha
          exact ⟨by rw [hobj]; exact h1, v, hcell b i v hb h2, h3.mono le.toEmpty⟩
      own := fun t e he => tails (false, t) e he
      ownInj := fun i j ei ej b f1 t1 f2 t2 hi hj gi gj => by
        have := inj (false, i) (false, j) ei ej b f1 t1 f2 t2 hi hj gi gj
        injection this
      res := fun b hb => by
        rw [hres] at hb
        obtain ⟨h1, h2⟩ := s.wr.res b hb
        have hne : b ≠ tb := fun hh => by subst hh; exact nres hb
        rw [hw0]
        exact ⟨Nat.lt_of_lt_of_le h1 size, (block b h1 hne).trans h2⟩
      size := by rw [hw0]; exact Nat.le_trans s.wr.size size
      os := by rw [hw0]; exact os.trans s.wr.os
      tape := by rw [hw0]; exact tape.trans s.wr.tape
      output := by rw [hw0]; exact output.trans s.wr.output
      lim := fun b i a hb ha => by
        rw [hres] at hb
        have hne : b ≠ tb := fun hh => by subst hh; exact nres hb
        rw [fix b i hne] at ha
        rw [hw0]
        exact s.wr.lim b i a hb ha }
  · exact {
      ok := okL
      loc := fun t e he => tails (true, t) e (live_loc.2 he)
      inj := fun i j ei ej b f1 t1 f2 t2 hi hj gi gj => by
        have := inj (true, i) (true, j) ei ej b f1 t1 f2 t2 (live_loc.2 hi) (live_loc.2 hj) gi gj
        injection this
      apart := fun i j ei ej b f1 t1 f2 t2 hi hj gi gj => by
        have := inj (true, i) (false, j) ei ej b f1 t1 f2 t2 (live_loc.2 hi) hj gi gj
        injection this with h1
        cases h1 }

/-- A ghost whose one owner's room, and whose one block's cells, are other ones. -/
def G.room (g : G) (σ : Bool × Nat) (x : Nat × Nat × Nat) (b from' : Nat) (cells : List AVal) : G :=
  { g with
    fix := fun b' i => if b' = b ∧ from' ≤ i then cells[i - from']? else g.fix b' i
    own := fun t => if (false, t) = σ then some x else g.own t
    loc := fun t => if (true, t) = σ then some x else g.loc t }

theorem G.room_tail (g : G) (σ : Bool × Nat) (x : Nat × Nat × Nat) (b f : Nat) (cells : List AVal) : tailAt (g.room σ x b f cells) σ = some x := by
  obtain ⟨c, t⟩ := σ
  cases c <;> simp [tailAt, G.room]

theorem G.room_other (g : G) {σ τ : Bool × Nat} (h : τ ≠ σ) (x : Nat × Nat × Nat) (b f : Nat) (cells : List AVal) : tailAt (g.room σ x b f cells) τ = tailAt g τ := by
  obtain ⟨c, t⟩ := τ
  cases c <;> simp [tailAt, G.room, h]

end
end Go.Abs
end

/-
  The room behind a slice: a new block of rows, rows laid behind the others.
-/
section
namespace Go.Abs

/-- One owner's rows go farther. -/
structure OwnStep (hl : HL) (hw : Stk Nat) (σ : Bool × Nat) (e' : Nat) (hl' : HL) (hw' : Stk Nat) : Prop where
  okL : hl'.ok
  okH : hw'.ok
  others : ∀ τ e, τ ≠ σ → liveAt hl' hw' τ = some e → liveAt hl hw τ = some e
  live : liveAt hl' hw' σ = some e'
  hwn : hw.n ≤ hw'.n
  hln : hl.n ≤ hl'.n
  own : ∀ t e, t < hw.n → hw'.get? t = some e → ∃ e0, hw.get? t = some e0 ∧ e0 ≤ e ∧ (e0 = e → (false, t) ≠ σ)
  loc : ∀ t e, t < hl.n → hl'.get? t = some (some e) → ∃ e0, hl.get? t = some (some e0) ∧ e0 ≤ e ∧ (e0 = e → (true, t) ≠ σ)
  there : match σ with | (true, t) => t < hl'.n | (false, t) => t < hw'.n

theorem OwnStep.push {hl : HL} {hw : Stk Nat} (h1 : hl.ok) (h2 : hw.ok) (m : Nat) : OwnStep hl hw (true, hl.n) m (hl.push (some m)) hw where
  okL := Stk.ok_push h1 _
  okH := h2
  others τ e hne h := by
    obtain ⟨b, t⟩ := τ
    cases b
    · exact h
    · have ht : t ≠ hl.n := fun hh => hne (by rw [hh])
      rw [live_loc] at h ⊢
      rwa [Stk.get?_push_ne _ ht] at h
  live := by rw [live_loc, Stk.get?_push_self]
  hwn := Nat.le_refl _
  hln := by rw [Stk.n_push]; omega
  own t e _ h := ⟨e, h, Nat.le_refl _, fun _ hh => by injection hh with hh; cases hh⟩
  loc t e ht h := by
    rw [Stk.get?_push_ne _ (by omega)] at h
    exact ⟨e, h, Nat.le_refl _, fun _ hh => by injection hh with _ hh; omega⟩
  there := by simp [Stk.n_push]

theorem OwnStep.setL {hl : HL} {hw : Stk Nat} (h1 : hl.ok) (h2 : hw.ok) {t e e' : Nat} (he : hl.get? t = some (some e)) (hlt : e < e') : OwnStep hl hw (true, t) e' (hl.set t (some e')) hw where
  okL := Stk.ok_set h1 _ _
  okH := h2
  others τ e hne h := by
    obtain ⟨b, t'⟩ := τ
    cases b
    · exact h
    · have ht : t ≠ t' := fun hh => hne (by rw [hh])
      rw [live_loc] at h ⊢
      rwa [Stk.get?_set_ne h1 _ ht] at h
  live := by rw [live_loc, Stk.get?_set_self h1 _ (Stk.get?_lt he)]
  hwn := Nat.le_refl _
  hln := by rw [Stk.n_set]; exact Nat.le_refl _
  own t e _ h := ⟨e, h, Nat.le_refl _, fun _ hh => by injection hh with hh; cases hh⟩
  loc t' e1 ht h := by
    by_cases hh : t = t'
    · subst hh
      rw [Stk.get?_set_self h1 _ (Stk.get?_lt he)] at h
      injection h with h; injection h with h; subst h
      exact ⟨e, he, by omega, fun hq => by omega⟩
    · rw [Stk.get?_set_ne h1 _ hh] at h
      exact ⟨e1, h, Nat.le_refl _, fun _ hq => by injection hq with _ hq; omega⟩
  there := by simp only [Stk.n_set]; exact Stk.get?_lt he

theorem OwnStep.setW {hl : HL} {hw : Stk Nat} (h1 : hl.ok) (h2 : hw.ok) {t e e' : Nat} (he : hw.get? t = some e) (hlt : e < e') : OwnStep hl hw (false, t) e' hl (hw.set t e') where
  okL := h1
  okH := Stk.ok_set h2 _ _
  others τ e hne h := by
    obtain ⟨b, t'⟩ := τ
    cases b
    · have ht : t ≠ t' := fun hh => hne (by rw [hh])
      rw [live_own] at h ⊢
      rwa [Stk.get?_set_ne h2 _ ht] at h
    · exact h
  live := by rw [live_own, Stk.get?_set_self h2 _ (Stk.get?_lt he)]
  hwn := by rw [Stk.n_set]; exact Nat.le_refl _
  hln := Nat.le_refl _
  own t' e1 ht h := by
    by_cases hh : t = t'
    · subst hh
      rw [Stk.get?_set_self h2 _ (Stk.get?_lt he)] at h
      injection h with h; subst h
      exact ⟨e, he, by omega, fun hq => by omega⟩
    · rw [Stk.get?_set_ne h2 _ hh] at h
      exact ⟨e1, h, Nat.le_refl _, fun _ hq => by injection hq with _ hq; omega⟩
  loc t e _ h := ⟨e, h, Nat.le_refl _, fun _ hh => by injection hh with hh; cases hh⟩
  there := by simp only [Stk.n_set]; exact Stk.get?_lt he

section
variable {C : Cfg} {g g' : G} {M : AMem} {hl hl' : HL} {hw' : Stk Nat} {w w' : World} {l : List AVal} {tmps : Array Value} {σ : Bool × Nat} {e' : Nat}

theorem OwnStep.le (st : OwnStep hl M.hw σ e' hl' hw') (x : Nat × Nat × Nat) (b f : Nat) (cells : List AVal) (hf : ∀ i, f ≤ i → g.fix b i = none) : GLe g M.hw hl (g.room σ x b f cells) hw' hl' where
  P := rfl
  obj _ _ h := h
  fix b' i a h := by
    simp only [G.room]
    split
    · rename_i hc
      obtain ⟨rfl, hc⟩ := hc
      rw [hf i hc] at h; cases h
    · exact h
  hwn := st.hwn
  own t e ht h := by
    obtain ⟨e0, h1, h2, h3⟩ := st.own t e ht h
    exact ⟨e0, h1, h2, fun hh => by simp [G.room, h3 hh]⟩
  hln := st.hln
  loc t e ht h := by
    obtain ⟨e0, h1, h2, h3⟩ := st.loc t e ht h
    exact ⟨e0, h1, h2, fun hh => by simp [G.room, h3 hh]⟩

theorem FixAt.room {x : Nat × Nat × Nat} {b f : Nat} {cells : List AVal} : FixAt (g.room σ x b f cells) b f cells := by
  intro j a hj
  simp only [G.room, Nat.le_add_right, and_self, if_true]
  rw [show f + j - f = j by omega]
  exact hj

/-- A new block: rows, and room behind them. -/
theorem SRel.grow (s : SRel C g M hl w l tmps) (st : OwnStep hl M.hw σ e' hl' hw') (h : Ext w w') {b : Nat} (hb : w.heap.size ≤ b) {cs : Array Value} {el : TypeId} (hheap : w'.heap[b]? = some (.cells cs el (0, 0)))
    {cells : List AVal} (hc : ∀ (i : Nat) (a : AVal), cells[i]? = some a → ∃ v, cs[i]? = some v ∧ VRel g M.hw Stk.empty a v) {to : Nat} (h1 : cells.length ≤ to) (h2 : to ≤ cs.size) :
    GLe g M.hw hl (g.room σ (b, cells.length, to) b 0 cells) hw' hl' ∧ SRel C (g.room σ (b, cells.length, to) b 0 cells) { M with hw := hw' } hl' w' l tmps := by
  have hfix : ∀ i, g.fix b i = none := by
    intro i
    cases hf : g.fix b i with
    | none => rfl
    | some a => have := s.wr.fixlt hf; omega
  have le := st.le (g := g) (b, cells.length, to) b 0 cells (fun i _ => hfix i)
  have nobj : ∀ o, g.obj o ≠ some b := fun o ho => by have := s.wr.objlt ho; omega
  have nres : ¬ g.res b := fun hr => by have := (s.wr.res b hr).1; omega
  refine ⟨le, s.tail le st.okL st.okH rfl rfl rfl σ (tb := b) (fr := cells.length) (to := to) (fun τ e hne he => ⟨st.others τ e hne he, G.room_other g hne _ _ _ _⟩) ?_ (G.room_tail g σ _ _ _ _) ?_ h.size (fun b' hlt _ => h.block b' hlt)
    h.os h.tape h.output nobj nres ?_ ?_⟩
  · intro τ e fr to' hne he ht
    obtain ⟨tb, fr', to'', k1, k2⟩ := s.tailOK he
    rw [ht] at k1
    simp only [Option.some.injEq, Prod.mk.injEq] at k1
    obtain ⟨rfl, _, _⟩ := k1
    have := k2.lt; omega
  · refine ⟨nres, nobj, h1, ⟨cs, el, 0, 0, hheap, h2, Nat.zero_le _⟩, fun i hi => ?_⟩
    simp only [G.room, Nat.zero_le, and_self, if_true, Nat.sub_zero]
    exact List.getElem?_eq_none hi
  · intro b' i hne
    simp [G.room, hne]
  · intro i a ha
    simp only [G.room, Nat.zero_le, and_self, if_true, Nat.sub_zero] at ha
    obtain ⟨v, k1, k2⟩ := hc i a ha
    exact ⟨v, cell_of hheap k1, k2.mono le.toEmpty⟩

/-- Rows behind the others. -/
theorem SRel.lay (s : SRel C g M hl w l tmps) (st : OwnStep hl M.hw σ e' hl' hw') {e : Nat} (hlive : liveAt hl M.hw σ = some e) {tb fr to : Nat} (ht : tailAt g σ = some (tb, fr, to)) {P : Program}
    {cells : List AVal} {vs : List Value} (hr : VRels g M.hw Stk.empty cells vs) (hc : allCells cells = true) (hto : fr + cells.length ≤ to) :
    ∃ w', (storeCells ⟨tb, fr, none⟩ vs).run P w = .ok () w' ∧ GLe g M.hw hl (g.room σ (tb, fr + cells.length, to) tb fr cells) hw' hl' ∧
      SRel C (g.room σ (tb, fr + cells.length, to) tb fr cells) { M with hw := hw' } hl' w' l tmps := by
  obtain ⟨tb', fr', to', k1, ok⟩ := s.tailOK hlive
  rw [ht] at k1
  simp only [Option.some.injEq, Prod.mk.injEq] at k1
  obtain ⟨rfl, rfl, rfl⟩ := k1
  obtain ⟨c, el, lo, hi, hheap, hsz, hfz⟩ := ok.there
  have hlen := VRels_length hr
  have hone : ∀ v ∈ vs, v.oneCell' = true := by
    intro v hv
    obtain ⟨j, hj, hjv⟩ := List.getElem_of_mem hv
    obtain ⟨u, hu, ru⟩ := VRels_get hr (List.getElem?_eq_getElem (show j < cells.length by omega))
    rw [List.getElem?_eq_getElem hj] at hu
    injection hu with hu
    rw [← hjv, hu]
    exact isCell_one (allCells_get hc (List.getElem?_eq_getElem _)) ru
  have hst := run_storeCells_atF P tb fr el (lo, hi) vs 0 c w hheap (by simpa using hfz) (by simp; omega) hone
  simp only [Nat.add_zero] at hst
  have le := st.le (g := g) (tb, fr + cells.length, to) tb fr cells ok.fix
  have hheap' := setRow_heap w tb c (c.toList.take fr ++ vs ++ c.toList.drop (fr + vs.length)).toArray el (lo, hi) hheap
  refine ⟨_, hst, le, s.tail le st.okL st.okH rfl rfl rfl σ (tb := tb) (fr := fr + cells.length) (to := to) (fun τ e hne he => ⟨st.others τ e hne he, G.room_other g hne _ _ _ _⟩) ?_ (G.room_tail g σ _ _ _ _) ?_
    (by rw [setRow_size]; exact Nat.le_refl _) (fun b' _ hne => setRow_other _ _ _ _ hne) rfl rfl rfl ok.obj ok.res ?_ ?_⟩
  · intro τ e fr' to' hne he ht'
    exact hne (s.tailInj he hlive ht' ht)
  · refine ⟨ok.res, ok.obj, hto, ⟨_, el, lo, hi, hheap', ?_, by omega⟩, fun i hi => ?_⟩
    · simp; omega
    · simp only [G.room]
      rw [if_pos (by simp; omega)]
      exact List.getElem?_eq_none (by omega)
  · intro b' i hne
    simp [G.room, hne]
  · intro i a ha
    simp only [G.room, true_and] at ha
    split at ha
    · rename_i hi
      obtain ⟨u, hu, ru⟩ := VRels_get hr ha
      have hlt : i - fr < vs.length := (List.getElem?_eq_some_iff.1 hu).1
      refine ⟨u, cell_of hheap' ?_, ru.mono le.toEmpty⟩
      simp only [List.getElem?_toArray]
      have e1 : (c.toList.take fr).length = fr := by simp; omega
      rw [List.append_assoc, List.getElem?_append_right (by omega), e1, List.getElem?_append_left (by omega)]
      exact hu
    · rename_i hi
      obtain ⟨_, v, h2, h3⟩ := s.wr.fix tb i a ha
      refine ⟨v, ?_, h3.mono le.toEmpty⟩
      obtain ⟨c2, el2, f2, hb2, hi2⟩ := cell_heap h2
      rw [hheap] at hb2
      simp only [Option.some.injEq, Obj.cells.injEq] at hb2
      obtain ⟨rfl, _, _⟩ := hb2
      refine cell_of hheap' ?_
      simp only [List.getElem?_toArray]
      have e1 : (c.toList.take fr).length = fr := by simp; omega
      rw [List.append_assoc, List.getElem?_append_left (by omega), List.getElem?_take_of_lt (by omega)]
      simpa using hi2

end
end Go.Abs
end

/-
  The small form's append is the model's.
-/
section
namespace Go.Abs

section
variable {P : Program} {C : Cfg} {N : Nat} {ob : Bool} {o : Oper} {g : G} {M : AMem} {hl hl' : HL} {M' : AMem} {w : World} {l : List AVal} {a : Act} {av : AVal}

theorem chunk_flat {sz : Nat} {n : Nat} {l : List AVal} (h : n * sz ≤ l.length) : (chunk sz n l).flatten = l.take (n * sz) := (chunk_spec n l h).2.2

/-- Rows that stand anywhere: so long, and these cells. -/
theorem rowsF_sound (s : SRel C g M hl w l a.tmps) {x : AVal} {v : Value} (r : VRel g M.hw hl x v) {sz : Nat} {src : List (List AVal)} (h : rowsF M sz x = some src) :
    (∀ w', (Builtin.lenOf v).run P w' = .ok src.length w') ∧ (∀ q ∈ src, q.length = sz) ∧ ∃ vs : List Value, VRels g M.hw Stk.empty src.flatten vs ∧
      ∀ n, n ≤ src.length → ∀ w', (∀ ad u, w.cell? ad = some u → w'.cell? ad = some u) → (Builtin.firstCells sz n v).run P w' = .ok ⟨vs.take (n * sz)⟩ w' := by
  have fin : ∀ (b off len cap : Nat) (cells : List AVal), v = .slice (some ⟨b, off, none⟩) len cap → src.length = len → src.flatten = cells → cells.length = len * sz →
      (∀ (j : Nat) y, cells[j]? = some y → ∃ u, w.cell? ⟨b, off + j, none⟩ = some u ∧ VRel g M.hw Stk.empty y u) →
      (∀ w', (Builtin.lenOf v).run P w' = .ok src.length w') ∧ ∃ vs : List Value, VRels g M.hw Stk.empty src.flatten vs ∧
      ∀ n, n ≤ src.length → ∀ w', (∀ ad u, w.cell? ad = some u → w'.cell? ad = some u) → (Builtin.firstCells sz n v).run P w' = .ok ⟨vs.take (n * sz)⟩ w' := by
    rintro b off len cap cells rfl hlen rfl hcl hc
    obtain ⟨vs, rs, hvs⟩ := cells_run (g := g) (hl := Stk.empty) (w := w) (hw := M.hw) (b := b) (off := off) hc
    have hl := VRels_length rs
    refine ⟨fun w' => by simp [Builtin.lenOf, hlen], vs, rs, fun n hn w' hw' => ?_⟩
    have hmul : n * sz ≤ len * sz := Nat.mul_le_mul_right _ (by omega)
    refine run_firstCells_some w' sz n ⟨b, off, none⟩ len cap (vs.take (n * sz)) (by simp; omega) (fun j u hj => ?_)
    rw [Addr.add_lit]
    refine hw' _ _ (hvs j u ?_)
    rw [List.getElem?_take] at hj
    split at hj
    · exact hj
    · cases hj
  unfold rowsF at h
  split at h
  · injection h with h; subst h
    simp only [VRel] at r; subst r
    exact ⟨fun w' => by simp [Builtin.lenOf], fun q hq => by simp at hq, [], VRels_nil, fun n _ w' _ => by simp [Builtin.firstCells]⟩
  · rename_i sz' rows tok
    split at h
    · rename_i hsz
      rw [nbeq] at hsz; subst hsz
      injection h with h; subst h
      simp only [VRel] at r
      obtain ⟨b, off, cap, hv, h1, h2, h3, hf, _⟩ := r
      obtain ⟨k1, k2⟩ := fin b off rows.length cap rows.flatten hv rfl rfl (len_rows h3) (fix_cells s.wr hf)
      exact ⟨k1, h3, k2⟩
    · cases h
  · rename_i ob i len cap sz'
    split at h
    · rename_i hsz
      rw [nbeq] at hsz; subst hsz
      simp only [VRel] at r
      obtain ⟨b, c, hb, hv, _⟩ := r
      cases hca : cellsAt M ob i (len * sz) with
      | none => rw [hca] at h; cases h
      | some ls =>
        rw [hca] at h
        simp only [Option.map_some, Option.some.injEq] at h
        unfold cellsAt at hca
        split at hca
        · rename_i ls' hls
          split at hca
          · rename_i hle
            rw [Stk.ble_iff] at hle
            injection hca with hca
            rw [takeN_eq, dropN_eq] at hca
            obtain ⟨b', hb', hc⟩ := obj_cells s.wr hls
            rw [hb] at hb'; injection hb' with hb'; subst hb'
            have hlen : ls.length = len * sz := by rw [← hca]; simp; omega
            obtain ⟨c1, c2, c3⟩ := chunk_spec (sz := sz) len ls (by omega)
            rw [h] at c1 c2 c3
            have hfl : src.flatten = ls := by rw [c3]; exact List.take_of_length_le (by omega)
            obtain ⟨k1, k2⟩ := fin b i len c ls hv c1 hfl hlen (fun j y hj => by
              rw [← hca, List.getElem?_take] at hj
              split at hj
              · rw [List.getElem?_drop] at hj
                exact hc (i + j) y hj
              · cases hj)
            exact ⟨k1, c2, k2⟩
          · cases hca
        · cases hca
    · cases h
  · rename_i p
    split at h
    · rename_i hsz
      rw [nbeq] at hsz; subst hsz
      injection h with h; subst h
      simp only [VRel] at r
      obtain ⟨rfl, hbs⟩ := r
      refine ⟨fun w' => by simp [Builtin.lenOf, bytesV_size, rowsOfBytes_length], rowsOfBytes_one p, p.map fun b => .int .u8 (.ofNat b), ?_, fun n hn w' _ => ?_⟩
      · rw [rowsOfBytes_flat]
        refine VRels_of_get (by simp) fun i y hy => ?_
        rw [List.getElem?_map] at hy
        cases hp : p[i]? with
        | none => rw [hp] at hy; cases hy
        | some q =>
          rw [hp] at hy
          simp only [Option.map_some, Option.some.injEq] at hy
          subst hy
          exact ⟨.int .u8 (.ofNat q), by simp [hp], by simp only [VRel]⟩
      · rw [rowsOfBytes_length] at hn
        simp only [Builtin.firstCells, Sem.run_pure, Nat.mul_one]
        congr 1
        apply Array.ext'
        simp only [Array.toList_map]
        have e1 : ((bytesV p).extract 0 n).data.toList = ((p.map UInt8.ofNat).take n) := by
          rw [ByteArray.data_extract]; simp [bytesV]
        rw [e1]
        apply List.ext_getElem?
        intro j
        simp only [List.getElem?_map, List.getElem?_take]
        split
        · cases hp : p[j]? with
          | none => simp
          | some q =>
            have hq : q < 256 := hbs q (List.mem_of_getElem? hp)
            simp [Nat.mod_eq_of_lt hq]
        · rfl
    · cases h
  · cases h

theorem run_append_fit {t u ty e : TypeId} (ht : P.underlying t = some (.slice e)) {d : TypeDesc} (hu : P.underlying u = some d) (hd : ∀ k, d ≠ .int k) {i : TypeInfo} (hi : P.info? e = some i) {x : Value} {n : Nat}
    (hlen : ∀ w', (Builtin.lenOf x).run P w' = .ok n w') {base : Option Addr} {sLen sCap : Nat} (hle : sLen + n ≤ sCap) {vs : List Value} (hfc : (Builtin.firstCells i.size n x).run P w = .ok ⟨vs⟩ w) :
    (Builtin.append_ #[t, u] ty #[.slice base sLen sCap, x]).run P w = match base with
      | none => .ok (.slice none (sLen + n) sCap) w
      | some ad => ((storeCells (ad.add (sLen * i.size)) vs).run P w).andThen fun _ w' => .ok (.slice (some ad) (sLen + n) sCap) w' := by
  cases base with
  | none => simp [Builtin.append_, run_underlying ht, run_underlying hu, sizeOf, typeInfo, hi, hlen, hle, hfc]
  | some ad => simp [Builtin.append_, run_underlying ht, run_underlying hu, sizeOf, typeInfo, hi, hlen, hle, hfc]

theorem run_append_more {t u ty e : TypeId} (ht : P.underlying t = some (.slice e)) {d : TypeDesc} (hu : P.underlying u = some d) (hd : ∀ k, d ≠ .int k) {i : TypeInfo} (hi : P.info? e = some i) {z : Value} (hz : i.zero = some z)
    {x : Value} {n : Nat} (hlen : ∀ w', (Builtin.lenOf x).run P w' = .ok n w') {base : Option Addr} {sLen sCap : Nat} (hgt : sCap < sLen + n) (hb : 0 < i.bytes) (hfit : (sLen + n) * i.bytes ≤ 140737488355328)
    {vs us : List Value} (hfc : (Builtin.firstCells i.size n x).run P w.drew = .ok ⟨vs⟩ w.drew) (hfo : (Builtin.firstCells i.size sLen (.slice base sLen sCap)).run P w.drew = .ok ⟨us⟩ w.drew) :
    (Builtin.append_ #[t, u] ty #[.slice base sLen sCap, x]).run P w =
      .ok (.slice (some ⟨w.heap.size, 0, none⟩) (sLen + n) (grownCap w (sLen + n) sCap e)) (w.drew.alloc (.cells ((⟨us⟩ : Array Value) ++ (⟨vs⟩ : Array Value) ++ Builtin.zeroCells z.cells (grownCap w (sLen + n) sCap e - (sLen + n))) e)) := by
  have hn : ¬ (sLen + n ≤ sCap) := by omega
  have h63' : ¬ (9223372036854775807 < ((sLen : Int) + (n : Int))) := by
    have : sLen + n ≤ (sLen + n) * i.bytes := Nat.le_mul_of_pos_right _ hb
    omega
  have h48' : ¬ (281474976710656 < Builtin.nextslicecap (sLen + n) sCap * i.bytes) := by have := growslice_fits hgt hfit; omega
  have hb0 : ¬ i.bytes = 0 := by omega
  simp [Builtin.append_, run_underlying ht, run_underlying hu, sizeOf, typeInfo, zeroValue, hi, hz, hlen, hn, h63', h48', hb0, Question.forced, hfc, hfo, newRow, grownCap]
  rw [← Array.append_assoc, ← List.append_toArray]

end
end Go.Abs
end

/-
  The small form's append is the model's: the step.
-/
section
namespace Go.Abs

def tokOf : Bool × Nat → Nat → Tok
  | (true, t), e => .loc t e
  | (false, t), e => .own t e

section
variable {P : Program} {C : Cfg} {N : Nat} {ob : Bool} {o : Oper} {g : G} {M : AMem} {hl hl' : HL} {M' : AMem} {w : World} {l : List AVal} {a : Act} {av : AVal}

theorem OwnStep.tok {g' : G} {hw hw' : Stk Nat} {σ : Bool × Nat} {e' : Nat} (st : OwnStep hl hw σ e' hl' hw') {b off sz len cap fr to : Nat} (ht : tailAt g' σ = some (b, fr, to)) (h1 : off + len * sz = fr) (h2 : off + cap * sz = to) :
    TokRel g' hw' hl' (tokOf σ e') b off sz len cap := by
  obtain ⟨c, t⟩ := σ
  have hlive := st.live
  have hthere := st.there
  cases c
  · rw [live_own] at hlive
    refine ⟨hthere, fun e he => ?_, fun _ => ⟨b, fr, to, ht, .inr ⟨rfl, h1, h2⟩⟩⟩
    rw [hlive] at he; injection he with he; omega
  · rw [live_loc] at hlive
    refine ⟨hthere, fun e he => ?_, fun _ => ⟨b, fr, to, ht, .inr ⟨rfl, h1, h2⟩⟩⟩
    rw [hlive] at he; injection he with he; injection he with he; omega

theorem StepOK.dirty {M1 : AMem} {hl1 : HL} (h : StepOK P C o a g M hl w l av hl1 M1) (d : List Nat) : StepOK P C o a g M hl w l av hl1 { M1 with dirty := d } := by
  obtain ⟨v, w', g', h1, h2, h3, h4, h5, h6⟩ := h
  exact ⟨v, w', g', h1, h2, h3, h4.dirty d, h5, h6⟩

theorem FixAt_append {b off : Nat} {x y : List AVal} (h : FixAt g b off x) (k : FixAt g b (off + x.length) y) : FixAt g b off (x ++ y) := by
  intro j c hj
  by_cases hlt : j < x.length
  · rw [List.getElem?_append_left hlt] at hj
    exact h j c hj
  · rw [List.getElem?_append_right (by omega)] at hj
    have := k (j - x.length) c hj
    rwa [show off + x.length + (j - x.length) = off + j by omega] at this

theorem ext_drew_alloc (w : World) (o : Obj) : Ext w (w.drew.alloc o) :=
  ⟨by show w.heap.size ≤ (w.heap.push o).size; simp, fun b hb => by
    show (w.heap.push o)[b]? = _
    rw [Array.getElem?_push, if_neg (by omega)], rfl, rfl, rfl⟩

theorem heap_drew_alloc (w : World) (o : Obj) : (w.drew.alloc o).heap[w.heap.size]? = some o := by
  show (w.heap.push o)[w.heap.size]? = _
  simp

/-- A row that is longer than its room: all anew. -/
theorem append_grow (s : SRel C g M hl w l a.tmps) {t u ty e : TypeId} (ht : P.underlying t = some (.slice e)) {d : TypeDesc} (hu : P.underlying u = some d) (hd : ∀ k, d ≠ .int k) {i : TypeInfo} (hi : P.info? e = some i)
    {z : Value} (hz : i.zero = some z) (hzs : z.cells.size = i.size) (hb : 0 < i.bytes) {x : AVal} {xv : Value} (rx : VRel g M.hw hl x xv) {src : List (List AVal)} (hsrc : rowsF M i.size x = some src)
    {rows : List (List AVal)} {base : Option Addr} {sCap : Nat} (hrows : ∀ r ∈ rows, r.length = i.size) {us : List Value} (hus : VRels g M.hw Stk.empty rows.flatten us)
    (hfo : (Builtin.firstCells i.size rows.length (.slice base rows.length sCap)).run P w.drew = .ok ⟨us⟩ w.drew) (hgt : sCap < rows.length + src.length) (hfit : (rows.length + src.length) * i.bytes ≤ 1099511627776) :
    ∃ cs cap w', (Builtin.append_ #[t, u] ty #[.slice base rows.length sCap, xv]).run P w = .ok (.slice (some ⟨w.heap.size, 0, none⟩) (rows.length + src.length) cap) w' ∧ Ext w w' ∧ w'.heap[w.heap.size]? = some (.cells cs e (0, 0)) ∧
      (∀ (i : Nat) (c : AVal), (rows ++ src).flatten[i]? = some c → ∃ v, cs[i]? = some v ∧ VRel g M.hw Stk.empty c v) ∧ (rows ++ src).flatten.length = (rows.length + src.length) * i.size ∧ rows.length + src.length ≤ cap ∧ cap * i.size ≤ cs.size := by
  obtain ⟨h1, h2, vs, hvs, hfc⟩ := rowsF_sound (P := P) s rx hsrc
  have hl1 : rows.flatten.length = rows.length * i.size := len_rows hrows
  have hl2 : src.flatten.length = src.length * i.size := len_rows h2
  have hvl := VRels_length hvs
  have hul := VRels_length hus
  have hfc' := hfc src.length (Nat.le_refl _) w.drew (fun _ _ h => h)
  rw [List.take_of_length_le (by omega)] at hfc'
  have hrun := run_append_more (w := w) (ty := ty) ht hu hd hi hz h1 hgt hb (by omega) hfc' hfo
  have hcap := grownCap_ge w (rows.length + src.length) sCap e
  have hflen : (rows ++ src).flatten.length = (rows.length + src.length) * i.size := by rw [List.flatten_append, List.length_append, hl1, hl2, Nat.add_mul]
  refine ⟨_, _, _, hrun, ext_drew_alloc _ _, heap_drew_alloc _ _, fun j c hj => ?_, hflen, hcap, ?_⟩
  · rw [List.flatten_append] at hj
    have hlt := (List.getElem?_eq_some_iff.1 hj).1
    obtain ⟨v, hv, rv⟩ := VRels_get (VRels_append hus hvs) hj
    refine ⟨v, ?_, rv⟩
    have hlt' : j < ((⟨us⟩ : Array Value) ++ (⟨vs⟩ : Array Value)).size := by
      simp only [List.length_append] at hlt
      simp only [Array.size_append, List.size_toArray]; omega
    rw [Array.getElem?_append_left hlt', List.append_toArray, List.getElem?_toArray]
    exact hv
  · simp only [Array.size_append, List.size_toArray, size_zeroCells, hzs]
    rw [← hul, ← hvl, hl1, hl2, ← Nat.add_mul, ← Nat.add_mul]
    exact Nat.mul_le_mul_right _ (by omega)

theorem step_append (s : SRel C g M hl w l a.tmps) (hN : N ≤ a.tmps.size) {c : Call} (ho : o.op = .call c) (hc : c.callee = .builtin .append) {t u e : TypeId} {sx x : Operand} (hargs : c.args.toList = [sx, x])
    (htys : c.argTypes.toList = [t, u]) {s' x' : Opd} (hs : copd C N sx = some s') (hx : copd C N x = some x') (ht : P.underlying t = some (.slice e)) {d : TypeDesc} (hu : P.underlying u = some d) (hd : ∀ k, d ≠ .int k)
    {i : TypeInfo} (hi : P.info? e = some i) (h0 : 0 < i.size) (hb : 0 < i.bytes) {zc : List AVal} (hzc : zeroCellsT P e = some zc)
    (h : WriteOp.run M hl (Opd.ev l) (.append ob i.size i.bytes s' x') = some (av, hl', M')) : StepOK P C o a g M hl w l av hl' M' := by
  have rs := copd_sound s hN hs
  have rx := copd_sound s hN hx
  have ea := list_arr hargs
  have et := list_arr htys
  obtain ⟨cs, hex⟩ := run_builtin (a := a) ho hc
  have hrun : ∀ v w', (Builtin.append_ #[t, u] o.type #[a.eval sx, a.eval x]).run P w = .ok v w' → (execOp a.eval o).run P w = .ok (.value v) w' := by
    intro v w' hr
    rw [hex, ea, et]
    simp only [builtin, List.map_toArray, List.map_cons, List.map_nil, Sem.run_bind, hr, Result.andThen_ok, Sem.run_pure]
  -- the zero
  obtain ⟨zv, z1, z2, z3, _⟩ := zeroCellsT_run hzc
  have hz : i.zero = some zv := by
    have := z1 w
    cases hzz : i.zero with
    | none => simp [zeroValue, typeInfo, hi, hzz] at this
    | some z => simp [zeroValue, typeInfo, hi, hzz] at this; rw [this]
  have hzs : zv.cells.size = i.size := by
    have h1 := VRels_length (z2 g M.hw hl)
    have h2 : szT P e = some i.size := by simp [szT, hi]
    rw [h2] at z3; injection z3 with z3
    simp only [Array.length_toList] at h1; omega
  simp only [WriteOp.run] at h
  cases hsrc : rowsF M i.size (x'.ev l) with
  | none => rw [hsrc] at h; cases h
  | some src =>
    rw [hsrc] at h
    delta appendF growF at h
    simp only at h
    obtain ⟨k1, k2, vs, hvs, hfc⟩ := rowsF_sound (P := P) s rx hsrc
    have hl2 : src.flatten.length = src.length * i.size := len_rows k2
    have hvl := VRels_length hvs
    -- a new row, of one owner
    have grown : ∀ (rows : List (List AVal)) (base : Option Addr) (sCap : Nat) (us : List Value) (σ : Bool × Nat) (e' : Nat) (hl1 : HL) (hw1 : Stk Nat), a.eval sx = .slice base rows.length sCap → (∀ r ∈ rows, r.length = i.size) →
        VRels g M.hw Stk.empty rows.flatten us → (Builtin.firstCells i.size rows.length (.slice base rows.length sCap)).run P w.drew = .ok ⟨us⟩ w.drew → sCap < rows.length + src.length →
        (rows.length + src.length) * i.bytes ≤ 1099511627776 → OwnStep hl M.hw σ e' hl1 hw1 → StepOK P C o a g M hl w l (.sl i.size (rows ++ src) (tokOf σ e')) hl1 { M with hw := hw1 } := by
      intro rows base sCap us σ e' hl1 hw1 hv hrows hus hfo hgt hfit st
      obtain ⟨cs, cap, w', q1, q2, q3, q4, q5, q6, q7⟩ := append_grow (ty := o.type) s ht hu hd hi hz hzs hb rx hsrc hrows hus hfo hgt hfit
      have hto : (rows ++ src).flatten.length ≤ cap * i.size := by rw [q5]; exact Nat.mul_le_mul_right _ q6
      obtain ⟨le, s2⟩ := s.grow st q2 (Nat.le_refl _) q3 q4 hto q7
      refine ⟨_, w', _, .inl (hrun _ _ (by rw [hv]; exact q1)), ?_, le, s2, rfl, rfl⟩
      simp only [VRel]
      refine ⟨w.heap.size, 0, cap, by rw [List.length_append], by rw [List.length_append]; exact q6, h0, fun r hr => ?_, FixAt.room, ?_⟩
      · rcases List.mem_append.1 hr with hr | hr
        · exact hrows r hr
        · exact k2 r hr
      · exact st.tok (G.room_tail g σ _ _ _ _) (by rw [List.length_append, q5]; omega) (by omega)
    -- rows behind an owner's others
    have owned : ∀ (rows : List (List AVal)) (σ : Bool × Nat) (e0 : Nat) (hl1 : HL) (hw1 : Stk Nat) (b off cap : Nat), a.eval sx = .slice (some ⟨b, off, none⟩) rows.length cap → rows.length ≤ cap → (∀ r ∈ rows, r.length = i.size) →
        FixAt g b off rows.flatten → liveAt hl M.hw σ = some e0 → TailIs (tailAt g σ) b off i.size rows.length cap → 0 < src.length → (rows.length + src.length) * i.bytes ≤ 1099511627776 → allCells src.flatten = true →
        OwnStep hl M.hw σ (e0 + src.length) hl1 hw1 → ∀ d, StepOK P C o a g M hl w l (.sl i.size (rows ++ src) (tokOf σ (e0 + src.length))) hl1 { M with hw := hw1, dirty := d } := by
      intro rows σ e0 hl1 hw1 b off cap hv hlc hrows hf hlive htail hn hfit hcell st d0
      refine StepOK.dirty (M1 := { M with hw := hw1 }) ?_ d0
      have hl1' : rows.flatten.length = rows.length * i.size := len_rows hrows
      by_cases hroom : rows.length + src.length ≤ cap
      · obtain ⟨tb, fr, to, ht1, ht2⟩ := htail
        rcases ht2 with ⟨h1, _⟩ | ⟨rfl, hfr, hto⟩
        · omega
        · have hto' : fr + src.flatten.length ≤ to := by
            rw [hl2, ← hfr, ← hto, Nat.add_assoc, ← Nat.add_mul]
            exact Nat.add_le_add_left (Nat.mul_le_mul_right _ hroom) _
          obtain ⟨w', q1, le, s2⟩ := s.lay (P := P) st hlive ht1 hvs hcell hto'
          have hfc' := hfc src.length (Nat.le_refl _) w (fun _ _ h => h)
          rw [List.take_of_length_le (by omega)] at hfc'
          have q2 := run_append_fit (w := w) (ty := o.type) ht hu hd hi k1 (base := some ⟨tb, off, none⟩) hroom hfc'
          simp only [Addr.add_lit, hfr, q1, Result.andThen_ok] at q2
          refine ⟨_, w', _, .inl (hrun _ _ (by rw [hv]; exact q2)), ?_, le, s2, rfl, rfl⟩
          simp only [VRel]
          refine ⟨tb, off, cap, by rw [List.length_append], by rw [List.length_append]; exact hroom, h0, fun r hr => ?_, ?_, ?_⟩
          · rcases List.mem_append.1 hr with hr | hr
            · exact hrows r hr
            · exact k2 r hr
          · rw [List.flatten_append]
            refine FixAt_append (hf.mono le.fix) ?_
            rw [hl1', hfr]
            exact FixAt.room
          · refine st.tok (G.room_tail g σ _ _ _ _) ?_ hto
            rw [List.length_append, Nat.add_mul, hl2]; omega
      · obtain ⟨us, rus, hus⟩ := cells_run (g := g) (hl := Stk.empty) (w := w) (hw := M.hw) (b := b) (off := off) (fix_cells s.wr hf)
        have hul := VRels_length rus
        refine grown rows (some ⟨b, off, none⟩) cap us σ _ hl1 hw1 hv hrows rus ?_ (by omega) hfit st
        exact run_firstCells_some w.drew i.size rows.length ⟨b, off, none⟩ rows.length cap us (by omega) (fun j v hj => by rw [Addr.add_lit]; exact hus j v hj)
    -- an object of its own
    have object : ∀ (rows : List (List AVal)) (base : Option Addr) (sCap : Nat) (us : List Value), a.eval sx = .slice base rows.length sCap → (∀ r ∈ rows, r.length = i.size) →
        VRels g M.hw Stk.empty rows.flatten us → (Builtin.firstCells i.size rows.length (.slice base rows.length sCap)).run P w.drew = .ok ⟨us⟩ w.drew → sCap < rows.length + src.length →
        (rows.length + src.length) * i.bytes ≤ 1099511627776 → allCells (rows ++ src).flatten = true →
        StepOK P C o a g M hl w l (.os M.objs.n 0 (rows.length + src.length) none i.size) hl { M with objs := M.objs.push (.cells (rows ++ src).flatten) } := by
      intro rows base sCap us hv hrows hus hfo hgt hfit hcell
      obtain ⟨cs, cap, w', q1, q2, q3, q4, q5, q6, q7⟩ := append_grow (ty := o.type) s ht hu hd hi hz hzs hb rx hsrc hrows hus hfo hgt hfit
      have hle : (rows ++ src).flatten.length ≤ cs.size := by
        rw [q5]; exact Nat.le_trans (Nat.mul_le_mul_right _ q6) q7
      obtain ⟨le, s2⟩ := s.newObj q2 (Nat.le_refl _) (x := .cells (rows ++ src).flatten) ⟨cs, e, q3, hle, fun j c hj => ⟨allCells_get hcell hj, q4 j c hj⟩⟩
      refine ⟨_, w', _, .inl (hrun _ _ (by rw [hv]; exact q1)), ?_, le, s2, rfl, rfl⟩
      simp only [VRel]
      exact ⟨w.heap.size, cap, by simp [G.addObj], rfl, q6, fun _ h => by cases h⟩
    have nil_us : a.eval sx = .slice none 0 0 → (Builtin.firstCells i.size ([] : List (List AVal)).length (.slice none ([] : List (List AVal)).length 0)).run P w.drew = .ok (⟨[]⟩ : Array Value) w.drew := fun _ => by simp [Builtin.firstCells]
    have push := OwnStep.push (hl := hl) (hw := M.hw) s.lo.ok s.wr.okH
    split at h
    · rename_i hn
      simp only [Bool.and_eq_true, nbeq, Bool.not_eq_true'] at hn
      obtain ⟨hn, _⟩ := hn
      have hfc' := hfc 0 (Nat.zero_le _) w (fun _ _ h => h)
      rw [Nat.zero_mul, List.take_zero, ← hn] at hfc'
      split at h
      · rename_i ex
        simp only [Option.some.injEq, Prod.mk.injEq] at h
        obtain ⟨rfl, rfl, rfl⟩ := h
        rw [ex] at rs; simp only [VRel] at rs
        have q2 := run_append_fit (w := w) (ty := o.type) ht hu hd hi k1 (base := none) (sLen := 0) (sCap := 0) (by omega) hfc'
        exact .same s (hrun _ _ (by rw [rs]; simpa [hn] using q2)) (by simp only [VRel])
      · rename_i sz' rows tok ex
        split at h
        · rename_i hsz
          rw [nbeq] at hsz; subst hsz
          simp only [Option.some.injEq, Prod.mk.injEq] at h
          obtain ⟨rfl, rfl, rfl⟩ := h
          rw [ex] at rs
          have rs' := rs
          simp only [VRel] at rs
          obtain ⟨b, off, cap, hv, r1, _, r3, hf, _⟩ := rs
          have q2 := run_append_fit (w := w) (ty := o.type) ht hu hd hi k1 (base := some ⟨b, off, none⟩) (sLen := rows.length) (sCap := cap) (by omega) hfc'
          refine .same s (v := a.eval sx) (hrun _ _ ?_) rs'
          rw [hv]
          refine q2.trans ?_
          simp [storeCells, hn]
        · cases h
      · cases h
    · rename_i hn
      split at h
      · rename_i ex
        rw [ex] at rs; simp only [VRel] at rs
        split at h
        · rename_i hfit
          rw [Stk.ble_iff] at hfit
          split at h
          · split at h
            · cases h
            · rename_i hcc
              simp only [Bool.or_eq_true, nbeq, Bool.not_eq_true', not_or, Bool.not_eq_false] at hcc
              simp only [Option.some.injEq, Prod.mk.injEq] at h
              obtain ⟨rfl, rfl, rfl⟩ := h
              exact object [] none 0 [] rs (fun r hr => by simp at hr) VRels_nil (nil_us rs) (by simp; omega) hfit hcc.2
          · rename_i hob
            simp only [Option.some.injEq, Prod.mk.injEq] at h
            obtain ⟨rfl, rfl, rfl⟩ := h
            have hn' : 0 < src.length := by
              simp only [hob, Bool.and_eq_true, nbeq] at hn
              simp at hn
              exact List.length_pos_iff.2 (by simpa using hn)
            exact grown [] none 0 [] (true, hl.n) _ _ _ rs (fun r hr => by simp at hr) VRels_nil (nil_us rs) (by simp; omega) hfit (push _)
        · cases h
      · rename_i sz' rows tok ex
        split at h
        · rename_i hsz
          rw [nbeq] at hsz; subst hsz
          rw [ex] at rs
          simp only [VRel] at rs
          obtain ⟨b, off, cap, hv, r1, _, r3, hf, htok⟩ := rs
          have hl1' : rows.flatten.length = rows.length * i.size := len_rows r3
          obtain ⟨us, rus, hus⟩ := cells_run (g := g) (hl := Stk.empty) (w := w) (hw := M.hw) (b := b) (off := off) (fix_cells s.wr hf)
          have hul := VRels_length rus
          have hfo := run_firstCells_some (P := P) w.drew i.size rows.length ⟨b, off, none⟩ rows.length cap us (by omega) (fun j v hj => by rw [Addr.add_lit]; exact hus j v hj)
          split at h
          · split at h
            · simp only [TokRel] at htok
              split at h
              · rename_i hfit
                rw [Stk.ble_iff] at hfit
                split at h
                · cases h
                · rename_i hcc
                  simp only [Bool.or_eq_true, nbeq, Bool.not_eq_true', not_or, Bool.not_eq_false] at hcc
                  simp only [Option.some.injEq, Prod.mk.injEq] at h
                  obtain ⟨rfl, rfl, rfl⟩ := h
                  exact object rows _ cap us hv r3 rus hfo (by omega) hfit hcc.2
              · cases h
            · cases h
          · rename_i hob
            have hn' : 0 < src.length := by
              simp only [hob, Bool.and_eq_true, nbeq] at hn
              simp at hn
              exact List.length_pos_iff.2 (by simpa using hn)
            split at h
            · simp only [TokRel] at htok
              split at h
              · rename_i hfit
                rw [Stk.ble_iff] at hfit
                simp only [Option.some.injEq, Prod.mk.injEq] at h
                obtain ⟨rfl, rfl, rfl⟩ := h
                exact grown rows _ cap us (true, hl.n) _ _ _ hv r3 rus hfo (by omega) hfit (push _)
              · cases h
            · rename_i tt te
              split at h
              · rename_i te' hget
                split at h
                · rename_i hcc
                  simp only [Bool.and_eq_true, nbeq, Stk.ble_iff] at hcc
                  obtain ⟨⟨rfl, hfit⟩, hcell⟩ := hcc
                  simp only [Option.some.injEq, Prod.mk.injEq] at h
                  obtain ⟨rfl, rfl, rfl⟩ := h
                  exact owned rows (true, tt) te _ _ b off cap hv r1 r3 hf (live_loc.2 hget) (htok.2.2 hget) hn' hfit hcell (OwnStep.setL s.lo.ok s.wr.okH hget (by omega)) M.dirty
                · cases h
              · cases h
            · rename_i tt te
              split at h
              · rename_i te' hget
                split at h
                · rename_i hcc
                  simp only [Bool.and_eq_true, nbeq, Stk.ble_iff] at hcc
                  obtain ⟨⟨rfl, hfit⟩, hcell⟩ := hcc
                  simp only [Option.some.injEq, Prod.mk.injEq] at h
                  obtain ⟨rfl, rfl, rfl⟩ := h
                  exact owned rows (false, tt) te _ _ b off cap hv r1 r3 hf hget (htok.2.2 hget) hn' hfit hcell (OwnStep.setW s.lo.ok s.wr.okH hget (by omega)) (markOwn tt M.dirty)
                · cases h
              · cases h
            · cases h
        · cases h
      · cases h

end
end Go.Abs
end

/-
  The small form's writing operations are the model's: copies, slices made.
-/
section
namespace Go.Abs

theorem allCells_take : ∀ (n : Nat) {l : List AVal}, allCells l = true → allCells (l.take n) = true
  | 0, _, _ => by simp [allCells]
  | n + 1, [], _ => by simp [allCells]
  | n + 1, a :: l, h => by
    simp only [allCells, Bool.and_eq_true] at h
    simp only [List.take_succ_cons, allCells, Bool.and_eq_true]
    exact ⟨h.1, allCells_take n h.2⟩

theorem allCells_append : ∀ {l m : List AVal}, allCells l = true → allCells m = true → allCells (l ++ m) = true
  | [], m, _, h => h
  | a :: l, m, h, k => by
    simp only [allCells, Bool.and_eq_true] at h
    simp only [List.cons_append, allCells, Bool.and_eq_true]
    exact ⟨h.1, allCells_append h.2 k⟩

theorem allCells_rep {z : List AVal} (h : allCells z = true) : ∀ n, allCells (rep z n) = true
  | 0 => rfl
  | n + 1 => allCells_append h (allCells_rep h n)

section
variable {P : Program} {C : Cfg} {N : Nat} {ob : Bool} {o : Oper} {g : G} {M : AMem} {hl hl' : HL} {M' : AMem} {w : World} {l : List AVal} {a : Act} {av : AVal}

theorem step_copy (s : SRel C g M hl w l a.tmps) (hN : N ≤ a.tmps.size) {c : Call} (ho : o.op = .call c) (hc : c.callee = .builtin .copy) {t e : TypeId} {tys : List TypeId} {dx x : Operand} (hargs : c.args.toList = [dx, x])
    (htys : c.argTypes.toList = t :: tys) {d' x' : Opd} (hd : copd C N dx = some d') (hx : copd C N x = some x') (ht : P.underlying t = some (.slice e)) {sz : Nat} (hsz : szT P e = some sz)
    (h : WriteOp.run M hl (Opd.ev l) (.copy sz d' x') = some (av, hl', M')) : StepOK P C o a g M hl w l av hl' M' := by
  have rd := copd_sound s hN hd
  have rx := copd_sound s hN hx
  have ea := list_arr hargs
  have et := list_arr htys
  obtain ⟨cs, hex⟩ := run_builtin (a := a) ho hc
  have hrun : ∀ v w', (Builtin.copy_ c.argTypes o.type #[a.eval dx, a.eval x]).run P w = .ok v w' → (execOp a.eval o).run P w = .ok (.value v) w' := by
    intro v w' hr
    rw [hex, ea]
    simp only [builtin, List.map_toArray, List.map_cons, List.map_nil, Sem.run_bind, hr, Result.andThen_ok, Sem.run_pure]
  have h0 : c.argTypes[0]? = some t := by rw [et]; simp
  simp only [WriteOp.run] at h
  split at h
  · rename_i src ob i len cap sz' hsrc ex
    obtain ⟨k1, k2, vs, hvs, hfc⟩ := rowsF_sound (P := P) s rx hsrc
    have hl2 : src.flatten.length = src.length * sz := len_rows k2
    have hvl := VRels_length hvs
    rw [ex] at rd; simp only [VRel] at rd
    obtain ⟨b, cp, hb, hv, hle, _⟩ := rd
    split at h
    · rename_i hcc
      simp only [Bool.and_eq_true, nbeq] at hcc
      obtain ⟨rfl, hcell⟩ := hcc
      split at h
      · rename_i ls hls
        rw [takeN_eq] at h
        cases hov : overlay ls i (src.take (Nat.min src.length len)).flatten with
        | none => rw [hov] at h; cases h
        | some ls' =>
          rw [hov] at h
          simp only [Option.map_some, Option.some.injEq, Prod.mk.injEq] at h
          obtain ⟨rfl, rfl, rfl⟩ := h
          obtain ⟨b', hb', _, hoat⟩ := s.wr.obj _ _ hls
          rw [hb] at hb'; injection hb' with hb'; subst hb'
          have hfl : (src.take (Nat.min src.length len)).flatten = src.flatten.take (Nat.min src.length len * sz) := flatten_take _ _ k2
          have hr : VRels g M.hw Stk.empty (src.take (Nat.min src.length len)).flatten (vs.take (Nat.min src.length len * sz)) := by rw [hfl]; exact VRels_take _ hvs
          obtain ⟨w', w1, w2, w3⟩ := obj_store (P := P) hoat hov (vs := (⟨vs.take (Nat.min src.length len * sz)⟩ : Array Value)) hr (by rw [hfl]; exact allCells_take _ hcell)
          refine ⟨goInt (Nat.min src.length len), w', g, .inl (hrun _ _ ?_), by simp only [VRel, goInt]; rfl, GLe.refl _ _ _, s.setObj hb w2 w3 _, rfl, rfl⟩
          have hf := hfc (Nat.min src.length len) (Nat.min_le_left _ _) w (fun _ _ h => h)
          simp [Builtin.copy_, h0, run_underlying ht, hv, k1, szT_run hsz, hf, w1]
      · cases h
    · cases h
  · rename_i src hsrc ex
    obtain ⟨k1, k2, vs, hvs, hfc⟩ := rowsF_sound (P := P) s rx hsrc
    rw [ex] at rd; simp only [VRel] at rd
    simp only [Option.some.injEq, Prod.mk.injEq] at h
    obtain ⟨rfl, rfl, rfl⟩ := h
    refine .same s (v := goInt 0) (hrun _ _ ?_) (by simp only [VRel, goInt])
    have hf := hfc 0 (Nat.zero_le _) w (fun _ _ h => h)
    simp [Builtin.copy_, h0, run_underlying ht, rd, k1, szT_run hsz, hf]
  · cases h

theorem step_mksl (s : SRel C g M hl w l a.tmps) (hN : N ≤ a.tmps.size) {t e : TypeId} {x y : Operand} (ho : o.op = .makeSlice t x y) {x' y' : Opd} (hx : copd C N x = some x') (hy : copd C N y = some y')
    (ht : P.underlying t = some (.slice e)) {i : TypeInfo} (hi : P.info? e = some i) {z : List AVal} (hz : zeroCellsT P e = some z)
    (h : WriteOp.run M hl (Opd.ev l) (.mksl i.size i.bytes z x' y') = some (av, hl', M')) : StepOK P C o a g M hl w l av hl' M' := by
  have rx := copd_sound s hN hx
  have ry := copd_sound s hN hy
  obtain ⟨zv, z1, z2, z3, z4⟩ := zeroCellsT_run hz
  have hzz : i.zero = some zv := by
    have := z1 w
    cases hq : i.zero with
    | none => simp [zeroValue, typeInfo, hi, hq] at this
    | some z => simp [zeroValue, typeInfo, hi, hq] at this; rw [this]
  have nat_of : ∀ {v : AVal} {n : Nat} {u : Value}, natOf v = some n → VRel g M.hw hl v u → ∃ k, u = .int k (.ofNat n) := by
    intro v n u h r
    unfold natOf at h
    split at h
    · rename_i k m
      injection h with h; subst h
      simp only [VRel] at r
      exact ⟨k, r⟩
    · cases h
  simp only [WriteOp.run] at h
  split at h
  · rename_i n c hn hc
    split at h
    · rename_i hcc
      simp only [Bool.and_eq_true, Stk.ble_iff, nbeq] at hcc
      obtain ⟨⟨⟨⟨h1, h2⟩, h3⟩, h4⟩, h5⟩ := hcc
      simp only [Option.some.injEq, Prod.mk.injEq] at h
      obtain ⟨rfl, rfl, rfl⟩ := h
      obtain ⟨kx, hvx⟩ := nat_of hn rx
      obtain ⟨ky, hvy⟩ := nat_of hc ry
      have hb : (i.bytes : Int) * (Int.ofNat c) ≤ 281474976710656 := by
        have : (i.bytes : Int) * (Int.ofNat c) = ((c * i.bytes : Nat) : Int) := by
          rw [Int.natCast_mul, Int.mul_comm]; rfl
        rw [this]; omega
      have hm := run_make (P := P) w t e i zv ht hi hzz kx ky (.ofNat n) (.ofNat c) (by simp) (by simpa using h1) hb (by simp; omega)
      have hr := rep_rel (g := g) (hw := M.hw) (hl := Stk.empty) (z2 g M.hw Stk.empty) c
      rw [h5] at hr
      have hzs : zv.cells.size = i.size := by
        have h1 := VRels_length (z2 g M.hw hl)
        simp only [Array.length_toList] at h1; omega
      obtain ⟨le, s'⟩ := s.newObj (Ext.push w (.cells (madeCells zv.cells (c * i.size)) e)) (b := w.heap.size) (Nat.le_refl _) (x := .cells (rep z c)) (cells_obj (by simpa only [madeCells, hzs] using hr) (allCells_rep h4 c) e w)
      refine ⟨.slice (some ⟨w.heap.size, 0, none⟩) n c, _, _, .inl ?_, ?_, le, s', rfl, rfl⟩
      · simp only [execOp, ho, hvx, hvy, Sem.run_bind, hm, Result.andThen_ok, Sem.run_pure]
        rfl
      · simp only [VRel]
        exact ⟨w.heap.size, c, by simp [G.addObj], rfl, h1, fun c' hc' => by injection hc'⟩
    · cases h
  · cases h

theorem run_append_zeros {t u ty e : TypeId} (ht : P.underlying t = some (.slice e)) {k : IntKind} (hu : P.underlying u = some (.int k)) {i : TypeInfo} (hi : P.info? e = some i) {z : Value} (hz : i.zero = some z) {k' : IntKind} {n : Nat}
    (hn : 0 < n) (h0 : 0 < i.size) (hb : 0 < i.bytes) (hfit : n * i.bytes ≤ 1099511627776) :
    (Builtin.append_ #[t, u] ty #[.slice none 0 0, .int k' (Int.ofNat n)]).run P w =
      .ok (.slice (some ⟨w.heap.size, 0, none⟩) n (grownCap w n 0 e)) (w.drew.alloc (.cells (Builtin.zeroCells z.cells n ++ Builtin.zeroCells z.cells (grownCap w n 0 e - n)) e)) := by
  have hle : n ≤ n * i.bytes := Nat.le_mul_of_pos_right _ hb
  have hwrap : IntKind.i64.wrap (n : Int) = (n : Int) := IntWalk.i64_in _ (by omega)
  have hn0 : ¬ n = 0 := by omega
  have h63 : ¬ (9223372036854775807 < (n : Int)) := by omega
  have h48 : ¬ (281474976710656 < Builtin.nextslicecap n 0 * i.bytes) := by
    have := growslice_fits (need := n) (old := 0) (bytes := i.bytes) hn (by omega); omega
  have hneg : ¬ ((n : Int) < 0) := by omega
  have hmax : max (n : Int) 0 = (n : Int) := by omega
  have hb0 : ¬ i.bytes = 0 := by omega
  have h48' : ¬ ((281474976710656 : Int) < (n : Int) * (i.bytes : Int)) := by
    have : ((n * i.bytes : Nat) : Int) = (n : Int) * (i.bytes : Int) := by push_cast; rfl
    omega
  simp [Builtin.append_, run_underlying ht, run_underlying hu, sizeOf, typeInfo, zeroValue, hi, hz, hn0, hwrap, asInt, asIntOf, hneg, hmax, h63, h48, h48', hb0, Question.forced, newRow, grownCap, Builtin.firstCells]
  intro hh
  exact absurd hh (Nat.ne_of_gt (Nat.mul_pos hn h0))

theorem step_growz (s : SRel C g M hl w l a.tmps) (hN : N ≤ a.tmps.size) {c : Call} (ho : o.op = .call c) (hc : c.callee = .builtin .append) {t u e : TypeId} {sx x : Operand} (hargs : c.args.toList = [sx, x])
    (htys : c.argTypes.toList = [t, u]) {s' x' : Opd} (hs : copd C N sx = some s') (hx : copd C N x = some x') (ht : P.underlying t = some (.slice e)) {k : IntKind} (hu : P.underlying u = some (.int k))
    {i : TypeInfo} (hi : P.info? e = some i) (h0 : 0 < i.size) (hb : 0 < i.bytes) {zc : List AVal} (hzc : zeroCellsT P e = some zc)
    (h : WriteOp.run M hl (Opd.ev l) (.growz i.size i.bytes s' x') = some (av, hl', M')) : StepOK P C o a g M hl w l av hl' M' := by
  have rs := copd_sound s hN hs
  have rx := copd_sound s hN hx
  have ea := list_arr hargs
  have et := list_arr htys
  obtain ⟨cs, hex⟩ := run_builtin (a := a) ho hc
  obtain ⟨zv, z1, z2, z3, _⟩ := zeroCellsT_run hzc
  have hz : i.zero = some zv := by
    have := z1 w
    cases hzz : i.zero with
    | none => simp [zeroValue, typeInfo, hi, hzz] at this
    | some z => simp [zeroValue, typeInfo, hi, hzz] at this; rw [this]
  have hzs : zv.cells.size = i.size := by
    have h1 := VRels_length (z2 g M.hw hl)
    have h2 : szT P e = some i.size := by simp [szT, hi]
    rw [h2] at z3; injection z3 with z3
    simp only [Array.length_toList] at h1; omega
  simp only [WriteOp.run] at h
  split at h
  · rename_i n es en
    split at h
    · rename_i hcc
      rw [Bool.and_eq_true, Nat.blt_eq, Stk.ble_iff] at hcc
      obtain ⟨hn, hfit⟩ := hcc
      simp only [Option.some.injEq, Prod.mk.injEq] at h
      obtain ⟨rfl, rfl, rfl⟩ := h
      rw [es] at rs; simp only [VRel] at rs
      obtain ⟨k', hk'⟩ := natOf_some en
      rw [hk'] at rx; simp only [VRel] at rx
      have hrun := run_append_zeros (w := w) (ty := o.type) ht hu hi hz (k' := k') hn h0 hb hfit
      have hcap := grownCap_ge w n 0 e
      have st := OwnStep.push (hl := hl) (hw := M.hw) s.lo.ok s.wr.okH 0
      have hsz : grownCap w n 0 e * i.size ≤ (Builtin.zeroCells zv.cells n ++ Builtin.zeroCells zv.cells (grownCap w n 0 e - n)).size := by
        simp only [Array.size_append, size_zeroCells, hzs, ← Nat.add_mul]
        exact Nat.mul_le_mul_right _ (by omega)
      obtain ⟨le, s2⟩ := s.grow st (ext_drew_alloc w (.cells (Builtin.zeroCells zv.cells n ++ Builtin.zeroCells zv.cells (grownCap w n 0 e - n)) e)) (Nat.le_refl _) (heap_drew_alloc w _) (cells := []) (fun i a ha => by simp at ha) (Nat.zero_le _) hsz
      refine ⟨.slice (some ⟨w.heap.size, 0, none⟩) n (grownCap w n 0 e), _, _, .inl ?_, ?_, le, s2, rfl, rfl⟩
      · rw [hex, ea, et]
        simp only [builtin, List.map_toArray, List.map_cons, List.map_nil, Sem.run_bind, rs, rx, hrun, Result.andThen_ok, Sem.run_pure]
      · simp only [VRel]
        exact ⟨w.heap.size, 0, grownCap w n 0 e, rfl, hcap, h0, st.tok (G.room_tail g (true, hl.n) _ _ _ _) (by simp) (by simp)⟩
    · cases h
  · cases h

end
end Go.Abs
end
