/-
  The seat's program: its tables, its functions in the small form.
-/
import Derived.Test.YtecfmifgcebifaaGreatDoorAbsD
import Derived.Test.YtecfmifgcebifaaGreatDoorProg
import Derived.KernelRfl
namespace Go.Proofs.YtecfmifgcebifaaGreatDoor
open Go Go.Abs

def cfg : Cfg where
  glob _ := none
  ob f := Nat.beq f 89 || Nat.beq f 98 || Nat.beq f 138 || Nat.beq f 139 || Nat.beq f 23
  keep f := Nat.beq f 107

def prims (f : Nat) : Option (List AVal → AMem → Option (AVal × AMem)) := if Nat.beq f 232 then some primIndexByte else none

set_option maxRecDepth 100000 in
theorem prims_ok (f : Nat) (run : List AVal → AMem → Option (AVal × AMem)) (h : prims f = some run) : FOK Tryz.prog cfg f run := by
  unfold prims at h
  split at h
  · rename_i hf
    rw [nbeq] at hf; subst hf
    simp only [Option.some.injEq] at h
    subst h
    exact fok_indexByte (fn := Tryz.f232) Tryz.func232 (by kernel_rfl) (by kernel_rfl) (by kernel_rfl) (by kernel_rfl)
  · cases h

theorem prims_tame (f : Nat) (run : List AVal → AMem → Option (AVal × AMem)) (h : prims f = some run) : ∀ args M r, run args M = some r → Tame M r.2 := by
  unfold prims at h
  split at h
  · simp only [Option.some.injEq] at h
    subst h
    intro args M r hr
    unfold primIndexByte at hr
    split at hr
    · split at hr
      · simp only [Option.some.injEq] at hr
        subst hr
        exact Tame.refl M
      · cases hr
    · cases hr
  · cases h

theorem order_ok : Tryz.prog.follows .mixedOrders = true := by kernel_rfl

theorem names_ok (f : Nat) (fn : Func) (h : Tryz.prog.funcs[f]? = some fn) : (fn.name == "runtime.NumGoroutine") = false := by
  have hall : (Tryz.prog.funcs.toList.all fun fn => !(fn.name == "runtime.NumGoroutine")) = true := by kernel_rfl
  rw [List.all_eq_true] at hall
  have := hall fn (by rw [← Array.getElem?_toList] at h; exact List.mem_of_getElem? h)
  simpa using this

end Go.Proofs.YtecfmifgcebifaaGreatDoor
