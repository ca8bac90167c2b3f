/-
  A scope in which the run jumps forward, to one label, once; and small laws on memory for walks.
-/
import Derived.Test.YtodfgcbgiaboiaaDoorMem8
import Derived.Scope
import Derived.WalkMore
namespace Go.Proofs.YtodfgcbgiaboiaaDoor
open Go Go.RowKit
namespace Mem

theorem vsome {W : World} {a : Addr} {v : Value} (h : W.cell? a = some v) : W.cell? a = some (val W a) := vof (by rw [h]; rfl)

/-- As Q; by a goto to label l: what stands behind the label goes through without a goto. -/
def once (P : Program) (l : Nat) (rest : Code) (Q : Exit → Act → World → Prop) : Exit → Act → World → Prop
  | .goto l', a, w => l' = l ∧ rest.wp P (Exit.noGoto Q) a w
  | e, a, w => Q e a w

section
variable {P : Program} {a : Act} {w : World} {Q : Exit → Act → World → Prop} {l : Nat} {rest : Code}
@[go_sem] theorem once_normal : once P l rest Q .normal a w = Q .normal a w := rfl
@[go_sem] theorem once_exit (id : Nat) : once P l rest Q (.exit id) a w = Q (.exit id) a w := rfl
@[go_sem] theorem once_ret : once P l rest Q .ret a w = Q .ret a w := rfl
@[go_sem] theorem once_panic (ch : List PanicEntry) : once P l rest Q (.panic ch) a w = Q (.panic ch) a w := rfl
theorem once_goto (h : rest.wp P (Exit.noGoto Q) a w) : once P l rest Q (.goto l) a w := ⟨rfl, h⟩

theorem scope_once {c : Code} (hf : findLabel c l = some rest) (first : c.wp P (once P l rest Q) a w) : (Code.scope c).wp P Q a w := by
  intro b k cs
  have hg : gotoIn l (.inScope c :: k) = some (.code rest :: .inScope c :: k) := by simp [gotoIn, hf]
  obtain ⟨e, a₁, w₁, hq, harr⟩ := first b (.inScope c :: k) cs
  cases e with
  | normal => exact ⟨.normal, a₁, w₁, hq, .head step_scope (Steps.trans harr (.one step_inScope))⟩
  | exit id => exact ⟨.exit id, a₁, w₁, hq, fun k' hk => .head step_scope (harr k' (by simp [exitTo, hk]))⟩
  | goto l' =>
    obtain ⟨rfl, hJ⟩ := hq
    obtain ⟨e₂, a₂, w₂, hq₂, harr₂⟩ := hJ b (.inScope c :: k) cs
    have h1 : Steps P (lone (b.at a (.code (.scope c) :: k)) cs w) (lone (b.at a₁ (.code rest :: .inScope c :: k)) cs w₁) := .head step_scope (harr _ hg)
    cases e₂ with
    | normal => exact ⟨.normal, a₂, w₂, hq₂, Steps.trans h1 (Steps.trans harr₂ (.one step_inScope))⟩
    | exit id => exact ⟨.exit id, a₂, w₂, hq₂, fun k' hk => Steps.trans h1 (harr₂ k' (by simp [exitTo, hk]))⟩
    | goto l' => exact hq₂.elim
    | ret => exact ⟨_, a₂, w₂, hq₂, .of_steps h1 harr₂⟩
    | panic ch => exact ⟨_, a₂, w₂, hq₂, .of_steps h1 harr₂⟩
    | outgrown => exact ⟨_, a₂, w₂, hq₂, .of_steps h1 harr₂⟩
  | ret => exact ⟨_, a₁, w₁, hq, .of_steps (.one step_scope) harr⟩
  | panic ch => exact ⟨_, a₁, w₁, hq, .of_steps (.one step_scope) harr⟩
  | outgrown => exact ⟨_, a₁, w₁, hq, .of_steps (.one step_scope) harr⟩
end
end Mem
end Go.Proofs.YtodfgcbgiaboiaaDoor
