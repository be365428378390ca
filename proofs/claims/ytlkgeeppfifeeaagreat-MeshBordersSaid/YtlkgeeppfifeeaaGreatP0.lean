/- Plain laws on loops and lists that the plain functions of the program have in common. -/
import Derived.Test.YtlkgeeppfifeeaaGreatFlow3
namespace Go.Proofs.YtlkgeeppfifeeaaGreat
open Go Go.RowKit
theorem w64_succ {j : Nat} (h : j < 9223372036854775807) : w64 ((j : Int) + 1) = ((j + 1 : Nat) : Int) := by rw [w64_id (by omega) (by omega)]; omega
theorem bnd_s {α ρ : Type} {x : α} {k : α → Option ρ} : bnd (some x) k = k x := rfl
theorem gd_t {ρ : Type} {p : Prop} [Decidable p] {k : Option ρ} (h : p) : gd p k = k := by unfold gd; rw [if_pos h]
theorem jn_d {τ ρ : Type} {k : τ → Option ρ} {x : (τ → Option ρ) → Option ρ} : jn k x = x k := rfl
end Go.Proofs.YtlkgeeppfifeeaaGreat
