/- Plain laws on loops and lists that the plain functions of the program have in common. -/
import Derived.Test.YtbkobeeileemjaaGreatFlow8
namespace Go.Proofs.YtbkobeeileemjaaGreat
open Go Go.RowKit
theorem Cw {j:Nat} (h:j < 9223372036854775807):w64 ((j:Int)+1)=((j+1:Nat):Int):=by rw [Bw (by omega) (by omega)];omega
theorem Ai {α ρ:Type} {x:α} {k:α→Option ρ}:bnd (some x) k=k x:=rfl
theorem gd_t {ρ:Type} {p:Prop} [Decidable p] {k:Option ρ} (h:p):gd p k=k:=by unfold gd;rw [if_pos h]
theorem jn_d {τ ρ:Type} {k:τ→Option ρ} {x:(τ→Option ρ)→Option ρ}:jn k x=x k:=rfl
/-- A loop over the places of a list that stops where a test fails. -/
theorem Ye {α β γ:Type} (l:List α) (p:α→Bool) (B:Int→Option (Sum Int (Sum β γ))) (u:β) (v:γ)
  (h1:∀ (j:Nat) (h:j < l.length),B j=if p l[j]=true then some (.inl ((j+1:Nat):Int)) else some (.inr (.inr v))) (h2:B l.length=some (.inr (.inl u))) :
  lfix B 0=some (if l.all p=true then .inl u else .inr v):=by
 have key:∀ (m k:Nat),k≤l.length→l.length-k=m→lfix B k=some (if (l.drop k).all p=true then .inl u else .inr v):=by
  intro m
  induction m with
  | zero =>
   intro k hk hm
   obtain rfl:k=l.length:=by omega
   rw [Cj,h2]
   simp
  | succ m ih =>
   intro k hk hm
   have hlt:k < l.length:=by omega
   rw [Cj,h1 k hlt,List.drop_eq_getElem_cons hlt,List.all_cons]
   by_cases hp:p l[k]=true
   ·rw [if_pos hp,hp,Bool.true_and]
    exact ih (k+1) (by omega) (by omega)
   ·rw [if_neg hp]
    simp [hp]
 exact key l.length 0 (Nat.zero_le _) rfl
end Go.Proofs.YtbkobeeileemjaaGreat
