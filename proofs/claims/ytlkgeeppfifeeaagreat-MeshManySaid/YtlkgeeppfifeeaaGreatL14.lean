/- MeshMany is true. -/
import Derived.Test.YtlkgeeppfifeeaaGreatLL
import Derived.Test.YtlkgeeppfifeeaaGreatFm
import Derived.Test.YtlkgeeppfifeeaaGreatRd
namespace Go.Proofs.YtlkgeeppfifeeaaGreat
open Go Go.RowKit
theorem sameMesh_nil : lidarref06_SameMesh ⟨[], [], []⟩ ⟨[], [], []⟩ = some true := by
  unfold lidarref06_SameMesh
  have h1 : lfix (lidarref06_SameMesh_l4 ⟨[], [], []⟩ ⟨[], [], []⟩) 0 = some (.inl ()) := by
    rw [lfix_eq]; unfold lidarref06_SameMesh_l4; rw [if_neg (by simp)]
  have h2 : lfix (lidarref06_SameMesh_l10 ⟨[], [], []⟩ ⟨[], [], []⟩) 0 = some (.inl ()) := by
    rw [lfix_eq]; unfold lidarref06_SameMesh_l10; rw [if_neg (by simp)]
  have h3 : lfix (lidarref06_SameMesh_l16 ⟨[], [], []⟩ ⟨[], [], []⟩) 0 = some (.inl ()) := by
    rw [lfix_eq]; unfold lidarref06_SameMesh_l16; rw [if_neg (by simp)]
  simp [jn_d, bnd_s, h1, h2, h3]
theorem meshMany_eq (v : S_api_Vertex) (n : Int) (l : S_arr2_int) (o : rU8 n) : lidarlaw06_MeshMany v n l = some true := by
  unfold rU8 at o
  unfold lidarlaw06_MeshMany
  have e1 : Int.tmod n 4 = n % 4 := Int.tmod_eq_emod_of_nonneg o.1
  have e2 : w64 (1024 + w64 (Int.tmod n 4)) = 1024 + n % 4 := by rw [e1, w64_id (x := n % 4) (by omega) (by omega), w64_id (by omega) (by omega)]
  obtain ⟨N, hN⟩ : ∃ N : Nat, (N : Int) = 1025 + n % 4 := ⟨(1025 + n % 4).toNat, by omega⟩
  have h0 : lfix (lidarlaw06_MeshMany_l3 n v) (([] : List S_api_Vertex), 0) = some (List.replicate N v) := by
    refine lfix_steps (fun k => (List.replicate k v, (k : Int))) _ N (fun k hk => ?_) ?_
    · unfold lidarlaw06_MeshMany_l3
      rw [e2, if_pos (by simp only; omega), gd_t (by simp only [List.length_replicate]; omega), w64_succ (by omega)]
      rw [List.replicate_succ']
    · unfold lidarlaw06_MeshMany_l3
      rw [e2, if_neg (by simp only; omega)]
  have hE : vertsE (List.replicate N v) = 2 := by
    unfold vertsE
    rw [if_pos (by rw [List.length_replicate]; omega)]
  rw [jn_d, h0, bnd_s]
  dsimp only
  have hB : mesh_Border (List.replicate N v) = some ([], 2) := by
    unfold mesh_Border
    rw [vertices_eq, hE, bnd_s, if_neg (by omega)]
  rw [hB, bnd_s, Build_bad [l] (by rw [hE]; omega), bnd_s, jn_d, hE]
  simp [sameMesh_nil, awake_eq, bnd_s]
end Go.Proofs.YtlkgeeppfifeeaaGreat
