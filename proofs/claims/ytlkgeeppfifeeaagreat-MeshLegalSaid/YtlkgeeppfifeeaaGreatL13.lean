/- MeshLegal is true. -/
import Derived.Test.YtlkgeeppfifeeaaGreatLL
import Derived.Test.YtlkgeeppfifeeaaGreatFl
namespace Go.Proofs.YtlkgeeppfifeeaaGreat
open Go Go.RowKit
theorem meshLegal_eq (p : S_arr4_api_XY) : lidarlaw06_MeshLegal p = some true := by
  unfold lidarlaw06_MeshLegal
  rw [Legal_eq, bnd_s, ref_Legal, bnd_s, Legal_eq, bnd_s, jn_d, legalR_swap]
  simp [awake_eq, bnd_s]
end Go.Proofs.YtlkgeeppfifeeaaGreat
