/- Walks of the program, with their plain functions: LabelRefuses. -/
import Derived.Test.YtbkobeeileemjaaGreatY3
import Derived.Test.YtbkobeeileemjaaGreatL2
import Derived.Test.YtbkobeeileemjaaGreatFlow8
import Derived.Test.YtbkobeeileemjaaGreatRows
import Derived.ProofKit
import Derived.OpenShut
import Derived.ShutString
import Derived.ChangeOld
import Derived.Below
import Derived.Carry
import Derived.ChangeArms
import Derived.Deep.Slices
namespace Go.Proofs.YtbkobeeileemjaaGreat
open Go Go.RowKit
theorem seq26 (a0:Int) (a1:Int) (a2:Int) (b0:Int) (b1:Int) (b2:Int):∀ w,(Op.equalIn 10000 26 (.agg #[.int .i64 (a0),.int .i64 (a1),.int .i64 (a2)]) (.agg #[.int .i64 (b0),.int .i64 (b1),.int .i64 (b2)])).run Tryz.prog w = .ok ((((a0) == (b0)) && (((a1) == (b1)) && (((a2) == (b2)) && true)))) w :=
 EqI.array (c:=1) Tryz.underlying26 (show Tryz.prog.info? 3=some Tryz.t3 from by kernel_rfl) (by kernel_rfl) (.cons (fun w=>by kernel_rfl) (fun w=>by kernel_rfl) (fun w=>run_equalIn_int w 9998 3 .i64 .i64 _ _ Tryz.underlying3) (.cons (fun w=>by kernel_rfl) (fun w=>by kernel_rfl) (fun w=>run_equalIn_int w 9998 3 .i64 .i64 _ _ Tryz.underlying3) (.cons (fun w=>by kernel_rfl) (fun w=>by kernel_rfl) (fun w=>run_equalIn_int w 9998 3 .i64 .i64 _ _ Tryz.underlying3) (EqI.nil))))
instance (a0:Int) (a1:Int) (a2:Int) (b0:Int) (b1:Int) (b2:Int):EqSI Tryz.prog 26 [.int .i64 (a0),.int .i64 (a1),.int .i64 (a2)] [.int .i64 (b0),.int .i64 (b1),.int .i64 (b2)] ((((a0) == (b0)) && (((a1) == (b1)) && (((a2) == (b2)) && true)))):=⟨seq26 _ _ _ _ _ _,by kernel_rfl⟩
theorem seq97 (a0:Int) (a1:Int) (b0:Int) (b1:Int):∀ w,(Op.equalIn 10000 97 (.agg #[.int .i64 (a0),.int .i64 (a1)]) (.agg #[.int .i64 (b0),.int .i64 (b1)])).run Tryz.prog w = .ok ((((a0) == (b0)) && (((a1) == (b1)) && true))) w :=
 EqI.array (c:=1) Tryz.underlying97 (show Tryz.prog.info? 3=some Tryz.t3 from by kernel_rfl) (by kernel_rfl) (.cons (fun w=>by kernel_rfl) (fun w=>by kernel_rfl) (fun w=>run_equalIn_int w 9998 3 .i64 .i64 _ _ Tryz.underlying3) (.cons (fun w=>by kernel_rfl) (fun w=>by kernel_rfl) (fun w=>run_equalIn_int w 9998 3 .i64 .i64 _ _ Tryz.underlying3) (EqI.nil)))
instance (a0:Int) (a1:Int) (b0:Int) (b1:Int):EqSI Tryz.prog 97 [.int .i64 (a0),.int .i64 (a1)] [.int .i64 (b0),.int .i64 (b1)] ((((a0) == (b0)) && (((a1) == (b1)) && true))):=⟨seq97 _ _ _ _,by kernel_rfl⟩
theorem fld40_2:FieldOf Tryz.prog 40 2 2:=.mk Tryz.underlying40 rfl rfl (show Tryz.prog.info? 23=some Tryz.t23 from by kernel_rfl) (show Tryz.t23.size=1 from by kernel_rfl) rfl
instance:FieldI Tryz.prog 40 2 2:=⟨fld40_2⟩
theorem one23:OneOf Tryz.prog 23:=.mk Tryz.underlying23 rfl (show Tryz.prog.info? 23=some Tryz.t23 from by kernel_rfl) (by kernel_rfl)
instance:OneI Tryz.prog 23:=⟨one23⟩
noncomputable def slices_Equal____3_int__3_int__l4 (p0:List S_arr3_int) (p1:List S_arr3_int):Int→Option (Sum Int (Sum Unit Bool)):=fun s0 =>
 if s0 < ((((p0).length:Nat):Int)) then (bnd (idx p0 s0) fun x0 =>
 bnd (idx p1 s0) fun x1 =>
 if ((((x0.a0) == (x1.a0)) && (((x0.a1) == (x1.a1)) && (((x0.a2) == (x1.a2)) && true))))=true then (some (.inl (w64 (s0+1))))
 else (some (.inr (.inr (false)))))
 else (some (.inr (.inl ())))
noncomputable def slices_Equal____3_int__3_int_ (p0:List S_arr3_int) (p1:List S_arr3_int):Option Bool :=
 if ((((p0).length:Nat):Int))=((((p1).length:Nat):Int)) then (jn (fun (s5:Unit) =>
 some true)
 (fun j5=>bnd (lfix (slices_Equal____3_int__3_int__l4 p0 p1) 0) fun t0 =>
 (match t0 with
 | (.inl z0)=>j5 z0
 | (.inr (z0))=>some z0
 )))
 else (some false)
noncomputable def slices_Equal____2_int__2_int__l4 (p0:List S_arr2_int) (p1:List S_arr2_int):Int→Option (Sum Int (Sum Unit Bool)):=fun s0 =>
 if s0 < ((((p0).length:Nat):Int)) then (bnd (idx p0 s0) fun x0 =>
 bnd (idx p1 s0) fun x1 =>
 if ((((x0.a0) == (x1.a0)) && (((x0.a1) == (x1.a1)) && true)))=true then (some (.inl (w64 (s0+1))))
 else (some (.inr (.inr (false)))))
 else (some (.inr (.inl ())))
noncomputable def slices_Equal____2_int__2_int_ (p0:List S_arr2_int) (p1:List S_arr2_int):Option Bool :=
 if ((((p0).length:Nat):Int))=((((p1).length:Nat):Int)) then (jn (fun (s5:Unit) =>
 some true)
 (fun j5=>bnd (lfix (slices_Equal____2_int__2_int__l4 p0 p1) 0) fun t0 =>
 (match t0 with
 | (.inl z0)=>j5 z0
 | (.inr (z0))=>some z0
 )))
 else (some false)
noncomputable def mesh_Check (p0:S_api_Mesh):Option Int :=
 bnd (mesh_Build p0.V p0.Lines) fun r2 =>
 jn (fun (s4:Bool) =>
 if s4=true then (some 64)
 else (some 0))
 (fun j4=>if r2.2=0 then (bnd (slices_Equal____3_int__3_int_ r2.1.T p0.T) fun r0 =>
 if r0=true then (bnd (slices_Equal____2_int__2_int_ r2.1.Lines p0.Lines) fun r1 =>
 j4 (!(r1)))
 else (j4 true))
 else (j4 true))
noncomputable def label_Fits (p0:S_api_Mesh) (p1:S_api_Point) (p2:S_api_Terrain):Option (Bool × Int × Int) :=
 bnd (label_ValidRules p2) fun r4 =>
 if r4=true then (bnd (label_validPoint p1) fun r0 =>
 if r0=true then (bnd (mesh_Check p0) fun r1 =>
 if r1=0 then (bnd (label_fits p0 p1 p2) fun r2 =>
 some (r2.2.1,r2.2.2,0))
 else (some (false,0,64)))
 else (some (false,0,70)))
 else (some (false,0,71))
noncomputable def label_Lowest (p0:List S_api_Point):Option ((List Int) × Int) :=
 bnd (label_Valid p0) fun r1 =>
 if r1=true then (bnd (label_lasts p0) fun r7 =>
 bnd (label_ids r7) fun r0 =>
 some (r0,0))
 else (some (([]:List Int),70))
noncomputable def lidarlaw07_LabelRefuses_l10 (p0:List S_api_Point) (r0:(List Int) × Int):((List S_api_Point) × Int)→Option (Sum ((List S_api_Point) × Int) (List S_api_Point)):=fun s0 =>
 if s0.2 < ((((p0).length:Nat):Int)) then (jn (fun (s1:List S_api_Point) =>
 some (.inl (s1,w64 (s0.2+1))))
 (fun j0=>bnd (idx p0 s0.2) fun x0 =>
 bnd (lidarref07_Has r0.1 x0.Id) fun r1 =>
 if r1=true then (j0 s0.1)
 else (bnd (idx p0 s0.2) fun x1 =>
 gd (((s0.1).length+1)*72≤140737488355328) <|
 j0 (s0.1++[x1]))))
 else (some (.inr s0.1))
noncomputable def lidarlaw07_LabelRefuses_l18 (s0:List S_api_Point) (r0:S_api_Mesh × Int) (p1:S_api_Terrain) (r1:(List Int) × Int) (r2:(List Int) × Int):Int→Option (Sum Int (Sum Unit Bool)):=fun s1 =>
 if s1 < ((((s0).length:Nat):Int)) then (jn (fun (s2:Unit) =>
 some (.inl (w64 (s1+1))))
 (fun j0=>jn (fun (s3:Bool) =>
 if s3=true then (j0 ())
 else (bnd (idx s0 s1) fun x0 =>
 bnd (label_Fits r0.1 x0 p1) fun r3 =>
 jn (fun (s4:Bool) =>
 if s4=true then (some (.inr (.inr (false))))
 else (j0 ()))
 (fun j1=>if r3.1=true then (j1 true)
 else (j1 (!(decide (r3.2.2=0)))))))
 (fun j2=>bnd (idx s0 s1) fun x1 =>
 bnd (lidarref07_Has r1.1 x1.Id) fun r4 =>
 if r4=true then (bnd (idx s0 s1) fun x2 =>
 bnd (lidarref07_Has r2.1 x2.Id) fun r5 =>
 j2 r5)
 else (j2 true))))
 else (some (.inr (.inl ())))
noncomputable def lidarlaw07_LabelRefuses (p0:List S_api_Point) (p1:S_api_Terrain):Option Bool :=
 bnd (lidarlaw07_good p0 p1 12) fun r2 =>
 if r2=true then (bnd (label_Ground p0 p1) fun r0 =>
 bnd (label_Sunk p0 p1) fun r1 =>
 bnd (label_Surface p0 r0.1) fun r3 =>
 jn (fun (s9:Bool) =>
 if s9=true then (some false)
 else (jn (fun (s0:List S_api_Point) =>
 bnd (label_Lowest s0) fun r4 =>
 if r4.2=0 then (jn (fun (s1:Unit) =>
 bnd (lidarlaw07_first) fun r5 =>
 some r5)
 (fun j0=>bnd (lfix (lidarlaw07_LabelRefuses_l18 s0 r3 p1 r4 r0) 0) fun t0 =>
 (match t0 with
 | (.inl z0)=>j0 z0
 | (.inr (z0))=>some z0
 )))
 else (some false))
 (fun j1=>bnd (lfix (lidarlaw07_LabelRefuses_l10 p0 r1) (([]:List S_api_Point),0)) fun t1 =>
 j1 t1)))
 (fun j9=>if r0.2=0 then (if r1.2=0 then (j9 (!(decide (r3.2=0))))
 else (j9 true))
 else (j9 true)))
 else (bnd (lidarlaw07_first) fun r7 =>
 some r7)
set_option maxHeartbeats 1000000 in
set_option maxRecDepth 100000 in
instance slices_Equal____3_int__3_int__c (p0:List S_arr3_int) (p1:List S_arr3_int):Con (slices_Equal____3_int__3_int_ p0 p1) Tryz.prog 158 (fun K vs=>∃ (A0_0:Option Addr) (c0_0:Nat) (A0_1:Option Addr) (c0_1:Nat),vs=[.slice (A0_0) ((p0).length) (c0_0),.slice (A0_1) ((p1).length) (c0_1)]∧Has K A0_0 (p0).length c0_0 3 e_arr3_int (p0)∧Has K A0_1 (p1).length c0_1 3 e_arr3_int (p1)∧True) (fun _ r=>fun v Ln=>v = .bool (r)∧Ln=[]∧True):=⟨by
 rintro K _ r ⟨A0_0,c0_0,A0_1,c0_1,rfl,ha0,ha1,-⟩ hx w hK;replace ha0:=Has.lo ha0 hK;replace ha1:=Has.lo ha1 hK;unfold slices_Equal____3_int__3_int_ at hx;have:=dl 6 [0,0,0,1,0,0,0,1,0] [0,1,2,3,4,5,6,7,8];refine CtS Tryz.ntmps158 Tryz.results158 ?_;refine pre ?_;intros;rename_i hx
 refine Cq2 (s:=10) hx rfl (fun _ hx=>?_) (fun _ hx=>?_)
 ·exact au
 ·refine pre ?_;intros;rename_i hx
  apply Jr (γ:=Unit) hx [] (fun s5 y5 f=>f) [999] (fun s5 y5 l=>l);exact kk
  ·intro s5 y5 hx;exact au
  ·intro _ hx;refine pre ?_;intros;rename_i hx
   apply Lr (γ:=Unit) hx [0,1,12] (fun s33 y33 f=>(13,.int .i64 (s33))::f) [999] (fun s33 y33 l=>l) ();exact kk;exact sk;intro s33 y33 x33 hx _;unfold slices_Equal____3_int__3_int__l4 at hx
   exact au⟩
set_option maxHeartbeats 1000000 in
set_option maxRecDepth 100000 in
instance slices_Equal____2_int__2_int__c (p0:List S_arr2_int) (p1:List S_arr2_int):Con (slices_Equal____2_int__2_int_ p0 p1) Tryz.prog 159 (fun K vs=>∃ (A0_0:Option Addr) (c0_0:Nat) (A0_1:Option Addr) (c0_1:Nat),vs=[.slice (A0_0) ((p0).length) (c0_0),.slice (A0_1) ((p1).length) (c0_1)]∧Has K A0_0 (p0).length c0_0 2 e_arr2_int (p0)∧Has K A0_1 (p1).length c0_1 2 e_arr2_int (p1)∧True) (fun _ r=>fun v Ln=>v = .bool (r)∧Ln=[]∧True):=⟨by
 rintro K _ r ⟨A0_0,c0_0,A0_1,c0_1,rfl,ha0,ha1,-⟩ hx w hK;replace ha0:=Has.lo ha0 hK;replace ha1:=Has.lo ha1 hK;unfold slices_Equal____2_int__2_int_ at hx;have:=dl 6 [0,0,0,1,0,0,0,1,0] [0,1,2,3,4,5,6,7,8];refine CtS Tryz.ntmps159 Tryz.results159 ?_;refine pre ?_;intros;rename_i hx
 refine Cq2 (s:=10) hx rfl (fun _ hx=>?_) (fun _ hx=>?_)
 ·exact au
 ·refine pre ?_;intros;rename_i hx
  apply Jr (γ:=Unit) hx [] (fun s5 y5 f=>f) [999] (fun s5 y5 l=>l);exact kk
  ·intro s5 y5 hx;exact au
  ·intro _ hx;refine pre ?_;intros;rename_i hx
   apply Lr (γ:=Unit) hx [0,1,12] (fun s33 y33 f=>(13,.int .i64 (s33))::f) [999] (fun s33 y33 l=>l) ();exact kk;exact sk;intro s33 y33 x33 hx _;unfold slices_Equal____2_int__2_int__l4 at hx
   exact au⟩
set_option maxHeartbeats 1000000 in
set_option maxRecDepth 100000 in
instance mesh_Check_c (p0:S_api_Mesh):Con (mesh_Check p0) Tryz.prog 84 (fun K vs=>∃ (A0_0:Option Addr) (c0_0:Nat) (A0_1:Option Addr) (c0_1:Nat) (A0_2:Option Addr) (c0_2:Nat),vs=[.agg #[.slice (A0_0) ((p0.V).length) (c0_0),.slice (A0_1) ((p0.T).length) (c0_1),.slice (A0_2) ((p0.Lines).length) (c0_2)]]∧Has K A0_0 (p0.V).length c0_0 4 e_api_Vertex (p0.V)∧Has K A0_1 (p0.T).length c0_1 3 e_arr3_int (p0.T)∧Has K A0_2 (p0.Lines).length c0_2 2 e_arr2_int (p0.Lines)∧True) (fun _ r=>fun v Ln=>v = .int .i64 (r)∧Ln=[]∧True):=⟨by
 rintro K _ r ⟨A0_0,c0_0,A0_1,c0_1,A0_2,c0_2,rfl,ha0,ha1,ha2,-⟩ hx w hK;replace ha0:=Has.lo ha0 hK;replace ha1:=Has.lo ha1 hK;replace ha2:=Has.lo ha2 hK;unfold mesh_Check at hx;refine CtS Tryz.ntmps84 Tryz.results84 ?_;refine pre ?_;intros;rename_i hx
 refine T_seq ?_;refine pre ?_;intros;rename_i hx
 apply Jr (γ:=Unit) hx [] (fun s4 y4 f=>(30,.bool (s4))::f) [999] (fun s4 y4 l=>l);exact kk
 ·intro s4 y4 hx;exact au
 ·intro _ hx;exact au⟩
set_option maxHeartbeats 1000000 in
set_option maxRecDepth 100000 in
instance label_Fits_c (p0:S_api_Mesh) (p1:S_api_Point) (p2:S_api_Terrain):Con (label_Fits p0 p1 p2) Tryz.prog 39 (fun K vs=>∃ (A0_0:Option Addr) (c0_0:Nat) (A0_1:Option Addr) (c0_1:Nat) (A0_2:Option Addr) (c0_2:Nat),vs=[.agg #[.slice (A0_0) ((p0.V).length) (c0_0),.slice (A0_1) ((p0.T).length) (c0_1),.slice (A0_2) ((p0.Lines).length) (c0_2)],.agg #[.int .i64 (p1.Id),.int .i64 (p1.X),.int .i64 (p1.Y),.int .i64 (p1.Z.Lo),.int .i64 (p1.Z.Hi),.int .i64 (p1.Wide),.int .i64 (p1.Num),.int .i64 (p1.Of),.int .i64 (p1.Class)],.agg #[.int .i64 (p2.Cell),.int .i64 (p2.Reach),.int .i64 (p2.Slope),.int .i64 (p2.Link),.int .i64 (p2.Flat),.int .i64 (p2.Tall),.int .i64 (p2.High),.int .i64 (p2.Low),.int .i64 (p2.Brush),.int .i64 (p2.Few)]]∧Has K A0_0 (p0.V).length c0_0 4 e_api_Vertex (p0.V)∧Has K A0_1 (p0.T).length c0_1 3 e_arr3_int (p0.T)∧Has K A0_2 (p0.Lines).length c0_2 2 e_arr2_int (p0.Lines)∧True) (fun _ r=>fun v Ln=>v = .tuple #[.bool (r.1),.int .i64 (r.2.1),.int .i64 (r.2.2)]∧Ln=[]∧True):=⟨by
 rintro K _ r ⟨A0_0,c0_0,A0_1,c0_1,A0_2,c0_2,rfl,ha0,ha1,ha2,-⟩ hx w hK;replace ha0:=Has.lo ha0 hK;replace ha1:=Has.lo ha1 hK;replace ha2:=Has.lo ha2 hK;unfold label_Fits at hx;refine CtS Tryz.ntmps39 Tryz.results39 ?_;exact au⟩
set_option maxRecDepth 100000 in
instance label_Lowest_c (p0:List S_api_Point):Con (label_Lowest p0) Tryz.prog 38 (fun K vs=>∃ (A0_0:Option Addr) (c0_0:Nat),vs=[.slice (A0_0) ((p0).length) (c0_0)]∧Has K A0_0 (p0).length c0_0 9 e_api_Point (p0)∧True) (fun _ r=>fun v Ln=>∃ (A0:Option Addr) (c0:Nat),v = .tuple #[.slice (A0) ((r.1).length) (c0),.int .i64 (r.2)]∧Ln=[.r A0 (r.1).length c0 3 1 ((r.1).flatMap e_i64)]∧True):=⟨by
 rintro K _ r ⟨A0_0,c0_0,rfl,ha0,-⟩ hx w hK;replace ha0:=Has.lo ha0 hK;unfold label_Lowest at hx;refine CtS Tryz.ntmps38 Tryz.results38 ?_;exact au⟩
set_option maxHeartbeats 1000000 in
set_option maxRecDepth 100000 in
instance lidarlaw07_LabelRefuses_c (p0:List S_api_Point) (p1:S_api_Terrain):Con (lidarlaw07_LabelRefuses p0 p1) Tryz.prog 9 (fun K vs=>∃ (A0_0:Option Addr) (c0_0:Nat),vs=[.slice (A0_0) ((p0).length) (c0_0),.agg #[.int .i64 (p1.Cell),.int .i64 (p1.Reach),.int .i64 (p1.Slope),.int .i64 (p1.Link),.int .i64 (p1.Flat),.int .i64 (p1.Tall),.int .i64 (p1.High),.int .i64 (p1.Low),.int .i64 (p1.Brush),.int .i64 (p1.Few)]]∧Has K A0_0 (p0).length c0_0 9 e_api_Point (p0)∧True) (fun _ r=>fun v Ln=>v = .bool (r)∧Ln=[]∧True):=⟨by
 rintro K _ r ⟨A0_0,c0_0,rfl,ha0,-⟩ hx w hK;replace ha0:=Has.lo ha0 hK;unfold lidarlaw07_LabelRefuses at hx;have:=dl 21 [1,0,0,0,1,1,2,0,0,0,0,2,2,2] [0,1,2,3,4,5,6,7,8,9,10,11,12,13];refine CtS Tryz.ntmps9 Tryz.results9 ?_;refine pre ?_;intros;rename_i hx
 refine Cq4 (s:=21) hx rfl (fun _ hx=>?_) (fun _ hx=>?_)
 ·exact au
 ·refine pre ?_;intros;rename_i hx
  refine T_seq ?_;refine pre ?_;intros;rename_i hx
  apply Jr (γ:=Unit) hx [0,3,5,7,9] (fun s9 y9 f=>(50,.bool (s9))::f) [0,1,2,3,4,5,6,999] (fun s9 y9 l=>l);exact kk
  ·intro s9 y9 hx;refine Cq3 (s:=50) hx rfl (fun _ hx=>?_) (fun _ hx=>?_)
   ·exact au
   ·refine pre ?_;intros;rename_i hx
    refine T_seq ?_;refine pre ?_;intros;rename_i hx
    apply Jr (γ:=(Option Addr) × Nat) hx [3,5,9] (fun s0 y0 f=>(11,.slice (y0.1) ((s0).length) (y0.2))::f) [0,1,2,3,5,6,999] (fun s0 y0 l=>.r (y0.1) ((s0).length) (y0.2) 66 9 ((s0).flatMap e_api_Point)::l);exact kk
    ·intro s0 y0 hx;refine pre ?_;intros;rename_i hx
     refine Cq2 (s:=78) hx rfl (fun _ hx=>?_) (fun _ hx=>?_)
     ·exact au
     ·refine pre ?_;intros;rename_i hx
      apply Jr (γ:=Unit) hx [] (fun s1 y1 f=>f) [999] (fun s1 y1 l=>l);exact kk
      ·intro s1 y1 hx;exact au
      ·intro _ hx;refine pre ?_;intros;rename_i hx
       apply Lr (γ:=Unit) hx [3,5,9,11,13] (fun s2 y2 f=>(14,.int .i64 (s2))::f) [0,1,2,3,4,5,6,7,999] (fun s2 y2 l=>l) ();exact kk;exact sk;intro s2 y2 x0 hx _;unfold lidarlaw07_LabelRefuses_l18 at hx
       refine pre ?_;intros;rename_i hx
       refine Cq1 (s:=82) hx rfl (fun _ hx=>?_) (fun _ hx=>?_)
       ·refine pre ?_;intros;rename_i hx
        apply Jr (γ:=Unit) hx [3,5,9,11,13,14] (fun s3 y3 f=>f) [0,1,2,3,4,5,6,7,999] (fun s3 y3 l=>l);exact kk
        ·intro s3 y3 hx;exact au
        ·intro _ hx;refine pre ?_;intros;rename_i hx
         refine T_seq ?_;refine pre ?_;intros;rename_i hx
         apply Jr (γ:=Unit) hx [3,5,9,11,13,14] (fun s4 y4 f=>(101,.bool (s4))::f) [0,1,2,3,4,5,6,7,999] (fun s4 y4 l=>l);exact kk
         ·intro s4 y4 hx;exact au
         ·intro _ hx;exact au
       ·exact au
    ·intro _ hx;refine pre ?_;intros;rename_i hx
     refine T_none 66 9 ?_
     apply Lr (γ:=(Option Addr) × Nat) hx [0,3,5,7,9] (fun s5 y5 f=>(11,.slice (y5.1) ((s5.1).length) (y5.2))::(12,.int .i64 (s5.2))::f) [1,2,3,4,5,6,7,999] (fun s5 y5 l=>.r (y5.1) ((s5.1).length) (y5.2) 66 9 ((s5.1).flatMap e_api_Point)::l) (_,_);exact kk;exact sk;intro s5 y5 x1 hx _;unfold lidarlaw07_LabelRefuses_l10 at hx
     exact au
  ·intro _ hx;exact au⟩
theorem lidarlaw07_LabelRefuses_ok (p0:List S_api_Point) (p1:S_api_Terrain) {K:List Ent} {A0_0:Option Addr} {c0_0:Nat} (ha0:Has K A0_0 (p0).length c0_0 9 e_api_Point (p0)) {r:Bool} (hx:lidarlaw07_LabelRefuses p0 p1=some r) (w:World) (hK:∀ e∈K,Ent.ok w e):CtL Tryz.prog 9 [.slice (A0_0) ((p0).length) (c0_0),.agg #[.int .i64 (p1.Cell),.int .i64 (p1.Reach),.int .i64 (p1.Slope),.int .i64 (p1.Link),.int .i64 (p1.Flat),.int .i64 (p1.Tall),.int .i64 (p1.High),.int .i64 (p1.Low),.int .i64 (p1.Brush),.int .i64 (p1.Few)]] w fun v Ln=>v = .bool (r)∧Ln=[]∧True:=(lidarlaw07_LabelRefuses_c p0 p1).h K _ _ ⟨_,_,rfl,ha0,trivial⟩ hx w hK
end Go.Proofs.YtbkobeeileemjaaGreat
/- LabelWithin, LabelPoints in plain Lean. -/
namespace Go.Proofs.YtbkobeeileemjaaGreat.X
open Go Go.RowKit
theorem Sunk_eq (l:List S_api_Point) (r:S_api_Terrain):label_Sunk l r=some (if okRules r=true then (if validL l=true then (sortI ((sunkL l r).map (·.Id)),0) else ([],70)) else ([],71)):=by
 simp only [label_Sunk,checked_eq,bnd_s]
 by_cases hr:okRules r=true
 ·by_cases hl:validL l=true
  ·have hf:Fit (sunkL l r):=(Fit.of hl).filter _
   simp only [hr,hl,if_true,parted_eq hl hr,bnd_s,ids_eq hf.n]
  ·simp [hr,hl]
 ·simp [hr]
def lowL (l:List S_api_Point):List Int × Int:=if validL l=true then (sortI ((bot plF (lastL l)).map (·.Id)),0) else ([],70)
theorem Lowest_eq (l:List S_api_Point):label_Lowest l=some (lowL l):=by
 simp only [label_Lowest,valid_eq,bnd_s,lowL]
 by_cases hl:validL l=true
 ·have hF:=Fit.of hl
  obtain ⟨L,h1,h2⟩:=lasts_eq hF
  have hb:Fit (bot plF (lastL l)):=(hF.filter _).filter _
  simp only [hl,if_true,h2,bnd_s,ids_eq (hb.perm h1.symm).n,sortI_perm (h1.map (·.Id))]
 ·simp [hl]
end Go.Proofs.YtbkobeeileemjaaGreat.X
/- LabelFixed. -/
namespace Go.Proofs.YtbkobeeileemjaaGreat
open Go Go.RowKit Go.Sort
def okAllL (l:List S_api_Point) (r:S_api_Terrain) (n:Nat):Prop:=l.length≤n∧X.validL l=true∧X.okRules r=true
instance (l:List S_api_Point) (r:S_api_Terrain) (n:Nat):Decidable (okAllL l r n):=by unfold okAllL;infer_instance
theorem good_eq (l:List S_api_Point) (r:S_api_Terrain) (n:Nat):lidarlaw07_good l r (n:Int)=some (decide (okAllL l r n)):=by
 unfold lidarlaw07_good
 rw [jn_d]
 by_cases c:l.length≤n
 ·rw [if_pos (by omega),X.rvalid_eq,bnd_s]
  by_cases c2:X.validL l=true
  ·rw [if_pos c2,X.rrules_eq,bnd_s]
   congr 1
   rw [Bool.eq_iff_iff,decide_eq_true_eq]
   exact ⟨fun h=>⟨c,c2,h⟩,fun h=>h.2.2⟩
  ·rw [if_neg c2,decide_eq_false (fun h:okAllL l r n=>c2 h.2.1)]
 ·rw [if_neg (by omega),decide_eq_false (fun h:okAllL l r n=>c h.1)]
theorem Ground_eq {l:List S_api_Point} {r:S_api_Terrain} (hl:X.validL l=true) (hr:X.okRules r=true) {g:List Int} (h:label_groundOf l r=some g):label_Ground l r=some (g,0):=by
 unfold label_Ground
 rw [X.checked_eq,if_pos hr,if_pos hl,bnd_s,if_pos rfl,h,bnd_s]
/-- A loop that goes through. -/
theorem lfix_thru {β γ:Type} {n:Nat} {B:Int→Option (Sum Int (Sum β γ))} {u:β} (h1:∀ j:Nat,j < n→B j=some (.inl ((j+1:Nat):Int))) (h2:B n=some (.inr (.inl u))):lfix B 0=some (.inl u):=by
 have key:∀ (m k:Nat),k≤n→n-k=m→lfix B k=some (.inl u):=by
  intro m
  induction m with
  | zero =>
   intro k hk hm
   obtain rfl:k=n:=by omega
   rw [lfix_eq,h2]
  | succ m ih =>
   intro k hk hm
   rw [lfix_eq,h1 k (by omega)]
   exact ih (k+1) (by omega) (by omega)
 exact key n 0 (Nat.zero_le _) rfl
section
variable {l:List S_api_Point} {r:S_api_Terrain} {C:List S_api_Point} (hc:Ctx l r C) {g:List Int} (hg:Grnd l r C g)
include hc
theorem sunk_len:(sortI ((X.sunkL l r).map (·.Id))).length≤1000000:=by
 have h1:(X.sunkL l r).length≤l.length:=List.length_filter_le _ _
 have:=hc.few
 rw [(X.perm_sortI _).length_eq,List.length_map]
 omega
end
end Go.Proofs.YtbkobeeileemjaaGreat
/- LabelRefuses. -/
namespace Go.Proofs.YtbkobeeileemjaaGreat
open Go Go.RowKit Go.Sort
theorem equal3_self {l:List S_arr3_int} (h:l.length≤1152921504606846976):slices_Equal____3_int__3_int_ l l=some true:=by
 unfold slices_Equal____3_int__3_int_
 rw [if_pos rfl,jn_d,lfix_thru (n:=l.length) (u:=()) (fun j hj=>?_) ?_,bnd_s]
 ·unfold slices_Equal____3_int__3_int__l4
  rw [if_neg (by omega)]
 ·unfold slices_Equal____3_int__3_int__l4
  rw [if_pos (by omega),idx_nat hj,bnd_s,bnd_s,if_pos (by simp),w64_succ (by omega)]
theorem equal2_nil:slices_Equal____2_int__2_int_ [] []=some true:=by
 unfold slices_Equal____2_int__2_int_
 rw [if_pos rfl,jn_d,lfix_thru (n:=0) (u:=()) (fun j hj=>absurd hj (by omega)) ?_,bnd_s]
 unfold slices_Equal____2_int__2_int__l4
 rw [if_neg (by simp)]
/-- A mesh of points is canonical. -/
theorem check_eq {L:List S_api_Point} (hL:X.Fit L) (ha:apartL L) {m:S_api_Mesh} (hv:m.V=vxL L) (hl:m.Lines=[]) (ht:MeshT (vxL L) m.T):mesh_Check m=some 0:=by
 have hm:=msh_of hL hv ht
 rcases verts_pts hL with ⟨e,_⟩ | ⟨_,g⟩
 ·obtain ⟨T,t1,t3⟩:=Build_eq e
  unfold mesh_Check
  rw [hv,hl,t1,bnd_s,jn_d]
  dsimp only
  rw [if_pos rfl,t3.unique ht,equal3_self hm.len,bnd_s,if_pos rfl,equal2_nil,bnd_s]
  rfl
 ·exact absurd ha g
section
variable {l:List S_api_Point} {r:S_api_Terrain} {C:List S_api_Point} (hc:Ctx l r C)
include hc
theorem mem_sunk {p:S_api_Point} (hp:p∈l):p.Id∈sortI ((X.sunkL l r).map (·.Id))↔X.sunkB l r p=true:=by
 rw [(X.perm_sortI _).mem_iff]
 constructor
 ·intro h
  obtain ⟨q,hq,e⟩:=List.mem_map.1 h
  unfold X.sunkL at hq
  rw [List.mem_filter] at hq
  rw [← X.id_inj (X.Fit.of hc.val).id hq.1 hp e]
  exact hq.2
 ·intro h
  refine List.mem_map.2 ⟨p,?_,rfl⟩
  unfold X.sunkL
  rw [List.mem_filter]
  exact ⟨hp,h⟩
theorem up_loop (e:Int):lfix (lidarlaw07_LabelRefuses_l10 l (sortI ((X.sunkL l r).map (·.Id)),e)) (([]:List S_api_Point),0)=some (X.dryL l r):=by
 have hs:=sunk_len hc
 have hn:=hc.few
 unfold X.dryL
 refine X.lfix_filter l (fun p=>!X.sunkB l r p) _ (fun j hj s hs2=>?_) (fun s=>?_)
 ·unfold lidarlaw07_LabelRefuses_l10
  dsimp only
  rw [if_pos (by omega),jn_d,idx_nat hj,bnd_s,has_eq hs,bnd_s,w64_succ (by omega)]
  have hm:=mem_sunk hc (List.getElem_mem hj)
  by_cases c:X.sunkB l r l[j]=true
  ·rw [if_pos (decide_eq_true (hm.2 c)),c]
   rfl
  ·rw [if_neg (by rw [decide_eq_true_eq,hm];exact c),bnd_s,gd_t (by omega),Bool.eq_false_iff.2 c]
   rfl
 ·unfold lidarlaw07_LabelRefuses_l10
  dsimp only
  rw [if_neg (by omega)]
theorem dry_valid:X.validL (X.dryL l r)=true:=by
 have hf:X.Fit (X.dryL l r):=(X.Fit.of hc.val).filter _
 unfold X.validL
 rw [Bool.and_eq_true,Bool.and_eq_true,decide_eq_true_eq,decide_eq_true_eq,List.all_eq_true]
 exact ⟨⟨hf.n,hf.ok⟩,hf.id⟩
theorem Surface_g {g:List Int} (h:GOk C g):label_Surface l g=some (gMesh l g,0):=by
 unfold label_Surface
 rw [X.valid_eq,bnd_s,if_pos hc.val,(gMesh_eq hc h).1,bnd_s]
theorem check_g {g:List Int} (h:GOk C g):mesh_Check (gMesh l g)=some 0:=by
 obtain ⟨_,h1,h2,h3,_⟩:=gMesh_eq hc h
 exact check_eq (Fit.pick (X.Fit.of hc.val)) (GOk.apart hc h) h1 h2 h3
theorem Fits_g {g:List Int} (h:GOk C g) {p:S_api_Point} (hp:X.okPt p=true):label_Fits (gMesh l g) p r=some ((gFit l r g p).2.1,(gFit l r g p).2.2,0):=by
 obtain ⟨_,_,_,_,hm⟩:=gMesh_eq hc h
 unfold label_Fits
 rw [X.rules_eq,bnd_s,if_pos hc.rul,X.validPoint_eq,bnd_s,if_pos hp,check_g hc h,bnd_s,if_pos rfl,fits_eq hm hp hc.rul,bnd_s]
 rfl
theorem refuse_loop {g:List Int} (hg:Grnd l r C g) (e e':Int) :
  lfix (lidarlaw07_LabelRefuses_l18 (X.dryL l r) (gMesh l g,e) r (sortI ((X.candL l r).map (·.Id)),e') (g,e)) 0=some (.inl ()):=by
 have hn:=hc.few
 have hf:X.Fit (X.dryL l r):=(X.Fit.of hc.val).filter _
 have hn2:=hf.n
 have hgl:=GOk.len hg.ok
 have hcl:=hc.len
 have hpl:(sortI ((X.candL l r).map (·.Id))).length≤1000000:=by
  rw [(X.perm_sortI _).length_eq,List.length_map,← hc.perm.length_eq]
  omega
 refine lfix_thru (n:=(X.dryL l r).length) (fun j hj=>?_) ?_
 ·unfold lidarlaw07_LabelRefuses_l18
  dsimp only
  have hp:=List.getElem_mem hj
  rw [if_pos (by omega),jn_d,jn_d,idx_nat hj,bnd_s,has_eq hpl,bnd_s,w64_succ (by omega)]
  generalize (X.dryL l r)[j]=p at *
  by_cases c:p.Id∈sortI ((X.candL l r).map (·.Id))
  ·rw [if_pos (decide_eq_true c),bnd_s,has_eq (by omega),bnd_s]
   dsimp only
   by_cases c2:p.Id∈g
   ·rw [if_pos (decide_eq_true c2)]
   ·rw [if_neg (by simpa using c2),bnd_s,Fits_g hc hg.ok (hf.ok p hp),bnd_s,jn_d]
    obtain ⟨q,hq,e⟩:=List.mem_map.1 ((X.perm_sortI _).mem_iff.1 c)
    have hqC:=hc.perm.mem_iff.2 hq
    have hql:=(hc.dry hqC).1
    have hpl:p∈l:=(List.mem_filter.1 hp).1
    have hqp:=X.id_inj (X.Fit.of hc.val).id hql hpl e
    subst hqp
    dsimp only
    rw [best_nil hg.stop hqC c2]
    rfl
  ·rw [if_neg (by simpa using c)]
   dsimp only
   rw [if_pos rfl]
 ·unfold lidarlaw07_LabelRefuses_l18
  dsimp only
  rw [if_neg (by omega)]
end
theorem labelRefuses_eq (l:List S_api_Point) (r:S_api_Terrain):lidarlaw07_LabelRefuses l r=some true:=by
 unfold lidarlaw07_LabelRefuses
 rw [show (12:Int)=((12:Nat):Int) from rfl,good_eq,bnd_s]
 by_cases c:okAllL l r 12
 ·rw [decide_eq_true c,if_pos rfl]
  obtain ⟨c1,c2,c3⟩:=c
  obtain ⟨C,hC,hc⟩:=ctx_of c2 c3 (by omega)
  obtain ⟨g,e,hg⟩:=groundOf_eq hc hC
  rw [Ground_eq c2 c3 e,bnd_s,X.Sunk_eq,if_pos c3,if_pos c2,bnd_s]
  dsimp only
  rw [Surface_g hc hg.ok,bnd_s,jn_d]
  dsimp only
  rw [if_pos rfl,if_pos rfl]
  simp only [decide_true,Bool.not_true,Bool.false_eq_true,if_false]
  rw [jn_d,up_loop hc,bnd_s]
  dsimp only
  rw [X.Lowest_eq]
  unfold X.lowL
  rw [if_pos (dry_valid hc),bnd_s]
  dsimp only
  rw [if_pos rfl,jn_d,show X.bot X.plF (X.lastL (X.dryL l r))=X.candL l r from rfl,refuse_loop hc hg,bnd_s]
  dsimp only
  rw [X.first_eq,bnd_s]
 ·rw [decide_eq_false c,if_neg (by simp),X.first_eq,bnd_s]
end Go.Proofs.YtbkobeeileemjaaGreat
/- What the arguments of a law are, read off the way a law's claim is told of them: lists, structs. -/
namespace Go.Proofs.YtbkobeeileemjaaGreat
open Go.ChangeShapes Go.WideShapes Go.ChangeAt Go.RowKit

theorem own2:ownKnob Tryz.prog.godebug=none:=by kernel_rfl
theorem laidOut2:laidOutB Tryz.prog=true:=by kernel_rfl
def rI64 (z:Int):Prop:=-9223372036854775808≤z∧z≤9223372036854775807
theorem sp_nil {cs:List Value} {o:Nat} (h:cs.length=o):cs.drop o=[]:=by rw [← h,List.drop_length]
theorem sp_cons {cs X R:List Value} {o k o':Nat} (h1:(cs.drop o).take k=X) (h2:cs.drop o'=R) (ho:o'=o+k):cs.drop o=X++R:=by
 subst ho;rw [← h1,← h2,← List.drop_drop,List.take_append_drop]
section
variable {H:Type} {enc:TypeId × Value→H} {w:World} {base:Nat} {spare:Nat→Bool} {held:Bool} {P:Program}
theorem rd_i64 {t:TypeId} (ht:P.underlying t=some (.int .i64)) {fuel:Nat} {cs:List Value} {x:DataW H × List MemPlace} (h:DataW.trod enc P w base spare held fuel t cs=some x):∃ z:Int,cs=[.int .i64 z]∧rI64 z:=by
 obtain ⟨n,hc,_,hw⟩:=DataW.trod_int ht h
 refine ⟨n,hc,?_⟩
 have h1:IntKind.i64.min = -9223372036854775808:=rfl
 have h2:IntKind.i64.max=9223372036854775807:=rfl
 simp only [Lit.wf,Bool.and_eq_true,decide_eq_true_eq] at hw
 unfold rI64;omega
theorem rd_slice {α:Type} {en:α→List Value} {okα:α→Prop} {t e:TypeId} {sz:Nat} (ht:P.underlying t=some (.slice e)) (hsz:P.cellsOf e=sz) (hp:0 < sz)
  (hel:∀ {fuel:Nat} {cs:List Value} {x:DataW H × List MemPlace},DataW.trod enc P w base spare held fuel e cs=some x→∃ v,cs=en v∧okα v)
  {fuel:Nat} {cs:List Value} {x:DataW H × List MemPlace} (h:DataW.trod enc P w base spare held fuel t cs=some x) :
  ∃ (v:List α) (A:Option Addr) (c:Nat),cs=[.slice A v.length c]∧Has [.old w] A v.length c sz en v∧∀ z∈v,okα z:=by
 rcases Go.Deep.open_slice ht h with ⟨rfl,_⟩ | ⟨a,len,cap,m,n,D,Pl,rfl,hb,hl,hm,hmm,_,hx⟩
 ·exact ⟨[],none,0,rfl,Has.nil,fun z hz=>by simp at hz⟩
 ·have hle:len≤m:=by rw [hmm];split <;> omega
  have key:∀ k,k≤len→∃ v:List α,v.length=k∧(∀ z∈v,okα z)∧∀ i (hi:i < v.length),w.cells? base (a.add (i*sz)) sz=some (en v[i]):=by
   intro k
   induction k with
   | zero=>intro _;exact ⟨[],rfl,fun z hz=>by simp at hz,fun i hi=>by simp at hi⟩
   | succ k ih =>
    intro hk
    obtain ⟨v,h1,h2,h3⟩:=ih (by omega)
    obtain ⟨cs',h4,h5⟩:=hx k (by omega)
    obtain ⟨z,rfl,hz⟩:=hel h5
    rw [hsz] at h4
    refine ⟨v++[z],by simp [h1],fun y hy=>?_,fun i hi=>?_⟩
    ·rcases List.mem_append.1 hy with hy | hy
     ·exact h2 y hy
     ·simp at hy;subst hy;exact hz
    ·simp at hi
     rcases Nat.lt_or_ge i v.length with hlt | hge
     ·rw [List.getElem_append_left hlt];exact h3 i hlt
     ·have:i=k:=by omega
      subst this
      rw [List.getElem_append_right hge]
      simp [h1];exact h4
  obtain ⟨v,h1,h2,h3⟩:=key len (Nat.le_refl _)
  subst h1
  have hesz:∀ z∈v,(en z).length=sz:=by
   intro z hz
   obtain ⟨i,hi,rfl⟩:=List.getElem_of_mem hz
   exact (World.cells?_some (h3 i hi)).2.1
  have hsl:Sl w (some a) v.length cap sz en v:=by
   refine ⟨rfl,hl,hm,hesz,fun hn=>?_⟩
   have hsp:a.spot=none:=by
    have h4:=(World.cells?_some (h3 0 hn)).2.2 0 hp
    have h5:(en v[0])[0]? = some ((en v[0])[0]'(by rw [hesz _ (List.getElem_mem hn)];exact hp)):=List.getElem?_eq_getElem _
    rw [h5] at h4
    simp only [Nat.zero_mul,Addr.add,if_true] at h4
    unfold World.cell? at h4
    split at h4
    ·split at h4
     ·cases h4
     ·rename_i hs;simpa using hs
    ·cases h4
   obtain ⟨b,o,sp⟩:=a
   have hsp:sp=none:=hsp
   subst hsp
   refine ⟨b,o,rfl,fun i hi j u hu=>?_⟩
   have hj:j < sz:=by rw [← hesz _ (List.getElem_mem hi)];exact (List.getElem?_eq_some_iff.1 hu).1
   have h4:=(World.cells?_some (h3 i hi)).2.2 j hj
   rw [hu,Addr.add_lit,Addr.add_lit] at h4
   exact h4
  exact ⟨v,some a,cap,rfl,hsl.has,h2⟩
end
theorem okOld (w:World):∀ e∈[Ent.old w],Ent.ok w e:=fun e he=>by simp at he;subst he;exact ⟨Below.refl _ _,Nat.le_refl _⟩
end Go.Proofs.YtbkobeeileemjaaGreat
