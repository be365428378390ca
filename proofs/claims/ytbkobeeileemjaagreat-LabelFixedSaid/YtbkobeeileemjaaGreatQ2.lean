/- Walks of the program, with their plain functions: the reference's points by their Ids. -/
import Derived.Test.YtbkobeeileemjaaGreatQ1
namespace Go.Proofs.YtbkobeeileemjaaGreat
open Go Go.RowKit
theorem bld32_0i641i64 (x0:Int) (x1:Int):BuildOf Tryz.prog 32 [(0,.int .i64 x0),(1,.int .i64 x1)] [.int .i64 x0,.int .i64 x1]:=fun w=>by kernel_rfl
instance (x0:Int) (x1:Int):BuildI Tryz.prog 32 [(0,.int .i64 x0),(1,.int .i64 x1)] [.int .i64 x0,.int .i64 x1]:=⟨bld32_0i641i64 _ _⟩
theorem bld66_0i643ai64i645i646i64 (x0:Int) (x1:Int) (x2:Int) (x3:Int) (x4:Int):BuildOf Tryz.prog 66 [(0,.int .i64 x0),(3,.agg #[.int .i64 x1,.int .i64 x2]),(5,.int .i64 x3),(6,.int .i64 x4)] [.int .i64 x0,.int .i64 (0),.int .i64 (0),.int .i64 x1,.int .i64 x2,.int .i64 (0),.int .i64 x3,.int .i64 x4,.int .i64 (0)]:=fun w=>by kernel_rfl
instance (x0:Int) (x1:Int) (x2:Int) (x3:Int) (x4:Int):BuildI Tryz.prog 66 [(0,.int .i64 x0),(3,.agg #[.int .i64 x1,.int .i64 x2]),(5,.int .i64 x3),(6,.int .i64 x4)] [.int .i64 x0,.int .i64 (0),.int .i64 (0),.int .i64 x1,.int .i64 x2,.int .i64 (0),.int .i64 x3,.int .i64 x4,.int .i64 (0)]:=⟨bld66_0i643ai64i645i646i64 _ _ _ _ _⟩
theorem bld66_0i641i642i643ai64i645i646i64 (x0:Int) (x1:Int) (x2:Int) (x3:Int) (x4:Int) (x5:Int) (x6:Int):BuildOf Tryz.prog 66 [(0,.int .i64 x0),(1,.int .i64 x1),(2,.int .i64 x2),(3,.agg #[.int .i64 x3,.int .i64 x4]),(5,.int .i64 x5),(6,.int .i64 x6)] [.int .i64 x0,.int .i64 x1,.int .i64 x2,.int .i64 x3,.int .i64 x4,.int .i64 (0),.int .i64 x5,.int .i64 x6,.int .i64 (0)]:=fun w=>by kernel_rfl
instance (x0:Int) (x1:Int) (x2:Int) (x3:Int) (x4:Int) (x5:Int) (x6:Int):BuildI Tryz.prog 66 [(0,.int .i64 x0),(1,.int .i64 x1),(2,.int .i64 x2),(3,.agg #[.int .i64 x3,.int .i64 x4]),(5,.int .i64 x5),(6,.int .i64 x6)] [.int .i64 x0,.int .i64 x1,.int .i64 x2,.int .i64 x3,.int .i64 x4,.int .i64 (0),.int .i64 x5,.int .i64 x6,.int .i64 (0)]:=⟨bld66_0i641i642i643ai64i645i646i64 _ _ _ _ _ _ _⟩
theorem bld66_0i641i643ai64i645i646i64 (x0:Int) (x1:Int) (x2:Int) (x3:Int) (x4:Int) (x5:Int):BuildOf Tryz.prog 66 [(0,.int .i64 x0),(1,.int .i64 x1),(3,.agg #[.int .i64 x2,.int .i64 x3]),(5,.int .i64 x4),(6,.int .i64 x5)] [.int .i64 x0,.int .i64 x1,.int .i64 (0),.int .i64 x2,.int .i64 x3,.int .i64 (0),.int .i64 x4,.int .i64 x5,.int .i64 (0)]:=fun w=>by kernel_rfl
instance (x0:Int) (x1:Int) (x2:Int) (x3:Int) (x4:Int) (x5:Int):BuildI Tryz.prog 66 [(0,.int .i64 x0),(1,.int .i64 x1),(3,.agg #[.int .i64 x2,.int .i64 x3]),(5,.int .i64 x4),(6,.int .i64 x5)] [.int .i64 x0,.int .i64 x1,.int .i64 (0),.int .i64 x2,.int .i64 x3,.int .i64 (0),.int .i64 x4,.int .i64 x5,.int .i64 (0)]:=⟨bld66_0i641i643ai64i645i646i64 _ _ _ _ _ _⟩
theorem bls47_3_0ai64i64i64i64i64i64i64i64i641ai64i64i64i64i64i64i64i64i642ai64i64i64i64i64i64i64i64i64 (x0:Int) (x1:Int) (x2:Int) (x3:Int) (x4:Int) (x5:Int) (x6:Int) (x7:Int) (x8:Int) (x9:Int) (x10:Int) (x11:Int) (x12:Int) (x13:Int) (x14:Int) (x15:Int) (x16:Int) (x17:Int) (x18:Int) (x19:Int) (x20:Int) (x21:Int) (x22:Int) (x23:Int) (x24:Int) (x25:Int) (x26:Int):BuildSliceOf Tryz.prog 47 3 [(0,.agg #[.int .i64 x0,.int .i64 x1,.int .i64 x2,.int .i64 x3,.int .i64 x4,.int .i64 x5,.int .i64 x6,.int .i64 x7,.int .i64 x8]),(1,.agg #[.int .i64 x9,.int .i64 x10,.int .i64 x11,.int .i64 x12,.int .i64 x13,.int .i64 x14,.int .i64 x15,.int .i64 x16,.int .i64 x17]),(2,.agg #[.int .i64 x18,.int .i64 x19,.int .i64 x20,.int .i64 x21,.int .i64 x22,.int .i64 x23,.int .i64 x24,.int .i64 x25,.int .i64 x26])] 66 [.int .i64 x0,.int .i64 x1,.int .i64 x2,.int .i64 x3,.int .i64 x4,.int .i64 x5,.int .i64 x6,.int .i64 x7,.int .i64 x8,.int .i64 x9,.int .i64 x10,.int .i64 x11,.int .i64 x12,.int .i64 x13,.int .i64 x14,.int .i64 x15,.int .i64 x16,.int .i64 x17,.int .i64 x18,.int .i64 x19,.int .i64 x20,.int .i64 x21,.int .i64 x22,.int .i64 x23,.int .i64 x24,.int .i64 x25,.int .i64 x26]:=fun w=>by kernel_rfl
instance (x0:Int) (x1:Int) (x2:Int) (x3:Int) (x4:Int) (x5:Int) (x6:Int) (x7:Int) (x8:Int) (x9:Int) (x10:Int) (x11:Int) (x12:Int) (x13:Int) (x14:Int) (x15:Int) (x16:Int) (x17:Int) (x18:Int) (x19:Int) (x20:Int) (x21:Int) (x22:Int) (x23:Int) (x24:Int) (x25:Int) (x26:Int):BuildSI Tryz.prog 47 3 [(0,.agg #[.int .i64 x0,.int .i64 x1,.int .i64 x2,.int .i64 x3,.int .i64 x4,.int .i64 x5,.int .i64 x6,.int .i64 x7,.int .i64 x8]),(1,.agg #[.int .i64 x9,.int .i64 x10,.int .i64 x11,.int .i64 x12,.int .i64 x13,.int .i64 x14,.int .i64 x15,.int .i64 x16,.int .i64 x17]),(2,.agg #[.int .i64 x18,.int .i64 x19,.int .i64 x20,.int .i64 x21,.int .i64 x22,.int .i64 x23,.int .i64 x24,.int .i64 x25,.int .i64 x26])] 66 [.int .i64 x0,.int .i64 x1,.int .i64 x2,.int .i64 x3,.int .i64 x4,.int .i64 x5,.int .i64 x6,.int .i64 x7,.int .i64 x8,.int .i64 x9,.int .i64 x10,.int .i64 x11,.int .i64 x12,.int .i64 x13,.int .i64 x14,.int .i64 x15,.int .i64 x16,.int .i64 x17,.int .i64 x18,.int .i64 x19,.int .i64 x20,.int .i64 x21,.int .i64 x22,.int .i64 x23,.int .i64 x24,.int .i64 x25,.int .i64 x26]:=⟨bls47_3_0ai64i64i64i64i64i64i64i64i641ai64i64i64i64i64i64i64i64i642ai64i64i64i64i64i64i64i64i64 _ _ _ _ _ _ _ _ _ _ _ _ _ _ _ _ _ _ _ _ _ _ _ _ _ _ _⟩
theorem bld54_0i643i649i64 (x0:Int) (x1:Int) (x2:Int):BuildOf Tryz.prog 54 [(0,.int .i64 x0),(3,.int .i64 x1),(9,.int .i64 x2)] [.int .i64 x0,.int .i64 (0),.int .i64 (0),.int .i64 x1,.int .i64 (0),.int .i64 (0),.int .i64 (0),.int .i64 (0),.int .i64 (0),.int .i64 x2]:=fun w=>by kernel_rfl
instance (x0:Int) (x1:Int) (x2:Int):BuildI Tryz.prog 54 [(0,.int .i64 x0),(3,.int .i64 x1),(9,.int .i64 x2)] [.int .i64 x0,.int .i64 (0),.int .i64 (0),.int .i64 x1,.int .i64 (0),.int .i64 (0),.int .i64 (0),.int .i64 (0),.int .i64 (0),.int .i64 x2]:=⟨bld54_0i643i649i64 _ _ _⟩
noncomputable def lidarref07_within (p0:Int) (p1:Int) (p2:Int):Option Bool :=
 jn (fun (s2:Bool) =>
 some s2)
 (fun j2=>if p1≤p0 then (j2 (decide (p0≤p2)))
 else (j2 false))
noncomputable def lidarref01_Place (p0:S_api_XY):Option Bool :=
 jn (fun (s2:Bool) =>
 some s2)
 (fun j2=>if (-268435456)≤p0.X then (if p0.X≤268435456 then (if (-268435456)≤p0.Y then (j2 (decide (p0.Y≤268435456)))
 else (j2 false))
 else (j2 false))
 else (j2 false))
noncomputable def lidarref07_One (p0:S_api_Point):Option Bool :=
 jn (fun (s2:Bool) =>
 some s2)
 (fun j2=>bnd (lidarref07_within p0.Id 0 1152921504606846976) fun r2 =>
 if r2=true then (bnd (lidarref01_Place (⟨p0.X,p0.Y⟩:S_api_XY)) fun r7 =>
 if r7=true then (if p0.Z.Lo≤p0.Z.Hi then (if (-268435456)≤p0.Z.Lo then (if p0.Z.Hi≤268435456 then (bnd (lidarref07_within p0.Wide 0 268435456) fun r0 =>
 if r0=true then (bnd (lidarref07_within p0.Num 1 p0.Of) fun r1 =>
 if r1=true then (j2 (decide (p0.Of≤15)))
 else (j2 false))
 else (j2 false))
 else (j2 false))
 else (j2 false))
 else (j2 false))
 else (j2 false))
 else (j2 false))
noncomputable def lidarref07_Valid_l9 (s0:Int) (p0:List S_api_Point):Int→Option (Sum Int (Sum Unit Bool)):=fun s1 =>
 if s1 < s0 then (bnd (idx p0 s1) fun x0 =>
 bnd (idx p0 s0) fun x1 =>
 if x0.Id=x1.Id then (some (.inr (.inr (false))))
 else (some (.inl (w64 (s1+1)))))
 else (some (.inr (.inl ())))
noncomputable def lidarref07_Valid_l4 (p0:List S_api_Point):Int→Option (Sum Int (Sum Unit Bool)):=fun s0 =>
 if s0 < ((((p0).length:Nat):Int)) then (jn (fun (s1:Unit) =>
 some (.inl (w64 (s0+1))))
 (fun j0=>bnd (idx p0 s0) fun x0 =>
 bnd (lidarref07_One x0) fun r0 =>
 if r0=true then (bnd (lfix (lidarref07_Valid_l9 s0 p0) 0) fun t0 =>
 (match t0 with
 | (.inl z0)=>j0 z0
 | (.inr (z0))=>some (.inr (.inr (z0)))
 ))
 else (some (.inr (.inr (false))))))
 else (some (.inr (.inl ())))
noncomputable def lidarref07_Valid (p0:List S_api_Point):Option Bool :=
 if 1024 < ((((p0).length:Nat):Int)) then (some false)
 else (jn (fun (s5:Unit) =>
 some true)
 (fun j5=>bnd (lfix (lidarref07_Valid_l4 p0) 0) fun t0 =>
 (match t0 with
 | (.inl z0)=>j5 z0
 | (.inr (z0))=>some z0
 )))
noncomputable def lidarref07_ids_l6 (s0:(List Int) × Int) (p0:List S_api_Point):Int→Option (Sum Int Int):=fun s1 =>
 jn (fun (s2:Bool) =>
 if s2=true then (some (.inl (w64 (s1-1))))
 else (some (.inr s1)))
 (fun j0=>if 0 < s1 then (bnd (idx s0.1 (w64 (s1-1))) fun x0 =>
 bnd (idx p0 s0.2) fun x1 =>
 j0 (decide (x1.Id < x0)))
 else (j0 false))
noncomputable def lidarref07_ids_l3 (p0:List S_api_Point):((List Int) × Int)→Option (Sum ((List Int) × Int) (List Int)):=fun s0 =>
 if s0.2 < ((((p0).length:Nat):Int)) then (jn (fun (s1:Int) =>
 gd (0≤s1∧s1≤(((s0.1).length:Nat):Int)) <|
 bnd (idx p0 s0.2) fun x0 =>
 gd (0≤s1∧s1≤(((s0.1).length:Nat):Int)) <|
 gd ((([x0.Id]).length+(subl s0.1 s1 (((s0.1).length:Nat):Int)).length)*8≤140737488355328) <|
 gd (((subl s0.1 0 s1).length+(([x0.Id])++(subl s0.1 s1 (((s0.1).length:Nat):Int))).length)*8≤140737488355328) <|
 gd (0 < (([x0.Id])++(subl s0.1 s1 (((s0.1).length:Nat):Int))).length) <|
 some (.inl ((subl s0.1 0 s1)++(([x0.Id])++(subl s0.1 s1 (((s0.1).length:Nat):Int))),w64 (s0.2+1))))
 (fun j0=>bnd (lfix (lidarref07_ids_l6 s0 p0) (((s0.1).length:Nat):Int)) fun t0 =>
 j0 t0))
 else (some (.inr s0.1))
noncomputable def lidarref07_ids (p0:List S_api_Point):Option (List Int) :=
 jn (fun (s3:List Int) =>
 some s3)
 (fun j3=>bnd (lfix (lidarref07_ids_l3 p0) (([]:List Int),0)) fun t0 =>
 j3 t0)
noncomputable def lidarref07_Has_l2 (p0:List Int) (p1:Int):Int→Option (Sum Int (Sum Unit Bool)):=fun s0 =>
 if s0 < ((((p0).length:Nat):Int)) then (bnd (idx p0 s0) fun x0 =>
 if x0=p1 then (some (.inr (.inr (true))))
 else (some (.inl (w64 (s0+1)))))
 else (some (.inr (.inl ())))
noncomputable def lidarref07_Has (p0:List Int) (p1:Int):Option Bool :=
 jn (fun (s2:Unit) =>
 some false)
 (fun j2=>bnd (lfix (lidarref07_Has_l2 p0 p1) 0) fun t0 =>
 (match t0 with
 | (.inl z0)=>j2 z0
 | (.inr (z0))=>some z0
 ))
noncomputable def lidarref07_sorted_l7 (p0:List S_api_Point) (r1:List Int) (s0:(List S_api_Point) × Int):((List S_api_Point) × Int)→Option (Sum ((List S_api_Point) × Int) (List S_api_Point)):=fun s1 =>
 if s1.2 < ((((p0).length:Nat):Int)) then (jn (fun (s2:List S_api_Point) =>
 some (.inl (s2,w64 (s1.2+1))))
 (fun j0=>bnd (idx p0 s1.2) fun x0 =>
 bnd (idx r1 s0.2) fun x1 =>
 if x0.Id=x1 then (bnd (idx p0 s1.2) fun x2 =>
 gd (((s1.1).length+1)*72≤140737488355328) <|
 j0 (s1.1++[x2]))
 else (j0 s1.1)))
 else (some (.inr s1.1))
noncomputable def lidarref07_sorted_l4 (r1:List Int) (p0:List S_api_Point):((List S_api_Point) × Int)→Option (Sum ((List S_api_Point) × Int) (List S_api_Point)):=fun s0 =>
 if s0.2 < ((((r1).length:Nat):Int)) then (jn (fun (s1:List S_api_Point) =>
 some (.inl (s1,w64 (s0.2+1))))
 (fun j0=>bnd (lfix (lidarref07_sorted_l7 p0 r1 s0) (s0.1,0)) fun t0 =>
 j0 t0))
 else (some (.inr s0.1))
noncomputable def lidarref07_sorted (p0:List S_api_Point):Option (List S_api_Point) :=
 bnd (lidarref07_ids p0) fun r1 =>
 jn (fun (s4:List S_api_Point) =>
 some s4)
 (fun j4=>bnd (lfix (lidarref07_sorted_l4 r1 p0) (([]:List S_api_Point),0)) fun t0 =>
 j4 t0)
noncomputable def lidarref07_Pick_l2 (p1:List Int):Int→Option (Sum Int (Sum Unit ((List S_api_Point) × Bool))):=fun s0 =>
 if s0 < ((((p1).length:Nat):Int)) then (gd (0≤s0∧s0≤(((p1).length:Nat):Int)) <|
 bnd (idx p1 s0) fun x0 =>
 bnd (lidarref07_Has (subl p1 0 s0) x0) fun r0 =>
 if r0=true then (some (.inr (.inr (([]:List S_api_Point),false))))
 else (some (.inl (w64 (s0+1)))))
 else (some (.inr (.inl ())))
noncomputable def lidarref07_Pick_l8 (p0:List S_api_Point) (p1:List Int):((List S_api_Point) × Int)→Option (Sum ((List S_api_Point) × Int) (List S_api_Point)):=fun s0 =>
 if s0.2 < ((((p0).length:Nat):Int)) then (jn (fun (s1:List S_api_Point) =>
 some (.inl (s1,w64 (s0.2+1))))
 (fun j0=>bnd (idx p0 s0.2) fun x0 =>
 bnd (lidarref07_Has p1 x0.Id) fun r0 =>
 if r0=true then (bnd (idx p0 s0.2) fun x1 =>
 gd (((s0.1).length+1)*72≤140737488355328) <|
 j0 (s0.1++[x1]))
 else (j0 s0.1)))
 else (some (.inr s0.1))
noncomputable def lidarref07_Pick (p0:List S_api_Point) (p1:List Int):Option ((List S_api_Point) × Bool) :=
 jn (fun (s2:Unit) =>
 jn (fun (s0:List S_api_Point) =>
 if ((((s0).length:Nat):Int))=((((p1).length:Nat):Int)) then (bnd (lidarref07_sorted s0) fun r0 =>
 some (r0,true))
 else (some (([]:List S_api_Point),false)))
 (fun j0=>bnd (lfix (lidarref07_Pick_l8 p0 p1) (([]:List S_api_Point),0)) fun t0 =>
 j0 t0))
 (fun j2=>bnd (lfix (lidarref07_Pick_l2 p1) 0) fun t1 =>
 (match t1 with
 | (.inl z0)=>j2 z0
 | (.inr (z0))=>some z0
 ))
noncomputable def lidarref07_ValidRules (p0:S_api_Terrain):Option Bool :=
 jn (fun (s2:Bool) =>
 some s2)
 (fun j2=>bnd (lidarref07_within p0.Cell 1 10000000) fun r2 =>
 if r2=true then (bnd (lidarref07_within p0.Reach 0 1000000) fun r7 =>
 if r7=true then (bnd (lidarref07_within p0.Slope 0 100000) fun r0 =>
 if r0=true then (bnd (lidarref07_within p0.Link 1 1000000) fun r1 =>
 if r1=true then (bnd (lidarref07_within p0.Flat 0 1000000) fun r3 =>
 if r3=true then (bnd (lidarref07_within p0.Tall 0 1000000) fun r4 =>
 if r4=true then (bnd (lidarref07_within p0.High 0 1000000) fun r5 =>
 if r5=true then (bnd (lidarref07_within p0.Low 0 1000000) fun r6 =>
 if r6=true then (bnd (lidarref07_within p0.Brush 0 1000000) fun r8 =>
 if r8=true then (bnd (lidarref07_within p0.Few 1 1024) fun r9 =>
 j2 r9)
 else (j2 false))
 else (j2 false))
 else (j2 false))
 else (j2 false))
 else (j2 false))
 else (j2 false))
 else (j2 false))
 else (j2 false))
 else (j2 false))
noncomputable def lidarlaw07_first  : Option Bool :=
 bnd (label_Within ([(⟨0,0⟩:S_api_XY),(⟨4,0⟩:S_api_XY),(⟨4,4⟩:S_api_XY),(⟨0,4⟩:S_api_XY)]) (⟨4,2⟩:S_api_XY)) fun r3 =>
 bnd (label_Within ([(⟨0,0⟩:S_api_XY),(⟨4,0⟩:S_api_XY),(⟨4,4⟩:S_api_XY),(⟨0,4⟩:S_api_XY)]) (⟨5,2⟩:S_api_XY)) fun r7 =>
 bnd (label_Seeds ([(⟨1,0,0,(⟨3,3⟩:S_api_Span),0,1,1,0⟩:S_api_Point),(⟨2,5,5,(⟨1,1⟩:S_api_Span),0,1,1,0⟩:S_api_Point),(⟨3,12,0,(⟨2,2⟩:S_api_Span),0,1,1,0⟩:S_api_Point)]) (⟨10,0,0,1,0,0,0,0,0,1⟩:S_api_Terrain)) fun r0 =>
 jn (fun (s6:Bool) =>
 some s6)
 (fun j6=>if r3.2=0 then (if r7.2=0 then (if r3.1=true then (if r7.1=true then (j6 false)
 else (if r0.2=0 then (if ((((r0.1).length:Nat):Int))=2 then (bnd (idx r0.1 0) fun x0 =>
 if x0=2 then (bnd (idx r0.1 1) fun x1 =>
 j6 (decide (x1=3)))
 else (j6 false))
 else (j6 false))
 else (j6 false)))
 else (j6 false))
 else (j6 false))
 else (j6 false))
noncomputable def lidarlaw07_sameInts_l4 (p0:List Int) (p1:List Int):Int→Option (Sum Int (Sum Unit Bool)):=fun s0 =>
 if s0 < ((((p0).length:Nat):Int)) then (bnd (idx p0 s0) fun x0 =>
 bnd (idx p1 s0) fun x1 =>
 if x0=x1 then (some (.inl (w64 (s0+1))))
 else (some (.inr (.inr (false)))))
 else (some (.inr (.inl ())))
noncomputable def lidarlaw07_sameInts (p0:List Int) (p1:List Int):Option Bool :=
 if ((((p0).length:Nat):Int))=((((p1).length:Nat):Int)) then (jn (fun (s5:Unit) =>
 some true)
 (fun j5=>bnd (lfix (lidarlaw07_sameInts_l4 p0 p1) 0) fun t0 =>
 (match t0 with
 | (.inl z0)=>j5 z0
 | (.inr (z0))=>some z0
 )))
 else (some false)
noncomputable def lidarlaw07_good (p0:List S_api_Point) (p1:S_api_Terrain) (p2:Int):Option Bool :=
 jn (fun (s2:Bool) =>
 some s2)
 (fun j2=>if ((((p0).length:Nat):Int))≤p2 then (bnd (lidarref07_Valid p0) fun r4 =>
 if r4=true then (bnd (lidarref07_ValidRules p1) fun r9 =>
 j2 r9)
 else (j2 false))
 else (j2 false))
set_option maxRecDepth 100000 in
instance lidarref07_within_c (p0:Int) (p1:Int) (p2:Int):Con (lidarref07_within p0 p1 p2) Tryz.prog 150 (fun _ vs=>vs=[.int .i64 (p0),.int .i64 (p1),.int .i64 (p2)]) (fun _ r=>fun v Ln=>v = .bool (r)∧Ln=[]∧True):=⟨by
 rintro _ _ r rfl hx w hK;unfold lidarref07_within at hx;refine CtS Tryz.ntmps150 Tryz.results150 ?_;exact au⟩
set_option maxRecDepth 100000 in
instance lidarref01_Place_c (p0:S_api_XY):Con (lidarref01_Place p0) Tryz.prog 169 (fun _ vs=>vs=[.agg #[.int .i64 (p0.X),.int .i64 (p0.Y)]]) (fun _ r=>fun v Ln=>v = .bool (r)∧Ln=[]∧True):=⟨by
 rintro _ _ r rfl hx w hK;unfold lidarref01_Place at hx;refine CtS Tryz.ntmps169 Tryz.results169 ?_;exact au⟩
set_option maxHeartbeats 1000000 in
set_option maxRecDepth 100000 in
instance lidarref07_One_c (p0:S_api_Point):Con (lidarref07_One p0) Tryz.prog 89 (fun _ vs=>vs=[.agg #[.int .i64 (p0.Id),.int .i64 (p0.X),.int .i64 (p0.Y),.int .i64 (p0.Z.Lo),.int .i64 (p0.Z.Hi),.int .i64 (p0.Wide),.int .i64 (p0.Num),.int .i64 (p0.Of),.int .i64 (p0.Class)]]) (fun _ r=>fun v Ln=>v = .bool (r)∧Ln=[]∧True):=⟨by
 rintro _ _ r rfl hx w hK;unfold lidarref07_One at hx;refine CtS Tryz.ntmps89 Tryz.results89 ?_;refine pre ?_;intros;rename_i hx
 refine T_seq ?_;refine pre ?_;intros;rename_i hx
 apply Jr (γ:=Unit) hx [] (fun s2 y2 f=>(2,.bool (s2))::f) [999] (fun s2 y2 l=>l);exact kk
 ·intro s2 y2 hx;exact au
 ·intro _ hx;refine pre ?_;intros;rename_i hx
  refine Cq3 (s:=6) hx rfl (fun _ hx=>?_) (fun _ hx=>?_)
  ·refine pre ?_;intros;rename_i hx
   refine Cq3 (s:=14) hx rfl (fun _ hx=>?_) (fun _ hx=>?_)
   ·exact au
   ·exact au
  ·exact au⟩
set_option maxHeartbeats 1000000 in
set_option maxRecDepth 100000 in
instance lidarref07_Valid_c (p0:List S_api_Point):Con (lidarref07_Valid p0) Tryz.prog 42 (fun K vs=>∃ (A0_0:Option Addr) (c0_0:Nat),vs=[.slice (A0_0) ((p0).length) (c0_0)]∧Has K A0_0 (p0).length c0_0 9 e_api_Point (p0)∧True) (fun _ r=>fun v Ln=>v = .bool (r)∧Ln=[]∧True):=⟨by
 rintro K _ r ⟨A0_0,c0_0,rfl,ha0,-⟩ hx w hK;replace ha0:=Has.lo ha0 hK;unfold lidarref07_Valid at hx;have:=dl 11 [0,0,0,0,1,0,0,0,0,1,0] [0,1,2,3,4,5,6,7,8,9,10];refine CtS Tryz.ntmps42 Tryz.results42 ?_;refine pre ?_;intros;rename_i hx
 refine Cq1 (s:=7) hx rfl (fun _ hx=>?_) (fun _ hx=>?_)
 ·exact au
 ·refine pre ?_;intros;rename_i hx
  apply Jr (γ:=Unit) hx [] (fun s5 y5 f=>f) [999] (fun s5 y5 l=>l);exact kk
  ·intro s5 y5 hx;exact au
  ·intro _ hx;refine pre ?_;intros;rename_i hx
   apply Lr (γ:=Unit) hx [0] (fun s85 y85 f=>(3,.int .i64 (s85))::f) [999] (fun s85 y85 l=>l) ();exact kk;exact sk;intro s85 y85 x85 hx _;unfold lidarref07_Valid_l4 at hx
   refine pre ?_;intros;rename_i hx
   refine Cq1 (s:=11) hx rfl (fun _ hx=>?_) (fun _ hx=>?_)
   ·refine pre ?_;intros;rename_i hx
    apply Jr (γ:=Unit) hx [0,3] (fun s26 y26 f=>f) [999] (fun s26 y26 l=>l);exact kk
    ·intro s26 y26 hx;exact au
    ·intro _ hx;refine pre ?_;intros;rename_i hx
     refine Cq4 (s:=19) hx rfl (fun _ hx=>?_) (fun _ hx=>?_)
     ·exact au
     ·refine pre ?_;intros;rename_i hx
      apply Lr (γ:=Unit) hx [0,3] (fun s135 y135 f=>(4,.int .i64 (s135))::f) [999] (fun s135 y135 l=>l) ();exact kk;exact sk;intro s135 y135 x135 hx _;unfold lidarref07_Valid_l9 at hx
      exact au
   ·exact au⟩
set_option maxRecDepth 100000 in
theorem lidarref07_ids_ok (p0:List S_api_Point) {K:List Ent} {A0_0:Option Addr} {c0_0:Nat} (ha0:Has K A0_0 p0.length c0_0 9 e_api_Point (p0)) {r:List Int} (hx:lidarref07_ids p0=some r) (w:World) (hK:∀ e∈K,Ent.ok w e):CtL Tryz.prog 71 [.slice (A0_0) (p0.length) (c0_0)] w fun v Ln=>∃ (A0:Option Addr) (c0:Nat),v = .slice (A0) (r.length) (c0)∧Ln=[.r A0 r.length c0 3 1 (r.flatMap e_i64)]∧True:=by
 have ha0':=Has.up0 ha0;refine CtL.mk 47 Tryz.func71 rfl Tryz.ntmps71 (by kernel_rfl) rfl ?_;show T 47 _ [(0,.slice (A0_0) (p0.length) (c0_0))] _;unfold lidarref07_ids at hx;refine Y10 ?_;refine Tj (γ:=(Option Addr) × Nat) hx (fun s3 y3=>[(3,.slice (y3.1) (s3.length) (y3.2))]) (fun s3 y3=>[.r (y3.1) (s3.length) (y3.2) 3 1 (s3.flatMap e_i64)]++[.old w]) (fun s3 y3=>True) (fun s3 y3 hx0 hG0=>?_) (fun j3 hx=>?_)
 ·refine Y7 ?_;obtain rfl:=Option.some.inj hx0;exact T_retP (rs:=[.tmp 2]) Tryz.results71 (.tmp rfl (.nil)) (Ln:=[.r (y3.1) (s3.length) (y3.2) 3 1 (s3.flatMap e_i64)]) ⟨y3.1,y3.2,rfl,rfl,trivial⟩ (loCons rfl (loNil)) (by exact .pick 0 rfl (.refl))
 ·refine Y6 ?_;obtain ⟨t0,hl0,ho0⟩:=bnd_some hx;refine T_none 3 1 ?_
  have hn0:0=(([]:List Int)).length:=by simp [setI_len,cpy_len,List.length_append] <;> omega
  refine T_ent (.here) (e':=.r (none) ((([]:List Int)).length) (0) 3 1 ((([]:List Int)).flatMap e_i64)) (by first | (rw [← hn0];done) | rfl) ?_;refine Lp (σ:=(List Int) × Int) (γ:=(Option Addr) × Nat) hl0 (fun s0 y0=>[(0,.slice (A0_0) (p0.length) (c0_0)),(3,.slice (y0.1) (s0.1.length) (y0.2)),(4,.int .i64 (s0.2))]) (fun s0 y0=>[.r (y0.1) (s0.1.length) (y0.2) 3 1 (s0.1.flatMap e_i64)]++[.old w]) (fun s0 y0=>True) (none,0) trivial (by exact .pick 0 rfl (.refl)) ?_;intro s0 y0 hG1 x0 hx1 ht0;unfold lidarref07_ids_l3 at hx1;refine Y5 ?_;refine T_val (Ev_len rfl 66 Tryz.underlying47) rfl ?_;refine Y3 ?_;refine Ti hx1 (s:=9) rfl (fun h0 hx2=>?_) (fun h0 hx3=>?_)
  ·refine Y8 ?_;refine T_val (Ev_len rfl 3 Tryz.underlying48) rfl ?_;refine Y3 ?_;refine Tj (γ:=Unit) hx2 (fun s1 y1=>[(0,.slice (A0_0) (p0.length) (c0_0)),(3,.slice (y0.1) (s0.1.length) (y0.2)),(4,.int .i64 (s0.2)),(5,.int .i64 (s1))]) (fun s1 y1=>[.r (y0.1) (s0.1.length) (y0.2) 3 1 (s0.1.flatMap e_i64)]++[.old w]) (fun s1 y1=>True) (fun s1 y1 hx4 hG2=>?_) (fun j0 hx2=>?_)
   ·refine T_dr [0,0,0,0,0,0,0,0,1,2,0,0,0,3,3,2] (.q 0 (.q 1 (.q 2 (.q 3 (.q 4 (.q 5 (.q 6 (.q 7 (.q 8 (.q 10 (.q 11 (.q 12 (.e 9 (.e 13 (.e 14 (.e 15 (.done) (.stop)) (.stop)) (.stop)) (.stop)))))))))))))) mixed (by kernel_rfl) (by kernel_rfl) ?_;refine Y3 ?_;refine T_rowP (k:=0) rfl (by decide) (fun _=>rfl) (fun hn1 hs0=>?_);obtain ⟨h1,hx5⟩:=gd_some hx4;have hs1:=Has.subHM hs0 h1.1 h1.2;refine P_p rfl rfl (Ev_subHM rfl rfl rfl slc48 h1.1 (by have:=Has.nc hs0;omega)) rfl ?_;refine Y2 ?_;obtain ⟨x1,h2,hx6⟩:=bnd_some hx5;have hw0:=Has.low (E:=[]) ha0' hK;obtain ⟨b0,o0,j1,hA0,hj0,hl1,hp0⟩:=Has.at_idx hw0 h2;refine P_p rfl rfl (Ev_index rfl rfl hA0 (j:=j1) hj0 hl1 slc47) rfl ?_;refine P_p rfl rfl (Ev_field rfl fld66_0 rfl) rfl ?_;refine P_q rfl rfl (Ev_loadP1 (d:=0) rfl hp0 (sb 1) rfl one3) rfl ?_;refine Y2 ?_;refine T_rowP (k:=0) rfl (by decide) (fun _=>rfl) (fun hn2 hs2=>?_);obtain ⟨h3,hx7⟩:=gd_some hx6;have hs3:=Has.subL hs2 h3.1 h3.2;refine P_p rfl rfl (Ev_subL rfl rfl slc48 h3.1 h3.2) rfl ?_;refine P_x rfl (Wx_buildSlice rfl (bls48_1_0i64 _) rfl (fun g0=>?_)) ?_;rotate_left;exact P_stop;refine T_mr (enc:=e_i64) (sz:=1) ([x1.Id]) (.here) rfl rfl (fun _=>rfl) (by show 1≤maxLen;decide) ?_;obtain ⟨h4,hx8⟩:=gd_some hx7;refine P_h rfl rfl (Wh_appendH e_i64 ([x1.Id]) (subl s0.1 s1 ((s0.1.length:Nat):Int)) rfl rfl elm48 (fun _=>rfl) hs3 (sb 1) (fun _=>rfl) h4 rfl (fun _ _=>.here) (by decide) (fun A1 c1=>?_)) ?_
    rotate_left;exact P_stop;refine T_rowP (k:=0) rfl (by decide) (fun _=>rfl) (fun hn3 hs4=>?_);obtain ⟨h5,hx9⟩:=gd_some hx8;obtain ⟨h6,hx10⟩:=gd_some hx9;refine P_h rfl rfl (Wh_appendF e_i64 (subl s0.1 0 s1) (([x1.Id])++(subl s0.1 s1 ((s0.1.length:Nat):Int))) rfl rfl elm48 (fun _=>rfl) (Has.up (L:=([.r (y0.1) (s0.1.length) (y0.2) 3 1 (s0.1.flatMap e_i64),.r (A1) ((([x1.Id])++(subl s0.1 s1 ((s0.1.length:Nat):Int))).length) (c1) 3 1 ((([x1.Id])++(subl s0.1 s1 ((s0.1.length:Nat):Int))).flatMap e_i64)]:List Ent)) hs1 (sb 0)) (Has.up (L:=([.r (y0.1) (s0.1.length) (y0.2) 3 1 (s0.1.flatMap e_i64),.r (A1) ((([x1.Id])++(subl s0.1 s1 ((s0.1.length:Nat):Int))).length) (c1) 3 1 ((([x1.Id])++(subl s0.1 s1 ((s0.1.length:Nat):Int))).flatMap e_i64)]:List Ent)) hs4 (sb 1)) (SubE.cons2 (i:=1) rfl (sb 0)) (List.length_pos_iff.1 h6) h5 rfl (by decide) (fun A2 c2=>?_)) ?_;rotate_left;exact P_stop;refine P_x rfl (Wx_val (Ev_assign rfl) rfl ?_) ?_;rotate_left;exact P_stop;refine Y8 ?_;exact Rp ((subl s0.1 0 s1)++(([x1.Id])++(subl s0.1 s1 ((s0.1.length:Nat):Int))),w64 (s0.2+1)) (A2,c2) hx10 trivial (by exact .pick 0 rfl (.drop 0 rfl (.drop 0 rfl (.refl))))
   ·refine Y ?_;obtain ⟨t1,hl2,ho1⟩:=bnd_some hx2;refine Lp (σ:=Int) (γ:=Unit) hl2 (fun s2 y2=>[(0,.slice (A0_0) (p0.length) (c0_0)),(3,.slice (y0.1) (s0.1.length) (y0.2)),(4,.int .i64 (s0.2)),(5,.int .i64 (s2))]) (fun s2 y2=>[.r (y0.1) (s0.1.length) (y0.2) 3 1 (s0.1.flatMap e_i64)]++[.old w]) (fun s2 y2=>True) () trivial (by exact .pick 0 rfl (.refl)) ?_;intro s2 y2 hG3 x2 hx11 ht1;unfold lidarref07_ids_l6 at hx11;refine Y ?_;refine Tj (γ:=Unit) hx11 (fun s4 y4=>[(0,.slice (A0_0) (p0.length) (c0_0)),(3,.slice (y0.1) (s0.1.length) (y0.2)),(4,.int .i64 (s0.2)),(5,.int .i64 (s2)),(28,.bool (s4))]) (fun s4 y4=>[.r (y0.1) (s0.1.length) (y0.2) 3 1 (s0.1.flatMap e_i64)]++[.old w]) (fun s4 y4=>True) (fun s4 y4 hx12 hG4=>?_) (fun j2 hx11=>?_)
    ·refine T_caseB (s:=28) rfl (fun h7=>?_) (fun h7=>?_)
     ·have hx13:=ite_t h7 hx12;refine Y10 ?_;exact Rp (w64 (s2-1)) () hx13 trivial (by exact .pick 0 rfl (.refl))
     ·have hx14:=ite_bf h7 hx12;refine Y3 ?_;obtain rfl:=exit_eq ht1 hx14;refine Y2 ?_;exact Mt s2 () ho1 trivial (by exact .pick 0 rfl (.refl))
    ·refine T_dr [0,0,0,0,0,0,0,1,0,0,0,0,1,0,0] (.q 0 (.q 1 (.q 2 (.q 3 (.q 4 (.q 5 (.q 6 (.q 7 (.q 8 (.q 9 (.q 10 (.q 11 (.q 12 (.q 13 (.q 14 (.done)))))))))))))))) mixed (by kernel_rfl) (by kernel_rfl) ?_;refine Y3 ?_;refine Ti hx11 (s:=16) rfl (fun h8 hx15=>?_) (fun h8 hx16=>?_)
     ·refine Y3 ?_;obtain ⟨x3,h9,hx17⟩:=bnd_some hx15;refine T_idxR (k:=0) rfl (by decide) (fun _=>rfl) h9 (fun b1 j4 hA1 hj1 hl3 hm0 hp1=>?_);refine P_pG rfl rfl rfl rfl rfl (Ev_index rfl rfl hA1 (j:=j4) hj1 hl3 slc48) rfl ?_;refine P_qG rfl rfl rfl rfl rfl (Ev_loadP0 rfl hp1 (sb 0) rfl one3) rfl ?_;refine Y2 ?_;obtain ⟨x4,h10,hx18⟩:=bnd_some hx17;have hw1:=Has.low (E:=[]) ha0' hK;obtain ⟨b2,o1,j5,hA2,hj2,hl4,hp2⟩:=Has.at_idx hw1 h10;refine P_pG rfl rfl rfl rfl rfl (Ev_index rfl rfl hA2 (j:=j5) hj2 hl4 slc47) rfl ?_;refine P_pG rfl rfl rfl rfl rfl (Ev_field rfl fld66_0 rfl) rfl ?_;refine P_qG rfl rfl rfl rfl rfl (Ev_loadP1 (d:=0) rfl hp2 (sb 1) rfl one3) rfl ?_;refine Y3 ?_;exact Mt (decide (x4.Id < x3)) () hx18 trivial (by exact .pick 0 rfl (.refl))
     ·(iterate 13 refine Y ?_);exact Mt false () hx16 trivial (by exact .pick 0 rfl (.refl))
  ·refine Y3 ?_;obtain rfl:=exit_eq ht0 hx3;refine Y2 ?_;exact Mt s0.1 (y0.1,y0.2) ho0 trivial (by exact .pick 0 rfl (.refl))
set_option maxHeartbeats 1000000 in
set_option maxRecDepth 100000 in
instance lidarref07_ids_c (p0:List S_api_Point):Con (lidarref07_ids p0) Tryz.prog 71 (fun K vs=>∃ (A0_0:Option Addr) (c0_0:Nat),vs=[.slice (A0_0) ((p0).length) (c0_0)]∧Has K A0_0 (p0).length c0_0 9 e_api_Point (p0)∧True) (fun _ r=>fun v Ln=>∃ (A0:Option Addr) (c0:Nat),v = .slice (A0) ((r).length) (c0)∧Ln=[.r A0 (r).length c0 3 1 ((r).flatMap e_i64)]∧True):=⟨by
 rintro K _ r ⟨A0_0,c0_0,rfl,ha0,-⟩ hx w hK;exact lidarref07_ids_ok p0 ha0 hx w hK⟩
set_option maxHeartbeats 1000000 in
set_option maxRecDepth 100000 in
instance lidarref07_Has_c (p0:List Int) (p1:Int):Con (lidarref07_Has p0 p1) Tryz.prog 36 (fun K vs=>∃ (A0_0:Option Addr) (c0_0:Nat),vs=[.slice (A0_0) ((p0).length) (c0_0),.int .i64 (p1)]∧Has K A0_0 (p0).length c0_0 1 e_i64 (p0)∧True) (fun _ r=>fun v Ln=>v = .bool (r)∧Ln=[]∧True):=⟨by
 rintro K _ r ⟨A0_0,c0_0,rfl,ha0,-⟩ hx w hK;replace ha0:=Has.lo ha0 hK;unfold lidarref07_Has at hx;refine CtS Tryz.ntmps36 Tryz.results36 ?_;refine pre ?_;intros;rename_i hx
 refine T_seq ?_;refine pre ?_;intros;rename_i hx
 apply Jr (γ:=Unit) hx [] (fun s2 y2 f=>f) [999] (fun s2 y2 l=>l);exact kk
 ·intro s2 y2 hx;exact au
 ·intro _ hx;refine pre ?_;intros;rename_i hx
  apply Lr (γ:=Unit) hx [0,1] (fun s0 y0 f=>(5,.int .i64 (s0))::f) [999] (fun s0 y0 l=>l) ();exact kk;exact sk;intro s0 y0 x0 hx _;unfold lidarref07_Has_l2 at hx
  exact au⟩
set_option maxHeartbeats 1000000 in
set_option maxRecDepth 100000 in
instance lidarref07_sorted_c (p0:List S_api_Point):Con (lidarref07_sorted p0) Tryz.prog 80 (fun K vs=>∃ (A0_0:Option Addr) (c0_0:Nat),vs=[.slice (A0_0) ((p0).length) (c0_0)]∧Has K A0_0 (p0).length c0_0 9 e_api_Point (p0)∧True) (fun _ r=>fun v Ln=>∃ (A0:Option Addr) (c0:Nat),v = .slice (A0) ((r).length) (c0)∧Ln=[.r A0 (r).length c0 66 9 ((r).flatMap e_api_Point)]∧True):=⟨by
 rintro K _ r ⟨A0_0,c0_0,rfl,ha0,-⟩ hx w hK;replace ha0:=Has.lo ha0 hK;unfold lidarref07_sorted at hx;have:=dl 9 [0,0,0,0,1,0,0,0,1,0] [0,1,2,3,4,5,6,7,8,9];refine CtS Tryz.ntmps80 Tryz.results80 ?_;refine pre ?_;intros;rename_i hx
 refine T_seq ?_;refine pre ?_;intros;rename_i hx
 apply Jr (γ:=(Option Addr) × Nat) hx [] (fun s4 y4 f=>(4,.slice (y4.1) ((s4).length) (y4.2))::f) [999] (fun s4 y4 l=>.r (y4.1) ((s4).length) (y4.2) 66 9 ((s4).flatMap e_api_Point)::l);exact kk
 ·intro s4 y4 hx;exact au
 ·intro _ hx;refine pre ?_;intros;rename_i hx
  refine T_none 66 9 ?_
  apply Lr (γ:=(Option Addr) × Nat) hx [0,3] (fun s0 y0 f=>(4,.slice (y0.1) ((s0.1).length) (y0.2))::(5,.int .i64 (s0.2))::f) [1,999] (fun s0 y0 l=>.r (y0.1) ((s0.1).length) (y0.2) 66 9 ((s0.1).flatMap e_api_Point)::l) (_,_);exact kk;exact sk;intro s0 y0 x0 hx _;unfold lidarref07_sorted_l4 at hx
  refine pre ?_;intros;rename_i hx
  refine Cq1 (s:=12) hx rfl (fun _ hx=>?_) (fun _ hx=>?_)
  ·refine pre ?_;intros;rename_i hx
   apply Jr (γ:=(Option Addr) × Nat) hx [0,3,5] (fun s1 y1 f=>(4,.slice (y1.1) ((s1).length) (y1.2))::f) [1,999] (fun s1 y1 l=>.r (y1.1) ((s1).length) (y1.2) 66 9 ((s1).flatMap e_api_Point)::l);exact kk
   ·intro s1 y1 hx;exact au
   ·intro _ hx;refine pre ?_;intros;rename_i hx
    apply Lr (γ:=(Option Addr) × Nat) hx [0,3,5] (fun s2 y2 f=>(4,.slice (y2.1) ((s2.1).length) (y2.2))::(6,.int .i64 (s2.2))::f) [1,999] (fun s2 y2 l=>.r (y2.1) ((s2.1).length) (y2.2) 66 9 ((s2.1).flatMap e_api_Point)::l) (_,_);exact kk;exact sk;intro s2 y2 x1 hx _;unfold lidarref07_sorted_l7 at hx
    exact au
  ·exact au⟩
set_option maxHeartbeats 1000000 in
set_option maxRecDepth 100000 in
instance lidarref07_Pick_c (p0:List S_api_Point) (p1:List Int):Con (lidarref07_Pick p0 p1) Tryz.prog 37 (fun K vs=>∃ (A0_0:Option Addr) (c0_0:Nat) (A0_1:Option Addr) (c0_1:Nat),vs=[.slice (A0_0) ((p0).length) (c0_0),.slice (A0_1) ((p1).length) (c0_1)]∧Has K A0_0 (p0).length c0_0 9 e_api_Point (p0)∧Has K A0_1 (p1).length c0_1 1 e_i64 (p1)∧True) (fun _ r=>fun v Ln=>∃ (A0:Option Addr) (c0:Nat),v = .tuple #[.slice (A0) ((r.1).length) (c0),.bool (r.2)]∧Ln=[.r A0 (r.1).length c0 66 9 ((r.1).flatMap e_api_Point)]∧True):=⟨by
 rintro K _ r ⟨A0_0,c0_0,A0_1,c0_1,rfl,ha0,ha1,-⟩ hx w hK;replace ha0:=Has.lo ha0 hK;replace ha1:=Has.lo ha1 hK;unfold lidarref07_Pick at hx;have:=dl 4 [0,0,0,0,0,0,1,2] [0,1,2,3,4,5,6,7];refine CtS Tryz.ntmps37 Tryz.results37 ?_;refine pre ?_;intros;rename_i hx
 refine T_seq ?_;refine pre ?_;intros;rename_i hx
 apply Jr (γ:=Unit) hx [0,1] (fun s2 y2 f=>f) [999] (fun s2 y2 l=>l);exact kk
 ·intro s2 y2 hx;refine pre ?_;intros;rename_i hx
  refine T_seq ?_;refine pre ?_;intros;rename_i hx
  apply Jr (γ:=(Option Addr) × Nat) hx [1] (fun s0 y0 f=>(7,.slice (y0.1) ((s0).length) (y0.2))::f) [999] (fun s0 y0 l=>.r (y0.1) ((s0).length) (y0.2) 66 9 ((s0).flatMap e_api_Point)::l);exact kk
  ·intro s0 y0 hx;exact au
  ·intro _ hx;refine pre ?_;intros;rename_i hx
   refine T_none 66 9 ?_
   apply Lr (γ:=(Option Addr) × Nat) hx [0,1] (fun s1 y1 f=>(7,.slice (y1.1) ((s1.1).length) (y1.2))::(8,.int .i64 (s1.2))::f) [999] (fun s1 y1 l=>.r (y1.1) ((s1.1).length) (y1.2) 66 9 ((s1.1).flatMap e_api_Point)::l) (_,_);exact kk;exact sk;intro s1 y1 x0 hx _;unfold lidarref07_Pick_l8 at hx
   exact au
 ·intro _ hx;refine pre ?_;intros;rename_i hx
  apply Lr (γ:=Unit) hx [0,1] (fun s3 y3 f=>(6,.int .i64 (s3))::f) [999] (fun s3 y3 l=>l) ();exact kk;exact sk;intro s3 y3 x1 hx _;unfold lidarref07_Pick_l2 at hx
  exact au⟩
set_option maxHeartbeats 1000000 in
set_option maxRecDepth 100000 in
instance lidarref07_ValidRules_c (p0:S_api_Terrain):Con (lidarref07_ValidRules p0) Tryz.prog 76 (fun _ vs=>vs=[.agg #[.int .i64 (p0.Cell),.int .i64 (p0.Reach),.int .i64 (p0.Slope),.int .i64 (p0.Link),.int .i64 (p0.Flat),.int .i64 (p0.Tall),.int .i64 (p0.High),.int .i64 (p0.Low),.int .i64 (p0.Brush),.int .i64 (p0.Few)]]) (fun _ r=>fun v Ln=>v = .bool (r)∧Ln=[]∧True):=⟨by
 rintro _ _ r rfl hx w hK;unfold lidarref07_ValidRules at hx;refine CtS Tryz.ntmps76 Tryz.results76 ?_;refine pre ?_;intros;rename_i hx
 refine T_seq ?_;refine pre ?_;intros;rename_i hx
 apply Jr (γ:=Unit) hx [] (fun s2 y2 f=>(2,.bool (s2))::f) [999] (fun s2 y2 l=>l);exact kk
 ·intro s2 y2 hx;exact au
 ·intro _ hx;refine pre ?_;intros;rename_i hx
  refine Cq3 (s:=6) hx rfl (fun _ hx=>?_) (fun _ hx=>?_)
  ·refine pre ?_;intros;rename_i hx
   refine Cq3 (s:=11) hx rfl (fun _ hx=>?_) (fun _ hx=>?_)
   ·refine pre ?_;intros;rename_i hx
    refine Cq3 (s:=16) hx rfl (fun _ hx=>?_) (fun _ hx=>?_)
    ·refine pre ?_;intros;rename_i hx
     refine Cq3 (s:=21) hx rfl (fun _ hx=>?_) (fun _ hx=>?_)
     ·exact au
     ·exact au
    ·exact au
   ·exact au
  ·exact au⟩
set_option maxHeartbeats 1000000 in
set_option maxRecDepth 100000 in
instance lidarlaw07_first_c  : Con (lidarlaw07_first) Tryz.prog 22 (fun _ vs=>vs=[]) (fun _ r=>fun v Ln=>v = .bool (r)∧Ln=[]∧True):=⟨by
 rintro _ _ r rfl hx w hK;unfold lidarlaw07_first at hx;refine CtS Tryz.ntmps22 Tryz.results22 ?_;refine pre ?_;intros;rename_i hx
 apply Jr (γ:=Unit) hx [] (fun s6 y6 f=>(0,.bool (s6))::f) [999] (fun s6 y6 l=>l);exact kk
 ·intro s6 y6 hx;exact au
 ·intro _ hx;refine pre ?_;intros;rename_i hx
  refine Cq1 (s:=39) hx rfl (fun _ hx=>?_) (fun _ hx=>?_)
  ·refine pre ?_;intros;rename_i hx
   refine Cq1 (s:=43) hx rfl (fun _ hx=>?_) (fun _ hx=>?_)
   ·exact au
   ·exact au
  ·exact au⟩
set_option maxHeartbeats 1000000 in
set_option maxRecDepth 100000 in
instance lidarlaw07_sameInts_c (p0:List Int) (p1:List Int):Con (lidarlaw07_sameInts p0 p1) Tryz.prog 28 (fun K vs=>∃ (A0_0:Option Addr) (c0_0:Nat) (A0_1:Option Addr) (c0_1:Nat),vs=[.slice (A0_0) ((p0).length) (c0_0),.slice (A0_1) ((p1).length) (c0_1)]∧Has K A0_0 (p0).length c0_0 1 e_i64 (p0)∧Has K A0_1 (p1).length c0_1 1 e_i64 (p1)∧True) (fun _ r=>fun v Ln=>v = .bool (r)∧Ln=[]∧True):=⟨by
 rintro K _ r ⟨A0_0,c0_0,A0_1,c0_1,rfl,ha0,ha1,-⟩ hx w hK;replace ha0:=Has.lo ha0 hK;replace ha1:=Has.lo ha1 hK;unfold lidarlaw07_sameInts at hx;have:=dl 6 [0,0,0,1,0,0,0,1,0] [0,1,2,3,4,5,6,7,8];refine CtS Tryz.ntmps28 Tryz.results28 ?_;refine pre ?_;intros;rename_i hx
 refine Cq2 (s:=10) hx rfl (fun _ hx=>?_) (fun _ hx=>?_)
 ·exact au
 ·refine pre ?_;intros;rename_i hx
  apply Jr (γ:=Unit) hx [] (fun s5 y5 f=>f) [999] (fun s5 y5 l=>l);exact kk
  ·intro s5 y5 hx;exact au
  ·intro _ hx;refine pre ?_;intros;rename_i hx
   apply Lr (γ:=Unit) hx [0,1] (fun s33 y33 f=>(5,.int .i64 (s33))::f) [999] (fun s33 y33 l=>l) ();exact kk;exact sk;intro s33 y33 x33 hx _;unfold lidarlaw07_sameInts_l4 at hx
   exact au⟩
set_option maxRecDepth 100000 in
instance lidarlaw07_good_c (p0:List S_api_Point) (p1:S_api_Terrain) (p2:Int):Con (lidarlaw07_good p0 p1 p2) Tryz.prog 33 (fun K vs=>∃ (A0_0:Option Addr) (c0_0:Nat),vs=[.slice (A0_0) ((p0).length) (c0_0),.agg #[.int .i64 (p1.Cell),.int .i64 (p1.Reach),.int .i64 (p1.Slope),.int .i64 (p1.Link),.int .i64 (p1.Flat),.int .i64 (p1.Tall),.int .i64 (p1.High),.int .i64 (p1.Low),.int .i64 (p1.Brush),.int .i64 (p1.Few)],.int .i64 (p2)]∧Has K A0_0 (p0).length c0_0 9 e_api_Point (p0)∧True) (fun _ r=>fun v Ln=>v = .bool (r)∧Ln=[]∧True):=⟨by
 rintro K _ r ⟨A0_0,c0_0,rfl,ha0,-⟩ hx w hK;replace ha0:=Has.lo ha0 hK;unfold lidarlaw07_good at hx;refine CtS Tryz.ntmps33 Tryz.results33 ?_;exact au⟩
end Go.Proofs.YtbkobeeileemjaaGreat
