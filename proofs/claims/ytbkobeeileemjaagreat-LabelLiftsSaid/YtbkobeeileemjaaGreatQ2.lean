/- Walks of the program, with their plain functions: the reference's points by their Ids. -/
import Derived.Test.YtbkobeeileemjaaGreatQ1
namespace Go.Proofs.YtbkobeeileemjaaGreat
open Go Go.RowKit
theorem Yz (x0:Int) (x1:Int):Gk Tryz.prog 32 [(0,.int .i64 x0),(1,.int .i64 x1)] [.int .i64 x0,.int .i64 x1]:=fun w=>by kernel_rfl
instance (x0:Int) (x1:Int):Ki Tryz.prog 32 [(0,.int .i64 x0),(1,.int .i64 x1)] [.int .i64 x0,.int .i64 x1]:=⟨Yz _ _⟩
theorem Tv (x0:Int) (x1:Int) (x2:Int) (x3:Int) (x4:Int):Gk Tryz.prog 66 [(0,.int .i64 x0),(3,.agg #[.int .i64 x1,.int .i64 x2]),(5,.int .i64 x3),(6,.int .i64 x4)] [.int .i64 x0,.int .i64 (0),.int .i64 (0),.int .i64 x1,.int .i64 x2,.int .i64 (0),.int .i64 x3,.int .i64 x4,.int .i64 (0)]:=fun w=>by kernel_rfl
instance (x0:Int) (x1:Int) (x2:Int) (x3:Int) (x4:Int):Ki Tryz.prog 66 [(0,.int .i64 x0),(3,.agg #[.int .i64 x1,.int .i64 x2]),(5,.int .i64 x3),(6,.int .i64 x4)] [.int .i64 x0,.int .i64 (0),.int .i64 (0),.int .i64 x1,.int .i64 x2,.int .i64 (0),.int .i64 x3,.int .i64 x4,.int .i64 (0)]:=⟨Tv _ _ _ _ _⟩
theorem Oq (x0:Int) (x1:Int) (x2:Int) (x3:Int) (x4:Int) (x5:Int) (x6:Int):Gk Tryz.prog 66 [(0,.int .i64 x0),(1,.int .i64 x1),(2,.int .i64 x2),(3,.agg #[.int .i64 x3,.int .i64 x4]),(5,.int .i64 x5),(6,.int .i64 x6)] [.int .i64 x0,.int .i64 x1,.int .i64 x2,.int .i64 x3,.int .i64 x4,.int .i64 (0),.int .i64 x5,.int .i64 x6,.int .i64 (0)]:=fun w=>by kernel_rfl
instance (x0:Int) (x1:Int) (x2:Int) (x3:Int) (x4:Int) (x5:Int) (x6:Int):Ki Tryz.prog 66 [(0,.int .i64 x0),(1,.int .i64 x1),(2,.int .i64 x2),(3,.agg #[.int .i64 x3,.int .i64 x4]),(5,.int .i64 x5),(6,.int .i64 x6)] [.int .i64 x0,.int .i64 x1,.int .i64 x2,.int .i64 x3,.int .i64 x4,.int .i64 (0),.int .i64 x5,.int .i64 x6,.int .i64 (0)]:=⟨Oq _ _ _ _ _ _ _⟩
theorem Qw (x0:Int) (x1:Int) (x2:Int) (x3:Int) (x4:Int) (x5:Int):Gk Tryz.prog 66 [(0,.int .i64 x0),(1,.int .i64 x1),(3,.agg #[.int .i64 x2,.int .i64 x3]),(5,.int .i64 x4),(6,.int .i64 x5)] [.int .i64 x0,.int .i64 x1,.int .i64 (0),.int .i64 x2,.int .i64 x3,.int .i64 (0),.int .i64 x4,.int .i64 x5,.int .i64 (0)]:=fun w=>by kernel_rfl
instance (x0:Int) (x1:Int) (x2:Int) (x3:Int) (x4:Int) (x5:Int):Ki Tryz.prog 66 [(0,.int .i64 x0),(1,.int .i64 x1),(3,.agg #[.int .i64 x2,.int .i64 x3]),(5,.int .i64 x4),(6,.int .i64 x5)] [.int .i64 x0,.int .i64 x1,.int .i64 (0),.int .i64 x2,.int .i64 x3,.int .i64 (0),.int .i64 x4,.int .i64 x5,.int .i64 (0)]:=⟨Qw _ _ _ _ _ _⟩
theorem Cu (x0:Int) (x1:Int) (x2:Int) (x3:Int) (x4:Int) (x5:Int) (x6:Int) (x7:Int) (x8:Int) (x9:Int) (x10:Int) (x11:Int) (x12:Int) (x13:Int) (x14:Int) (x15:Int) (x16:Int) (x17:Int) (x18:Int) (x19:Int) (x20:Int) (x21:Int) (x22:Int) (x23:Int) (x24:Int) (x25:Int) (x26:Int):Da Tryz.prog 47 3 [(0,.agg #[.int .i64 x0,.int .i64 x1,.int .i64 x2,.int .i64 x3,.int .i64 x4,.int .i64 x5,.int .i64 x6,.int .i64 x7,.int .i64 x8]),(1,.agg #[.int .i64 x9,.int .i64 x10,.int .i64 x11,.int .i64 x12,.int .i64 x13,.int .i64 x14,.int .i64 x15,.int .i64 x16,.int .i64 x17]),(2,.agg #[.int .i64 x18,.int .i64 x19,.int .i64 x20,.int .i64 x21,.int .i64 x22,.int .i64 x23,.int .i64 x24,.int .i64 x25,.int .i64 x26])] 66 [.int .i64 x0,.int .i64 x1,.int .i64 x2,.int .i64 x3,.int .i64 x4,.int .i64 x5,.int .i64 x6,.int .i64 x7,.int .i64 x8,.int .i64 x9,.int .i64 x10,.int .i64 x11,.int .i64 x12,.int .i64 x13,.int .i64 x14,.int .i64 x15,.int .i64 x16,.int .i64 x17,.int .i64 x18,.int .i64 x19,.int .i64 x20,.int .i64 x21,.int .i64 x22,.int .i64 x23,.int .i64 x24,.int .i64 x25,.int .i64 x26]:=fun w=>by kernel_rfl
instance (x0:Int) (x1:Int) (x2:Int) (x3:Int) (x4:Int) (x5:Int) (x6:Int) (x7:Int) (x8:Int) (x9:Int) (x10:Int) (x11:Int) (x12:Int) (x13:Int) (x14:Int) (x15:Int) (x16:Int) (x17:Int) (x18:Int) (x19:Int) (x20:Int) (x21:Int) (x22:Int) (x23:Int) (x24:Int) (x25:Int) (x26:Int):Ky Tryz.prog 47 3 [(0,.agg #[.int .i64 x0,.int .i64 x1,.int .i64 x2,.int .i64 x3,.int .i64 x4,.int .i64 x5,.int .i64 x6,.int .i64 x7,.int .i64 x8]),(1,.agg #[.int .i64 x9,.int .i64 x10,.int .i64 x11,.int .i64 x12,.int .i64 x13,.int .i64 x14,.int .i64 x15,.int .i64 x16,.int .i64 x17]),(2,.agg #[.int .i64 x18,.int .i64 x19,.int .i64 x20,.int .i64 x21,.int .i64 x22,.int .i64 x23,.int .i64 x24,.int .i64 x25,.int .i64 x26])] 66 [.int .i64 x0,.int .i64 x1,.int .i64 x2,.int .i64 x3,.int .i64 x4,.int .i64 x5,.int .i64 x6,.int .i64 x7,.int .i64 x8,.int .i64 x9,.int .i64 x10,.int .i64 x11,.int .i64 x12,.int .i64 x13,.int .i64 x14,.int .i64 x15,.int .i64 x16,.int .i64 x17,.int .i64 x18,.int .i64 x19,.int .i64 x20,.int .i64 x21,.int .i64 x22,.int .i64 x23,.int .i64 x24,.int .i64 x25,.int .i64 x26]:=⟨Cu _ _ _ _ _ _ _ _ _ _ _ _ _ _ _ _ _ _ _ _ _ _ _ _ _ _ _⟩
theorem Aa7 (x0:Int) (x1:Int) (x2:Int):Gk Tryz.prog 54 [(0,.int .i64 x0),(3,.int .i64 x1),(9,.int .i64 x2)] [.int .i64 x0,.int .i64 (0),.int .i64 (0),.int .i64 x1,.int .i64 (0),.int .i64 (0),.int .i64 (0),.int .i64 (0),.int .i64 (0),.int .i64 x2]:=fun w=>by kernel_rfl
instance (x0:Int) (x1:Int) (x2:Int):Ki Tryz.prog 54 [(0,.int .i64 x0),(3,.int .i64 x1),(9,.int .i64 x2)] [.int .i64 x0,.int .i64 (0),.int .i64 (0),.int .i64 x1,.int .i64 (0),.int .i64 (0),.int .i64 (0),.int .i64 (0),.int .i64 (0),.int .i64 x2]:=⟨Aa7 _ _ _⟩
noncomputable def Bu (p0:Int) (p1:Int) (p2:Int):Option Bool :=
 jn (fun (s2:Bool) =>
 some s2)
 (fun j2=>if p1≤p0 then (j2 (decide (p0≤p2)))
 else (j2 false))
noncomputable def Kt (p0:Ab):Option Bool :=
 jn (fun (s2:Bool) =>
 some s2)
 (fun j2=>if (-268435456)≤p0.X then (if p0.X≤268435456 then (if (-268435456)≤p0.Y then (j2 (decide (p0.Y≤268435456)))
 else (j2 false))
 else (j2 false))
 else (j2 false))
noncomputable def Ni (p0:Aa):Option Bool :=
 jn (fun (s2:Bool) =>
 some s2)
 (fun j2=>bnd (Bu p0.Id 0 1152921504606846976) fun r2 =>
 if r2=true then (bnd (Kt (⟨p0.X,p0.Y⟩:Ab)) fun r7 =>
 if r7=true then (if p0.Z.Lo≤p0.Z.Hi then (if (-268435456)≤p0.Z.Lo then (if p0.Z.Hi≤268435456 then (bnd (Bu p0.Wide 0 268435456) fun r0 =>
 if r0=true then (bnd (Bu p0.Num 1 p0.Of) fun r1 =>
 if r1=true then (j2 (decide (p0.Of≤15)))
 else (j2 false))
 else (j2 false))
 else (j2 false))
 else (j2 false))
 else (j2 false))
 else (j2 false))
 else (j2 false))
noncomputable def Fs (s0:Int) (p0:List Aa):Int→Option (Sum Int (Sum Unit Bool)):=fun s1 =>
 if s1 < s0 then (bnd (idx p0 s1) fun x0 =>
 bnd (idx p0 s0) fun x1 =>
 if x0.Id=x1.Id then (some (.inr (.inr (false))))
 else (some (.inl (w64 (s1+1)))))
 else (some (.inr (.inl ())))
noncomputable def Ej (p0:List Aa):Int→Option (Sum Int (Sum Unit Bool)):=fun s0 =>
 if s0 < ((((p0).length:Nat):Int)) then (jn (fun (_:Unit) =>
 some (.inl (w64 (s0+1))))
 (fun j0=>bnd (idx p0 s0) fun x0 =>
 bnd (Ni x0) fun r0 =>
 if r0=true then (bnd (lfix (Fs s0 p0) 0) fun t0 =>
 (match t0 with
 | (.inl z0)=>j0 z0
 | (.inr (z0))=>some (.inr (.inr (z0)))
 ))
 else (some (.inr (.inr (false))))))
 else (some (.inr (.inl ())))
noncomputable def Ia (p0:List Aa):Option Bool :=
 if 1024 < ((((p0).length:Nat):Int)) then (some false)
 else (jn (fun (_:Unit) =>
 some true)
 (fun j5=>bnd (lfix (Ej p0) 0) fun t0 =>
 (match t0 with
 | (.inl z0)=>j5 z0
 | (.inr (z0))=>some z0
 )))
noncomputable def Mj (p0:List Int) (p1:Int):Int→Option (Sum Int (Sum Unit Bool)):=fun s0 =>
 if s0 < ((((p0).length:Nat):Int)) then (bnd (idx p0 s0) fun x0 =>
 if x0=p1 then (some (.inr (.inr (true))))
 else (some (.inl (w64 (s0+1)))))
 else (some (.inr (.inl ())))
noncomputable def Qb (p0:List Int) (p1:Int):Option Bool :=
 jn (fun (_:Unit) =>
 some false)
 (fun j2=>bnd (lfix (Mj p0 p1) 0) fun t0 =>
 (match t0 with
 | (.inl z0)=>j2 z0
 | (.inr (z0))=>some z0
 ))
noncomputable def Ge (p0:Af):Option Bool :=
 jn (fun (s2:Bool) =>
 some s2)
 (fun j2=>bnd (Bu p0.Cell 1 10000000) fun r2 =>
 if r2=true then (bnd (Bu p0.Reach 0 1000000) fun r7 =>
 if r7=true then (bnd (Bu p0.Slope 0 100000) fun r0 =>
 if r0=true then (bnd (Bu p0.Link 1 1000000) fun r1 =>
 if r1=true then (bnd (Bu p0.Flat 0 1000000) fun r3 =>
 if r3=true then (bnd (Bu p0.Tall 0 1000000) fun r4 =>
 if r4=true then (bnd (Bu p0.High 0 1000000) fun r5 =>
 if r5=true then (bnd (Bu p0.Low 0 1000000) fun r6 =>
 if r6=true then (bnd (Bu p0.Brush 0 1000000) fun r8 =>
 if r8=true then (bnd (Bu p0.Few 1 1024) fun r9 =>
 j2 r9)
 else (j2 false))
 else (j2 false))
 else (j2 false))
 else (j2 false))
 else (j2 false))
 else (j2 false))
 else (j2 false))
 else (j2 false))
 else (j2 false))
noncomputable def Gh  : Option Bool :=
 bnd (Gj ([(⟨0,0⟩:Ab),(⟨4,0⟩:Ab),(⟨4,4⟩:Ab),(⟨0,4⟩:Ab)]) (⟨4,2⟩:Ab)) fun r3 =>
 bnd (Gj ([(⟨0,0⟩:Ab),(⟨4,0⟩:Ab),(⟨4,4⟩:Ab),(⟨0,4⟩:Ab)]) (⟨5,2⟩:Ab)) fun r7 =>
 bnd (Ku ([(⟨1,0,0,(⟨3,3⟩:Bl),0,1,1,0⟩:Aa),(⟨2,5,5,(⟨1,1⟩:Bl),0,1,1,0⟩:Aa),(⟨3,12,0,(⟨2,2⟩:Bl),0,1,1,0⟩:Aa)]) (⟨10,0,0,1,0,0,0,0,0,1⟩:Af)) fun r0 =>
 jn (fun (s6:Bool) =>
 some s6)
 (fun j6=>if r3.2=0 then (if r7.2=0 then (if r3.1=true then (if r7.1=true then (j6 false)
 else (if r0.2=0 then (if ((((r0.1).length:Nat):Int))=2 then (bnd (idx r0.1 0) fun x0 =>
 if x0=2 then (bnd (idx r0.1 1) fun x1 =>
 j6 (decide (x1=3)))
 else (j6 false))
 else (j6 false))
 else (j6 false)))
 else (j6 false))
 else (j6 false))
 else (j6 false))
noncomputable def Fn (p0:List Int) (p1:List Int):Int→Option (Sum Int (Sum Unit Bool)):=fun s0 =>
 if s0 < ((((p0).length:Nat):Int)) then (bnd (idx p0 s0) fun x0 =>
 bnd (idx p1 s0) fun x1 =>
 if x0=x1 then (some (.inl (w64 (s0+1))))
 else (some (.inr (.inr (false)))))
 else (some (.inr (.inl ())))
noncomputable def Hc (p0:List Int) (p1:List Int):Option Bool :=
 if ((((p0).length:Nat):Int))=((((p1).length:Nat):Int)) then (jn (fun (_:Unit) =>
 some true)
 (fun j5=>bnd (lfix (Fn p0 p1) 0) fun t0 =>
 (match t0 with
 | (.inl z0)=>j5 z0
 | (.inr (z0))=>some z0
 )))
 else (some false)
noncomputable def Lm (p0:List Aa) (p1:Af) (p2:Int):Option Bool :=
 jn (fun (s2:Bool) =>
 some s2)
 (fun j2=>if ((((p0).length:Nat):Int))≤p2 then (bnd (Ia p0) fun r4 =>
 if r4=true then (bnd (Ge p1) fun r9 =>
 j2 r9)
 else (j2 false))
 else (j2 false))
set_option maxRecDepth 100000 in
instance lidarref07_within_c (p0:Int) (p1:Int) (p2:Int):Con (Bu p0 p1 p2) Tryz.prog 150 (fun _ vs=>vs=[.int .i64 (p0),.int .i64 (p1),.int .i64 (p2)]) (fun _ r=>fun v Ln=>v = .bool (r)∧Ln=[]∧True):=⟨by
 rintro _ _ r rfl hx w hK;unfold Bu at hx;refine CtS Tryz.ntmps150 Tryz.results150 ?_;exact au⟩
set_option maxRecDepth 100000 in
instance lidarref01_Place_c (p0:Ab):Con (Kt p0) Tryz.prog 169 (fun _ vs=>vs=[.agg #[.int .i64 (p0.X),.int .i64 (p0.Y)]]) (fun _ r=>fun v Ln=>v = .bool (r)∧Ln=[]∧True):=⟨by
 rintro _ _ r rfl hx w hK;unfold Kt at hx;refine CtS Tryz.ntmps169 Tryz.results169 ?_;exact au⟩
set_option maxHeartbeats 1000000 in
set_option maxRecDepth 100000 in
instance lidarref07_One_c (p0:Aa):Con (Ni p0) Tryz.prog 89 (fun _ vs=>vs=[.agg #[.int .i64 (p0.Id),.int .i64 (p0.X),.int .i64 (p0.Y),.int .i64 (p0.Z.Lo),.int .i64 (p0.Z.Hi),.int .i64 (p0.Wide),.int .i64 (p0.Num),.int .i64 (p0.Of),.int .i64 (p0.Class)]]) (fun _ r=>fun v Ln=>v = .bool (r)∧Ln=[]∧True):=⟨by
 rintro _ _ r rfl hx w hK;unfold Ni at hx;refine CtS Tryz.ntmps89 Tryz.results89 ?_;refine pre ?_;intros;rename_i hx
 refine Mq ?_;refine pre ?_;intros;rename_i hx
 apply Jr (γ:=Unit) hx [] (fun s2 y2 f=>(2,.bool (s2))::f) [999] (fun s2 y2 l=>l);exact kk
 ·intro s2 y2 hx;exact au
 ·intro _ hx;refine pre ?_;intros;rename_i hx
  refine Cq3 (s:=6) hx rfl (fun _ hx=>?_) (fun _ hx=>?_)
  ·refine pre ?_;intros;rename_i hx
   refine Cq3 (s:=14) hx rfl (fun _ hx=>?_) (fun _ hx=>?_)
   ·exact au
   ·exact au
  ·exact au⟩
set_option maxHeartbeats 1000000 in
set_option maxRecDepth 100000 in
instance lidarref07_Valid_c (p0:List Aa):Con (Ia p0) Tryz.prog 42 (fun K vs=>∃ (A0_0:Option Addr) (c0_0:Nat),vs=[.slice (A0_0) ((p0).length) (c0_0)]∧Has K A0_0 (p0).length c0_0 9 Ag (p0)∧True) (fun _ r=>fun v Ln=>v = .bool (r)∧Ln=[]∧True):=⟨by
 rintro K _ r ⟨A0_0,c0_0,rfl,ha0,-⟩ hx w hK;replace ha0:=Has.lo ha0 hK;unfold Ia at hx;have:=dl 11 [0,0,0,0,1,0,0,0,0,1,0] [0,1,2,3,4,5,6,7,8,9,10];refine CtS Tryz.ntmps42 Tryz.results42 ?_;refine pre ?_;intros;rename_i hx
 refine Cq1 (s:=7) hx rfl (fun _ hx=>?_) (fun _ hx=>?_)
 ·exact au
 ·refine pre ?_;intros;rename_i hx
  apply Jr (γ:=Unit) hx [] (fun s5 y5 f=>f) [999] (fun s5 y5 l=>l);exact kk
  ·intro s5 y5 hx;exact au
  ·intro _ hx;refine pre ?_;intros;rename_i hx
   apply Lr (γ:=Unit) hx [0] (fun s85 y85 f=>(3,.int .i64 (s85))::f) [999] (fun s85 y85 l=>l) ();exact kk;exact sk;intro s85 y85 x85 hx _;unfold Ej at hx
   refine pre ?_;intros;rename_i hx
   refine Cq1 (s:=11) hx rfl (fun _ hx=>?_) (fun _ hx=>?_)
   ·refine pre ?_;intros;rename_i hx
    apply Jr (γ:=Unit) hx [0,3] (fun s26 y26 f=>f) [999] (fun s26 y26 l=>l);exact kk
    ·intro s26 y26 hx;exact au
    ·intro _ hx;refine pre ?_;intros;rename_i hx
     refine Cq4 (s:=19) hx rfl (fun _ hx=>?_) (fun _ hx=>?_)
     ·exact au
     ·refine pre ?_;intros;rename_i hx
      apply Lr (γ:=Unit) hx [0,3] (fun s135 y135 f=>(4,.int .i64 (s135))::f) [999] (fun s135 y135 l=>l) ();exact kk;exact sk;intro s135 y135 x135 hx _;unfold Fs at hx
      exact au
   ·exact au⟩
set_option maxHeartbeats 1000000 in
set_option maxRecDepth 100000 in
instance lidarref07_Has_c (p0:List Int) (p1:Int):Con (Qb p0 p1) Tryz.prog 36 (fun K vs=>∃ (A0_0:Option Addr) (c0_0:Nat),vs=[.slice (A0_0) ((p0).length) (c0_0),.int .i64 (p1)]∧Has K A0_0 (p0).length c0_0 1 Ba (p0)∧True) (fun _ r=>fun v Ln=>v = .bool (r)∧Ln=[]∧True):=⟨by
 rintro K _ r ⟨A0_0,c0_0,rfl,ha0,-⟩ hx w hK;replace ha0:=Has.lo ha0 hK;unfold Qb at hx;refine CtS Tryz.ntmps36 Tryz.results36 ?_;refine pre ?_;intros;rename_i hx
 refine Mq ?_;refine pre ?_;intros;rename_i hx
 apply Jr (γ:=Unit) hx [] (fun s2 y2 f=>f) [999] (fun s2 y2 l=>l);exact kk
 ·intro s2 y2 hx;exact au
 ·intro _ hx;refine pre ?_;intros;rename_i hx
  apply Lr (γ:=Unit) hx [0,1] (fun s0 y0 f=>(5,.int .i64 (s0))::f) [999] (fun s0 y0 l=>l) ();exact kk;exact sk;intro s0 y0 x0 hx _;unfold Mj at hx
  exact au⟩
set_option maxHeartbeats 1000000 in
set_option maxRecDepth 100000 in
instance lidarref07_ValidRules_c (p0:Af):Con (Ge p0) Tryz.prog 76 (fun _ vs=>vs=[.agg #[.int .i64 (p0.Cell),.int .i64 (p0.Reach),.int .i64 (p0.Slope),.int .i64 (p0.Link),.int .i64 (p0.Flat),.int .i64 (p0.Tall),.int .i64 (p0.High),.int .i64 (p0.Low),.int .i64 (p0.Brush),.int .i64 (p0.Few)]]) (fun _ r=>fun v Ln=>v = .bool (r)∧Ln=[]∧True):=⟨by
 rintro _ _ r rfl hx w hK;unfold Ge at hx;refine CtS Tryz.ntmps76 Tryz.results76 ?_;refine pre ?_;intros;rename_i hx
 refine Mq ?_;refine pre ?_;intros;rename_i hx
 apply Jr (γ:=Unit) hx [] (fun s2 y2 f=>(2,.bool (s2))::f) [999] (fun s2 y2 l=>l);exact kk
 ·intro s2 y2 hx;exact au
 ·intro _ hx;refine pre ?_;intros;rename_i hx
  refine Cq3 (s:=6) hx rfl (fun _ hx=>?_) (fun _ hx=>?_)
  ·refine pre ?_;intros;rename_i hx
   refine Cq3 (s:=11) hx rfl (fun _ hx=>?_) (fun _ hx=>?_)
   ·refine pre ?_;intros;rename_i hx
    refine Cq3 (s:=16) hx rfl (fun _ hx=>?_) (fun _ hx=>?_)
    ·refine pre ?_;intros;rename_i hx
     refine Cq3 (s:=21) hx rfl (fun _ hx=>?_) (fun _ hx=>?_)
     ·exact au
     ·exact au
    ·exact au
   ·exact au
  ·exact au⟩
set_option maxHeartbeats 1000000 in
set_option maxRecDepth 100000 in
instance lidarlaw07_first_c  : Con (Gh) Tryz.prog 22 (fun _ vs=>vs=[]) (fun _ r=>fun v Ln=>v = .bool (r)∧Ln=[]∧True):=⟨by
 rintro _ _ r rfl hx w hK;unfold Gh at hx;refine CtS Tryz.ntmps22 Tryz.results22 ?_;refine pre ?_;intros;rename_i hx
 apply Jr (γ:=Unit) hx [] (fun s6 y6 f=>(0,.bool (s6))::f) [999] (fun s6 y6 l=>l);exact kk
 ·intro s6 y6 hx;exact au
 ·intro _ hx;refine pre ?_;intros;rename_i hx
  refine Cq1 (s:=39) hx rfl (fun _ hx=>?_) (fun _ hx=>?_)
  ·refine pre ?_;intros;rename_i hx
   refine Cq1 (s:=43) hx rfl (fun _ hx=>?_) (fun _ hx=>?_)
   ·exact au
   ·exact au
  ·exact au⟩
set_option maxHeartbeats 1000000 in
set_option maxRecDepth 100000 in
instance lidarlaw07_sameInts_c (p0:List Int) (p1:List Int):Con (Hc p0 p1) Tryz.prog 28 (fun K vs=>∃ (A0_0:Option Addr) (c0_0:Nat) (A0_1:Option Addr) (c0_1:Nat),vs=[.slice (A0_0) ((p0).length) (c0_0),.slice (A0_1) ((p1).length) (c0_1)]∧Has K A0_0 (p0).length c0_0 1 Ba (p0)∧Has K A0_1 (p1).length c0_1 1 Ba (p1)∧True) (fun _ r=>fun v Ln=>v = .bool (r)∧Ln=[]∧True):=⟨by
 rintro K _ r ⟨A0_0,c0_0,A0_1,c0_1,rfl,ha0,ha1,-⟩ hx w hK;replace ha0:=Has.lo ha0 hK;replace ha1:=Has.lo ha1 hK;unfold Hc at hx;have:=dl 6 [0,0,0,1,0,0,0,1,0] [0,1,2,3,4,5,6,7,8];refine CtS Tryz.ntmps28 Tryz.results28 ?_;refine pre ?_;intros;rename_i hx
 refine Cq2 (s:=10) hx rfl (fun _ hx=>?_) (fun _ hx=>?_)
 ·exact au
 ·refine pre ?_;intros;rename_i hx
  apply Jr (γ:=Unit) hx [] (fun s5 y5 f=>f) [999] (fun s5 y5 l=>l);exact kk
  ·intro s5 y5 hx;exact au
  ·intro _ hx;refine pre ?_;intros;rename_i hx
   apply Lr (γ:=Unit) hx [0,1] (fun s33 y33 f=>(5,.int .i64 (s33))::f) [999] (fun s33 y33 l=>l) ();exact kk;exact sk;intro s33 y33 x33 hx _;unfold Fn at hx
   exact au⟩
set_option maxRecDepth 100000 in
instance lidarlaw07_good_c (p0:List Aa) (p1:Af) (p2:Int):Con (Lm p0 p1 p2) Tryz.prog 33 (fun K vs=>∃ (A0_0:Option Addr) (c0_0:Nat),vs=[.slice (A0_0) ((p0).length) (c0_0),.agg #[.int .i64 (p1.Cell),.int .i64 (p1.Reach),.int .i64 (p1.Slope),.int .i64 (p1.Link),.int .i64 (p1.Flat),.int .i64 (p1.Tall),.int .i64 (p1.High),.int .i64 (p1.Low),.int .i64 (p1.Brush),.int .i64 (p1.Few)],.int .i64 (p2)]∧Has K A0_0 (p0).length c0_0 9 Ag (p0)∧True) (fun _ r=>fun v Ln=>v = .bool (r)∧Ln=[]∧True):=⟨by
 rintro K _ r ⟨A0_0,c0_0,rfl,ha0,-⟩ hx w hK;replace ha0:=Has.lo ha0 hK;unfold Lm at hx;refine CtS Tryz.ntmps33 Tryz.results33 ?_;exact au⟩
end Go.Proofs.YtbkobeeileemjaaGreat
