/- Walks of the program, with their plain functions: sides, neighbours, areas. -/
import Derived.Test.YtjfndjmabhbicaaGreatE3
import Derived.Test.YtjfndjmabhbicaaGreatFlow26
namespace Go.Proofs.YtjfndjmabhbicaaGreat
open Go Go.RowKit
theorem Av6:Nn Tryz.prog 120 [.int .i64 (0),.int .i64 (0),.int .i64 (0),.int .i64 (0),.int .i64 (0),.int .i64 (0),.int .i64 (0),.int .i64 (0),.int .i64 (0),.int .i64 (0),.int .i64 (0),.int .i64 (0)]:=⟨_,Tryz.zeroValue120,rfl⟩
instance:Wi Tryz.prog 120 [.int .i64 (0),.int .i64 (0),.int .i64 (0),.int .i64 (0),.int .i64 (0),.int .i64 (0),.int .i64 (0),.int .i64 (0),.int .i64 (0),.int .i64 (0),.int .i64 (0),.int .i64 (0)]:=⟨Av6⟩
theorem Jo (x0:Int) (x1:Int) (x2:Int) (x3:Int) (x4:Int) (x5:Int) (x6:Int) (x7:Int) (x8:Int) (x9:Int) (x10:Int) (x11:Int):Kq Tryz.prog 120 [(0,.agg #[.int .i64 x0,.int .i64 x1,.int .i64 x2,.int .i64 x3]),(1,.agg #[.int .i64 x4,.int .i64 x5,.int .i64 x6,.int .i64 x7]),(2,.agg #[.int .i64 x8,.int .i64 x9,.int .i64 x10,.int .i64 x11])] [.int .i64 x0,.int .i64 x1,.int .i64 x2,.int .i64 x3,.int .i64 x4,.int .i64 x5,.int .i64 x6,.int .i64 x7,.int .i64 x8,.int .i64 x9,.int .i64 x10,.int .i64 x11]:=fun w=>by kernel_rfl
instance (x0:Int) (x1:Int) (x2:Int) (x3:Int) (x4:Int) (x5:Int) (x6:Int) (x7:Int) (x8:Int) (x9:Int) (x10:Int) (x11:Int):Ol Tryz.prog 120 [(0,.agg #[.int .i64 x0,.int .i64 x1,.int .i64 x2,.int .i64 x3]),(1,.agg #[.int .i64 x4,.int .i64 x5,.int .i64 x6,.int .i64 x7]),(2,.agg #[.int .i64 x8,.int .i64 x9,.int .i64 x10,.int .i64 x11])] [.int .i64 x0,.int .i64 x1,.int .i64 x2,.int .i64 x3,.int .i64 x4,.int .i64 x5,.int .i64 x6,.int .i64 x7,.int .i64 x8,.int .i64 x9,.int .i64 x10,.int .i64 x11]:=⟨Jo _ _ _ _ _ _ _ _ _ _ _ _⟩
theorem Av7:Nu Tryz.prog 120 12:=.arr Tryz.underlying120 (show Tryz.prog.info? 120=some Tryz.t120 from by kernel_rfl) (by kernel_rfl)
instance:AggI Tryz.prog 120 12:=⟨Av7⟩
theorem Av8:Ab0 Tryz.prog 120 3 4:=.mk Tryz.underlying120 (show Tryz.prog.info? 70=some Tryz.t70 from by kernel_rfl) (by kernel_rfl)
instance:ArrI Tryz.prog 120 3 4:=⟨Av8⟩
structure Si where
 a0:Ab
 a1:Ab
 a2:Ab
noncomputable def Qw (p0:Aw) (p1:Ae):Option Si :=
 bnd (idx p0.V p1.a0) fun x4 =>
 bnd (idx p0.V p1.a1) fun x0 =>
 bnd (idx p0.V p1.a2) fun x1 =>
 some (⟨(⟨x4.X,x4.Y,(⟨x4.Z.Lo,x4.Z.Hi⟩:Ak)⟩:Ab),(⟨x0.X,x0.Y,(⟨x0.Z.Lo,x0.Z.Hi⟩:Ak)⟩:Ab),(⟨x1.X,x1.Y,(⟨x1.Z.Lo,x1.Z.Hi⟩:Ak)⟩:Ab)⟩:Si)
noncomputable def Xa (p0:Ac) (p1:Ac) (p2:Ac):Option Int :=
 some (w64 ((w64 ((w64 (p1.X-p0.X))*(w64 (p2.Y-p0.Y))))-(w64 ((w64 (p1.Y-p0.Y))*(w64 (p2.X-p0.X))))))
noncomputable def Ox (p0:Aw):(Int × Int)->Option (Sum (Int × Int) Int):=fun s0 =>
 if s0.2 < ((((p0.T).length:Nat):Int)) then (bnd (idx p0.T s0.2) fun x0 =>
 bnd (Qw p0 x0) fun r0 =>
 bnd (Da (⟨r0.a0.X,r0.a0.Y,(⟨r0.a0.Z.Lo,r0.a0.Z.Hi⟩:Ak)⟩:Ab)) fun r1 =>
 bnd (Da (⟨r0.a1.X,r0.a1.Y,(⟨r0.a1.Z.Lo,r0.a1.Z.Hi⟩:Ak)⟩:Ab)) fun r2 =>
 bnd (Da (⟨r0.a2.X,r0.a2.Y,(⟨r0.a2.Z.Lo,r0.a2.Z.Hi⟩:Ak)⟩:Ab)) fun r3 =>
 bnd (Xa r1 r2 r3) fun r4 =>
 some (.inl (w64 (s0.1+r4),w64 (s0.2+1))))
 else (some (.inr s0.1))
noncomputable def Tf (p0:Aw):Option (Int × Int) :=
 bnd (Kk p0) fun r2 =>
 if r2=0 then (jn (fun (s7:Int) =>
 some (s7,0))
 (fun j7=>bnd (lfix (Ox p0) (0,0)) fun t0 =>
 j7 t0))
 else (some (0,r2))
noncomputable def Hn (x0:Ae):((List (Aa × Bool)) × (List Aa) × Int)->Option (Sum ((List (Aa × Bool)) × (List Aa) × Int) ((List (Aa × Bool)) × (List Aa))):=fun s0 =>
 if s0.2.2 < 3 then (jn (fun (s1:(List (Aa × Bool)) × (List Aa)) =>
 some (.inl (s1.1,s1.2,w64 (s0.2.2+1))))
 (fun j0=>bnd (idx [x0.a0,x0.a1,x0.a2] s0.2.2) fun x1 =>
 bnd (idx [x0.a0,x0.a1,x0.a2] (Int.tmod (w64 (s0.2.2+1)) 3)) fun x2 =>
 bnd (Dn x1 x2) fun r0 =>
 gd ((-9223372036854775808<=r0.a0/\r0.a0<=9223372036854775807)/\(-9223372036854775808<=r0.a1/\r0.a1<=9223372036854775807)) <|
 bnd (some ((mget s0.1 r0).getD false)) fun x3 =>
 if x3=true then (j0 (s0.1,s0.2.1))
 else (gd ((-9223372036854775808<=r0.a0/\r0.a0<=9223372036854775807)/\(-9223372036854775808<=r0.a1/\r0.a1<=9223372036854775807)) <|
 gd ((s0.1).length < 9223372036854775807) <|
 gd (((s0.2.1).length+1)*16<=140737488355328) <|
 j0 (mput s0.1 r0 true,s0.2.1++[r0]))))
 else (some (.inr (s0.1,s0.2.1)))
noncomputable def Mc (p0:Aw):((List (Aa × Bool)) × (List Aa) × Int)->Option (Sum ((List (Aa × Bool)) × (List Aa) × Int) (List Aa)):=fun s0 =>
 if s0.2.2 < ((((p0.T).length:Nat):Int)) then (jn (fun (s1:(List (Aa × Bool)) × (List Aa)) =>
 some (.inl (s1.1,s1.2,w64 (s0.2.2+1))))
 (fun j0=>bnd (idx p0.T s0.2.2) fun x0 =>
 bnd (lfix (Hn x0) (s0.1,s0.2.1,0)) fun t0 =>
 j0 t0))
 else (some (.inr s0.2.1))
noncomputable def Ke (p0:Aw):Option (List Aa) :=
 jn (fun (s4:List Aa) =>
 gd ((s4).length<=1000000000/\(∀ x∈s4,Ia x)) <|
 some (An cmp2 s4))
 (fun j4=>bnd (lfix (Mc p0) (([]:List (Aa × Bool)),([]:List Aa),0)) fun t0 =>
 j4 t0)
noncomputable def Rn (p0:Aw):Option ((List Aa) × Int) :=
 bnd (Kk p0) fun r2 =>
 if r2=0 then (bnd (Ke p0) fun r8 =>
 some (r8,0))
 else (some (([]:List Aa),r2))
noncomputable def Mw (r0:List Aa) (p1:Int):((List Int) × Int)->Option (Sum ((List Int) × Int) (List Int)):=fun s0 =>
 if s0.2 < ((((r0).length:Nat):Int)) then (jn (fun (s1:List Int) =>
 some (.inl (s1,w64 (s0.2+1))))
 (fun j0=>bnd (idx r0 s0.2) fun x0 =>
 if p1=x0.a0 then (gd (((s0.1).length+1)*8<=140737488355328) <|
 j0 (s0.1++[x0.a1]))
 else (if p1=x0.a1 then (gd (((s0.1).length+1)*8<=140737488355328) <|
 j0 (s0.1++[x0.a0]))
 else (j0 s0.1))))
 else (some (.inr s0.1))
noncomputable def Ld (p0:Aw) (p1:Int):Option ((List Int) × Int) :=
 bnd (Kk p0) fun r2 =>
 if r2=0 then (jn (fun (s7:Bool) =>
 if s7=true then (some (([]:List Int),2))
 else (jn (fun (s0:List Int) =>
 gd ((s0).length<=1000000) <|
 some (Ku s0,0))
 (fun j0=>bnd (Ke p0) fun r0 =>
 bnd (lfix (Mw r0 p1) (([]:List Int),0)) fun t0 =>
 j0 t0)))
 (fun j7=>if p1 < 0 then (j7 true)
 else (j7 (decide (((((p0.V).length:Nat):Int))<=p1)))))
 else (some (([]:List Int),r2))
set_option maxRecDepth 100000 in
instance mesh_corners_c (p0:Aw) (p1:Ae):Con (Qw p0 p1) Tryz.prog 61 (fun K vs=>∃ (A0_0:Option Addr) (c0_0:Nat) (A0_1:Option Addr) (c0_1:Nat) (A0_2:Option Addr) (c0_2:Nat),vs=[.agg #[.slice (A0_0) ((p0.V).length) (c0_0),.slice (A0_1) ((p0.T).length) (c0_1),.slice (A0_2) ((p0.Lines).length) (c0_2)],.agg #[.int .i64 (p1.a0),.int .i64 (p1.a1),.int .i64 (p1.a2)]]/\Has K A0_0 (p0.V).length c0_0 4 Ah (p0.V)/\Has K A0_1 (p0.T).length c0_1 3 Aq (p0.T)/\Has K A0_2 (p0.Lines).length c0_2 2 Ai (p0.Lines)/\True) (fun _ r=>fun v Ln=>v = .agg #[.int .i64 (r.a0.X),.int .i64 (r.a0.Y),.int .i64 (r.a0.Z.Lo),.int .i64 (r.a0.Z.Hi),.int .i64 (r.a1.X),.int .i64 (r.a1.Y),.int .i64 (r.a1.Z.Lo),.int .i64 (r.a1.Z.Hi),.int .i64 (r.a2.X),.int .i64 (r.a2.Y),.int .i64 (r.a2.Z.Lo),.int .i64 (r.a2.Z.Hi)]/\Ln=[]/\True):=⟨by
 rintro K _ r ⟨A0_0,c0_0,A0_1,c0_1,A0_2,c0_2,rfl,ha0,ha1,ha2,-⟩ hx w hK;replace ha0:=Has.lo ha0 hK;replace ha1:=Has.lo ha1 hK;replace ha2:=Has.lo ha2 hK;unfold Qw at hx;have:=dl 1 [0,1,0,1,0,1,0,1,0,1,0,1,0,1,0,1,0,1,0,3] [0,1,2,3,4,5,6,7,8,9,10,11,12,13,14,15,16,17,18,19];refine CtS Tryz.ntmps61 Tryz.results61 ?_;exact au⟩
set_option maxRecDepth 100000 in
instance mesh_area_c (p0:Ac) (p1:Ac) (p2:Ac):Con (Xa p0 p1 p2) Tryz.prog 63 (fun _ vs=>vs=[.agg #[.int .i64 (p0.X),.int .i64 (p0.Y)],.agg #[.int .i64 (p1.X),.int .i64 (p1.Y)],.agg #[.int .i64 (p2.X),.int .i64 (p2.Y)]]) (fun _ r=>fun v Ln=>v = .int .i64 (r)/\Ln=[]/\True):=⟨by
 rintro _ _ r rfl hx w hK;unfold Xa at hx;refine CtS Tryz.ntmps63 Tryz.results63 ?_;exact au⟩
set_option maxHeartbeats 1000000 in
set_option maxRecDepth 100000 in
instance mesh_Area_c (p0:Aw):Con (Tf p0) Tryz.prog 19 (fun K vs=>∃ (A0_0:Option Addr) (c0_0:Nat) (A0_1:Option Addr) (c0_1:Nat) (A0_2:Option Addr) (c0_2:Nat),vs=[.agg #[.slice (A0_0) ((p0.V).length) (c0_0),.slice (A0_1) ((p0.T).length) (c0_1),.slice (A0_2) ((p0.Lines).length) (c0_2)]]/\Has K A0_0 (p0.V).length c0_0 4 Ah (p0.V)/\Has K A0_1 (p0.T).length c0_1 3 Aq (p0.T)/\Has K A0_2 (p0.Lines).length c0_2 2 Ai (p0.Lines)/\True) (fun _ r=>fun v Ln=>v = .tuple #[.int .i64 (r.1),.int .i64 (r.2)]/\Ln=[]/\True):=⟨by
 rintro K _ r ⟨A0_0,c0_0,A0_1,c0_1,A0_2,c0_2,rfl,ha0,ha1,ha2,-⟩ hx w hK;replace ha0:=Has.lo ha0 hK;replace ha1:=Has.lo ha1 hK;replace ha2:=Has.lo ha2 hK;unfold Tf at hx;have:=dl 9 [0,0,1,2,0,1,2,0,1,2,2,0,2] [0,1,2,4,5,7,8,3,6,9,10,11,12];refine CtS Tryz.ntmps19 Tryz.results19 ?_;try (refine pre ?_;intros;rename_i hx)
 refine Cq2 (s:=12) hx rfl (fun _ hx=>?_) (fun _ hx=>?_)
 ·exact au
 ·try (refine pre ?_;intros;rename_i hx)
  refine Bw ?_;try (refine pre ?_;intros;rename_i hx)
  apply Jr (γ:=Unit) hx [] (fun s7 y7 f=>(5,.int .i64 (s7))::f) [999] (fun s7 y7 l=>l);exact kk
  ·intro s7 y7 hx;exact au
  ·intro _ hx;try (refine pre ?_;intros;rename_i hx)
   apply Lr (γ:=Unit) hx [1,15,16] (fun s0 y0 f=>(5,.int .i64 (s0.1))::(17,.int .i64 (s0.2))::f) [0,999] (fun s0 y0 l=>l) ();exact kk;exact sk;intro s0 y0 x0 hx _;unfold Ox at hx
   exact au⟩
set_option maxHeartbeats 1000000 in
set_option maxRecDepth 100000 in
instance Adi (p0:Aw):Con (Ke p0) Tryz.prog 87 (fun K vs=>∃ (A0_0:Option Addr) (c0_0:Nat) (A0_1:Option Addr) (c0_1:Nat) (A0_2:Option Addr) (c0_2:Nat),vs=[.agg #[.slice (A0_0) ((p0.V).length) (c0_0),.slice (A0_1) ((p0.T).length) (c0_1),.slice (A0_2) ((p0.Lines).length) (c0_2)]]/\Has K A0_0 (p0.V).length c0_0 4 Ah (p0.V)/\Has K A0_1 (p0.T).length c0_1 3 Aq (p0.T)/\Has K A0_2 (p0.Lines).length c0_2 2 Ai (p0.Lines)/\True) (fun _ r=>fun v Ln=>∃ (A0:Option Addr) (c0:Nat),v = .slice (A0) ((r).length) (c0)/\Ln=[.r A0 (r).length c0 62 2 ((r).flatMap Ai)]/\True):=⟨by
 rintro K _ r ⟨A0_0,c0_0,A0_1,c0_1,A0_2,c0_2,rfl,ha0,ha1,ha2,-⟩ hx w hK;replace ha0:=Has.lo ha0 hK;replace ha1:=Has.lo ha1 hK;replace ha2:=Has.lo ha2 hK;unfold Ke at hx;have:=dl 9 [0,0,1,0,0,0,0,1,2,4,3] [0,1,2,3,4,5,6,7,8,9,10] [9];refine CtS Tryz.ntmps87 Tryz.results87 ?_;try (refine pre ?_;intros;rename_i hx)
 refine Bw ?_;try (refine pre ?_;intros;rename_i hx)
 refine Bw ?_;try (refine pre ?_;intros;rename_i hx)
 refine Bw ?_;try (refine pre ?_;intros;rename_i hx)
 apply Jr (γ:=(Option Addr) × Nat) hx [] (fun s4 y4 f=>(4,.slice (y4.1) ((s4).length) (y4.2))::f) [999] (fun s4 y4 l=>.r (y4.1) ((s4).length) (y4.2) 62 2 ((s4).flatMap Ai)::l);exact kk
 ·intro s4 y4 hx;exact au
 ·intro _ hx;try (refine pre ?_;intros;rename_i hx)
  refine Ba 62 2 ?_
  apply Lr (γ:=(Option Addr) × (Nat) × (Nat)) hx [11,12] (fun s0 y0 f=>(3,.map (some (y0.2.2)))::(4,.slice (y0.1) ((s0.2.1).length) (y0.2.1))::(13,.int .i64 (s0.2.2))::f) [999] (fun s0 y0 l=>.r (y0.1) ((s0.2.1).length) (y0.2.1) 62 2 ((s0.2.1).flatMap Ai)::Ao Tryz.prog 62 Af Az (y0.2.2) (s0.1)::l) (_,_,_);exact kk;exact sk;intro s0 y0 x0 hx _;unfold Mc at hx
  try (refine pre ?_;intros;rename_i hx)
  refine Cq1 (s:=14) hx rfl (fun _ hx=>?_) (fun _ hx=>?_)
  ·try (refine pre ?_;intros;rename_i hx)
   apply Jr (γ:=(Option Addr) × (Nat) × (Nat)) hx [11,12,13] (fun s1 y1 f=>(3,.map (some (y1.2.2)))::(4,.slice (y1.1) ((s1.2).length) (y1.2.1))::f) [999] (fun s1 y1 l=>.r (y1.1) ((s1.2).length) (y1.2.1) 62 2 ((s1.2).flatMap Ai)::Ao Tryz.prog 62 Af Az (y1.2.2) (s1.1)::l);exact kk
   ·intro s1 y1 hx;exact au
   ·intro _ hx;try (refine pre ?_;intros;rename_i hx)
    apply Lr (γ:=(Option Addr) × (Nat) × (Nat)) hx [6,11,12,13] (fun s2 y2 f=>(3,.map (some (y2.2.2)))::(4,.slice (y2.1) ((s2.2.1).length) (y2.2.1))::(17,.int .i64 (s2.2.2))::f) [0,999] (fun s2 y2 l=>.r (y2.1) ((s2.2.1).length) (y2.2.1) 62 2 ((s2.2.1).flatMap Ai)::Ao Tryz.prog 62 Af Az (y2.2.2) (s2.1)::l) (_,_,_);exact kk;exact sk;intro s2 y2 x1 hx _;unfold Hn at hx
    exact au
  ·exact au⟩
theorem Aci (p0:Aw) {K:List Ent} {A0_0:Option Addr} {c0_0:Nat} {A0_1:Option Addr} {c0_1:Nat} {A0_2:Option Addr} {c0_2:Nat} (ha0:Has K A0_0 (p0.V).length c0_0 4 Ah (p0.V)) (ha1:Has K A0_1 (p0.T).length c0_1 3 Aq (p0.T)) (ha2:Has K A0_2 (p0.Lines).length c0_2 2 Ai (p0.Lines)) {r:List Aa} (hx:Ke p0=some r) (w:World) (hK:∀ e∈K,Ent.ok w e):CtL Tryz.prog 87 [.agg #[.slice (A0_0) ((p0.V).length) (c0_0),.slice (A0_1) ((p0.T).length) (c0_1),.slice (A0_2) ((p0.Lines).length) (c0_2)]] w fun v Ln=>∃ (A0:Option Addr) (c0:Nat),v = .slice (A0) ((r).length) (c0)/\Ln=[.r A0 (r).length c0 62 2 ((r).flatMap Ai)]/\True:=(Adi p0).h K _ _ ⟨_,_,_,_,_,_,rfl,ha0,ha1,ha2,trivial⟩ hx w hK
set_option maxRecDepth 100000 in
instance mesh_Sides_c (p0:Aw):Con (Rn p0) Tryz.prog 31 (fun K vs=>∃ (A0_0:Option Addr) (c0_0:Nat) (A0_1:Option Addr) (c0_1:Nat) (A0_2:Option Addr) (c0_2:Nat),vs=[.agg #[.slice (A0_0) ((p0.V).length) (c0_0),.slice (A0_1) ((p0.T).length) (c0_1),.slice (A0_2) ((p0.Lines).length) (c0_2)]]/\Has K A0_0 (p0.V).length c0_0 4 Ah (p0.V)/\Has K A0_1 (p0.T).length c0_1 3 Aq (p0.T)/\Has K A0_2 (p0.Lines).length c0_2 2 Ai (p0.Lines)/\True) (fun _ r=>fun v Ln=>∃ (A0:Option Addr) (c0:Nat),v = .tuple #[.slice (A0) ((r.1).length) (c0),.int .i64 (r.2)]/\Ln=[.r A0 (r.1).length c0 62 2 ((r.1).flatMap Ai)]/\True):=⟨by
 rintro K _ r ⟨A0_0,c0_0,A0_1,c0_1,A0_2,c0_2,rfl,ha0,ha1,ha2,-⟩ hx w hK;replace ha0:=Has.lo ha0 hK;replace ha1:=Has.lo ha1 hK;replace ha2:=Has.lo ha2 hK;unfold Rn at hx;refine CtS Tryz.ntmps31 Tryz.results31 ?_;exact au⟩
set_option maxRecDepth 100000 in
theorem Adj (p0:Aw) (p1:Int) {K:List Ent} {A0_0:Option Addr} {c0_0:Nat} {A0_1:Option Addr} {c0_1:Nat} {A0_2:Option Addr} {c0_2:Nat} (ha0:Has K A0_0 p0.V.length c0_0 4 Ah (p0.V)) (ha1:Has K A0_1 p0.T.length c0_1 3 Aq (p0.T)) (ha2:Has K A0_2 p0.Lines.length c0_2 2 Ai (p0.Lines)) {r:(List Int) × Int} (hx:Ld p0 p1=some r) (w:World) (hK:∀ e∈K,Ent.ok w e):CtL Tryz.prog 32 [.agg #[.slice (A0_0) (p0.V.length) (c0_0),.slice (A0_1) (p0.T.length) (c0_1),.slice (A0_2) (p0.Lines.length) (c0_2)],.int .i64 (p1)] w fun v Ln=>∃ (A0:Option Addr) (c0:Nat),v = .tuple #[.slice (A0) (r.1.length) (c0),.int .i64 (r.2)]/\Ln=[.r A0 r.1.length c0 3 1 (r.1.flatMap Bq)]/\True:=by
 have ha0':=Has.up0 ha0;have ha1':=Has.up0 ha1;have ha2':=Has.up0 ha2;refine CtL.mk 54 Tryz.func32 rfl Tryz.ntmps32 (by kernel_rfl) rfl ?_;show T 54 _ [(0,.agg #[.slice (A0_0) (p0.V.length) (c0_0),.slice (A0_1) (p0.T.length) (c0_1),.slice (A0_2) (p0.Lines.length) (c0_2)]),(1,.int .i64 (p1))] _;unfold Ld at hx;refine Y2 ?_;refine T_x (Yl rfl rfl rfl (fun g1=>?_));refine Y7 ?_;refine Ax (Hq rfl (i:=0) rfl rfl Amz) rfl ?_;obtain ⟨r2,h3,hx4⟩:=Am hx;refine Tc (fun w1 hw1=>Ae9 p0 (Has.len' ha0') (Has.len' ha1') (Has.len' ha2') h3 w1 (Ajc (K:=K) (K2:=[]) hK (by exact (sb 1)) (by exact (SubE.nil)) hw1)) ?_;refine Y9 ?_;refine Wf (s:=13) rfl (fun h5=>?_) (fun h5=>?_)
 ·have hx6:=Tv h5 hx4;refine Y10 ?_;refine Ba 3 1 ?_;obtain rfl:=Option.some.inj hx6;exact Ls (rs:=[.tmp 4,.tmp 5]) Tryz.results32 (.tmp rfl (.tmp rfl (.nil))) (Ln:=[.r (none) (0) (0) 3 1 ((([]:List Int)).flatMap Bq)]) ⟨none,0,rfl,rfl,trivial⟩ (Eu rfl (Kw)) (by exact .pick 0 rfl (.drop 0 rfl (.refl)))
 ·have hx7:=Jc h5 hx4;refine Y4 ?_;refine Tj (γ:=Unit) hx7 (fun s7 y7=>[(1,.int .i64 (p1)),(2,.pointer (some ⟨g1,0,none⟩)),(23,.bool (s7))]) (fun s7 y7=>[.m g1 32 [.slice (A0_0) (p0.V.length) (c0_0),.slice (A0_1) (p0.T.length) (c0_1),.slice (A0_2) (p0.Lines.length) (c0_2)]]++[.old w]) (fun s7 y7=>True) (fun s7 y7 hx0 hG0=>?_) (fun j7 hx7=>?_)
  ·refine Jm (s:=23) rfl (fun h0=>?_) (fun h0=>?_)
   ·have hx1:=Jc h0 hx0;refine Y9 ?_;refine Ba 3 1 ?_;obtain rfl:=Option.some.inj hx1;exact Ls (rs:=[.tmp 4,.tmp 5]) Tryz.results32 (.tmp rfl (.tmp rfl (.nil))) (Ln:=[.r (none) (0) (0) 3 1 ((([]:List Int)).flatMap Bq)]) ⟨none,0,rfl,rfl,trivial⟩ (Eu rfl (Kw)) (by exact .pick 0 rfl (.drop 0 rfl (.refl)))
   ·have hx2:=Mn h0 hx0;refine Y8 ?_;refine Tj (γ:=(Option Addr) × Nat) hx2 (fun s0 y0=>[(7,.slice (y0.1) (s0.length) (y0.2))]) (fun s0 y0=>[.r (y0.1) (s0.length) (y0.2) 3 1 (s0.flatMap Bq)]++[.old w]) (fun s0 y0=>True) (fun s0 y0 hx3 hG1=>?_) (fun j0 hx2=>?_)
    ·refine Y3 ?_;obtain ⟨h1,hx5⟩:=Co hx3;refine T_h (As5 (s0) rfl h1 (.here) rfl ?_);refine Y10 ?_;have hn0:s0.length=(Ku s0).length:=(by rw [Wo]);refine Oq (.here) (e':=.r (y0.1) ((Ku s0).length) (y0.2) 3 1 ((Ku s0).flatMap Bq)) (by first | (rw [<- hn0];done) | rfl) ?_;refine Sx (s:=4) (v':=.slice (y0.1) ((Ku s0).length) (y0.2)) rfl (by have hn1:(s0.length)=(Ku s0).length:=(by rw [Wo]);first | (rw [<- hn1];done) | rfl) ?_;obtain rfl:=Option.some.inj hx5;exact Ls (rs:=[.tmp 4,.tmp 5]) Tryz.results32 (.tmp rfl (.tmp rfl (.nil))) (Ln:=[.r (y0.1) ((Ku s0).length) (y0.2) 3 1 ((Ku s0).flatMap Bq)]) ⟨y0.1,y0.2,rfl,rfl,trivial⟩ (Eu rfl (Kw)) (by exact .pick 0 rfl (.refl))
    ·refine Y2 ?_;refine Ax (Hq rfl (i:=0) rfl rfl Amz) rfl ?_;obtain ⟨r0,h2,hx8⟩:=Am hx2;refine T_x (Oz rfl (fun w1 hw1=>Aci p0 (Has.len' ha0') (Has.len' ha1') (Has.len' ha2') h2 w1 (Ajc (K:=K) (K2:=[]) hK (by exact (sb 1)) (by exact (SubE.nil)) hw1)) rfl ?_);rintro _ _ hlo ⟨A1,c1,rfl,rfl,-⟩;refine Pd ?_;refine Ax (Kj rfl 62 Tryz.underlying23) rfl ?_;refine Y4 ?_;obtain ⟨t0,hl0,ho0⟩:=Am hx8;refine Ba 3 1 ?_
     have hn2:0=(([]:List Int)).length:=by simp [Cc,Jl,List.length_append] <;> omega
     refine Oq (.here) (e':=.r (none) ((([]:List Int)).length) (0) 3 1 ((([]:List Int)).flatMap Bq)) (by first | (rw [<- hn2];done) | rfl) ?_;refine Lp (σ:=(List Int) × Int) (γ:=(Option Addr) × Nat) hl0 (fun s1 y1=>[(1,.int .i64 (p1)),(7,.slice (y1.1) (s1.1.length) (y1.2)),(25,.slice (A1) (r0.length) (c1)),(26,.int .i64 (((r0.length:Nat):Int))),(27,.int .i64 (s1.2))]) (fun s1 y1=>[.r (y1.1) (s1.1.length) (y1.2) 3 1 (s1.1.flatMap Bq),.r (A1) (r0.length) (c1) 62 2 (r0.flatMap Ai)]++[.old w]) (fun s1 y1=>True) (none,0) trivial (by exact .pick 0 rfl (.pick 0 rfl (.drop 0 rfl (.refl)))) ?_;intro s1 y1 hG2 x0 hx56 ht0;unfold Mw at hx56;refine Y6 ?_;refine Ti hx56 (s:=28) rfl (fun h4 hx59=>?_) (fun h4 hx60=>?_)
     ·refine Y3 ?_;refine Tj (γ:=(Option Addr) × Nat) hx59 (fun s2 y2=>[(1,.int .i64 (p1)),(7,.slice (y2.1) (s2.length) (y2.2)),(25,.slice (A1) (r0.length) (c1)),(26,.int .i64 (((r0.length:Nat):Int))),(27,.int .i64 (s1.2))]) (fun s2 y2=>[.r (y2.1) (s2.length) (y2.2) 3 1 (s2.flatMap Bq),.r (A1) (r0.length) (c1) 62 2 (r0.flatMap Ai)]++[.old w]) (fun s2 y2=>True) (fun s2 y2 hx89 hG3=>?_) (fun j1 hx59=>?_)
      ·refine Y4 ?_;exact Rp (s2,w64 (s1.2+1)) (y2.1,y2.2) hx89 trivial (by exact .pick 0 rfl (.pick 0 rfl (.refl)))
      ·refine Y3 ?_;obtain ⟨x1,h6,hx63⟩:=Am hx59;refine Mm (k:=1) rfl (by decide) (fun _=>rfl) h6 (fun b0 j2 hA0 hj0 hl1 hm0 hp0=>?_);refine Ax (Bp rfl rfl hA0 (j:=j2) hj0 hl1 Qq) rfl ?_;refine Ax (Fm rfl hp0 (sb 1) rfl Ie) rfl ?_;refine T_x (Nw Xv rfl (fun g0=>?_));refine T_h (Ny rfl rfl rfl (.here) (.put (.put (.done))) rfl (List.cons_ne_nil _ _) Ie.2 ?_);refine Y10 ?_;refine Ax (Bh rfl rfl If (by decide) (by decide) rfl) rfl ?_;refine Ax (Bg rfl (i:=0) rfl rfl one3) rfl ?_;refine Y4 ?_;refine Ti hx63 (s:=32) rfl (fun h7 hx74=>?_) (fun h7 hx80=>?_)
       ·refine Y3 ?_;refine Ax (Bh rfl rfl If (by decide) (by decide) rfl) rfl ?_;refine Ax (Bg rfl (i:=0) rfl rfl one3) rfl ?_;refine T_x (Cj rfl (Nl _) rfl (fun g2=>?_));obtain ⟨h9,hx77⟩:=Co hx74;refine T_h (Ec Bq (s1.1) [x1.a1] rfl rfl rfl Af4 (fun _=>rfl) (i':=0) rfl rfl rfl rfl h9 rfl (fun _ _=>.there (.there (.here))) (fun _ _=>.drop .refl) (by decide) (fun A2 c2=>?_));refine Y4 ?_;exact Mt (s1.1++[x1.a1]) (A2,c2) hx77 trivial (by exact .pick 1 rfl (.pick 1 rfl (.drop 0 rfl (.refl))))
       ·refine Y3 ?_;refine Ax (Bh rfl rfl If (by decide) (by decide) rfl) rfl ?_;refine Ax (Bg rfl (i:=0) rfl rfl one3) rfl ?_;refine Y4 ?_;refine Ti hx80 (s:=41) rfl (fun h81 hx82=>?_) (fun h81 hx88=>?_)
        ·refine Y3 ?_;refine Ax (Bh rfl rfl If (by decide) (by decide) rfl) rfl ?_;refine Ax (Bg rfl (i:=0) rfl rfl one3) rfl ?_;refine T_x (Cj rfl (Nl _) rfl (fun g3=>?_));obtain ⟨h84,hx85⟩:=Co hx82;refine T_h (Ec Bq (s1.1) [x1.a0] rfl rfl rfl Af4 (fun _=>rfl) (i':=0) rfl rfl rfl rfl h84 rfl (fun _ _=>.there (.there (.here))) (fun _ _=>.drop .refl) (by decide) (fun A3 c3=>?_));refine Y4 ?_;exact Mt (s1.1++[x1.a0]) (A3,c3) hx85 trivial (by exact .pick 1 rfl (.pick 1 rfl (.drop 0 rfl (.refl))))
        ·refine Y4 ?_;exact Mt s1.1 (y1.1,y1.2) hx88 trivial (by exact .pick 1 rfl (.pick 1 rfl (.drop 0 rfl (.refl))))
     ·refine Y3 ?_;obtain rfl:=Hl ht0 hx60;refine Y2 ?_;exact Mt s1.1 (y1.1,y1.2) ho0 trivial (by exact .pick 0 rfl (.drop 0 rfl (.refl)))
  ·refine Y4 ?_;refine Ti hx7 (s:=17) rfl (fun h8 hx9=>?_) (fun h8 hx10=>?_)
   ·refine Y7 ?_;exact Mt true () hx9 trivial (by exact .pick 0 rfl (.refl))
   ·refine Y ?_;refine Rm rfl rfl rfl (Iy rfl Acx rfl) rfl ?_;refine Rm rfl rfl rfl (Bg rfl (i:=0) rfl rfl Vt) rfl ?_;refine Rm rfl rfl rfl (Kj rfl 70 Tryz.underlying22) rfl ?_;refine Y3 ?_;exact Mt (decide ((((p0.V.length:Nat):Int))<=p1)) () hx10 trivial (by exact .pick 0 rfl (.refl))
set_option maxHeartbeats 1000000 in
set_option maxRecDepth 100000 in
instance mesh_Around_c (p0:Aw) (p1:Int):Con (Ld p0 p1) Tryz.prog 32 (fun K vs=>∃ (A0_0:Option Addr) (c0_0:Nat) (A0_1:Option Addr) (c0_1:Nat) (A0_2:Option Addr) (c0_2:Nat),vs=[.agg #[.slice (A0_0) ((p0.V).length) (c0_0),.slice (A0_1) ((p0.T).length) (c0_1),.slice (A0_2) ((p0.Lines).length) (c0_2)],.int .i64 (p1)]/\Has K A0_0 (p0.V).length c0_0 4 Ah (p0.V)/\Has K A0_1 (p0.T).length c0_1 3 Aq (p0.T)/\Has K A0_2 (p0.Lines).length c0_2 2 Ai (p0.Lines)/\True) (fun _ r=>fun v Ln=>∃ (A0:Option Addr) (c0:Nat),v = .tuple #[.slice (A0) ((r.1).length) (c0),.int .i64 (r.2)]/\Ln=[.r A0 (r.1).length c0 3 1 ((r.1).flatMap Bq)]/\True):=⟨by
 rintro K _ r ⟨A0_0,c0_0,A0_1,c0_1,A0_2,c0_2,rfl,ha0,ha1,ha2,-⟩ hx w hK;exact Adj p0 p1 ha0 ha1 ha2 hx w hK⟩
end Go.Proofs.YtjfndjmabhbicaaGreat
