/- Walks of the program, with their plain functions: inputs, comparators. -/
import Derived.Test.YtbkobeeileemjaaGreatD1
namespace Go.Proofs.YtbkobeeileemjaaGreat
open Go Go.RowKit
theorem Acs:Ir Tryz.prog 22 34 4:=.mk Tryz.underlying22 (show Tryz.prog.info? 34=some Tryz.t34 from by kernel_rfl) (by kernel_rfl)
instance:Kx Tryz.prog 22 34 4:=⟨Acs⟩
theorem Aqu:Kj Tryz.prog 34 [.int .i64 (0),.int .i64 (0),.int .i64 (0),.int .i64 (0)]:=⟨_,Tryz.zeroValue34,rfl⟩
instance:Qy Tryz.prog 34 [.int .i64 (0),.int .i64 (0),.int .i64 (0),.int .i64 (0)]:=⟨Aqu⟩
theorem Afb:Ir Tryz.prog 23 97 2:=.mk Tryz.underlying23 (show Tryz.prog.info? 97=some Tryz.t97 from by kernel_rfl) (by kernel_rfl)
instance:Kx Tryz.prog 23 97 2:=⟨Afb⟩
theorem Pf:Ir Tryz.prog 48 3 1:=.mk Tryz.underlying48 (show Tryz.prog.info? 3=some Tryz.t3 from by kernel_rfl) (by kernel_rfl)
instance:Kx Tryz.prog 48 3 1:=⟨Pf⟩
theorem Aqv:Zr Tryz.prog 26 3 1:=.mk Tryz.underlying26 (show Tryz.prog.info? 3=some Tryz.t3 from by kernel_rfl) (by kernel_rfl)
instance:ArrI Tryz.prog 26 3 1:=⟨Aqv⟩
theorem Aat:Ni Tryz.prog 22:=.mk Tryz.underlying22 rfl (show Tryz.prog.info? 22=some Tryz.t22 from by kernel_rfl) (by kernel_rfl)
instance:OneI Tryz.prog 22:=⟨Aat⟩
instance:UndI Tryz.prog 22 (.slice 34):=⟨Tryz.underlying22⟩
theorem Afc:laidOutB Tryz.prog=true:=by kernel_rfl
theorem Ape:(match Tryz.prog.underlying 28 with | some (.array _ _) | some (.struct _)=>true | _=>false)=true:=by kernel_rfl
set_option maxRecDepth 100000 in
theorem Aqw:Maps.Keyed Tryz.prog 28:=Maps.Keyed.of_law (deep_law_laid Afc (m:=3) (by omega) (of_decide_eq_true (by kernel_rfl)) (by kernel_rfl) Ape)
theorem Aqx (x:Ac) (h:(-9223372036854775808≤x.X∧x.X≤9223372036854775807)∧(-9223372036854775808≤x.Y∧x.Y≤9223372036854775807)):(keyOf Tryz.prog 28 (Lu x)).isSome=true:=by
 refine Ahk (cs:=[.int .i64 (x.X),.int .i64 (x.Y)]) (d:=374) (by kernel_rfl) Tryz.underlying28 (by kernel_rfl) (by kernel_rfl) (by kernel_rfl) (fun f hf=>?_)
 simp only [List.mem_cons,List.not_mem_nil,or_false] at hf
 rcases hf with rfl | rfl
 ·exact ⟨.i64,x.X,Tryz.underlying3,by kernel_rfl,Aes h.1⟩
 ·exact ⟨.i64,x.Y,Tryz.underlying3,by kernel_rfl,Aes h.2⟩
instance:KeyI Tryz.prog 28 Lu (fun x=>(-9223372036854775808≤x.X∧x.X≤9223372036854775807)∧(-9223372036854775808≤x.Y∧x.Y≤9223372036854775807)):=⟨Aqw,Ws,Aqx⟩
instance:UndI Tryz.prog 137 (.map 28 4):=⟨Tryz.underlying137⟩
def Bi (x:Bool):Value:=.bool (x)
theorem Agl (x y:Bool) (h:Bi x=Bi y):x=y:=by simpa [Bi] using h
instance (x:Bool):UnfI Bi x (.bool (x)):=⟨rfl⟩
instance (x0:Bool):Wm Bi (.bool (x0)) (x0):=⟨rfl⟩
instance:ValI Tryz.prog 4 Bi false:=⟨Agl,fun w=>by kernel_rfl⟩
noncomputable def Hf (p0:List Ab):Int→Option (Sum Int (Sum Unit Int)):=fun s0 =>
 if s0 < ((((p0).length:Nat):Int)) then (bnd (idx p0 s0) fun x0 =>
 bnd (Rf x0) fun r0 =>
 if r0=true then (some (.inl (w64 (s0+1))))
 else (some (.inr (.inr (60)))))
 else (some (.inr (.inl ())))
noncomputable def Ko (p0:List Ab):((List (Ac × Bool)) × Int)→Option (Sum ((List (Ac × Bool)) × Int) (Sum Unit Int)):=fun s0 =>
 if s0.2 < ((((p0).length:Nat):Int)) then (bnd (idx p0 s0.2) fun x0 =>
 bnd (Ej x0) fun r0 =>
 gd ((-9223372036854775808≤r0.X∧r0.X≤9223372036854775807)∧(-9223372036854775808≤r0.Y∧r0.Y≤9223372036854775807)) <|
 bnd (some ((mget s0.1 r0).getD false)) fun x1 =>
 if x1=true then (some (.inr (.inr (61))))
 else (bnd (Ej x0) fun r1 =>
 gd ((-9223372036854775808≤r1.X∧r1.X≤9223372036854775807)∧(-9223372036854775808≤r1.Y∧r1.Y≤9223372036854775807)) <|
 gd ((s0.1).length < 9223372036854775807) <|
 some (.inl (mput s0.1 r1 true,w64 (s0.2+1)))))
 else (some (.inr (.inl ())))
noncomputable def Kd (p0:List Ab):Option Int :=
 if 1024 < ((((p0).length:Nat):Int)) then (some 2)
 else (jn (fun (s5:Unit) =>
 jn (fun (s0:Unit) =>
 some 0)
 (fun j0=>bnd (lfix (Ko p0) (([]:List (Ac × Bool)),0)) fun t0 =>
 (match t0 with
 | (.inl z0)=>j0 z0
 | (.inr (z0))=>some z0
 )))
 (fun j5=>bnd (lfix (Hf p0) 0) fun t1 =>
 (match t1 with
 | (.inl z1)=>j5 z1
 | (.inr (z1))=>some z1
 )))
def Ao (x:Ab):List Value:=[.int .i64 (x.X),.int .i64 (x.Y),.int .i64 (x.Z.Lo),.int .i64 (x.Z.Hi)]
instance (x0:Int) (x1:Int) (x2:Int) (x3:Int):DecI Ao [.int .i64 (x0),.int .i64 (x1),.int .i64 (x2),.int .i64 (x3)] (⟨x0,x1,⟨x2,x3⟩⟩):=⟨rfl⟩
instance:EncI 34 Ao:=⟨trivial⟩
def Ai (x:Aa):Value:=.agg #[.int .i64 (x.a0),.int .i64 (x.a1)]
theorem Bk (x y:Aa) (h:Ai x=Ai y):x=y:=by
 rcases x with ⟨_,_⟩;rcases y with ⟨_,_⟩;simp [Ai] at h;simp [h]
instance (x:Aa):UnfI Ai x (.agg #[.int .i64 (x.a0),.int .i64 (x.a1)]):=⟨rfl⟩
instance (x0:Int) (x1:Int):Wm Ai (.agg #[.int .i64 (x0),.int .i64 (x1)]) (⟨x0,x1⟩):=⟨rfl⟩
instance:ValI Tryz.prog 97 Ai ((⟨0,0⟩:Aa)):=⟨Bk,fun w=>by kernel_rfl⟩
theorem Apf:(match Tryz.prog.underlying 97 with | some (.array _ _) | some (.struct _)=>true | _=>false)=true:=by kernel_rfl
set_option maxRecDepth 100000 in
theorem Mq:Maps.Keyed Tryz.prog 97:=Maps.Keyed.of_law (deep_law_laid Afc (m:=3) (by omega) (of_decide_eq_true (by kernel_rfl)) (by kernel_rfl) Apf)
theorem Pz (x:Aa) (h:(-9223372036854775808≤x.a0∧x.a0≤9223372036854775807)∧(-9223372036854775808≤x.a1∧x.a1≤9223372036854775807)):(keyOf Tryz.prog 97 (Ai x)).isSome=true:=by
 refine Aj4 (zs:=[x.a0,x.a1]) (d:=374) (by kernel_rfl) Tryz.underlying97 (by kernel_rfl) rfl Tryz.underlying3 (by kernel_rfl) (by kernel_rfl) (fun z hz=>?_)
 simp only [List.mem_cons,List.not_mem_nil,or_false] at hz
 rcases hz with rfl | rfl
 ·exact Aes h.1
 ·exact Aes h.2
instance:KeyI Tryz.prog 97 Ai (fun x=>(-9223372036854775808≤x.a0∧x.a0≤9223372036854775807)∧(-9223372036854775808≤x.a1∧x.a1≤9223372036854775807)):=⟨Mq,Bk,Pz⟩
instance:UndI Tryz.prog 91 (.map 97 4):=⟨Tryz.underlying91⟩
instance:UndI Tryz.prog 23 (.slice 97):=⟨Tryz.underlying23⟩
def Aw (x:Aa):List Value:=[.int .i64 (x.a0),.int .i64 (x.a1)]
instance (x0:Int) (x1:Int):DecI Aw [.int .i64 (x0),.int .i64 (x1)] (⟨x0,x1⟩):=⟨rfl⟩
instance:EncI 97 Aw:=⟨trivial⟩
noncomputable def Me (p1:List Aa):((List (Aa × Bool)) × Int)→Option (Sum ((List (Aa × Bool)) × Int) Unit):=fun s6 =>
 if s6.2 < ((((p1).length:Nat):Int)) then (none)
 else (some (.inr ()))
noncomputable def Li (p1:List Aa):Int→Option (Sum Int Unit):=fun s0 =>
 if s0 < ((((p1).length:Nat):Int)) then (none)
 else (some (.inr ()))
noncomputable def Ic (p0:List Ab) (p1:List Aa):Option Int :=
 jn (fun (s3:Unit) =>
 jn (fun (s9:Unit) =>
 some 0)
 (fun j9=>bnd (lfix (Li p1) 0) fun t0 =>
 j9 t0))
 (fun j3=>bnd (lfix (Me p1) (([]:List (Aa × Bool)),0)) fun t6 =>
 j3 t6)
noncomputable def Ks (p0:Int):Option Bool :=
 some (!(decide (p0=p0)))
noncomputable def Je (p0:Int) (p1:Int):Option Int :=
 bnd (Ks p0) fun r1 =>
 bnd (Ks p1) fun r4 =>
 if r1=true then (if r4=true then (some 0)
 else (some (-1)))
 else (if r4=true then (some 1)
 else (if p0 < p1 then (some (-1))
 else (if p1 < p0 then (some 1)
 else (some 0))))
instance:UndI Tryz.prog 48 (.slice 3):=⟨Tryz.underlying48⟩
noncomputable def Bv (p0:List Int) (p1:List Int):Int→Option (Sum Int (Sum Unit Int)):=fun s0 =>
 if s0 < ((((p0).length:Nat):Int)) then (bnd (idx p0 s0) fun x0 =>
 if ((((p1).length:Nat):Int))≤s0 then (some (.inr (.inr (1))))
 else (bnd (idx p1 s0) fun x1 =>
 bnd (Je x0 x1) fun r0 =>
 if r0=0 then (some (.inl (w64 (s0+1))))
 else (some (.inr (.inr (r0))))))
 else (some (.inr (.inl ())))
noncomputable def Fj (p0:List Int) (p1:List Int):Option Int :=
 jn (fun (s2:Unit) =>
 if ((((p0).length:Nat):Int)) < ((((p1).length:Nat):Int)) then (some (-1))
 else (some 0))
 (fun j2=>bnd (lfix (Bv p0 p1) 0) fun t0 =>
 (match t0 with
 | (.inl z0)=>j2 z0
 | (.inr (z0))=>some z0
 ))
def Ij (x:Int):List Value:=[.int .i64 (x)]
instance (x0:Int):DecI Ij [.int .i64 (x0)] (x0):=⟨rfl⟩
instance:EncI 3 Ij:=⟨trivial⟩
structure Aq where
 a0:Int
 a1:Int
 a2:Int
noncomputable def Eb (p0:Aq) (p1:Aq):Option Int :=
 bnd (Fj ([p0.a0,p0.a1,p0.a2]) ([p1.a0,p1.a1,p1.a2])) fun r5 =>
 some r5
noncomputable def Oq (p0:Int) (p1:Int) (p2:List Ab):Option Int :=
 bnd (idx p2 p0) fun x1 =>
 bnd (idx p2 p1) fun x0 =>
 bnd (Ej x1) fun r0 =>
 bnd (Ej x0) fun r1 =>
 bnd (Gz r0 r1) fun r2 =>
 if r2=true then (some (-1))
 else (bnd (idx p2 p1) fun x2 =>
 bnd (idx p2 p0) fun x3 =>
 bnd (Ej x2) fun r3 =>
 bnd (Ej x3) fun r4 =>
 bnd (Gz r3 r4) fun r5 =>
 if r5=true then (some 1)
 else (some 0))
def Bl (x:Aq):List Value:=[.int .i64 (x.a0),.int .i64 (x.a1),.int .i64 (x.a2)]
instance (x0:Int) (x1:Int) (x2:Int):DecI Bl [.int .i64 (x0),.int .i64 (x1),.int .i64 (x2)] (⟨x0,x1,x2⟩):=⟨rfl⟩
instance:EncI 26 Bl:=⟨trivial⟩
set_option maxHeartbeats 1000000 in
set_option maxRecDepth 100000 in
instance Zt (p0:List Ab):Con (Kd p0) Tryz.prog 51 (fun K vs=>∃ (A0_0:Option Addr) (c0_0:Nat),vs=[.slice (A0_0) ((p0).length) (c0_0)]∧Has K A0_0 (p0).length c0_0 4 Ao (p0)∧True) (fun _ r=>fun v Ln=>v = .int .i64 (r)∧Ln=[]∧True):=⟨by
 rintro K _ r ⟨A0_0,c0_0,rfl,ha0,-⟩ hx w hK;replace ha0:=Has.lo ha0 hK;unfold Kd at hx;refine CtS Tryz.ntmps51 Tryz.results51 ?_;refine pre ?_;intros;rename_i hx
 refine Cq1 (s:=10) hx rfl (fun _ hx=>?_) (fun _ hx=>?_)
 ·exact au
 ·refine pre ?_;intros;rename_i hx
  apply Jr (γ:=Unit) hx [0] (fun s5 y5 f=>f) [999] (fun s5 y5 l=>l);exact kk
  ·intro s5 y5 hx;refine pre ?_;intros;rename_i hx
   refine Gh ?_;refine pre ?_;intros;rename_i hx
   apply Jr (γ:=Unit) hx [] (fun s0 y0 f=>f) [999] (fun s0 y0 l=>l);exact kk
   ·intro s0 y0 hx;exact au
   ·intro _ hx;refine pre ?_;intros;rename_i hx
    apply Lr (γ:=(Nat)) hx [22,23] (fun s1 y1 f=>(5,.map (some y1))::(24,.int .i64 (s1.2))::f) [999] (fun s1 y1 l=>Ay Tryz.prog 28 Lu Bi y1 (s1.1)::l) _;exact kk;exact sk;intro s1 y1 x0 hx _;unfold Ko at hx
    exact au
  ·intro _ hx;refine pre ?_;intros;rename_i hx
   apply Lr (γ:=Unit) hx [0,11,12] (fun s2 y2 f=>(13,.int .i64 (s2))::f) [999] (fun s2 y2 l=>l) ();exact kk;exact sk;intro s2 y2 x1 hx _;unfold Hf at hx
   exact au⟩
theorem Xn (p0:List Ab) {K:List Ent} {A0_0:Option Addr} {c0_0:Nat} (ha0:Has K A0_0 (p0).length c0_0 4 Ao (p0)) {r:Int} (hx:Kd p0=some r) (w:World) (hK:∀ e∈K,Ent.ok w e):CtL Tryz.prog 51 [.slice (A0_0) ((p0).length) (c0_0)] w fun v Ln=>v = .int .i64 (r)∧Ln=[]∧True:=(Zt p0).h K _ _ ⟨_,_,rfl,ha0,trivial⟩ hx w hK
set_option maxHeartbeats 1000000 in
set_option maxRecDepth 100000 in
instance Wf (p0:List Ab) (p1:List Aa):Con (Ic p0 p1) Tryz.prog 52 (fun K vs=>∃ (A0_0:Option Addr) (c0_0:Nat) (A0_1:Option Addr) (c0_1:Nat),vs=[.slice (A0_0) ((p0).length) (c0_0),.slice (A0_1) ((p1).length) (c0_1)]∧Has K A0_0 (p0).length c0_0 4 Ao (p0)∧Has K A0_1 (p1).length c0_1 2 Aw (p1)∧True) (fun _ r=>fun v Ln=>v = .int .i64 (r)∧Ln=[]∧True):=⟨by
 rintro K _ r ⟨A0_0,c0_0,A0_1,c0_1,rfl,ha0,ha1,-⟩ hx w hK;replace ha0:=Has.lo ha0 hK;replace ha1:=Has.lo ha1 hK;unfold Ic at hx;refine CtS Tryz.ntmps52 Tryz.results52 ?_;refine pre ?_;intros;rename_i hx
 refine Gh ?_;refine pre ?_;intros;rename_i hx
 refine Gh ?_;refine pre ?_;intros;rename_i hx
 apply Jr (γ:=Unit) hx [0,1] (fun s3 y3 f=>f) [999] (fun s3 y3 l=>l);exact kk
 ·intro s3 y3 hx;apply Jr (γ:=Unit) hx [] (fun s9 y9 f=>f) [999] (fun s9 y9 l=>l);exact kk
  ·intro s9 y9 hx;exact au
  ·intro _ hx;refine pre ?_;intros;rename_i hx
   apply Lr (γ:=Unit) hx [0,1,66,67] (fun s0 y0 f=>(68,.int .i64 (s0))::f) [999] (fun s0 y0 l=>l) ();exact kk;exact sk;intro s0 y0 x0 hx _;unfold Li at hx
   exact au
 ·intro _ hx;refine pre ?_;intros;rename_i hx
  apply Lr (γ:=(Nat)) hx [0,1,15,16] (fun s6 y6 f=>(5,.map (some y6))::(17,.int .i64 (s6.2))::f) [999] (fun s6 y6 l=>Ay Tryz.prog 97 Ai Bi y6 (s6.1)::l) _;exact kk;exact sk;intro s6 y6 x6 hx _;unfold Me at hx
  exact au⟩
theorem Vh (p0:List Ab) (p1:List Aa) {K:List Ent} {A0_0:Option Addr} {c0_0:Nat} {A0_1:Option Addr} {c0_1:Nat} (ha0:Has K A0_0 (p0).length c0_0 4 Ao (p0)) (ha1:Has K A0_1 (p1).length c0_1 2 Aw (p1)) {r:Int} (hx:Ic p0 p1=some r) (w:World) (hK:∀ e∈K,Ent.ok w e):CtL Tryz.prog 52 [.slice (A0_0) ((p0).length) (c0_0),.slice (A0_1) ((p1).length) (c0_1)] w fun v Ln=>v = .int .i64 (r)∧Ln=[]∧True:=(Wf p0 p1).h K _ _ ⟨_,_,_,_,rfl,ha0,ha1,trivial⟩ hx w hK
set_option maxRecDepth 100000 in
instance cmp_isNaN_int__c (p0:Int):Con (Ks p0) Tryz.prog 273 (fun _ vs=>vs=[.int .i64 (p0)]) (fun _ r=>fun v Ln=>v = .bool (r)∧Ln=[]∧True):=⟨by
 rintro _ _ r rfl hx w hK;unfold Ks at hx;refine CtS Tryz.ntmps273 Tryz.results273 ?_;exact au⟩
set_option maxHeartbeats 1000000 in
set_option maxRecDepth 100000 in
instance cmp_Compare_int__c (p0:Int) (p1:Int):Con (Je p0 p1) Tryz.prog 187 (fun _ vs=>vs=[.int .i64 (p0),.int .i64 (p1)]) (fun _ r=>fun v Ln=>v = .int .i64 (r)∧Ln=[]∧True):=⟨by
 rintro _ _ r rfl hx w hK;unfold Je at hx;refine CtS Tryz.ntmps187 Tryz.results187 ?_;exact au⟩
set_option maxHeartbeats 1000000 in
set_option maxRecDepth 100000 in
instance slices_Compare___int_int__c (p0:List Int) (p1:List Int):Con (Fj p0 p1) Tryz.prog 119 (fun K vs=>∃ (A0_0:Option Addr) (c0_0:Nat) (A0_1:Option Addr) (c0_1:Nat),vs=[.slice (A0_0) ((p0).length) (c0_0),.slice (A0_1) ((p1).length) (c0_1)]∧Has K A0_0 (p0).length c0_0 1 Ij (p0)∧Has K A0_1 (p1).length c0_1 1 Ij (p1)∧True) (fun _ r=>fun v Ln=>v = .int .i64 (r)∧Ln=[]∧True):=⟨by
 rintro K _ r ⟨A0_0,c0_0,A0_1,c0_1,rfl,ha0,ha1,-⟩ hx w hK;replace ha0:=Has.lo ha0 hK;replace ha1:=Has.lo ha1 hK;unfold Fj at hx;refine CtS Tryz.ntmps119 Tryz.results119 ?_;refine pre ?_;intros;rename_i hx
 refine Gh ?_;refine pre ?_;intros;rename_i hx
 apply Jr (γ:=Unit) hx [0,1] (fun s2 y2 f=>f) [999] (fun s2 y2 l=>l);exact kk
 ·intro s2 y2 hx;exact au
 ·intro _ hx;refine pre ?_;intros;rename_i hx
  apply Lr (γ:=Unit) hx [0,1,9,10] (fun s0 y0 f=>(11,.int .i64 (s0))::f) [999] (fun s0 y0 l=>l) ();exact kk;exact sk;intro s0 y0 x0 hx _;unfold Bv at hx
  exact au⟩
set_option maxRecDepth 100000 in
instance Pg (p0:Aq) (p1:Aq):Con (Eb p0 p1) Tryz.prog 118 (fun _ vs=>vs=[.agg #[.int .i64 (p0.a0),.int .i64 (p0.a1),.int .i64 (p0.a2)],.agg #[.int .i64 (p1.a0),.int .i64 (p1.a1),.int .i64 (p1.a2)]]) (fun _ r=>fun v Ln=>v = .int .i64 (r)∧Ln=[]∧True):=⟨by
 rintro _ _ r rfl hx w hK;unfold Eb at hx;have:=dl 1 [0,0,2,2] [0,1,2,3];refine CtS Tryz.ntmps118 Tryz.results118 ?_;exact au⟩
theorem Ot (p0:Aq) (p1:Aq)  {r:Int} (hx:Eb p0 p1=some r) (w:World):CtL Tryz.prog 118 [.agg #[.int .i64 (p0.a0),.int .i64 (p0.a1),.int .i64 (p0.a2)],.agg #[.int .i64 (p1.a0),.int .i64 (p1.a1),.int .i64 (p1.a2)]] w fun v Ln=>v = .int .i64 (r)∧Ln=[]∧True:=(Pg p0 p1).h [] _ _ rfl hx w (fun _ h=>absurd h List.not_mem_nil)
set_option maxRecDepth 100000 in
theorem Zu (p0:Int) (p1:Int) (p2:List Ab) {K:List Ent} {A0_0:Option Addr} {c0_0:Nat} (ha0:Has K A0_0 p2.length c0_0 4 Ao (p2)) {g0_2:Nat} (hp2:Pt K g0_2 0 [.slice (A0_0) (p2.length) (c0_0)]) {r:Int} (hx:Oq p0 p1 p2=some r) (w:World) (hK:∀ e∈K,Ent.ok w e):CtL Tryz.prog 112 [.int .i64 (p0),.int .i64 (p1),.pointer (some ⟨g0_2,0,none⟩)] w fun v Ln=>v = .int .i64 (r)∧Ln=[]∧True:=by
 have ha0':=Has.up0 ha0;have hp2':=Pt.low (E:=[]) (Pt.up0 hp2) hK;refine CtL.mk 28 Tryz.func112 rfl Tryz.ntmps112 (by kernel_rfl) rfl ?_;show T 28 _ [(0,.int .i64 (p0)),(1,.int .i64 (p1)),(2,.pointer (some ⟨g0_2,0,none⟩))] _;unfold Oq at hx;refine Y7 ?_;refine T_dr [1,0,0,1,2,1,0,0,1,2,2] (.q 0 (.q 1 (.q 2 (.q 3 (.q 5 (.q 6 (.q 7 (.q 8 (.e 4 (.e 9 (.e 10 (.done) (.stop)) (.stop)) (.stop)))))))))) mixed (by kernel_rfl) (by kernel_rfl) ?_;refine P_q rfl rfl (Bx rfl hp2' (sb 0) rfl Aat) rfl ?_;refine Y ?_;obtain ⟨x1,h2,hx3⟩:=Ae hx;refine P_il (Has.low (E:=[]) ha0' hK) h2 Acs Yv (sb 0) (fun b4 o5=>?_);refine P_q rfl rfl (Bx rfl hp2' (sb 0) rfl Aat) rfl ?_;refine Y ?_;obtain ⟨x0,h0,hx0⟩:=Ae hx3;refine P_il (Has.low (E:=[]) ha0' hK) h0 Acs Yv (sb 0) (fun b0 o0=>?_);obtain ⟨r0,h1,hx1⟩:=Ae hx0;refine Pc (fun w1 hw1=>Mj x1  h1 w1) ?_;obtain ⟨r1,h3,hx2⟩:=Ae hx1;refine Pc (fun w1 hw1=>Mj x0  h3 w1) ?_;obtain ⟨r2,h4,hx4⟩:=Ae hx2;refine Pc (fun w1 hw1=>Tp r0 r1  h4 w1) ?_;refine Y2 ?_;refine Do (s:=16) rfl (fun h5=>?_) (fun h5=>?_)
 ·have hx5:=Eh h5 hx4;refine Y8 ?_;obtain rfl:=Option.some.inj hx5;exact Bz (rs:=[.tmp 5]) Tryz.results112 (.tmp rfl (.nil)) (Ln:=[]) ⟨rfl,rfl,trivial⟩ (Bp) (by exact .refl)
 ·have hx6:=El h5 hx4;refine Y5 ?_;refine T_dr [1,0,0,1,2,1,0,0,1,2,2] (.q 0 (.q 1 (.q 2 (.q 3 (.q 5 (.q 6 (.q 7 (.q 8 (.e 4 (.e 9 (.e 10 (.done) (.stop)) (.stop)) (.stop)))))))))) mixed (by kernel_rfl) (by kernel_rfl) ?_;refine P_q rfl rfl (Bx rfl hp2' (sb 0) rfl Aat) rfl ?_;refine Y ?_;obtain ⟨x2,h6,hx7⟩:=Ae hx6;refine P_il (Has.low (E:=[]) ha0' hK) h6 Acs Yv (sb 0) (fun b1 o1=>?_);refine P_q rfl rfl (Bx rfl hp2' (sb 0) rfl Aat) rfl ?_;refine Y ?_;obtain ⟨x3,h7,hx8⟩:=Ae hx7;refine P_il (Has.low (E:=[]) ha0' hK) h7 Acs Yv (sb 0) (fun b2 o2=>?_);obtain ⟨r3,h8,hx9⟩:=Ae hx8;refine Pc (fun w1 hw1=>Mj x2  h8 w1) ?_;obtain ⟨r4,h9,hx62⟩:=Ae hx9;refine Pc (fun w1 hw1=>Mj x3  h9 w1) ?_;obtain ⟨r5,h64,hx65⟩:=Ae hx62;refine Pc (fun w1 hw1=>Tp r3 r4  h64 w1) ?_;refine Y2 ?_;refine Do (s:=27) rfl (fun h66=>?_) (fun h66=>?_)
  ·have hx67:=Eh h66 hx65;refine Y8 ?_;obtain rfl:=Option.some.inj hx67;exact Bz (rs:=[.tmp 5]) Tryz.results112 (.tmp rfl (.nil)) (Ln:=[]) ⟨rfl,rfl,trivial⟩ (Bp) (by exact .refl)
  ·have hx68:=El h66 hx65;refine Y9 ?_;obtain rfl:=Option.some.inj hx68;exact Bz (rs:=[.tmp 5]) Tryz.results112 (.tmp rfl (.nil)) (Ln:=[]) ⟨rfl,rfl,trivial⟩ (Bp) (by exact .refl)
end Go.Proofs.YtbkobeeileemjaaGreat
