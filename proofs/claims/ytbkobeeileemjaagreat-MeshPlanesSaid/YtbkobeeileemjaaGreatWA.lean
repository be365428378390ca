/- Walks of the program, with their plain functions: MeshPlanes. -/
import Derived.Test.YtbkobeeileemjaaGreatX3
import Derived.Test.YtbkobeeileemjaaGreatZ1
namespace Go.Proofs.YtbkobeeileemjaaGreat
open Go Go.RowKit
theorem Aq1:Lb Tryz.prog 25 2:=.mk Tryz.underlying25 rfl (show Tryz.prog.info? 25=some Tryz.t25 from by kernel_rfl) (by kernel_rfl)
instance:AggI Tryz.prog 25 2:=⟨Aq1⟩
theorem Se (x0:Int) (x1:Int) (x2:Int) (x3:Int):Dd Tryz.prog 22 1 [(0,.agg #[.int .i64 x0,.int .i64 x1,.int .i64 x2,.int .i64 x3])] 34 [.int .i64 x0,.int .i64 x1,.int .i64 x2,.int .i64 x3]:=fun w=>by kernel_rfl
instance (x0:Int) (x1:Int) (x2:Int) (x3:Int):Lc Tryz.prog 22 1 [(0,.agg #[.int .i64 x0,.int .i64 x1,.int .i64 x2,.int .i64 x3])] 34 [.int .i64 x0,.int .i64 x1,.int .i64 x2,.int .i64 x3]:=⟨Se _ _ _ _⟩
theorem Aq2 (a0:Int) (a1:Int) (b0:Int) (b1:Int):∀ w,(Op.equalIn 10000 32 (.agg #[.int .i64 (a0),.int .i64 (a1)]) (.agg #[.int .i64 (b0),.int .i64 (b1)])).run Tryz.prog w = .ok ((((a0) == (b0)) && (((a1) == (b1)) && true))) w :=
 EqF.struct Tryz.underlying32 (by kernel_rfl) (.cons rfl (fun w=>by kernel_rfl) (fun w=>by kernel_rfl) (fun w=>run_equalIn_int w 9998 3 .i64 .i64 _ _ Tryz.underlying3) (.cons rfl (fun w=>by kernel_rfl) (fun w=>by kernel_rfl) (fun w=>run_equalIn_int w 9998 3 .i64 .i64 _ _ Tryz.underlying3) (EqF.nil)))
instance (a0:Int) (a1:Int) (b0:Int) (b1:Int):EqSI Tryz.prog 32 [.int .i64 (a0),.int .i64 (a1)] [.int .i64 (b0),.int .i64 (b1)] ((((a0) == (b0)) && (((a1) == (b1)) && true))):=⟨Aq2 _ _ _ _,by kernel_rfl⟩
instance:UndI Tryz.prog 35 (.int .u64):=⟨Tryz.underlying35⟩
noncomputable def Ds (p0:Cq) (p1:Aq):((List Ab) × (List Ab) × Int)→Option (Sum ((List Ab) × (List Ab) × Int) ((List Ab) × (List Ab))):=fun s0 =>
 if s0.2.2 < ((((p0.V).length:Nat):Int)) then (bnd (idx p0.V s0.2.2) fun x0 =>
 gd (((s0.1).length+1)*32≤140737488355328) <|
 gd (((s0.2.1).length+1)*32≤140737488355328) <|
 some (.inl (s0.1++[(⟨Int.tmod x0.X 1000,Int.tmod x0.Y 1000,(⟨w64 ((w64 ((w64 ((w64 ((Int.tmod p1.a0 1000)*(Int.tmod x0.X 1000)))+(w64 ((Int.tmod p1.a1 1000)*(Int.tmod x0.Y 1000)))))+(Int.tmod p1.a2 1000)))-(w64 (Int.tmod (wu64 (x0.Z.Lo)) 40))),w64 ((w64 ((w64 ((w64 ((Int.tmod p1.a0 1000)*(Int.tmod x0.X 1000)))+(w64 ((Int.tmod p1.a1 1000)*(Int.tmod x0.Y 1000)))))+(Int.tmod p1.a2 1000)))+(w64 (Int.tmod (wu64 (x0.Z.Hi)) 40)))⟩:Be)⟩:Ab)],s0.2.1++[(⟨Int.tmod x0.X 1000,Int.tmod x0.Y 1000,(⟨w64 ((w64 ((w64 ((w64 ((w64 ((Int.tmod p1.a0 1000)*(Int.tmod x0.X 1000)))+(w64 ((Int.tmod p1.a1 1000)*(Int.tmod x0.Y 1000)))))+(Int.tmod p1.a2 1000)))-(w64 (Int.tmod (wu64 (x0.Z.Lo)) 40))))-(w64 (Int.tmod (wu64 (x0.Z.Hi)) 40))),w64 ((w64 ((w64 ((w64 ((w64 ((Int.tmod p1.a0 1000)*(Int.tmod x0.X 1000)))+(w64 ((Int.tmod p1.a1 1000)*(Int.tmod x0.Y 1000)))))+(Int.tmod p1.a2 1000)))+(w64 (Int.tmod (wu64 (x0.Z.Hi)) 40))))+(w64 (Int.tdiv (w64 (Int.tmod (wu64 (x0.Z.Lo)) 40)) 2)))⟩:Be)⟩:Ab)],w64 (s0.2.2+1))))
 else (some (.inr (s0.1,s0.2.1)))
noncomputable def Cv (s0:(List Ab) × (List Ab)) (r0:Ci × Int):Int→Option (Sum Int (Sum Unit Bool)):=fun s1 =>
 if s1 < ((((s0.1).length:Nat):Int)) then (bnd (idx s0.1 s1) fun x0 =>
 bnd (Hj x0) fun r1 =>
 bnd (Jn r0.1 r1) fun r2 =>
 jn (fun (s2:Bool) =>
 if s2=true then (some (.inr (.inr (false))))
 else (some (.inl (w64 (s1+1)))))
 (fun j0=>if 0 < ((((r0.1.T).length:Nat):Int)) then (if r2.2=0 then (j0 (!((((r2.1.Lo) == (x0.Z.Lo)) && (((r2.1.Hi) == (x0.Z.Hi)) && true)))))
 else (j0 true))
 else (j0 false)))
 else (some (.inr (.inl ())))
noncomputable def Fo (p0:Cq) (p1:Aq) (p2:Ac):Option Bool :=
 bnd (Jz p0 16 0) fun r4 =>
 if r4=true then (bnd (En) fun r9 =>
 some r9)
 else (jn (fun (s0:(List Ab) × (List Ab)) =>
 bnd (Jf s0.1 ([]:List Aa)) fun r0 =>
 if r0=0 then (bnd (Fb s0.1 ([]:List Aa)) fun r1 =>
 bnd (Fb s0.2 ([]:List Aa)) fun r2 =>
 jn (fun (s1:Bool) =>
 if s1=true then (some false)
 else (jn (fun (s2:Unit) =>
 bnd (Jn r1.1 (⟨Int.tmod p2.X 1000,Int.tmod p2.Y 1000⟩:Ac)) fun r3 =>
 bnd (Jn r2.1 (⟨Int.tmod p2.X 1000,Int.tmod p2.Y 1000⟩:Ac)) fun r5 =>
 if r3.2=r5.2 then (if r3.2=0 then (jn (fun (s3:Bool) =>
 some s3)
 (fun j0=>if r3.1.Lo≤(w64 ((w64 ((w64 ((Int.tmod p1.a0 1000)*(Int.tmod p2.X 1000)))+(w64 ((Int.tmod p1.a1 1000)*(Int.tmod p2.Y 1000)))))+(Int.tmod p1.a2 1000))) then (if (w64 ((w64 ((w64 ((Int.tmod p1.a0 1000)*(Int.tmod p2.X 1000)))+(w64 ((Int.tmod p1.a1 1000)*(Int.tmod p2.Y 1000)))))+(Int.tmod p1.a2 1000)))≤r3.1.Hi then (if r5.1.Lo≤r3.1.Lo then (if r3.1.Hi≤r5.1.Hi then (bnd (En) fun r6 =>
 j0 r6)
 else (j0 false))
 else (j0 false))
 else (j0 false))
 else (j0 false)))
 else (jn (fun (s4:Bool) =>
 some s4)
 (fun j1=>if r3.2=65 then (bnd (En) fun r7 =>
 j1 r7)
 else (j1 false))))
 else (some false))
 (fun j2=>bnd (lfix (Cv s0 r1) 0) fun t0 =>
 (match t0 with
 | (.inl z0)=>j2 z0
 | (.inr (z0))=>some z0
 ))))
 (fun j3=>if r1.2=0 then (j3 (!(decide (r2.2=0))))
 else (j3 true)))
 else (bnd (En) fun r8 =>
 some r8))
 (fun j4=>bnd (lfix (Ds p0 p1) (([]:List Ab),([]:List Ab),0)) fun t1 =>
 j4 t1))
set_option maxHeartbeats 1000000 in
set_option maxRecDepth 100000 in
instance Qx (p0:Cq) (p1:Aq) (p2:Ac):Con (Fo p0 p1 p2) Tryz.prog 3 (fun K vs=>∃ (A0_0:Option Addr) (c0_0:Nat) (A0_1:Option Addr) (c0_1:Nat),vs=[.agg #[.slice (A0_0) ((p0.V).length) (c0_0),.slice (A0_1) ((p0.Lines).length) (c0_1)],.agg #[.int .i64 (p1.a0),.int .i64 (p1.a1),.int .i64 (p1.a2)],.agg #[.int .i64 (p2.X),.int .i64 (p2.Y)]]∧Has K A0_0 (p0.V).length c0_0 4 Ao (p0.V)∧Has K A0_1 (p0.Lines).length c0_1 2 Aw (p0.Lines)∧True) (fun _ r=>fun v Ln=>v = .bool (r)∧Ln=[]∧True):=⟨by
 rintro K _ r ⟨A0_0,c0_0,A0_1,c0_1,rfl,ha0,ha1,-⟩ hx w hK;replace ha0:=Has.lo ha0 hK;replace ha1:=Has.lo ha1 hK;unfold Fo at hx;have:=dl 15 [0,0,1,0,0,0,0,0,1,0,0,0,2,2] [0,1,2,3,4,5,6,7,8,9,10,11,12,13];have:=dl 30 [1,1,2,2,0,0,0,4,3,2] [0,1,2,3,4,5,6,7,8,9] [7];refine CtS Tryz.ntmps3 Tryz.results3 ?_;refine pre ?_;intros;rename_i hx
 refine Cq3 (s:=27) hx rfl (fun _ hx=>?_) (fun _ hx=>?_)
 ·exact au
 ·refine pre ?_;intros;rename_i hx
  refine Gh ?_;refine pre ?_;intros;rename_i hx
  refine Gh ?_;refine pre ?_;intros;rename_i hx
  refine Gh ?_;refine pre ?_;intros;rename_i hx
  refine Gh ?_;refine pre ?_;intros;rename_i hx
  refine Gh ?_;refine pre ?_;intros;rename_i hx
  refine Gh ?_;refine pre ?_;intros;rename_i hx
  refine Gh ?_;refine pre ?_;intros;rename_i hx
  refine Gh ?_;refine pre ?_;intros;rename_i hx
  refine Gh ?_;refine pre ?_;intros;rename_i hx
  refine Gh ?_;refine pre ?_;intros;rename_i hx
  refine Gh ?_;refine pre ?_;intros;rename_i hx
  refine Gh ?_;refine pre ?_;intros;rename_i hx
  refine Gh ?_;refine pre ?_;intros;rename_i hx
  refine Gh ?_;refine pre ?_;intros;rename_i hx
  refine Gh ?_;refine pre ?_;intros;rename_i hx
  refine Gh ?_;refine pre ?_;intros;rename_i hx
  refine Gh ?_;refine pre ?_;intros;rename_i hx
  refine Gh ?_;refine pre ?_;intros;rename_i hx
  apply Jr (γ:=(Option Addr) × Nat × (Option Addr) × Nat) hx [4,5] (fun s0 y0 f=>(8,.slice (y0.1) ((s0.1).length) (y0.2.1))::(9,.slice (y0.2.2.1) ((s0.2).length) (y0.2.2.2))::f) [0,1,999] (fun s0 y0 l=>.r (y0.1) ((s0.1).length) (y0.2.1) 34 4 ((s0.1).flatMap Ao) :: .r (y0.2.2.1) ((s0.2).length) (y0.2.2.2) 34 4 ((s0.2).flatMap Ao)::l);exact kk
  ·intro s0 y0 hx;refine pre ?_;intros;rename_i hx
   refine Cq2 (s:=119) hx rfl (fun _ hx=>?_) (fun _ hx=>?_)
   ·exact au
   ·refine pre ?_;intros;rename_i hx
    refine Gh ?_;refine pre ?_;intros;rename_i hx
    apply Jr (γ:=Unit) hx [4,5,8,15,17] (fun s1 y1 f=>(136,.bool (s1))::f) [0,1,2,3,4,5,6,7,8,10,11,999] (fun s1 y1 l=>l);exact kk
    ·intro s1 y1 hx;refine Cq3 (s:=136) hx rfl (fun _ hx=>?_) (fun _ hx=>?_)
     ·exact au
     ·refine pre ?_;intros;rename_i hx
      apply Jr (γ:=Unit) hx [4,5,15,17] (fun s2 y2 f=>f) [0,1,2,3,4,5,6,7,9,10,999] (fun s2 y2 l=>l);exact kk
      ·intro s2 y2 hx;refine pre ?_;intros;rename_i hx
       refine Cq2 (s:=179) hx rfl (fun _ hx=>?_) (fun _ hx=>?_)
       ·exact au
       ·refine pre ?_;intros;rename_i hx
        refine Cq2 (s:=181) hx rfl (fun _ hx=>?_) (fun _ hx=>?_)
        ·exact au
        ·exact au
      ·intro _ hx;refine pre ?_;intros;rename_i hx
       apply Lr (γ:=Unit) hx [4,5,15,17,137,138] (fun s3 y3 f=>(139,.int .i64 (s3))::f) [0,1,2,3,4,5,6,7,8,9,10,999] (fun s3 y3 l=>l) ();exact kk;exact sk;intro s3 y3 x0 hx _;unfold Cv at hx
       refine pre ?_;intros;rename_i hx
       refine Cq1 (s:=140) hx rfl (fun _ hx=>?_) (fun _ hx=>?_)
       ·refine pre ?_;intros;rename_i hx
        apply Jr (γ:=Unit) hx [4,5,15,17,137,138,139] (fun s4 y4 f=>(163,.bool (s4))::f) [2,3,4,5,6,7,8,9,10,11,12,999] (fun s4 y4 l=>l);exact kk
        ·intro s4 y4 hx;exact au
        ·intro _ hx;exact au
       ·exact au
    ·intro _ hx;exact au
  ·intro _ hx;refine pre ?_;intros;rename_i hx
   refine Ba 34 4 ?_
   refine Ba 34 4 ?_
   apply Lr (γ:=(Option Addr) × Nat × (Option Addr) × Nat) hx [4,5,47,48] (fun s5 y5 f=>(8,.slice (y5.1) ((s5.1).length) (y5.2.1))::(9,.slice (y5.2.2.1) ((s5.2.1).length) (y5.2.2.2))::(49,.int .i64 (s5.2.2))::f) [2,3,999] (fun s5 y5 l=>.r (y5.1) ((s5.1).length) (y5.2.1) 34 4 ((s5.1).flatMap Ao) :: .r (y5.2.2.1) ((s5.2.1).length) (y5.2.2.2) 34 4 ((s5.2.1).flatMap Ao)::l) (_,_,_,_);exact kk;exact sk;intro s5 y5 x1 hx _;unfold Ds at hx
   exact au⟩
theorem Ql (p0:Cq) (p1:Aq) (p2:Ac) {K:List Ent} {A0_0:Option Addr} {c0_0:Nat} {A0_1:Option Addr} {c0_1:Nat} (ha0:Has K A0_0 (p0.V).length c0_0 4 Ao (p0.V)) (ha1:Has K A0_1 (p0.Lines).length c0_1 2 Aw (p0.Lines)) {r:Bool} (hx:Fo p0 p1 p2=some r) (w:World) (hK:∀ e∈K,Ent.ok w e):CtL Tryz.prog 3 [.agg #[.slice (A0_0) ((p0.V).length) (c0_0),.slice (A0_1) ((p0.Lines).length) (c0_1)],.agg #[.int .i64 (p1.a0),.int .i64 (p1.a1),.int .i64 (p1.a2)],.agg #[.int .i64 (p2.X),.int .i64 (p2.Y)]] w fun v Ln=>v = .bool (r)∧Ln=[]∧True:=(Qx p0 p1 p2).h K _ _ ⟨_,_,_,_,rfl,ha0,ha1,trivial⟩ hx w hK
end Go.Proofs.YtbkobeeileemjaaGreat
/- Plain laws on the program's numbers: quotients by one word, greatest common divisors. -/
namespace Go.Proofs.YtbkobeeileemjaaGreat
open Go Go.RowKit
theorem Aq3 (a b:Nat):Int.tdiv (a:Int) (b:Int)=((a / b:Nat):Int):=(Int.ofNat_tdiv a b).symm
theorem Aq4 (a b:Nat):Int.tmod (a:Int) (b:Int)=((a % b:Nat):Int):=(Int.ofNat_tmod a b).symm
theorem Acw {b:Nat} (l:List Nat) (k:Nat) (h:k < l.length):val b (l.drop k)=l[k] + b*val b (l.drop (k+1)):=by
 rw [List.drop_eq_getElem_cons h];rfl
theorem Ajj {B x H V:Nat} (hV:0 < V):(x+B*H) / V=(H % V*B+x) / V+B*(H / V)∧(x+B*H) % V=(H % V*B+x) % V:=by
 have e:x+B*H=(H % V*B+x)+V*(B*(H / V)):=by
  have:=Nat.div_add_mod H V
  calc x+B*H=x+B*(V*(H / V)+H % V):=by rw [this]
   _=_:=by rw [Nat.mul_add,← Nat.mul_assoc,Nat.mul_comm B V,Nat.mul_assoc,Nat.mul_comm B (H % V)];omega
 rw [e]
 exact ⟨by rw [Nat.add_mul_div_left _ _ hV],by rw [Nat.add_mul_mod_self_left]⟩
theorem Ak3 {B x r V:Nat} (hx:x < B) (hr:r < V):r*B+x < V*B:=by
 have:(r+1)*B≤V*B:=Nat.mul_le_mul_right _ hr
 rw [Nat.succ_mul] at this;omega
theorem Aq5 {r x:Nat} (hr:r < 4294967296) (hx:x < 4294967296):Jx .u64 (shl_ .u64 (r:Int) 32) (wu64 (x:Int))=((r*4294967296+x:Nat):Int):=by
 have e1:shl_ .u64 (r:Int) 32=((r*4294967296:Nat):Int):=by
  show IntKind.wrap .u64 ((r:Int)*2 ^ (min (32:Int).toNat 64))=_
  rw [show (2:Int) ^ (min (32:Int).toNat 64)=4294967296 from by decide,IntKind.wrap_u64]
  omega
 rw [e1,Ll (by omega)]
 unfold Jx
 have e:(BitVec.ofInt IntKind.u64.bits ((r*4294967296:Nat):Int) ||| BitVec.ofInt IntKind.u64.bits (x:Int)).toNat=r*4294967296+x:=by
  show (BitVec.ofInt 64 ((r*4294967296:Nat):Int) ||| BitVec.ofInt 64 (x:Int)).toNat=_
  rw [BitVec.toNat_or]
  have k:∀ n:Nat,n < 18446744073709551616→(BitVec.ofInt 64 (n:Int)).toNat=n:=fun n hn=>by
   simp [BitVec.toNat_ofInt];omega
  rw [k _ (by omega),k _ (by omega),show r*4294967296=2 ^ 32*r by omega,← Nat.two_pow_add_eq_or_of_lt (by omega)]
 rw [e]
 exact Ll (by omega)
theorem Apj (l:List Nat) (d:Nat) (hl:∀ x∈l,x < 4294967296) (hd:0 < d) (hd2:d < 4294967296) (h1:l.length≤1000000) :
  Gf (nI l) (d:Int)=some (L32 (val 4294967296 l / d),((val 4294967296 l % d:Nat):Int)):=by
 have hwd:wu64 (d:Int)=(d:Int):=Ll (by omega)
 obtain ⟨t,ht,o,rfl,ho1,ho3,ho2⟩:=Kc (B:=Ip (nI l) (d:Int)) (fun s=>(s.2.2+1).toNat)
  (fun s=>∃ (o:List Nat) (k:Nat),s=(nI o,((val 4294967296 (l.drop k) % d:Nat):Int),(k:Int)-1)∧o.length=l.length∧k≤l.length∧(∀ x∈o,x < 4294967296)∧val 4294967296 (o.drop k)=val 4294967296 (l.drop k) / d)
  (fun t=>∃ o:List Nat,t=(nI o,((val 4294967296 l % d:Nat):Int))∧(∀ x∈o,x < 4294967296)∧o.length≤1000000∧val 4294967296 o=val 4294967296 l / d) (by
   rintro s ⟨o,k,rfl,hC1,hC2,hC3,hC4⟩
   unfold Ip
   by_cases hk:k=0
   ·right
    subst hk
    exact ⟨_,by simp only [];rw [if_neg (by omega)],o,by rw [List.drop_zero],hC3,by omega,by simpa using hC4⟩
   ·left
    have h1':k-1 < l.length:=by omega
    have h2':k-1 < o.length:=by omega
    have hx:=hl _ (List.getElem_mem h1')
    have hr:val 4294967296 (l.drop k) % d < d:=Nat.mod_lt _ hd
    have e:val 4294967296 (l.drop (k-1))=l[k-1] + 4294967296*val 4294967296 (l.drop k):=by rw [Acw l (k-1) h1',show k-1+1=k by omega]
    obtain ⟨e1,e2⟩:=Ajj (B:=4294967296) (x:=l[k-1]) (H:=val 4294967296 (l.drop k)) hd
    have hlt:=Ak3 hx hr
    have hq:(val 4294967296 (l.drop k) % d*4294967296+l[k-1]) / d < 4294967296:=Nat.div_lt_of_lt_mul (by omega)
    refine ⟨(nI (o.set (k-1) ((val 4294967296 (l.drop k) % d*4294967296+l[k-1]) / d)),((val 4294967296 (l.drop (k-1)) % d:Nat):Int),((k-1:Nat):Int)-1),?_,⟨_,k-1,rfl,by simp [hC1],by omega,?_,?_⟩,by simp;omega⟩
    ·simp only []
     rw [if_pos (by omega),show ((k:Int)-1)=((k-1:Nat):Int) from by omega,Lk h1',Ah,hwd,gd_t (by omega),Lk h2',Ah,gd_t (by omega)]
     have e3:=Aq5 (r:=val 4294967296 (l.drop k) % d) (x:=l[k-1]) (Nat.lt_trans hr hd2) hx
     have e4:w64 (((k-1:Nat):Int)-1)=((k-1:Nat):Int)-1:=by
      clear e e1 e2 e3 hlt hq hr hx hC4 hC3
      exact Bu (by omega) (by omega)
     rw [e3,Aq3,Aq4,Ll (Nat.lt_trans hq (by decide)),Ad6 hq,Uq,e,e2,e4]
    ·intro x hx'
     rcases List.mem_or_eq_of_mem_set hx' with h | rfl
     ·exact hC3 x h
     ·exact hq
    ·rw [Acw _ _ (by simpa using h2'),List.getElem_set_self,show k-1+1=k by omega,List.drop_set_of_lt (by omega),hC4,e,e1])
  (nI (List.replicate l.length 0),0,(l.length:Int)-1) ⟨List.replicate l.length 0,l.length,by simp [val],by simp,Nat.le_refl _,by simp,by simp [val]⟩
 unfold Gf
 simp only [jn_d,Ge,Int.toNat_natCast,Xb]
 rw [gd_t ⟨by omega,by omega⟩,Bu (by omega) (by omega),ht,Ah]
 simp only []
 rw [Sh _ (by omega),Ah,Vm (by omega) o ho1,ho2,Ad6 (Nat.lt_trans (Nat.mod_lt _ hd) hd2)];rfl
theorem Apk {a d:Nat} (h:(dig 4294967296 a).length≤1000000) (hd:0 < d) (hd2:d < 4294967296):Gf (L32 a) (d:Int)=some (L32 (a / d),((a % d:Nat):Int)):=by
 have:=Apj _ d (W_lt (a:=a)) hd hd2 h
 rwa [In (by omega)] at this
theorem Qa {d:Nat} (hd:0 < d) (hd2:d < 4294967296):L32 d=[(d:Int)]:=by unfold L32;rw [Mb (by omega) (by omega),Nat.div_eq_of_lt hd2,Rd,Nat.mod_eq_of_lt hd2];rfl
theorem Ah0 {a d:Nat} (h:(dig 4294967296 a).length≤1000000) (hd:0 < d) (hd2:d < 4294967296):Eu (L32 a) (L32 d)=some (L32 (a / d),L32 (a % d)):=by
 unfold Eu
 rw [Ad7 a d h,Ah]
 by_cases c:a < d
 ·rw [if_pos (by unfold cmpN;rw [if_pos c];omega),Nat.div_eq_of_lt c,Nat.mod_eq_of_lt c]
  rfl
 ·rw [if_neg (by unfold cmpN;split <;> (try split) <;> omega),Qa hd hd2,if_pos (by simp),show idx [(d:Int)] 0=some (d:Int) from rfl,Ah,Apk h hd hd2,Ah]
  have hm:=Nat.mod_lt a hd
  rw [Ll (by omega),Aaf (by omega),Ah]
theorem Aq6 {b:Nat}:∀ {a:Nat},(dig 4294967296 a).length≤1000000→b < 4294967296→lfix Jl (L32 a,L32 b)=some (L32 (Nat.gcd a b)):=by
 induction b using Nat.strongRecOn with
 | _ b ih =>
  intro a ha hb
  rw [Ck]
  unfold Jl
  dsimp only
  by_cases h0:b=0
  ·subst h0
   rw [if_neg (by have:=(Mc (a:=0)).2 rfl;omega),Nat.gcd_zero_right]
  ·have hne:(L32 b).length≠0:=fun e=>h0 (Mc.1 e)
   rw [if_pos (by omega),Ah0 ha (by omega) hb,Ah]
   dsimp only
   have hm:=Nat.mod_lt a (Nat.pos_of_ne_zero h0)
   have hl:(dig 4294967296 b).length≤1000000:=by
    have:=congrArg List.length (Qa (Nat.pos_of_ne_zero h0) hb)
    unfold L32 at this
    rw [Ge] at this
    simp at this
    omega
   have:=ih _ hm hl (by omega)
   unfold Jl at this
   rw [this,Nat.gcd_comm b,← Nat.gcd_rec,Nat.gcd_comm]
theorem Aq7 {a b:Nat} (ha:(dig 4294967296 a).length≤1000000) (hb:b < 4294967296):Kh (L32 a) (L32 b)=some (L32 (Nat.gcd a b)):=by
 unfold Kh
 rw [jn_d,Aq6 ha hb,Ah]
end Go.Proofs.YtbkobeeileemjaaGreat
