/- Walks of the program, with their plain functions: fractions. -/
import Derived.Test.YtjfndjmabhbicaaGreatE3
namespace Go.Proofs.YtjfndjmabhbicaaGreat
open Go Go.RowKit
theorem Am9:Cw Tryz.prog 45 1 1:=.mk Tryz.underlying45 rfl rfl (show Tryz.prog.info? 43=some Tryz.t43 from by kernel_rfl) (show Tryz.t43.size=1 from by kernel_rfl) rfl
instance:Gd Tryz.prog 45 1 1:=⟨Am9⟩
theorem Ana:Qe Tryz.prog 43:=.mk Tryz.underlying43 rfl (show Tryz.prog.info? 43=some Tryz.t43 from by kernel_rfl) (by kernel_rfl)
instance:OneI Tryz.prog 43:=⟨Ana⟩
theorem Ahu:Cw Tryz.prog 45 2 2:=.mk Tryz.underlying45 rfl rfl (show Tryz.prog.info? 43=some Tryz.t43 from by kernel_rfl) (show Tryz.t43.size=1 from by kernel_rfl) rfl
instance:Gd Tryz.prog 45 2 2:=⟨Ahu⟩
theorem Au4:Cw Tryz.prog 45 0 0:=.mk Tryz.underlying45 rfl rfl (show Tryz.prog.info? 4=some Tryz.t4 from by kernel_rfl) (show Tryz.t4.size=1 from by kernel_rfl) rfl
instance:Gd Tryz.prog 45 0 0:=⟨Au4⟩
theorem Aee:Md Tryz.prog 45 [.bool (false),.slice (none) (0) (0),.slice (none) (0) (0)]:=⟨_,Tryz.zeroValue45,rfl⟩
instance:Tg Tryz.prog 45 [.bool (false),.slice (none) (0) (0),.slice (none) (0) (0)]:=⟨Aee⟩
theorem Ahv  : Gs Tryz.prog 45 [] [.bool (false),.slice (none) (0) (0),.slice (none) (0) (0)]:=fun w=>by kernel_rfl
instance:Lk Tryz.prog 45 [] [.bool (false),.slice (none) (0) (0),.slice (none) (0) (0)]:=⟨Ahv⟩
theorem Lz:Nf Tryz.prog 45 3:=.mk Tryz.underlying45 rfl (show Tryz.prog.info? 45=some Tryz.t45 from by kernel_rfl) (by kernel_rfl)
instance:AggI Tryz.prog 45 3:=⟨Lz⟩
theorem Zt (x0:Bool) (x1:Option Addr) (x2:Nat) (x3:Nat):Gs Tryz.prog 45 [(0,.bool x0),(1,.slice x1 x2 x3)] [.bool x0,.slice x1 x2 x3,.slice (none) (0) (0)]:=fun w=>by kernel_rfl
instance (x0:Bool) (x1:Option Addr) (x2:Nat) (x3:Nat):Lk Tryz.prog 45 [(0,.bool x0),(1,.slice x1 x2 x3)] [.bool x0,.slice x1 x2 x3,.slice (none) (0) (0)]:=⟨Zt _ _ _ _⟩
noncomputable def Ob (p0:List Int) (p1:Int):((List Int) × Int × Int)->Option (Sum ((List Int) × Int × Int) ((List Int) × Int)):=fun s0=>
 if 0<=s0.2.2 then (bnd (idx p0 s0.2.2) fun x0=>
 gd ((wu64 (p1))≠0) <|
 bnd (idx s0.1 s0.2.2) fun x1=>
 gd ((wu64 (p1))≠0) <|
 some (.inl (setI s0.1 s0.2.2 (wu32 (wu64 (Int.tdiv (Aad .u64 (shl_ .u64 s0.2.1 32) (wu64 (x0))) (wu64 (p1))))),Int.tmod (Aad .u64 (shl_ .u64 s0.2.1 32) (wu64 (x0))) (wu64 (p1)),w64 (s0.2.2-1))))
 else (some (.inr (s0.1,s0.2.1)))
noncomputable def Mb (p0:List Int) (p1:Int):Option ((List Int) × Int) :=
 gd ((0:Int)<=((((p0).length:Nat):Int))/\4*Int.toNat ((((p0).length:Nat):Int))<=140737488355328) <|
 jn (fun (s4:(List Int) × Int)=>
 bnd (Bz s4.1) fun r0=>
 some (r0,wu32 (s4.2)))
 (fun j4=>bnd (lfix (Ob p0 p1) (List.replicate (Int.toNat ((((p0).length:Nat):Int))) (0:Int),0,w64 (((((p0).length:Nat):Int))-1))) fun t0=>
 j4 t0)
noncomputable def Jc (p0:List Int) (p1:List Int):Option ((List Int) × (List Int)) :=
 bnd (Np p0 p1) fun r1=>
 if r1 < 0 then (some (([]:List Int),p0))
 else (if ((((p1).length:Nat):Int))=1 then (bnd (idx p1 0) fun x9=>
 bnd (Mb p0 x9) fun r0=>
 bnd (Oh (wu64 (r0.2))) fun r2=>
 some (r0.1,r2))
 else (bnd (idx p1 (w64 (((((p1).length:Nat):Int))-1))) fun x0=>
 none))
noncomputable def Mc  : ((List Int) × (List Int))->Option (Sum ((List Int) × (List Int)) (List Int)):=fun s0=>
 if 0 < ((((s0.2).length:Nat):Int)) then (bnd (Jc s0.1 s0.2) fun r0=>
 some (.inl (s0.2,r0.2)))
 else (some (.inr s0.1))
noncomputable def Nr (p0:List Int) (p1:List Int):Option (List Int) :=
 jn (fun (s2:List Int)=>
 some s2)
 (fun j2=>bnd (lfix (Mc) (p0,p1)) fun t0=>
 j2 t0)
noncomputable def Gb (p0:Av):Option Av :=
 if ((((p0.n).length:Nat):Int))=0 then (some (⟨false,[],[1]⟩:Av))
 else (bnd (Nr p0.n p0.d) fun r9=>
 jn (fun (s7:Bool)=>
 if s7=true then (some p0)
 else (bnd (Jc p0.n r9) fun r0=>
 bnd (Jc p0.d r9) fun r1=>
 some (⟨p0.neg,r0.1,r1.1⟩:Av)))
 (fun j7=>if ((((r9).length:Nat):Int))=1 then (bnd (idx r9 0) fun x0=>
 j7 (decide (x0=1)))
 else (j7 false)))
noncomputable def Mn (p0:As):Option Bool :=
 jn (fun (s2:Bool)=>
 some s2)
 (fun j2=>bnd (Bz p0.Num) fun r2=>
 if 256 < ((((r2).length:Nat):Int)) then (j2 true)
 else (bnd (Bz p0.Den) fun r0=>
 j2 (decide (256 < ((((r0).length:Nat):Int))))))
noncomputable def Qp (p0:As):Option Av :=
 bnd (Bz p0.Den) fun r3=>
 jn (fun (s3:List Int)=>
 bnd (Bz p0.Num) fun r0=>
 bnd (Gb (⟨p0.Neg,r0,s3⟩:Av)) fun r1=>
 some r1)
 (fun j3=>if ((((r3).length:Nat):Int))=0 then (j3 ([1]))
 else (j3 r3))
instance:MkI Tryz.prog 43 245 1 4 Ao 0:=⟨Tryz.t245,.int .u32 (0),Tryz.underlying43,by kernel_rfl,by kernel_rfl,rfl,by kernel_rfl,by kernel_rfl⟩
noncomputable def Hv (p0:Av):Option (As × Int) :=
 bnd (Gb p0) fun r3=>
 jn (fun (s4:Bool)=>
 if s4=true then (some ((⟨false,([]:List Int),([]:List Int)⟩:As),1))
 else (jn (fun (s6:List Int)=>
 jn (fun (s8:List Int)=>
 some ((⟨r3.neg,cpy s6 0 r3.n,s8⟩:As),0))
 (fun j8=>jn (fun (s9:Bool)=>
 if s9=true then (gd ((0:Int)<=((((r3.d).length:Nat):Int))/\4*Int.toNat ((((r3.d).length:Nat):Int))<=140737488355328) <|
 j8 (cpy (List.replicate (Int.toNat ((((r3.d).length:Nat):Int))) (0:Int)) 0 r3.d))
 else (j8 ([]:List Int)))
 (fun j9=>if 1 < ((((r3.d).length:Nat):Int)) then (j9 true)
 else (bnd (idx r3.d 0) fun x0=>
 j9 (!(decide (x0=1)))))))
 (fun j6=>gd ((0:Int)<=((((r3.n).length:Nat):Int))/\4*Int.toNat ((((r3.n).length:Nat):Int))<=140737488355328) <|
 j6 (List.replicate (Int.toNat ((((r3.n).length:Nat):Int))) (0:Int)))))
 (fun j4=>if 256 < ((((r3.n).length:Nat):Int)) then (j4 true)
 else (j4 (decide (256 < ((((r3.d).length:Nat):Int))))))
set_option maxHeartbeats 1000000 in
set_option maxRecDepth 100000 in
instance ratio_nat_word_c (p0:List Int) (p1:Int):ConB (Mb p0 p1) Tryz.prog 292 (fun K vs=>∃ (A0_0:Option Addr) (c0_0:Nat),vs=[.slice (A0_0) ((p0).length) (c0_0),.int .u32 (p1)]/\Has K A0_0 (p0).length c0_0 1 Ao (p0)/\True) (fun K r=>fun v Ln=>∃ (A0:Option Addr) (c0:Nat) (e:Ent),v = .tuple #[.slice (A0) ((r.1).length) (c0),.int .u32 (r.2)]/\Ln=[e]/\Has (K++[e]) A0 (r.1).length c0 1 Ao (r.1)/\True):=⟨by
 rintro K _ r ⟨A0_0,c0_0,rfl,ha0,-⟩ hx w hK;unfold Mb at hx;refine CtS Tryz.ntmps292 Tryz.results292 ?_;try (refine pre ?_;intros;rename_i hx)
 refine Bn ?_;try (refine pre ?_;intros;rename_i hx)
 apply Jr (γ:=(Option Addr) × Nat) hx [] (fun s4 y4 f=>(6,.slice (y4.1) ((s4.1).length) (y4.2))::(7,.int .u64 (s4.2))::f) [999] (fun s4 y4 l=>.r (y4.1) ((s4.1).length) (y4.2) 245 1 ((s4.1).flatMap Ao)::l);exact kk
 ·intro s4 y4 hx;exact au
 ·intro _ hx;try (refine pre ?_;intros;rename_i hx)
  apply Lr (γ:=(Option Addr) × Nat) hx [0,1] (fun s0 y0 f=>(6,.slice (y0.1) ((s0.1).length) (y0.2))::(7,.int .u64 (s0.2.1))::(8,.int .i64 (s0.2.2))::f) [999] (fun s0 y0 l=>.r (y0.1) ((s0.1).length) (y0.2) 245 1 ((s0.1).flatMap Ao)::l) (_,_);exact kk;exact sk;intro s0 y0 x0 hx _;unfold Ob at hx
  exact au⟩

set_option maxHeartbeats 1000000 in
set_option maxRecDepth 100000 in
instance Adg (p0:List Int) (p1:List Int):ConB (Jc p0 p1) Tryz.prog 258 (fun K vs=>∃ (A0_0:Option Addr) (c0_0:Nat) (A0_1:Option Addr) (c0_1:Nat),vs=[.slice (A0_0) ((p0).length) (c0_0),.slice (A0_1) ((p1).length) (c0_1)]/\Has K A0_0 (p0).length c0_0 1 Ao (p0)/\Has K A0_1 (p1).length c0_1 1 Ao (p1)/\True) (fun K r=>fun v Ln=>∃ (A0:Option Addr) (c0:Nat) (A2:Option Addr) (c2:Nat) (e:Ent),v = .tuple #[.slice (A0) ((r.1).length) (c0),.slice (A2) ((r.2).length) (c2)]/\Ln=[e]/\Has (K++[e]) A0 (r.1).length c0 1 Ao (r.1)/\Has (K++[e]) A2 (r.2).length c2 1 Ao (r.2)/\True):=⟨by
 rintro K _ r ⟨A0_0,c0_0,A0_1,c0_1,rfl,ha0,ha1,-⟩ hx w hK;unfold Jc at hx;refine CtS Tryz.ntmps258 Tryz.results258 ?_;exact au⟩
theorem Ab2 (p0:List Int) (p1:List Int) {K:List Ent} {A0_0:Option Addr} {c0_0:Nat} {A0_1:Option Addr} {c0_1:Nat} (ha0:Has K A0_0 (p0).length c0_0 1 Ao (p0)) (ha1:Has K A0_1 (p1).length c0_1 1 Ao (p1)) {r:(List Int) × (List Int)} (hx:Jc p0 p1=some r) (w:World) (hK:∀ e∈K,Ent.ok w e):CtL Tryz.prog 258 [.slice (A0_0) ((p0).length) (c0_0),.slice (A0_1) ((p1).length) (c0_1)] w fun v Ln=>∃ (A0:Option Addr) (c0:Nat) (A2:Option Addr) (c2:Nat) (e0:Ent) (e1:Ent),v = .tuple #[.slice (A0) ((r.1).length) (c0),.slice (A2) ((r.2).length) (c2)]/\Ln=[e0,e1]/\Has (K++[e0,e1]) A0 (r.1).length c0 1 Ao (r.1)/\Has (K++[e0,e1]) A2 (r.2).length c2 1 Ao (r.2)/\True:=CtL.pad 1 ((Adg p0 p1).h K _ _ ⟨A0_0,c0_0,A0_1,c0_1,rfl,ha0,ha1,trivial⟩ hx w hK) (by rintro _ _ ⟨_,_,_,_,_,rfl,rfl,h0,h1,-⟩;exact ⟨_,_,_,_,_,_,rfl,rfl,h0.padN 1,h1.padN 1,trivial⟩)

set_option maxRecDepth 100000 in
theorem Ab3 (p0:List Int) (p1:List Int) {K:List Ent} {A0_0:Option Addr} {c0_0:Nat} {A0_1:Option Addr} {c0_1:Nat} (ha0:Has K A0_0 p0.length c0_0 1 Ao (p0)) (ha1:Has K A0_1 p1.length c0_1 1 Ao (p1)) {r:List Int} (hx:Nr p0 p1=some r) (w:World) (hK:∀ e∈K,Ent.ok w e):CtL Tryz.prog 257 [.slice (A0_0) (p0.length) (c0_0),.slice (A0_1) (p1.length) (c0_1)] w fun v Ln=>∃ (A0:Option Addr) (c0:Nat) (e0:Ent),v = .slice (A0) (r.length) (c0)/\Ln=[e0]/\Has (K++[e0]) A0 r.length c0 1 Ao (r)/\True:=by
 have ha0':=Has.up0 ha0;have ha1':=Has.up0 ha1;refine CtL.mk 19 Tryz.func257 rfl Tryz.ntmps257 (by kernel_rfl) rfl ?_;show T 19 _ [(0,.slice (A0_0) (p0.length) (c0_0)),(1,.slice (A0_1) (p1.length) (c0_1))] _;unfold Nr at hx;refine Y5 ?_;obtain ⟨j2,hj2,hx⟩:=Abi hx;refine Xs (τ:=List Int) (γ:=(Option Addr) × Nat × Ent) (J:=j2) (out:=r) (fun s2 y2=>[(0,.slice (y2.1) (s2.length) (y2.2.1))]) (fun s2 y2=>[y2.2.2]++[.old w]) (fun s2 y2=>y2.2.2.low=0/\Has (K++[y2.2.2]) (y2.1) (s2.length) (y2.2.1) 1 Ao (s2)/\True) ?_ ?_
 ·intro s2 y2 hx0 hG0;obtain ⟨lo69,hs0,-⟩:=hG0;subst hj2;refine Y7 ?_;obtain rfl:=Option.some.inj hx0;exact Hc (rs:=[.tmp 4]) Tryz.results257 (.tmp rfl (.nil)) (Ln:=[y2.2.2]) ⟨y2.1,y2.2.1,y2.2.2,rfl,rfl,Has.len' hs0,trivial⟩ (By lo69 (Gn)) (by exact .pick 0 rfl (.refl))
 ·skip;refine Y ?_;obtain ⟨t0,hl0,ho0⟩:=Ar hx;refine Az 0 1 ?_;refine Lp (σ:=(List Int) × (List Int)) (γ:=(Option Addr) × Nat × Ent × (Option Addr) × Nat) hl0 (fun s0 y0=>[(0,.slice (y0.1) (s0.1.length) (y0.2.1)),(1,.slice (y0.2.2.2.1) (s0.2.length) (y0.2.2.2.2))]) (fun s0 y0=>[y0.2.2.1]++[.old w]) (fun s0 y0=>y0.2.2.1.low=0/\Has (K++[y0.2.2.1]) (y0.1) (s0.1.length) (y0.2.1) 1 Ao (s0.1)/\Has (K++[y0.2.2.1]) (y0.2.2.2.1) (s0.2.length) (y0.2.2.2.2) 1 Ao (s0.2)/\True) (A0_0,c0_0,.r none 0 0 0 1 [],A0_1,c0_1) ((by exact ⟨rfl,Has.len' ((Has.up (L:=(K++[.r none 0 0 0 1 []])) ha0' (SubE.app2 SubE.nil))),Has.len' ((Has.up (L:=(K++[.r none 0 0 0 1 []])) ha1' (SubE.app2 SubE.nil))),trivial⟩)) (by exact .pick 0 rfl (.refl)) ?_;intro s0 y0 hG1 x0 hx1 ht0;unfold Mc at hx1;obtain ⟨lo46,hs1,hs2,-⟩:=hG1;refine Y4 ?_;refine Ba (Jq rfl 245 Tryz.underlying193) rfl ?_;refine Y3 ?_;refine Ti hx1 (s:=9) rfl (fun h0 hx2=>?_) (fun h0 hx3=>?_)
  ·refine Y8 ?_;obtain ⟨r0,h1,hx4⟩:=Ar hx2;refine T_x (Ei rfl (fun w1 hw1=>Ab2 s0.1 s0.2 (Has.len' hs1) (Has.len' hs2) h1 w1 (Qj (K:=K) (K2:=[y0.2.2.1]) hK (by exact (sb 1)) (by exact (sb 0)) hw1)) rfl ?_);rintro _ _ hlo ⟨A1,c1,A2,c2,e1,e2,rfl,rfl,hs3,hs4,-⟩;have lo63:=hlo e1 (by simp);have lo64:=hlo e2 (by simp);refine Td ?_;have hs5:Has (K++[y0.2.2.1,e1,e2]) _ _ _ _ _ _:=Has.assoc hs3;have hs6:Has (K++[y0.2.2.1,e1,e2]) _ _ _ _ _ _:=Has.assoc hs4;(iterate 14 refine Y ?_);refine Ajz (es:=[y0.2.2.1,e1,e2]) (by exact .pick 2 rfl (.pick 0 rfl (.pick 0 rfl (.refl)))) (By lo46 (By lo63 (By lo64 (Gn)))) ?_;exact Rp (s0.2,r0.2) (y0.2.2.2.1,y0.2.2.2.2,bun [y0.2.2.1,e1,e2],A2,c2) hx4 ((by exact ⟨rfl,Has.len' ((Has.up (L:=(K++[(bun [y0.2.2.1,e1,e2])])) hs2 (SubE.app2 (SubE.consB (i:=0) (j:=0) rfl rfl (SubE.nil))))),Has.len' ((Has.up (L:=(K++[(bun [y0.2.2.1,e1,e2])])) hs6 (SubE.app2 (SubE.consB (i:=0) (j:=0) rfl rfl (SubE.consB (i:=0) (j:=1) rfl rfl (SubE.consB (i:=0) (j:=2) rfl rfl (SubE.nil))))))),trivial⟩)) (by exact .pick 0 rfl (.refl))
  ·refine Y3 ?_;obtain rfl:=Lc ht0 hx3;refine Y2 ?_;exact Mt s0.1 (y0.1,y0.2.1,y0.2.2.1) ho0 ((by exact ⟨lo46,Has.len' hs1,trivial⟩)) (by exact .pick 0 rfl (.refl))
set_option maxRecDepth 100000 in
instance ratio_nat_gcd_c (p0:List Int) (p1:List Int):ConB (Nr p0 p1) Tryz.prog 257 (fun K vs=>∃ (A0_0:Option Addr) (c0_0:Nat) (A0_1:Option Addr) (c0_1:Nat),vs=[.slice (A0_0) ((p0).length) (c0_0),.slice (A0_1) ((p1).length) (c0_1)]/\Has K A0_0 (p0).length c0_0 1 Ao (p0)/\Has K A0_1 (p1).length c0_1 1 Ao (p1)/\True) (fun K r=>fun v Ln=>∃ (A0:Option Addr) (c0:Nat) (e:Ent),v = .slice (A0) ((r).length) (c0)/\Ln=[e]/\Has (K++[e]) A0 (r).length c0 1 Ao (r)/\True):=⟨by
 rintro K _ r ⟨A0_0,c0_0,A0_1,c0_1,rfl,ha0,ha1,-⟩ hx w hK;exact CtL.bunB (Ab3 p0 p1 ha0 ha1 hx w hK) (by
  rintro _ _ w1 hw ⟨_,_,_,rfl,rfl,_,-⟩
  exact ⟨_,_,_,rfl,rfl,hZ hw,trivial⟩)⟩
set_option maxHeartbeats 1000000 in
set_option maxRecDepth 100000 in
instance Zb (p0:Av):ConB (Gb p0) Tryz.prog 212 (fun K vs=>∃ (A0_0:Option Addr) (c0_0:Nat) (A0_1:Option Addr) (c0_1:Nat),vs=[.agg #[.bool (p0.neg),.slice (A0_0) ((p0.n).length) (c0_0),.slice (A0_1) ((p0.d).length) (c0_1)]]/\Has K A0_0 (p0.n).length c0_0 1 Ao (p0.n)/\Has K A0_1 (p0.d).length c0_1 1 Ao (p0.d)/\True) (fun K r=>fun v Ln=>∃ (A0:Option Addr) (c0:Nat) (A2:Option Addr) (c2:Nat) (e:Ent),v = .agg #[.bool (r.neg),.slice (A0) ((r.n).length) (c0),.slice (A2) ((r.d).length) (c2)]/\Ln=[e]/\Has (K++[e]) A0 (r.n).length c0 1 Ao (r.n)/\Has (K++[e]) A2 (r.d).length c2 1 Ao (r.d)/\True):=⟨by
 rintro K _ r ⟨A0_0,c0_0,A0_1,c0_1,rfl,ha0,ha1,-⟩ hx w hK;unfold Gb at hx;refine CtS Tryz.ntmps212 Tryz.results212 ?_;try (refine pre ?_;intros;rename_i hx)
 refine Cq1 (s:=11) hx rfl (fun _ hx=>?_) (fun _ hx=>?_)
 ·exact au
 ·try (refine pre ?_;intros;rename_i hx)
  refine Bn ?_;try (refine pre ?_;intros;rename_i hx)
  apply Jr (γ:=Unit) hx [1,2,3] (fun s7 y7 f=>(27,.bool (s7))::f) [0,1,2,999] (fun s7 y7 l=>l);exact kk
  ·intro s7 y7 hx;exact au
  ·intro _ hx;exact au⟩
theorem Xi (p0:Av) {K:List Ent} {A0_0:Option Addr} {c0_0:Nat} {A0_1:Option Addr} {c0_1:Nat} (ha0:Has K A0_0 (p0.n).length c0_0 1 Ao (p0.n)) (ha1:Has K A0_1 (p0.d).length c0_1 1 Ao (p0.d)) {r:Av} (hx:Gb p0=some r) (w:World) (hK:∀ e∈K,Ent.ok w e):CtL Tryz.prog 212 [.agg #[.bool (p0.neg),.slice (A0_0) ((p0.n).length) (c0_0),.slice (A0_1) ((p0.d).length) (c0_1)]] w fun v Ln=>∃ (A0:Option Addr) (c0:Nat) (A2:Option Addr) (c2:Nat) (e0:Ent) (e1:Ent) (e2:Ent) (e3:Ent) (e4:Ent),v = .agg #[.bool (r.neg),.slice (A0) ((r.n).length) (c0),.slice (A2) ((r.d).length) (c2)]/\Ln=[e0,e1,e2,e3,e4]/\Has (K++[e0,e1,e2,e3,e4]) A0 (r.n).length c0 1 Ao (r.n)/\Has (K++[e0,e1,e2,e3,e4]) A2 (r.d).length c2 1 Ao (r.d)/\True:=CtL.pad 4 ((Zb p0).h K _ _ ⟨A0_0,c0_0,A0_1,c0_1,rfl,ha0,ha1,trivial⟩ hx w hK) (by rintro _ _ ⟨_,_,_,_,_,rfl,rfl,h0,h1,-⟩;exact ⟨_,_,_,_,_,_,_,_,_,rfl,rfl,h0.padN 4,h1.padN 4,trivial⟩)

set_option maxRecDepth 100000 in
instance Af8 (p0:As):Con (Mn p0) Tryz.prog 214 (fun K vs=>∃ (A0_0:Option Addr) (c0_0:Nat) (A0_1:Option Addr) (c0_1:Nat),vs=[.agg #[.bool (p0.Neg),.slice (A0_0) ((p0.Num).length) (c0_0),.slice (A0_1) ((p0.Den).length) (c0_1)]]/\Has K A0_0 (p0.Num).length c0_0 1 Ao (p0.Num)/\Has K A0_1 (p0.Den).length c0_1 1 Ao (p0.Den)/\True) (fun _ r=>fun v Ln=>v = .bool (r)/\Ln=[]/\True):=⟨by
 rintro K _ r ⟨A0_0,c0_0,A0_1,c0_1,rfl,ha0,ha1,-⟩ hx w hK;replace ha0:=Has.lo ha0 hK;replace ha1:=Has.lo ha1 hK;unfold Mn at hx;refine CtS Tryz.ntmps214 Tryz.results214 ?_;exact au⟩
theorem Aef (p0:As) {K:List Ent} {A0_0:Option Addr} {c0_0:Nat} {A0_1:Option Addr} {c0_1:Nat} (ha0:Has K A0_0 (p0.Num).length c0_0 1 Ao (p0.Num)) (ha1:Has K A0_1 (p0.Den).length c0_1 1 Ao (p0.Den)) {r:Bool} (hx:Mn p0=some r) (w:World) (hK:∀ e∈K,Ent.ok w e):CtL Tryz.prog 214 [.agg #[.bool (p0.Neg),.slice (A0_0) ((p0.Num).length) (c0_0),.slice (A0_1) ((p0.Den).length) (c0_1)]] w fun v Ln=>v = .bool (r)/\Ln=[]/\True:=(Af8 p0).h K _ _ ⟨_,_,_,_,rfl,ha0,ha1,trivial⟩ hx w hK
set_option maxHeartbeats 1000000 in
set_option maxRecDepth 100000 in
instance Ali (p0:As):ConB (Qp p0) Tryz.prog 142 (fun K vs=>∃ (A0_0:Option Addr) (c0_0:Nat) (A0_1:Option Addr) (c0_1:Nat),vs=[.agg #[.bool (p0.Neg),.slice (A0_0) ((p0.Num).length) (c0_0),.slice (A0_1) ((p0.Den).length) (c0_1)]]/\Has K A0_0 (p0.Num).length c0_0 1 Ao (p0.Num)/\Has K A0_1 (p0.Den).length c0_1 1 Ao (p0.Den)/\True) (fun K r=>fun v Ln=>∃ (A0:Option Addr) (c0:Nat) (A2:Option Addr) (c2:Nat) (e:Ent),v = .agg #[.bool (r.neg),.slice (A0) ((r.n).length) (c0),.slice (A2) ((r.d).length) (c2)]/\Ln=[e]/\Has (K++[e]) A0 (r.n).length c0 1 Ao (r.n)/\Has (K++[e]) A2 (r.d).length c2 1 Ao (r.d)/\True):=⟨by
 rintro K _ r ⟨A0_0,c0_0,A0_1,c0_1,rfl,ha0,ha1,-⟩ hx w hK;unfold Qp at hx;have:=dl 4 [0,1,0,1,2,0,0,2,3] [0,1,2,3,5,4,6,7,8];refine CtS Tryz.ntmps142 Tryz.results142 ?_;exact au⟩
theorem Tu (p0:As) {K:List Ent} {A0_0:Option Addr} {c0_0:Nat} {A0_1:Option Addr} {c0_1:Nat} (ha0:Has K A0_0 (p0.Num).length c0_0 1 Ao (p0.Num)) (ha1:Has K A0_1 (p0.Den).length c0_1 1 Ao (p0.Den)) {r:Av} (hx:Qp p0=some r) (w:World) (hK:∀ e∈K,Ent.ok w e):CtL Tryz.prog 142 [.agg #[.bool (p0.Neg),.slice (A0_0) ((p0.Num).length) (c0_0),.slice (A0_1) ((p0.Den).length) (c0_1)]] w fun v Ln=>∃ (A0:Option Addr) (c0:Nat) (A2:Option Addr) (c2:Nat) (e0:Ent) (e1:Ent) (e2:Ent) (e3:Ent) (e4:Ent) (e5:Ent),v = .agg #[.bool (r.neg),.slice (A0) ((r.n).length) (c0),.slice (A2) ((r.d).length) (c2)]/\Ln=[e0,e1,e2,e3,e4,e5]/\Has (K++[e0,e1,e2,e3,e4,e5]) A0 (r.n).length c0 1 Ao (r.n)/\Has (K++[e0,e1,e2,e3,e4,e5]) A2 (r.d).length c2 1 Ao (r.d)/\True:=CtL.pad 5 ((Ali p0).h K _ _ ⟨A0_0,c0_0,A0_1,c0_1,rfl,ha0,ha1,trivial⟩ hx w hK) (by rintro _ _ ⟨_,_,_,_,_,rfl,rfl,h0,h1,-⟩;exact ⟨_,_,_,_,_,_,_,_,_,_,rfl,rfl,h0.padN 5,h1.padN 5,trivial⟩)

set_option maxRecDepth 100000 in
theorem Qq (p0:Av) {K:List Ent} {A0_0:Option Addr} {c0_0:Nat} {A0_1:Option Addr} {c0_1:Nat} (ha0:Has K A0_0 p0.n.length c0_0 1 Ao (p0.n)) (ha1:Has K A0_1 p0.d.length c0_1 1 Ao (p0.d)) {r:As × Int} (hx:Hv p0=some r) (w:World) (hK:∀ e∈K,Ent.ok w e):CtL Tryz.prog 139 [.agg #[.bool (p0.neg),.slice (A0_0) (p0.n.length) (c0_0),.slice (A0_1) (p0.d.length) (c0_1)]] w fun v Ln=>∃ (A0:Option Addr) (c0:Nat) (A2:Option Addr) (c2:Nat),v = .tuple #[.agg #[.bool (r.1.Neg),.slice (A0) (r.1.Num.length) (c0),.slice (A2) (r.1.Den.length) (c2)],.int .i64 (r.2)]/\Ln=[.r A0 r.1.Num.length c0 245 1 (r.1.Num.flatMap Ao),.r A2 r.1.Den.length c2 245 1 (r.1.Den.flatMap Ao)]/\True:=by
 have ha0':=Has.up0 ha0;have ha1':=Has.up0 ha1;refine CtL.mk 52 Tryz.func139 rfl Tryz.ntmps139 (by kernel_rfl) rfl ?_;show T 52 _ [(0,.agg #[.bool (p0.neg),.slice (A0_0) (p0.n.length) (c0_0),.slice (A0_1) (p0.d.length) (c0_1)])] _;unfold Hv at hx;refine Y2 ?_;refine T_x (Ui rfl rfl rfl (fun g1=>?_));refine T_x (Kz Aee rfl (fun g2=>?_));refine Y5 ?_;refine Ba (Ew rfl (i:=1) rfl rfl Ak5) rfl ?_;obtain ⟨r3,h4,hx5⟩:=Ar hx;refine T_x (Ei rfl (fun w1 hw1=>Xi p0 (Has.len' ha0') (Has.len' ha1') h4 w1 (Qj (K:=K) (K2:=[]) hK (by exact (sb 2)) (by exact (SubE.nil)) hw1)) rfl ?_);rintro _ _ hlo ⟨A6,c7,A8,c9,e0,e1,e2,e3,e4,rfl,rfl,hs0,hs1,-⟩;have lo17:=hlo e0 (by simp);have lo18:=hlo e1 (by simp);have lo19:=hlo e2 (by simp);have lo20:=hlo e3 (by simp);have lo21:=hlo e4 (by simp);refine Asr ?_;have hs2:Has (K++[e0,e1,e2,e3,e4]) _ _ _ _ _ _:=Has.assoc hs0;have hs3:Has (K++[e0,e1,e2,e3,e4]) _ _ _ _ _ _:=Has.assoc hs1;refine T_h (Fm rfl rfl rfl (.there (.there (.there (.there (.there (.there (.here))))))) (.put (.put (.put (.done)))) rfl (List.cons_ne_nil _ _) Ak5.2 ?_);refine Y3 ?_;refine Tj (γ:=Unit) hx5 (fun s4 y4=>[(1,.pointer (some ⟨g1,0,none⟩)),(2,.pointer (some ⟨g2,0,none⟩)),(16,.bool (s4))]) (fun s4 y4=>[e0,e1,e2,e3,e4,.m g2 45 [.bool (false),.slice (none) (0) (0),.slice (none) (0) (0)],.m g1 195 [.bool (r3.neg),.slice (A6) (r3.n.length) (c7),.slice (A8) (r3.d.length) (c9)]]++[.old w]) (fun s4 y4=>True) (fun s4 y4 hx0 hG0=>?_) (fun j4 hx5=>?_)
 ·refine Hr (s:=16) rfl (fun h0=>?_) (fun h0=>?_)
  ·have hx1:=Jx h0 hx0;refine Y3 ?_;refine Ba (Js rfl (Ahv)) rfl ?_;refine T_h (Fm rfl rfl rfl (.there (.there (.there (.there (.there (.here)))))) (.put (.put (.put (.done)))) rfl (List.cons_ne_nil _ _) Lz.2 ?_);refine Y5 ?_;refine Az 245 1 ?_;refine Az 245 1 ?_;obtain rfl:=Option.some.inj hx1;exact Hc (rs:=[.cell 2 45,.tmp 3]) Tryz.results139 (.cell rfl (i:=7) rfl rfl Lz (.tmp rfl (.nil))) (Ln:=[.r (none) (0) (0) 245 1 ((([]:List Int)).flatMap Ao),.r (none) (0) (0) 245 1 ((([]:List Int)).flatMap Ao)]) ⟨none,0,none,0,rfl,rfl,trivial⟩ (By rfl (By rfl (Gn))) (by exact .pick 1 rfl (.pick 0 rfl (.drop 0 rfl (.drop 0 rfl (.drop 0 rfl (.drop 0 rfl (.drop 0 rfl (.drop 0 rfl (.drop 0 rfl (.refl))))))))))
  ·have hx2:=Mg h0 hx0;refine Y3 ?_;refine Tj (γ:=Nat × (Option Addr) × Nat) hx2 (fun s6 y6=>[(1,.pointer (some ⟨g1,0,none⟩)),(2,.pointer (some ⟨g2,0,none⟩)),(4,.pointer (some ⟨y6.1,0,none⟩))]) (fun s6 y6=>[.m y6.1 45 [.bool (r3.neg),.slice (y6.2.1) (s6.length) (y6.2.2),.slice (none) (0) (0)],.r (y6.2.1) (s6.length) (y6.2.2) 245 1 (s6.flatMap Ao),e0,e1,e2,e3,e4,.m g2 45 [.bool (false),.slice (none) (0) (0),.slice (none) (0) (0)],.m g1 195 [.bool (r3.neg),.slice (A6) (r3.n.length) (c7),.slice (A8) (r3.d.length) (c9)]]++[.old w]) (fun s6 y6=>True) (fun s6 y6 hx3 hG1=>?_) (fun j6 hx2=>?_)
   ·refine Y2 ?_;refine Ba (Cs rfl Am9 rfl) rfl ?_;refine Ba (Bf rfl (i:=0) rfl rfl Ana) rfl ?_;refine Ba (Cs rfl Aas rfl) rfl ?_;refine Ba (Bf rfl (i:=8) rfl rfl Vo) rfl ?_;have hw0:=Has.low (E:=[e0,e1,e2,e3,e4]) hs2 hK;refine T_h (Ajy Ao (s6) (r3.n) 0 rfl rfl hw0 (SubE.cons2 (i:=9) rfl (SubE.cons2 (i:=2) rfl (SubE.cons2 (i:=3) rfl (SubE.cons2 (i:=4) rfl (SubE.cons2 (i:=5) rfl (sb 6)))))) rfl (Nat.zero_le _) (fun _ h hc=>Ani h hc) (.there (.here)) Tryz.underlying43 (by kernel_rfl) (by decide) (fun _=>rfl) (fun _=>rfl) rfl ?_);refine Y2 ?_;refine Tj (γ:=(Option Addr) × Nat) hx3 (fun s8 y8=>[(2,.pointer (some ⟨g2,0,none⟩)),(4,.pointer (some ⟨y6.1,0,none⟩))]) (fun s8 y8=>[.r (y8.1) (s8.length) (y8.2) 245 1 (s8.flatMap Ao),.m y6.1 45 [.bool (r3.neg),.slice (y6.2.1) (s6.length) (y6.2.2),.slice (y8.1) (s8.length) (y8.2)],.r (y6.2.1) (s6.length) (y6.2.2) 245 1 ((cpy s6 0 r3.n).flatMap Ao),.m g2 45 [.bool (false),.slice (none) (0) (0),.slice (none) (0) (0)]]++[.old w]) (fun s8 y8=>True) (fun s8 y8 hx4 hG2=>?_) (fun j8 hx3=>?_)
    ·refine Y2 ?_;refine Ba (Ew rfl (i:=1) rfl rfl Lz) rfl ?_;refine T_h (Fm rfl rfl rfl (.there (.there (.there (.here)))) (.put (.put (.put (.done)))) rfl (List.cons_ne_nil _ _) Lz.2 ?_);refine Y4 ?_
     have hn0:s6.length=(cpy s6 0 r3.n).length:=by simp[Ip,Pe,List.length_append] <;> omega
     refine Rv (.there (.there (.here))) (e':=.r (y6.2.1) ((cpy s6 0 r3.n).length) (y6.2.2) 245 1 ((cpy s6 0 r3.n).flatMap Ao)) (by first | (rw[<- hn0];done) | rfl) ?_;refine Rv (.there (.there (.there (.here)))) (e':=.m g2 45 [.bool (r3.neg),.slice (y6.2.1) ((cpy s6 0 r3.n).length) (y6.2.2),.slice (y8.1) (s8.length) (y8.2)]) (by first | (rw[show (s6.length)=(cpy s6 0 r3.n).length from (by simp[Ip,Pe,List.length_append] <;> omega)];done) | rfl) ?_;obtain rfl:=Option.some.inj hx4;exact Hc (rs:=[.cell 2 45,.tmp 3]) Tryz.results139 (.cell rfl (i:=3) rfl rfl Lz (.tmp rfl (.nil))) (Ln:=[.r (y6.2.1) ((cpy s6 0 r3.n).length) (y6.2.2) 245 1 ((cpy s6 0 r3.n).flatMap Ao),.r (y8.1) (s8.length) (y8.2) 245 1 (s8.flatMap Ao)]) ⟨y6.2.1,y6.2.2,y8.1,y8.2,rfl,rfl,trivial⟩ (By rfl (By rfl (Gn))) (by exact .pick 2 rfl (.pick 0 rfl (.drop 0 rfl (.drop 0 rfl (.refl)))))
    ·refine Tj (γ:=Unit) hx3 (fun s9 y9=>[(1,.pointer (some ⟨g1,0,none⟩)),(2,.pointer (some ⟨g2,0,none⟩)),(4,.pointer (some ⟨y6.1,0,none⟩)),(40,.bool (s9))]) (fun s9 y9=>[.m y6.1 45 [.bool (r3.neg),.slice (y6.2.1) (s6.length) (y6.2.2),.slice (none) (0) (0)],.r (y6.2.1) (s6.length) (y6.2.2) 245 1 ((cpy s6 0 r3.n).flatMap Ao),e0,e1,e2,e3,e4,.m g2 45 [.bool (false),.slice (none) (0) (0),.slice (none) (0) (0)],.m g1 195 [.bool (r3.neg),.slice (A6) (r3.n.length) (c7),.slice (A8) (r3.d.length) (c9)]]++[.old w]) (fun s9 y9=>True) (fun s9 y9 hx6 hG3=>?_) (fun j9 hx3=>?_)
     ·refine Hr (s:=40) rfl (fun h1=>?_) (fun h1=>?_)
      ·have hx7:=Jx h1 hx6;refine Y3 ?_;refine Ba (Cs rfl Un rfl) rfl ?_;refine Ba (Bf rfl (i:=8) rfl rfl Vo) rfl ?_;refine Ba (Jq rfl 245 Tryz.underlying193) rfl ?_;obtain ⟨h2,hx8⟩:=Dr hx7;refine T_x (Ae2 Ao (0) (z:=.int .u32 (0)) rfl rfl rfl h2.1 Tryz.underlying43 (show Tryz.prog.info? 245=some Tryz.t245 from by kernel_rfl) (by kernel_rfl) rfl rfl (by kernel_rfl) (show 4*_<=_ from h2.2) (by decide) rfl (fun A1=>?_));refine Ba (Cs rfl Ahu rfl) rfl ?_;refine T_h (Fm rfl rfl rfl (.there (.here)) (.skip (.skip (.put (.done)))) rfl (List.cons_ne_nil _ _) Ana.2 ?_);refine Y3 ?_;refine Ba (Cs rfl Ahu rfl) rfl ?_;refine Ba (Bf rfl (i:=1) rfl rfl Ana) rfl ?_;refine Ba (Cs rfl Un rfl) rfl ?_;refine Ba (Bf rfl (i:=9) rfl rfl Vo) rfl ?_;have hw2:=Has.low (E:=[e0,e1,e2,e3,e4]) hs3 hK;refine T_h (Ajy Ao (List.replicate (Int.toNat (((r3.d.length:Nat):Int))) (0:Int)) (r3.d) 0 rfl rfl hw2 (SubE.cons2 (i:=10) rfl (SubE.cons2 (i:=3) rfl (SubE.cons2 (i:=4) rfl (SubE.cons2 (i:=5) rfl (SubE.cons2 (i:=6) rfl (sb 7)))))) rfl (Nat.zero_le _) (fun _ h hc=>Ani h hc) (.here) Tryz.underlying43 (by kernel_rfl) (by decide) (fun _=>rfl) (fun _=>rfl) rfl ?_);refine Y ?_;have hn1:(List.replicate (Int.toNat (((r3.d.length:Nat):Int))) (0:Int)).length=(cpy (List.replicate (Int.toNat (((r3.d.length:Nat):Int))) (0:Int)) 0 r3.d).length:=(Pe (Nat.zero_le _)).symm
       refine Rv (.here) (e':=.r (A1) ((cpy (List.replicate (Int.toNat (((r3.d.length:Nat):Int))) (0:Int)) 0 r3.d).length) ((List.replicate (Int.toNat (((r3.d.length:Nat):Int))) (0:Int)).length) 245 1 ((cpy (List.replicate (Int.toNat (((r3.d.length:Nat):Int))) (0:Int)) 0 r3.d).flatMap Ao)) (by first | (rw[<- hn1];done) | rfl) ?_;refine Rv (.there (.here)) (e':=.m y6.1 45 [.bool (r3.neg),.slice (y6.2.1) (s6.length) (y6.2.2),.slice (A1) ((cpy (List.replicate (Int.toNat (((r3.d.length:Nat):Int))) (0:Int)) 0 r3.d).length) ((List.replicate (Int.toNat (((r3.d.length:Nat):Int))) (0:Int)).length)]) (by first | (rw[show ((List.replicate (Int.toNat (((r3.d.length:Nat):Int))) (0:Int)).length)=(cpy (List.replicate (Int.toNat (((r3.d.length:Nat):Int))) (0:Int)) 0 r3.d).length from (Pe (Nat.zero_le _)).symm];done) | rfl) ?_;exact Mt (cpy (List.replicate (Int.toNat (((r3.d.length:Nat):Int))) (0:Int)) 0 r3.d) (A1,(List.replicate (Int.toNat (((r3.d.length:Nat):Int))) (0:Int)).length) hx8 trivial (by exact .pick 0 rfl (.pick 0 rfl (.pick 0 rfl (.pick 5 rfl (.drop 0 rfl (.drop 0 rfl (.drop 0 rfl (.drop 0 rfl (.drop 0 rfl (.drop 0 rfl (.refl)))))))))))
      ·have hx9:=Mg h1 hx6;refine Y2 ?_;refine Az 245 1 ?_
       have hn2:0=(([]:List Int)).length:=by simp[Ip,Pe,List.length_append] <;> omega
       refine Rv (.here) (e':=.r (none) ((([]:List Int)).length) (0) 245 1 ((([]:List Int)).flatMap Ao)) (by first | (rw[<- hn2];done) | rfl) ?_;exact Mt ([]:List Int) (none,0) hx9 trivial (by exact .pick 0 rfl (.pick 0 rfl (.pick 0 rfl (.pick 5 rfl (.drop 0 rfl (.drop 0 rfl (.drop 0 rfl (.drop 0 rfl (.drop 0 rfl (.drop 0 rfl (.refl)))))))))))
     ·refine Y ?_;refine Ba (Cs rfl Un rfl) rfl ?_;refine Ba (Bf rfl (i:=8) rfl rfl Vo) rfl ?_;refine Ba (Jq rfl 245 Tryz.underlying193) rfl ?_;refine Y2 ?_;refine Ti hx3 (s:=34) rfl (fun h3 hx45=>?_) (fun h3 hx46=>?_)
      ·refine Y7 ?_;exact Mt true () hx45 trivial (by exact .pick 0 rfl (.pick 0 rfl (.pick 0 rfl (.pick 0 rfl (.pick 0 rfl (.pick 0 rfl (.pick 0 rfl (.pick 0 rfl (.pick 0 rfl (.refl))))))))))
      ·refine Oi rfl rfl rfl (Cs rfl Un rfl) rfl ?_;refine Oi rfl rfl rfl (Bf rfl (i:=8) rfl rfl Vo) rfl ?_;obtain ⟨x0,h5,hx49⟩:=Ar hx46;have hw3:=Has.low (E:=[e0,e1,e2,e3,e4]) hs3 hK;obtain ⟨b0,o0,j0,hA0,hj0,hl0,hp0⟩:=Has.at_idx hw3 h5;refine Oi rfl rfl rfl (Fw rfl rfl hA0 (j:=j0) hj0 hl0 Aql) rfl ?_;refine Oi rfl rfl rfl (Dy rfl hp0 (SubE.cons2 (i:=9) rfl (SubE.cons2 (i:=2) rfl (SubE.cons2 (i:=3) rfl (SubE.cons2 (i:=4) rfl (SubE.cons2 (i:=5) rfl (sb 6)))))) rfl Adv) rfl ?_;refine Y3 ?_;exact Mt (!(decide (x0=1))) () hx49 trivial (by exact .pick 0 rfl (.pick 0 rfl (.pick 0 rfl (.pick 0 rfl (.pick 0 rfl (.pick 0 rfl (.pick 0 rfl (.pick 0 rfl (.pick 0 rfl (.refl))))))))))
   ·obtain ⟨h6,hx36⟩:=Dr hx2;refine T_dr [0,1,0,1,0,2,0,2,3] (.q 0 (.q 1 (.q 2 (.q 3 (.q 4 (.e 5 (.q 6 (.e 7 (.e 8 (.done) (.stop)) (.stop))) (.e 7 (.e 5 (.q 6 (.e 8 (.done) (.stop))) (.stop)) (.stop)))))))) mixed (by kernel_rfl) (by kernel_rfl) ?_;refine P_p rfl rfl (Cs rfl Ai5 rfl) rfl ?_;refine P_q rfl rfl (Bf rfl (i:=6) rfl rfl one4) rfl ?_;refine P_p rfl rfl (Cs rfl Aas rfl) rfl ?_;refine P_q rfl rfl (Bf rfl (i:=6) rfl rfl Vo) rfl ?_;refine P_p rfl rfl (Jq rfl 245 Tryz.underlying193) rfl ?_;refine P_x rfl (Ae2 Ao (0) (z:=.int .u32 (0)) rfl rfl rfl h6.1 Tryz.underlying43 (show Tryz.prog.info? 245=some Tryz.t245 from by kernel_rfl) (by kernel_rfl) rfl rfl (by kernel_rfl) (show 4*_<=_ from h6.2) (by decide) rfl (fun A3=>?_)) ?_
    ·skip;refine P_p rfl rfl (Js rfl (Zt _ _ _ _)) rfl ?_;refine P_x rfl (Kz Aee rfl (fun g0=>?_)) ?_;rotate_left;exact Ct;refine P_h rfl rfl (Fm rfl rfl rfl (.here) (.put (.put (.put (.done)))) rfl (List.cons_ne_nil _ _) Lz.2 ?_) ?_;rotate_left;exact Ct;refine Y ?_;exact Mt (List.replicate (Int.toNat (((r3.n.length:Nat):Int))) (0:Int)) (g0,A3,(List.replicate (Int.toNat (((r3.n.length:Nat):Int))) (0:Int)).length) hx36 trivial (by exact .pick 0 rfl (.pick 0 rfl (.pick 0 rfl (.pick 0 rfl (.pick 0 rfl (.pick 0 rfl (.pick 0 rfl (.pick 0 rfl (.pick 0 rfl (.refl))))))))))
    ·skip;refine P_x rfl (Kz Aee rfl (fun g3=>?_)) ?_;rotate_left;exact Ct;refine P_x rfl (Ae2 Ao (0) (z:=.int .u32 (0)) rfl rfl rfl h6.1 Tryz.underlying43 (show Tryz.prog.info? 245=some Tryz.t245 from by kernel_rfl) (by kernel_rfl) rfl rfl (by kernel_rfl) (show 4*_<=_ from h6.2) (by decide) rfl (fun A4=>?_)) ?_;rotate_left;exact Ct;refine P_p rfl rfl (Js rfl (Zt _ _ _ _)) rfl ?_;refine P_h rfl rfl (Fm rfl rfl rfl (.there (.here)) (.put (.put (.put (.done)))) rfl (List.cons_ne_nil _ _) Lz.2 ?_) ?_;rotate_left;exact Ct;refine Y ?_;exact Mt (List.replicate (Int.toNat (((r3.n.length:Nat):Int))) (0:Int)) (g3,A4,(List.replicate (Int.toNat (((r3.n.length:Nat):Int))) (0:Int)).length) hx36 trivial (by exact .pick 1 rfl (.pick 0 rfl (.pick 0 rfl (.pick 0 rfl (.pick 0 rfl (.pick 0 rfl (.pick 0 rfl (.pick 0 rfl (.pick 0 rfl (.refl))))))))))
 ·refine Y ?_;refine Ba (Cs rfl Aas rfl) rfl ?_;refine Ba (Bf rfl (i:=6) rfl rfl Vo) rfl ?_;refine Ba (Jq rfl 245 Tryz.underlying193) rfl ?_;refine Y2 ?_;refine Ti hx5 (s:=11) rfl (fun h7 hx25=>?_) (fun h7 hx26=>?_)
  ·refine Y6 ?_;exact Mt true () hx25 trivial (by exact .pick 0 rfl (.pick 0 rfl (.pick 0 rfl (.pick 0 rfl (.pick 0 rfl (.pick 0 rfl (.pick 0 rfl (.refl))))))))
  ·refine Oi rfl rfl rfl (Cs rfl Un rfl) rfl ?_;refine Oi rfl rfl rfl (Bf rfl (i:=6) rfl rfl Vo) rfl ?_;refine Oi rfl rfl rfl (Jq rfl 245 Tryz.underlying193) rfl ?_;refine Y3 ?_;exact Mt (decide (256 < (((r3.d.length:Nat):Int)))) () hx26 trivial (by exact .pick 0 rfl (.pick 0 rfl (.pick 0 rfl (.pick 0 rfl (.pick 0 rfl (.pick 0 rfl (.pick 0 rfl (.refl))))))))
set_option maxHeartbeats 1000000 in
set_option maxRecDepth 100000 in
instance ratio_Num_Done_c (p0:Av):Con (Hv p0) Tryz.prog 139 (fun K vs=>∃ (A0_0:Option Addr) (c0_0:Nat) (A0_1:Option Addr) (c0_1:Nat),vs=[.agg #[.bool (p0.neg),.slice (A0_0) ((p0.n).length) (c0_0),.slice (A0_1) ((p0.d).length) (c0_1)]]/\Has K A0_0 (p0.n).length c0_0 1 Ao (p0.n)/\Has K A0_1 (p0.d).length c0_1 1 Ao (p0.d)/\True) (fun _ r=>fun v Ln=>∃ (A0:Option Addr) (c0:Nat) (A2:Option Addr) (c2:Nat),v = .tuple #[.agg #[.bool (r.1.Neg),.slice (A0) ((r.1.Num).length) (c0),.slice (A2) ((r.1.Den).length) (c2)],.int .i64 (r.2)]/\Ln=[.r A0 (r.1.Num).length c0 245 1 ((r.1.Num).flatMap Ao),.r A2 (r.1.Den).length c2 245 1 ((r.1.Den).flatMap Ao)]/\True):=⟨by
 rintro K _ r ⟨A0_0,c0_0,A0_1,c0_1,rfl,ha0,ha1,-⟩ hx w hK;exact Qq p0 ha0 ha1 hx w hK⟩
end Go.Proofs.YtjfndjmabhbicaaGreat
