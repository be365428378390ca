/- Walks of the program, with their plain functions: sweep, settle, Build. -/
import Derived.Test.YtjfndjmabhbicaaGreatD4
namespace Go.Proofs.YtjfndjmabhbicaaGreat
open Go Go.RowKit
theorem Aks:Cw Tryz.prog 165 2 2:=.mk Tryz.underlying165 rfl rfl (show Tryz.prog.info? 106=some Tryz.t106 from by kernel_rfl) (show Tryz.t106.size=1 from by kernel_rfl) rfl
instance:Gd Tryz.prog 165 2 2:=⟨Aks⟩
theorem Aty:Qe Tryz.prog 106:=.mk Tryz.underlying106 rfl (show Tryz.prog.info? 106=some Tryz.t106 from by kernel_rfl) (by kernel_rfl)
instance:OneI Tryz.prog 106:=⟨Aty⟩
theorem Ny (x0:Int) (x1:Int) (x2:Int) (x3:Int) (x4:Int) (x5:Int) (x6:Int) (x7:Int):De Tryz.prog 23 4 [(0,.agg #[.int .i64 x0,.int .i64 x1]),(1,.agg #[.int .i64 x2,.int .i64 x3]),(2,.agg #[.int .i64 x4,.int .i64 x5]),(3,.agg #[.int .i64 x6,.int .i64 x7])] 62 [.int .i64 x0,.int .i64 x1,.int .i64 x2,.int .i64 x3,.int .i64 x4,.int .i64 x5,.int .i64 x6,.int .i64 x7]:=fun w=>by kernel_rfl
instance (x0:Int) (x1:Int) (x2:Int) (x3:Int) (x4:Int) (x5:Int) (x6:Int) (x7:Int):Of Tryz.prog 23 4 [(0,.agg #[.int .i64 x0,.int .i64 x1]),(1,.agg #[.int .i64 x2,.int .i64 x3]),(2,.agg #[.int .i64 x4,.int .i64 x5]),(3,.agg #[.int .i64 x6,.int .i64 x7])] 62 [.int .i64 x0,.int .i64 x1,.int .i64 x2,.int .i64 x3,.int .i64 x4,.int .i64 x5,.int .i64 x6,.int .i64 x7]:=⟨Ny _ _ _ _ _ _ _ _⟩
theorem Akt  : De Tryz.prog 22 0 [] 70 []:=fun w=>by kernel_rfl
instance:Of Tryz.prog 22 0 [] 70 []:=⟨Akt⟩
theorem Axj:Vx Tryz.prog 22 70 4 32:=⟨Tryz.underlying22,⟨Tryz.t70,.agg #[.int .i64 (0),.int .i64 (0),.int .i64 (0),.int .i64 (0)],by kernel_rfl,by kernel_rfl,by kernel_rfl,by kernel_rfl,rfl⟩,by decide⟩
instance:Abm Tryz.prog 22 70 4 32:=⟨Axj⟩
theorem Bbp:Md Tryz.prog 32 [.slice (none) (0) (0),.slice (none) (0) (0),.slice (none) (0) (0)]:=⟨_,Tryz.zeroValue32,rfl⟩
instance:Tg Tryz.prog 32 [.slice (none) (0) (0),.slice (none) (0) (0),.slice (none) (0) (0)]:=⟨Bbp⟩
theorem Azz  : Gs Tryz.prog 32 [] [.slice (none) (0) (0),.slice (none) (0) (0),.slice (none) (0) (0)]:=fun w=>by kernel_rfl
instance:Lk Tryz.prog 32 [] [.slice (none) (0) (0),.slice (none) (0) (0),.slice (none) (0) (0)]:=⟨Azz⟩
theorem Bbq:Nf Tryz.prog 32 3:=.mk Tryz.underlying32 rfl (show Tryz.prog.info? 32=some Tryz.t32 from by kernel_rfl) (by kernel_rfl)
instance:AggI Tryz.prog 32 3:=⟨Bbq⟩
theorem Agc (x0:Option Addr) (x1:Nat) (x2:Nat) (x3:Nat) (x4:Nat):Gs Tryz.prog 165 [(0,.slice x0 x1 x2),(1,.map (some x3)),(2,.map (some x4))] [.slice x0 x1 x2,.map (some x3),.map (some x4)]:=fun w=>by kernel_rfl
instance (x0:Option Addr) (x1:Nat) (x2:Nat) (x3:Nat) (x4:Nat):Lk Tryz.prog 165 [(0,.slice x0 x1 x2),(1,.map (some x3)),(2,.map (some x4))] [.slice x0 x1 x2,.map (some x3),.map (some x4)]:=⟨Agc _ _ _ _ _⟩
theorem Aix (x0:Option Addr) (x1:Nat) (x2:Nat) (x3:Option Addr) (x4:Nat) (x5:Nat) (x6:Option Addr) (x7:Nat) (x8:Nat):Gs Tryz.prog 32 [(0,.slice x0 x1 x2),(1,.slice x3 x4 x5),(2,.slice x6 x7 x8)] [.slice x0 x1 x2,.slice x3 x4 x5,.slice x6 x7 x8]:=fun w=>by kernel_rfl
instance (x0:Option Addr) (x1:Nat) (x2:Nat) (x3:Option Addr) (x4:Nat) (x5:Nat) (x6:Option Addr) (x7:Nat) (x8:Nat):Lk Tryz.prog 32 [(0,.slice x0 x1 x2),(1,.slice x3 x4 x5),(2,.slice x6 x7 x8)] [.slice x0 x1 x2,.slice x3 x4 x5,.slice x6 x7 x8]:=⟨Aix _ _ _ _ _ _ _ _ _⟩
noncomputable def Gy (p1:List Int) (p0:Ag):Int->Option (Sum Int Int):=fun s0=>
 jn (fun (s6:Bool)=>
 if s6=true then (some (.inl (w64 (s0+1))))
 else (some (.inr s0)))
 (fun j6=>if s0 < ((((p1).length:Nat):Int)) then (bnd (idx p1 0) fun x0=>
 bnd (idx p1 1) fun x1=>
 bnd (idx p1 s0) fun x2=>
 bnd (Bg p0 x0) fun r0=>
 bnd (Bg p0 x1) fun r1=>
 bnd (Bg p0 x2) fun r2=>
 bnd (Ib r0 r1 r2) fun r3=>
 j6 (decide (r3=0)))
 else (j6 false))
noncomputable def Et (s2:Int) (p1:List Int):((List Ab) × (List (Aa × Int)) × (List (Aa × Bool)) × Int)->Option (Sum ((List Ab) × (List (Aa × Int)) × (List (Aa × Bool)) × Int) ((List Ab) × (List (Aa × Int)) × (List (Aa × Bool)))):=fun s0=>
 if (w64 (s0.2.2.2+1)) < s2 then (jn (fun (s1:(List Ab) × (List (Aa × Int)) × (List (Aa × Bool)))=>
 some (.inl (s1.1,s1.2.1,s1.2.2,w64 (s0.2.2.2+1))))
 (fun j0=>bnd (idx p1 s0.2.2.2) fun x0=>
 bnd (idx p1 (w64 (s0.2.2.2+1))) fun x1=>
 bnd (idx p1 s2) fun x2=>
 bnd (Bg (⟨s0.1,s0.2.1,s0.2.2.1⟩:Ag) x0) fun r0=>
 bnd (Bg (⟨s0.1,s0.2.1,s0.2.2.1⟩:Ag) x1) fun r1=>
 bnd (Bg (⟨s0.1,s0.2.1,s0.2.2.1⟩:Ag) x2) fun r2=>
 bnd (Ib r0 r1 r2) fun r3=>
 if 0 < r3 then (bnd (idx p1 s0.2.2.2) fun x3=>
 bnd (idx p1 (w64 (s0.2.2.2+1))) fun x4=>
 bnd (idx p1 s2) fun x5=>
 bnd (Dz (⟨s0.1,s0.2.1,s0.2.2.1⟩:Ag) x3 x4 x5) fun r4=>
 j0 (r4.v,r4.apex,r4.fixed))
 else (bnd (idx p1 (w64 (s0.2.2.2+1))) fun x6=>
 bnd (idx p1 s0.2.2.2) fun x7=>
 bnd (idx p1 s2) fun x8=>
 bnd (Dz (⟨s0.1,s0.2.1,s0.2.2.1⟩:Ag) x6 x7 x8) fun r5=>
 j0 (r5.v,r5.apex,r5.fixed))))
 else (some (.inr (s0.1,s0.2.1,s0.2.2.1)))
noncomputable def Df (r0:Ag × (List Aa)) (x0:Int):((List Ab) × (List (Aa × Int)) × (List (Aa × Bool)) × Int)->Option (Sum ((List Ab) × (List (Aa × Int)) × (List (Aa × Bool)) × Int) ((List Ab) × (List (Aa × Int)) × (List (Aa × Bool)))):=fun s0=>
 if s0.2.2.2 < ((((r0.2).length:Nat):Int)) then (jn (fun (s1:(List Ab) × (List (Aa × Int)) × (List (Aa × Bool)))=>
 some (.inl (s1.1,s1.2.1,s1.2.2,w64 (s0.2.2.2+1))))
 (fun j0=>bnd (idx r0.2 s0.2.2.2) fun x1=>
 bnd (Bg (⟨s0.1,s0.2.1,s0.2.2.1⟩:Ag) x1.a0) fun r1=>
 bnd (Bg (⟨s0.1,s0.2.1,s0.2.2.1⟩:Ag) x1.a1) fun r2=>
 bnd (Bg (⟨s0.1,s0.2.1,s0.2.2.1⟩:Ag) x0) fun r3=>
 bnd (Ib r1 r2 r3) fun r4=>
 if 0 < r4 then (bnd (Dz (⟨s0.1,s0.2.1,s0.2.2.1⟩:Ag) x1.a0 x1.a1 x0) fun r5=>
 j0 (r5.v,r5.apex,r5.fixed))
 else (j0 (s0.1,s0.2.1,s0.2.2.1))))
 else (some (.inr (s0.1,s0.2.1,s0.2.2.1)))
noncomputable def Ja (p1:List Int) (s2:Int):((List Ab) × (List (Aa × Int)) × (List (Aa × Bool)) × (List Int) × Int)->Option (Sum ((List Ab) × (List (Aa × Int)) × (List (Aa × Bool)) × (List Int) × Int) Ag):=fun s0=>
 if s0.2.2.2.2 < (((((p1).length)-Int.toNat (w64 (s2+1)):Nat):Int)) then (jn (fun (s1:(List Ab) × (List (Aa × Int)) × (List (Aa × Bool)))=>
 some (.inl (s1.1,s1.2.1,s1.2.2,s0.2.2.2.1,w64 (s0.2.2.2.2+1))))
 (fun j0=>bnd (idx s0.2.2.2.1 s0.2.2.2.2) fun x0=>
 bnd (Hk (⟨s0.1,s0.2.1,s0.2.2.1⟩:Ag)) fun r0=>
 bnd (lfix (Df r0 x0) (r0.1.v,r0.1.apex,r0.1.fixed,0)) fun t0=>
 j0 t0))
 else (some (.inr (⟨s0.1,s0.2.1,s0.2.2.1⟩:Ag)))
noncomputable def Kf (p0:Ag) (p1:List Int):Option Ag :=
 jn (fun (s2:Int)=>
 if ((((p1).length:Nat):Int))<=s2 then (some p0)
 else (jn (fun (s9:(List Ab) × (List (Aa × Int)) × (List (Aa × Bool)))=>
 gd (0<=(w64 (s2+1))/\(w64 (s2+1))<=(((p1).length:Nat):Int)) <|
 bnd (lfix (Ja p1 s2) (s9.1,s9.2.1,s9.2.2,subl p1 (w64 (s2+1)) (((p1).length:Nat):Int),0)) fun t0=>
 some t0)
 (fun j9=>bnd (lfix (Et s2 p1) (p0.v,p0.apex,p0.fixed,0)) fun t1=>
 j9 t1)))
 (fun j2=>bnd (lfix (Gy p1 p0) 2) fun t2=>
 j2 t2)
noncomputable def Dg  : ((List Ab) × (List (Aa × Int)) × (List (Aa × Bool)) × (List Aa))->Option (Sum ((List Ab) × (List (Aa × Int)) × (List (Aa × Bool)) × (List Aa)) Ag):=fun s0=>
 if 0 < ((((s0.2.2.2).length:Nat):Int)) then (bnd (idx s0.2.2.2 (w64 (((((s0.2.2.2).length:Nat):Int))-1))) fun x0=>
 gd (0<=(w64 (((((s0.2.2.2).length:Nat):Int))-1))/\(w64 (((((s0.2.2.2).length:Nat):Int))-1))<=(((s0.2.2.2).length:Nat):Int)) <|
 gd ((-9223372036854775808<=x0.a0/\x0.a0<=9223372036854775807)/\(-9223372036854775808<=x0.a1/\x0.a1<=9223372036854775807)) <|
 bnd (some ((mget s0.2.1 x0).getD 0)) fun x1=>
 gd ((-9223372036854775808<=x0.a1/\x0.a1<=9223372036854775807)/\(-9223372036854775808<=x0.a0/\x0.a0<=9223372036854775807)) <|
 bnd (some ((mget s0.2.1 ((⟨x0.a1,x0.a0⟩:Aa))).getD 0)) fun x2=>
 jn (fun (s1:(List Aa) × Bool)=>
 if s1.2=true then (some (.inl (s0.1,s0.2.1,s0.2.2.1,s1.1)))
 else (bnd (Ck (⟨s0.1,s0.2.1,s0.2.2.1⟩:Ag) x0.a0 x0.a1) fun r0=>
 if r0.2=true then (bnd (Fh x0.a0 x1) fun r1=>
 bnd (Fh x1 x0.a1) fun r2=>
 bnd (Fh x0.a1 x2) fun r3=>
 bnd (Fh x2 x0.a0) fun r4=>
 gd (((s1.1).length+4)*16<=140737488355328) <|
 some (.inl (r0.1.v,r0.1.apex,r0.1.fixed,s1.1++[r1,r2,r3,r4])))
 else (some (.inl (r0.1.v,r0.1.apex,r0.1.fixed,s1.1)))))
 (fun j0=>if ((mget s0.2.1 x0).isSome)=true then (if ((mget s0.2.1 ((⟨x0.a1,x0.a0⟩:Aa))).isSome)=true then (gd ((-9223372036854775808<=x0.a0/\x0.a0<=9223372036854775807)/\(-9223372036854775808<=x0.a1/\x0.a1<=9223372036854775807)) <|
 bnd (some ((mget s0.2.2.1 x0).getD false)) fun x3=>
 if x3=true then (j0 (List.take (Int.toNat (w64 (((((s0.2.2.2).length:Nat):Int))-1))) s0.2.2.2,true))
 else (bnd (Bg (⟨s0.1,s0.2.1,s0.2.2.1⟩:Ag) x0.a0) fun r5=>
 bnd (Bg (⟨s0.1,s0.2.1,s0.2.2.1⟩:Ag) x0.a1) fun r6=>
 bnd (Bg (⟨s0.1,s0.2.1,s0.2.2.1⟩:Ag) x1) fun r7=>
 bnd (Bg (⟨s0.1,s0.2.1,s0.2.2.1⟩:Ag) x2) fun r8=>
 bnd (Rh r5 r6 r7 r8) fun r9=>
 j0 (List.take (Int.toNat (w64 (((((s0.2.2.2).length:Nat):Int))-1))) s0.2.2.2,r9)))
 else (j0 (List.take (Int.toNat (w64 (((((s0.2.2.2).length:Nat):Int))-1))) s0.2.2.2,true)))
 else (j0 (List.take (Int.toNat (w64 (((((s0.2.2.2).length:Nat):Int))-1))) s0.2.2.2,true))))
 else (some (.inr (⟨s0.1,s0.2.1,s0.2.2.1⟩:Ag)))
noncomputable def Iv (p0:Ag):Option Ag :=
 bnd (Fg p0) fun r1=>
 bnd (lfix (Dg) (r1.1.v,r1.1.apex,r1.1.fixed,r1.2)) fun t0=>
 some t0
noncomputable def Gz (r2:Ag × (List Aa)) (p1:Aa):((List Aa) × Int)->Option (Sum ((List Aa) × Int) ((List Ab) × (List (Aa × Int)) × (List (Aa × Bool)) × (List Aa))):=fun s0=>
 if s0.2 < ((((r2.2).length:Nat):Int)) then (jn (fun (s1:List Aa)=>
 some (.inl (s1,w64 (s0.2+1))))
 (fun j0=>bnd (idx r2.2 s0.2) fun x0=>
 bnd (Hq r2.1.v p1 x0) fun r0=>
 if r0=true then (gd (((s0.1).length+1)*16<=140737488355328) <|
 j0 (s0.1++[x0]))
 else (j0 s0.1)))
 else (some (.inr (r2.1.v,r2.1.apex,r2.1.fixed,s0.1)))
noncomputable def Bx (p1:Aa):((List Ab) × (List (Aa × Int)) × (List (Aa × Bool)) × (List Aa))->Option (Sum ((List Ab) × (List (Aa × Int)) × (List (Aa × Bool)) × (List Aa)) ((List Ab) × (List (Aa × Int)) × (List (Aa × Bool)))):=fun s0=>
 if 0 < ((((s0.2.2.2).length:Nat):Int)) then (bnd (idx s0.2.2.2 0) fun x0=>
 gd ((0:Int)<=1/\1<=(((s0.2.2.2).length:Nat):Int)) <|
 gd ((-9223372036854775808<=x0.a0/\x0.a0<=9223372036854775807)/\(-9223372036854775808<=x0.a1/\x0.a1<=9223372036854775807)) <|
 bnd (some ((mget s0.2.1 x0).getD 0)) fun x1=>
 gd ((-9223372036854775808<=x0.a1/\x0.a1<=9223372036854775807)/\(-9223372036854775808<=x0.a0/\x0.a0<=9223372036854775807)) <|
 bnd (some ((mget s0.2.1 ((⟨x0.a1,x0.a0⟩:Aa))).getD 0)) fun x2=>
 bnd (Ck (⟨s0.1,s0.2.1,s0.2.2.1⟩:Ag) x0.a0 x0.a1) fun r0=>
 if r0.2=true then (bnd (Fh x1 x2) fun r1=>
 bnd (Hq r0.1.v p1 r1) fun r2=>
 if r2=true then (gd (((List.drop (Int.toNat 1) s0.2.2.2).length+1)*16<=140737488355328) <|
 some (.inl (r0.1.v,r0.1.apex,r0.1.fixed,(List.drop (Int.toNat 1) s0.2.2.2)++[r1])))
 else (some (.inl (r0.1.v,r0.1.apex,r0.1.fixed,List.drop (Int.toNat 1) s0.2.2.2))))
 else (gd (((List.drop (Int.toNat 1) s0.2.2.2).length+1)*16<=140737488355328) <|
 some (.inl (r0.1.v,r0.1.apex,r0.1.fixed,(List.drop (Int.toNat 1) s0.2.2.2)++[x0]))))
 else (some (.inr (s0.1,s0.2.1,s0.2.2.1)))
noncomputable def Hl (p0:Ag) (p1:Aa):Option Ag :=
 jn (fun (s3:(List Ab) × (List (Aa × Int)) × (List (Aa × Bool)) × (List Aa))=>
 jn (fun (s0:(List Ab) × (List (Aa × Int)) × (List (Aa × Bool)))=>
 gd ((-9223372036854775808<=p1.a0/\p1.a0<=9223372036854775807)/\(-9223372036854775808<=p1.a1/\p1.a1<=9223372036854775807)) <|
 gd ((s0.2.2).length < 9223372036854775807) <|
 some (⟨s0.1,s0.2.1,mput s0.2.2 p1 true⟩:Ag))
 (fun j0=>bnd (lfix (Bx p1) (s3.1,s3.2.1,s3.2.2.1,s3.2.2.2)) fun t0=>
 j0 t0))
 (fun j3=>bnd (Fg p0) fun r2=>
 bnd (lfix (Gz r2 p1) (([]:List Aa),0)) fun t1=>
 j3 t1)
noncomputable def Mk (p0:List Ab):Option (List Ab):=gd (p0.length*32<=140737488355328) <| some p0
set_option maxRecDepth 100000 in
theorem Zh (p0:List Ab) {K:List Ent} {A0_0:Option Addr} {c0_0:Nat} (ha0:Has K A0_0 p0.length c0_0 4 Ah p0) {r:List Ab} (hx:Mk p0=some r) (w:World) (hK:∀ e∈K,Ent.ok w e) :
  CtL Tryz.prog 93 [.slice A0_0 p0.length c0_0] w (fun v Ln=>∃ (A0:Option Addr) (c0:Nat),v = .slice A0 r.length c0/\Ln=[.r A0 r.length c0 70 4 (r.flatMap Ah)]/\True):=by
 obtain ⟨hb,hx⟩:=Dr hx;obtain rfl:=Option.some.inj hx;have ha:Has [.old w] A0_0 p0.length c0_0 4 Ah p0:=Has.low (E:=[]) (by rw[List.append_nil];exact ha0) hK;refine CtL.mk 8 Tryz.func93 rfl Tryz.ntmps93 (by kernel_rfl) rfl ?_;show T 8 _ [(0,.slice A0_0 p0.length c0_0)] _;refine Y9 ?_;refine Ba (Aps Tryz.underlying22 rfl rfl) rfl ?_;refine Y2 ?_
 cases hA:A0_0 with
 | none=>
  subst hA
  have h0:p0=[]:=by
   cases p0 with
   | nil=>rfl
   | cons x r=>obtain ⟨b,o,h,_⟩:=ha.at_ (by simp);cases h
  subst h0;refine Y8 ?_;refine Az 70 4 ?_;exact Hc (rs:=[.tmp 2]) Tryz.results93 (.tmp rfl .nil) (Ln:=[.r none 0 0 70 4 []]) ⟨none,0,rfl,rfl,trivial⟩ (By rfl Gn) (.pick 0 rfl (.pick 0 rfl .refl))
 | some a=>
  subst hA;refine Y5 ?_;refine T_x (Di rfl (Akt) rfl (fun g5=>?_));refine Y ?_;refine T_mr (enc:=Ah) (sz:=4) (([]:List Ab)) (.here) rfl rfl (fun _=>rfl) (by decide) ?_;refine T_h (Al0 Ah ([]:List Ab) p0 rfl rfl Axj (fun _=>rfl) ha (sb 1) (fun _=>rfl) (by rw[List.length_nil,Nat.zero_add];exact hb) rfl (fun _ _=>.here) (by decide) (fun A1 c1=>?_));refine Y4 ?_;exact Hc (rs:=[.tmp 2]) Tryz.results93 (.tmp rfl .nil) (Ln:=[.r A1 p0.length c1 70 4 (p0.flatMap Ah)]) ⟨A1,c1,rfl,rfl,trivial⟩ (By rfl Gn) (.pick 0 rfl (.pick 0 rfl .refl))
instance (p0:List Ab):Con (Mk p0) Tryz.prog 93 (fun K vs=>∃ (A0_0:Option Addr) (c0_0:Nat),vs=[.slice A0_0 p0.length c0_0]/\Has K A0_0 p0.length c0_0 4 Ah p0/\True) (fun _ r=>fun v Ln=>∃ (A0:Option Addr) (c0:Nat),v = .slice A0 (r).length c0/\Ln=[.r A0 (r).length c0 70 4 ((r).flatMap Ah)]/\True):=⟨by rintro K _ r ⟨A,c,rfl,ha,-⟩ hx w hK;exact Zh p0 ha hx w hK⟩

structure Bj where
 V:List Ab
 T:List Ae
 Lines:List Aa
noncomputable def Oy (r0:List Aa):((List Ab) × (List (Aa × Int)) × (List (Aa × Bool)) × Int)->Option (Sum ((List Ab) × (List (Aa × Int)) × (List (Aa × Bool)) × Int) ((List Ab) × (List (Aa × Int)) × (List (Aa × Bool)))):=fun s0=>
 if s0.2.2.2 < ((((r0).length:Nat):Int)) then (bnd (idx r0 s0.2.2.2) fun x0=>
 bnd (Hl (⟨s0.1,s0.2.1,s0.2.2.1⟩:Ag) x0) fun r1=>
 some (.inl (r1.v,r1.apex,r1.fixed,w64 (s0.2.2.2+1))))
 else (some (.inr (s0.1,s0.2.1,s0.2.2.1)))
noncomputable def Lm (p0:List Ab) (p1:List Aa):Option (Bj × Int) :=
 bnd (Pn p0) fun r2=>
 if r2=0 then (bnd (Ni p0 p1) fun r8=>
 if r8=0 then (bnd (Ry p1) fun r0=>
 bnd (Rk p0) fun r1=>
 bnd (Kf (⟨p0,([]:List (Aa × Int)),([]:List (Aa × Bool))⟩:Ag) r1) fun r3=>
 jn (fun (s0:(List Ab) × (List (Aa × Int)) × (List (Aa × Bool)))=>
 bnd (Mk p0) fun r4=>
 bnd (Eg (⟨s0.1,s0.2.1,s0.2.2⟩:Ag)) fun r5=>
 some ((⟨r4,r5.2,r0⟩:Bj),0))
 (fun j0=>if 0 < (((r3.apex).length:Int)) then (jn (fun (s1:(List Ab) × (List (Aa × Int)) × (List (Aa × Bool)))=>
 bnd (Iv (⟨s1.1,s1.2.1,s1.2.2⟩:Ag)) fun r6=>
 j0 (r6.v,r6.apex,r6.fixed))
 (fun j1=>bnd (lfix (Oy r0) (r3.v,r3.apex,r3.fixed,0)) fun t0=>
 j1 t0))
 else (j0 (r3.v,r3.apex,r3.fixed))))
 else (some ((⟨([]:List Ab),([]:List Ae),([]:List Aa)⟩:Bj),r8)))
 else (some ((⟨([]:List Ab),([]:List Ae),([]:List Aa)⟩:Bj),r2))
set_option maxHeartbeats 1000000 in
set_option maxRecDepth 100000 in
instance mesh_builder_sweep_c (p0:Ag) (p1:List Int):ConK (Kf p0 p1) Tryz.prog 104 (fun g0_0 gm0_0 gm0_1 A0_0 c0_0 A0_1 c0_1 vs Lp=>vs=[.pointer (some ⟨g0_0,0,none⟩),.slice (A0_1) ((p1).length) (c0_1)]/\Lp=[.m g0_0 165 [.slice (A0_0) ((p0.v).length) (c0_0),.map (some gm0_0),.map (some gm0_1)],Aw Tryz.prog 62 Af Ca gm0_0 (p0.apex),Aw Tryz.prog 62 Af Bh gm0_1 (p0.fixed)]/\True) (fun A0_0 c0_0 A0_1 c0_1 K K2=>Has K A0_0 (p0.v).length c0_0 4 Ah (p0.v)/\Has K2 A0_1 (p1).length c0_1 1 Aq (p1)/\True) (fun g0_0 gm0_0 gm0_1 A0_0 c0_0 A0_1 c0_1 K r=>fun v Ln=>∃ (A0:Option Addr) (c0:Nat),v = .tuple #[]/\Ln=[.m g0_0 165 [.slice (A0) ((r.v).length) (c0),.map (some gm0_0),.map (some gm0_1)],Aw Tryz.prog 62 Af Ca gm0_0 (r.apex),Aw Tryz.prog 62 Af Bh gm0_1 (r.fixed)]/\Has K A0 (r.v).length c0 4 Ah (r.v)/\True):=⟨by
 rintro g0_0 gm0_0 gm0_1 A0_0 c0_0 A0_1 c0_1 K K2 _ _ r ⟨rfl,rfl,-⟩ ⟨ha0,ha1,-⟩ hx;unfold Kf at hx;have:=dl 1 [0,0,0,0,0,0,0,0,1,2,0,0,0,1,2,0,0,0,0,1,2,2,0,0] [0,1,2,3,4,5,6,7,8,10,11,12,13,15,16,17,18,19,9,14,20,21,22,23];have:=dl 7 [0,0,0,0,1,2,0,0,0,0,0,1,2,0,0,0,0,1,2,2,0] [0,1,2,3,4,6,7,8,9,10,11,13,14,15,16,17,5,12,18,19,20];have:=dl 8 [0,0,0,0,1,0,0,0,0,1,0,0,0,1,3] [0,1,2,3,4,5,6,7,8,9,10,11,12,13,14];have:=dl 9 [0,0,0,0,0,1,0,0,0,1,0,0,0,1,3] [0,1,2,3,4,5,6,7,8,9,10,11,12,13,14];have:=dl 16 [0,0,1,2,0,0,1,2,0,0,2,2,0] [0,1,2,4,5,6,8,9,3,7,10,11,12];refine CtSK Tryz.ntmps104 Tryz.results104 ?_;intro Lf hKf;have hKg:=hKf.r;replace hKf:=hKf.l;refine Vz ?_;try (refine pre ?_;intros;rename_i hx)
 refine Bn ?_;try (refine pre ?_;intros;rename_i hx)
 apply Jr (γ:=Unit) hx [0,1] (fun s2 y2 f=>(4,.int .i64 (s2))::f) [0,1,2,1003] (fun s2 y2 l=>l);exact kk
 ·intro s2 y2 hx;try (refine pre ?_;intros;rename_i hx)
  refine Cq1e (s:=39) hx rfl cQ (fun _ hx=>?_) (fun _ hx=>?_)
  ·exact au
  ·try (refine pre ?_;intros;rename_i hx)
   apply JrG (γ:=(Option Addr) × Nat) hx [0,1,4] (fun s9 y9 f=>f) [1003] (fun s9 y9 l=>.m g0_0 165 [.slice (y9.1) ((s9.1).length) (y9.2),.map (some gm0_0),.map (some gm0_1)]::Aw Tryz.prog 62 Af Ca gm0_0 (s9.2.1)::Aw Tryz.prog 62 Af Bh gm0_1 (s9.2.2)::l) (fun s9 y9=>Has K (y9.1) ((s9.1).length) (y9.2) 4 Ah (s9.1)/\True);exact kk
   ·intro s9 y9 hx hG;obtain ⟨_,-⟩:=hG;try (refine pre ?_;intros;rename_i hx)
    apply LrG (γ:=(Option Addr) × Nat × (Option Addr) × Nat) hx [0,101] (fun s0 y0 f=>(100,.slice (y0.2.2.1) ((s0.2.2.2.1).length) (y0.2.2.2))::(102,.int .i64 (s0.2.2.2.2))::f) [1003] (fun s0 y0 l=>.m g0_0 165 [.slice (y0.1) ((s0.1).length) (y0.2.1),.map (some gm0_0),.map (some gm0_1)]::Aw Tryz.prog 62 Af Ca gm0_0 (s0.2.1)::Aw Tryz.prog 62 Af Bh gm0_1 (s0.2.2.1)::l) (fun s0 y0=>Has K (y0.1) ((s0.1).length) (y0.2.1) 4 Ah (s0.1)/\Has K2 (y0.2.2.1) ((s0.2.2.2.1).length) (y0.2.2.2) 1 Aq (s0.2.2.2.1)/\True) (_,_,_,_);exact kk;exact sF2;exact gG;exact pK2;intro s0 y0 x0 hx _ hG;obtain ⟨_,_,-⟩:=hG;unfold Ja at hx
    try (refine pre ?_;intros;rename_i hx)
    refine Cq1e (s:=103) hx rfl cQ (fun _ hx=>?_) (fun _ hx=>?_)
    ·try (refine pre ?_;intros;rename_i hx)
     apply JrG (γ:=(Option Addr) × Nat) hx [0,100,101,102] (fun s1 y1 f=>f) [1003] (fun s1 y1 l=>.m g0_0 165 [.slice (y1.1) ((s1.1).length) (y1.2),.map (some gm0_0),.map (some gm0_1)]::Aw Tryz.prog 62 Af Ca gm0_0 (s1.2.1)::Aw Tryz.prog 62 Af Bh gm0_1 (s1.2.2)::l) (fun s1 y1=>Has K (y1.1) ((s1.1).length) (y1.2) 4 Ah (s1.1)/\True);exact kk
     ·intro s1 y1 hx hG;obtain ⟨_,-⟩:=hG;exact au
     ·intro _ hx;try (refine pre ?_;intros;rename_i hx)
      apply LrG (γ:=(Option Addr) × Nat) hx [0,7,100,101,102,107,108] (fun s3 y3 f=>(109,.int .i64 (s3.2.2.2))::f) [3,1004] (fun s3 y3 l=>.m g0_0 165 [.slice (y3.1) ((s3.1).length) (y3.2),.map (some gm0_0),.map (some gm0_1)]::Aw Tryz.prog 62 Af Ca gm0_0 (s3.2.1)::Aw Tryz.prog 62 Af Bh gm0_1 (s3.2.2.1)::l) (fun s3 y3=>Has K (y3.1) ((s3.1).length) (y3.2) 4 Ah (s3.1)/\True) (_,_);exact kk;exact sF2;exact gG;exact pK2;intro s3 y3 x1 hx _ hG;obtain ⟨_,-⟩:=hG;unfold Df at hx
      exact au
    ·exact au
   ·intro _ hx;try (refine pre ?_;intros;rename_i hx)
    apply LrG (γ:=(Option Addr) × Nat) hx [0,1,4] (fun s4 y4 f=>(5,.int .i64 (s4.2.2.2))::f) [1003] (fun s4 y4 l=>.m g0_0 165 [.slice (y4.1) ((s4.1).length) (y4.2),.map (some gm0_0),.map (some gm0_1)]::Aw Tryz.prog 62 Af Ca gm0_0 (s4.2.1)::Aw Tryz.prog 62 Af Bh gm0_1 (s4.2.2.1)::l) (fun s4 y4=>Has K (y4.1) ((s4.1).length) (y4.2) 4 Ah (s4.1)/\True) (_,_);exact kk;exact sF2;exact gG;exact pK2;intro s4 y4 x2 hx _ hG;obtain ⟨_,-⟩:=hG;unfold Et at hx
    try (refine pre ?_;intros;rename_i hx)
    refine Cq1e (s:=43) hx rfl cQ (fun _ hx=>?_) (fun _ hx=>?_)
    ·exact au
    ·exact au
 ·intro _ hx;try (refine pre ?_;intros;rename_i hx)
  apply Lr (γ:=Unit) hx [0,1] (fun s5 y5 f=>(4,.int .i64 (s5))::f) [0,1,2,1003] (fun s5 y5 l=>l) ();exact kk;exact sk;intro s5 y5 x3 hx _;unfold Gy at hx
  exact au⟩
set_option maxHeartbeats 1000000 in
set_option maxRecDepth 100000 in
instance mesh_builder_settle_c (p0:Ag):ConK (Iv p0) Tryz.prog 107 (fun g0_0 gm0_0 gm0_1 A0_0 c0_0 ua0 uc0 vs Lp=>vs=[.pointer (some ⟨g0_0,0,none⟩)]/\Lp=[.m g0_0 165 [.slice (A0_0) ((p0.v).length) (c0_0),.map (some gm0_0),.map (some gm0_1)],Aw Tryz.prog 62 Af Ca gm0_0 (p0.apex),Aw Tryz.prog 62 Af Bh gm0_1 (p0.fixed)]/\ua0=none/\uc0=0/\True) (fun A0_0 c0_0 ua0 uc0 K K2=>Has K A0_0 (p0.v).length c0_0 4 Ah (p0.v)/\True) (fun g0_0 gm0_0 gm0_1 A0_0 c0_0 ua0 uc0 K r=>fun v Ln=>∃ (A0:Option Addr) (c0:Nat),v = .tuple #[]/\Ln=[.m g0_0 165 [.slice (A0) ((r.v).length) (c0),.map (some gm0_0),.map (some gm0_1)],Aw Tryz.prog 62 Af Ca gm0_0 (r.apex),Aw Tryz.prog 62 Af Bh gm0_1 (r.fixed)]/\Has K A0 (r.v).length c0 4 Ah (r.v)/\True):=⟨by
 rintro g0_0 gm0_0 gm0_1 A0_0 c0_0 _ _ K K2 _ _ r ⟨rfl,rfl,rfl,rfl,-⟩ ⟨ha0,-⟩ hx;unfold Iv at hx;have:=dl 4 [0,0,0,1,1,1,0,0,0,2,2] [0,1,2,3,4,5,6,7,8,9,10];have:=dl 5 [0,0,0,1,0,1,0,1,0,1,0,0,0,2,2] [0,1,2,3,4,5,6,7,8,9,10,11,12,13,14];have:=dl 6 [0,0,0,0,0,0,0,0,0,0,1,1,1,0,0,0,0,1,2,0,0,1,2,0,0,2,0,0,2,2,0] [0,1,2,3,4,5,6,7,8,9,10,11,12,13,14,15,16,17,19,20,21,23,24,26,27,18,22,25,28,29,30];have:=dl 8 [0,0,1,0,2,0,0,1,2,0,1,0,2,0,0,1,2,2,3,2] [0,1,2,3,5,6,7,9,10,11,13,14,15,4,8,12,16,17,18,19];refine CtSK Tryz.ntmps107 Tryz.results107 ?_;intro Lf hKf;have hKg:=hKf.r;replace hKf:=hKf.l;refine Vz ?_;try (refine pre ?_;intros;rename_i hx)
 apply LrG (γ:=(Option Addr) × Nat × (Option Addr) × Nat) hx [0] (fun s0 y0 f=>(2,.slice (y0.2.2.1) ((s0.2.2.2).length) (y0.2.2.2))::f) [1004] (fun s0 y0 l=>.m g0_0 165 [.slice (y0.1) ((s0.1).length) (y0.2.1),.map (some gm0_0),.map (some gm0_1)]::Aw Tryz.prog 62 Af Ca gm0_0 (s0.2.1)::Aw Tryz.prog 62 Af Bh gm0_1 (s0.2.2.1) :: .r (y0.2.2.1) ((s0.2.2.2).length) (y0.2.2.2) 62 2 ((s0.2.2.2).flatMap Ak)::l) (fun s0 y0=>Has K (y0.1) ((s0.1).length) (y0.2.1) 4 Ah (s0.1)/\True) (_,_,_,_);exact kk;exact sF2;exact gG;exact pK2;intro s0 y0 x0 hx _ hG;obtain ⟨_,-⟩:=hG;unfold Dg at hx
 try (refine pre ?_;intros;rename_i hx)
 refine Cq1e (s:=12) hx rfl cQ (fun _ hx=>?_) (fun _ hx=>?_)
 ·try (refine pre ?_;intros;rename_i hx)
  refine Bn ?_;try (refine pre ?_;intros;rename_i hx)
  apply Jr (γ:=(Option Addr) × Nat) hx [0,3,4,6] (fun s1 y1 f=>(2,.slice (y1.1) ((s1.1).length) (y1.2))::(76,.bool (s1.2))::f) [0,1,2,3,1005] (fun s1 y1 l=>.r (y1.1) ((s1.1).length) (y1.2) 62 2 ((s1.1).flatMap Ak)::l);exact kk
  ·intro s1 y1 hx;exact au
  ·intro _ hx;try (refine pre ?_;intros;rename_i hx)
   refine (Cb4 (s:=48) hx rfl (fun _ hx=>?_) (fun _ hx=>?_)) ⟨_,_,rfl,rfl⟩
   ·try (refine pre ?_;intros;rename_i hx)
    (with_reducible apply Th 2);exact rfl;exact aT;(with_reducible assumption);exact rfl;exact (fun _=>rfl);exact sA
    exact au
   ·try (refine pre ?_;intros;rename_i hx)
    refine (Cb4 (s:=52) hx rfl (fun _ hx=>?_) (fun _ hx=>?_)) ⟨_,_,rfl,rfl⟩
    ·try (refine pre ?_;intros;rename_i hx)
     (with_reducible apply Th 2);exact rfl;exact aT;(with_reducible assumption);exact rfl;exact (fun _=>rfl);exact sA
     exact au
    ·try (refine pre ?_;intros;rename_i hx)
     refine (Cb3 (s:=60) hx rfl (fun _ hx=>?_) (fun _ hx=>?_)) ⟨_,_,rfl,rfl⟩
     ·try (refine pre ?_;intros;rename_i hx)
      (with_reducible apply Th 2);exact rfl;exact aT;(with_reducible assumption);exact rfl;exact (fun _=>rfl);exact sA
      exact au
     ·try (refine pre ?_;intros;rename_i hx)
      (with_reducible apply Th 2);exact rfl;exact aT;(with_reducible assumption);exact rfl;exact (fun _=>rfl);exact sA
      exact au
 ·exact au⟩
set_option maxRecDepth 100000 in
theorem Xa (p0:Ag) (p1:Aa) {g0_0:Nat} {gm0_0:Nat} {gm0_1:Nat} {K:List Ent} {A0_0:Option Addr} {c0_0:Nat} (ha0:Has K A0_0 p0.v.length c0_0 4 Ah (p0.v)) {r:Ag} (hx:Hl p0 p1=some r):CtK Tryz.prog 106 [.pointer (some ⟨g0_0,0,none⟩),.agg #[.int .i64 (p1.a0),.int .i64 (p1.a1)]] K [.m g0_0 165 [.slice (A0_0) (p0.v.length) (c0_0),.map (some gm0_0),.map (some gm0_1)],Aw Tryz.prog 62 Af Ca gm0_0 (p0.apex),Aw Tryz.prog 62 Af Bh gm0_1 (p0.fixed)] fun v Ln=>∃ (A0:Option Addr) (c0:Nat),v = .tuple #[]/\Ln=[.m g0_0 165 [.slice (A0) (r.v.length) (c0),.map (some gm0_0),.map (some gm0_1)],Aw Tryz.prog 62 Af Ca gm0_0 (r.apex),Aw Tryz.prog 62 Af Bh gm0_1 (r.fixed)]/\Has (K++[]) A0 r.v.length c0 4 Ah (r.v)/\True:=by
 have ha0':=Has.up0 ha0;refine CtK.mk 84 Tryz.func106 rfl Tryz.ntmps106 (by kernel_rfl) rfl ?_;intro Lf hKf;show T 84 _ [(0,.pointer (some ⟨g0_0,0,none⟩)),(1,.agg #[.int .i64 (p1.a0),.int .i64 (p1.a1)])] ([.m g0_0 165 [.slice (A0_0) (p0.v.length) (c0_0),.map (some gm0_0),.map (some gm0_1)],Aw Tryz.prog 62 Af Ca gm0_0 (p0.apex),Aw Tryz.prog 62 Af Bh gm0_1 (p0.fixed)]++Lf);unfold Hl at hx;refine Y2 ?_;refine T_x (Ui rfl rfl rfl (fun g1=>?_));refine Y7 ?_;obtain ⟨j3,hj3,hx⟩:=Abi hx;refine Xs (τ:=(List Ab) × (List (Aa × Int)) × (List (Aa × Bool)) × (List Aa)) (γ:=(Option Addr) × Nat × (Option Addr) × Nat) (J:=j3) (out:=r) (fun s3 y3=>[(0,.pointer (some ⟨g0_0,0,none⟩)),(3,.pointer (some ⟨g1,0,none⟩)),(4,.slice (y3.2.2.1) (s3.2.2.2.length) (y3.2.2.2))]) (fun s3 y3=>[.r (y3.2.2.1) (s3.2.2.2.length) (y3.2.2.2) 62 2 (s3.2.2.2.flatMap Ak),.m g0_0 165 [.slice (y3.1) (s3.1.length) (y3.2.1),.map (some gm0_0),.map (some gm0_1)],Aw Tryz.prog 62 Af Ca gm0_0 (s3.2.1),Aw Tryz.prog 62 Af Bh gm0_1 (s3.2.2.1),.m g1 62 [.int .i64 (p1.a0),.int .i64 (p1.a1)]]++Lf) (fun s3 y3=>Has (K++[]) (y3.1) (s3.1.length) (y3.2.1) 4 Ah (s3.1)/\True) ?_ ?_
 ·intro s3 y3 hx0 hG0;obtain ⟨hs0,-⟩:=hG0;subst hj3;obtain ⟨j0,hj0,hx0⟩:=Abi hx0;refine Xs (τ:=(List Ab) × (List (Aa × Int)) × (List (Aa × Bool))) (γ:=(Option Addr) × Nat) (J:=j0) (out:=r) (fun s0 y0=>[(0,.pointer (some ⟨g0_0,0,none⟩)),(3,.pointer (some ⟨g1,0,none⟩))]) (fun s0 y0=>[.m g0_0 165 [.slice (y0.1) (s0.1.length) (y0.2),.map (some gm0_0),.map (some gm0_1)],Aw Tryz.prog 62 Af Ca gm0_0 (s0.2.1),Aw Tryz.prog 62 Af Bh gm0_1 (s0.2.2),.m g1 62 [.int .i64 (p1.a0),.int .i64 (p1.a1)]]++Lf) (fun s0 y0=>Has (K++[]) (y0.1) (s0.1.length) (y0.2) 4 Ah (s0.1)/\True) ?_ ?_
  ·intro s0 y0 hx1 hG1;obtain ⟨hs1,-⟩:=hG1;subst hj0;refine T_dr [0,0,0,1,1,3] (.q 0 (.q 1 (.q 2 (.q 3 (.q 4 (.e 5 (.done) (.stop))))))) mixed (by kernel_rfl) (by kernel_rfl) ?_;refine Y2 ?_;refine P_p rfl rfl (Cs rfl Aks rfl) rfl ?_;refine P_q rfl rfl (Bf rfl (i:=0) rfl rfl Aty) rfl ?_;refine P_q rfl rfl (Ew rfl (i:=3) rfl rfl Re) rfl ?_;obtain ⟨h0,hx2⟩:=Dr hx1;obtain ⟨h1,hx3⟩:=Dr hx2;refine P_h rfl rfl (Aes (x:=p1) (y:=true) Wt Cv Tryz.underlying106 rfl rfl rfl rfl rfl (.there (.there (.here))) (Agr p1 h0) h1 ?_) ?_;rotate_left;exact Ct;refine Y ?_;obtain rfl:=Option.some.inj hx3;exact Asb (rs:=[]) Tryz.results106 (.nil) (Ln:=[.m g0_0 165 [.slice (y0.1) (s0.1.length) (y0.2),.map (some gm0_0),.map (some gm0_1)],Aw Tryz.prog 62 Af Ca gm0_0 (s0.2.1),Aw Tryz.prog 62 Af Bh gm0_1 (mput s0.2.2 p1 true)]) ⟨y0.1,y0.2,rfl,rfl,Has.len' hs1,trivial⟩ (by exact .pick 0 rfl (.pick 0 rfl (.pick 0 rfl (.drop 0 rfl (.refl)))))
  ·skip;refine Y ?_;refine Bbt (.here) ?_;obtain ⟨t0,hl0,ho0⟩:=Ar hx0;refine Lp (σ:=(List Ab) × (List (Aa × Int)) × (List (Aa × Bool)) × (List Aa)) (γ:=(Option Addr) × Nat × (Option Addr) × Nat) hl0 (fun s1 y1=>[(0,.pointer (some ⟨g0_0,0,none⟩)),(3,.pointer (some ⟨g1,0,none⟩)),(4,.slice (y1.2.2.1) (s1.2.2.2.length) (y1.2.2.2))]) (fun s1 y1=>[qw (y1.2.2.1) (s1.2.2.2.length) (y1.2.2.2) 62 2 (s1.2.2.2.flatMap Ak),.m g0_0 165 [.slice (y1.1) (s1.1.length) (y1.2.1),.map (some gm0_0),.map (some gm0_1)],Aw Tryz.prog 62 Af Ca gm0_0 (s1.2.1),Aw Tryz.prog 62 Af Bh gm0_1 (s1.2.2.1),.m g1 62 [.int .i64 (p1.a0),.int .i64 (p1.a1)]]++Lf) (fun s1 y1=>Has (K++[]) (y1.1) (s1.1.length) (y1.2.1) 4 Ah (s1.1)/\True) (y3.1,y3.2.1,y3.2.2.1,y3.2.2.2) ((by exact ⟨Has.len' hs0,trivial⟩)) (by exact .pick 0 rfl (.pick 0 rfl (.pick 0 rfl (.pick 0 rfl (.pick 0 rfl (.refl)))))) ?_;intro s1 y1 hG2 x0 hx5 ht0;unfold Bx at hx5;obtain ⟨hs2,-⟩:=hG2;refine Y4 ?_;refine Ba (Jq rfl 62 Tryz.underlying23) rfl ?_;refine Y3 ?_;refine Ti hx5 (s:=32) rfl (fun h2 hx6=>?_) (fun h2 hx7=>?_)
   ·refine Y7 ?_;obtain ⟨x1,h4,hx8⟩:=Ar hx6;refine At7 (k:=0) rfl (by decide) (fun _=>rfl) (fun hn0 hs3=>?_);obtain ⟨b0,o0,j1,hA0,hj1,hl1,hp0⟩:=Has.at_idx hs3 h4;refine Ba (Fw rfl rfl hA0 (j:=j1) hj1 hl1 Anf) rfl ?_;refine Ba (Sv rfl hp0 (sb 0) rfl Re) rfl ?_;refine T_x (Kz Ady rfl (fun g0=>?_));refine T_h (Fm rfl rfl rfl (.here) (.put (.put (.done))) rfl (List.cons_ne_nil _ _) Re.2 ?_);refine Y5 ?_;refine At7 (k:=1) rfl (by decide) (fun _=>rfl) (fun hn1 hs4=>?_);obtain ⟨h5,hx9⟩:=Dr hx8;refine At8 (q:=Int.toNat 1) (.there (.here)) (by omega) (by decide) (fun _=>rfl) ?_;refine Ba (Aid rfl rfl Anf h5.1 h5.2) rfl ?_;refine Y4 ?_;refine T_dr [0,0,0,1,1,1,0,0,0,1,0,1,0,1,0,1,2,2] (.q 0 (.q 1 (.q 2 (.q 3 (.q 4 (.q 5 (.q 6 (.q 7 (.q 8 (.q 9 (.q 10 (.q 11 (.q 12 (.q 13 (.q 14 (.q 15 (.e 16 (.e 17 (.done) (.stop)) (.stop)))))))))))))))))) mixed (by kernel_rfl) (by kernel_rfl) ?_;refine Y2 ?_;refine P_p rfl rfl (Cs rfl Rs rfl) rfl ?_;refine P_q rfl rfl (Bf rfl (i:=2) rfl rfl Acl) rfl ?_;refine P_q rfl rfl (Ew rfl (i:=0) rfl rfl Re) rfl ?_;obtain ⟨h6,hx10⟩:=Dr hx9;obtain ⟨x2,h7,hx11⟩:=Ar hx10;refine P_q rfl rfl (Aer (x:=x1) (i:=3) (vv:=.int .i64 (x2)) Wt Tryz.underlying64 (fun w=>by kernel_rfl) Cv rfl rfl rfl rfl Rt (Agr x1 h6) h7 rfl) rfl ?_
    refine Y2 ?_;refine P_p rfl rfl (Cs rfl Rs rfl) rfl ?_;refine P_q rfl rfl (Bf rfl (i:=2) rfl rfl Acl) rfl ?_;refine P_p rfl rfl (Db rfl rfl Qd (by decide) (by decide) rfl) rfl ?_;refine P_q rfl rfl (Bf rfl (i:=0) rfl rfl one3) rfl ?_;refine P_p rfl rfl (Db rfl rfl Qd (by decide) (by decide) rfl) rfl ?_;refine P_q rfl rfl (Bf rfl (i:=0) rfl rfl one3) rfl ?_;refine P_p rfl rfl (Js rfl (Og _ _)) rfl ?_;obtain ⟨h8,hx12⟩:=Dr hx11;obtain ⟨x3,h9,hx13⟩:=Ar hx12;refine P_q rfl rfl (Aer (x:=(⟨x1.a1,x1.a0⟩:Aa)) (i:=3) (vv:=.int .i64 (x3)) Wt Tryz.underlying64 (fun w=>by kernel_rfl) Cv rfl rfl rfl rfl Rt (Agr ((⟨x1.a1,x1.a0⟩:Aa)) h8) h9 rfl) rfl ?_;refine P_x rfl (Pk (Fi rfl) rfl ?_) ?_;rotate_left;exact Ct;refine P_x rfl (Pk (Fi rfl) rfl ?_) ?_;rotate_left;exact Ct;refine Y6 ?_;refine Ba (Db rfl rfl Qd (by decide) (by decide) rfl) rfl ?_;refine Ba (Bf rfl (i:=0) rfl rfl one3) rfl ?_;refine Ba (Db rfl rfl Qd (by decide) (by decide) rfl) rfl ?_;refine Ba (Bf rfl (i:=0) rfl rfl one3) rfl ?_;obtain ⟨r0,h10,hx14⟩:=Ar hx13;refine T_h (Aew rfl (by exact .pick 2 rfl (.pick 2 rfl (.pick 2 rfl (.refl)))) (by exact (SubE.appC (SubE.tail (SubE.tail (SubE.tail (hKf)))) (SubE.nil))) (Xe (⟨s1.1,s1.2.1,s1.2.2.1⟩:Ag) x1.a0 x1.a1 (Has.len' hs2) h10 (K:=(K++[]))) rfl ?_)
    rintro _ _ ⟨A1,c1,rfl,rfl,hs5,-⟩;refine Vz ?_;have hs6:Has (K++[]) _ _ _ _ _ _:=Has.assoc hs5;refine Y3 ?_;refine Abf (s:=60) rfl (fun h11=>?_) (fun h11=>?_)
    ·have hx15:=Mg h11 hx14;refine Y4 ?_;refine Ba (Ew rfl (i:=3) rfl rfl Re) rfl ?_;refine T_x (Di rfl (Jp _ _) rfl (fun g2=>?_));obtain ⟨h12,hx16⟩:=Dr hx15;refine T_h (Afx Ak (List.drop (Int.toNat 1) s1.2.2.2) [x1] rfl rfl rfl Ag7 (fun _=>rfl) (i':=0) rfl rfl rfl rfl h12 rfl (fun _ _=>.there (.there (.there (.there (.there (.here)))))) (fun _ _=>.drop .refl) (by decide) (fun A2 c2=>?_));refine Y6 ?_;exact Rp (r0.1.v,r0.1.apex,r0.1.fixed,(List.drop (Int.toNat 1) s1.2.2.2)++[x1]) (A1,c1,A2,c2) hx16 ((by exact ⟨Has.len' hs6,trivial⟩)) (by exact .pick 4 rfl (.pick 0 rfl (.pick 0 rfl (.pick 0 rfl (.pick 1 rfl (.drop 0 rfl (.refl)))))))
    ·have hx17:=Jx h11 hx14;refine Y7 ?_;obtain ⟨r1,h13,hx18⟩:=Ar hx17;refine Tc (fun w1 hw1=>Aau x2 x3  h13 w1) ?_;refine T_x (Kz Ady rfl (fun g3=>?_));refine T_h (Fm rfl rfl rfl (.here) (.put (.put (.done))) rfl (List.cons_ne_nil _ _) Re.2 ?_);refine Y3 ?_;refine T_dr [0,0,0,1,1,1,2] (.q 0 (.q 1 (.q 2 (.q 3 (.q 4 (.q 5 (.e 6 (.done) (.stop)))))))) mixed (by kernel_rfl) (by kernel_rfl) ?_;refine Y2 ?_;refine P_p rfl rfl (Cs rfl Ad6 rfl) rfl ?_;refine P_q rfl rfl (Bf rfl (i:=1) rfl rfl Acp) rfl ?_;refine P_q rfl rfl (Ew rfl (i:=6) rfl rfl Re) rfl ?_;refine P_q rfl rfl (Ew rfl (i:=0) rfl rfl Re) rfl ?_;obtain ⟨r3,h14,hx19⟩:=Ar hx18;refine Pc (fun w1 hw1=>Uw r0.1.v p1 r1 (Has.len' hs6) h14 w1 (An8 (K:=(K++[])) (by exact (SubE.appC (SubE.tail (SubE.tail (SubE.tail (SubE.tail (SubE.tail (SubE.tail (SubE.tail (hKf)))))))) (SubE.nil))) hw1)) ?_;refine Y2 ?_;refine Hr (s:=74) rfl (fun h15=>?_) (fun h15=>?_)
     ·have hx20:=Jx h15 hx19;refine Y3 ?_;refine Ba (Ew rfl (i:=0) rfl rfl Re) rfl ?_;refine T_x (Di rfl (Jp _ _) rfl (fun g4=>?_));obtain ⟨h16,hx21⟩:=Dr hx20;refine T_h (Afx Ak (List.drop (Int.toNat 1) s1.2.2.2) [r1] rfl rfl rfl Ag7 (fun _=>rfl) (i':=0) rfl rfl rfl rfl h16 rfl (fun _ _=>.there (.there (.there (.there (.there (.there (.here))))))) (fun _ _=>.drop .refl) (by decide) (fun A3 c3=>?_));refine Y3 ?_;exact Rp (r0.1.v,r0.1.apex,r0.1.fixed,(List.drop (Int.toNat 1) s1.2.2.2)++[r1]) (A1,c1,A3,c3) hx21 ((by exact ⟨Has.len' hs6,trivial⟩)) (by exact .pick 5 rfl (.pick 1 rfl (.pick 1 rfl (.pick 1 rfl (.pick 2 rfl (.drop 0 rfl (.drop 0 rfl (.refl))))))))
     ·have hx22:=Mg h15 hx19;refine Y3 ?_;have hn2:(s1.2.2.2.length)-Int.toNat 1=(List.drop (Int.toNat 1) s1.2.2.2).length:=List.length_drop.symm;refine Rv (.there (.there (.there (.there (.there (.here)))))) (e':=qw (slA (y1.2.2.1) (y1.2.2.2) (Int.toNat 1) 2) ((List.drop (Int.toNat 1) s1.2.2.2).length) (y1.2.2.2-Int.toNat 1) 62 2 ((List.drop (Int.toNat 1) s1.2.2.2).flatMap Ak)) (by first | (rw[<- hn2];done) | rfl) ?_;refine Aca (s:=4) (v':=.slice (slA (y1.2.2.1) (y1.2.2.2) (Int.toNat 1) 2) ((List.drop (Int.toNat 1) s1.2.2.2).length) (y1.2.2.2-Int.toNat 1)) rfl (by have hn3:((s1.2.2.2.length)-Int.toNat 1)=(List.drop (Int.toNat 1) s1.2.2.2).length:=List.length_drop.symm;first | (rw[<- hn3];done) | rfl) ?_;exact Rp (r0.1.v,r0.1.apex,r0.1.fixed,List.drop (Int.toNat 1) s1.2.2.2) (A1,c1,slA (y1.2.2.1) (y1.2.2.2) (Int.toNat 1) 2,y1.2.2.2-Int.toNat 1) hx22 ((by exact ⟨Has.len' hs6,trivial⟩)) (by exact .pick 5 rfl (.pick 1 rfl (.pick 1 rfl (.pick 1 rfl (.pick 2 rfl (.drop 0 rfl (.drop 0 rfl (.refl))))))))
   ·refine Y3 ?_;obtain rfl:=Lc ht0 hx7;refine Y2 ?_;exact Mt (s1.1,s1.2.1,s1.2.2.1) (y1.1,y1.2.1) ho0 ((by exact ⟨Has.len' hs2,trivial⟩)) (by exact .pick 1 rfl (.pick 1 rfl (.pick 1 rfl (.pick 1 rfl (.drop 0 rfl (.refl))))))
 ·skip;refine Y3 ?_;obtain ⟨r2,h3,hx4⟩:=Ar hx;refine T_h (Aew rfl (by exact .pick 1 rfl (.pick 1 rfl (.pick 1 rfl (.refl)))) (by exact (SubE.appC (SubE.tail (hKf)) (SubE.nil))) (Rf p0 (Has.len' ha0') h3 (K:=(K++[]))) rfl ?_);rintro _ _ ⟨A5,c6,A7,c8,rfl,rfl,hs9,-⟩;refine Ae1 ?_;have hs7:Has (K++[]) _ _ _ _ _ _:=Has.assoc hs9;refine Ba (Jq rfl 62 Tryz.underlying23) rfl ?_;refine Y4 ?_;obtain ⟨t1,hl2,ho1⟩:=Ar hx4;refine Az 62 2 ?_
  have hn4:0=(([]:List Aa)).length:=by simp[Ip,Pe,List.length_append] <;> omega
  refine Rv (.here) (e':=.r (none) ((([]:List Aa)).length) (0) 62 2 ((([]:List Aa)).flatMap Ak)) (by first | (rw[<- hn4];done) | rfl) ?_;refine Lp (σ:=(List Aa) × Int) (γ:=(Option Addr) × Nat) hl2 (fun s2 y2=>[(0,.pointer (some ⟨g0_0,0,none⟩)),(3,.pointer (some ⟨g1,0,none⟩)),(4,.slice (y2.1) (s2.1.length) (y2.2)),(12,.slice (A7) (r2.2.length) (c8)),(13,.int .i64 (((r2.2.length:Nat):Int))),(14,.int .i64 (s2.2))]) (fun s2 y2=>[.r (y2.1) (s2.1.length) (y2.2) 62 2 (s2.1.flatMap Ak),.m g0_0 165 [.slice (A5) (r2.1.v.length) (c6),.map (some gm0_0),.map (some gm0_1)],Aw Tryz.prog 62 Af Ca gm0_0 (r2.1.apex),Aw Tryz.prog 62 Af Bh gm0_1 (r2.1.fixed),.r (A7) (r2.2.length) (c8) 62 2 (r2.2.flatMap Ak),.m g1 62 [.int .i64 (p1.a0),.int .i64 (p1.a1)]]++Lf) (fun s2 y2=>True) (none,0) trivial (by exact .pick 0 rfl (.pick 0 rfl (.pick 0 rfl (.pick 0 rfl (.pick 0 rfl (.pick 0 rfl (.refl))))))) ?_;intro s2 y2 hG3 x4 hx41 ht1;unfold Gz at hx41;refine Y6 ?_;refine Ti hx41 (s:=15) rfl (fun h43 hx44=>?_) (fun h43 hx45=>?_)
  ·refine Y3 ?_;refine Tj (γ:=(Option Addr) × Nat) hx44 (fun s4 y4=>[(0,.pointer (some ⟨g0_0,0,none⟩)),(3,.pointer (some ⟨g1,0,none⟩)),(4,.slice (y4.1) (s4.length) (y4.2)),(12,.slice (A7) (r2.2.length) (c8)),(13,.int .i64 (((r2.2.length:Nat):Int))),(14,.int .i64 (s2.2))]) (fun s4 y4=>[.r (y4.1) (s4.length) (y4.2) 62 2 (s4.flatMap Ak),.m g0_0 165 [.slice (A5) (r2.1.v.length) (c6),.map (some gm0_0),.map (some gm0_1)],Aw Tryz.prog 62 Af Ca gm0_0 (r2.1.apex),Aw Tryz.prog 62 Af Bh gm0_1 (r2.1.fixed),.r (A7) (r2.2.length) (c8) 62 2 (r2.2.flatMap Ak),.m g1 62 [.int .i64 (p1.a0),.int .i64 (p1.a1)]]++Lf) (fun s4 y4=>True) (fun s4 y4 hx69 hG4=>?_) (fun j2 hx44=>?_)
   ·refine Y4 ?_;exact Rp (s4,w64 (s2.2+1)) (y4.1,y4.2) hx69 trivial (by exact .pick 0 rfl (.pick 0 rfl (.pick 0 rfl (.pick 0 rfl (.pick 0 rfl (.pick 0 rfl (.refl)))))))
   ·refine Y3 ?_;obtain ⟨x5,h47,hx48⟩:=Ar hx44;refine Ayj (k:=4) rfl (by decide) (fun _=>rfl) h47 (fun b1 j4 hA1 hj2 hl3 hm0 hp1=>?_);refine Ba (Fw rfl rfl hA1 (j:=j4) hj2 hl3 Anf) rfl ?_;refine Ba (Sv rfl hp1 (sb 4) rfl Re) rfl ?_;refine T_x (Kz Ady rfl (fun g5=>?_));refine T_h (Fm rfl rfl rfl (.here) (.put (.put (.done))) rfl (List.cons_ne_nil _ _) Re.2 ?_);refine Y3 ?_;refine T_dr [0,0,0,1,1,1,2] (.q 0 (.q 1 (.q 2 (.q 3 (.q 4 (.q 5 (.e 6 (.done) (.stop)))))))) mixed (by kernel_rfl) (by kernel_rfl) ?_;refine Y2 ?_;refine P_p rfl rfl (Cs rfl Ad6 rfl) rfl ?_;refine P_q rfl rfl (Bf rfl (i:=2) rfl rfl Acp) rfl ?_;refine P_q rfl rfl (Ew rfl (i:=6) rfl rfl Re) rfl ?_;refine P_q rfl rfl (Ew rfl (i:=0) rfl rfl Re) rfl ?_;obtain ⟨r4,h59,hx60⟩:=Ar hx48;refine Pc (fun w1 hw1=>Uw r2.1.v p1 x5 (Has.len' hs7) h59 w1 (An8 (K:=(K++[])) (by exact (SubE.appC (SubE.tail (SubE.tail (SubE.tail (SubE.tail (SubE.tail (SubE.tail (SubE.tail (hKf)))))))) (SubE.nil))) hw1)) ?_;refine Y2 ?_;refine Hr (s:=24) rfl (fun h61=>?_) (fun h61=>?_)
    ·have hx62:=Jx h61 hx60;refine Y3 ?_;refine Ba (Ew rfl (i:=0) rfl rfl Re) rfl ?_;refine T_x (Di rfl (Jp _ _) rfl (fun g6=>?_));obtain ⟨h64,hx65⟩:=Dr hx62;refine T_h (Ig Ak (s2.1) [x5] rfl rfl rfl Ag7 (fun _=>rfl) (i':=0) rfl rfl rfl rfl h64 rfl (fun _ _=>.there (.there (.here))) (fun _ _=>.drop .refl) (by decide) (fun A4 c4=>?_));refine Y3 ?_;exact Mt (s2.1++[x5]) (A4,c4) hx65 trivial (by exact .pick 1 rfl (.pick 1 rfl (.pick 1 rfl (.pick 1 rfl (.pick 1 rfl (.pick 1 rfl (.drop 0 rfl (.refl))))))))
    ·have hx68:=Mg h61 hx60;refine Y3 ?_;exact Mt s2.1 (y2.1,y2.2) hx68 trivial (by exact .pick 1 rfl (.pick 1 rfl (.pick 1 rfl (.pick 1 rfl (.pick 1 rfl (.pick 1 rfl (.drop 0 rfl (.refl))))))))
  ·refine Y3 ?_;obtain rfl:=Lc ht1 hx45;refine Y2 ?_;exact Mt (r2.1.v,r2.1.apex,r2.1.fixed,s2.1) (A5,c6,y2.1,y2.2) ho1 ((by exact ⟨Has.len' hs7,trivial⟩)) (by exact .pick 0 rfl (.pick 0 rfl (.pick 0 rfl (.pick 0 rfl (.pick 1 rfl (.drop 0 rfl (.refl)))))))
set_option maxHeartbeats 1000000 in
set_option maxRecDepth 100000 in
instance mesh_builder_force_c (p0:Ag) (p1:Aa):ConK (Hl p0 p1) Tryz.prog 106 (fun g0_0 gm0_0 gm0_1 A0_0 c0_0 ua0 uc0 vs Lp=>vs=[.pointer (some ⟨g0_0,0,none⟩),.agg #[.int .i64 (p1.a0),.int .i64 (p1.a1)]]/\Lp=[.m g0_0 165 [.slice (A0_0) ((p0.v).length) (c0_0),.map (some gm0_0),.map (some gm0_1)],Aw Tryz.prog 62 Af Ca gm0_0 (p0.apex),Aw Tryz.prog 62 Af Bh gm0_1 (p0.fixed)]/\ua0=none/\uc0=0/\True) (fun A0_0 c0_0 ua0 uc0 K K2=>Has K A0_0 (p0.v).length c0_0 4 Ah (p0.v)/\True) (fun g0_0 gm0_0 gm0_1 A0_0 c0_0 ua0 uc0 K r=>fun v Ln=>∃ (A0:Option Addr) (c0:Nat),v = .tuple #[]/\Ln=[.m g0_0 165 [.slice (A0) ((r.v).length) (c0),.map (some gm0_0),.map (some gm0_1)],Aw Tryz.prog 62 Af Ca gm0_0 (r.apex),Aw Tryz.prog 62 Af Bh gm0_1 (r.fixed)]/\Has K A0 (r.v).length c0 4 Ah (r.v)/\True):=⟨by
 rintro g0_0 gm0_0 gm0_1 A0_0 c0_0 _ _ K K2 _ _ r ⟨rfl,rfl,rfl,rfl,-⟩ ⟨ha0,-⟩ hx;exact CtK.wide ((Xa p0 p1 ha0 hx).mono (by
  rintro _ _ ⟨_,_,rfl,rfl,f0,-⟩
  exact ⟨_,_,rfl,rfl,Has.dn0 f0,trivial⟩))⟩
set_option maxHeartbeats 1000000 in
set_option maxRecDepth 100000 in
instance mesh_Build_c (p0:List Ab) (p1:List Aa):Con (Lm p0 p1) Tryz.prog 44 (fun K vs=>∃ (A0_0:Option Addr) (c0_0:Nat) (A0_1:Option Addr) (c0_1:Nat),vs=[.slice (A0_0) ((p0).length) (c0_0),.slice (A0_1) ((p1).length) (c0_1)]/\Has K A0_0 (p0).length c0_0 4 Ah (p0)/\Has K A0_1 (p1).length c0_1 2 Ak (p1)/\True) (fun _ r=>fun v Ln=>∃ (A0:Option Addr) (c0:Nat) (A2:Option Addr) (c2:Nat) (A4:Option Addr) (c4:Nat),v = .tuple #[.agg #[.slice (A0) ((r.1.V).length) (c0),.slice (A2) ((r.1.T).length) (c2),.slice (A4) ((r.1.Lines).length) (c4)],.int .i64 (r.2)]/\Ln=[.r A0 (r.1.V).length c0 70 4 ((r.1.V).flatMap Ah),.r A2 (r.1.T).length c2 94 3 ((r.1.T).flatMap Bc),.r A4 (r.1.Lines).length c4 62 2 ((r.1.Lines).flatMap Ak)]/\True):=⟨by
 rintro K _ r ⟨A0_0,c0_0,A0_1,c0_1,rfl,ha0,ha1,-⟩ hx w hK;replace ha0:=Has.lo ha0 hK;replace ha1:=Has.lo ha1 hK;unfold Lm at hx;refine CtS Tryz.ntmps44 Tryz.results44 ?_;try (refine pre ?_;intros;rename_i hx)
 refine Cq2 (s:=15) hx rfl (fun _ hx=>?_) (fun _ hx=>?_)
 ·exact au
 ·try (refine pre ?_;intros;rename_i hx)
  refine Cq2 (s:=22) hx rfl (fun _ hx=>?_) (fun _ hx=>?_)
  ·exact au
  ·try (refine pre ?_;intros;rename_i hx)
   apply JrG (γ:=(Option Addr) × (Nat) × (Nat) × (Nat) × (Nat)) hx [0,4,9] (fun s13 y13 f=>(8,.pointer (some ⟨(y13.2.2.2.2),0,none⟩))::f) [3,4,5,999] (fun s13 y13 l=>.m (y13.2.2.2.2) 165 [.slice (y13.1) ((s13.1).length) (y13.2.1),.map (some (y13.2.2.1)),.map (some (y13.2.2.2.1))]::Aw Tryz.prog 62 Af Ca (y13.2.2.1) (s13.2.1)::Aw Tryz.prog 62 Af Bh (y13.2.2.2.1) (s13.2.2)::l) (fun s13 y13=>Has ([.old w]:List Ent) (y13.1) ((s13.1).length) (y13.2.1) 4 Ah (s13.1)/\True);exact kk
   ·intro s13 y13 hx hG;obtain ⟨_,-⟩:=hG;exact au
   ·intro _ hx;try (refine pre ?_;intros;rename_i hx)
    refine Cq1 (s:=41) hx rfl (fun _ hx=>?_) (fun _ hx=>?_)
    ·try (refine pre ?_;intros;rename_i hx)
     apply JrG (γ:=(Option Addr) × (Nat) × (Nat) × (Nat) × (Nat)) hx [0,4,9] (fun s15 y15 f=>(8,.pointer (some ⟨(y15.2.2.2.2),0,none⟩))::f) [3,4,5,999] (fun s15 y15 l=>.m (y15.2.2.2.2) 165 [.slice (y15.1) ((s15.1).length) (y15.2.1),.map (some (y15.2.2.1)),.map (some (y15.2.2.2.1))]::Aw Tryz.prog 62 Af Ca (y15.2.2.1) (s15.2.1)::Aw Tryz.prog 62 Af Bh (y15.2.2.2.1) (s15.2.2)::l) (fun s15 y15=>Has ([.old w]:List Ent) (y15.1) ((s15.1).length) (y15.2.1) 4 Ah (s15.1)/\True);exact kk
     ·intro s15 y15 hx hG;obtain ⟨_,-⟩:=hG;exact au
     ·intro _ hx;try (refine pre ?_;intros;rename_i hx)
      apply LrG (γ:=(Option Addr) × (Nat) × (Nat) × (Nat) × (Nat)) hx [0,4,9,42,43] (fun s62 y62 f=>(8,.pointer (some ⟨(y62.2.2.2.2),0,none⟩))::(44,.int .i64 (s62.2.2.2))::f) [3,4,5,999] (fun s62 y62 l=>.m (y62.2.2.2.2) 165 [.slice (y62.1) ((s62.1).length) (y62.2.1),.map (some (y62.2.2.1)),.map (some (y62.2.2.2.1))]::Aw Tryz.prog 62 Af Ca (y62.2.2.1) (s62.2.1)::Aw Tryz.prog 62 Af Bh (y62.2.2.2.1) (s62.2.2.1)::l) (fun s62 y62=>Has ([.old w]:List Ent) (y62.1) ((s62.1).length) (y62.2.1) 4 Ah (s62.1)/\True) (_,_,_,_,_);exact kk;exact sF2;exact gG;exact pK2;intro s62 y62 x62 hx _ hG;obtain ⟨_,-⟩:=hG;unfold Oy at hx
      exact au
    ·exact au⟩
end Go.Proofs.YtjfndjmabhbicaaGreat
