/- Walks of the program, with their plain functions: the builder. -/
import Derived.Test.YtjfndjmabhbicaaGreatD2
import Derived.Shelf.Lays
import Derived.Shelf.SlSortCmp.NoneTotal
import Derived.Ground.SlsfProg
import Derived.Ground.NamesProg
import Derived.Test.YtjfndjmabhbicaaGreatProg
namespace Go.Proofs.YtjfndjmabhbicaaGreat
open Go Go.RowKit
theorem Adg:Eo Tryz.prog 165 0 0:=.mk Tryz.underlying165 rfl rfl (show Tryz.prog.info? 22=some Tryz.t22 from by kernel_rfl) (show Tryz.t22.size=1 from by kernel_rfl) rfl
instance:Jp Tryz.prog 165 0 0:=⟨Adg⟩
theorem Qg:Eo Tryz.prog 165 1 1:=.mk Tryz.underlying165 rfl rfl (show Tryz.prog.info? 64=some Tryz.t64 from by kernel_rfl) (show Tryz.t64.size=1 from by kernel_rfl) rfl
instance:Jp Tryz.prog 165 1 1:=⟨Qg⟩
theorem Abs:Pp Tryz.prog 64:=.mk Tryz.underlying64 rfl (show Tryz.prog.info? 64=some Tryz.t64 from by kernel_rfl) (by kernel_rfl)
instance:OneI Tryz.prog 64:=⟨Abs⟩
structure Ag where
 v:List Ab
 apex:List (Aa × Int)
 fixed:List (Aa × Bool)
noncomputable def Bc (p0:Ag) (p1:Int):Option Ac :=
 bnd (idx p0.v p1) fun x2 =>
 bnd (Da (⟨x2.X,x2.Y,(⟨x2.Z.Lo,x2.Z.Hi⟩:Ak)⟩:Ab)) fun r0 =>
 some r0
def Bv (x:Int):Value:=.int .i64 (x)
theorem Ww (x y:Int) (h:Bv x=Bv y):x=y:=by simpa [Bv] using h
instance (x:Int):UnfI Bv x (.int .i64 (x)):=⟨rfl⟩
instance (x0:Int):Aaj Bv (.int .i64 (x0)) (x0):=⟨rfl⟩
instance:ValI Tryz.prog 3 Bv 0:=⟨Ww,fun w=>by kernel_rfl⟩
instance:UndI Tryz.prog 64 (.map 62 3):=⟨Tryz.underlying64⟩
noncomputable def Do (p0:Ag) (p1:Int) (p2:Int) (p3:Int):Option Ag :=
 gd ((-9223372036854775808<=p1/\p1<=9223372036854775807)/\(-9223372036854775808<=p2/\p2<=9223372036854775807)) <|
 gd ((p0.apex).length < 9223372036854775807) <|
 gd ((-9223372036854775808<=p2/\p2<=9223372036854775807)/\(-9223372036854775808<=p3/\p3<=9223372036854775807)) <|
 gd ((mput p0.apex ((⟨p1,p2⟩:Aa)) p3).length < 9223372036854775807) <|
 gd ((-9223372036854775808<=p3/\p3<=9223372036854775807)/\(-9223372036854775808<=p1/\p1<=9223372036854775807)) <|
 gd ((mput (mput p0.apex ((⟨p1,p2⟩:Aa)) p3) ((⟨p2,p3⟩:Aa)) p1).length < 9223372036854775807) <|
 some (⟨p0.v,mput (mput (mput p0.apex ((⟨p1,p2⟩:Aa)) p3) ((⟨p2,p3⟩:Aa)) p1) ((⟨p3,p1⟩:Aa)) p2,p0.fixed⟩:Ag)
noncomputable def Iq (p0:Ag) (p1:Int) (p2:Int) (p3:Int):Option Ag :=
 gd ((-9223372036854775808<=p1/\p1<=9223372036854775807)/\(-9223372036854775808<=p2/\p2<=9223372036854775807)) <|
 gd ((-9223372036854775808<=p2/\p2<=9223372036854775807)/\(-9223372036854775808<=p3/\p3<=9223372036854775807)) <|
 gd ((-9223372036854775808<=p3/\p3<=9223372036854775807)/\(-9223372036854775808<=p1/\p1<=9223372036854775807)) <|
 some (⟨p0.v,mdel (mdel (mdel p0.apex ((⟨p1,p2⟩:Aa))) ((⟨p2,p3⟩:Aa))) ((⟨p3,p1⟩:Aa)),p0.fixed⟩:Ag)
noncomputable def Cf (p0:Ag) (p1:Int) (p2:Int):Option (Ag × Bool) :=
 gd ((-9223372036854775808<=p1/\p1<=9223372036854775807)/\(-9223372036854775808<=p2/\p2<=9223372036854775807)) <|
 bnd (some ((mget p0.apex ((⟨p1,p2⟩:Aa))).getD 0)) fun x3 =>
 gd ((-9223372036854775808<=p2/\p2<=9223372036854775807)/\(-9223372036854775808<=p1/\p1<=9223372036854775807)) <|
 bnd (some ((mget p0.apex ((⟨p2,p1⟩:Aa))).getD 0)) fun x8 =>
 jn (fun (s5:Bool) =>
 if s5=true then (some (p0,false))
 else (bnd (Iq p0 p1 p2 x3) fun r0 =>
 bnd (Iq r0 p2 p1 x8) fun r1 =>
 bnd (Do r1 p1 x8 x3) fun r2 =>
 bnd (Do r2 p2 x3 x8) fun r3 =>
 some (r3,true)))
 (fun j5=>if ((mget p0.apex ((⟨p1,p2⟩:Aa))).isSome)=true then (if ((mget p0.apex ((⟨p2,p1⟩:Aa))).isSome)=true then (bnd (Bc p0 x3) fun r4 =>
 bnd (Bc p0 x8) fun r5 =>
 bnd (Bc p0 p1) fun r6 =>
 bnd (Hk r4 r5 r6) fun r7 =>
 bnd (Bc p0 x3) fun r8 =>
 bnd (Bc p0 x8) fun r9 =>
 bnd (Bc p0 p2) fun r35 =>
 bnd (Hk r8 r9 r35) fun r38 =>
 j5 (decide (0<=(w64 (r7*r38)))))
 else (j5 true))
 else (j5 true))
set_option maxRecDepth 100000 in
instance mesh_builder_p_c (p0:Ag) (p1:Int):Con (Bc p0 p1) Tryz.prog 167 (fun K vs=>∃ (g0_0:Nat) (gm0_0:Nat) (gm0_1:Nat) (A0_0:Option Addr) (c0_0:Nat),vs=[.pointer (some ⟨g0_0,0,none⟩),.int .i64 (p1)]/\Pt K g0_0 0 [.slice (A0_0) ((p0.v).length) (c0_0),.map (some gm0_0),.map (some gm0_1)]/\Has K A0_0 (p0.v).length c0_0 4 Ah (p0.v)/\True) (fun _ r=>fun v Ln=>v = .agg #[.int .i64 (r.X),.int .i64 (r.Y)]/\Ln=[]/\True):=⟨by
 rintro K _ r ⟨g0_0,gm0_0,gm0_1,A0_0,c0_0,rfl,hp0,ha0,-⟩ hx w hK;replace hp0:=Pt.lo hp0 hK;replace ha0:=Has.lo ha0 hK;unfold Bc at hx;refine CtS Tryz.ntmps167 Tryz.results167 ?_;exact au⟩
set_option maxRecDepth 100000 in
instance mesh_builder_put_c (p0:Ag) (p1:Int) (p2:Int) (p3:Int):ConK (Do p0 p1 p2 p3) Tryz.prog 168 (fun g0_0 gm0_0 gm0_1 A0_0 c0_0 ua0 uc0 vs Lp=>vs=[.pointer (some ⟨g0_0,0,none⟩),.int .i64 (p1),.int .i64 (p2),.int .i64 (p3)]/\Lp=[.m g0_0 165 [.slice (A0_0) ((p0.v).length) (c0_0),.map (some gm0_0),.map (some gm0_1)],Ao Tryz.prog 62 Af Bv gm0_0 (p0.apex),Ao Tryz.prog 62 Af Az gm0_1 (p0.fixed)]/\ua0=none/\uc0=0/\True) (fun A0_0 c0_0 ua0 uc0 K K2=>Has K A0_0 (p0.v).length c0_0 4 Ah (p0.v)/\True) (fun g0_0 gm0_0 gm0_1 A0_0 c0_0 ua0 uc0 K r=>fun v Ln=>∃ (A0:Option Addr) (c0:Nat),v = .tuple #[]/\Ln=[.m g0_0 165 [.slice (A0) ((r.v).length) (c0),.map (some gm0_0),.map (some gm0_1)],Ao Tryz.prog 62 Af Bv gm0_0 (r.apex),Ao Tryz.prog 62 Af Az gm0_1 (r.fixed)]/\Has K A0 (r.v).length c0 4 Ah (r.v)/\True):=⟨by
 rintro g0_0 gm0_0 gm0_1 A0_0 c0_0 _ _ K K2 _ _ r ⟨rfl,rfl,rfl,rfl,-⟩ ⟨ha0,-⟩ hx;unfold Do at hx;refine CtSK Tryz.ntmps168 Tryz.results168 ?_;intro Lf hKf;have hKg:=hKf.r;replace hKf:=hKf.l;refine Pe ?_;exact au⟩
set_option maxRecDepth 100000 in
instance mesh_builder_cut_c (p0:Ag) (p1:Int) (p2:Int) (p3:Int):ConK (Iq p0 p1 p2 p3) Tryz.prog 239 (fun g0_0 gm0_0 gm0_1 A0_0 c0_0 ua0 uc0 vs Lp=>vs=[.pointer (some ⟨g0_0,0,none⟩),.int .i64 (p1),.int .i64 (p2),.int .i64 (p3)]/\Lp=[.m g0_0 165 [.slice (A0_0) ((p0.v).length) (c0_0),.map (some gm0_0),.map (some gm0_1)],Ao Tryz.prog 62 Af Bv gm0_0 (p0.apex),Ao Tryz.prog 62 Af Az gm0_1 (p0.fixed)]/\ua0=none/\uc0=0/\True) (fun A0_0 c0_0 ua0 uc0 K K2=>Has K A0_0 (p0.v).length c0_0 4 Ah (p0.v)/\True) (fun g0_0 gm0_0 gm0_1 A0_0 c0_0 ua0 uc0 K r=>fun v Ln=>∃ (A0:Option Addr) (c0:Nat),v = .tuple #[]/\Ln=[.m g0_0 165 [.slice (A0) ((r.v).length) (c0),.map (some gm0_0),.map (some gm0_1)],Ao Tryz.prog 62 Af Bv gm0_0 (r.apex),Ao Tryz.prog 62 Af Az gm0_1 (r.fixed)]/\Has K A0 (r.v).length c0 4 Ah (r.v)/\True):=⟨by
 rintro g0_0 gm0_0 gm0_1 A0_0 c0_0 _ _ K K2 _ _ r ⟨rfl,rfl,rfl,rfl,-⟩ ⟨ha0,-⟩ hx;unfold Iq at hx;refine CtSK Tryz.ntmps239 Tryz.results239 ?_;intro Lf hKf;have hKg:=hKf.r;replace hKf:=hKf.l;refine Pe ?_;exact au⟩
set_option maxHeartbeats 1000000 in
set_option maxRecDepth 100000 in
instance Xo (p0:Ag) (p1:Int) (p2:Int):ConK (Cf p0 p1 p2) Tryz.prog 174 (fun g0_0 gm0_0 gm0_1 A0_0 c0_0 ua0 uc0 vs Lp=>vs=[.pointer (some ⟨g0_0,0,none⟩),.int .i64 (p1),.int .i64 (p2)]/\Lp=[.m g0_0 165 [.slice (A0_0) ((p0.v).length) (c0_0),.map (some gm0_0),.map (some gm0_1)],Ao Tryz.prog 62 Af Bv gm0_0 (p0.apex),Ao Tryz.prog 62 Af Az gm0_1 (p0.fixed)]/\ua0=none/\uc0=0/\True) (fun A0_0 c0_0 ua0 uc0 K K2=>Has K A0_0 (p0.v).length c0_0 4 Ah (p0.v)/\True) (fun g0_0 gm0_0 gm0_1 A0_0 c0_0 ua0 uc0 K r=>fun v Ln=>∃ (A0:Option Addr) (c0:Nat),v = .bool (r.2)/\Ln=[.m g0_0 165 [.slice (A0) ((r.1.v).length) (c0),.map (some gm0_0),.map (some gm0_1)],Ao Tryz.prog 62 Af Bv gm0_0 (r.1.apex),Ao Tryz.prog 62 Af Az gm0_1 (r.1.fixed)]/\Has K A0 (r.1.v).length c0 4 Ah (r.1.v)/\True):=⟨by
 rintro g0_0 gm0_0 gm0_1 A0_0 c0_0 _ _ K K2 _ _ r ⟨rfl,rfl,rfl,rfl,-⟩ ⟨ha0,-⟩ hx;unfold Cf at hx;refine CtSK Tryz.ntmps174 Tryz.results174 ?_;intro Lf hKf;have hKg:=hKf.r;replace hKf:=hKf.l;refine Pe ?_;try (refine pre ?_;intros;rename_i hx)
 refine Bw ?_;try (refine pre ?_;intros;rename_i hx)
 apply Jr (γ:=Unit) hx [0,1,2,7,9] (fun s5 y5 f=>(62,.bool (s5))::f) [0,1,2,1003] (fun s5 y5 l=>l);exact kk
 ·intro s5 y5 hx;exact au
 ·intro _ hx;exact au⟩
theorem Vm (p0:Ag) (p1:Int) (p2:Int) {g0_0:Nat} {gm0_0:Nat} {gm0_1:Nat} {K:List Ent} {A0_0:Option Addr} {c0_0:Nat} (ha0:Has K A0_0 (p0.v).length c0_0 4 Ah (p0.v)) {r:Ag × Bool} (hx:Cf p0 p1 p2=some r):CtK Tryz.prog 174 [.pointer (some ⟨g0_0,0,none⟩),.int .i64 (p1),.int .i64 (p2)] K [.m g0_0 165 [.slice (A0_0) ((p0.v).length) (c0_0),.map (some gm0_0),.map (some gm0_1)],Ao Tryz.prog 62 Af Bv gm0_0 (p0.apex),Ao Tryz.prog 62 Af Az gm0_1 (p0.fixed)] fun v Ln=>∃ (A0:Option Addr) (c0:Nat),v = .bool (r.2)/\Ln=[.m g0_0 165 [.slice (A0) ((r.1.v).length) (c0),.map (some gm0_0),.map (some gm0_1)],Ao Tryz.prog 62 Af Bv gm0_0 (r.1.apex),Ao Tryz.prog 62 Af Az gm0_1 (r.1.fixed)]/\Has (K++[]) A0 (r.1.v).length c0 4 Ah (r.1.v)/\True:=(CtK.one ((Xo p0 p1 p2).h _ _ _ _ _ _ _  K K _ _ _ ⟨rfl,rfl,rfl,rfl,trivial⟩ ⟨ha0,trivial⟩ hx)).mono (by
  rintro _ _ ⟨_,_,rfl,rfl,f0,-⟩
  exact ⟨_,_,rfl,rfl,Has.up0 f0,trivial⟩)
end Go.Proofs.YtjfndjmabhbicaaGreat
namespace Go.Proofs
open Go.Shelf
def Tryz.laysSort2_ren:Go.Shelf.Ren:=⟨fun | 6=>50 | 15=>120 | 14=>119 | 28=>195 | 29=>196 | 20=>187 | 21=>188 | 22=>189 | 23=>190 | 24=>191 | 25=>192 | 26=>193 | 27=>194 | 46=>245 | 47=>246 | 48=>247 | 49=>248 | 50=>249 | 57=>288 | n=>n,fun | 22=>23 | 24=>62 | 25=>105 | 3=>3 | 39=>177 | 0=>0 | 53=>245 | 55=>185 | 4=>4 | 46=>239 | 45=>238 | 50=>201 | 5=>5 | 9=>9 | 66=>276 | 70=>280 | 76=>307 | 77=>308 | n=>n,fun | n=>n⟩
theorem Tryz.laysSort2:Go.Proofs.SlLaysF0.n6 Tryz.prog Tryz.laysSort2_ren:={
 mixed:=by kernel_rfl
 f6:=⟨Tryz.f50.name,by decide,Tryz.func50.trans (congrArg some (by kernel_rfl))⟩
 f14:=⟨Tryz.f119.name,by decide,Tryz.func119.trans (congrArg some (by kernel_rfl))⟩
 f15:=Tryz.func120.trans (congrArg some (by kernel_rfl))
 f20:=⟨Tryz.f187.name,by decide,Tryz.func187.trans (congrArg some (by kernel_rfl))⟩
 f21:=⟨Tryz.f188.name,by decide,Tryz.func188.trans (congrArg some (by kernel_rfl))⟩
 f22:=⟨Tryz.f189.name,by decide,Tryz.func189.trans (congrArg some (by kernel_rfl))⟩
 f23:=⟨Tryz.f190.name,by decide,Tryz.func190.trans (congrArg some (by kernel_rfl))⟩
 f24:=⟨Tryz.f191.name,by decide,Tryz.func191.trans (congrArg some (by kernel_rfl))⟩
 f25:=⟨Tryz.f192.name,by decide,Tryz.func192.trans (congrArg some (by kernel_rfl))⟩
 f26:=⟨Tryz.f193.name,by decide,Tryz.func193.trans (congrArg some (by kernel_rfl))⟩
 f27:=⟨Tryz.f194.name,by decide,Tryz.func194.trans (congrArg some (by kernel_rfl))⟩
 f28:=Tryz.func195.trans (congrArg some (by kernel_rfl))
 f29:=Tryz.func196.trans (congrArg some (by kernel_rfl))
 f46:=⟨Tryz.f245.name,by decide,Tryz.func245.trans (congrArg some (by kernel_rfl))⟩
 f47:=Tryz.func246.trans (congrArg some (by kernel_rfl))
 f48:=Tryz.func247.trans (congrArg some (by kernel_rfl))
 f49:=⟨Tryz.f248.name,by decide,Tryz.func248.trans (congrArg some (by kernel_rfl))⟩
 f50:=⟨Tryz.f249.name,by decide,Tryz.func249.trans (congrArg some (by kernel_rfl))⟩
 f57:=⟨Tryz.f288.name,by decide,Tryz.func288.trans (congrArg some (by kernel_rfl))⟩
 t0:=Tryz.underlying0
 a0:=Tryz.isAgg0
 z0:=Tryz.sizeOf0
 v0:=Tryz.zeroValue0
 t3:=Tryz.underlying3
 a3:=Tryz.isAgg3
 z3:=Tryz.sizeOf3
 v3:=Tryz.zeroValue3
 t4:=Tryz.underlying4
 a4:=Tryz.isAgg4
 z4:=Tryz.sizeOf4
 v4:=Tryz.zeroValue4
 t5:=Tryz.underlying5
 a5:=Tryz.isAgg5
 z5:=Tryz.sizeOf5
 v5:=Tryz.zeroValue5
 t9:=Tryz.underlying9
 a9:=Tryz.isAgg9
 z9:=Tryz.sizeOf9
 v9:=Tryz.zeroValue9
 t22:=Tryz.underlying23
 a22:=Tryz.isAgg23
 z22:=Tryz.sizeOf23
 v22:=Tryz.zeroValue23
 t25:=Tryz.underlying105
 a25:=Tryz.isAgg105
 z25:=Tryz.sizeOf105
 v25:=Tryz.zeroValue105
 t39:=Tryz.underlying177
 a39:=Tryz.isAgg177
 z39:=Tryz.sizeOf177
 v39:=Tryz.zeroValue177
 t45:=Tryz.underlying238
 a45:=Tryz.isAgg238
 z45:=Tryz.sizeOf238
 v45:=Tryz.zeroValue238
 t46:=Tryz.underlying239
 a46:=Tryz.isAgg239
 z46:=Tryz.sizeOf239
 v46:=Tryz.zeroValue239
 t50:=Tryz.underlying201
 a50:=Tryz.isAgg201
 z50:=Tryz.sizeOf201
 v50:=Tryz.zeroValue201
 t53:=Tryz.underlying245
 a53:=Tryz.isAgg245
 z53:=Tryz.sizeOf245
 v53:=Tryz.zeroValue245
 t55:=Tryz.underlying185
 a55:=Tryz.isAgg185
 z55:=Tryz.sizeOf185
 v55:=Tryz.zeroValue185
 t66:=Tryz.underlying276
 a66:=Tryz.isAgg276
 z66:=Tryz.sizeOf276
 v66:=Tryz.zeroValue276
 t70:=Tryz.underlying280
 a70:=Tryz.isAgg280
 z70:=Tryz.sizeOf280
 v70:=Tryz.zeroValue280
 t76:=Tryz.underlying307
 a76:=Tryz.isAgg307
 z76:=Tryz.sizeOf307
 v76:=Tryz.zeroValue307
 t77:=Tryz.underlying308
 a77:=Tryz.isAgg308
 z77:=Tryz.sizeOf308
 v77:=Tryz.zeroValue308 }
def Tryz.laysSort3_ren:Go.Shelf.Ren:=⟨fun | 6=>176 | 15=>120 | 14=>241 | 28=>195 | 29=>196 | 20=>280 | 21=>281 | 22=>282 | 23=>283 | 24=>284 | 25=>285 | 26=>286 | 27=>287 | 46=>304 | 47=>246 | 48=>247 | 49=>305 | 50=>306 | 57=>309 | n=>n,fun | 22=>30 | 24=>94 | 25=>231 | 3=>3 | 39=>177 | 0=>0 | 53=>245 | 55=>185 | 4=>4 | 46=>239 | 45=>238 | 50=>201 | 5=>5 | 9=>9 | 66=>276 | 70=>280 | 76=>307 | 77=>308 | n=>n,fun | n=>n⟩
theorem Tryz.laysSort3:Go.Proofs.SlLaysF0.n6 Tryz.prog Tryz.laysSort3_ren:={
 mixed:=by kernel_rfl
 f6:=⟨Tryz.f176.name,by decide,Tryz.func176.trans (congrArg some (by kernel_rfl))⟩
 f14:=⟨Tryz.f241.name,by decide,Tryz.func241.trans (congrArg some (by kernel_rfl))⟩
 f15:=Tryz.func120.trans (congrArg some (by kernel_rfl))
 f20:=⟨Tryz.f280.name,by decide,Tryz.func280.trans (congrArg some (by kernel_rfl))⟩
 f21:=⟨Tryz.f281.name,by decide,Tryz.func281.trans (congrArg some (by kernel_rfl))⟩
 f22:=⟨Tryz.f282.name,by decide,Tryz.func282.trans (congrArg some (by kernel_rfl))⟩
 f23:=⟨Tryz.f283.name,by decide,Tryz.func283.trans (congrArg some (by kernel_rfl))⟩
 f24:=⟨Tryz.f284.name,by decide,Tryz.func284.trans (congrArg some (by kernel_rfl))⟩
 f25:=⟨Tryz.f285.name,by decide,Tryz.func285.trans (congrArg some (by kernel_rfl))⟩
 f26:=⟨Tryz.f286.name,by decide,Tryz.func286.trans (congrArg some (by kernel_rfl))⟩
 f27:=⟨Tryz.f287.name,by decide,Tryz.func287.trans (congrArg some (by kernel_rfl))⟩
 f28:=Tryz.func195.trans (congrArg some (by kernel_rfl))
 f29:=Tryz.func196.trans (congrArg some (by kernel_rfl))
 f46:=⟨Tryz.f304.name,by decide,Tryz.func304.trans (congrArg some (by kernel_rfl))⟩
 f47:=Tryz.func246.trans (congrArg some (by kernel_rfl))
 f48:=Tryz.func247.trans (congrArg some (by kernel_rfl))
 f49:=⟨Tryz.f305.name,by decide,Tryz.func305.trans (congrArg some (by kernel_rfl))⟩
 f50:=⟨Tryz.f306.name,by decide,Tryz.func306.trans (congrArg some (by kernel_rfl))⟩
 f57:=⟨Tryz.f309.name,by decide,Tryz.func309.trans (congrArg some (by kernel_rfl))⟩
 t0:=Tryz.underlying0
 a0:=Tryz.isAgg0
 z0:=Tryz.sizeOf0
 v0:=Tryz.zeroValue0
 t3:=Tryz.underlying3
 a3:=Tryz.isAgg3
 z3:=Tryz.sizeOf3
 v3:=Tryz.zeroValue3
 t4:=Tryz.underlying4
 a4:=Tryz.isAgg4
 z4:=Tryz.sizeOf4
 v4:=Tryz.zeroValue4
 t5:=Tryz.underlying5
 a5:=Tryz.isAgg5
 z5:=Tryz.sizeOf5
 v5:=Tryz.zeroValue5
 t9:=Tryz.underlying9
 a9:=Tryz.isAgg9
 z9:=Tryz.sizeOf9
 v9:=Tryz.zeroValue9
 t22:=Tryz.underlying30
 a22:=Tryz.isAgg30
 z22:=Tryz.sizeOf30
 v22:=Tryz.zeroValue30
 t25:=Tryz.underlying231
 a25:=Tryz.isAgg231
 z25:=Tryz.sizeOf231
 v25:=Tryz.zeroValue231
 t39:=Tryz.underlying177
 a39:=Tryz.isAgg177
 z39:=Tryz.sizeOf177
 v39:=Tryz.zeroValue177
 t45:=Tryz.underlying238
 a45:=Tryz.isAgg238
 z45:=Tryz.sizeOf238
 v45:=Tryz.zeroValue238
 t46:=Tryz.underlying239
 a46:=Tryz.isAgg239
 z46:=Tryz.sizeOf239
 v46:=Tryz.zeroValue239
 t50:=Tryz.underlying201
 a50:=Tryz.isAgg201
 z50:=Tryz.sizeOf201
 v50:=Tryz.zeroValue201
 t53:=Tryz.underlying245
 a53:=Tryz.isAgg245
 z53:=Tryz.sizeOf245
 v53:=Tryz.zeroValue245
 t55:=Tryz.underlying185
 a55:=Tryz.isAgg185
 z55:=Tryz.sizeOf185
 v55:=Tryz.zeroValue185
 t66:=Tryz.underlying276
 a66:=Tryz.isAgg276
 z66:=Tryz.sizeOf276
 v66:=Tryz.zeroValue276
 t70:=Tryz.underlying280
 a70:=Tryz.isAgg280
 z70:=Tryz.sizeOf280
 v70:=Tryz.zeroValue280
 t76:=Tryz.underlying307
 a76:=Tryz.isAgg307
 z76:=Tryz.sizeOf307
 v76:=Tryz.zeroValue307
 t77:=Tryz.underlying308
 a77:=Tryz.isAgg308
 z77:=Tryz.sizeOf308
 v77:=Tryz.zeroValue308 }
def Tryz.laysSort1_ren:Go.Shelf.Ren:=⟨fun | 6=>170 | 15=>120 | 14=>238 | 28=>195 | 29=>196 | 20=>271 | 21=>272 | 22=>273 | 23=>274 | 24=>275 | 25=>276 | 26=>277 | 27=>278 | 46=>301 | 47=>246 | 48=>247 | 49=>302 | 50=>303 | 57=>308 | n=>n,fun | 22=>48 | 24=>3 | 25=>226 | 3=>3 | 39=>177 | 0=>0 | 53=>245 | 55=>185 | 4=>4 | 46=>239 | 45=>238 | 50=>201 | 5=>5 | 9=>9 | 66=>276 | 70=>280 | 76=>307 | 77=>308 | n=>n,fun | n=>n⟩
theorem Tryz.laysSort1:Go.Proofs.SlLaysF.n6 Tryz.prog Tryz.laysSort1_ren:={
 mixed:=by kernel_rfl
 f6:=⟨Tryz.f170.name,by decide,Tryz.func170.trans (congrArg some (by kernel_rfl))⟩
 f14:=⟨Tryz.f238.name,by decide,Tryz.func238.trans (congrArg some (by kernel_rfl))⟩
 f15:=Tryz.func120.trans (congrArg some (by kernel_rfl))
 f20:=⟨Tryz.f271.name,by decide,Tryz.func271.trans (congrArg some (by kernel_rfl))⟩
 f21:=⟨Tryz.f272.name,by decide,Tryz.func272.trans (congrArg some (by kernel_rfl))⟩
 f22:=⟨Tryz.f273.name,by decide,Tryz.func273.trans (congrArg some (by kernel_rfl))⟩
 f23:=⟨Tryz.f274.name,by decide,Tryz.func274.trans (congrArg some (by kernel_rfl))⟩
 f24:=⟨Tryz.f275.name,by decide,Tryz.func275.trans (congrArg some (by kernel_rfl))⟩
 f25:=⟨Tryz.f276.name,by decide,Tryz.func276.trans (congrArg some (by kernel_rfl))⟩
 f26:=⟨Tryz.f277.name,by decide,Tryz.func277.trans (congrArg some (by kernel_rfl))⟩
 f27:=⟨Tryz.f278.name,by decide,Tryz.func278.trans (congrArg some (by kernel_rfl))⟩
 f28:=Tryz.func195.trans (congrArg some (by kernel_rfl))
 f29:=Tryz.func196.trans (congrArg some (by kernel_rfl))
 f46:=⟨Tryz.f301.name,by decide,Tryz.func301.trans (congrArg some (by kernel_rfl))⟩
 f47:=Tryz.func246.trans (congrArg some (by kernel_rfl))
 f48:=Tryz.func247.trans (congrArg some (by kernel_rfl))
 f49:=⟨Tryz.f302.name,by decide,Tryz.func302.trans (congrArg some (by kernel_rfl))⟩
 f50:=⟨Tryz.f303.name,by decide,Tryz.func303.trans (congrArg some (by kernel_rfl))⟩
 f57:=⟨Tryz.f308.name,by decide,Tryz.func308.trans (congrArg some (by kernel_rfl))⟩
 t0:=Tryz.underlying0
 a0:=Tryz.isAgg0
 z0:=Tryz.sizeOf0
 v0:=Tryz.zeroValue0
 t3:=Tryz.underlying3
 a3:=Tryz.isAgg3
 z3:=Tryz.sizeOf3
 v3:=Tryz.zeroValue3
 t4:=Tryz.underlying4
 a4:=Tryz.isAgg4
 z4:=Tryz.sizeOf4
 v4:=Tryz.zeroValue4
 t5:=Tryz.underlying5
 a5:=Tryz.isAgg5
 z5:=Tryz.sizeOf5
 v5:=Tryz.zeroValue5
 t9:=Tryz.underlying9
 a9:=Tryz.isAgg9
 z9:=Tryz.sizeOf9
 v9:=Tryz.zeroValue9
 t22:=Tryz.underlying48
 a22:=Tryz.isAgg48
 z22:=Tryz.sizeOf48
 v22:=Tryz.zeroValue48
 a24:=Tryz.isAgg3
 z24:=Tryz.sizeOf3
 t25:=Tryz.underlying226
 a25:=Tryz.isAgg226
 z25:=Tryz.sizeOf226
 v25:=Tryz.zeroValue226
 t39:=Tryz.underlying177
 a39:=Tryz.isAgg177
 z39:=Tryz.sizeOf177
 v39:=Tryz.zeroValue177
 t45:=Tryz.underlying238
 a45:=Tryz.isAgg238
 z45:=Tryz.sizeOf238
 v45:=Tryz.zeroValue238
 t46:=Tryz.underlying239
 a46:=Tryz.isAgg239
 z46:=Tryz.sizeOf239
 v46:=Tryz.zeroValue239
 t50:=Tryz.underlying201
 a50:=Tryz.isAgg201
 z50:=Tryz.sizeOf201
 v50:=Tryz.zeroValue201
 t53:=Tryz.underlying245
 a53:=Tryz.isAgg245
 z53:=Tryz.sizeOf245
 v53:=Tryz.zeroValue245
 t55:=Tryz.underlying185
 a55:=Tryz.isAgg185
 z55:=Tryz.sizeOf185
 v55:=Tryz.zeroValue185
 t66:=Tryz.underlying276
 a66:=Tryz.isAgg276
 z66:=Tryz.sizeOf276
 v66:=Tryz.zeroValue276
 t70:=Tryz.underlying280
 a70:=Tryz.isAgg280
 z70:=Tryz.sizeOf280
 v70:=Tryz.zeroValue280
 t76:=Tryz.underlying307
 a76:=Tryz.isAgg307
 z76:=Tryz.sizeOf307
 v76:=Tryz.zeroValue307
 t77:=Tryz.underlying308
 a77:=Tryz.isAgg308
 z77:=Tryz.sizeOf308
 v77:=Tryz.zeroValue308 }
def Tryz.laysSort_ren:Go.Shelf.Ren:=⟨fun | 189=>88 | 125=>120 | 257=>151 | 128=>195 | 129=>196 | 294=>222 | 295=>223 | 296=>224 | 297=>225 | 298=>226 | 299=>227 | 216=>228 | 300=>229 | 301=>230 | 328=>259 | 329=>246 | 330=>247 | 331=>260 | 332=>261 | 215=>262 | 343=>297 | n=>n,fun | 28=>48 | 3=>3 | 46=>177 | 0=>0 | 51=>245 | 53=>185 | 4=>4 | 183=>239 | 182=>238 | 131=>201 | 5=>5 | 9=>9 | 218=>276 | 222=>280 | 228=>307 | 229=>308 | n=>n,fun | n=>n⟩
theorem Tryz.laysSort:Go.Proofs.Lays.n189 Tryz.prog Tryz.laysSort_ren:={
 mixed:=by kernel_rfl
 f125:=Tryz.func120.trans (congrArg some (by kernel_rfl))
 f128:=Tryz.func195.trans (congrArg some (by kernel_rfl))
 f129:=Tryz.func196.trans (congrArg some (by kernel_rfl))
 f189:=Tryz.func88.trans (congrArg some (by kernel_rfl))
 f215:=Tryz.func262.trans (congrArg some (by kernel_rfl))
 f216:=Tryz.func228.trans (congrArg some (by kernel_rfl))
 f257:=Tryz.func151.trans (congrArg some (by kernel_rfl))
 f294:=Tryz.func222.trans (congrArg some (by kernel_rfl))
 f295:=Tryz.func223.trans (congrArg some (by kernel_rfl))
 f296:=Tryz.func224.trans (congrArg some (by kernel_rfl))
 f297:=Tryz.func225.trans (congrArg some (by kernel_rfl))
 f298:=Tryz.func226.trans (congrArg some (by kernel_rfl))
 f299:=Tryz.func227.trans (congrArg some (by kernel_rfl))
 f300:=Tryz.func229.trans (congrArg some (by kernel_rfl))
 f301:=Tryz.func230.trans (congrArg some (by kernel_rfl))
 f328:=Tryz.func259.trans (congrArg some (by kernel_rfl))
 f329:=Tryz.func246.trans (congrArg some (by kernel_rfl))
 f330:=Tryz.func247.trans (congrArg some (by kernel_rfl))
 f331:=Tryz.func260.trans (congrArg some (by kernel_rfl))
 f332:=Tryz.func261.trans (congrArg some (by kernel_rfl))
 f343:=Tryz.func297.trans (congrArg some (by kernel_rfl))
 t0:=Tryz.underlying0
 a0:=Tryz.isAgg0
 z0:=Tryz.sizeOf0
 v0:=Tryz.zeroValue0
 t3:=Tryz.underlying3
 a3:=Tryz.isAgg3
 z3:=Tryz.sizeOf3
 v3:=Tryz.zeroValue3
 t4:=Tryz.underlying4
 a4:=Tryz.isAgg4
 z4:=Tryz.sizeOf4
 v4:=Tryz.zeroValue4
 t5:=Tryz.underlying5
 a5:=Tryz.isAgg5
 z5:=Tryz.sizeOf5
 v5:=Tryz.zeroValue5
 t9:=Tryz.underlying9
 a9:=Tryz.isAgg9
 z9:=Tryz.sizeOf9
 v9:=Tryz.zeroValue9
 t28:=Tryz.underlying48
 a28:=Tryz.isAgg48
 z28:=Tryz.sizeOf48
 v28:=Tryz.zeroValue48
 t46:=Tryz.underlying177
 a46:=Tryz.isAgg177
 z46:=Tryz.sizeOf177
 v46:=Tryz.zeroValue177
 t51:=Tryz.underlying245
 a51:=Tryz.isAgg245
 z51:=Tryz.sizeOf245
 v51:=Tryz.zeroValue245
 t53:=Tryz.underlying185
 a53:=Tryz.isAgg185
 z53:=Tryz.sizeOf185
 v53:=Tryz.zeroValue185
 t131:=Tryz.underlying201
 a131:=Tryz.isAgg201
 z131:=Tryz.sizeOf201
 v131:=Tryz.zeroValue201
 t182:=Tryz.underlying238
 a182:=Tryz.isAgg238
 z182:=Tryz.sizeOf238
 v182:=Tryz.zeroValue238
 t183:=Tryz.underlying239
 a183:=Tryz.isAgg239
 z183:=Tryz.sizeOf239
 v183:=Tryz.zeroValue239
 t218:=Tryz.underlying276
 a218:=Tryz.isAgg276
 z218:=Tryz.sizeOf276
 v218:=Tryz.zeroValue276
 t222:=Tryz.underlying280
 a222:=Tryz.isAgg280
 z222:=Tryz.sizeOf280
 v222:=Tryz.zeroValue280
 t228:=Tryz.underlying307
 a228:=Tryz.isAgg307
 z228:=Tryz.sizeOf307
 v228:=Tryz.zeroValue307
 t229:=Tryz.underlying308
 a229:=Tryz.isAgg308
 z229:=Tryz.sizeOf308
 v229:=Tryz.zeroValue308 }
end Go.Proofs
namespace Go.Proofs.YtjfndjmabhbicaaGreat
open Go Go.RowKit Go.Shelf Go.Lib Go.Sort
theorem Aay {P:Program} {f:FuncId} (h:Rt P f):∀ (args:Array Value) (w:World),(callFunc f args).run P w = .ok (.enter f args) w:=by
 obtain ⟨fn,h1,h2,h3⟩:=h
 obtain ⟨c,hc⟩:∃ c,fn.body=some c:=by cases hb:fn.body with
  | none=>rw [hb] at h3;cases h3
  | some c=>exact ⟨c,rfl⟩
 exact enters_of h1 h2 hc
def Agk (z:Int):Prop:=-1000000000000<=z/\z<=1000000000000
instance (z:Int):Decidable (Agk z):=by unfold Agk;infer_instance
def Ia (x:Aa):Prop:=Agk x.a0/\Agk x.a1
instance (x:Aa):Decidable (Ia x):=by unfold Ia;infer_instance
def cmp2 (x y:Aa):Int:=if x.a0=y.a0 then x.a1-y.a1 else x.a0-y.a0
theorem Wy (x y:Aa):cmp2 x y < 0↔x.a0 < y.a0\/x.a0=y.a0/\x.a1 < y.a1:=by unfold cmp2;split <;> omega
theorem tot2:Ve Ia cmp2 where
 irr x _:=by rw [Wy];omega
 trans x y z _ _ _ h1 h2:=by rw [Wy] at *;omega
 tot x y _ _ h1 h2:=by
  rw [Wy] at h1 h2
  obtain ⟨x0,x1⟩:=x
  obtain ⟨y0,y1⟩:=y
  simp only at h1 h2
  rw [show x0=y0 by omega,show x1=y1 by omega]
theorem Aaz {x y:Aa} (hx:Ia x) (hy:Ia y):Rk x y=some (cmp2 x y):=by
 obtain ⟨⟨_,_⟩,_,_⟩:=hx
 obtain ⟨⟨_,_⟩,_,_⟩:=hy
 unfold Rk cmp2
 split <;> (rw [Ay (by omega) (by omega)])
theorem Yg (l:List Aa) (hb:l.length<=1000000000) (hp:∀ x∈l,Ia x) {A:Option Addr} {m c:Nat} {t:TypeId} {gf:Nat} {cb:Array Value} (w:World) (hok:Ent.ok w (.r A m c t 2 (l.flatMap Ai)))
  (hcmp:Aan Tryz.prog Ia cmp2 (fun x=>.agg #[.int .i64 x.a0,.int .i64 x.a1]) A m c t 2 gf cb w (l.flatMap Ai)) (eg:Rt Tryz.prog gf):Aam Tryz.prog 50 A m c t 2 gf cb w (l.flatMap Ai) ((An cmp2 l).flatMap Ai) :=
 Aev (ρ:=Tryz.laysSort2_ren) Tryz.laysSort2 (k:=2) Tryz.isAgg62 Tryz.sizeOf62 (enc:=Ai) (fun _=>rfl) (by decide) (fun x v hv=>by simp [Ai] at hv;rcases hv with rfl | rfl <;> rfl) tot2 (Aay eg) l hb hp w hok hcmp
def Su (x:Ae):Prop:=True
instance (x:Ae):Decidable (Su x):=by unfold Su;infer_instance
def cmpI (x y:Int):Int:=if x < y then -1 else if y < x then 1 else 0
theorem Alw (x y:Int):cmpI x y < 0↔x < y:=by
 unfold cmpI
 split
 ·omega
 ·split <;> omega
theorem Ata (x y:Int):cmpI x y=0↔x=y:=by
 unfold cmpI
 split
 ·omega
 ·split <;> omega
def cmp3 (x y:Ae):Int:=if cmpI x.a0 y.a0=0 then if cmpI x.a1 y.a1=0 then cmpI x.a2 y.a2 else cmpI x.a1 y.a1 else cmpI x.a0 y.a0
theorem Wz (x y:Ae):cmp3 x y < 0↔x.a0 < y.a0\/x.a0=y.a0/\(x.a1 < y.a1\/x.a1=y.a1/\x.a2 < y.a2):=by
 unfold cmp3
 simp only [Ata]
 split
 ·split <;> rw [Alw] <;> omega
 ·rw [Alw];omega
theorem tot3:Ve Su cmp3 where
 irr x _:=by rw [Wz];omega
 trans x y z _ _ _ h1 h2:=by rw [Wz] at *;omega
 tot x y _ _ h1 h2:=by
  rw [Wz] at h1 h2
  obtain ⟨x0,x1,x2⟩:=x
  obtain ⟨y0,y1,y2⟩:=y
  simp only at h1 h2
  rw [show x0=y0 by omega,show x1=y1 by omega,show x2=y2 by omega]
theorem Atb (x y:Int):Kx x y=some (cmpI x y):=by
 unfold Kx Mx cmpI
 simp only [bnd,decide_true,Bool.not_true,Bool.false_eq_true,if_false]
 split
 ·rfl
 ·split <;> rfl
theorem Zn {x y:Ae} (hx:Su x) (hy:Su y):El x y=some (cmp3 x y):=by
 obtain ⟨x0,x1,x2⟩:=x
 obtain ⟨y0,y1,y2⟩:=y
 unfold El Ge jn cmp3
 simp only
 have step:∀ i:Int,Bo [x0,x1,x2] [y0,y1,y2] i=if i < 3 then bnd (idx [x0,x1,x2] i) fun a=>bnd (idx [y0,y1,y2] i) fun b=>if cmpI a b=0 then some (.inl (w64 (i+1))) else some (.inr (.inr (cmpI a b))) else some (.inr (.inl ())):=by
  intro i
  unfold Bo
  simp only [Atb,List.length_cons,List.length_nil]
  by_cases h:i < 3
  ·rw [if_pos (by omega),if_pos h]
   congr 1
   funext a
   rw [if_neg (by omega)]
   rfl
  ·rw [if_neg (by omega),if_neg h]
 have w1:w64 (0+1)=1:=Ay (by omega) (by omega)
 have w2:w64 (1+1)=2:=Ay (by omega) (by omega)
 have w3:w64 (2+1)=3:=Ay (by omega) (by omega)
 have i0:∀ a b c:Int,idx [a,b,c] 0=some a:=fun _ _ _=>rfl
 have i1:∀ a b c:Int,idx [a,b,c] 1=some b:=fun _ _ _=>rfl
 have i2:∀ a b c:Int,idx [a,b,c] 2=some c:=fun _ _ _=>rfl
 have s0:Bo [x0,x1,x2] [y0,y1,y2] 0=if cmpI x0 y0=0 then some (.inl 1) else some (.inr (.inr (cmpI x0 y0))):=by rw [step,if_pos (by omega),w1];simp only [i0,bnd]
 have s1:Bo [x0,x1,x2] [y0,y1,y2] 1=if cmpI x1 y1=0 then some (.inl 2) else some (.inr (.inr (cmpI x1 y1))):=by rw [step,if_pos (by omega),w2];simp only [i1,bnd]
 have s2:Bo [x0,x1,x2] [y0,y1,y2] 2=if cmpI x2 y2=0 then some (.inl 3) else some (.inr (.inr (cmpI x2 y2))):=by rw [step,if_pos (by omega),w3];simp only [i2,bnd]
 have s3:Bo [x0,x1,x2] [y0,y1,y2] 3=some (.inr (.inl ())):=by rw [step,if_neg (by omega)]
 rw [Bf,s0]
 by_cases h0:cmpI x0 y0=0
 ·rw [if_pos h0,if_pos h0]
  simp only
  rw [Bf,s1]
  by_cases h1:cmpI x1 y1=0
  ·rw [if_pos h1,if_pos h1]
   simp only
   rw [Bf,s2]
   by_cases h2:cmpI x2 y2=0
   ·rw [if_pos h2,h2]
    simp only
    rw [Bf,s3]
    simp [bnd]
   ·rw [if_neg h2]
    simp [bnd]
  ·rw [if_neg h1,if_neg h1]
   simp [bnd]
 ·rw [if_neg h0,if_neg h0]
  simp [bnd]
theorem Adh (l:List Ae) (hb:l.length<=1000000000) (hp:∀ x∈l,Su x) {A:Option Addr} {m c:Nat} {t:TypeId} {gf:Nat} {cb:Array Value} (w:World) (hok:Ent.ok w (.r A m c t 3 (l.flatMap Aq)))
  (hcmp:Aan Tryz.prog Su cmp3 (fun x=>.agg #[.int .i64 x.a0,.int .i64 x.a1,.int .i64 x.a2]) A m c t 3 gf cb w (l.flatMap Aq)) (eg:Rt Tryz.prog gf):Aam Tryz.prog 176 A m c t 3 gf cb w (l.flatMap Aq) ((An cmp3 l).flatMap Aq) :=
 Aev (ρ:=Tryz.laysSort3_ren) Tryz.laysSort3 (k:=3) Tryz.isAgg94 Tryz.sizeOf94 (enc:=Aq) (fun _=>rfl) (by decide) (fun x v hv=>by simp [Aq] at hv;rcases hv with rfl | rfl | rfl <;> rfl) tot3 (Aay eg) l hb hp w hok hcmp
def befV (a b:Ab):Prop:=a.X < b.X\/a.X=b.X/\a.Y < b.Y
instance (a b:Ab):Decidable (befV a b):=by unfold befV;infer_instance
def Qh (a b:Ab):Prop:=a.X=b.X/\a.Y=b.Y
instance (a b:Ab):Decidable (Qh a b):=by unfold Qh;infer_instance
def Ey (v:List Ab):Prop:=v.Pairwise fun a b=>¬ Qh a b
instance (v:List Ab):Decidable (Ey v):=by unfold Ey;infer_instance
def okIx (v:List Ab) (i:Int):Prop:=0<=i/\i < (v.length:Int)
instance (v:List Ab) (i:Int):Decidable (okIx v i):=by unfold okIx;infer_instance
def cmpR (v:List Ab) (i j:Int):Int:=match idx v i,idx v j with
 | some a,some b=>if befV a b then -1 else if befV b a then 1 else 0
 | _,_=>0
theorem Fn {v:List Ab} {i:Int} (h:okIx v i):∃ (k:Nat) (hk:k < v.length),i=(k:Int)/\idx v i=some v[k]:=by
 obtain ⟨h0,h1⟩:=h
 obtain ⟨k,rfl⟩:=Int.eq_ofNat_of_zero_le h0
 have hk:k < v.length:=by omega
 exact ⟨k,hk,rfl,As hk⟩
theorem Qv {v:List Ab} {i j:Nat} (hi:i < v.length) (hj:j < v.length):cmpR v (i:Int) (j:Int) < 0↔befV v[i] v[j]:=by
 unfold cmpR
 rw [As hi,As hj]
 simp only
 split
 ·simp_all
 ·split <;> simp_all
theorem totR {v:List Ab} (hd:Ey v):Ve (okIx v) (cmpR v) where
 irr x hx:=by
  obtain ⟨i,hi,rfl,_⟩:=Fn hx
  rw [Qv hi hi]
  unfold befV
  omega
 trans x y z hx hy hz h1 h2:=by
  obtain ⟨i,hi,rfl,_⟩:=Fn hx
  obtain ⟨j,hj,rfl,_⟩:=Fn hy
  obtain ⟨k,hk,rfl,_⟩:=Fn hz
  rw [Qv hi hj] at h1
  rw [Qv hj hk] at h2
  rw [Qv hi hk]
  unfold befV at *
  omega
 tot x y hx hy h1 h2:=by
  obtain ⟨i,hi,rfl,_⟩:=Fn hx
  obtain ⟨j,hj,rfl,_⟩:=Fn hy
  rw [Qv hi hj] at h1
  rw [Qv hj hi] at h2
  have hs:Qh v[i] v[j]:=by unfold befV at h1 h2;unfold Qh;omega
  unfold Ey at hd
  rw [List.pairwise_iff_getElem] at hd
  rcases Nat.lt_trichotomy i j with h | h | h
  ·exact absurd hs (hd i j hi hj h)
  ·rw [h]
  ·exact absurd ⟨hs.1.symm,hs.2.symm⟩ (hd j i hj hi h)
theorem Anm (a b:Ab):Ef ⟨a.X,a.Y⟩ ⟨b.X,b.Y⟩=some (decide (befV a b)):=by
 unfold Ef jn befV
 simp only
 by_cases h1:a.X < b.X
 ·simp [h1]
 ·by_cases h2:a.X=b.X
  ·simp [h2]
  ·simp [h1,h2]
theorem Ann (v:List Ab) {x y:Int} (hx:okIx v x) (hy:okIx v y):Qz x y v=some (cmpR v x y):=by
 obtain ⟨i,hi,rfl,ei⟩:=Fn hx
 obtain ⟨j,hj,rfl,ej⟩:=Fn hy
 unfold Qz cmpR
 simp only [ei,ej,bnd,Da,Anm,decide_eq_true_eq]
 split
 ·rfl
 ·split <;> rfl
theorem Aia (v:List Ab) (hd:Ey v) (l:List Int) (hb:l.length<=1000000000) (hp:∀ x∈l,okIx v x) {A:Option Addr} {m c:Nat} {t:TypeId} {gf:Nat} {cb:Array Value} (w:World) (hok:Ent.ok w (.r A m c t 1 (l.flatMap Bq)))
  (hcmp:Aan Tryz.prog (okIx v) (cmpR v) (fun x=>.int .i64 x) A m c t 1 gf cb w (l.flatMap Bq)) (eg:Rt Tryz.prog gf):Aam Tryz.prog 170 A m c t 1 gf cb w (l.flatMap Bq) ((An (cmpR v) l).flatMap Bq) :=
 Ald (ρ:=Tryz.laysSort1_ren) Tryz.laysSort1 (enc:=Value.int .i64) (fun _=>rfl) (totR hd) (Aay eg) l hb hp w hok hcmp
end Go.Proofs.YtjfndjmabhbicaaGreat
