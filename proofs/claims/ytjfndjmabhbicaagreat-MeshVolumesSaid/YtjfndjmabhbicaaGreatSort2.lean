/- Walks of the program, with their plain functions: the builder. -/
import Derived.Test.YtjfndjmabhbicaaGreatD2
import Derived.Shelf.Lays
import Derived.Shelf.SlSortCmp.NoneTotal
import Derived.Ground.SlsfProg
import Derived.Ground.NamesProg
import Derived.Test.YtjfndjmabhbicaaGreatProg
namespace Go.Proofs.YtjfndjmabhbicaaGreat
open Go Go.RowKit
theorem Ad6:Cw Tryz.prog 165 0 0:=.mk Tryz.underlying165 rfl rfl (show Tryz.prog.info? 22=some Tryz.t22 from by kernel_rfl) (show Tryz.t22.size=1 from by kernel_rfl) rfl
instance:Gd Tryz.prog 165 0 0:=⟨Ad6⟩
theorem Rs:Cw Tryz.prog 165 1 1:=.mk Tryz.underlying165 rfl rfl (show Tryz.prog.info? 64=some Tryz.t64 from by kernel_rfl) (show Tryz.t64.size=1 from by kernel_rfl) rfl
instance:Gd Tryz.prog 165 1 1:=⟨Rs⟩
theorem Acl:Qe Tryz.prog 64:=.mk Tryz.underlying64 rfl (show Tryz.prog.info? 64=some Tryz.t64 from by kernel_rfl) (by kernel_rfl)
instance:OneI Tryz.prog 64:=⟨Acl⟩
structure Ag where
 v:List Ab
 apex:List (Aa × Int)
 fixed:List (Aa × Bool)
noncomputable def Bg (p0:Ag) (p1:Int):Option Ac :=
 bnd (idx p0.v p1) fun x2=>
 bnd (Cu (⟨x2.X,x2.Y,(⟨x2.Z.Lo,x2.Z.Hi⟩:Al)⟩:Ab)) fun r0=>
 some r0
def Ca (x:Int):Value:=.int .i64 (x)
theorem Yj (x y:Int) (h:Ca x=Ca y):x=y:=by simpa[Ca] using h
instance (x:Int):UnfI Ca x (.int .i64 (x)):=⟨rfl⟩
instance (x0:Int):Abn Ca (.int .i64 (x0)) (x0):=⟨rfl⟩
instance:ValI Tryz.prog 3 Ca 0:=⟨Yj,fun w=>by kernel_rfl⟩
instance:UndI Tryz.prog 64 (.map 62 3):=⟨Tryz.underlying64⟩
noncomputable def Dz (p0:Ag) (p1:Int) (p2:Int) (p3:Int):Option Ag :=
 gd ((-9223372036854775808<=p1/\p1<=9223372036854775807)/\(-9223372036854775808<=p2/\p2<=9223372036854775807)) <|
 gd ((p0.apex).length < 9223372036854775807) <|
 gd ((-9223372036854775808<=p2/\p2<=9223372036854775807)/\(-9223372036854775808<=p3/\p3<=9223372036854775807)) <|
 gd ((mput p0.apex ((⟨p1,p2⟩:Aa)) p3).length < 9223372036854775807) <|
 gd ((-9223372036854775808<=p3/\p3<=9223372036854775807)/\(-9223372036854775808<=p1/\p1<=9223372036854775807)) <|
 gd ((mput (mput p0.apex ((⟨p1,p2⟩:Aa)) p3) ((⟨p2,p3⟩:Aa)) p1).length < 9223372036854775807) <|
 some (⟨p0.v,mput (mput (mput p0.apex ((⟨p1,p2⟩:Aa)) p3) ((⟨p2,p3⟩:Aa)) p1) ((⟨p3,p1⟩:Aa)) p2,p0.fixed⟩:Ag)
noncomputable def Jj (p0:Ag) (p1:Int) (p2:Int) (p3:Int):Option Ag :=
 gd ((-9223372036854775808<=p1/\p1<=9223372036854775807)/\(-9223372036854775808<=p2/\p2<=9223372036854775807)) <|
 gd ((-9223372036854775808<=p2/\p2<=9223372036854775807)/\(-9223372036854775808<=p3/\p3<=9223372036854775807)) <|
 gd ((-9223372036854775808<=p3/\p3<=9223372036854775807)/\(-9223372036854775808<=p1/\p1<=9223372036854775807)) <|
 some (⟨p0.v,mdel (mdel (mdel p0.apex ((⟨p1,p2⟩:Aa))) ((⟨p2,p3⟩:Aa))) ((⟨p3,p1⟩:Aa)),p0.fixed⟩:Ag)
noncomputable def Ck (p0:Ag) (p1:Int) (p2:Int):Option (Ag × Bool) :=
 gd ((-9223372036854775808<=p1/\p1<=9223372036854775807)/\(-9223372036854775808<=p2/\p2<=9223372036854775807)) <|
 bnd (some ((mget p0.apex ((⟨p1,p2⟩:Aa))).getD 0)) fun x3=>
 gd ((-9223372036854775808<=p2/\p2<=9223372036854775807)/\(-9223372036854775808<=p1/\p1<=9223372036854775807)) <|
 bnd (some ((mget p0.apex ((⟨p2,p1⟩:Aa))).getD 0)) fun x8=>
 jn (fun (s5:Bool)=>
 if s5=true then (some (p0,false))
 else (bnd (Jj p0 p1 p2 x3) fun r0=>
 bnd (Jj r0 p2 p1 x8) fun r1=>
 bnd (Dz r1 p1 x8 x3) fun r2=>
 bnd (Dz r2 p2 x3 x8) fun r3=>
 some (r3,true)))
 (fun j5=>if ((mget p0.apex ((⟨p1,p2⟩:Aa))).isSome)=true then (if ((mget p0.apex ((⟨p2,p1⟩:Aa))).isSome)=true then (bnd (Bg p0 x3) fun r4=>
 bnd (Bg p0 x8) fun r5=>
 bnd (Bg p0 p1) fun r6=>
 bnd (Ib r4 r5 r6) fun r7=>
 bnd (Bg p0 x3) fun r8=>
 bnd (Bg p0 x8) fun r9=>
 bnd (Bg p0 p2) fun r35=>
 bnd (Ib r8 r9 r35) fun r38=>
 j5 (decide (0<=(w64 (r7*r38)))))
 else (j5 true))
 else (j5 true))
set_option maxRecDepth 100000 in
instance mesh_builder_p_c (p0:Ag) (p1:Int):Con (Bg p0 p1) Tryz.prog 167 (fun K vs=>∃ (g0_0:Nat) (gm0_0:Nat) (gm0_1:Nat) (A0_0:Option Addr) (c0_0:Nat),vs=[.pointer (some ⟨g0_0,0,none⟩),.int .i64 (p1)]/\Pt K g0_0 0 [.slice (A0_0) ((p0.v).length) (c0_0),.map (some gm0_0),.map (some gm0_1)]/\Has K A0_0 (p0.v).length c0_0 4 Ah (p0.v)/\True) (fun _ r=>fun v Ln=>v = .agg #[.int .i64 (r.X),.int .i64 (r.Y)]/\Ln=[]/\True):=⟨by
 rintro K _ r ⟨g0_0,gm0_0,gm0_1,A0_0,c0_0,rfl,hp0,ha0,-⟩ hx w hK;replace hp0:=Pt.lo hp0 hK;replace ha0:=Has.lo ha0 hK;unfold Bg at hx;refine CtS Tryz.ntmps167 Tryz.results167 ?_;exact au⟩
set_option maxRecDepth 100000 in
instance mesh_builder_put_c (p0:Ag) (p1:Int) (p2:Int) (p3:Int):ConK (Dz p0 p1 p2 p3) Tryz.prog 168 (fun g0_0 gm0_0 gm0_1 A0_0 c0_0 ua0 uc0 vs Lp=>vs=[.pointer (some ⟨g0_0,0,none⟩),.int .i64 (p1),.int .i64 (p2),.int .i64 (p3)]/\Lp=[.m g0_0 165 [.slice (A0_0) ((p0.v).length) (c0_0),.map (some gm0_0),.map (some gm0_1)],Aw Tryz.prog 62 Af Ca gm0_0 (p0.apex),Aw Tryz.prog 62 Af Bh gm0_1 (p0.fixed)]/\ua0=none/\uc0=0/\True) (fun A0_0 c0_0 ua0 uc0 K K2=>Has K A0_0 (p0.v).length c0_0 4 Ah (p0.v)/\True) (fun g0_0 gm0_0 gm0_1 A0_0 c0_0 ua0 uc0 K r=>fun v Ln=>∃ (A0:Option Addr) (c0:Nat),v = .tuple #[]/\Ln=[.m g0_0 165 [.slice (A0) ((r.v).length) (c0),.map (some gm0_0),.map (some gm0_1)],Aw Tryz.prog 62 Af Ca gm0_0 (r.apex),Aw Tryz.prog 62 Af Bh gm0_1 (r.fixed)]/\Has K A0 (r.v).length c0 4 Ah (r.v)/\True):=⟨by
 rintro g0_0 gm0_0 gm0_1 A0_0 c0_0 _ _ K K2 _ _ r ⟨rfl,rfl,rfl,rfl,-⟩ ⟨ha0,-⟩ hx;unfold Dz at hx;refine CtSK Tryz.ntmps168 Tryz.results168 ?_;intro Lf hKf;have hKg:=hKf.r;replace hKf:=hKf.l;refine Vz ?_;exact au⟩
set_option maxRecDepth 100000 in
instance mesh_builder_cut_c (p0:Ag) (p1:Int) (p2:Int) (p3:Int):ConK (Jj p0 p1 p2 p3) Tryz.prog 239 (fun g0_0 gm0_0 gm0_1 A0_0 c0_0 ua0 uc0 vs Lp=>vs=[.pointer (some ⟨g0_0,0,none⟩),.int .i64 (p1),.int .i64 (p2),.int .i64 (p3)]/\Lp=[.m g0_0 165 [.slice (A0_0) ((p0.v).length) (c0_0),.map (some gm0_0),.map (some gm0_1)],Aw Tryz.prog 62 Af Ca gm0_0 (p0.apex),Aw Tryz.prog 62 Af Bh gm0_1 (p0.fixed)]/\ua0=none/\uc0=0/\True) (fun A0_0 c0_0 ua0 uc0 K K2=>Has K A0_0 (p0.v).length c0_0 4 Ah (p0.v)/\True) (fun g0_0 gm0_0 gm0_1 A0_0 c0_0 ua0 uc0 K r=>fun v Ln=>∃ (A0:Option Addr) (c0:Nat),v = .tuple #[]/\Ln=[.m g0_0 165 [.slice (A0) ((r.v).length) (c0),.map (some gm0_0),.map (some gm0_1)],Aw Tryz.prog 62 Af Ca gm0_0 (r.apex),Aw Tryz.prog 62 Af Bh gm0_1 (r.fixed)]/\Has K A0 (r.v).length c0 4 Ah (r.v)/\True):=⟨by
 rintro g0_0 gm0_0 gm0_1 A0_0 c0_0 _ _ K K2 _ _ r ⟨rfl,rfl,rfl,rfl,-⟩ ⟨ha0,-⟩ hx;unfold Jj at hx;refine CtSK Tryz.ntmps239 Tryz.results239 ?_;intro Lf hKf;have hKg:=hKf.r;replace hKf:=hKf.l;refine Vz ?_;exact au⟩
set_option maxHeartbeats 1000000 in
set_option maxRecDepth 100000 in
instance Yy (p0:Ag) (p1:Int) (p2:Int):ConK (Ck p0 p1 p2) Tryz.prog 174 (fun g0_0 gm0_0 gm0_1 A0_0 c0_0 ua0 uc0 vs Lp=>vs=[.pointer (some ⟨g0_0,0,none⟩),.int .i64 (p1),.int .i64 (p2)]/\Lp=[.m g0_0 165 [.slice (A0_0) ((p0.v).length) (c0_0),.map (some gm0_0),.map (some gm0_1)],Aw Tryz.prog 62 Af Ca gm0_0 (p0.apex),Aw Tryz.prog 62 Af Bh gm0_1 (p0.fixed)]/\ua0=none/\uc0=0/\True) (fun A0_0 c0_0 ua0 uc0 K K2=>Has K A0_0 (p0.v).length c0_0 4 Ah (p0.v)/\True) (fun g0_0 gm0_0 gm0_1 A0_0 c0_0 ua0 uc0 K r=>fun v Ln=>∃ (A0:Option Addr) (c0:Nat),v = .bool (r.2)/\Ln=[.m g0_0 165 [.slice (A0) ((r.1.v).length) (c0),.map (some gm0_0),.map (some gm0_1)],Aw Tryz.prog 62 Af Ca gm0_0 (r.1.apex),Aw Tryz.prog 62 Af Bh gm0_1 (r.1.fixed)]/\Has K A0 (r.1.v).length c0 4 Ah (r.1.v)/\True):=⟨by
 rintro g0_0 gm0_0 gm0_1 A0_0 c0_0 _ _ K K2 _ _ r ⟨rfl,rfl,rfl,rfl,-⟩ ⟨ha0,-⟩ hx;unfold Ck at hx;refine CtSK Tryz.ntmps174 Tryz.results174 ?_;intro Lf hKf;have hKg:=hKf.r;replace hKf:=hKf.l;refine Vz ?_;try (refine pre ?_;intros;rename_i hx)
 refine Bn ?_;try (refine pre ?_;intros;rename_i hx)
 apply Jr (γ:=Unit) hx [0,1,2,7,9] (fun s5 y5 f=>(62,.bool (s5))::f) [0,1,2,1003] (fun s5 y5 l=>l);exact kk
 ·intro s5 y5 hx;exact au
 ·intro _ hx;exact au⟩
theorem Xe (p0:Ag) (p1:Int) (p2:Int) {g0_0:Nat} {gm0_0:Nat} {gm0_1:Nat} {K:List Ent} {A0_0:Option Addr} {c0_0:Nat} (ha0:Has K A0_0 (p0.v).length c0_0 4 Ah (p0.v)) {r:Ag × Bool} (hx:Ck p0 p1 p2=some r):CtK Tryz.prog 174 [.pointer (some ⟨g0_0,0,none⟩),.int .i64 (p1),.int .i64 (p2)] K [.m g0_0 165 [.slice (A0_0) ((p0.v).length) (c0_0),.map (some gm0_0),.map (some gm0_1)],Aw Tryz.prog 62 Af Ca gm0_0 (p0.apex),Aw Tryz.prog 62 Af Bh gm0_1 (p0.fixed)] fun v Ln=>∃ (A0:Option Addr) (c0:Nat),v = .bool (r.2)/\Ln=[.m g0_0 165 [.slice (A0) ((r.1.v).length) (c0),.map (some gm0_0),.map (some gm0_1)],Aw Tryz.prog 62 Af Ca gm0_0 (r.1.apex),Aw Tryz.prog 62 Af Bh gm0_1 (r.1.fixed)]/\Has (K++[]) A0 (r.1.v).length c0 4 Ah (r.1.v)/\True:=(CtK.one ((Yy p0 p1 p2).h _ _ _ _ _ _ _  K K _ _ _ ⟨rfl,rfl,rfl,rfl,trivial⟩ ⟨ha0,trivial⟩ hx)).mono (by
  rintro _ _ ⟨_,_,rfl,rfl,f0,-⟩
  exact ⟨_,_,rfl,rfl,Has.up0 f0,trivial⟩)
end Go.Proofs.YtjfndjmabhbicaaGreat
namespace Go.Proofs
open Go.Shelf
def Tryz.laysSort2_ren:Go.Shelf.Ren:=⟨fun | 6=>50 | 15=>120 | 14=>119 | 28=>195 | 29=>196 | 20=>187 | 21=>188 | 22=>189 | 23=>190 | 24=>191 | 25=>192 | 26=>193 | 27=>194 | 46=>245 | 47=>246 | 48=>247 | 49=>248 | 50=>249 | 57=>288 | n=>n,fun | 22=>23 | 24=>62 | 25=>105 | 3=>3 | 39=>177 | 0=>0 | 53=>245 | 55=>185 | 4=>4 | 46=>239 | 45=>238 | 50=>201 | 5=>5 | 9=>9 | 66=>276 | 70=>280 | 76=>307 | 77=>308 | n=>n,fun | n=>n⟩
theorem Tryz.laysSort2:Go.Proofs.SlLaysF0.n6 Tryz.prog Tryz.laysSort2_ren:={
 mixed:=by kernel_rfl
 f6:=⟨Tryz.f50.name,by decide,Tryz.func50.trans (congrArg some (by kernel_rfl))⟩
 f14:=⟨Tryz.f119.name,by decide,Tryz.func119.trans (congrArg some (by kernel_rfl))⟩
 f15:=Tryz.func120.trans (congrArg some (by kernel_rfl))
 f20:=⟨Tryz.f187.name,by decide,Tryz.func187.trans (congrArg some (by kernel_rfl))⟩
 f21:=⟨Tryz.f188.name,by decide,Tryz.func188.trans (congrArg some (by kernel_rfl))⟩
 f22:=⟨Tryz.f189.name,by decide,Tryz.func189.trans (congrArg some (by kernel_rfl))⟩
 f23:=⟨Tryz.f190.name,by decide,Tryz.func190.trans (congrArg some (by kernel_rfl))⟩
 f24:=⟨Tryz.f191.name,by decide,Tryz.func191.trans (congrArg some (by kernel_rfl))⟩
 f25:=⟨Tryz.f192.name,by decide,Tryz.func192.trans (congrArg some (by kernel_rfl))⟩
 f26:=⟨Tryz.f193.name,by decide,Tryz.func193.trans (congrArg some (by kernel_rfl))⟩
 f27:=⟨Tryz.f194.name,by decide,Tryz.func194.trans (congrArg some (by kernel_rfl))⟩
 f28:=Tryz.func195.trans (congrArg some (by kernel_rfl))
 f29:=Tryz.func196.trans (congrArg some (by kernel_rfl))
 f46:=⟨Tryz.f245.name,by decide,Tryz.func245.trans (congrArg some (by kernel_rfl))⟩
 f47:=Tryz.func246.trans (congrArg some (by kernel_rfl))
 f48:=Tryz.func247.trans (congrArg some (by kernel_rfl))
 f49:=⟨Tryz.f248.name,by decide,Tryz.func248.trans (congrArg some (by kernel_rfl))⟩
 f50:=⟨Tryz.f249.name,by decide,Tryz.func249.trans (congrArg some (by kernel_rfl))⟩
 f57:=⟨Tryz.f288.name,by decide,Tryz.func288.trans (congrArg some (by kernel_rfl))⟩
 t0:=Tryz.underlying0
 a0:=Tryz.isAgg0
 z0:=Tryz.sizeOf0
 v0:=Tryz.zeroValue0
 t3:=Tryz.underlying3
 a3:=Tryz.isAgg3
 z3:=Tryz.sizeOf3
 v3:=Tryz.zeroValue3
 t4:=Tryz.underlying4
 a4:=Tryz.isAgg4
 z4:=Tryz.sizeOf4
 v4:=Tryz.zeroValue4
 t5:=Tryz.underlying5
 a5:=Tryz.isAgg5
 z5:=Tryz.sizeOf5
 v5:=Tryz.zeroValue5
 t9:=Tryz.underlying9
 a9:=Tryz.isAgg9
 z9:=Tryz.sizeOf9
 v9:=Tryz.zeroValue9
 t22:=Tryz.underlying23
 a22:=Tryz.isAgg23
 z22:=Tryz.sizeOf23
 v22:=Tryz.zeroValue23
 t25:=Tryz.underlying105
 a25:=Tryz.isAgg105
 z25:=Tryz.sizeOf105
 v25:=Tryz.zeroValue105
 t39:=Tryz.underlying177
 a39:=Tryz.isAgg177
 z39:=Tryz.sizeOf177
 v39:=Tryz.zeroValue177
 t45:=Tryz.underlying238
 a45:=Tryz.isAgg238
 z45:=Tryz.sizeOf238
 v45:=Tryz.zeroValue238
 t46:=Tryz.underlying239
 a46:=Tryz.isAgg239
 z46:=Tryz.sizeOf239
 v46:=Tryz.zeroValue239
 t50:=Tryz.underlying201
 a50:=Tryz.isAgg201
 z50:=Tryz.sizeOf201
 v50:=Tryz.zeroValue201
 t53:=Tryz.underlying245
 a53:=Tryz.isAgg245
 z53:=Tryz.sizeOf245
 v53:=Tryz.zeroValue245
 t55:=Tryz.underlying185
 a55:=Tryz.isAgg185
 z55:=Tryz.sizeOf185
 v55:=Tryz.zeroValue185
 t66:=Tryz.underlying276
 a66:=Tryz.isAgg276
 z66:=Tryz.sizeOf276
 v66:=Tryz.zeroValue276
 t70:=Tryz.underlying280
 a70:=Tryz.isAgg280
 z70:=Tryz.sizeOf280
 v70:=Tryz.zeroValue280
 t76:=Tryz.underlying307
 a76:=Tryz.isAgg307
 z76:=Tryz.sizeOf307
 v76:=Tryz.zeroValue307
 t77:=Tryz.underlying308
 a77:=Tryz.isAgg308
 z77:=Tryz.sizeOf308
 v77:=Tryz.zeroValue308 }
def Tryz.laysSort3_ren:Go.Shelf.Ren:=⟨fun | 6=>176 | 15=>120 | 14=>241 | 28=>195 | 29=>196 | 20=>280 | 21=>281 | 22=>282 | 23=>283 | 24=>284 | 25=>285 | 26=>286 | 27=>287 | 46=>304 | 47=>246 | 48=>247 | 49=>305 | 50=>306 | 57=>309 | n=>n,fun | 22=>30 | 24=>94 | 25=>231 | 3=>3 | 39=>177 | 0=>0 | 53=>245 | 55=>185 | 4=>4 | 46=>239 | 45=>238 | 50=>201 | 5=>5 | 9=>9 | 66=>276 | 70=>280 | 76=>307 | 77=>308 | n=>n,fun | n=>n⟩
theorem Tryz.laysSort3:Go.Proofs.SlLaysF0.n6 Tryz.prog Tryz.laysSort3_ren:={
 mixed:=by kernel_rfl
 f6:=⟨Tryz.f176.name,by decide,Tryz.func176.trans (congrArg some (by kernel_rfl))⟩
 f14:=⟨Tryz.f241.name,by decide,Tryz.func241.trans (congrArg some (by kernel_rfl))⟩
 f15:=Tryz.func120.trans (congrArg some (by kernel_rfl))
 f20:=⟨Tryz.f280.name,by decide,Tryz.func280.trans (congrArg some (by kernel_rfl))⟩
 f21:=⟨Tryz.f281.name,by decide,Tryz.func281.trans (congrArg some (by kernel_rfl))⟩
 f22:=⟨Tryz.f282.name,by decide,Tryz.func282.trans (congrArg some (by kernel_rfl))⟩
 f23:=⟨Tryz.f283.name,by decide,Tryz.func283.trans (congrArg some (by kernel_rfl))⟩
 f24:=⟨Tryz.f284.name,by decide,Tryz.func284.trans (congrArg some (by kernel_rfl))⟩
 f25:=⟨Tryz.f285.name,by decide,Tryz.func285.trans (congrArg some (by kernel_rfl))⟩
 f26:=⟨Tryz.f286.name,by decide,Tryz.func286.trans (congrArg some (by kernel_rfl))⟩
 f27:=⟨Tryz.f287.name,by decide,Tryz.func287.trans (congrArg some (by kernel_rfl))⟩
 f28:=Tryz.func195.trans (congrArg some (by kernel_rfl))
 f29:=Tryz.func196.trans (congrArg some (by kernel_rfl))
 f46:=⟨Tryz.f304.name,by decide,Tryz.func304.trans (congrArg some (by kernel_rfl))⟩
 f47:=Tryz.func246.trans (congrArg some (by kernel_rfl))
 f48:=Tryz.func247.trans (congrArg some (by kernel_rfl))
 f49:=⟨Tryz.f305.name,by decide,Tryz.func305.trans (congrArg some (by kernel_rfl))⟩
 f50:=⟨Tryz.f306.name,by decide,Tryz.func306.trans (congrArg some (by kernel_rfl))⟩
 f57:=⟨Tryz.f309.name,by decide,Tryz.func309.trans (congrArg some (by kernel_rfl))⟩
 t0:=Tryz.underlying0
 a0:=Tryz.isAgg0
 z0:=Tryz.sizeOf0
 v0:=Tryz.zeroValue0
 t3:=Tryz.underlying3
 a3:=Tryz.isAgg3
 z3:=Tryz.sizeOf3
 v3:=Tryz.zeroValue3
 t4:=Tryz.underlying4
 a4:=Tryz.isAgg4
 z4:=Tryz.sizeOf4
 v4:=Tryz.zeroValue4
 t5:=Tryz.underlying5
 a5:=Tryz.isAgg5
 z5:=Tryz.sizeOf5
 v5:=Tryz.zeroValue5
 t9:=Tryz.underlying9
 a9:=Tryz.isAgg9
 z9:=Tryz.sizeOf9
 v9:=Tryz.zeroValue9
 t22:=Tryz.underlying30
 a22:=Tryz.isAgg30
 z22:=Tryz.sizeOf30
 v22:=Tryz.zeroValue30
 t25:=Tryz.underlying231
 a25:=Tryz.isAgg231
 z25:=Tryz.sizeOf231
 v25:=Tryz.zeroValue231
 t39:=Tryz.underlying177
 a39:=Tryz.isAgg177
 z39:=Tryz.sizeOf177
 v39:=Tryz.zeroValue177
 t45:=Tryz.underlying238
 a45:=Tryz.isAgg238
 z45:=Tryz.sizeOf238
 v45:=Tryz.zeroValue238
 t46:=Tryz.underlying239
 a46:=Tryz.isAgg239
 z46:=Tryz.sizeOf239
 v46:=Tryz.zeroValue239
 t50:=Tryz.underlying201
 a50:=Tryz.isAgg201
 z50:=Tryz.sizeOf201
 v50:=Tryz.zeroValue201
 t53:=Tryz.underlying245
 a53:=Tryz.isAgg245
 z53:=Tryz.sizeOf245
 v53:=Tryz.zeroValue245
 t55:=Tryz.underlying185
 a55:=Tryz.isAgg185
 z55:=Tryz.sizeOf185
 v55:=Tryz.zeroValue185
 t66:=Tryz.underlying276
 a66:=Tryz.isAgg276
 z66:=Tryz.sizeOf276
 v66:=Tryz.zeroValue276
 t70:=Tryz.underlying280
 a70:=Tryz.isAgg280
 z70:=Tryz.sizeOf280
 v70:=Tryz.zeroValue280
 t76:=Tryz.underlying307
 a76:=Tryz.isAgg307
 z76:=Tryz.sizeOf307
 v76:=Tryz.zeroValue307
 t77:=Tryz.underlying308
 a77:=Tryz.isAgg308
 z77:=Tryz.sizeOf308
 v77:=Tryz.zeroValue308 }
def Tryz.laysSort1_ren:Go.Shelf.Ren:=⟨fun | 6=>170 | 15=>120 | 14=>238 | 28=>195 | 29=>196 | 20=>271 | 21=>272 | 22=>273 | 23=>274 | 24=>275 | 25=>276 | 26=>277 | 27=>278 | 46=>301 | 47=>246 | 48=>247 | 49=>302 | 50=>303 | 57=>308 | n=>n,fun | 22=>48 | 24=>3 | 25=>226 | 3=>3 | 39=>177 | 0=>0 | 53=>245 | 55=>185 | 4=>4 | 46=>239 | 45=>238 | 50=>201 | 5=>5 | 9=>9 | 66=>276 | 70=>280 | 76=>307 | 77=>308 | n=>n,fun | n=>n⟩
theorem Tryz.laysSort1:Go.Proofs.SlLaysF.n6 Tryz.prog Tryz.laysSort1_ren:={
 mixed:=by kernel_rfl
 f6:=⟨Tryz.f170.name,by decide,Tryz.func170.trans (congrArg some (by kernel_rfl))⟩
 f14:=⟨Tryz.f238.name,by decide,Tryz.func238.trans (congrArg some (by kernel_rfl))⟩
 f15:=Tryz.func120.trans (congrArg some (by kernel_rfl))
 f20:=⟨Tryz.f271.name,by decide,Tryz.func271.trans (congrArg some (by kernel_rfl))⟩
 f21:=⟨Tryz.f272.name,by decide,Tryz.func272.trans (congrArg some (by kernel_rfl))⟩
 f22:=⟨Tryz.f273.name,by decide,Tryz.func273.trans (congrArg some (by kernel_rfl))⟩
 f23:=⟨Tryz.f274.name,by decide,Tryz.func274.trans (congrArg some (by kernel_rfl))⟩
 f24:=⟨Tryz.f275.name,by decide,Tryz.func275.trans (congrArg some (by kernel_rfl))⟩
 f25:=⟨Tryz.f276.name,by decide,Tryz.func276.trans (congrArg some (by kernel_rfl))⟩
 f26:=⟨Tryz.f277.name,by decide,Tryz.func277.trans (congrArg some (by kernel_rfl))⟩
 f27:=⟨Tryz.f278.name,by decide,Tryz.func278.trans (congrArg some (by kernel_rfl))⟩
 f28:=Tryz.func195.trans (congrArg some (by kernel_rfl))
 f29:=Tryz.func196.trans (congrArg some (by kernel_rfl))
 f46:=⟨Tryz.f301.name,by decide,Tryz.func301.trans (congrArg some (by kernel_rfl))⟩
 f47:=Tryz.func246.trans (congrArg some (by kernel_rfl))
 f48:=Tryz.func247.trans (congrArg some (by kernel_rfl))
 f49:=⟨Tryz.f302.name,by decide,Tryz.func302.trans (congrArg some (by kernel_rfl))⟩
 f50:=⟨Tryz.f303.name,by decide,Tryz.func303.trans (congrArg some (by kernel_rfl))⟩
 f57:=⟨Tryz.f308.name,by decide,Tryz.func308.trans (congrArg some (by kernel_rfl))⟩
 t0:=Tryz.underlying0
 a0:=Tryz.isAgg0
 z0:=Tryz.sizeOf0
 v0:=Tryz.zeroValue0
 t3:=Tryz.underlying3
 a3:=Tryz.isAgg3
 z3:=Tryz.sizeOf3
 v3:=Tryz.zeroValue3
 t4:=Tryz.underlying4
 a4:=Tryz.isAgg4
 z4:=Tryz.sizeOf4
 v4:=Tryz.zeroValue4
 t5:=Tryz.underlying5
 a5:=Tryz.isAgg5
 z5:=Tryz.sizeOf5
 v5:=Tryz.zeroValue5
 t9:=Tryz.underlying9
 a9:=Tryz.isAgg9
 z9:=Tryz.sizeOf9
 v9:=Tryz.zeroValue9
 t22:=Tryz.underlying48
 a22:=Tryz.isAgg48
 z22:=Tryz.sizeOf48
 v22:=Tryz.zeroValue48
 a24:=Tryz.isAgg3
 z24:=Tryz.sizeOf3
 t25:=Tryz.underlying226
 a25:=Tryz.isAgg226
 z25:=Tryz.sizeOf226
 v25:=Tryz.zeroValue226
 t39:=Tryz.underlying177
 a39:=Tryz.isAgg177
 z39:=Tryz.sizeOf177
 v39:=Tryz.zeroValue177
 t45:=Tryz.underlying238
 a45:=Tryz.isAgg238
 z45:=Tryz.sizeOf238
 v45:=Tryz.zeroValue238
 t46:=Tryz.underlying239
 a46:=Tryz.isAgg239
 z46:=Tryz.sizeOf239
 v46:=Tryz.zeroValue239
 t50:=Tryz.underlying201
 a50:=Tryz.isAgg201
 z50:=Tryz.sizeOf201
 v50:=Tryz.zeroValue201
 t53:=Tryz.underlying245
 a53:=Tryz.isAgg245
 z53:=Tryz.sizeOf245
 v53:=Tryz.zeroValue245
 t55:=Tryz.underlying185
 a55:=Tryz.isAgg185
 z55:=Tryz.sizeOf185
 v55:=Tryz.zeroValue185
 t66:=Tryz.underlying276
 a66:=Tryz.isAgg276
 z66:=Tryz.sizeOf276
 v66:=Tryz.zeroValue276
 t70:=Tryz.underlying280
 a70:=Tryz.isAgg280
 z70:=Tryz.sizeOf280
 v70:=Tryz.zeroValue280
 t76:=Tryz.underlying307
 a76:=Tryz.isAgg307
 z76:=Tryz.sizeOf307
 v76:=Tryz.zeroValue307
 t77:=Tryz.underlying308
 a77:=Tryz.isAgg308
 z77:=Tryz.sizeOf308
 v77:=Tryz.zeroValue308 }
end Go.Proofs
namespace Go.Proofs.YtjfndjmabhbicaaGreat
open Go Go.RowKit Go.Shelf Go.Lib Go.Sort
theorem Abz {P:Program} {f:FuncId} (h:Uj P f):∀ (args:Array Value) (w:World),(callFunc f args).run P w = .ok (.enter f args) w:=by
 obtain ⟨fn,h1,h2,h3⟩:=h
 obtain ⟨c,hc⟩:∃ c,fn.body=some c:=by cases hb:fn.body with
  | none=>rw[hb] at h3;cases h3
  | some c=>exact ⟨c,rfl⟩
 exact enters_of h1 h2 hc
def Aho (z:Int):Prop:=-1000000000000<=z/\z<=1000000000000
instance (z:Int):Decidable (Aho z):=by unfold Aho;infer_instance
def Km (x:Aa):Prop:=Aho x.a0/\Aho x.a1
instance (x:Aa):Decidable (Km x):=by unfold Km;infer_instance
def cmp2 (x y:Aa):Int:=if x.a0=y.a0 then x.a1-y.a1 else x.a0-y.a0
theorem Yk (x y:Aa):cmp2 x y < 0↔x.a0 < y.a0\/x.a0=y.a0/\x.a1 < y.a1:=by unfold cmp2;split <;> omega
theorem tot2:Ww Km cmp2 where
 irr x _:=by rw[Yk];omega
 trans x y z _ _ _ h1 h2:=by rw[Yk] at *;omega
 tot x y _ _ h1 h2:=by
  rw[Yk] at h1 h2
  obtain ⟨x0,x1⟩:=x
  obtain ⟨y0,y1⟩:=y
  simp only at h1 h2
  rw[show x0=y0 by omega,show x1=y1 by omega]
theorem Ab0 {x y:Aa} (hx:Km x) (hy:Km y):Su x y=some (cmp2 x y):=by
 obtain ⟨⟨_,_⟩,_,_⟩:=hx
 obtain ⟨⟨_,_⟩,_,_⟩:=hy
 unfold Su cmp2
 split <;> (rw[Ay (by omega) (by omega)])
theorem Zp (l:List Aa) (hb:l.length<=1000000000) (hp:∀ x∈l,Km x) {A:Option Addr} {m c:Nat} {t:TypeId} {gf:Nat} {cb:Array Value} (w:World) (hok:Ent.ok w (.r A m c t 2 (l.flatMap Ak)))
  (hcmp:Abr Tryz.prog Km cmp2 (fun x=>.agg #[.int .i64 x.a0,.int .i64 x.a1]) A m c t 2 gf cb w (l.flatMap Ak)) (eg:Uj Tryz.prog gf):Abq Tryz.prog 50 A m c t 2 gf cb w (l.flatMap Ak) ((Au cmp2 l).flatMap Ak) :=
 Afv (ρ:=Tryz.laysSort2_ren) Tryz.laysSort2 (k:=2) Tryz.isAgg62 Tryz.sizeOf62 (enc:=Ak) (fun _=>rfl) (by decide) (fun x v hv=>by simp[Ak] at hv;rcases hv with rfl | rfl <;> rfl) tot2 (Abz eg) l hb hp w hok hcmp
def Ug (x:Ae):Prop:=True
instance (x:Ae):Decidable (Ug x):=by unfold Ug;infer_instance
def cmpI (x y:Int):Int:=if x < y then -1 else if y < x then 1 else 0
theorem Am6 (x y:Int):cmpI x y < 0↔x < y:=by
 unfold cmpI
 split
 ·omega
 ·split <;> omega
theorem Aur (x y:Int):cmpI x y=0↔x=y:=by
 unfold cmpI
 split
 ·omega
 ·split <;> omega
def cmp3 (x y:Ae):Int:=if cmpI x.a0 y.a0=0 then if cmpI x.a1 y.a1=0 then cmpI x.a2 y.a2 else cmpI x.a1 y.a1 else cmpI x.a0 y.a0
theorem Yl (x y:Ae):cmp3 x y < 0↔x.a0 < y.a0\/x.a0=y.a0/\(x.a1 < y.a1\/x.a1=y.a1/\x.a2 < y.a2):=by
 unfold cmp3
 simp only[Aur]
 split
 ·split <;> rw[Am6] <;> omega
 ·rw[Am6];omega
theorem tot3:Ww Ug cmp3 where
 irr x _:=by rw[Yl];omega
 trans x y z _ _ _ h1 h2:=by rw[Yl] at *;omega
 tot x y _ _ h1 h2:=by
  rw[Yl] at h1 h2
  obtain ⟨x0,x1,x2⟩:=x
  obtain ⟨y0,y1,y2⟩:=y
  simp only at h1 h2
  rw[show x0=y0 by omega,show x1=y1 by omega,show x2=y2 by omega]
theorem Aus (x y:Int):Me x y=some (cmpI x y):=by
 unfold Me Oo cmpI
 simp only[bnd,decide_true,Bool.not_true,Bool.false_eq_true,if_false]
 split
 ·rfl
 ·split <;> rfl
theorem Aaz {x y:Ae} (hx:Ug x) (hy:Ug y):Ez x y=some (cmp3 x y):=by
 obtain ⟨x0,x1,x2⟩:=x
 obtain ⟨y0,y1,y2⟩:=y
 unfold Ez Gt jn cmp3
 simp only
 have step:∀ i:Int,Bq [x0,x1,x2] [y0,y1,y2] i=if i < 3 then bnd (idx [x0,x1,x2] i) fun a=>bnd (idx [y0,y1,y2] i) fun b=>if cmpI a b=0 then some (.inl (w64 (i+1))) else some (.inr (.inr (cmpI a b))) else some (.inr (.inl ())):=by
  intro i
  unfold Bq
  simp only[Aus,List.length_cons,List.length_nil]
  by_cases h:i < 3
  ·rw[if_pos (by omega),if_pos h]
   congr 1
   funext a
   rw[if_neg (by omega)]
   rfl
  ·rw[if_neg (by omega),if_neg h]
 have w1:w64 (0+1)=1:=Ay (by omega) (by omega)
 have w2:w64 (1+1)=2:=Ay (by omega) (by omega)
 have w3:w64 (2+1)=3:=Ay (by omega) (by omega)
 have i0:∀ a b c:Int,idx [a,b,c] 0=some a:=fun _ _ _=>rfl
 have i1:∀ a b c:Int,idx [a,b,c] 1=some b:=fun _ _ _=>rfl
 have i2:∀ a b c:Int,idx [a,b,c] 2=some c:=fun _ _ _=>rfl
 have s0:Bq [x0,x1,x2] [y0,y1,y2] 0=if cmpI x0 y0=0 then some (.inl 1) else some (.inr (.inr (cmpI x0 y0))):=by rw[step,if_pos (by omega),w1];simp only[i0,bnd]
 have s1:Bq [x0,x1,x2] [y0,y1,y2] 1=if cmpI x1 y1=0 then some (.inl 2) else some (.inr (.inr (cmpI x1 y1))):=by rw[step,if_pos (by omega),w2];simp only[i1,bnd]
 have s2:Bq [x0,x1,x2] [y0,y1,y2] 2=if cmpI x2 y2=0 then some (.inl 3) else some (.inr (.inr (cmpI x2 y2))):=by rw[step,if_pos (by omega),w3];simp only[i2,bnd]
 have s3:Bq [x0,x1,x2] [y0,y1,y2] 3=some (.inr (.inl ())):=by rw[step,if_neg (by omega)]
 rw[Bk,s0]
 by_cases h0:cmpI x0 y0=0
 ·rw[if_pos h0,if_pos h0]
  simp only
  rw[Bk,s1]
  by_cases h1:cmpI x1 y1=0
  ·rw[if_pos h1,if_pos h1]
   simp only
   rw[Bk,s2]
   by_cases h2:cmpI x2 y2=0
   ·rw[if_pos h2,h2]
    simp only
    rw[Bk,s3]
    simp[bnd]
   ·rw[if_neg h2]
    simp[bnd]
  ·rw[if_neg h1,if_neg h1]
   simp[bnd]
 ·rw[if_neg h0,if_neg h0]
  simp[bnd]
theorem Ad7 (l:List Ae) (hb:l.length<=1000000000) (hp:∀ x∈l,Ug x) {A:Option Addr} {m c:Nat} {t:TypeId} {gf:Nat} {cb:Array Value} (w:World) (hok:Ent.ok w (.r A m c t 3 (l.flatMap Bc)))
  (hcmp:Abr Tryz.prog Ug cmp3 (fun x=>.agg #[.int .i64 x.a0,.int .i64 x.a1,.int .i64 x.a2]) A m c t 3 gf cb w (l.flatMap Bc)) (eg:Uj Tryz.prog gf):Abq Tryz.prog 176 A m c t 3 gf cb w (l.flatMap Bc) ((Au cmp3 l).flatMap Bc) :=
 Afv (ρ:=Tryz.laysSort3_ren) Tryz.laysSort3 (k:=3) Tryz.isAgg94 Tryz.sizeOf94 (enc:=Bc) (fun _=>rfl) (by decide) (fun x v hv=>by simp[Bc] at hv;rcases hv with rfl | rfl | rfl <;> rfl) tot3 (Abz eg) l hb hp w hok hcmp
def befV (a b:Ab):Prop:=a.X < b.X\/a.X=b.X/\a.Y < b.Y
instance (a b:Ab):Decidable (befV a b):=by unfold befV;infer_instance
def Tt (a b:Ab):Prop:=a.X=b.X/\a.Y=b.Y
instance (a b:Ab):Decidable (Tt a b):=by unfold Tt;infer_instance
def Fj (v:List Ab):Prop:=v.Pairwise fun a b=>¬ Tt a b
instance (v:List Ab):Decidable (Fj v):=by unfold Fj;infer_instance
def okIx (v:List Ab) (i:Int):Prop:=0<=i/\i < (v.length:Int)
instance (v:List Ab) (i:Int):Decidable (okIx v i):=by unfold okIx;infer_instance
def cmpR (v:List Ab) (i j:Int):Int:=match idx v i,idx v j with
 | some a,some b=>if befV a b then -1 else if befV b a then 1 else 0
 | _,_=>0
theorem Ik {v:List Ab} {i:Int} (h:okIx v i):∃ (k:Nat) (hk:k < v.length),i=(k:Int)/\idx v i=some v[k]:=by
 obtain ⟨h0,h1⟩:=h
 obtain ⟨k,rfl⟩:=Int.eq_ofNat_of_zero_le h0
 have hk:k < v.length:=by omega
 exact ⟨k,hk,rfl,Bb hk⟩
theorem Sj {v:List Ab} {i j:Nat} (hi:i < v.length) (hj:j < v.length):cmpR v (i:Int) (j:Int) < 0↔befV v[i] v[j]:=by
 unfold cmpR
 rw[Bb hi,Bb hj]
 simp only
 split
 ·simp_all
 ·split <;> simp_all
theorem totR {v:List Ab} (hd:Fj v):Ww (okIx v) (cmpR v) where
 irr x hx:=by
  obtain ⟨i,hi,rfl,_⟩:=Ik hx
  rw[Sj hi hi]
  unfold befV
  omega
 trans x y z hx hy hz h1 h2:=by
  obtain ⟨i,hi,rfl,_⟩:=Ik hx
  obtain ⟨j,hj,rfl,_⟩:=Ik hy
  obtain ⟨k,hk,rfl,_⟩:=Ik hz
  rw[Sj hi hj] at h1
  rw[Sj hj hk] at h2
  rw[Sj hi hk]
  unfold befV at *
  omega
 tot x y hx hy h1 h2:=by
  obtain ⟨i,hi,rfl,_⟩:=Ik hx
  obtain ⟨j,hj,rfl,_⟩:=Ik hy
  rw[Sj hi hj] at h1
  rw[Sj hj hi] at h2
  have hs:Tt v[i] v[j]:=by unfold befV at h1 h2;unfold Tt;omega
  unfold Fj at hd
  rw[List.pairwise_iff_getElem] at hd
  rcases Nat.lt_trichotomy i j with h | h | h
  ·exact absurd hs (hd i j hi hj h)
  ·rw[h]
  ·exact absurd ⟨hs.1.symm,hs.2.symm⟩ (hd j i hj hi h)
theorem Ao6 (a b:Ab):Eo ⟨a.X,a.Y⟩ ⟨b.X,b.Y⟩=some (decide (befV a b)):=by
 unfold Eo jn befV
 simp only
 by_cases h1:a.X < b.X
 ·simp[h1]
 ·by_cases h2:a.X=b.X
  ·simp[h2]
  ·simp[h1,h2]
theorem Ao7 (v:List Ab) {x y:Int} (hx:okIx v x) (hy:okIx v y):So x y v=some (cmpR v x y):=by
 obtain ⟨i,hi,rfl,ei⟩:=Ik hx
 obtain ⟨j,hj,rfl,ej⟩:=Ik hy
 unfold So cmpR
 simp only[ei,ej,bnd,Cu,Ao6,decide_eq_true_eq]
 split
 ·rfl
 ·split <;> rfl
theorem Aje (v:List Ab) (hd:Fj v) (l:List Int) (hb:l.length<=1000000000) (hp:∀ x∈l,okIx v x) {A:Option Addr} {m c:Nat} {t:TypeId} {gf:Nat} {cb:Array Value} (w:World) (hok:Ent.ok w (.r A m c t 1 (l.flatMap Aq)))
  (hcmp:Abr Tryz.prog (okIx v) (cmpR v) (fun x=>.int .i64 x) A m c t 1 gf cb w (l.flatMap Aq)) (eg:Uj Tryz.prog gf):Abq Tryz.prog 170 A m c t 1 gf cb w (l.flatMap Aq) ((Au (cmpR v) l).flatMap Aq) :=
 Amn (ρ:=Tryz.laysSort1_ren) Tryz.laysSort1 (enc:=Value.int .i64) (fun _=>rfl) (totR hd) (Abz eg) l hb hp w hok hcmp
end Go.Proofs.YtjfndjmabhbicaaGreat
