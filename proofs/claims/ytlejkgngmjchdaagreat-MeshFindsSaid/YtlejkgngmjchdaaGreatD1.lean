import Derived.Test.YtlejkgngmjchdaaGreatFlow19
import Derived.Test.YtlejkgngmjchdaaGreatProg
import Derived.Shelf.Lays
import Derived.Shelf.SlSortCmp.NoneTotal
import Derived.Ground.SlsfProg
import Derived.Ground.NamesProg
import Derived.Shelf.Sort.Plain
import Derived.Shelf.Slices.In.SortNone
set_option maxRecDepth 100000
set_option maxHeartbeats 1000000
namespace Go.Proofs.YtlejkgngmjchdaaGreat
open Go Go.RowKit Tryz
theorem mixed:prog.follows .mixedOrders=true:=kr
instance:MixI prog:=⟨mixed⟩
instance:Dz prog 44 0 0:=⟨.mk underlying44 rfl rfl (kr:prog.info? 3=some Tryz.t3) (kr:Tryz.t3.size=1) rfl⟩
theorem one3:Ud prog 3:=.mk underlying3 rfl (kr:prog.info? 3=some Tryz.t3) kr
instance:OneI prog 3:=⟨one3⟩
instance:Dz prog 44 1 1:=⟨.mk underlying44 rfl rfl (kr:prog.info? 3=some Tryz.t3) (kr:Tryz.t3.size=1) rfl⟩
instance:Sd prog 44 [iq 0,iq 0]:=⟨⟨_,zeroValue44,rfl⟩⟩
instance:Dz prog 30 1 1:=⟨.mk underlying30 rfl rfl (kr:prog.info? 3=some Tryz.t3) (kr:Tryz.t3.size=1) rfl⟩
instance:Dz prog 30 2 2:=⟨.mk underlying30 rfl rfl (kr:prog.info? 3=some Tryz.t3) (kr:Tryz.t3.size=1) rfl⟩
instance(x0:Int)(x1:Int):Jg prog 44 [(0,iq x0),(1,iq x1)] [iq x0,iq x1]:=⟨fun w=>kr⟩
theorem Bao:Uc prog 44 2:=.mk underlying44 rfl (kr:prog.info? 44=some t44) kr
instance:AggI prog 44 2:=⟨Bao⟩
instance:Dz prog 30 0 0:=⟨.mk underlying30 rfl rfl (kr:prog.info? 3=some Tryz.t3) (kr:Tryz.t3.size=1) rfl⟩
instance:AggI prog 30 9:=⟨.mk underlying30 rfl (kr:prog.info? 30=some t30) kr⟩
instance:Dz prog 30 3 3:=⟨.mk underlying30 rfl rfl (kr:prog.info? 28=some t28) (kr:t28.size=2) rfl⟩
instance:Dz prog 28 0 0:=⟨.mk underlying28 rfl rfl (kr:prog.info? 3=some Tryz.t3) (kr:Tryz.t3.size=1) rfl⟩
instance:Dz prog 28 1 1:=⟨.mk underlying28 rfl rfl (kr:prog.info? 3=some Tryz.t3) (kr:Tryz.t3.size=1) rfl⟩
instance:Lj prog 112 30 9:=⟨.mk underlying112 (kr:prog.info? 30=some t30) kr⟩
instance:AggI prog 32 10:=⟨.mk underlying32 rfl (kr:prog.info? 32=some t32) kr⟩
instance(x0:Int)(x1:Int)(x2:Int)(x3:Int)(x4:Int)(x5:Int)(x6:Int)(x7:Int)(x8:Int):Kg prog 112 1 [(0,.agg #[iq x0,iq x1,iq x2,iq x3,iq x4,iq x5,iq x6,iq x7,iq x8])] 30 [iq x0,iq x1,iq x2,iq x3,iq x4,iq x5,iq x6,iq x7,iq x8]:=⟨fun w=>kr⟩
instance:Zm prog 112 30 9 72:=⟨⟨underlying112,⟨t30,.agg #[iq 0,iq 0,iq 0,iq 0,iq 0,iq 0,iq 0,iq 0,iq 0],kr,kr,kr,kr,rfl⟩,dD⟩⟩
instance:Lj prog 107 44 2:=⟨.mk underlying107 (kr:prog.info? 44=some t44) kr⟩
def Ao(x:Int):LV:=[iq x]
instance(x0:Int):DecI Ao [iq x0] x0:=⟨rfl⟩
instance:EncI 3 Ao:=⟨trivial⟩
structure Ad where
 X:Int
 Y:Int
structure Af where
 Lo:Int
 Hi:Int
structure Kt where
 Id:Int
 X:Int
 Y:Int
 Z:Af
 Wide:Int
 Num:Int
 Of:Int
 Class:Int
structure Ae where
 Neg:Bool
 L:LI
structure Aj where
 N:Ae
 D:LI
structure Co where
 X:Aj
 Y:Aj
structure Aa where
 X:Int
 Y:Int
 Z:Af
structure As where
 Neg:Bool
 Num:LI
 Den:LI
structure S_api_Stop where
 At:As
 In:Bool
 Lo:As
 Hi:As
structure S_lidarref06_Stop where
 At:Aj
 In:Bool
 Lo:Aj
 Hi:Aj
instance:UndI prog 112 (.slice 30):=⟨underlying112⟩
def Du(x:Int):Value:=iq x
theorem Xo(x y:Int)(h:Du x=Du y):x=y:=by simpa[Du] using h
instance(x:Int):UnfI Du x (iq x):=⟨rfl⟩
instance(x0:Int):Zn Du (iq x0) x0:=⟨rfl⟩
instance:ValI prog 3 Du 0:=⟨Xo,fun w=>kr⟩
theorem key3:Maps.Keyed prog 3:=Maps.int_keyed underlying3
theorem isk3(x:Int)(h:(-9223372036854775808<=x/\x<=9223372036854775807)):(keyOf prog 3 (Du x)).isSome=true:=Bcv underlying3 (Ahk h)
instance:KeyI prog 3 Du (fun x=>(-9223372036854775808<=x/\x<=9223372036854775807)):=⟨key3,Xo,isk3⟩
instance:UndI prog 313 (.map 3 4):=⟨underlying313⟩
def Cc(x:Bool):Value:=.bool x
theorem Aon(x y:Bool)(h:Cc x=Cc y):x=y:=by simpa[Cc] using h
instance(x:Bool):UnfI Cc x (.bool x):=⟨rfl⟩
instance(x0:Bool):Zn Cc (.bool x0) x0:=⟨rfl⟩
instance:ValI prog 4 Cc false:=⟨Aon,fun w=>kr⟩
def Aem(x:Kt):LV:=[iq x.Id,iq x.X,iq x.Y,iq x.Z.Lo,iq x.Z.Hi,iq x.Wide,iq x.Num,iq x.Of,iq x.Class]
instance(x0:Int)(x1:Int)(x2:Int)(x3:Int)(x4:Int)(x5:Int)(x6:Int)(x7:Int)(x8:Int):DecI Aem [iq x0,iq x1,iq x2,iq x3,iq x4,iq x5,iq x6,iq x7,iq x8] (⟨x0,x1,x2,⟨x3,x4⟩,x5,x6,x7,x8⟩):=⟨rfl⟩
instance:EncI 30 Aem:=⟨trivial⟩
structure Abp where
 Cell:Int
 Reach:Int
 Slope:Int
 Link:Int
 Flat:Int
 Tall:Int
 High:Int
 Low:Int
 Brush:Int
 Few:Int
instance:UndI prog 4 (.bool):=⟨underlying4⟩
instance:UndI prog 107 (.slice 44):=⟨underlying107⟩
def Ag9(x:Ad):LV:=[iq x.X,iq x.Y]
instance(x0:Int)(x1:Int):DecI Ag9 [iq x0,iq x1] (⟨x0,x1⟩):=⟨rfl⟩
instance:EncI 44 Ag9:=⟨trivial⟩
instance:OneI prog 112:=⟨.mk underlying112 rfl (kr:prog.info? 112=some t112) kr⟩
instance:OneI prog 189:=⟨.mk underlying189 rfl (kr:prog.info? 189=some t189) kr⟩
instance(x0:Int)(x1:Int):Kg prog 107 1 [(0,.agg #[iq x0,iq x1])] 44 [iq x0,iq x1]:=⟨fun w=>kr⟩
instance:Zm prog 107 44 2 16:=⟨⟨underlying107,⟨t44,.agg #[iq 0,iq 0],kr,kr,kr,kr,rfl⟩,dD⟩⟩
def Rq(x:Ad):Value:=.agg #[iq x.X,iq x.Y]
theorem Ac6(x y:Ad)(h:Rq x=Rq y):x=y:=by
 rcases x with⟨_,_⟩;rcases y with⟨_,_⟩;simp[Rq] at h;simp[h]
instance(x:Ad):UnfI Rq x (.agg #[iq x.X,iq x.Y]):=⟨rfl⟩
instance(x0:Int)(x1:Int):Zn Rq (.agg #[iq x0,iq x1]) (⟨x0,x1⟩):=⟨rfl⟩
instance:ValI prog 44 Rq ((⟨0,0⟩:Ad)):=⟨Ac6,fun w=>kr⟩
theorem Amj:laidOutB prog=true:=kr
theorem Bcl:(match prog.underlying 44 with|some (.array _ _)|some (.struct _)=>true|_=>false)=true:=kr
theorem Bee:Maps.Keyed prog 44:=Maps.Keyed.of_law (deep_law_laid Amj (m:=3) oo (of_decide_eq_true kr) kr Bcl)
theorem Bef(x:Ad)(h:(-9223372036854775808<=x.X/\x.X<=9223372036854775807)/\(-9223372036854775808<=x.Y/\x.Y<=9223372036854775807)):(keyOf prog 44 (Rq x)).isSome=true:=by
 refine Aos (cs:=[iq x.X,iq x.Y]) (d:=403) kr underlying44 kr kr kr (fun f hf=>?_);simp only[List.mem_cons,List.not_mem_nil,or_false] at hf;rcases hf with rfl|rfl
 .exact⟨.i64,x.X,underlying3,kr,Ahk h.1⟩
 .exact⟨.i64,x.Y,underlying3,kr,Ahk h.2⟩
instance:KeyI prog 44 Rq (fun x=>(-9223372036854775808<=x.X/\x.X<=9223372036854775807)/\(-9223372036854775808<=x.Y/\x.Y<=9223372036854775807)):=⟨Bee,Ac6,Bef⟩
instance:UndI prog 314 (.map 44 30):=⟨underlying314⟩
def Sm(x:Kt):Value:=.agg #[iq x.Id,iq x.X,iq x.Y,iq x.Z.Lo,iq x.Z.Hi,iq x.Wide,iq x.Num,iq x.Of,iq x.Class]
theorem Ae4(x y:Kt)(h:Sm x=Sm y):x=y:=by
 rcases x with⟨_,_,_,⟨_,_⟩,_,_,_,_⟩;rcases y with⟨_,_,_,⟨_,_⟩,_,_,_,_⟩;simp[Sm] at h;simp[h]
instance(x:Kt):UnfI Sm x (.agg #[iq x.Id,iq x.X,iq x.Y,iq x.Z.Lo,iq x.Z.Hi,iq x.Wide,iq x.Num,iq x.Of,iq x.Class]):=⟨rfl⟩
instance(x0:Int)(x1:Int)(x2:Int)(x3:Int)(x4:Int)(x5:Int)(x6:Int)(x7:Int)(x8:Int):Zn Sm (.agg #[iq x0,iq x1,iq x2,iq x3,iq x4,iq x5,iq x6,iq x7,iq x8]) (⟨x0,x1,x2,⟨x3,x4⟩,x5,x6,x7,x8⟩):=⟨rfl⟩
instance:ValI prog 30 Sm ((⟨0,0,0,(⟨0,0⟩:Af),0,0,0,0⟩:Kt)):=⟨Ae4,fun w=>kr⟩
end Go.Proofs.YtlejkgngmjchdaaGreat
namespace Go.Proofs
open Go.Shelf Tryz
theorem lk0{α:Type _}{a b:α}(h:a=b:=by kernel_rfl):some a=some b:=congrArg some h
def Tryz.laysSort2_ren:Go.Shelf.Ren:=⟨fun|6=>94|15=>189|14=>188|28=>259|29=>260|20=>251|21=>252|22=>253|23=>254|24=>255|25=>256|26=>257|27=>258|46=>303|47=>304|48=>305|49=>306|50=>307|57=>352|n=>n,fun|22=>24|24=>99|25=>170|3=>3|39=>254|0=>0|53=>245|55=>242|4=>4|46=>300|45=>299|50=>226|5=>5|9=>9|66=>340|70=>344|76=>376|77=>268|n=>n,fun|n=>n⟩
theorem Tryz.laysSort2:Go.Proofs.SlLaysF0.n6 prog laysSort2_ren:={
 mixed:=by kernel_rfl
 f6:=⟨f94.name,by decide,func94.trans lk0⟩
 f14:=⟨f188.name,by decide,func188.trans lk0⟩
 f15:=func189.trans lk0
 f20:=⟨f251.name,by decide,func251.trans lk0⟩
 f21:=⟨f252.name,by decide,func252.trans lk0⟩
 f22:=⟨f253.name,by decide,func253.trans lk0⟩
 f23:=⟨f254.name,by decide,func254.trans lk0⟩
 f24:=⟨f255.name,by decide,func255.trans lk0⟩
 f25:=⟨f256.name,by decide,func256.trans lk0⟩
 f26:=⟨f257.name,by decide,func257.trans lk0⟩
 f27:=⟨f258.name,by decide,func258.trans lk0⟩
 f28:=func259.trans lk0
 f29:=func260.trans lk0
 f46:=⟨f303.name,by decide,func303.trans lk0⟩
 f47:=func304.trans lk0
 f48:=func305.trans lk0
 f49:=⟨f306.name,by decide,func306.trans lk0⟩
 f50:=⟨f307.name,by decide,func307.trans lk0⟩
 f57:=⟨f352.name,by decide,func352.trans lk0⟩
 t0:=underlying0
 a0:=isAgg0
 z0:=sizeOf0
 v0:=zeroValue0
 t3:=underlying3
 a3:=isAgg3
 z3:=sizeOf3
 v3:=zeroValue3
 t4:=underlying4
 a4:=isAgg4
 z4:=sizeOf4
 v4:=zeroValue4
 t5:=underlying5
 a5:=isAgg5
 z5:=sizeOf5
 v5:=zeroValue5
 t9:=underlying9
 a9:=isAgg9
 z9:=sizeOf9
 v9:=zeroValue9
 t22:=underlying24
 a22:=isAgg24
 z22:=sizeOf24
 v22:=zeroValue24
 t25:=underlying170
 a25:=isAgg170
 z25:=sizeOf170
 v25:=zeroValue170
 t39:=underlying254
 a39:=isAgg254
 z39:=sizeOf254
 v39:=zeroValue254
 t45:=underlying299
 a45:=isAgg299
 z45:=sizeOf299
 v45:=zeroValue299
 t46:=underlying300
 a46:=isAgg300
 z46:=sizeOf300
 v46:=zeroValue300
 t50:=underlying226
 a50:=isAgg226
 z50:=sizeOf226
 v50:=zeroValue226
 t53:=underlying245
 a53:=isAgg245
 z53:=sizeOf245
 v53:=zeroValue245
 t55:=underlying242
 a55:=isAgg242
 z55:=sizeOf242
 v55:=zeroValue242
 t66:=underlying340
 a66:=isAgg340
 z66:=sizeOf340
 v66:=zeroValue340
 t70:=underlying344
 a70:=isAgg344
 z70:=sizeOf344
 v70:=zeroValue344
 t76:=underlying376
 a76:=isAgg376
 z76:=sizeOf376
 v76:=zeroValue376
 t77:=underlying268
 a77:=isAgg268
 z77:=sizeOf268
 v77:=zeroValue268}
def Tryz.laysSort3_ren:Go.Shelf.Ren:=⟨fun|6=>220|15=>189|14=>284|28=>259|29=>260|20=>333|21=>334|22=>335|23=>336|24=>337|25=>338|26=>339|27=>340|46=>360|47=>304|48=>305|49=>361|50=>362|57=>366|n=>n,fun|22=>23|24=>122|25=>283|3=>3|39=>254|0=>0|53=>245|55=>242|4=>4|46=>300|45=>299|50=>226|5=>5|9=>9|66=>340|70=>344|76=>376|77=>268|n=>n,fun|n=>n⟩
theorem Tryz.laysSort3:Go.Proofs.SlLaysF0.n6 prog laysSort3_ren:={
 mixed:=by kernel_rfl
 f6:=⟨f220.name,by decide,func220.trans lk0⟩
 f14:=⟨f284.name,by decide,func284.trans lk0⟩
 f15:=func189.trans lk0
 f20:=⟨f333.name,by decide,func333.trans lk0⟩
 f21:=⟨f334.name,by decide,func334.trans lk0⟩
 f22:=⟨f335.name,by decide,func335.trans lk0⟩
 f23:=⟨f336.name,by decide,func336.trans lk0⟩
 f24:=⟨f337.name,by decide,func337.trans lk0⟩
 f25:=⟨f338.name,by decide,func338.trans lk0⟩
 f26:=⟨f339.name,by decide,func339.trans lk0⟩
 f27:=⟨f340.name,by decide,func340.trans lk0⟩
 f28:=func259.trans lk0
 f29:=func260.trans lk0
 f46:=⟨f360.name,by decide,func360.trans lk0⟩
 f47:=func304.trans lk0
 f48:=func305.trans lk0
 f49:=⟨f361.name,by decide,func361.trans lk0⟩
 f50:=⟨f362.name,by decide,func362.trans lk0⟩
 f57:=⟨f366.name,by decide,func366.trans lk0⟩
 t0:=underlying0
 a0:=isAgg0
 z0:=sizeOf0
 v0:=zeroValue0
 t3:=underlying3
 a3:=isAgg3
 z3:=sizeOf3
 v3:=zeroValue3
 t4:=underlying4
 a4:=isAgg4
 z4:=sizeOf4
 v4:=zeroValue4
 t5:=underlying5
 a5:=isAgg5
 z5:=sizeOf5
 v5:=zeroValue5
 t9:=underlying9
 a9:=isAgg9
 z9:=sizeOf9
 v9:=zeroValue9
 t22:=underlying23
 a22:=isAgg23
 z22:=sizeOf23
 v22:=zeroValue23
 t25:=underlying283
 a25:=isAgg283
 z25:=sizeOf283
 v25:=zeroValue283
 t39:=underlying254
 a39:=isAgg254
 z39:=sizeOf254
 v39:=zeroValue254
 t45:=underlying299
 a45:=isAgg299
 z45:=sizeOf299
 v45:=zeroValue299
 t46:=underlying300
 a46:=isAgg300
 z46:=sizeOf300
 v46:=zeroValue300
 t50:=underlying226
 a50:=isAgg226
 z50:=sizeOf226
 v50:=zeroValue226
 t53:=underlying245
 a53:=isAgg245
 z53:=sizeOf245
 v53:=zeroValue245
 t55:=underlying242
 a55:=isAgg242
 z55:=sizeOf242
 v55:=zeroValue242
 t66:=underlying340
 a66:=isAgg340
 z66:=sizeOf340
 v66:=zeroValue340
 t70:=underlying344
 a70:=isAgg344
 z70:=sizeOf344
 v70:=zeroValue344
 t76:=underlying376
 a76:=isAgg376
 z76:=sizeOf376
 v76:=zeroValue376
 t77:=underlying268
 a77:=isAgg268
 z77:=sizeOf268
 v77:=zeroValue268}
def Tryz.laysSort1_ren:Go.Shelf.Ren:=⟨fun|6=>214|15=>189|14=>281|28=>259|29=>260|20=>324|21=>325|22=>326|23=>327|24=>328|25=>329|26=>330|27=>331|46=>357|47=>304|48=>305|49=>358|50=>359|57=>365|n=>n,fun|22=>58|24=>3|25=>259|3=>3|39=>254|0=>0|53=>245|55=>242|4=>4|46=>300|45=>299|50=>226|5=>5|9=>9|66=>340|70=>344|76=>376|77=>268|n=>n,fun|n=>n⟩
theorem Tryz.laysSort1:Go.Proofs.SlLaysF.n6 prog laysSort1_ren:={
 mixed:=by kernel_rfl
 f6:=⟨f214.name,by decide,func214.trans lk0⟩
 f14:=⟨f281.name,by decide,func281.trans lk0⟩
 f15:=func189.trans lk0
 f20:=⟨f324.name,by decide,func324.trans lk0⟩
 f21:=⟨f325.name,by decide,func325.trans lk0⟩
 f22:=⟨f326.name,by decide,func326.trans lk0⟩
 f23:=⟨f327.name,by decide,func327.trans lk0⟩
 f24:=⟨f328.name,by decide,func328.trans lk0⟩
 f25:=⟨f329.name,by decide,func329.trans lk0⟩
 f26:=⟨f330.name,by decide,func330.trans lk0⟩
 f27:=⟨f331.name,by decide,func331.trans lk0⟩
 f28:=func259.trans lk0
 f29:=func260.trans lk0
 f46:=⟨f357.name,by decide,func357.trans lk0⟩
 f47:=func304.trans lk0
 f48:=func305.trans lk0
 f49:=⟨f358.name,by decide,func358.trans lk0⟩
 f50:=⟨f359.name,by decide,func359.trans lk0⟩
 f57:=⟨f365.name,by decide,func365.trans lk0⟩
 t0:=underlying0
 a0:=isAgg0
 z0:=sizeOf0
 v0:=zeroValue0
 t3:=underlying3
 a3:=isAgg3
 z3:=sizeOf3
 v3:=zeroValue3
 t4:=underlying4
 a4:=isAgg4
 z4:=sizeOf4
 v4:=zeroValue4
 t5:=underlying5
 a5:=isAgg5
 z5:=sizeOf5
 v5:=zeroValue5
 t9:=underlying9
 a9:=isAgg9
 z9:=sizeOf9
 v9:=zeroValue9
 t22:=underlying58
 a22:=isAgg58
 z22:=sizeOf58
 v22:=zeroValue58
 a24:=isAgg3
 z24:=sizeOf3
 t25:=underlying259
 a25:=isAgg259
 z25:=sizeOf259
 v25:=zeroValue259
 t39:=underlying254
 a39:=isAgg254
 z39:=sizeOf254
 v39:=zeroValue254
 t45:=underlying299
 a45:=isAgg299
 z45:=sizeOf299
 v45:=zeroValue299
 t46:=underlying300
 a46:=isAgg300
 z46:=sizeOf300
 v46:=zeroValue300
 t50:=underlying226
 a50:=isAgg226
 z50:=sizeOf226
 v50:=zeroValue226
 t53:=underlying245
 a53:=isAgg245
 z53:=sizeOf245
 v53:=zeroValue245
 t55:=underlying242
 a55:=isAgg242
 z55:=sizeOf242
 v55:=zeroValue242
 t66:=underlying340
 a66:=isAgg340
 z66:=sizeOf340
 v66:=zeroValue340
 t70:=underlying344
 a70:=isAgg344
 z70:=sizeOf344
 v70:=zeroValue344
 t76:=underlying376
 a76:=isAgg376
 z76:=sizeOf376
 v76:=zeroValue376
 t77:=underlying268
 a77:=isAgg268
 z77:=sizeOf268
 v77:=zeroValue268}
end Go.Proofs
namespace Go.Proofs.YtlejkgngmjchdaaGreat
open Go Go.RowKit Go.Shelf Go.Sort Tryz
end Go.Proofs.YtlejkgngmjchdaaGreat
namespace Go.Proofs.YtlejkgngmjchdaaGreat
open Go Go.RowKit Tryz
instance:OneI prog 58:=⟨.mk underlying58 rfl (kr:prog.info? 58=some t58) kr⟩
instance:Sd prog 58 [.slice none 0 0]:=⟨⟨_,zeroValue58,rfl⟩⟩
theorem Axg:Yq prog 58 3 1 8:=⟨underlying58,⟨Tryz.t3,iq 0,kr,kr,kr,kr,rfl⟩,dD⟩
instance:Zm prog 58 3 1 8:=⟨Axg⟩
theorem Ac7(x0:Int):Ot prog 58 1 [(0,iq x0)] 3 [iq x0]:=fun w=>kr
instance(x0:Int):Kg prog 58 1 [(0,iq x0)] 3 [iq x0]:=⟨Ac7 _⟩
theorem Gu:Mi prog 217 245 1:=.mk underlying217 (kr:prog.info? 245=some t245) kr
instance:Lj prog 217 245 1:=⟨Gu⟩
theorem Gg:Ud prog 245:=.mk underlying245 rfl (kr:prog.info? 245=some t245) kr
instance:OneI prog 245:=⟨Gg⟩
instance(x0:Int)(x1:Int):Kg prog 217 2 [(0,.int .u32 x0),(1,.int .u32 x1)] 245 [.int .u32 x0,.int .u32 x1]:=⟨fun w=>kr⟩
instance:Sd prog 219 [.bool false,.slice none 0 0,.slice none 0 0]:=⟨⟨_,zeroValue219,rfl⟩⟩
theorem Ac8:Rt prog 219 0 0:=.mk underlying219 rfl rfl (kr:prog.info? 4=some Tryz.t4) (kr:Tryz.t4.size=1) rfl
instance:Dz prog 219 0 0:=⟨Ac8⟩
theorem one4:Ud prog 4:=.mk underlying4 rfl (kr:prog.info? 4=some Tryz.t4) kr
instance:OneI prog 4:=⟨one4⟩
theorem Aad:Rt prog 219 1 1:=.mk underlying219 rfl rfl (kr:prog.info? 217=some t217) (kr:t217.size=1) rfl
instance:Dz prog 219 1 1:=⟨Aad⟩
theorem Vs:Ud prog 217:=.mk underlying217 rfl (kr:prog.info? 217=some t217) kr
instance:OneI prog 217:=⟨Vs⟩
theorem Vt:Rt prog 219 2 2:=.mk underlying219 rfl rfl (kr:prog.info? 217=some t217) (kr:t217.size=1) rfl
instance:Dz prog 219 2 2:=⟨Vt⟩
instance(x0:Bool)(x1:OA)(x2:Nat)(x3:Nat)(x4:OA)(x5:Nat)(x6:Nat):Jg prog 219 [(0,.bool x0),(1,.slice x1 x2 x3),(2,.slice x4 x5 x6)] [.bool x0,.slice x1 x2 x3,.slice x4 x5 x6]:=⟨fun w=>kr⟩
theorem Aoo:Uc prog 219 3:=.mk underlying219 rfl (kr:prog.info? 219=some t219) kr
instance:AggI prog 219 3:=⟨Aoo⟩
theorem Tx(x0:Int):Ot prog 217 1 [(0,.int .u32 x0)] 245 [.int .u32 x0]:=fun w=>kr
instance(x0:Int):Kg prog 217 1 [(0,.int .u32 x0)] 245 [.int .u32 x0]:=⟨Tx _⟩
instance(x0:Int)(x1:Int)(x2:Int)(x3:Int)(x4:Int)(x5:Int):Kg prog 107 3 [(0,.agg #[iq x0,iq x1]),(1,.agg #[iq x2,iq x3]),(2,.agg #[iq x4,iq x5])] 44 [iq x0,iq x1,iq x2,iq x3,iq x4,iq x5]:=⟨fun w=>kr⟩
instance(x0:Int)(x1:Int)(x2:Int)(x3:Int)(x4:Int)(x5:Int)(x6:Int)(x7:Int):Kg prog 107 4 [(0,.agg #[iq x0,iq x1]),(1,.agg #[iq x2,iq x3]),(2,.agg #[iq x4,iq x5]),(3,.agg #[iq x6,iq x7])] 44 [iq x0,iq x1,iq x2,iq x3,iq x4,iq x5,iq x6,iq x7]:=⟨fun w=>kr⟩
instance:Dz prog 105 0 0:=⟨.mk underlying105 rfl rfl (kr:prog.info? 3=some Tryz.t3) (kr:Tryz.t3.size=1) rfl⟩
instance:Dz prog 105 1 1:=⟨.mk underlying105 rfl rfl (kr:prog.info? 3=some Tryz.t3) (kr:Tryz.t3.size=1) rfl⟩
theorem Ab8:Uc prog 105 4:=.mk underlying105 rfl (kr:prog.info? 105=some t105) kr
instance:AggI prog 105 4:=⟨Ab8⟩
instance:Dz prog 105 2 2:=⟨.mk underlying105 rfl rfl (kr:prog.info? 28=some t28) (kr:t28.size=2) rfl⟩
instance:AggI prog 28 2:=⟨.mk underlying28 rfl (kr:prog.info? 28=some t28) kr⟩
theorem Aq3:Wo prog 99 [iq 0,iq 0]:=⟨_,zeroValue99,rfl⟩
instance:Sd prog 99 [iq 0,iq 0]:=⟨Aq3⟩
theorem Aae(x0:Int)(x1:Int):Ac4 prog 99 [(0,iq x0),(1,iq x1)] [iq x0,iq x1]:=fun w=>kr
instance(x0:Int)(x1:Int):Jg prog 99 [(0,iq x0),(1,iq x1)] [iq x0,iq x1]:=⟨Aae _ _⟩
theorem Vu:Uc prog 99 2:=.arr underlying99 (kr:prog.info? 99=some t99) kr
instance:AggI prog 99 2:=⟨Vu⟩
theorem Amk:Ahl prog 99 2 1:=.mk underlying99 (kr:prog.info? 3=some Tryz.t3) kr
instance:ArrI prog 99 2 1:=⟨Amk⟩
instance(x0:Int)(x1:Int)(x2:Int)(x3:Int)(x4:Int)(x5:Int):Jg prog 266 [(0,.agg #[iq x0,iq x1]),(1,.agg #[iq x2,iq x3]),(2,.agg #[iq x4,iq x5])] [iq x0,iq x1,iq x2,iq x3,iq x4,iq x5]:=⟨fun w=>kr⟩
theorem Beg(a0:Int)(a1:Int)(b0:Int)(b1:Int):∀w,(Op.equalIn 10000 44 (.agg #[iq a0,iq a1]) (.agg #[iq b0,iq b1])).run prog w=.ok (((a0==b0)&&((a1==b1)&&true))) w :=
 EqF.struct underlying44 kr (.cons rfl (fun w=>kr) (fun w=>kr) (fun w=>run_equalIn_int w 9998 3 .i64 .i64 _ _ underlying3) (.cons rfl (fun w=>kr) (fun w=>kr) (fun w=>run_equalIn_int w 9998 3 .i64 .i64 _ _ underlying3) EqF.nil))
instance(a0:Int)(a1:Int)(b0:Int)(b1:Int):EqSI prog 44 [iq a0,iq a1] [iq b0,iq b1] (((a0==b0)&&((a1==b1)&&true))):=⟨Beg _ _ _ _,kr⟩
instance:UndI prog 217 (.slice 245):=⟨underlying217⟩
def Ak(x:Int):LV:=[.int .u32 x]
instance(x0:Int):DecI Ak [.int .u32 x0] x0:=⟨rfl⟩
instance:EncI 245 Ak:=⟨trivial⟩
noncomputable def Hh  : LI->Option (Sum LI LI):=fun s0=>
 jn (fun (s6:Bool)=>
 if s6=true then (gd (0<=(w64 ((s0.length:Int)-1))/\(w64 ((s0.length:Int)-1))<=(s0.length:Int))<|
 some (.inl (subl s0 0 (w64 ((s0.length:Int)-1)))))
 else (some (.inr s0)))
 (fun j6=>if 0<(s0.length:Int) then (bnd (idx s0 (w64 ((s0.length:Int)-1))) fun x0=>
 j6 (decide (x0=0)))
 else (j6 false))
noncomputable def Bh(p0:LI):Option LI:=
 jn (fun (s2:LI)=>
 some s2)
 (fun j2=>bnd (lfix Hh p0) fun t0=>
 j2 t0)
instance:UndI prog 242 (.int .u64):=⟨underlying242⟩
instance:UndI prog 245 (.int .u32):=⟨underlying245⟩
noncomputable def Ku(p0:Int):Option LI:=
 bnd (Bh ([wu32 p0,wu32 (shr_ .u64 p0 32)])) fun r3=>
 some r3
noncomputable def Ht(p0:Int)(p1:Int)(p2:Int):Option (Int×Int):=
 some (wu32 (wu64 ((wu64 ((wu64 p0)+(wu64 p1)))+(wu64 p2))),wu32 (shr_ .u64 (wu64 ((wu64 ((wu64 p0)+(wu64 p1)))+(wu64 p2))) 32))
noncomputable def Mo(p0:Int)(p1:Int)(p2:Int):Option (Int×Int):=
 some (wu32 ((wu32 (p0-p1))-p2),shr_ .u32 (Fb .u32 (Rs .u32 (Aao .u32 (if IntKind.signed .u32 then -1 else IntKind.max .u32) p0) p1) (Rs .u32 (Aao .u32 (if IntKind.signed .u32 then -1 else IntKind.max .u32) (Aao .u32 p0 p1)) (wu32 ((wu32 (p0-p1))-p2)))) 31)
instance:MkI prog 217 245 1 4 Ak 0:=⟨t245,.int .u32 0,underlying217,kr,kr,rfl,kr,kr⟩
noncomputable def Lc(p1:LI)(s0:LI×Int)(x0:Int):(LI×Int×Int)->Option (Sum (LI×Int×Int) (LI×Int)):=fun s1=>
 if s1.2.2<(p1.length:Int) then (bnd (idx p1 s1.2.2) fun x1=>
 bnd (idx s1.1 (w64 (s0.2+s1.2.2))) fun x2=>
 bnd (idx s1.1 (w64 (s0.2+s1.2.2))) fun x3=>
 some (.inl (setI s1.1 (w64 (s0.2+s1.2.2)) (wu32 (wu64 ((wu64 ((wu64 ((wu64 x0)*(wu64 x1)))+(wu64 x2)))+s1.2.1))),shr_ .u64 (wu64 ((wu64 ((wu64 ((wu64 x0)*(wu64 x1)))+(wu64 x2)))+s1.2.1)) 32,w64 (s1.2.2+1))))
 else (some (.inr (s1.1,s1.2.1)))
noncomputable def Ld(p0:LI)(p1:LI):(LI×Int)->Option (Sum (LI×Int) LI):=fun s0=>
 if s0.2<(p0.length:Int) then (bnd (idx p0 s0.2) fun x0=>
 jn (fun (s1:LI×Int)=>
 bnd (idx s1.1 (w64 (s0.2+(p1.length:Int)))) fun x1=>
 some (.inl (setI s1.1 (w64 (s0.2+(p1.length:Int))) (wu32 s1.2),w64 (s0.2+1))))
 (fun j0=>bnd (lfix (Lc p1 s0 x0) (s0.1,0,0)) fun t0=>
 j0 t0))
 else (some (.inr s0.1))
noncomputable def Ck(p0:LI)(p1:LI):Option LI:=
 gd ((0:Int)<=(w64 ((p0.length:Int)+(p1.length:Int)))/\4*Int.toNat (w64 ((p0.length:Int)+(p1.length:Int)))<=140737488355328)<|
 jn (fun (s3:LI)=>
 bnd (Bh s3) fun r0=>
 some r0)
 (fun j3=>bnd (lfix (Ld p0 p1) (List.replicate (Int.toNat (w64 ((p0.length:Int)+(p1.length:Int)))) (0:Int),0)) fun t0=>
 j3 t0)
noncomputable def Qv(p0:LI)(p1:LI):Int->Option (Sum Int (Sum Unit Int)):=fun s0=>
 if 0<=s0 then (bnd (idx p0 s0) fun x0=>
 bnd (idx p1 s0) fun x1=>
 if x0=x1 then (some (.inl (w64 (s0-1))))
 else (bnd (idx p0 s0) fun x2=>
 bnd (idx p1 s0) fun x3=>
 if x2<x3 then (some (.inr (.inr (-1))))
 else (some (.inr (.inr 1)))))
 else (some (.inr (.inl ())))
noncomputable def Jd(p0:LI)(p1:LI):Option Int :=
 if (p0.length:Int)=(p1.length:Int) then (jn (fun (s8:Unit)=>
 some 0)
 (fun j8=>bnd (lfix (Qv p0 p1) (w64 ((p0.length:Int)-1))) fun t0=>
 (match t0 with
 |(.inl z0)=>j8 z0
 |(.inr z0)=>some z0
 )))
 else (if (p0.length:Int)<(p1.length:Int) then (some (-1))
 else (some 1))
noncomputable def Le(s2:LI×LI):(LI×Int×Int)->Option (Sum (LI×Int×Int) (LI×Int)):=fun s0=>
 if s0.2.2<(s2.1.length:Int) then (jn (fun (s1:Int)=>
 bnd (idx s2.1 s0.2.2) fun x0=>
 bnd (Ht x0 s1 s0.2.1) fun r0=>
 bnd (idx s0.1 s0.2.2) fun x1=>
 some (.inl (setI s0.1 s0.2.2 r0.1,r0.2,w64 (s0.2.2+1))))
 (fun j0=>if s0.2.2<(s2.2.length:Int) then (bnd (idx s2.2 s0.2.2) fun x2=>
 j0 x2)
 else (j0 0)))
 else (some (.inr (s0.1,s0.2.1)))
noncomputable def Kv(p0:LI)(p1:LI):Option LI:=
 jn (fun (s2:LI×LI)=>
 gd ((0:Int)<=(w64 ((s2.1.length:Int)+1))/\4*Int.toNat (w64 ((s2.1.length:Int)+1))<=140737488355328)<|
 jn (fun (s6:LI×Int)=>
 bnd (idx s6.1 (s2.1.length:Int)) fun x0=>
 bnd (Bh (setI s6.1 (s2.1.length:Int) s6.2)) fun r0=>
 some r0)
 (fun j6=>bnd (lfix (Le s2) (List.replicate (Int.toNat (w64 ((s2.1.length:Int)+1))) (0:Int),0,0)) fun t0=>
 j6 t0))
 (fun j2=>if (p0.length:Int)<(p1.length:Int) then (j2 (p1,p0))
 else (j2 (p0,p1)))
noncomputable def Nz(p0:LI)(p1:LI):(LI×Int×Int)->Option (Sum (LI×Int×Int) LI):=fun s0=>
 if s0.2.2<(p0.length:Int) then (jn (fun (s1:Int)=>
 bnd (idx p0 s0.2.2) fun x0=>
 bnd (Mo x0 s1 s0.2.1) fun r0=>
 bnd (idx s0.1 s0.2.2) fun x1=>
 some (.inl (setI s0.1 s0.2.2 r0.1,r0.2,w64 (s0.2.2+1))))
 (fun j0=>if s0.2.2<(p1.length:Int) then (bnd (idx p1 s0.2.2) fun x2=>
 j0 x2)
 else (j0 0)))
 else (some (.inr s0.1))
noncomputable def Nk(p0:LI)(p1:LI):Option LI:=
 gd ((0:Int)<=(p0.length:Int)/\4*Int.toNat (p0.length:Int)<=140737488355328)<|
 jn (fun (s4:LI)=>
 bnd (Bh s4) fun r0=>
 some r0)
 (fun j4=>bnd (lfix (Nz p0 p1) (List.replicate (Int.toNat (p0.length:Int)) (0:Int),0,0)) fun t0=>
 j4 t0)
structure An where
 neg:Bool
 n:LI
 d:LI
noncomputable def Fy(p0:An)(p1:An):Option An :=
 bnd (Ck p0.n p1.n) fun r4=>
 bnd (Ck p0.d p1.d) fun r0=>
 some (⟨!(p0.neg==p1.neg),r4,r0⟩:An)
noncomputable def Gy(p0:An)(p1:An):Option An :=
 bnd (Ck p0.n p1.d) fun r4=>
 bnd (Ck p1.n p0.d) fun r0=>
 bnd (Ck p0.d p1.d) fun r1=>
 if (p0.neg==p1.neg)=true then (bnd (Kv r4 r0) fun r2=>
 some (⟨p0.neg,r2,r1⟩:An))
 else (bnd (Jd r4 r0) fun r3=>
 if 0<=r3 then (bnd (Nk r4 r0) fun r5=>
 some (⟨p0.neg,r5,r1⟩:An))
 else (bnd (Nk r0 r4) fun r6=>
 some (⟨p1.neg,r6,r1⟩:An)))
noncomputable def Fz(p0:An):Option Int :=
 if (p0.n.length:Int)=0 then (some 0)
 else (if p0.neg=true then (some (-1))
 else (some 1))
instance:UndI prog 3 (.int .i64):=⟨underlying3⟩
noncomputable def Lg(p0:Int):Option An :=
 if p0<0 then (bnd (Ku (wu64 ((wu64 (w64 (-(w64 (p0+1)))))+1))) fun r4=>
 some (⟨true,r4,[1]⟩:An))
 else (bnd (Ku (wu64 p0)) fun r0=>
 some (⟨false,r0,[1]⟩:An))
noncomputable def Mq(p0:List Ad):Int->Option (Sum Int (Sum Unit Bool)):=fun s0=>
 if s0<(p0.length:Int) then (bnd (idx p0 s0) fun x0=>
 jn (fun (s1:Bool)=>
 if s1=true then (some (.inr (.inr false)))
 else (some (.inl (w64 (s0+1)))))
 (fun j0=>if x0.X<(-268435456) then (j0 true)
 else (if 268435456<x0.X then (j0 true)
 else (if x0.Y<(-268435456) then (j0 true)
 else (j0 (decide (268435456<x0.Y)))))))
 else (some (.inr (.inl ())))
noncomputable def Qw(p0:List Ad):Option Bool :=
 jn (fun (s2:Unit)=>
 some true)
 (fun j2=>bnd (lfix (Mq p0) 0) fun t0=>
 (match t0 with
 |(.inl z0)=>j2 z0
 |(.inr z0)=>some z0
 ))
noncomputable def Mr(p0:Int):Option Int :=
 if p0<0 then (some (-1))
 else (if 0<p0 then (some 1)
 else (some 0))
noncomputable def Na(p0:Ad)(p1:Ad)(p2:Ad):Option Int :=
 some (w64 ((w64 ((w64 (p1.X-p0.X))*(w64 (p2.Y-p0.Y))))-(w64 ((w64 (p1.Y-p0.Y))*(w64 (p2.X-p0.X))))))
noncomputable def Sa(p0:Ad)(p1:Ad)(p2:Ad):Option (Int×Int):=
 bnd (Qw ([p0,p1,p2])) fun r6=>
 if r6=true then (bnd (Na p0 p1 p2) fun r0=>
 bnd (Mr r0) fun r1=>
 some (r1,0))
 else (some (0,11))
noncomputable def Sb(p0:Ad)(p1:Ad):Option Int :=
 some (w64 ((w64 ((w64 (p0.X-p1.X))*(w64 (p0.X-p1.X))))+(w64 ((w64 (p0.Y-p1.Y))*(w64 (p0.Y-p1.Y))))))
noncomputable def Te(p0:Ad)(p1:Ad)(p2:Ad)(p3:Ad):Option (Int×Int):=
 bnd (Qw ([p0,p1,p2,p3])) fun r7=>
 if r7=true then (bnd (Na p0 p1 p2) fun r0=>
 bnd (Mr r0) fun r1=>
 if r1=0 then (some (0,12))
 else (bnd (Sb p0 p3) fun r2=>
 bnd (Lg r2) fun r3=>
 bnd (Na p3 p1 p2) fun r4=>
 bnd (Lg r4) fun r5=>
 bnd (Fy r3 r5) fun r6=>
 bnd (Sb p1 p3) fun r8=>
 bnd (Lg r8) fun r9=>
 bnd (Na p3 p2 p0) fun r81=>
 bnd (Lg r81) fun r84=>
 bnd (Fy r9 r84) fun r98=>
 bnd (Gy r6 r98) fun r10=>
 bnd (Sb p2 p3) fun r11=>
 bnd (Lg r11) fun r12=>
 bnd (Na p3 p0 p1) fun r14=>
 bnd (Lg r14) fun r15=>
 bnd (Fy r12 r15) fun r17=>
 bnd (Gy r10 r17) fun r18=>
 bnd (Fz r18) fun r19=>
 some (w64 (r1*r19),0)))
 else (some (0,11))
noncomputable def Wj(p0:Af):Option Bool :=
 jn (fun (s2:Bool)=>
 some s2)
 (fun j2=>if (-1152921504606846976)<=p0.Lo then (if p0.Lo<=p0.Hi then (j2 (decide (p0.Hi<=1152921504606846976)))
 else (j2 false))
 else (j2 false))
noncomputable def Df(p0:Aa):Option Ad :=
 some (⟨p0.X,p0.Y⟩:Ad)
noncomputable def Fm(p0:Ad)(p1:Ad):Option Bool :=
 jn (fun (s2:Bool)=>
 some s2)
 (fun j2=>if p0.X<p1.X then (j2 true)
 else (if p0.X=p1.X then (j2 (decide (p0.Y<p1.Y)))
 else (j2 false)))
noncomputable def Et(p0:Ad)(p1:Ad)(p2:Ad):Option Int :=
 bnd (Sa p0 p1 p2) fun r4=>
 some r4.1
noncomputable def Xp(p0:Aa):Option Bool :=
 bnd (Df (⟨p0.X,p0.Y,(⟨p0.Z.Lo,p0.Z.Hi⟩:Af)⟩:Aa)) fun r2=>
 bnd (Df (⟨p0.X,p0.Y,(⟨p0.Z.Lo,p0.Z.Hi⟩:Af)⟩:Aa)) fun r5=>
 bnd (Df (⟨p0.X,p0.Y,(⟨p0.Z.Lo,p0.Z.Hi⟩:Af)⟩:Aa)) fun r8=>
 bnd (Sa r2 r5 r8) fun r0=>
 jn (fun (s3:Bool)=>
 some s3)
 (fun j3=>if r0.2=0 then (bnd (Wj (⟨p0.Z.Lo,p0.Z.Hi⟩:Af)) fun r1=>
 if r1=true then (if (-268435456)<=p0.Z.Lo then (j3 (decide (p0.Z.Hi<=268435456)))
 else (j3 false))
 else (j3 false))
 else (j3 false))
structure Ab where
 a0:Int
 a1:Int
noncomputable def Gp(p0:Int)(p1:Int):Option Ab :=
 some (⟨min p0 p1,max p0 p1⟩:Ab)
noncomputable def Vv(p0:Ab)(p1:Ab):Option Int :=
 if p0.a0=p1.a0 then (some (w64 (p0.a1-p1.a1)))
 else (some (w64 (p0.a0-p1.a0)))
theorem Bcm(x0:Int)(x1:Int)(x2:Int)(x3:Int)(x4:Int)(x5:Int):Aks prog 266 [iq x0,iq x1,iq x2,iq x3,iq x4,iq x5] [.agg #[iq x0,iq x1],.agg #[iq x2,iq x3],.agg #[iq x4,iq x5]]:=by
 intro j h k w;have h':j<3:=h
 match j,h,h' with
 |0,_,_=>exact (kr:(Instr.index 266 (.agg ([.int .i64 x0,.int .i64 x1,.int .i64 x2,.int .i64 x3,.int .i64 x4,.int .i64 x5]:LV).toArray) (.int k ((0:Nat):Int))).run prog w=.ok (.agg #[.int .i64 x0,.int .i64 x1]) w)
 |1,_,_=>exact (kr:(Instr.index 266 (.agg ([.int .i64 x0,.int .i64 x1,.int .i64 x2,.int .i64 x3,.int .i64 x4,.int .i64 x5]:LV).toArray) (.int k ((1:Nat):Int))).run prog w=.ok (.agg #[.int .i64 x2,.int .i64 x3]) w)
 |2,_,_=>exact (kr:(Instr.index 266 (.agg ([.int .i64 x0,.int .i64 x1,.int .i64 x2,.int .i64 x3,.int .i64 x4,.int .i64 x5]:LV).toArray) (.int k ((2:Nat):Int))).run prog w=.ok (.agg #[.int .i64 x4,.int .i64 x5]) w)
instance(x0:Int)(x1:Int)(x2:Int)(x3:Int)(x4:Int)(x5:Int):Az4 prog 266 [iq x0,iq x1,iq x2,iq x3,iq x4,iq x5] Rq [(⟨x0,x1⟩:Ad),(⟨x2,x3⟩:Ad),(⟨x4,x5⟩:Ad)]:=⟨Bcm _ _ _ _ _ _⟩
noncomputable def Wq(p1:Ad)(p2:Ad)(p3:Ad):(Int×Int×Int)->Option (Sum (Int×Int×Int) (Int×Int)):=fun s0=>
 if s0.2.2<3 then (jn (fun (s1:Int×Int)=>
 some (.inl (s1.1,s1.2,w64 (s0.2.2+1))))
 (fun j0=>bnd (idx [p1,p2,p3] s0.2.2) fun x0=>
 bnd (Fm x0 (⟨s0.1,s0.2.1⟩:Ad)) fun r0=>
 if r0=true then (j0 (x0.X,x0.Y))
 else (j0 (s0.1,s0.2.1))))
 else (some (.inr (s0.1,s0.2.1)))
noncomputable def Tq(p0:Ad)(p1:Ad)(p2:Ad)(p3:Ad):Option Bool :=
 bnd (Te p0 p1 p2 p3) fun r5=>
 if r5.1=0 then (jn (fun (s7:Int×Int)=>
 jn (fun (s0:Bool)=>
 some s0)
 (fun j0=>if (((s7.1==p2.X)&&((s7.2==p2.Y)&&true)))=true then (j0 true)
 else (j0 ((s7.1==p3.X)&&((s7.2==p3.Y)&&true)))))
 (fun j7=>bnd (lfix (Wq p1 p2 p3) (p0.X,p0.Y,0)) fun t0=>
 j7 t0))
 else (some (decide (r5.1<0)))
instance(p0:LI):ConB (Bh p0) prog 238 (fun K vs=>∃E0 G0,vs=[.slice E0 p0.length G0]/\Has K E0 p0.length G0 1 Ak p0/\True) (fun K r v Ln=>∃A0 c0 e,v=.slice A0 r.length c0/\Ln=[e]/\Has (K++[e]) A0 r.length c0 1 Ak r/\True):=⟨by
 rintro K _ r ⟨E0,G0,rfl,ha0,-⟩ hx w hK;unfold Bh at hx;refine CtS ntmps238 results238 ?_;refine pq ?_;intros;rename_i hx
 refine pA ?_;intros;rename_i hx
 apply JrG (γ:=OA×Nat) hx [] (fun s2 y2 f=>(0,.slice y2.1 s2.length y2.2)::f) [999] (fun s2 y2 l=>l) (fun s2 y2=>Has K y2.1 s2.length y2.2 1 Ak s2/\True);exact kk
 .intro s2 y2 hx hG;obtain⟨_,-⟩:=hG;exact au
 .refine pI ?_;intros;rename_i hx
  apply LrG (γ:=OA×Nat) hx [] (fun s0 y0 f=>(0,.slice y0.1 s0.length y0.2)::f) [999] (fun s0 y0 l=>l) (fun s0 y0=>Has K y0.1 s0.length y0.2 1 Ak s0/\True) (_,_);exact kk;exact sF2;exact gG;exact pK2;intro s0 y0 x0 hx _ hG;obtain⟨_,-⟩:=hG;unfold Hh at hx;exact au⟩
instance Ahu(p0:Int):ConB (Ku p0) prog 233 (fun _ vs=>vs=[.int .u64 p0]) (fun K r v Ln=>∃A0 c0 e,v=.slice A0 r.length c0/\Ln=[e]/\Has (K++[e]) A0 r.length c0 1 Ak r/\True):=⟨by
 rintro K _ r rfl hx w hK;unfold Ku at hx;refine CtS ntmps233 results233 ?_;exact au⟩
theorem Aaf(p0:Int){r:LI}(hx:Ku p0=some r)(w:World):CtL prog 233 [.int .u64 p0] w fun v Ln=>∃(A0:OA) (c0:Nat) (e0:Ent),v=.slice A0 r.length c0/\Ln=[e0]/\Has ([e0]:LE) A0 r.length c0 1 Ak r/\True:=CtL.pad 0 ((Ahu p0).h [] _ _ rfl hx w (fun _ h=>absurd h List.not_mem_nil)) (by rintro _ _ ⟨_,_,_,rfl,rfl,h0,-⟩;exact⟨_,_,_,rfl,rfl,h0.padN 0,trivial⟩)
instance Ac9(p0:Int)(p1:Int)(p2:Int):Con (Ht p0 p1 p2) prog 347 (fun _ vs=>vs=[.int .u32 p0,.int .u32 p1,.int .u32 p2]) (fun _ r v Ln=>v=.tuple #[.int .u32 r.1,.int .u32 r.2]/\Ln=[]/\True):=⟨by
 rintro _ _ r rfl hx w hK;unfold Ht at hx;refine CtS ntmps347 results347 ?_;exact au⟩
theorem Ab9(p0:Int)(p1:Int)(p2:Int){r:Int×Int}(hx:Ht p0 p1 p2=some r)(w:World):CtL prog 347 [.int .u32 p0,.int .u32 p1,.int .u32 p2] w fun v Ln=>v=.tuple #[.int .u32 r.1,.int .u32 r.2]/\Ln=[]/\True:=(Ac9 p0 p1 p2).h [] _ _ rfl hx w (fun _ h=>absurd h List.not_mem_nil)
instance(p0:Int)(p1:Int)(p2:Int):Con (Mo p0 p1 p2) prog 351 (fun _ vs=>vs=[.int .u32 p0,.int .u32 p1,.int .u32 p2]) (fun _ r v Ln=>v=.tuple #[.int .u32 r.1,.int .u32 r.2]/\Ln=[]/\True):=⟨by
 rintro _ _ r rfl hx w hK;unfold Mo at hx;refine CtS ntmps351 results351 ?_;exact au⟩
instance(p0:LI)(p1:LI):ConB (Ck p0 p1) prog 301 (fun K vs=>∃E0 G0 E1 G1,vs=[.slice E0 p0.length G0,.slice E1 p1.length G1]/\Has K E0 p0.length G0 1 Ak p0/\Has K E1 p1.length G1 1 Ak p1/\True) (fun K r v Ln=>∃A0 c0 e,v=.slice A0 r.length c0/\Ln=[e]/\Has (K++[e]) A0 r.length c0 1 Ak r/\True):=⟨by
 rintro K _ r ⟨E0,G0,E1,G1,rfl,ha0,ha1,-⟩ hx w hK;unfold Ck at hx;refine CtS ntmps301 results301 ?_;refine pq ?_;intros;rename_i hx
 apply Jr (γ:=OA×Nat) hx [] (fun s3 y3 f=>(5,.slice y3.1 s3.length y3.2)::f) [999] (fun s3 y3 l=>.r y3.1 s3.length y3.2 245 1 (s3.flatMap Ak)::l);exact kk
 .exact aI
 .refine pI ?_;intros;rename_i hx
  apply Lr (γ:=OA×Nat) hx [1,18,19] (fun s0 y0 f=>(5,.slice y0.1 s0.1.length y0.2)::(20,iq s0.2)::f) [999] (fun s0 y0 l=>.r y0.1 s0.1.length y0.2 245 1 (s0.1.flatMap Ak)::l) (_,_);exact kk;exact sk;intro s0 y0 x0 hx _;unfold Ld at hx;refine pq ?_;intros;rename_i hx
  refine Cq1 (s:=21) hx rfl ?_ ?_
  .refine pI ?_;intros;rename_i hx
   refine pA ?_;intros;rename_i hx
   apply Jr (γ:=OA×Nat) hx [1,6,18,19,20] (fun s1 y1 f=>(5,.slice y1.1 s1.1.length y1.2)::(8,.int .u64 s1.2)::f) [999] (fun s1 y1 l=>.r y1.1 s1.1.length y1.2 245 1 (s1.1.flatMap Ak)::l);exact kk
   .exact aI
   .refine pI ?_;intros;rename_i hx
    apply Lr (γ:=OA×Nat) hx [1,6,7,18,19,20,25,26] (fun s2 y2 f=>(5,.slice y2.1 s2.1.length y2.2)::(8,.int .u64 s2.2.1)::(27,iq s2.2.2)::f) [999] (fun s2 y2 l=>.r y2.1 s2.1.length y2.2 245 1 (s2.1.flatMap Ak)::l) (_,_);exact kk;exact sk;intro s2 y2 x1 hx _;unfold Lc at hx;exact au
  .exact aI⟩
instance Ae5(p0:LI)(p1:LI):Con (Jd p0 p1) prog 292 (fun K vs=>∃E0 G0 E1 G1,vs=[.slice E0 p0.length G0,.slice E1 p1.length G1]/\Has K E0 p0.length G0 1 Ak p0/\Has K E1 p1.length G1 1 Ak p1/\True) (fun _ r v Ln=>v=iq r/\Ln=[]/\True):=⟨by
 rintro K _ r ⟨E0,G0,E1,G1,rfl,ha0,ha1,-⟩ hx w hK;replace ha0:=ha0.lo hK;replace ha1:=ha1.lo hK;unfold Jd at hx;have:=dl 8 [0,0,0,1,0,0,0,1,0] [0,1,2,3,4,5,6,7,8];have:=dl 9 [0,0,0,1,0,0,0,1,0] [0,1,2,3,4,5,6,7,8];refine CtS ntmps292 results292 ?_;refine pq ?_;intros;rename_i hx
 refine Cq2 (s:=10) hx rfl ?_ ?_
 .exact aI
 .refine pI ?_;intros;rename_i hx
  apply Jr (γ:=Unit) hx [] (fun s8 y8 f=>f) [999] (fun s8 y8 l=>l);exact kk
  .exact aI
  .refine pI ?_;intros;rename_i hx
   apply Lr (γ:=Unit) hx [0,1] (fun s61 y61 f=>(5,iq s61)::f) [999] (fun s61 y61 l=>l) ();exact kk;exact sk;intro s61 y61 x61 hx _;unfold Qv at hx;exact au⟩
theorem Xq(p0:LI)(p1:LI){K:LE}{E0:OA}{G0:Nat}{E1:OA}{G1:Nat}(ha0:Has K E0 p0.length G0 1 Ak p0)(ha1:Has K E1 p1.length G1 1 Ak p1){r:Int}(hx:Jd p0 p1=some r)(w:World)(hK:∀e∈K,Ent.ok w e):CtL prog 292 [.slice E0 p0.length G0,.slice E1 p1.length G1] w fun v Ln=>v=iq r/\Ln=[]/\True:=(Ae5 p0 p1).h K _ _ ⟨_,_,_,_,rfl,ha0,ha1,trivial⟩ hx w hK
instance Ae6(p0:LI)(p1:LI):ConB (Kv p0 p1) prog 291 (fun K vs=>∃E0 G0 E1 G1,vs=[.slice E0 p0.length G0,.slice E1 p1.length G1]/\Has K E0 p0.length G0 1 Ak p0/\Has K E1 p1.length G1 1 Ak p1/\True) (fun K r v Ln=>∃A0 c0 e,v=.slice A0 r.length c0/\Ln=[e]/\Has (K++[e]) A0 r.length c0 1 Ak r/\True):=⟨by
 rintro K _ r ⟨E0,G0,E1,G1,rfl,ha0,ha1,-⟩ hx w hK;unfold Kv at hx;refine CtS ntmps291 results291 ?_;refine pq ?_;intros;rename_i hx
 refine pA ?_;intros;rename_i hx
 apply JrG (γ:=OA×Nat×OA×Nat) hx [] (fun s2 y2 f=>(0,.slice y2.1 s2.1.length y2.2.1)::(1,.slice y2.2.2.1 s2.2.length y2.2.2.2)::f) [999] (fun s2 y2 l=>l) (fun s2 y2=>Has K y2.1 s2.1.length y2.2.1 1 Ak s2.1/\Has K y2.2.2.1 s2.2.length y2.2.2.2 1 Ak s2.2/\True);exact kk
 .intro s2 y2 hx hG;obtain⟨_,_,-⟩:=hG;refine pq ?_;intros;rename_i hx
  refine pA ?_;intros;rename_i hx
  apply Jr (γ:=OA×Nat) hx [0] (fun s6 y6 f=>(5,.slice y6.1 s6.1.length y6.2)::(6,.int .u32 s6.2)::f) [999] (fun s6 y6 l=>.r y6.1 s6.1.length y6.2 245 1 (s6.1.flatMap Ak)::l);exact kk
  .exact aI
  .refine pI ?_;intros;rename_i hx
   apply Lr (γ:=OA×Nat) hx [0,1,21] (fun s0 y0 f=>(5,.slice y0.1 s0.1.length y0.2)::(6,.int .u32 s0.2.1)::(22,iq s0.2.2)::f) [999] (fun s0 y0 l=>.r y0.1 s0.1.length y0.2 245 1 (s0.1.flatMap Ak)::l) (_,_);exact kk;exact sk;intro s0 y0 x0 hx _;unfold Le at hx;exact au
 .exact aI⟩
theorem Ad5(p0:LI)(p1:LI){K:LE}{E0:OA}{G0:Nat}{E1:OA}{G1:Nat}(ha0:Has K E0 p0.length G0 1 Ak p0)(ha1:Has K E1 p1.length G1 1 Ak p1){r:LI}(hx:Kv p0 p1=some r)(w:World)(hK:∀e∈K,Ent.ok w e):CtL prog 291 [.slice E0 p0.length G0,.slice E1 p1.length G1] w fun v Ln=>∃(A0:OA) (c0:Nat) (e0:Ent),v=.slice A0 r.length c0/\Ln=[e0]/\Has (K++[e0]) A0 r.length c0 1 Ak r/\True:=CtL.pad 0 ((Ae6 p0 p1).h K _ _ ⟨E0,G0,E1,G1,rfl,ha0,ha1,trivial⟩ hx w hK) (by rintro _ _ ⟨_,_,_,rfl,rfl,h0,-⟩;exact⟨_,_,_,rfl,rfl,h0.padN 0,trivial⟩)
instance(p0:LI)(p1:LI):ConB (Nk p0 p1) prog 302 (fun K vs=>∃E0 G0 E1 G1,vs=[.slice E0 p0.length G0,.slice E1 p1.length G1]/\Has K E0 p0.length G0 1 Ak p0/\Has K E1 p1.length G1 1 Ak p1/\True) (fun K r v Ln=>∃A0 c0 e,v=.slice A0 r.length c0/\Ln=[e]/\Has (K++[e]) A0 r.length c0 1 Ak r/\True):=⟨by
 rintro K _ r ⟨E0,G0,E1,G1,rfl,ha0,ha1,-⟩ hx w hK;unfold Nk at hx;refine CtS ntmps302 results302 ?_;refine pq ?_;intros;rename_i hx
 refine pA ?_;intros;rename_i hx
 apply Jr (γ:=OA×Nat) hx [] (fun s4 y4 f=>(5,.slice y4.1 s4.length y4.2)::f) [999] (fun s4 y4 l=>.r y4.1 s4.length y4.2 245 1 (s4.flatMap Ak)::l);exact kk
 .exact aI
 .refine pI ?_;intros;rename_i hx
  apply Lr (γ:=OA×Nat) hx [0,1,13] (fun s0 y0 f=>(5,.slice y0.1 s0.1.length y0.2)::(6,.int .u32 s0.2.1)::(14,iq s0.2.2)::f) [999] (fun s0 y0 l=>.r y0.1 s0.1.length y0.2 245 1 (s0.1.flatMap Ak)::l) (_,_);exact kk;exact sk;intro s0 y0 x0 hx _;unfold Nz at hx;exact au⟩
instance(p0:An)(p1:An):ConB (Fy p0 p1) prog 249 (fun K vs=>∃E0 G0 E1 G1 E2 G2 E3 G3,vs=[.agg #[.bool p0.neg,.slice E0 p0.n.length G0,.slice E1 p0.d.length G1],.agg #[.bool p1.neg,.slice E2 p1.n.length G2,.slice E3 p1.d.length G3]]/\Has K E0 p0.n.length G0 1 Ak p0.n/\Has K E1 p0.d.length G1 1 Ak p0.d/\Has K E2 p1.n.length G2 1 Ak p1.n/\Has K E3 p1.d.length G3 1 Ak p1.d/\True) (fun K r v Ln=>∃A0 c0 A2 c2 e,v=.agg #[.bool r.neg,.slice A0 r.n.length c0,.slice A2 r.d.length c2]/\Ln=[e]/\Has (K++[e]) A0 r.n.length c0 1 Ak r.n/\Has (K++[e]) A2 r.d.length c2 1 Ak r.d/\True):=⟨by
 rintro K _ r ⟨E0,G0,E1,G1,E2,G2,E3,G3,rfl,ha0,ha1,ha2,ha3,-⟩ hx w hK;unfold Fy at hx;have:=dl 1 [0,1,0,1,0,0,1,0,1,2,0,1,0,1,2,0,3] [0,1,2,3,4,5,6,7,8,10,11,12,13,9,14,15,16];refine CtS ntmps249 results249 ?_;exact au⟩
instance(p0:An)(p1:An):ConB (Gy p0 p1) prog 248 (fun K vs=>∃E0 G0 E1 G1 E2 G2 E3 G3,vs=[.agg #[.bool p0.neg,.slice E0 p0.n.length G0,.slice E1 p0.d.length G1],.agg #[.bool p1.neg,.slice E2 p1.n.length G2,.slice E3 p1.d.length G3]]/\Has K E0 p0.n.length G0 1 Ak p0.n/\Has K E1 p0.d.length G1 1 Ak p0.d/\Has K E2 p1.n.length G2 1 Ak p1.n/\Has K E3 p1.d.length G3 1 Ak p1.d/\True) (fun K r v Ln=>∃A0 c0 A2 c2 e,v=.agg #[.bool r.neg,.slice A0 r.n.length c0,.slice A2 r.d.length c2]/\Ln=[e]/\Has (K++[e]) A0 r.n.length c0 1 Ak r.n/\Has (K++[e]) A2 r.d.length c2 1 Ak r.d/\True):=⟨by
 rintro K _ r ⟨E0,G0,E1,G1,E2,G2,E3,G3,rfl,ha0,ha1,ha2,ha3,-⟩ hx w hK;unfold Gy at hx;have:=dl 1 [0,1,0,1,2,0,1,0,1,2,2,2] [0,1,2,3,5,6,7,8,4,9,10,11];have:=dl 4 [0,1,0,0,2,0,0,3] [0,1,2,3,5,4,6,7];have:=dl 6 [0,1,0,0,2,0,0,3] [0,1,2,3,5,4,6,7];have:=dl 7 [0,1,0,0,2,0,0,3] [0,1,2,3,5,4,6,7];refine CtS ntmps248 results248 ?_;refine pq ?_;intros;rename_i hx
 refine Cq3 (s:=27) hx rfl ?_ ?_
 .exact aI
 .exact aI⟩
instance(p0:An):Con (Fz p0) prog 240 (fun K vs=>∃E0 G0 E1 G1,vs=[.agg #[.bool p0.neg,.slice E0 p0.n.length G0,.slice E1 p0.d.length G1]]/\Has K E0 p0.n.length G0 1 Ak p0.n/\Has K E1 p0.d.length G1 1 Ak p0.d/\True) (fun _ r v Ln=>v=iq r/\Ln=[]/\True):=⟨by
 rintro K _ r ⟨E0,G0,E1,G1,rfl,ha0,ha1,-⟩ hx w hK;replace ha0:=ha0.lo hK;replace ha1:=ha1.lo hK;unfold Fz at hx;refine CtS ntmps240 results240 ?_;exact au⟩
instance(p0:Int):ConB (Lg p0) prog 149 (fun _ vs=>vs=[iq p0]) (fun K r v Ln=>∃A0 c0 A2 c2 e,v=.agg #[.bool r.neg,.slice A0 r.n.length c0,.slice A2 r.d.length c2]/\Ln=[e]/\Has (K++[e]) A0 r.n.length c0 1 Ak r.n/\Has (K++[e]) A2 r.d.length c2 1 Ak r.d/\True):=⟨by
 rintro K _ r rfl hx w hK;unfold Lg at hx;refine CtS ntmps149 results149 ?_;exact au⟩
instance(p0:List Ad):Con (Qw p0) prog 144 (fun K vs=>∃E0 G0,vs=[.slice E0 p0.length G0]/\Has K E0 p0.length G0 2 Ag9 p0/\True) (fun _ r v Ln=>v=.bool r/\Ln=[]/\True):=⟨by
 rintro K _ r ⟨E0,G0,rfl,ha0,-⟩ hx w hK;replace ha0:=ha0.lo hK;unfold Qw at hx;refine CtS ntmps144 results144 ?_;refine pq ?_;intros;rename_i hx
 refine pA ?_;intros;rename_i hx
 apply Jr (γ:=Unit) hx [] (fun s2 y2 f=>f) [999] (fun s2 y2 l=>l);exact kk
 .exact aI
 .refine pI ?_;intros;rename_i hx
  apply Lr (γ:=Unit) hx [5,6] (fun s0 y0 f=>(7,iq s0)::f) [999] (fun s0 y0 l=>l) ();exact kk;exact sk;intro s0 y0 x0 hx _;unfold Mq at hx;refine pq ?_;intros;rename_i hx
  refine Cq1 (s:=8) hx rfl ?_ ?_
  .refine pI ?_;intros;rename_i hx
   apply Jr (γ:=Unit) hx [5,6,7] (fun s1 y1 f=>(28,.bool s1)::f) [999] (fun s1 y1 l=>l);exact kk
   .exact aI
   .exact aI
  .exact aI⟩
instance(p0:Int):Con (Mr p0) prog 145 (fun _ vs=>vs=[iq p0]) (fun _ r v Ln=>v=iq r/\Ln=[]/\True):=⟨by
 rintro _ _ r rfl hx w hK;unfold Mr at hx;refine CtS ntmps145 results145 ?_;exact au⟩
instance(p0:Ad)(p1:Ad)(p2:Ad):Con (Na p0 p1 p2) prog 146 (fun _ vs=>vs=[.agg #[iq p0.X,iq p0.Y],.agg #[iq p1.X,iq p1.Y],.agg #[iq p2.X,iq p2.Y]]) (fun _ r v Ln=>v=iq r/\Ln=[]/\True):=⟨by
 rintro _ _ r rfl hx w hK;unfold Na at hx;refine CtS ntmps146 results146 ?_;exact au⟩
instance(p0:Ad)(p1:Ad)(p2:Ad):Con (Sa p0 p1 p2) prog 61 (fun _ vs=>vs=[.agg #[iq p0.X,iq p0.Y],.agg #[iq p1.X,iq p1.Y],.agg #[iq p2.X,iq p2.Y]]) (fun _ r v Ln=>v=.tuple #[iq r.1,iq r.2]/\Ln=[]/\True):=⟨by
 rintro _ _ r rfl hx w hK;unfold Sa at hx;refine CtS ntmps61 results61 ?_;exact au⟩
instance(p0:Ad)(p1:Ad):Con (Sb p0 p1) prog 332 (fun _ vs=>vs=[.agg #[iq p0.X,iq p0.Y],.agg #[iq p1.X,iq p1.Y]]) (fun _ r v Ln=>v=iq r/\Ln=[]/\True):=⟨by
 rintro _ _ r rfl hx w hK;unfold Sb at hx;have:=dl 1 [0,1,0,1,0,0,1,0,1,0,2,2] [0,1,2,3,4,5,6,7,8,9,10,11];refine CtS ntmps332 results332 ?_;exact au⟩
instance(p0:Ad)(p1:Ad)(p2:Ad)(p3:Ad):Con (Te p0 p1 p2 p3) prog 283 (fun _ vs=>vs=[.agg #[iq p0.X,iq p0.Y],.agg #[iq p1.X,iq p1.Y],.agg #[iq p2.X,iq p2.Y],.agg #[iq p3.X,iq p3.Y]]) (fun _ r v Ln=>v=.tuple #[iq r.1,iq r.2]/\Ln=[]/\True):=⟨by
 rintro _ _ r rfl hx w hK;unfold Te at hx;have:=dl 6 [1,1,2,2,1,1,1,2,2,2,4,3] [0,1,4,5,6,2,3,7,8,9,10,11] [10];have:=dl 7 [1,1,1,2,2,1,1,1,2,2,2,2,3] [0,1,2,5,6,7,3,4,8,9,10,11,12];have:=dl 8 [1,1,1,2,2,1,1,1,2,2,2,2,3] [0,1,2,5,6,7,3,4,8,9,10,11,12];refine CtS ntmps283 results283 ?_;refine pq ?_;intros;rename_i hx
 refine Cq4 (s:=18) hx rfl ?_ ?_
 .exact aI
 .refine pI ?_;intros;rename_i hx
  refine Cq1 (s:=25) hx rfl ?_ ?_
  .exact aI
  .exact aI⟩
instance(p0:Af):Con (Wj p0) prog 279 (fun _ vs=>vs=[.agg #[iq p0.Lo,iq p0.Hi]]) (fun _ r v Ln=>v=.bool r/\Ln=[]/\True):=⟨by
 rintro _ _ r rfl hx w hK;unfold Wj at hx;refine CtS ntmps279 results279 ?_;exact au⟩
instance As1(p0:Aa):Con (Df p0) prog 151 (fun _ vs=>vs=[.agg #[iq p0.X,iq p0.Y,iq p0.Z.Lo,iq p0.Z.Hi]]) (fun _ r v Ln=>v=.agg #[iq r.X,iq r.Y]/\Ln=[]/\True):=⟨by
 rintro _ _ r rfl hx w hK;unfold Df at hx;refine CtS ntmps151 results151 ?_;exact au⟩
theorem Ts(p0:Aa){r:Ad}(hx:Df p0=some r)(w:World):CtL prog 151 [.agg #[iq p0.X,iq p0.Y,iq p0.Z.Lo,iq p0.Z.Hi]] w fun v Ln=>v=.agg #[iq r.X,iq r.Y]/\Ln=[]/\True:=(As1 p0).h [] _ _ rfl hx w (fun _ h=>absurd h List.not_mem_nil)
instance Ahv(p0:Ad)(p1:Ad):Con (Fm p0 p1) prog 216 (fun _ vs=>vs=[.agg #[iq p0.X,iq p0.Y],.agg #[iq p1.X,iq p1.Y]]) (fun _ r v Ln=>v=.bool r/\Ln=[]/\True):=⟨by
 rintro _ _ r rfl hx w hK;unfold Fm at hx;refine CtS ntmps216 results216 ?_;exact au⟩
theorem Aag(p0:Ad)(p1:Ad){r:Bool}(hx:Fm p0 p1=some r)(w:World):CtL prog 216 [.agg #[iq p0.X,iq p0.Y],.agg #[iq p1.X,iq p1.Y]] w fun v Ln=>v=.bool r/\Ln=[]/\True:=(Ahv p0 p1).h [] _ _ rfl hx w (fun _ h=>absurd h List.not_mem_nil)
instance Aml(p0:Ad)(p1:Ad)(p2:Ad):Con (Et p0 p1 p2) prog 210 (fun _ vs=>vs=[.agg #[iq p0.X,iq p0.Y],.agg #[iq p1.X,iq p1.Y],.agg #[iq p2.X,iq p2.Y]]) (fun _ r v Ln=>v=iq r/\Ln=[]/\True):=⟨by
 rintro _ _ r rfl hx w hK;unfold Et at hx;refine CtS ntmps210 results210 ?_;exact au⟩
theorem Aki(p0:Ad)(p1:Ad)(p2:Ad){r:Int}(hx:Et p0 p1 p2=some r)(w:World):CtL prog 210 [.agg #[iq p0.X,iq p0.Y],.agg #[iq p1.X,iq p1.Y],.agg #[iq p2.X,iq p2.Y]] w fun v Ln=>v=iq r/\Ln=[]/\True:=(Aml p0 p1 p2).h [] _ _ rfl hx w (fun _ h=>absurd h List.not_mem_nil)
instance(p0:Aa):Con (Xp p0) prog 208 (fun _ vs=>vs=[.agg #[iq p0.X,iq p0.Y,iq p0.Z.Lo,iq p0.Z.Hi]]) (fun _ r v Ln=>v=.bool r/\Ln=[]/\True):=⟨by
 rintro _ _ r rfl hx w hK;unfold Xp at hx;have:=dl 1 [1,2,1,2,1,2,2,0,0,0,2,2] [0,2,4,1,3,5,6,7,8,9,10,11];refine CtS ntmps208 results208 ?_;exact au⟩
instance Amm(p0:Int)(p1:Int):Con (Gp p0 p1) prog 186 (fun _ vs=>vs=[iq p0,iq p1]) (fun _ r v Ln=>v=.agg #[iq r.a0,iq r.a1]/\Ln=[]/\True):=⟨by
 rintro _ _ r rfl hx w hK;unfold Gp at hx;refine CtS ntmps186 results186 ?_;exact au⟩
theorem Akj(p0:Int)(p1:Int){r:Ab}(hx:Gp p0 p1=some r)(w:World):CtL prog 186 [iq p0,iq p1] w fun v Ln=>v=.agg #[iq r.a0,iq r.a1]/\Ln=[]/\True:=(Amm p0 p1).h [] _ _ rfl hx w (fun _ h=>absurd h List.not_mem_nil)
instance Akk(p0:Ab)(p1:Ab):Con (Vv p0 p1) prog 95 (fun _ vs=>vs=[.agg #[iq p0.a0,iq p0.a1],.agg #[iq p1.a0,iq p1.a1]]) (fun _ r v Ln=>v=iq r/\Ln=[]/\True):=⟨by
 rintro _ _ r rfl hx w hK;unfold Vv at hx;refine CtS ntmps95 results95 ?_;exact au⟩
theorem Ahw(p0:Ab)(p1:Ab){r:Int}(hx:Vv p0 p1=some r)(w:World):CtL prog 95 [.agg #[iq p0.a0,iq p0.a1],.agg #[iq p1.a0,iq p1.a1]] w fun v Ln=>v=iq r/\Ln=[]/\True:=(Akk p0 p1).h [] _ _ rfl hx w (fun _ h=>absurd h List.not_mem_nil)
instance(p0:Ad)(p1:Ad)(p2:Ad)(p3:Ad):Con (Tq p0 p1 p2 p3) prog 219 (fun _ vs=>vs=[.agg #[iq p0.X,iq p0.Y],.agg #[iq p1.X,iq p1.Y],.agg #[iq p2.X,iq p2.Y],.agg #[iq p3.X,iq p3.Y]]) (fun _ r v Ln=>v=.bool r/\Ln=[]/\True):=⟨by
 rintro _ _ r rfl hx w hK;unfold Tq at hx;refine CtS ntmps219 results219 ?_;refine pq ?_;intros;rename_i hx
 refine Cq2 (s:=23) hx rfl ?_ ?_
 .exact aI
 .refine pI ?_;intros;rename_i hx
  refine pA ?_;intros;rename_i hx
  apply Jr (γ:=Nat) hx [6,7] (fun s7 y7 f=>(11,.pointer (some ⟨y7,0,none⟩))::f) [1,2,999] (fun s7 y7 l=>.m y7 44 [iq s7.1,iq s7.2]::l);exact kk
  .exact aI
  .refine pI ?_;intros;rename_i hx
   apply Lr (γ:=Nat) hx [6,7,30] (fun s0 y0 f=>(11,.pointer (some ⟨y0,0,none⟩))::(31,iq s0.2.2)::f) [1,2,999] (fun s0 y0 l=>.m y0 44 [iq s0.1,iq s0.2.1]::l) _;exact kk;exact sk;intro s0 y0 x0 hx _;unfold Wq at hx;exact au⟩
end Go.Proofs.YtlejkgngmjchdaaGreat
