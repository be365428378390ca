import Derived.Test.YtlejkgngmjchdaaGreatD2
set_option maxRecDepth 100000
set_option maxHeartbeats 1000000
namespace Go.Proofs.YtlejkgngmjchdaaGreat
open Go Go.RowKit Tryz
noncomputable section
theorem Ahm:Rt prog 200 0 0:=.mk underlying200 rfl rfl (kr:prog.info? 22=some Tryz.t22) (kr:Tryz.t22.size=1) rfl
instance:Dz prog 200 0 0:=⟨Ahm⟩
theorem Ahn:Rt prog 200 1 1:=.mk underlying200 rfl rfl (kr:prog.info? 101=some t101) (kr:t101.size=1) rfl
instance:Dz prog 200 1 1:=⟨Ahn⟩
theorem Aou:Ud prog 101:=.mk underlying101 rfl (kr:prog.info? 101=some t101) kr
instance:OneI prog 101:=⟨Aou⟩
structure Ag where
 v:List Aa
 apex:List (Ab×Int)
 fixed:List (Ab×Bool)
def Bn(p0:Ag)(p1:Int):Option Ad :=
 bnd (idx p0.v p1) fun x2=>
 bnd (Df (⟨x2.X,x2.Y,(⟨x2.Z.Lo,x2.Z.Hi⟩:Af)⟩:Aa)) fun r0=>
 some r0
instance:UndI prog 101 (.map 99 3):=⟨underlying101⟩
def Ex(p0:Ag)(p1:Int)(p2:Int)(p3:Int):Option Ag :=
 gd ((-9223372036854775808<=p1/\p1<=9223372036854775807)/\(-9223372036854775808<=p2/\p2<=9223372036854775807))<|
 gd (p0.apex.length<9223372036854775807)<|
 gd ((-9223372036854775808<=p2/\p2<=9223372036854775807)/\(-9223372036854775808<=p3/\p3<=9223372036854775807))<|
 gd ((mput p0.apex ((⟨p1,p2⟩:Ab)) p3).length<9223372036854775807)<|
 gd ((-9223372036854775808<=p3/\p3<=9223372036854775807)/\(-9223372036854775808<=p1/\p1<=9223372036854775807))<|
 gd ((mput (mput p0.apex ((⟨p1,p2⟩:Ab)) p3) ((⟨p2,p3⟩:Ab)) p1).length<9223372036854775807)<|
 some (⟨p0.v,mput (mput (mput p0.apex ((⟨p1,p2⟩:Ab)) p3) ((⟨p2,p3⟩:Ab)) p1) ((⟨p3,p1⟩:Ab)) p2,p0.fixed⟩:Ag)
def Lh(p0:Ag)(p1:Int)(p2:Int)(p3:Int):Option Ag :=
 gd ((-9223372036854775808<=p1/\p1<=9223372036854775807)/\(-9223372036854775808<=p2/\p2<=9223372036854775807))<|
 gd ((-9223372036854775808<=p2/\p2<=9223372036854775807)/\(-9223372036854775808<=p3/\p3<=9223372036854775807))<|
 gd ((-9223372036854775808<=p3/\p3<=9223372036854775807)/\(-9223372036854775808<=p1/\p1<=9223372036854775807))<|
 some (⟨p0.v,mdel (mdel (mdel p0.apex ((⟨p1,p2⟩:Ab))) ((⟨p2,p3⟩:Ab))) ((⟨p3,p1⟩:Ab)),p0.fixed⟩:Ag)
def Cz(p0:Ag)(p1:Int)(p2:Int):Option (Ag×Bool):=
 gd ((-9223372036854775808<=p1/\p1<=9223372036854775807)/\(-9223372036854775808<=p2/\p2<=9223372036854775807))<|
 bnd (some ((mget p0.apex ((⟨p1,p2⟩:Ab))).getD 0)) fun x3=>
 gd ((-9223372036854775808<=p2/\p2<=9223372036854775807)/\(-9223372036854775808<=p1/\p1<=9223372036854775807))<|
 bnd (some ((mget p0.apex ((⟨p2,p1⟩:Ab))).getD 0)) fun x8=>
 jn (fun (s5:Bool)=>
 if s5=true then (some (p0,false))
 else (bnd (Lh p0 p1 p2 x3) fun r0=>
 bnd (Lh r0 p2 p1 x8) fun r1=>
 bnd (Ex r1 p1 x8 x3) fun r2=>
 bnd (Ex r2 p2 x3 x8) fun r3=>
 some (r3,true)))
 (fun j5=>if ((mget p0.apex ((⟨p1,p2⟩:Ab))).isSome)=true then (if ((mget p0.apex ((⟨p2,p1⟩:Ab))).isSome)=true then (bnd (Bn p0 x3) fun r4=>
 bnd (Bn p0 x8) fun r5=>
 bnd (Bn p0 p1) fun r6=>
 bnd (Et r4 r5 r6) fun r7=>
 bnd (Bn p0 x3) fun r8=>
 bnd (Bn p0 x8) fun r9=>
 bnd (Bn p0 p2) fun r35=>
 bnd (Et r8 r9 r35) fun r38=>
 j5 (decide (0<=(w64 (r7*r38)))))
 else (j5 true))
 else (j5 true))
instance(p0:Ag)(p1:Int):Con (Bn p0 p1) prog 211 (fun K vs=>∃g0_0 gm0_0 gm0_1 E0 G0,vs=[.pointer (some ⟨g0_0,0,none⟩),iq p1]/\Pt K g0_0 0 [.slice E0 p0.v.length G0,.map (some gm0_0),.map (some gm0_1)]/\Has K E0 p0.v.length G0 4 Ai p0.v/\True) (fun _ r v Ln=>v=.agg #[iq r.X,iq r.Y]/\Ln=[]/\True):=⟨by
 rintro K _ r ⟨g0_0,gm0_0,gm0_1,E0,G0,rfl,hp0,ha0,-⟩ hx w hK;replace hp0:=Pt.lo hp0 hK;replace ha0:=ha0.lo hK;unfold Bn at hx;refine CtS ntmps211 results211 ?_;exact au⟩
instance(p0:Ag)(p1:Int)(p2:Int)(p3:Int):ConK (Ex p0 p1 p2 p3) prog 212 (fun g0_0 gm0_0 gm0_1 E0 G0 ua0 uc0 vs Lp=>vs=[.pointer (some ⟨g0_0,0,none⟩),iq p1,iq p2,iq p3]/\Lp=[.m g0_0 200 [.slice E0 p0.v.length G0,.map (some gm0_0),.map (some gm0_1)],Be prog 99 Al Du gm0_0 p0.apex,Be prog 99 Al Cc gm0_1 p0.fixed]/\ua0=none/\uc0=0/\True) (fun E0 G0 ua0 uc0 K K2=>Has K E0 p0.v.length G0 4 Ai p0.v/\True) (fun g0_0 gm0_0 gm0_1 E0 G0 ua0 uc0 K r v Ln=>∃A0 c0,v=.tuple #[]/\Ln=[.m g0_0 200 [.slice A0 r.v.length c0,.map (some gm0_0),.map (some gm0_1)],Be prog 99 Al Du gm0_0 r.apex,Be prog 99 Al Cc gm0_1 r.fixed]/\Has K A0 r.v.length c0 4 Ai r.v/\True):=⟨by
 rintro g0_0 gm0_0 gm0_1 E0 G0 _ _ K K2 _ _ r ⟨rfl,rfl,rfl,rfl,-⟩ ⟨ha0,-⟩ hx;unfold Ex at hx;refine CtSK ntmps212 results212 ?_;intro Lf hKf;have hKg:=hKf.r;replace hKf:=hKf.l;refine Rv ?_;exact au⟩
instance(p0:Ag)(p1:Int)(p2:Int)(p3:Int):ConK (Lh p0 p1 p2 p3) prog 282 (fun g0_0 gm0_0 gm0_1 E0 G0 ua0 uc0 vs Lp=>vs=[.pointer (some ⟨g0_0,0,none⟩),iq p1,iq p2,iq p3]/\Lp=[.m g0_0 200 [.slice E0 p0.v.length G0,.map (some gm0_0),.map (some gm0_1)],Be prog 99 Al Du gm0_0 p0.apex,Be prog 99 Al Cc gm0_1 p0.fixed]/\ua0=none/\uc0=0/\True) (fun E0 G0 ua0 uc0 K K2=>Has K E0 p0.v.length G0 4 Ai p0.v/\True) (fun g0_0 gm0_0 gm0_1 E0 G0 ua0 uc0 K r v Ln=>∃A0 c0,v=.tuple #[]/\Ln=[.m g0_0 200 [.slice A0 r.v.length c0,.map (some gm0_0),.map (some gm0_1)],Be prog 99 Al Du gm0_0 r.apex,Be prog 99 Al Cc gm0_1 r.fixed]/\Has K A0 r.v.length c0 4 Ai r.v/\True):=⟨by
 rintro g0_0 gm0_0 gm0_1 E0 G0 _ _ K K2 _ _ r ⟨rfl,rfl,rfl,rfl,-⟩ ⟨ha0,-⟩ hx;unfold Lh at hx;refine CtSK ntmps282 results282 ?_;intro Lf hKf;have hKg:=hKf.r;replace hKf:=hKf.l;refine Rv ?_;exact au⟩
instance Abd(p0:Ag)(p1:Int)(p2:Int):ConK (Cz p0 p1 p2) prog 218 (fun g0_0 gm0_0 gm0_1 E0 G0 ua0 uc0 vs Lp=>vs=[.pointer (some ⟨g0_0,0,none⟩),iq p1,iq p2]/\Lp=[.m g0_0 200 [.slice E0 p0.v.length G0,.map (some gm0_0),.map (some gm0_1)],Be prog 99 Al Du gm0_0 p0.apex,Be prog 99 Al Cc gm0_1 p0.fixed]/\ua0=none/\uc0=0/\True) (fun E0 G0 ua0 uc0 K K2=>Has K E0 p0.v.length G0 4 Ai p0.v/\True) (fun g0_0 gm0_0 gm0_1 E0 G0 ua0 uc0 K r v Ln=>∃A0 c0,v=.bool r.2/\Ln=[.m g0_0 200 [.slice A0 r.1.v.length c0,.map (some gm0_0),.map (some gm0_1)],Be prog 99 Al Du gm0_0 r.1.apex,Be prog 99 Al Cc gm0_1 r.1.fixed]/\Has K A0 r.1.v.length c0 4 Ai r.1.v/\True):=⟨by
 rintro g0_0 gm0_0 gm0_1 E0 G0 _ _ K K2 _ _ r ⟨rfl,rfl,rfl,rfl,-⟩ ⟨ha0,-⟩ hx;unfold Cz at hx;refine CtSK ntmps218 results218 ?_;intro Lf hKf;have hKg:=hKf.r;replace hKf:=hKf.l;refine Rv ?_;refine pq ?_;intros;rename_i hx
 refine pA ?_;intros;rename_i hx
 apply Jr (γ:=Unit) hx [0,1,2,7,9] (fun s5 y5 f=>(62,.bool s5)::f) [0,1,2,1003] (fun s5 y5 l=>l);exact kk
 .exact aI
 .exact aI⟩
theorem Aaj(p0:Ag)(p1:Int)(p2:Int){g0_0:Nat}{gm0_0:Nat}{gm0_1:Nat}{K:List Ent}{E0:Option Addr}{G0:Nat}(ha0:Has K E0 p0.v.length G0 4 Ai p0.v){r:Ag × Bool}(hx:Cz p0 p1 p2=some r):CtK prog 218 [.pointer (some ⟨g0_0,0,none⟩),iq p1,iq p2] K [.m g0_0 200 [.slice E0 p0.v.length G0,.map (some gm0_0),.map (some gm0_1)],Be prog 99 Al Du gm0_0 p0.apex,Be prog 99 Al Cc gm0_1 p0.fixed] fun v Ln=>∃ (A0:Option Addr) (c0:Nat),v = .bool r.2/\Ln=[.m g0_0 200 [.slice A0 r.1.v.length c0,.map (some gm0_0),.map (some gm0_1)],Be prog 99 Al Du gm0_0 r.1.apex,Be prog 99 Al Cc gm0_1 r.1.fixed]/\Has (K++[]) A0 r.1.v.length c0 4 Ai r.1.v/\True:=(CtK.one ((Abd p0 p1 p2).h _ _ _ _ _ _ _  K K _ _ _ ⟨rfl,rfl,rfl,rfl,trivial⟩ ⟨ha0,trivial⟩ hx)).mono (by
  rintro _ _ ⟨_,_,rfl,rfl,f0,-⟩;exact⟨_,_,rfl,rfl,Has.up0 f0,trivial⟩)
section
open Go.Shelf Go.Lib Go.Sort
theorem Ad6{P:Program}{f:FuncId}(h:Wp P f):∀(args:Array Value) (w:World),(callFunc f args).run P w=.ok (.enter f args) w:=by
 obtain⟨fn,h1,h2,h3⟩:=h;obtain⟨c,hc⟩:∃c,fn.body=some c:=by cases hb:fn.body with
  |none=>rw[hb] at h3;cases h3
  |some c=>exact⟨c,rfl⟩
 exact enters_of h1 h2 hc
def Akt(z:Int):Prop:=-1000000000000<=z/\z<=1000000000000
instance(z:Int):Decidable (Akt z):=by unfold Akt;infer_instance
def Oe(x:Ab):Prop:=Akt x.a0/\Akt x.a1
instance(x:Ab):Decidable (Oe x):=by unfold Oe;infer_instance
def cmp2(x y:Ab):Int:=if x.a0=y.a0 then x.a1-y.a1 else x.a0-y.a0
theorem Aa6(x y:Ab):cmp2 x y<0↔x.a0<y.a0\/x.a0=y.a0/\x.a1<y.a1:=by unfold cmp2;split <;> omega
theorem tot2:Yx Oe cmp2 where
 irr x _:=by rw[Aa6];omega
 trans x y z _ _ _ h1 h2:=by rw[Aa6] at *;omega
 tot x y _ _ h1 h2:=by
  rw[Aa6] at h1 h2;obtain⟨x0,x1⟩:=x;obtain⟨y0,y1⟩:=y;simp only at h1 h2;rw[show x0=y0 by omega,show x1=y1 by omega]
theorem As9{x y:Ab}(hx:Oe x)(hy:Oe y):Vv x y=some (cmp2 x y):=by
 obtain⟨⟨_,_⟩,_,_⟩:=hx;obtain⟨⟨_,_⟩,_,_⟩:=hy;unfold Vv cmp2;split <;> (rw[Av oo oo])
theorem Aov(l:List Ab)(hb:l.length<=1000000000)(hp:∀x∈l,Oe x){A:OA}{m c:Nat}{t:TypeId}{gf:Nat}{cb:Array Value}(w:World)(hok:Ent.ok w (.r A m c t 2 (l.flatMap Ar)))(hcmp:Ac1 prog Oe cmp2 (fun x=>.agg #[iq x.a0,iq x.a1]) A m c t 2 gf cb w (l.flatMap Ar))(eg:Wp prog gf):Ac0 prog 94 A m c t 2 gf cb w (l.flatMap Ar) ((Ba cmp2 l).flatMap Ar):=
 Ag2 (ρ:=Tryz.laysSort2_ren) Tryz.laysSort2 (k:=2) isAgg99 sizeOf99 (enc:=Ar) (fun _=>rfl) dD (fun x v hv=>by simp[Ar] at hv;rcases hv with rfl|rfl <;> rfl) tot2 (Ad6 eg) l hb hp w hok hcmp
def Ys(x:Ah):Prop:=True
instance(x:Ah):Decidable (Ys x):=by unfold Ys;infer_instance
def cmpI(x y:Int):Int:=if x<y then -1 else if y<x then 1 else 0
theorem Ard(x y:Int):cmpI x y<0↔x<y:=by
 unfold cmpI;split
 .omega
 .split <;> omega
theorem Azq(x y:Int):cmpI x y=0↔x=y:=by
 unfold cmpI;split
 .omega
 .split <;> omega
def cmp3(x y:Ah):Int:=if cmpI x.a0 y.a0=0 then if cmpI x.a1 y.a1=0 then cmpI x.a2 y.a2 else cmpI x.a1 y.a1 else cmpI x.a0 y.a0
theorem Aa7(x y:Ah):cmp3 x y<0↔x.a0<y.a0\/x.a0=y.a0/\(x.a1<y.a1\/x.a1=y.a1/\x.a2<y.a2):=by
 unfold cmp3;simp only[Azq];split
 .split <;> rw[Ard] <;> omega
 .rw[Ard];omega
theorem tot3:Yx Ys cmp3 where
 irr x _:=by rw[Aa7];omega
 trans x y z _ _ _ h1 h2:=by rw[Aa7] at *;omega
 tot x y _ _ h1 h2:=by
  rw[Aa7] at h1 h2;obtain⟨x0,x1,x2⟩:=x;obtain⟨y0,y1,y2⟩:=y;simp only at h1 h2;rw[show x0=y0 by omega,show x1=y1 by omega,show x2=y2 by omega]
theorem Azr(x y:Int):Nr x y=some (cmpI x y):=by
 unfold Nr Qh cmpI;simp only[bnd,decide_true,Bool.not_true,Bool.false_eq_true,if_false];split
 .rfl
 .split <;> rfl
theorem Aku{x y:Ah}(hx:Ys x)(hy:Ys y):Fs x y=some (cmp3 x y):=by
 obtain⟨x0,x1,x2⟩:=x;obtain⟨y0,y1,y2⟩:=y;unfold Fs Hx jn cmp3;simp only;have step:∀i:Int,Bw [x0,x1,x2] [y0,y1,y2] i=if i<3 then bnd (idx [x0,x1,x2] i) fun a=>bnd (idx [y0,y1,y2] i) fun b=>if cmpI a b=0 then some (.inl (w64 (i+1))) else some (.inr (.inr (cmpI a b))) else some (.inr (.inl ())):=by
  intro i;unfold Bw;simp only[Azr,List.length_cons,List.length_nil]
  by_cases h:i<3
  .rw[iP oo,iP h];congr 1;funext a;rw[iN oo];rfl
  .rw[iN oo,iN h]
 have w1:w64 (0+1)=1:=Av oo oo;have w2:w64 (1+1)=2:=Av oo oo;have w3:w64 (2+1)=3:=Av oo oo;have i0:∀a b c:Int,idx [a,b,c] 0=some a:=fun _ _ _=>rfl
 have i1:∀a b c:Int,idx [a,b,c] 1=some b:=fun _ _ _=>rfl
 have i2:∀a b c:Int,idx [a,b,c] 2=some c:=fun _ _ _=>rfl
 have s0:Bw [x0,x1,x2] [y0,y1,y2] 0=if cmpI x0 y0=0 then some (.inl 1) else some (.inr (.inr (cmpI x0 y0))):=by rw[step,iP oo,w1];simp only[i0,bnd]
 have s1:Bw [x0,x1,x2] [y0,y1,y2] 1=if cmpI x1 y1=0 then some (.inl 2) else some (.inr (.inr (cmpI x1 y1))):=by rw[step,iP oo,w2];simp only[i1,bnd]
 have s2:Bw [x0,x1,x2] [y0,y1,y2] 2=if cmpI x2 y2=0 then some (.inl 3) else some (.inr (.inr (cmpI x2 y2))):=by rw[step,iP oo,w3];simp only[i2,bnd]
 have s3:Bw [x0,x1,x2] [y0,y1,y2] 3=some (.inr (.inl ())):=by rw[step,iN oo]
 rw[Ax,s0]
 by_cases h0:cmpI x0 y0=0
 .rw[iP h0,iP h0];simp only;rw[Ax,s1]
  by_cases h1:cmpI x1 y1=0
  .rw[iP h1,iP h1];simp only;rw[Ax,s2]
   by_cases h2:cmpI x2 y2=0
   .rw[iP h2,h2];simp only;rw[Ax,s3];simp[bnd]
   .rw[iN h2];simp[bnd]
  .rw[iN h1,iN h1];simp[bnd]
 .rw[iN h0,iN h0];simp[bnd]
theorem Aow(l:List Ah)(hb:l.length<=1000000000)(hp:∀x∈l,Ys x){A:OA}{m c:Nat}{t:TypeId}{gf:Nat}{cb:Array Value}(w:World)(hok:Ent.ok w (.r A m c t 3 (l.flatMap Bg)))(hcmp:Ac1 prog Ys cmp3 (fun x=>.agg #[iq x.a0,iq x.a1,iq x.a2]) A m c t 3 gf cb w (l.flatMap Bg))(eg:Wp prog gf):Ac0 prog 220 A m c t 3 gf cb w (l.flatMap Bg) ((Ba cmp3 l).flatMap Bg):=
 Ag2 (ρ:=Tryz.laysSort3_ren) Tryz.laysSort3 (k:=3) isAgg122 sizeOf122 (enc:=Bg) (fun _=>rfl) dD (fun x v hv=>by simp[Bg] at hv;rcases hv with rfl|rfl|rfl <;> rfl) tot3 (Ad6 eg) l hb hp w hok hcmp
def befV(a b:Aa):Prop:=a.X<b.X\/a.X=b.X/\a.Y<b.Y
instance(a b:Aa):Decidable (befV a b):=by unfold befV;infer_instance
def Wk(a b:Aa):Prop:=a.X=b.X/\a.Y=b.Y
instance(a b:Aa):Decidable (Wk a b):=by unfold Wk;infer_instance
def Gr(v:List Aa):Prop:=v.Pairwise fun a b=>¬Wk a b
instance(v:List Aa):Decidable (Gr v):=by unfold Gr;infer_instance
def okIx(v:List Aa)(i:Int):Prop:=0<=i/\i<(v.length:Int)
instance(v:List Aa)(i:Int):Decidable (okIx v i):=by unfold okIx;infer_instance
def cmpR(v:List Aa)(i j:Int):Int:=match idx v i,idx v j with
 |some a,some b=>if befV a b then -1 else if befV b a then 1 else 0
 |_,_=>0
theorem Kb{v:List Aa}{i:Int}(h:okIx v i):∃(k:Nat) (hk:k<v.length),i=(k:Int)/\idx v i=some v[k]:=by
 obtain⟨h0,h1⟩:=h;obtain⟨k,rfl⟩:=Int.eq_ofNat_of_zero_le h0;have hk:k<v.length:=oo;exact⟨k,hk,rfl,Az hk⟩
theorem Ut{v:List Aa}{i j:Nat}(hi:i<v.length)(hj:j<v.length):cmpR v (i:Int) (j:Int)<0↔befV v[i] v[j]:=by
 unfold cmpR;rw[Az hi,Az hj];simp only;split
 .simp_all
 .split <;> simp_all
theorem totR{v:List Aa}(hd:Gr v):Yx (okIx v) (cmpR v) where
 irr x hx:=by
  obtain⟨i,hi,rfl,_⟩:=Kb hx;rw[Ut hi hi];unfold befV;omega
 trans x y z hx hy hz h1 h2:=by
  obtain⟨i,hi,rfl,_⟩:=Kb hx;obtain⟨j,hj,rfl,_⟩:=Kb hy;obtain⟨k,hk,rfl,_⟩:=Kb hz;rw[Ut hi hj] at h1;rw[Ut hj hk] at h2;rw[Ut hi hk];unfold befV at *;omega
 tot x y hx hy h1 h2:=by
  obtain⟨i,hi,rfl,_⟩:=Kb hx;obtain⟨j,hj,rfl,_⟩:=Kb hy;rw[Ut hi hj] at h1;rw[Ut hj hi] at h2;have hs:Wk v[i] v[j]:=by unfold befV at h1 h2;unfold Wk;omega
  unfold Gr at hd;rw[List.pairwise_iff_getElem] at hd;rcases Nat.lt_trichotomy i j with h|h|h
  .exact absurd hs (hd i j hi hj h)
  .rw[h]
  .exact absurd ⟨hs.1.symm,hs.2.symm⟩ (hd j i hj hi h)
theorem Ata(a b:Aa):Fm ⟨a.X,a.Y⟩ ⟨b.X,b.Y⟩=some (decide (befV a b)):=by
 unfold Fm jn befV;simp only
 by_cases h1:a.X<b.X
 .simp[h1]
 .by_cases h2:a.X=b.X
  .simp[h2]
  .simp[h1,h2]
theorem Atb(v:List Aa){x y:Int}(hx:okIx v x)(hy:okIx v y):Up x y v=some (cmpR v x y):=by
 obtain⟨i,hi,rfl,ei⟩:=Kb hx;obtain⟨j,hj,rfl,ej⟩:=Kb hy;unfold Up cmpR;simp only[ei,ej,bnd,Df,Ata,dQ];split
 .rfl
 .split <;> rfl
theorem Am0(v:List Aa)(hd:Gr v)(l:LI)(hb:l.length<=1000000000)(hp:∀x∈l,okIx v x){A:OA}{m c:Nat}{t:TypeId}{gf:Nat}{cb:Array Value}(w:World)(hok:Ent.ok w (.r A m c t 1 (l.flatMap Ao)))(hcmp:Ac1 prog (okIx v) (cmpR v) (fun x=>iq x) A m c t 1 gf cb w (l.flatMap Ao))(eg:Wp prog gf):Ac0 prog 214 A m c t 1 gf cb w (l.flatMap Ao) ((Ba (cmpR v) l).flatMap Ao):=
 Aok (ρ:=Tryz.laysSort1_ren) Tryz.laysSort1 (enc:=Value.int .i64) (fun _=>rfl) (totR hd) (Ad6 eg) l hb hp w hok hcmp
end
theorem Qy(x0:Int)(x1:Int):Ot prog 24 1 [(0,.agg #[iq x0,iq x1])] 99 [iq x0,iq x1]:=fun w=>kr
instance(x0:Int)(x1:Int):Kg prog 24 1 [(0,.agg #[iq x0,iq x1])] 99 [iq x0,iq x1]:=⟨Qy _ _⟩
theorem Are:Yq prog 24 99 2 16:=⟨underlying24,⟨t99,.agg #[iq 0,iq 0],kr,kr,kr,kr,rfl⟩,dD⟩
instance:Zm prog 24 99 2 16:=⟨Are⟩
instance(x0:Int)(x1:Int)(x2:Int):Jg prog 122 [(0,iq x0),(1,iq x1),(2,iq x2)] [iq x0,iq x1,iq x2]:=⟨fun w=>kr⟩
instance(x0:Int)(x1:Int)(x2:Int):Kg prog 23 1 [(0,.agg #[iq x0,iq x1,iq x2])] 122 [iq x0,iq x1,iq x2]:=⟨fun w=>kr⟩
instance:Zm prog 23 122 3 24:=⟨⟨underlying23,⟨t122,.agg #[iq 0,iq 0,iq 0],kr,kr,kr,kr,rfl⟩,dD⟩⟩
instance:SrtI prog 94 95 Ar 2 (fun _=>Oe) cmp2 (fun x=>.agg #[iq x.a0,iq x.a1]):=⟨⟨_,func94,rfl,rfl⟩,fun l hb hp A m c t w hok hcm=>Aov l hb hp w hok hcm ⟨_,func95,rfl,rfl⟩,fun _ W x y px py=>⟨[.agg #[iq x.a0,iq x.a1],.agg #[iq y.a0,iq y.a1]],rfl,Ahw x y (As9 px py) W⟩⟩
def Uf  : (List Ab)->Option (Sum (List Ab) (List Ab)):=fun s0=>
 some (.inr s0)
def Qo(p0:Ag):(List Ab)->Ab×Int->Option (Sum (List Ab) (List Ab)):=fun s0 p19_=>
 gd ((-9223372036854775808<=p19_.1.a1/\p19_.1.a1<=9223372036854775807)/\(-9223372036854775808<=p19_.1.a0/\p19_.1.a0<=9223372036854775807))<|
 bnd (some ((mget p0.apex ((⟨p19_.1.a1,p19_.1.a0⟩:Ab))).getD 0)) fun x0=>
 if ((mget p0.apex ((⟨p19_.1.a1,p19_.1.a0⟩:Ab))).isSome)=true then (some (.inl s0))
 else (gd ((s0.length+1)*16<=140737488355328)<|
 some (.inl (s0++[(⟨p19_.1.a1,p19_.1.a0⟩:Ab)])))
def Li(p0:Ag):Option (Ag×List Ab):=
 jn (fun (s3:List Ab)=>
 gd (s3.length<=1000000000/\(∀x∈s3,Oe x))<|
 some (p0,Ba cmp2 s3))
 (fun j3=>Aqs Uf (Qo p0) p0.apex ([]:List Ab) fun t0=>
 j3 t0)
def Th  : (List Ab)->Option (Sum (List Ab) (List Ab)):=fun s0=>
 some (.inr s0)
def Pb(p0:Ag):(List Ab)->Ab×Int->Option (Sum (List Ab) (List Ab)):=fun s0 p27_=>
 gd ((-9223372036854775808<=p27_.1.a1/\p27_.1.a1<=9223372036854775807)/\(-9223372036854775808<=p27_.1.a0/\p27_.1.a0<=9223372036854775807))<|
 bnd (some ((mget p0.apex ((⟨p27_.1.a1,p27_.1.a0⟩:Ab))).getD 0)) fun x0=>
 jn (fun (s1:Bool)=>
 if s1=true then (bnd (Gp p27_.1.a0 p27_.1.a1) fun r0=>
 gd ((s0.length+1)*16<=140737488355328)<|
 some (.inl (s0++[r0])))
 else (some (.inl s0)))
 (fun j0=>if p27_.1.a0<p27_.1.a1 then (j0 true)
 else (j0 (!((mget p0.apex ((⟨p27_.1.a1,p27_.1.a0⟩:Ab))).isSome))))
def Gh(p0:Ag):Option (Ag×List Ab):=
 jn (fun (s3:List Ab)=>
 gd (s3.length<=1000000000/\(∀x∈s3,Oe x))<|
 some (p0,Ba cmp2 s3))
 (fun j3=>Aqs Th (Pb p0) p0.apex ([]:List Ab) fun t0=>
 j3 t0)
instance:SrtI prog 220 221 Bg 3 (fun _=>Ys) cmp3 (fun x=>.agg #[iq x.a0,iq x.a1,iq x.a2]):=⟨⟨_,func220,rfl,rfl⟩,fun l hb hp A m c t w hok hcm=>Aow l hb hp w hok hcm ⟨_,func221,rfl,rfl⟩,fun _ W x y px py=>⟨[.agg #[iq x.a0,iq x.a1,iq x.a2],.agg #[iq y.a0,iq y.a1,iq y.a2]],rfl,Uq x y (Aku px py) W⟩⟩
def Qp  : (List Ah)->Option (Sum (List Ah) (List Ah)):=fun s0=>
 some (.inr s0)
def Mc  : (List Ah)->Ab×Int->Option (Sum (List Ah) (List Ah)):=fun s0 p19_=>
 jn (fun (s1:Bool)=>
 if s1=true then (gd ((s0.length+1)*24<=140737488355328)<|
 some (.inl (s0++[(⟨p19_.1.a0,p19_.1.a1,p19_.2⟩:Ah)])))
 else (some (.inl s0)))
 (fun j0=>if p19_.1.a0<p19_.1.a1 then (j0 (decide (p19_.1.a0<p19_.2)))
 else (j0 false))
def Hj(p0:Ag):Option (Ag×List Ah):=
 jn (fun (s3:List Ah)=>
 gd (s3.length<=1000000000/\(∀x∈s3,Ys x))<|
 some (p0,Ba cmp3 s3))
 (fun j3=>Aqs Qp Mc p0.apex ([]:List Ah) fun t0=>
 j3 t0)
def Rr(p0:List Aa):(LI×Int)->Option (Sum (LI×Int) LI):=fun s0=>
 if s0.2<(p0.length:Int) then (gd ((s0.1.length+1)*8<=140737488355328)<|
 some (.inl (s0.1++[s0.2],w64 (s0.2+1))))
 else (some (.inr s0.1))
def Tt(p0:List Aa):Option LI:=
 jn (fun (s3:LI)=>
 gd (s3.length<=1000000000/\(∀x∈s3,(okIx p0) x)/\Gr p0)<|
 some (Ba ((cmpR p0)) s3))
 (fun j3=>bnd (lfix (Rr p0) (([]:LI),0)) fun t0=>
 j3 t0)
def Tk(p0:List Ab):(List Ab×Int)->Option (Sum (List Ab×Int) (List Ab)):=fun s0=>
 if s0.2<(p0.length:Int) then (bnd (idx p0 s0.2) fun x0=>
 bnd (Gp x0.a0 x0.a1) fun r0=>
 gd ((s0.1.length+1)*16<=140737488355328)<|
 some (.inl (s0.1++[r0],w64 (s0.2+1))))
 else (some (.inr s0.1))
def Ug(p0:List Ab):Option (List Ab):=
 jn (fun (s3:List Ab)=>
 gd (s3.length<=1000000000/\(∀x∈s3,Oe x))<|
 some (Ba cmp2 s3))
 (fun j3=>bnd (lfix (Tk p0) (([]:List Ab),0)) fun t0=>
 j3 t0)
instance(p0:Ag):ConK (Li p0) prog 213 (fun g0_0 gm0_0 gm0_1 E0 G0 ua0 uc0 vs Lp=>vs=[.pointer (some ⟨g0_0,0,none⟩)]/\Lp=[.m g0_0 200 [.slice E0 p0.v.length G0,.map (some gm0_0),.map (some gm0_1)],Be prog 99 Al Du gm0_0 p0.apex,Be prog 99 Al Cc gm0_1 p0.fixed]/\ua0=none/\uc0=0/\True) (fun E0 G0 ua0 uc0 K K2=>Has K E0 p0.v.length G0 4 Ai p0.v/\True) (fun g0_0 gm0_0 gm0_1 E0 G0 ua0 uc0 K r v Ln=>∃A0 c0 A2 c2,v=.slice A2 r.2.length c2/\Ln=[.m g0_0 200 [.slice A0 r.1.v.length c0,.map (some gm0_0),.map (some gm0_1)],Be prog 99 Al Du gm0_0 r.1.apex,Be prog 99 Al Cc gm0_1 r.1.fixed,.r A2 r.2.length c2 99 2 (r.2.flatMap Ar)]/\Has K A0 r.1.v.length c0 4 Ai r.1.v/\True):=⟨by
 rintro g0_0 gm0_0 gm0_1 E0 G0 _ _ K K2 _ _ r ⟨rfl,rfl,rfl,rfl,-⟩ ⟨ha0,-⟩ hx;unfold Li at hx;have:=dl 5 [0,0,0,1,0,1,0,1,0,1,0,0,0,2,2] [0,1,2,3,4,5,6,7,8,9,10,11,12,13,14];refine CtSK ntmps213 results213 ?_;intro Lf hKf;have hKg:=hKf.r;replace hKf:=hKf.l;refine Rv ?_;refine pq ?_;intros;rename_i hx
 refine pA ?_;intros;rename_i hx
 refine pA ?_;intros;rename_i hx
 apply Jr (γ:=OA×Nat) hx [0] (fun s3 y3 f=>(3,.slice y3.1 s3.length y3.2)::f) [0,1,2,1003] (fun s3 y3 l=>.r y3.1 s3.length y3.2 99 2 (s3.flatMap Ar)::l);exact kk
 .exact aI
 .refine pI ?_;intros;rename_i hx
  refine T_x (Ad1 Abh Ek underlying101 rfl (fun _=>by exact sE) rfl (fun g1=>?_));refine pq ?_;intros;rename_i hx
  refine Bf 99 2 ?_;refine Aj9 (σ:=List Ab) (γ:=(List (Ab×Int))×(Option (Ab×Int))×OA×Nat) hx (fun y0=>y0.1) (fun s0 y0=>[(0,.pointer (some ⟨g0_0,0,none⟩)),(3,.slice y0.2.2.1 s0.length y0.2.2.2),(11,.pointer (some ⟨g1,0,none⟩))]) (fun s0 y0=>.r y0.2.2.1 s0.length y0.2.2.2 99 2 (s0.flatMap Ar) :: .m g0_0 200 [.slice E0 p0.v.length G0,.map (some gm0_0),.map (some gm0_1)]::rngE prog 99 Al Du gm0_0 g1 p0.apex y0.1 y0.2.1::Be prog 99 Al Cc gm0_1 p0.fixed::Lf) (fun s0 y0=>True) (_,_,_,_) rfl trivial (by exact sF2) (by exact pK2) ?_;intro s0 y0 _ hm0;replace hm0:MR _ _ y0.1 s0 r:=hm0;refine pq ?_;intros;rename_i hx
  refine T_h (Agz Abh Ek Xo rfl (fun _ _=>by exact sE) rfl (fun hn0=>?_) (fun p19_ hp0=>?_))
  .obtain⟨x0,hx,ht0⟩:=MR.noneK hm0 hn0;unfold Uf at hx;refine Ab4 (by exact sE) ?_;exact au
  .obtain⟨x0,hx,ht0,hn1⟩:=MR.someK hm0 hp0;unfold Qo at hx;exact au⟩
instance Aak(p0:Ag):ConK (Gh p0) prog 217 (fun g0_0 gm0_0 gm0_1 E0 G0 ua0 uc0 vs Lp=>vs=[.pointer (some ⟨g0_0,0,none⟩)]/\Lp=[.m g0_0 200 [.slice E0 p0.v.length G0,.map (some gm0_0),.map (some gm0_1)],Be prog 99 Al Du gm0_0 p0.apex,Be prog 99 Al Cc gm0_1 p0.fixed]/\ua0=none/\uc0=0/\True) (fun E0 G0 ua0 uc0 K K2=>Has K E0 p0.v.length G0 4 Ai p0.v/\True) (fun g0_0 gm0_0 gm0_1 E0 G0 ua0 uc0 K r v Ln=>∃A0 c0 A2 c2,v=.slice A2 r.2.length c2/\Ln=[.m g0_0 200 [.slice A0 r.1.v.length c0,.map (some gm0_0),.map (some gm0_1)],Be prog 99 Al Du gm0_0 r.1.apex,Be prog 99 Al Cc gm0_1 r.1.fixed,.r A2 r.2.length c2 99 2 (r.2.flatMap Ar)]/\Has K A0 r.1.v.length c0 4 Ai r.1.v/\True):=⟨by
 rintro g0_0 gm0_0 gm0_1 E0 G0 _ _ K K2 _ _ r ⟨rfl,rfl,rfl,rfl,-⟩ ⟨ha0,-⟩ hx;unfold Gh at hx;have:=dl 5 [0,0,0,1,0,1,0,1,0,1,0,0,0,2,2] [0,1,2,3,4,5,6,7,8,9,10,11,12,13,14];refine CtSK ntmps217 results217 ?_;intro Lf hKf;have hKg:=hKf.r;replace hKf:=hKf.l;refine Rv ?_;refine pq ?_;intros;rename_i hx
 refine pA ?_;intros;rename_i hx
 refine pA ?_;intros;rename_i hx
 apply Jr (γ:=OA×Nat) hx [0] (fun s3 y3 f=>(3,.slice y3.1 s3.length y3.2)::f) [0,1,2,1003] (fun s3 y3 l=>.r y3.1 s3.length y3.2 99 2 (s3.flatMap Ar)::l);exact kk
 .exact aI
 .refine pI ?_;intros;rename_i hx
  refine T_x (Ad1 Abh Ek underlying101 rfl (fun _=>by exact sE) rfl (fun g1=>?_));refine pq ?_;intros;rename_i hx
  refine Bf 99 2 ?_;refine Aj9 (σ:=List Ab) (γ:=(List (Ab×Int))×(Option (Ab×Int))×OA×Nat) hx (fun y0=>y0.1) (fun s0 y0=>[(0,.pointer (some ⟨g0_0,0,none⟩)),(3,.slice y0.2.2.1 s0.length y0.2.2.2),(11,.pointer (some ⟨g1,0,none⟩))]) (fun s0 y0=>.r y0.2.2.1 s0.length y0.2.2.2 99 2 (s0.flatMap Ar) :: .m g0_0 200 [.slice E0 p0.v.length G0,.map (some gm0_0),.map (some gm0_1)]::rngE prog 99 Al Du gm0_0 g1 p0.apex y0.1 y0.2.1::Be prog 99 Al Cc gm0_1 p0.fixed::Lf) (fun s0 y0=>True) (_,_,_,_) rfl trivial (by exact sF2) (by exact pK2) ?_;intro s0 y0 _ hm0;replace hm0:MR _ _ y0.1 s0 r:=hm0;refine pq ?_;intros;rename_i hx
  refine T_h (Agz Abh Ek Xo rfl (fun _ _=>by exact sE) rfl (fun hn0=>?_) (fun p27_ hp0=>?_))
  .obtain⟨x0,hx,ht0⟩:=MR.noneK hm0 hn0;unfold Th at hx;refine Ab4 (by exact sE) ?_;exact au
  .obtain⟨x0,hx,ht0,hn1⟩:=MR.someK hm0 hp0;unfold Pb at hx;exact au⟩
theorem Za(p0:Ag){g0_0:Nat}{gm0_0:Nat}{gm0_1:Nat}{K:List Ent}{E0:Option Addr}{G0:Nat}(ha0:Has K E0 p0.v.length G0 4 Ai p0.v){r:Ag × List Ab}(hx:Gh p0=some r):CtK prog 217 [.pointer (some ⟨g0_0,0,none⟩)] K [.m g0_0 200 [.slice E0 p0.v.length G0,.map (some gm0_0),.map (some gm0_1)],Be prog 99 Al Du gm0_0 p0.apex,Be prog 99 Al Cc gm0_1 p0.fixed] fun v Ln=>∃ (A0:Option Addr) (c0:Nat) (A2:Option Addr) (c2:Nat),v = .slice A2 r.2.length c2/\Ln=[.m g0_0 200 [.slice A0 r.1.v.length c0,.map (some gm0_0),.map (some gm0_1)],Be prog 99 Al Du gm0_0 r.1.apex,Be prog 99 Al Cc gm0_1 r.1.fixed,.r A2 r.2.length c2 99 2 (r.2.flatMap Ar)]/\Has (K++[]) A0 r.1.v.length c0 4 Ai r.1.v/\True:=(CtK.one ((Aak p0).h _ _ _ _ _ _ _  K K _ _ _ ⟨rfl,rfl,rfl,rfl,trivial⟩ ⟨ha0,trivial⟩ hx)).mono (by
  rintro _ _ ⟨_,_,_,_,rfl,rfl,f0,-⟩;exact⟨_,_,_,_,rfl,rfl,Has.up0 f0,trivial⟩)
instance(p0:Ag):ConK (Hj p0) prog 135 (fun g0_0 gm0_0 gm0_1 E0 G0 ua0 uc0 vs Lp=>vs=[.pointer (some ⟨g0_0,0,none⟩)]/\Lp=[.m g0_0 200 [.slice E0 p0.v.length G0,.map (some gm0_0),.map (some gm0_1)],Be prog 99 Al Du gm0_0 p0.apex,Be prog 99 Al Cc gm0_1 p0.fixed]/\ua0=none/\uc0=0/\True) (fun E0 G0 ua0 uc0 K K2=>Has K E0 p0.v.length G0 4 Ai p0.v/\True) (fun g0_0 gm0_0 gm0_1 E0 G0 ua0 uc0 K r v Ln=>∃A0 c0 A2 c2,v=.slice A2 r.2.length c2/\Ln=[.m g0_0 200 [.slice A0 r.1.v.length c0,.map (some gm0_0),.map (some gm0_1)],Be prog 99 Al Du gm0_0 r.1.apex,Be prog 99 Al Cc gm0_1 r.1.fixed,.r A2 r.2.length c2 122 3 (r.2.flatMap Bg)]/\Has K A0 r.1.v.length c0 4 Ai r.1.v/\True):=⟨by
 rintro g0_0 gm0_0 gm0_1 E0 G0 _ _ K K2 _ _ r ⟨rfl,rfl,rfl,rfl,-⟩ ⟨ha0,-⟩ hx;unfold Hj at hx;refine CtSK ntmps135 results135 ?_;intro Lf hKf;have hKg:=hKf.r;replace hKf:=hKf.l;refine Rv ?_;refine pq ?_;intros;rename_i hx
 refine pA ?_;intros;rename_i hx
 refine pA ?_;intros;rename_i hx
 apply Jr (γ:=OA×Nat) hx [0] (fun s3 y3 f=>(3,.slice y3.1 s3.length y3.2)::f) [0,1,2,1003] (fun s3 y3 l=>.r y3.1 s3.length y3.2 122 3 (s3.flatMap Bg)::l);exact kk
 .exact aI
 .refine pI ?_;intros;rename_i hx
  refine T_x (Ad1 Abh Ek underlying101 rfl (fun _=>by exact sE) rfl (fun g1=>?_));refine pq ?_;intros;rename_i hx
  refine Bf 122 3 ?_;refine Aj9 (σ:=List Ah) (γ:=(List (Ab×Int))×(Option (Ab×Int))×OA×Nat) hx (fun y0=>y0.1) (fun s0 y0=>[(0,.pointer (some ⟨g0_0,0,none⟩)),(3,.slice y0.2.2.1 s0.length y0.2.2.2),(10,.pointer (some ⟨g1,0,none⟩))]) (fun s0 y0=>.r y0.2.2.1 s0.length y0.2.2.2 122 3 (s0.flatMap Bg) :: .m g0_0 200 [.slice E0 p0.v.length G0,.map (some gm0_0),.map (some gm0_1)]::rngE prog 99 Al Du gm0_0 g1 p0.apex y0.1 y0.2.1::Be prog 99 Al Cc gm0_1 p0.fixed::Lf) (fun s0 y0=>True) (_,_,_,_) rfl trivial (by exact sF2) (by exact pK2) ?_;intro s0 y0 _ hm0;replace hm0:MR _ _ y0.1 s0 r:=hm0;refine pq ?_;intros;rename_i hx
  refine T_h (Agz Abh Ek Xo rfl (fun _ _=>by exact sE) rfl (fun hn0=>?_) (fun p19_ hp0=>?_))
  .obtain⟨x0,hx,ht0⟩:=MR.noneK hm0 hn0;unfold Qp at hx;refine Ab4 (by exact sE) ?_;exact au
  .obtain⟨x0,hx,ht0,hn1⟩:=MR.someK hm0 hp0;unfold Mc at hx;exact au⟩
theorem Ahz(p0:List Aa){K:LE}{E0:OA}{G0:Nat}(ha0:Has K E0 p0.length G0 4 Ai p0){r:LI}(hx:Tt p0=some r)(w:World)(hK:∀e∈K,Ent.ok w e):CtL prog 131 [.slice E0 p0.length G0] w fun v Ln=>∃(A0:OA) (c0:Nat),v=.slice A0 r.length c0/\Ln=[.r A0 r.length c0 3 1 (r.flatMap Ao)]/\True:=by
 have ha0':=Has.up0 ha0;refine CtL.mk 19 func131 rfl ntmps131 kr rfl ?_;show T 19 _ [(0,.slice E0 p0.length G0)] _;unfold Tt at hx;refine Y2 ?_;refine T_x (Aac rfl rfl rfl (fun g1=>?_));refine Y8 ?_;refine Tj (γ:=OA×Nat) hx (fun s3 y3=>[(1,.pointer (some ⟨g1,0,none⟩)),(3,.slice y3.1 s3.length y3.2)]) (fun s3 y3=>[.r y3.1 s3.length y3.2 3 1 (s3.flatMap Ao),.m g1 22 [.slice E0 p0.length G0]]++[.old w]) (fun s3 y3=>True) (fun s3 y3 hx0 hG0=>?_) (fun j3 hx=>?_)
 .refine Y4 ?_;obtain⟨h0,hx1⟩:=Dv hx0;refine T_h (Ame (p:=(okIx p0)) (arg:=fun x=>iq x) (cf:=(cmpR p0)) s3 (by exact⟨_,func214,rfl,rfl⟩) (fun w hok hcm=>Am0 p0 h0.2.2 s3 h0.1 h0.2.1 w hok hcm ⟨_,func215,rfl,rfl⟩) (fun ys=>[.r y3.1 s3.length y3.2 3 1 ys,.m g1 22 [.slice E0 p0.length G0]]++[.old w]) (fun ys=>by exact .here) (fun ys W hW x y px py=>⟨[iq x,iq y,.pointer (some ⟨g1,0,none⟩)],rfl,Ae1 x y p0 (Has.len' (Has.up (L:=(K++[.m g1 22 [.slice E0 p0.length G0]])) ha0' (SubE.app2 SubE.nil))) (Pt.m0 (List.mem_append_right _ mS)) (Atb p0 px py) W (Zf (K:=K) (K2:=[.m g1 22 [.slice E0 p0.length G0]]) hK (by exact (sb 2)) (by exact (sb 1)) hW)⟩) rfl rfl rfl ?_);refine Y9 ?_;have hn0:s3.length=(Ba ((cmpR p0)) s3).length:=(by rw[Do]);refine Wt (.here) (e':=.r y3.1 ((Ba ((cmpR p0)) s3).length) y3.2 3 1 ((Ba ((cmpR p0)) s3).flatMap Ao)) (by first|(rw[<-hn0];done)|rfl) ?_;refine Ze (s:=2) (v':=.slice y3.1 ((Ba ((cmpR p0)) s3).length) y3.2) rfl (by have hn1:s3.length=(Ba ((cmpR p0)) s3).length:=(by rw[Do]);first|(rw[<-hn1];done)|rfl) ?_;obtain rfl:=oI hx1;exact Kf (rs:=[.tmp 2]) results131 (.tmp rfl (.nil)) (Ln:=[.r y3.1 ((Ba ((cmpR p0)) s3).length) y3.2 3 1 ((Ba ((cmpR p0)) s3).flatMap Ao)]) ⟨y3.1,y3.2,rfl,rfl,trivial⟩ (Cj rfl Iz) (by exact .pick 0 rfl (.drop 0 rfl (.refl)))
 .refine Y2 ?_;refine Ay (Dm rfl (i:=0) rfl rfl Aec) rfl ?_;refine Ay (Gf rfl 105 underlying22) rfl ?_;refine Y4 ?_;obtain⟨t0,hl0,ho0⟩:=Aq hx;refine Bf 3 1 ?_;have hn2:0=(([]:LI)).length:=by simp[Je,Qx,List.length_append] <;> omega
  refine Wt (.here) (e':=.r none ((([]:LI)).length) 0 3 1 ((([]:LI)).flatMap Ao)) (by first|(rw[<-hn2];done)|rfl) ?_;refine Lp (σ:=LI×Int) (γ:=OA×Nat) hl0 (fun s0 y0=>[(1,.pointer (some ⟨g1,0,none⟩)),(3,.slice y0.1 s0.1.length y0.2),(6,iq (p0.length:Int)),(7,iq s0.2)]) (fun s0 y0=>[.r y0.1 s0.1.length y0.2 3 1 (s0.1.flatMap Ao),.m g1 22 [.slice E0 p0.length G0]]++[.old w]) (fun s0 y0=>True) (none,0) trivial (by exact .pick 0 rfl (.pick 0 rfl (.refl))) ?_;intro s0 y0 hG1 x0 hx2 ht0;unfold Rr at hx2;refine Y6 ?_;refine Ti hx2 (s:=8) rfl (fun h1 hx3=>?_) (fun h1 hx4=>?_)
  ·(iterate 14 refine Y ?_);refine T_x (Gx rfl (Ac7 _) rfl (fun g0=>?_));obtain⟨h2,hx5⟩:=Dv hx3;refine T_h (Rw Ao s0.1 [s0.2] rfl rfl rfl Axg (fun _=>rfl) (i':=0) rfl rfl rfl rfl h2 rfl (fun _ _=>.there (.here)) (fun _ _=>.drop .refl) dD (fun A1 c1=>?_));refine Y8 ?_;exact Rp (s0.1++[s0.2],w64 (s0.2+1)) (A1,c1) hx5 trivial (by exact .pick 0 rfl (.pick 0 rfl (.refl)))
  .refine Y3 ?_;obtain rfl:=Mg ht0 hx4;refine Y2 ?_;exact Mt s0.1 (y0.1,y0.2) ho0 trivial (by exact .pick 0 rfl (.pick 0 rfl (.refl)))
instance(p0:List Aa):Con (Tt p0) prog 131 (fun K vs=>∃E0 G0,vs=[.slice E0 p0.length G0]/\Has K E0 p0.length G0 4 Ai p0/\True) (fun _ r v Ln=>∃A0 c0,v=.slice A0 r.length c0/\Ln=[.r A0 r.length c0 3 1 (r.flatMap Ao)]/\True):=⟨by
 rintro K _ r ⟨E0,G0,rfl,ha0,-⟩ hx w hK;exact Ahz p0 ha0 hx w hK⟩
instance(p0:List Ab):Con (Ug p0) prog 129 (fun K vs=>∃E0 G0,vs=[.slice E0 p0.length G0]/\Has K E0 p0.length G0 2 Ar p0/\True) (fun _ r v Ln=>∃A0 c0,v=.slice A0 r.length c0/\Ln=[.r A0 r.length c0 99 2 (r.flatMap Ar)]/\True):=⟨by
 rintro K _ r ⟨E0,G0,rfl,ha0,-⟩ hx w hK;replace ha0:=ha0.lo hK;unfold Ug at hx;refine CtS ntmps129 results129 ?_;refine pq ?_;intros;rename_i hx
 refine pA ?_;intros;rename_i hx
 refine pA ?_;intros;rename_i hx
 apply Jr (γ:=OA×Nat) hx [] (fun s3 y3 f=>(3,.slice y3.1 s3.length y3.2)::f) [999] (fun s3 y3 l=>.r y3.1 s3.length y3.2 99 2 (s3.flatMap Ar)::l);exact kk
 .exact aI
 .refine pI ?_;intros;rename_i hx
  refine Bf 99 2 ?_;apply Lr (γ:=OA×Nat) hx [6,7] (fun s0 y0 f=>(3,.slice y0.1 s0.1.length y0.2)::(8,iq s0.2)::f) [999] (fun s0 y0 l=>.r y0.1 s0.1.length y0.2 99 2 (s0.1.flatMap Ar)::l) (_,_);exact kk;exact sk;intro s0 y0 x0 hx _;unfold Tk at hx;exact au⟩
theorem Am1:Rt prog 200 2 2:=.mk underlying200 rfl rfl (kr:prog.info? 171=some t171) (kr:t171.size=1) rfl
instance:Dz prog 200 2 2:=⟨Am1⟩
theorem Axq:Ud prog 171:=.mk underlying171 rfl (kr:prog.info? 171=some t171) kr
instance:OneI prog 171:=⟨Axq⟩
instance(x0:Int)(x1:Int)(x2:Int)(x3:Int)(x4:Int)(x5:Int)(x6:Int)(x7:Int):Kg prog 24 4 [(0,.agg #[iq x0,iq x1]),(1,.agg #[iq x2,iq x3]),(2,.agg #[iq x4,iq x5]),(3,.agg #[iq x6,iq x7])] 99 [iq x0,iq x1,iq x2,iq x3,iq x4,iq x5,iq x6,iq x7]:=⟨fun w=>kr⟩
theorem Am2  : Ot prog 22 0 [] 105 []:=fun w=>kr
instance:Kg prog 22 0 [] 105 []:=⟨Am2⟩
theorem Bap:Yq prog 22 105 4 32:=⟨underlying22,⟨t105,.agg #[iq 0,iq 0,iq 0,iq 0],kr,kr,kr,kr,rfl⟩,dD⟩
instance:Zm prog 22 105 4 32:=⟨Bap⟩
instance:Sd prog 26 [.slice none 0 0,.slice none 0 0,.slice none 0 0]:=⟨⟨_,zeroValue26,rfl⟩⟩
instance:Jg prog 26 [] [.slice none 0 0,.slice none 0 0,.slice none 0 0]:=⟨fun w=>kr⟩
instance:AggI prog 26 3:=⟨.mk underlying26 rfl (kr:prog.info? 26=some t26) kr⟩
instance(x0:OA)(x1:Nat)(x2:Nat)(x3:Nat)(x4:Nat):Jg prog 200 [(0,.slice x0 x1 x2),(1,.map (some x3)),(2,.map (some x4))] [.slice x0 x1 x2,.map (some x3),.map (some x4)]:=⟨fun w=>kr⟩
instance(x0:OA)(x1:Nat)(x2:Nat)(x3:OA)(x4:Nat)(x5:Nat)(x6:OA)(x7:Nat)(x8:Nat):Jg prog 26 [(0,.slice x0 x1 x2),(1,.slice x3 x4 x5),(2,.slice x6 x7 x8)] [.slice x0 x1 x2,.slice x3 x4 x5,.slice x6 x7 x8]:=⟨fun w=>kr⟩
def Ic(p1:LI)(p0:Ag):Int->Option (Sum Int Int):=fun s0=>
 jn (fun (s6:Bool)=>
 if s6=true then (some (.inl (w64 (s0+1))))
 else (some (.inr s0)))
 (fun j6=>if s0<(p1.length:Int) then (bnd (idx p1 0) fun x0=>
 bnd (idx p1 1) fun x1=>
 bnd (idx p1 s0) fun x2=>
 bnd (Bn p0 x0) fun r0=>
 bnd (Bn p0 x1) fun r1=>
 bnd (Bn p0 x2) fun r2=>
 bnd (Et r0 r1 r2) fun r3=>
 j6 (decide (r3=0)))
 else (j6 false))
def Fo(s2:Int)(p1:LI):(List Aa×(List (Ab×Int))×(List (Ab×Bool))×Int)->Option (Sum (List Aa×(List (Ab×Int))×(List (Ab×Bool))×Int) (List Aa×(List (Ab×Int))×(List (Ab×Bool)))):=fun s0=>
 if (w64 (s0.2.2.2+1))<s2 then (jn (fun (s1:List Aa×(List (Ab×Int))×(List (Ab×Bool)))=>
 some (.inl (s1.1,s1.2.1,s1.2.2,w64 (s0.2.2.2+1))))
 (fun j0=>bnd (idx p1 s0.2.2.2) fun x0=>
 bnd (idx p1 (w64 (s0.2.2.2+1))) fun x1=>
 bnd (idx p1 s2) fun x2=>
 bnd (Bn (⟨s0.1,s0.2.1,s0.2.2.1⟩:Ag) x0) fun r0=>
 bnd (Bn (⟨s0.1,s0.2.1,s0.2.2.1⟩:Ag) x1) fun r1=>
 bnd (Bn (⟨s0.1,s0.2.1,s0.2.2.1⟩:Ag) x2) fun r2=>
 bnd (Et r0 r1 r2) fun r3=>
 if 0<r3 then (bnd (idx p1 s0.2.2.2) fun x3=>
 bnd (idx p1 (w64 (s0.2.2.2+1))) fun x4=>
 bnd (idx p1 s2) fun x5=>
 bnd (Ex (⟨s0.1,s0.2.1,s0.2.2.1⟩:Ag) x3 x4 x5) fun r4=>
 j0 (r4.v,r4.apex,r4.fixed))
 else (bnd (idx p1 (w64 (s0.2.2.2+1))) fun x6=>
 bnd (idx p1 s0.2.2.2) fun x7=>
 bnd (idx p1 s2) fun x8=>
 bnd (Ex (⟨s0.1,s0.2.1,s0.2.2.1⟩:Ag) x6 x7 x8) fun r5=>
 j0 (r5.v,r5.apex,r5.fixed))))
 else (some (.inr (s0.1,s0.2.1,s0.2.2.1)))
def Dr(r0:Ag×List Ab)(x0:Int):(List Aa×(List (Ab×Int))×(List (Ab×Bool))×Int)->Option (Sum (List Aa×(List (Ab×Int))×(List (Ab×Bool))×Int) (List Aa×(List (Ab×Int))×(List (Ab×Bool)))):=fun s0=>
 if s0.2.2.2<(r0.2.length:Int) then (jn (fun (s1:List Aa×(List (Ab×Int))×(List (Ab×Bool)))=>
 some (.inl (s1.1,s1.2.1,s1.2.2,w64 (s0.2.2.2+1))))
 (fun j0=>bnd (idx r0.2 s0.2.2.2) fun x1=>
 bnd (Bn (⟨s0.1,s0.2.1,s0.2.2.1⟩:Ag) x1.a0) fun r1=>
 bnd (Bn (⟨s0.1,s0.2.1,s0.2.2.1⟩:Ag) x1.a1) fun r2=>
 bnd (Bn (⟨s0.1,s0.2.1,s0.2.2.1⟩:Ag) x0) fun r3=>
 bnd (Et r1 r2 r3) fun r4=>
 if 0<r4 then (bnd (Ex (⟨s0.1,s0.2.1,s0.2.2.1⟩:Ag) x1.a0 x1.a1 x0) fun r5=>
 j0 (r5.v,r5.apex,r5.fixed))
 else (j0 (s0.1,s0.2.1,s0.2.2.1))))
 else (some (.inr (s0.1,s0.2.1,s0.2.2.1)))
def Kk(p1:LI)(s2:Int):(List Aa×(List (Ab×Int))×(List (Ab×Bool))×LI×Int)->Option (Sum (List Aa×(List (Ab×Int))×(List (Ab×Bool))×LI×Int) Ag):=fun s0=>
 if s0.2.2.2.2<(((p1.length-Int.toNat (w64 (s2+1)):Nat):Int)) then (jn (fun (s1:List Aa×(List (Ab×Int))×(List (Ab×Bool)))=>
 some (.inl (s1.1,s1.2.1,s1.2.2,s0.2.2.2.1,w64 (s0.2.2.2.2+1))))
 (fun j0=>bnd (idx s0.2.2.2.1 s0.2.2.2.2) fun x0=>
 bnd (Li (⟨s0.1,s0.2.1,s0.2.2.1⟩:Ag)) fun r0=>
 bnd (lfix (Dr r0 x0) (r0.1.v,r0.1.apex,r0.1.fixed,0)) fun t0=>
 j0 t0))
 else (some (.inr (⟨s0.1,s0.2.1,s0.2.2.1⟩:Ag)))
def Md(p0:Ag)(p1:LI):Option Ag :=
 jn (fun (s2:Int)=>
 if (p1.length:Int)<=s2 then (some p0)
 else (jn (fun (s9:List Aa×(List (Ab×Int))×(List (Ab×Bool)))=>
 gd (0<=(w64 (s2+1))/\(w64 (s2+1))<=(p1.length:Int))<|
 bnd (lfix (Kk p1 s2) (s9.1,s9.2.1,s9.2.2,subl p1 (w64 (s2+1)) (p1.length:Int),0)) fun t0=>
 some t0)
 (fun j9=>bnd (lfix (Fo s2 p1) (p0.v,p0.apex,p0.fixed,0)) fun t1=>
 j9 t1)))
 (fun j2=>bnd (lfix (Ic p1 p0) 2) fun t2=>
 j2 t2)
def Ds  : (List Aa×(List (Ab×Int))×(List (Ab×Bool))×List Ab)->Option (Sum (List Aa×(List (Ab×Int))×(List (Ab×Bool))×List Ab) Ag):=fun s0=>
 if 0<(s0.2.2.2.length:Int) then (bnd (idx s0.2.2.2 (w64 ((s0.2.2.2.length:Int)-1))) fun x0=>
 gd (0<=(w64 ((s0.2.2.2.length:Int)-1))/\(w64 ((s0.2.2.2.length:Int)-1))<=(s0.2.2.2.length:Int))<|
 gd ((-9223372036854775808<=x0.a0/\x0.a0<=9223372036854775807)/\(-9223372036854775808<=x0.a1/\x0.a1<=9223372036854775807))<|
 bnd (some ((mget s0.2.1 x0).getD 0)) fun x1=>
 gd ((-9223372036854775808<=x0.a1/\x0.a1<=9223372036854775807)/\(-9223372036854775808<=x0.a0/\x0.a0<=9223372036854775807))<|
 bnd (some ((mget s0.2.1 ((⟨x0.a1,x0.a0⟩:Ab))).getD 0)) fun x2=>
 jn (fun (s1:List Ab×Bool)=>
 if s1.2=true then (some (.inl (s0.1,s0.2.1,s0.2.2.1,s1.1)))
 else (bnd (Cz (⟨s0.1,s0.2.1,s0.2.2.1⟩:Ag) x0.a0 x0.a1) fun r0=>
 if r0.2=true then (bnd (Gp x0.a0 x1) fun r1=>
 bnd (Gp x1 x0.a1) fun r2=>
 bnd (Gp x0.a1 x2) fun r3=>
 bnd (Gp x2 x0.a0) fun r4=>
 gd ((s1.1.length+4)*16<=140737488355328)<|
 some (.inl (r0.1.v,r0.1.apex,r0.1.fixed,s1.1++[r1,r2,r3,r4])))
 else (some (.inl (r0.1.v,r0.1.apex,r0.1.fixed,s1.1)))))
 (fun j0=>if ((mget s0.2.1 x0).isSome)=true then (if ((mget s0.2.1 ((⟨x0.a1,x0.a0⟩:Ab))).isSome)=true then (gd ((-9223372036854775808<=x0.a0/\x0.a0<=9223372036854775807)/\(-9223372036854775808<=x0.a1/\x0.a1<=9223372036854775807))<|
 bnd (some ((mget s0.2.2.1 x0).getD false)) fun x3=>
 if x3=true then (j0 (List.take (Int.toNat (w64 ((s0.2.2.2.length:Int)-1))) s0.2.2.2,true))
 else (bnd (Bn (⟨s0.1,s0.2.1,s0.2.2.1⟩:Ag) x0.a0) fun r5=>
 bnd (Bn (⟨s0.1,s0.2.1,s0.2.2.1⟩:Ag) x0.a1) fun r6=>
 bnd (Bn (⟨s0.1,s0.2.1,s0.2.2.1⟩:Ag) x1) fun r7=>
 bnd (Bn (⟨s0.1,s0.2.1,s0.2.2.1⟩:Ag) x2) fun r8=>
 bnd (Tq r5 r6 r7 r8) fun r9=>
 j0 (List.take (Int.toNat (w64 ((s0.2.2.2.length:Int)-1))) s0.2.2.2,r9)))
 else (j0 (List.take (Int.toNat (w64 ((s0.2.2.2.length:Int)-1))) s0.2.2.2,true)))
 else (j0 (List.take (Int.toNat (w64 ((s0.2.2.2.length:Int)-1))) s0.2.2.2,true))))
 else (some (.inr (⟨s0.1,s0.2.1,s0.2.2.1⟩:Ag)))
def Kc(p0:Ag):Option Ag :=
 bnd (Gh p0) fun r1=>
 bnd (lfix Ds (r1.1.v,r1.1.apex,r1.1.fixed,r1.2)) fun t0=>
 some t0
def Ie(r2:Ag×List Ab)(p1:Ab):(List Ab×Int)->Option (Sum (List Ab×Int) (List Aa×(List (Ab×Int))×(List (Ab×Bool))×List Ab)):=fun s0=>
 if s0.2<(r2.2.length:Int) then (jn (fun (s1:List Ab)=>
 some (.inl (s1,w64 (s0.2+1))))
 (fun j0=>bnd (idx r2.2 s0.2) fun x0=>
 bnd (Ja r2.1.v p1 x0) fun r0=>
 if r0=true then (gd ((s0.1.length+1)*16<=140737488355328)<|
 j0 (s0.1++[x0]))
 else (j0 s0.1)))
 else (some (.inr (r2.1.v,r2.1.apex,r2.1.fixed,s0.1)))
def Ce(p1:Ab):(List Aa×(List (Ab×Int))×(List (Ab×Bool))×List Ab)->Option (Sum (List Aa×(List (Ab×Int))×(List (Ab×Bool))×List Ab) (List Aa×(List (Ab×Int))×(List (Ab×Bool)))):=fun s0=>
 if 0<(s0.2.2.2.length:Int) then (bnd (idx s0.2.2.2 0) fun x0=>
 gd ((0:Int)<=1/\1<=(s0.2.2.2.length:Int))<|
 gd ((-9223372036854775808<=x0.a0/\x0.a0<=9223372036854775807)/\(-9223372036854775808<=x0.a1/\x0.a1<=9223372036854775807))<|
 bnd (some ((mget s0.2.1 x0).getD 0)) fun x1=>
 gd ((-9223372036854775808<=x0.a1/\x0.a1<=9223372036854775807)/\(-9223372036854775808<=x0.a0/\x0.a0<=9223372036854775807))<|
 bnd (some ((mget s0.2.1 ((⟨x0.a1,x0.a0⟩:Ab))).getD 0)) fun x2=>
 bnd (Cz (⟨s0.1,s0.2.1,s0.2.2.1⟩:Ag) x0.a0 x0.a1) fun r0=>
 if r0.2=true then (bnd (Gp x1 x2) fun r1=>
 bnd (Ja r0.1.v p1 r1) fun r2=>
 if r2=true then (gd (((List.drop (Int.toNat 1) s0.2.2.2).length+1)*16<=140737488355328)<|
 some (.inl (r0.1.v,r0.1.apex,r0.1.fixed,(List.drop (Int.toNat 1) s0.2.2.2)++[r1])))
 else (some (.inl (r0.1.v,r0.1.apex,r0.1.fixed,List.drop (Int.toNat 1) s0.2.2.2))))
 else (gd (((List.drop (Int.toNat 1) s0.2.2.2).length+1)*16<=140737488355328)<|
 some (.inl (r0.1.v,r0.1.apex,r0.1.fixed,(List.drop (Int.toNat 1) s0.2.2.2)++[x0]))))
 else (some (.inr (s0.1,s0.2.1,s0.2.2.1)))
def Iv(p0:Ag)(p1:Ab):Option Ag :=
 jn (fun (s3:List Aa×(List (Ab×Int))×(List (Ab×Bool))×List Ab)=>
 jn (fun (s0:List Aa×(List (Ab×Int))×(List (Ab×Bool)))=>
 gd ((-9223372036854775808<=p1.a0/\p1.a0<=9223372036854775807)/\(-9223372036854775808<=p1.a1/\p1.a1<=9223372036854775807))<|
 gd (s0.2.2.length<9223372036854775807)<|
 some (⟨s0.1,s0.2.1,mput s0.2.2 p1 true⟩:Ag))
 (fun j0=>bnd (lfix (Ce p1) (s3.1,s3.2.1,s3.2.2.1,s3.2.2.2)) fun t0=>
 j0 t0))
 (fun j3=>bnd (Gh p0) fun r2=>
 bnd (lfix (Ie r2 p1) (([]:List Ab),0)) fun t1=>
 j3 t1)
def Og(p0:List Aa):Option (List Aa):=gd (p0.length*32<=140737488355328) <| some p0
theorem Abe(p0:List Aa){K:List Ent}{E0:Option Addr}{G0:Nat}(ha0:Has K E0 p0.length G0 4 Ai p0){r:List Aa}(hx:Og p0=some r)(w:World)(hK:∀ e∈K,Ent.ok w e):
  CtL prog 134 [.slice E0 p0.length G0] w (fun v Ln=>∃(A0:OA) (c0:Nat),v=.slice A0 r.length c0/\Ln=[.r A0 r.length c0 105 4 (r.flatMap Ai)]/\True):=by
 obtain⟨hb,hx⟩:=Dv hx;obtain rfl:=oI hx;have ha:Has [.old w] E0 p0.length G0 4 Ai p0:=Has.low (E:=[]) (by rw[List.append_nil];exact ha0) hK;refine CtL.mk 8 func134 rfl ntmps134 kr rfl ?_;show T 8 _ [(0,.slice E0 p0.length G0)] _;refine Y9 ?_;refine Ay (As7 underlying22 rfl rfl) rfl ?_;refine Y2 ?_;cases hA:E0 with
 |none=>
  subst hA;have h0:p0=[]:=by
   cases p0 with
   |nil=>rfl
   |cons x r=>obtain⟨b,o,h,_⟩:=ha.at_ s_;cases h
  subst h0;refine Y8 ?_;refine Bf 105 4 ?_;exact Kf (rs:=[.tmp 2]) results134 (.tmp rfl .nil) (Ln:=[.r none 0 0 105 4 []]) ⟨none,0,rfl,rfl,trivial⟩ (Cj rfl Iz) (.pick 0 rfl (.pick 0 rfl .refl))
 |some a=>
  subst hA;refine Y5 ?_;refine T_x (Gx rfl Am2 rfl (fun g5=>?_));refine Y ?_;refine T_mr (enc:=Ai) (sz:=4) (([]:List Aa)) (.here) rfl rfl (fun _=>rfl) dD ?_;refine T_h (Ahe Ai ([]:List Aa) p0 rfl rfl Bap (fun _=>rfl) ha (sb 1) (fun _=>rfl) (by rw[List.length_nil,Nat.zero_add];exact hb) rfl (fun _ _=>.here) dD (fun A1 c1=>?_));refine Y4 ?_;exact Kf (rs:=[.tmp 2]) results134 (.tmp rfl .nil) (Ln:=[.r A1 p0.length c1 105 4 (p0.flatMap Ai)]) ⟨A1,c1,rfl,rfl,trivial⟩ (Cj rfl Iz) (.pick 0 rfl (.pick 0 rfl .refl))
instance(p0:List Aa):Con (Og p0) prog 134 (fun K vs=>∃E0 G0,vs=[.slice E0 p0.length G0]/\Has K E0 p0.length G0 4 Ai p0/\True) (fun _ r v Ln=>∃A0 c0,v=.slice A0 r.length c0/\Ln=[.r A0 r.length c0 105 4 (r.flatMap Ai)]/\True):=⟨by rintro K _ r ⟨A,c,rfl,ha,-⟩ hx w hK;exact Abe p0 ha hx w hK⟩
structure Aw where
 V:List Aa
 T:List Ah
 Lines:List Ab
def Qq(r0:List Ab):(List Aa×(List (Ab×Int))×(List (Ab×Bool))×Int)->Option (Sum (List Aa×(List (Ab×Int))×(List (Ab×Bool))×Int) (List Aa×(List (Ab×Int))×(List (Ab×Bool)))):=fun s0=>
 if s0.2.2.2<(r0.length:Int) then (bnd (idx r0 s0.2.2.2) fun x0=>
 bnd (Iv (⟨s0.1,s0.2.1,s0.2.2.1⟩:Ag) x0) fun r1=>
 some (.inl (r1.v,r1.apex,r1.fixed,w64 (s0.2.2.2+1))))
 else (some (.inr (s0.1,s0.2.1,s0.2.2.1)))
def Me(p0:List Aa)(p1:List Ab):Option (Aw×Int):=
 bnd (Rh p0) fun r2=>
 if r2=0 then (bnd (Pf p0 p1) fun r8=>
 if r8=0 then (bnd (Ug p1) fun r0=>
 bnd (Tt p0) fun r1=>
 bnd (Md (⟨p0,([]:List (Ab×Int)),([]:List (Ab×Bool))⟩:Ag) r1) fun r3=>
 jn (fun (s0:List Aa×(List (Ab×Int))×(List (Ab×Bool)))=>
 bnd (Og p0) fun r4=>
 bnd (Hj (⟨s0.1,s0.2.1,s0.2.2⟩:Ag)) fun r5=>
 some ((⟨r4,r5.2,r0⟩:Aw),0))
 (fun j0=>if 0<((r3.apex.length:Int)) then (jn (fun (s1:List Aa×(List (Ab×Int))×(List (Ab×Bool)))=>
 bnd (Kc (⟨s1.1,s1.2.1,s1.2.2⟩:Ag)) fun r6=>
 j0 (r6.v,r6.apex,r6.fixed))
 (fun j1=>bnd (lfix (Qq r0) (r3.v,r3.apex,r3.fixed,0)) fun t0=>
 j1 t0))
 else (j0 (r3.v,r3.apex,r3.fixed))))
 else (some ((⟨([]:List Aa),([]:List Ah),([]:List Ab)⟩:Aw),r8)))
 else (some ((⟨([]:List Aa),([]:List Ah),([]:List Ab)⟩:Aw),r2))
instance(p0:Ag)(p1:LI):ConK (Md p0 p1) prog 130 (fun g0_0 gm0_0 gm0_1 E0 G0 E1 G1 vs Lp=>vs=[.pointer (some ⟨g0_0,0,none⟩),.slice E1 p1.length G1]/\Lp=[.m g0_0 200 [.slice E0 p0.v.length G0,.map (some gm0_0),.map (some gm0_1)],Be prog 99 Al Du gm0_0 p0.apex,Be prog 99 Al Cc gm0_1 p0.fixed]/\True) (fun E0 G0 E1 G1 K K2=>Has K E0 p0.v.length G0 4 Ai p0.v/\Has K2 E1 p1.length G1 1 Ao p1/\True) (fun g0_0 gm0_0 gm0_1 E0 G0 E1 G1 K r v Ln=>∃A0 c0,v=.tuple #[]/\Ln=[.m g0_0 200 [.slice A0 r.v.length c0,.map (some gm0_0),.map (some gm0_1)],Be prog 99 Al Du gm0_0 r.apex,Be prog 99 Al Cc gm0_1 r.fixed]/\Has K A0 r.v.length c0 4 Ai r.v/\True):=⟨by
 rintro g0_0 gm0_0 gm0_1 E0 G0 E1 G1 K K2 _ _ r ⟨rfl,rfl,-⟩ ⟨ha0,ha1,-⟩ hx;unfold Md at hx;have:=dl 1 [0,0,0,0,0,0,0,0,1,2,0,0,0,1,2,0,0,0,0,1,2,2,0,0] [0,1,2,3,4,5,6,7,8,10,11,12,13,15,16,17,18,19,9,14,20,21,22,23];have:=dl 7 [0,0,0,0,1,2,0,0,0,0,0,1,2,0,0,0,0,1,2,2,0] [0,1,2,3,4,6,7,8,9,10,11,13,14,15,16,17,5,12,18,19,20];have:=dl 8 [0,0,0,0,1,0,0,0,0,1,0,0,0,1,3] [0,1,2,3,4,5,6,7,8,9,10,11,12,13,14];have:=dl 9 [0,0,0,0,0,1,0,0,0,1,0,0,0,1,3] [0,1,2,3,4,5,6,7,8,9,10,11,12,13,14];have:=dl 16 [0,0,1,2,0,0,1,2,0,0,2,2,0] [0,1,2,4,5,6,8,9,3,7,10,11,12];refine CtSK ntmps130 results130 ?_;intro Lf hKf;have hKg:=hKf.r;replace hKf:=hKf.l;refine Rv ?_;refine pq ?_;intros;rename_i hx
 refine pA ?_;intros;rename_i hx
 apply Jr (γ:=Unit) hx [0,1] (fun s2 y2 f=>(4,iq s2)::f) [0,1,2,1003] (fun s2 y2 l=>l);exact kk
 .intro s2 y2 hx;refine pq ?_;intros;rename_i hx
  refine Cq1e (s:=39) hx rfl cQ ?_ ?_
  .exact aI
  .refine pI ?_;intros;rename_i hx
   apply JrG (γ:=OA×Nat) hx [0,1,4] (fun s9 y9 f=>f) [1003] (fun s9 y9 l=>.m g0_0 200 [.slice y9.1 s9.1.length y9.2,.map (some gm0_0),.map (some gm0_1)]::Be prog 99 Al Du gm0_0 s9.2.1::Be prog 99 Al Cc gm0_1 s9.2.2::l) (fun s9 y9=>Has K y9.1 s9.1.length y9.2 4 Ai s9.1/\True);exact kk
   .intro s9 y9 hx hG;obtain⟨_,-⟩:=hG;refine pq ?_;intros;rename_i hx
    apply LrG (γ:=OA×Nat×OA×Nat) hx [0,101] (fun s0 y0 f=>(100,.slice y0.2.2.1 s0.2.2.2.1.length y0.2.2.2)::(102,iq s0.2.2.2.2)::f) [1003] (fun s0 y0 l=>.m g0_0 200 [.slice y0.1 s0.1.length y0.2.1,.map (some gm0_0),.map (some gm0_1)]::Be prog 99 Al Du gm0_0 s0.2.1::Be prog 99 Al Cc gm0_1 s0.2.2.1::l) (fun s0 y0=>Has K y0.1 s0.1.length y0.2.1 4 Ai s0.1/\Has K2 y0.2.2.1 s0.2.2.2.1.length y0.2.2.2 1 Ao s0.2.2.2.1/\True) (_,_,_,_);exact kk;exact sF2;exact gG;exact pK2;intro s0 y0 x0 hx _ hG;obtain⟨_,_,-⟩:=hG;unfold Kk at hx;refine pq ?_;intros;rename_i hx
    refine Cq1e (s:=103) hx rfl cQ ?_ ?_
    .refine pI ?_;intros;rename_i hx
     apply JrG (γ:=OA×Nat) hx [0,100,101,102] (fun s1 y1 f=>f) [1003] (fun s1 y1 l=>.m g0_0 200 [.slice y1.1 s1.1.length y1.2,.map (some gm0_0),.map (some gm0_1)]::Be prog 99 Al Du gm0_0 s1.2.1::Be prog 99 Al Cc gm0_1 s1.2.2::l) (fun s1 y1=>Has K y1.1 s1.1.length y1.2 4 Ai s1.1/\True);exact kk
     .intro s1 y1 hx hG;obtain⟨_,-⟩:=hG;exact au
     .refine pI ?_;intros;rename_i hx
      apply LrG (γ:=OA×Nat) hx [0,7,100,101,102,107,108] (fun s3 y3 f=>(109,iq s3.2.2.2)::f) [3,1004] (fun s3 y3 l=>.m g0_0 200 [.slice y3.1 s3.1.length y3.2,.map (some gm0_0),.map (some gm0_1)]::Be prog 99 Al Du gm0_0 s3.2.1::Be prog 99 Al Cc gm0_1 s3.2.2.1::l) (fun s3 y3=>Has K y3.1 s3.1.length y3.2 4 Ai s3.1/\True) (_,_);exact kk;exact sF2;exact gG;exact pK2;intro s3 y3 x1 hx _ hG;obtain⟨_,-⟩:=hG;unfold Dr at hx;exact au
    .exact aI
   .refine pI ?_;intros;rename_i hx
    apply LrG (γ:=OA×Nat) hx [0,1,4] (fun s4 y4 f=>(5,iq s4.2.2.2)::f) [1003] (fun s4 y4 l=>.m g0_0 200 [.slice y4.1 s4.1.length y4.2,.map (some gm0_0),.map (some gm0_1)]::Be prog 99 Al Du gm0_0 s4.2.1::Be prog 99 Al Cc gm0_1 s4.2.2.1::l) (fun s4 y4=>Has K y4.1 s4.1.length y4.2 4 Ai s4.1/\True) (_,_);exact kk;exact sF2;exact gG;exact pK2;intro s4 y4 x2 hx _ hG;obtain⟨_,-⟩:=hG;unfold Fo at hx;refine pq ?_;intros;rename_i hx
    refine Cq1e (s:=43) hx rfl cQ ?_ ?_
    .exact aI
    .exact aI
 .refine pI ?_;intros;rename_i hx
  apply Lr (γ:=Unit) hx [0,1] (fun s5 y5 f=>(4,iq s5)::f) [0,1,2,1003] (fun s5 y5 l=>l) ();exact kk;exact sk;intro s5 y5 x3 hx _;unfold Ic at hx;exact au⟩
instance(p0:Ag):ConK (Kc p0) prog 133 (fun g0_0 gm0_0 gm0_1 E0 G0 ua0 uc0 vs Lp=>vs=[.pointer (some ⟨g0_0,0,none⟩)]/\Lp=[.m g0_0 200 [.slice E0 p0.v.length G0,.map (some gm0_0),.map (some gm0_1)],Be prog 99 Al Du gm0_0 p0.apex,Be prog 99 Al Cc gm0_1 p0.fixed]/\ua0=none/\uc0=0/\True) (fun E0 G0 ua0 uc0 K K2=>Has K E0 p0.v.length G0 4 Ai p0.v/\True) (fun g0_0 gm0_0 gm0_1 E0 G0 ua0 uc0 K r v Ln=>∃A0 c0,v=.tuple #[]/\Ln=[.m g0_0 200 [.slice A0 r.v.length c0,.map (some gm0_0),.map (some gm0_1)],Be prog 99 Al Du gm0_0 r.apex,Be prog 99 Al Cc gm0_1 r.fixed]/\Has K A0 r.v.length c0 4 Ai r.v/\True):=⟨by
 rintro g0_0 gm0_0 gm0_1 E0 G0 _ _ K K2 _ _ r ⟨rfl,rfl,rfl,rfl,-⟩ ⟨ha0,-⟩ hx;unfold Kc at hx;have:=dl 4 [0,0,0,1,1,1,0,0,0,2,2] [0,1,2,3,4,5,6,7,8,9,10];have:=dl 5 [0,0,0,1,0,1,0,1,0,1,0,0,0,2,2] [0,1,2,3,4,5,6,7,8,9,10,11,12,13,14];have:=dl 6 [0,0,0,0,0,0,0,0,0,0,1,1,1,0,0,0,0,1,2,0,0,1,2,0,0,2,0,0,2,2,0] [0,1,2,3,4,5,6,7,8,9,10,11,12,13,14,15,16,17,19,20,21,23,24,26,27,18,22,25,28,29,30];have:=dl 8 [0,0,1,0,2,0,0,1,2,0,1,0,2,0,0,1,2,2,3,2] [0,1,2,3,5,6,7,9,10,11,13,14,15,4,8,12,16,17,18,19];refine CtSK ntmps133 results133 ?_;intro Lf hKf;have hKg:=hKf.r;replace hKf:=hKf.l;refine Rv ?_;refine pq ?_;intros;rename_i hx
 apply LrG (γ:=OA×Nat×OA×Nat) hx [0] (fun s0 y0 f=>(2,.slice y0.2.2.1 s0.2.2.2.length y0.2.2.2)::f) [1004] (fun s0 y0 l=>.m g0_0 200 [.slice y0.1 s0.1.length y0.2.1,.map (some gm0_0),.map (some gm0_1)]::Be prog 99 Al Du gm0_0 s0.2.1::Be prog 99 Al Cc gm0_1 s0.2.2.1 :: .r y0.2.2.1 s0.2.2.2.length y0.2.2.2 99 2 (s0.2.2.2.flatMap Ar)::l) (fun s0 y0=>Has K y0.1 s0.1.length y0.2.1 4 Ai s0.1/\True) (_,_,_,_);exact kk;exact sF2;exact gG;exact pK2;intro s0 y0 x0 hx _ hG;obtain⟨_,-⟩:=hG;unfold Ds at hx;refine pq ?_;intros;rename_i hx
 refine Cq1e (s:=12) hx rfl cQ ?_ ?_
 .refine pI ?_;intros;rename_i hx
  refine pA ?_;intros;rename_i hx
  apply Jr (γ:=OA×Nat) hx [0,3,4,6] (fun s1 y1 f=>(2,.slice y1.1 s1.1.length y1.2)::(76,.bool s1.2)::f) [0,1,2,3,1005] (fun s1 y1 l=>.r y1.1 s1.1.length y1.2 99 2 (s1.1.flatMap Ar)::l);exact kk
  .exact aI
  .refine pI ?_;intros;rename_i hx
   refine (Cb4 (s:=48) hx rfl (fun _ hx=>?_) (fun _ hx=>?_)) ⟨_,_,rfl,rfl⟩
   .refine pq ?_;intros;rename_i hx
    (with_reducible apply Vc 2);exact rfl;exact aT;exact aS;exact rfl;exact (fun _=>rfl);exact sA
    exact au
   .refine pq ?_;intros;rename_i hx
    refine (Cb4 (s:=52) hx rfl (fun _ hx=>?_) (fun _ hx=>?_)) ⟨_,_,rfl,rfl⟩
    .refine pq ?_;intros;rename_i hx
     (with_reducible apply Vc 2);exact rfl;exact aT;exact aS;exact rfl;exact (fun _=>rfl);exact sA
     exact au
    .refine pq ?_;intros;rename_i hx
     refine (Cb3 (s:=60) hx rfl (fun _ hx=>?_) (fun _ hx=>?_)) ⟨_,_,rfl,rfl⟩
     .refine pq ?_;intros;rename_i hx
      (with_reducible apply Vc 2);exact rfl;exact aT;exact aS;exact rfl;exact (fun _=>rfl);exact sA
      exact au
     .refine pq ?_;intros;rename_i hx
      (with_reducible apply Vc 2);exact rfl;exact aT;exact aS;exact rfl;exact (fun _=>rfl);exact sA
      exact au
 .exact aI⟩
theorem Zb(p0:Ag)(p1:Ab){g0_0:Nat}{gm0_0:Nat}{gm0_1:Nat}{K:LE}{E0:OA}{G0:Nat}(ha0:Has K E0 p0.v.length G0 4 Ai p0.v){r:Ag}(hx:Iv p0 p1=some r):CtK prog 132 [.pointer (some ⟨g0_0,0,none⟩),.agg #[iq p1.a0,iq p1.a1]] K [.m g0_0 200 [.slice E0 p0.v.length G0,.map (some gm0_0),.map (some gm0_1)],Be prog 99 Al Du gm0_0 p0.apex,Be prog 99 Al Cc gm0_1 p0.fixed] fun v Ln=>∃(A0:OA) (c0:Nat),v=.tuple #[]/\Ln=[.m g0_0 200 [.slice A0 r.v.length c0,.map (some gm0_0),.map (some gm0_1)],Be prog 99 Al Du gm0_0 r.apex,Be prog 99 Al Cc gm0_1 r.fixed]/\Has (K++[]) A0 r.v.length c0 4 Ai r.v/\True:=by
 have ha0':=Has.up0 ha0;refine CtK.mk 84 func132 rfl ntmps132 kr rfl ?_;intro Lf hKf;show T 84 _ [(0,.pointer (some ⟨g0_0,0,none⟩)),(1,.agg #[iq p1.a0,iq p1.a1])] ([.m g0_0 200 [.slice E0 p0.v.length G0,.map (some gm0_0),.map (some gm0_1)],Be prog 99 Al Du gm0_0 p0.apex,Be prog 99 Al Cc gm0_1 p0.fixed]++Lf);unfold Iv at hx;refine Y2 ?_;refine T_x (Aac rfl rfl rfl (fun g1=>?_));refine Y7 ?_;obtain⟨j3,hj3,hx⟩:=Aal hx;refine Xw (τ:=List Aa×(List (Ab×Int))×(List (Ab×Bool))×List Ab) (γ:=OA×Nat×OA×Nat) (J:=j3) (out:=r) (fun s3 y3=>[(0,.pointer (some ⟨g0_0,0,none⟩)),(3,.pointer (some ⟨g1,0,none⟩)),(4,.slice y3.2.2.1 s3.2.2.2.length y3.2.2.2)]) (fun s3 y3=>[.r y3.2.2.1 s3.2.2.2.length y3.2.2.2 99 2 (s3.2.2.2.flatMap Ar),.m g0_0 200 [.slice y3.1 s3.1.length y3.2.1,.map (some gm0_0),.map (some gm0_1)],Be prog 99 Al Du gm0_0 s3.2.1,Be prog 99 Al Cc gm0_1 s3.2.2.1,.m g1 99 [iq p1.a0,iq p1.a1]]++Lf) (fun s3 y3=>Has (K++[]) y3.1 s3.1.length y3.2.1 4 Ai s3.1/\True) ?_ ?_
 .intro s3 y3 hx0 hG0;obtain⟨hs0,-⟩:=hG0;subst hj3;obtain⟨j0,hj0,hx0⟩:=Aal hx0;refine Xw (τ:=List Aa×(List (Ab×Int))×(List (Ab×Bool))) (γ:=OA×Nat) (J:=j0) (out:=r) (fun s0 y0=>[(0,.pointer (some ⟨g0_0,0,none⟩)),(3,.pointer (some ⟨g1,0,none⟩))]) (fun s0 y0=>[.m g0_0 200 [.slice y0.1 s0.1.length y0.2,.map (some gm0_0),.map (some gm0_1)],Be prog 99 Al Du gm0_0 s0.2.1,Be prog 99 Al Cc gm0_1 s0.2.2,.m g1 99 [iq p1.a0,iq p1.a1]]++Lf) (fun s0 y0=>Has (K++[]) y0.1 s0.1.length y0.2 4 Ai s0.1/\True) ?_ ?_
  .intro s0 y0 hx1 hG1;obtain⟨hs1,-⟩:=hG1;subst hj0;refine T_dr [0,0,0,1,1,3] (.q 0 (.q 1 (.q 2 (.q 3 (.q 4 (.e 5 (.done) (.stop))))))) mixed kr kr ?_;refine Y2 ?_;refine P_p rfl rfl (Ez rfl Am1 rfl) rfl ?_;refine P_q rfl rfl (Dm rfl (i:=0) rfl rfl Axq) rfl ?_;refine P_q rfl rfl (Nw rfl (i:=3) rfl rfl Vu) rfl ?_;obtain⟨h0,hx2⟩:=Dv hx1;obtain⟨h1,hx3⟩:=Dv hx2;refine P_h rfl rfl (Agy (x:=p1) (y:=true) Abh Ek underlying171 rfl rfl rfl rfl rfl (.there (.there (.here))) (Apu p1 h0) h1 ?_) ?_;rotate_left;exact Oh;refine Y ?_;obtain rfl:=oI hx3;exact Axm (rs:=[]) results132 (.nil) (Ln:=[.m g0_0 200 [.slice y0.1 s0.1.length y0.2,.map (some gm0_0),.map (some gm0_1)],Be prog 99 Al Du gm0_0 s0.2.1,Be prog 99 Al Cc gm0_1 (mput s0.2.2 p1 true)]) ⟨y0.1,y0.2,rfl,rfl,Has.len' hs1,trivial⟩ (by exact .pick 0 rfl (.pick 0 rfl (.pick 0 rfl (.drop 0 rfl (.refl)))))
  .skip;refine Y ?_;refine Bea (.here) ?_;obtain⟨t0,hl0,ho0⟩:=Aq hx0;refine Lp (σ:=List Aa×(List (Ab×Int))×(List (Ab×Bool))×List Ab) (γ:=OA×Nat×OA×Nat) hl0 (fun s1 y1=>[(0,.pointer (some ⟨g0_0,0,none⟩)),(3,.pointer (some ⟨g1,0,none⟩)),(4,.slice y1.2.2.1 s1.2.2.2.length y1.2.2.2)]) (fun s1 y1=>[qw y1.2.2.1 s1.2.2.2.length y1.2.2.2 99 2 (s1.2.2.2.flatMap Ar),.m g0_0 200 [.slice y1.1 s1.1.length y1.2.1,.map (some gm0_0),.map (some gm0_1)],Be prog 99 Al Du gm0_0 s1.2.1,Be prog 99 Al Cc gm0_1 s1.2.2.1,.m g1 99 [iq p1.a0,iq p1.a1]]++Lf) (fun s1 y1=>Has (K++[]) y1.1 s1.1.length y1.2.1 4 Ai s1.1/\True) (y3.1,y3.2.1,y3.2.2.1,y3.2.2.2) ((by exact⟨Has.len' hs0,trivial⟩)) (by exact .pick 0 rfl (.pick 0 rfl (.pick 0 rfl (.pick 0 rfl (.pick 0 rfl (.refl)))))) ?_;intro s1 y1 hG2 x0 hx5 ht0;unfold Ce at hx5;obtain⟨hs2,-⟩:=hG2;refine Y4 ?_;refine Ay (Gf rfl 99 underlying24) rfl ?_;refine Y3 ?_;refine Ti hx5 (s:=32) rfl (fun h2 hx6=>?_) (fun h2 hx7=>?_)
   .refine Y7 ?_;obtain⟨x1,h4,hx8⟩:=Aq hx6;refine Awu (k:=0) rfl dD (fun _=>rfl) (fun hn0 hs3=>?_);obtain⟨b0,o0,j1,hA0,hj1,hl1,hp0⟩:=Has.at_idx hs3 h4;refine Ay (By rfl rfl hA0 (j:=j1) hj1 hl1 Apt) rfl ?_;refine Ay (Yp rfl hp0 (sb 0) rfl Vu) rfl ?_;refine T_x (Vr Aq3 rfl (fun g0=>?_));refine T_h (Rm rfl rfl rfl (.here) (.put (.put (.done))) rfl (List.cons_ne_nil _ _) Vu.2 ?_);refine Y5 ?_;refine Awu (k:=1) rfl dD (fun _=>rfl) (fun hn1 hs4=>?_);obtain⟨h5,hx9⟩:=Dv hx8;refine Awv (q:=Int.toNat 1) (.there (.here)) oo dD (fun _=>rfl) ?_;refine Ay (Apb rfl rfl Apt h5.1 h5.2) rfl ?_;refine Y4 ?_;refine T_dr [0,0,0,1,1,1,0,0,0,1,0,1,0,1,0,1,2,2] (.q 0 (.q 1 (.q 2 (.q 3 (.q 4 (.q 5 (.q 6 (.q 7 (.q 8 (.q 9 (.q 10 (.q 11 (.q 12 (.q 13 (.q 14 (.q 15 (.e 16 (.e 17 (.done) (.stop)) (.stop)))))))))))))))))) mixed kr kr ?_;refine Y2 ?_;refine P_p rfl rfl (Ez rfl Ahn rfl) rfl ?_;refine P_q rfl rfl (Dm rfl (i:=2) rfl rfl Aou) rfl ?_;refine P_q rfl rfl (Nw rfl (i:=0) rfl rfl Vu) rfl ?_;obtain⟨h6,hx10⟩:=Dv hx9;obtain⟨x2,h7,hx11⟩:=Aq hx10;refine P_q rfl rfl (Agw (x:=x1) (i:=3) (vv:=iq x2) Abh underlying101 (fun w=>kr) Ek rfl rfl rfl rfl Si (Apu x1 h6) h7 rfl) rfl ?_;refine Y2 ?_;refine P_p rfl rfl (Ez rfl Ahn rfl) rfl ?_;refine P_q rfl rfl (Dm rfl (i:=2) rfl rfl Aou) rfl ?_;refine P_p rfl rfl (So rfl rfl Amk dD dD rfl) rfl ?_;refine P_q rfl rfl (Dm rfl (i:=0) rfl rfl one3) rfl ?_;refine P_p rfl rfl (So rfl rfl Amk dD dD rfl) rfl ?_;refine P_q rfl rfl (Dm rfl (i:=0) rfl rfl one3) rfl ?_;refine P_p rfl rfl (Aab rfl (Aae _ _)) rfl ?_;obtain⟨h8,hx12⟩:=Dv hx11;obtain⟨x3,h9,hx13⟩:=Aq hx12;refine P_q rfl rfl (Agw (x:=(⟨x1.a1,x1.a0⟩:Ab)) (i:=3) (vv:=iq x3) Abh underlying101 (fun w=>kr) Ek rfl rfl rfl rfl Si (Apu ((⟨x1.a1,x1.a0⟩:Ab)) h8) h9 rfl) rfl ?_;refine P_x rfl (Zd (Sk rfl) rfl ?_) ?_;rotate_left;exact Oh;refine P_x rfl (Zd (Sk rfl) rfl ?_) ?_;rotate_left;exact Oh;refine Y6 ?_;refine Ay (So rfl rfl Amk dD dD rfl) rfl ?_;refine Ay (Dm rfl (i:=0) rfl rfl one3) rfl ?_;refine Ay (So rfl rfl Amk dD dD rfl) rfl ?_;refine Ay (Dm rfl (i:=0) rfl rfl one3) rfl ?_;obtain⟨r0,h10,hx14⟩:=Aq hx13;refine T_h (Adb rfl (by exact .pick 2 rfl (.pick 2 rfl (.pick 2 rfl (.refl)))) (by exact (SubE.appC (SubE.tail (SubE.tail (SubE.tail hKf))) SubE.nil)) (Aaj (⟨s1.1,s1.2.1,s1.2.2.1⟩:Ag) x1.a0 x1.a1 (Has.len' hs2) h10 (K:=(K++[]))) rfl ?_);rintro _ _ ⟨A1,c1,rfl,rfl,hs5,-⟩;refine Rv ?_;have hs6:Has (K++[]) _ _ _ _ _ _:=Has.assoc hs5;refine Y3 ?_;refine Afo (s:=60) rfl (fun h11=>?_) (fun h11=>?_)
    .have hx15:=Sq h11 hx14;refine Y4 ?_;refine Ay (Nw rfl (i:=3) rfl rfl Vu) rfl ?_;refine T_x (Gx rfl (Qy _ _) rfl (fun g2=>?_));obtain⟨h12,hx16⟩:=Dv hx15;refine T_h (Ag3 Ar (List.drop (Int.toNat 1) s1.2.2.2) [x1] rfl rfl rfl Are (fun _=>rfl) (i':=0) rfl rfl rfl rfl h12 rfl (fun _ _=>.there (.there (.there (.there (.there (.here)))))) (fun _ _=>.drop .refl) dD (fun A2 c2=>?_));refine Y6 ?_;exact Rp (r0.1.v,r0.1.apex,r0.1.fixed,(List.drop (Int.toNat 1) s1.2.2.2)++[x1]) (A1,c1,A2,c2) hx16 ((by exact⟨Has.len' hs6,trivial⟩)) (by exact .pick 4 rfl (.pick 0 rfl (.pick 0 rfl (.pick 0 rfl (.pick 1 rfl (.drop 0 rfl (.refl)))))))
    .have hx17:=Qc h11 hx14;refine Y7 ?_;obtain⟨r1,h13,hx18⟩:=Aq hx17;refine Tc (fun w1 hw1=>Akj x2 x3  h13 w1) ?_;refine T_x (Vr Aq3 rfl (fun g3=>?_));refine T_h (Rm rfl rfl rfl (.here) (.put (.put (.done))) rfl (List.cons_ne_nil _ _) Vu.2 ?_);refine Y3 ?_;refine T_dr [0,0,0,1,1,1,2] (.q 0 (.q 1 (.q 2 (.q 3 (.q 4 (.q 5 (.e 6 (.done) (.stop)))))))) mixed kr kr ?_;refine Y2 ?_;refine P_p rfl rfl (Ez rfl Ahm rfl) rfl ?_;refine P_q rfl rfl (Dm rfl (i:=1) rfl rfl Aec) rfl ?_;refine P_q rfl rfl (Nw rfl (i:=6) rfl rfl Vu) rfl ?_;refine P_q rfl rfl (Nw rfl (i:=0) rfl rfl Vu) rfl ?_;obtain⟨r3,h14,hx19⟩:=Aq hx18;refine Pc (fun w1 hw1=>Xf r0.1.v p1 r1 (Has.len' hs6) h14 w1 (Ad9 (K:=(K++[])) (by exact (SubE.appC (SubE.tail (SubE.tail (SubE.tail (SubE.tail (SubE.tail (SubE.tail (SubE.tail hKf))))))) SubE.nil)) hw1)) ?_;refine Y2 ?_;refine Nm (s:=74) rfl (fun h15=>?_) (fun h15=>?_)
     .have hx20:=Qc h15 hx19;refine Y3 ?_;refine Ay (Nw rfl (i:=0) rfl rfl Vu) rfl ?_;refine T_x (Gx rfl (Qy _ _) rfl (fun g4=>?_));obtain⟨h16,hx21⟩:=Dv hx20;refine T_h (Ag3 Ar (List.drop (Int.toNat 1) s1.2.2.2) [r1] rfl rfl rfl Are (fun _=>rfl) (i':=0) rfl rfl rfl rfl h16 rfl (fun _ _=>.there (.there (.there (.there (.there (.there (.here))))))) (fun _ _=>.drop .refl) dD (fun A3 c3=>?_));refine Y3 ?_;exact Rp (r0.1.v,r0.1.apex,r0.1.fixed,(List.drop (Int.toNat 1) s1.2.2.2)++[r1]) (A1,c1,A3,c3) hx21 ((by exact⟨Has.len' hs6,trivial⟩)) (by exact .pick 5 rfl (.pick 1 rfl (.pick 1 rfl (.pick 1 rfl (.pick 2 rfl (.drop 0 rfl (.drop 0 rfl (.refl))))))))
     .have hx22:=Sq h15 hx19;refine Y3 ?_;have hn2:s1.2.2.2.length-Int.toNat 1=(List.drop (Int.toNat 1) s1.2.2.2).length:=List.length_drop.symm;refine Wt (.there (.there (.there (.there (.there (.here)))))) (e':=qw (slA y1.2.2.1 y1.2.2.2 (Int.toNat 1) 2) ((List.drop (Int.toNat 1) s1.2.2.2).length) (y1.2.2.2-Int.toNat 1) 99 2 ((List.drop (Int.toNat 1) s1.2.2.2).flatMap Ar)) (by first|(rw[<-hn2];done)|rfl) ?_;refine Ze (s:=4) (v':=.slice (slA y1.2.2.1 y1.2.2.2 (Int.toNat 1) 2) ((List.drop (Int.toNat 1) s1.2.2.2).length) (y1.2.2.2-Int.toNat 1)) rfl (by have hn3:(s1.2.2.2.length-Int.toNat 1)=(List.drop (Int.toNat 1) s1.2.2.2).length:=List.length_drop.symm;first|(rw[<-hn3];done)|rfl) ?_;exact Rp (r0.1.v,r0.1.apex,r0.1.fixed,List.drop (Int.toNat 1) s1.2.2.2) (A1,c1,slA y1.2.2.1 y1.2.2.2 (Int.toNat 1) 2,y1.2.2.2-Int.toNat 1) hx22 ((by exact⟨Has.len' hs6,trivial⟩)) (by exact .pick 5 rfl (.pick 1 rfl (.pick 1 rfl (.pick 1 rfl (.pick 2 rfl (.drop 0 rfl (.drop 0 rfl (.refl))))))))
   .refine Y3 ?_;obtain rfl:=Mg ht0 hx7;refine Y2 ?_;exact Mt (s1.1,s1.2.1,s1.2.2.1) (y1.1,y1.2.1) ho0 ((by exact⟨Has.len' hs2,trivial⟩)) (by exact .pick 1 rfl (.pick 1 rfl (.pick 1 rfl (.pick 1 rfl (.drop 0 rfl (.refl))))))
 .skip;refine Y3 ?_;obtain⟨r2,h3,hx4⟩:=Aq hx;refine T_h (Adb rfl (by exact .pick 1 rfl (.pick 1 rfl (.pick 1 rfl (.refl)))) (by exact (SubE.appC (SubE.tail hKf) SubE.nil)) (Za p0 (Has.len' ha0') h3 (K:=(K++[]))) rfl ?_);rintro _ _ ⟨A5,c6,A7,c8,rfl,rfl,hs9,-⟩;refine Afs ?_;have hs7:Has (K++[]) _ _ _ _ _ _:=Has.assoc hs9;refine Ay (Gf rfl 99 underlying24) rfl ?_;refine Y4 ?_;obtain⟨t1,hl2,ho1⟩:=Aq hx4;refine Bf 99 2 ?_
  have hn4:0=(([]:List Ab)).length:=by simp[Je,Qx,List.length_append] <;> omega
  refine Wt (.here) (e':=.r none ((([]:List Ab)).length) 0 99 2 ((([]:List Ab)).flatMap Ar)) (by first|(rw[<-hn4];done)|rfl) ?_;refine Lp (σ:=List Ab×Int) (γ:=OA×Nat) hl2 (fun s2 y2=>[(0,.pointer (some ⟨g0_0,0,none⟩)),(3,.pointer (some ⟨g1,0,none⟩)),(4,.slice y2.1 s2.1.length y2.2),(12,.slice A7 r2.2.length c8),(13,iq (r2.2.length:Int)),(14,iq s2.2)]) (fun s2 y2=>[.r y2.1 s2.1.length y2.2 99 2 (s2.1.flatMap Ar),.m g0_0 200 [.slice A5 r2.1.v.length c6,.map (some gm0_0),.map (some gm0_1)],Be prog 99 Al Du gm0_0 r2.1.apex,Be prog 99 Al Cc gm0_1 r2.1.fixed,.r A7 r2.2.length c8 99 2 (r2.2.flatMap Ar),.m g1 99 [iq p1.a0,iq p1.a1]]++Lf) (fun s2 y2=>True) (none,0) trivial (by exact .pick 0 rfl (.pick 0 rfl (.pick 0 rfl (.pick 0 rfl (.pick 0 rfl (.pick 0 rfl (.refl))))))) ?_;intro s2 y2 hG3 x4 hx41 ht1;unfold Ie at hx41;refine Y6 ?_;refine Ti hx41 (s:=15) rfl (fun h43 hx44=>?_) (fun h43 hx45=>?_)
  .refine Y3 ?_;refine Tj (γ:=OA×Nat) hx44 (fun s4 y4=>[(0,.pointer (some ⟨g0_0,0,none⟩)),(3,.pointer (some ⟨g1,0,none⟩)),(4,.slice y4.1 s4.length y4.2),(12,.slice A7 r2.2.length c8),(13,iq (r2.2.length:Int)),(14,iq s2.2)]) (fun s4 y4=>[.r y4.1 s4.length y4.2 99 2 (s4.flatMap Ar),.m g0_0 200 [.slice A5 r2.1.v.length c6,.map (some gm0_0),.map (some gm0_1)],Be prog 99 Al Du gm0_0 r2.1.apex,Be prog 99 Al Cc gm0_1 r2.1.fixed,.r A7 r2.2.length c8 99 2 (r2.2.flatMap Ar),.m g1 99 [iq p1.a0,iq p1.a1]]++Lf) (fun s4 y4=>True) (fun s4 y4 hx69 hG4=>?_) (fun j2 hx44=>?_)
   .refine Y4 ?_;exact Rp (s4,w64 (s2.2+1)) (y4.1,y4.2) hx69 trivial (by exact .pick 0 rfl (.pick 0 rfl (.pick 0 rfl (.pick 0 rfl (.pick 0 rfl (.pick 0 rfl (.refl)))))))
   .refine Y3 ?_;obtain⟨x5,h47,hx48⟩:=Aq hx44;refine Aft (k:=4) rfl dD (fun _=>rfl) h47 (fun b1 j4 hA1 hj2 hl3 hm0 hp1=>?_);refine Ay (By rfl rfl hA1 (j:=j4) hj2 hl3 Apt) rfl ?_;refine Ay (Yp rfl hp1 (sb 4) rfl Vu) rfl ?_;refine T_x (Vr Aq3 rfl (fun g5=>?_));refine T_h (Rm rfl rfl rfl (.here) (.put (.put (.done))) rfl (List.cons_ne_nil _ _) Vu.2 ?_);refine Y3 ?_;refine T_dr [0,0,0,1,1,1,2] (.q 0 (.q 1 (.q 2 (.q 3 (.q 4 (.q 5 (.e 6 (.done) (.stop)))))))) mixed kr kr ?_;refine Y2 ?_;refine P_p rfl rfl (Ez rfl Ahm rfl) rfl ?_;refine P_q rfl rfl (Dm rfl (i:=2) rfl rfl Aec) rfl ?_;refine P_q rfl rfl (Nw rfl (i:=6) rfl rfl Vu) rfl ?_;refine P_q rfl rfl (Nw rfl (i:=0) rfl rfl Vu) rfl ?_;obtain⟨r4,h59,hx60⟩:=Aq hx48;refine Pc (fun w1 hw1=>Xf r2.1.v p1 x5 (Has.len' hs7) h59 w1 (Ad9 (K:=(K++[])) (by exact (SubE.appC (SubE.tail (SubE.tail (SubE.tail (SubE.tail (SubE.tail (SubE.tail (SubE.tail hKf))))))) SubE.nil)) hw1)) ?_;refine Y2 ?_;refine Nm (s:=24) rfl (fun h61=>?_) (fun h61=>?_)
    .have hx62:=Qc h61 hx60;refine Y3 ?_;refine Ay (Nw rfl (i:=0) rfl rfl Vu) rfl ?_;refine T_x (Gx rfl (Qy _ _) rfl (fun g6=>?_));obtain⟨h64,hx65⟩:=Dv hx62;refine T_h (Rw Ar s2.1 [x5] rfl rfl rfl Are (fun _=>rfl) (i':=0) rfl rfl rfl rfl h64 rfl (fun _ _=>.there (.there (.here))) (fun _ _=>.drop .refl) dD (fun A4 c4=>?_));refine Y3 ?_;exact Mt (s2.1++[x5]) (A4,c4) hx65 trivial (by exact .pick 1 rfl (.pick 1 rfl (.pick 1 rfl (.pick 1 rfl (.pick 1 rfl (.pick 1 rfl (.drop 0 rfl (.refl))))))))
    .have hx68:=Sq h61 hx60;refine Y3 ?_;exact Mt s2.1 (y2.1,y2.2) hx68 trivial (by exact .pick 1 rfl (.pick 1 rfl (.pick 1 rfl (.pick 1 rfl (.pick 1 rfl (.pick 1 rfl (.drop 0 rfl (.refl))))))))
  .refine Y3 ?_;obtain rfl:=Mg ht1 hx45;refine Y2 ?_;exact Mt (r2.1.v,r2.1.apex,r2.1.fixed,s2.1) (A5,c6,y2.1,y2.2) ho1 ((by exact⟨Has.len' hs7,trivial⟩)) (by exact .pick 0 rfl (.pick 0 rfl (.pick 0 rfl (.pick 0 rfl (.pick 1 rfl (.drop 0 rfl (.refl)))))))
instance(p0:Ag)(p1:Ab):ConK (Iv p0 p1) prog 132 (fun g0_0 gm0_0 gm0_1 E0 G0 ua0 uc0 vs Lp=>vs=[.pointer (some ⟨g0_0,0,none⟩),.agg #[iq p1.a0,iq p1.a1]]/\Lp=[.m g0_0 200 [.slice E0 p0.v.length G0,.map (some gm0_0),.map (some gm0_1)],Be prog 99 Al Du gm0_0 p0.apex,Be prog 99 Al Cc gm0_1 p0.fixed]/\ua0=none/\uc0=0/\True) (fun E0 G0 ua0 uc0 K K2=>Has K E0 p0.v.length G0 4 Ai p0.v/\True) (fun g0_0 gm0_0 gm0_1 E0 G0 ua0 uc0 K r v Ln=>∃A0 c0,v=.tuple #[]/\Ln=[.m g0_0 200 [.slice A0 r.v.length c0,.map (some gm0_0),.map (some gm0_1)],Be prog 99 Al Du gm0_0 r.apex,Be prog 99 Al Cc gm0_1 r.fixed]/\Has K A0 r.v.length c0 4 Ai r.v/\True):=⟨by
 rintro g0_0 gm0_0 gm0_1 E0 G0 _ _ K K2 _ _ r ⟨rfl,rfl,rfl,rfl,-⟩ ⟨ha0,-⟩ hx;exact CtK.wide ((Zb p0 p1 ha0 hx).mono (by
  rintro _ _ ⟨_,_,rfl,rfl,f0,-⟩;exact⟨_,_,rfl,rfl,Has.dn0 f0,trivial⟩))⟩
instance(p0:List Aa)(p1:List Ab):Con (Me p0 p1) prog 57 (fun K vs=>∃E0 G0 E1 G1,vs=[.slice E0 p0.length G0,.slice E1 p1.length G1]/\Has K E0 p0.length G0 4 Ai p0/\Has K E1 p1.length G1 2 Ar p1/\True) (fun _ r v Ln=>∃A0 c0 A2 c2 A4 c4,v=.tuple #[.agg #[.slice A0 r.1.V.length c0,.slice A2 r.1.T.length c2,.slice A4 r.1.Lines.length c4],iq r.2]/\Ln=[.r A0 r.1.V.length c0 105 4 (r.1.V.flatMap Ai),.r A2 r.1.T.length c2 122 3 (r.1.T.flatMap Bg),.r A4 r.1.Lines.length c4 99 2 (r.1.Lines.flatMap Ar)]/\True):=⟨by
 rintro K _ r ⟨E0,G0,E1,G1,rfl,ha0,ha1,-⟩ hx w hK;replace ha0:=ha0.lo hK;replace ha1:=ha1.lo hK;unfold Me at hx;refine CtS ntmps57 results57 ?_;refine pq ?_;intros;rename_i hx
 refine Cq2 (s:=15) hx rfl ?_ ?_
 .exact aI
 .refine pI ?_;intros;rename_i hx
  refine Cq2 (s:=22) hx rfl ?_ ?_
  .exact aI
  .refine pI ?_;intros;rename_i hx
   apply JrG (γ:=OA×Nat×Nat×Nat×Nat) hx [0,4,9] (fun s13 y13 f=>(8,.pointer (some ⟨y13.2.2.2.2,0,none⟩))::f) [3,4,5,999] (fun s13 y13 l=>.m y13.2.2.2.2 200 [.slice y13.1 s13.1.length y13.2.1,.map (some y13.2.2.1),.map (some y13.2.2.2.1)]::Be prog 99 Al Du y13.2.2.1 s13.2.1::Be prog 99 Al Cc y13.2.2.2.1 s13.2.2::l) (fun s13 y13=>Has ([.old w]:LE) y13.1 s13.1.length y13.2.1 4 Ai s13.1/\True);exact kk
   .intro s13 y13 hx hG;obtain⟨_,-⟩:=hG;exact au
   .refine pI ?_;intros;rename_i hx
    refine Cq1 (s:=41) hx rfl ?_ ?_
    .refine pI ?_;intros;rename_i hx
     apply JrG (γ:=OA×Nat×Nat×Nat×Nat) hx [0,4,9] (fun s15 y15 f=>(8,.pointer (some ⟨y15.2.2.2.2,0,none⟩))::f) [3,4,5,999] (fun s15 y15 l=>.m y15.2.2.2.2 200 [.slice y15.1 s15.1.length y15.2.1,.map (some y15.2.2.1),.map (some y15.2.2.2.1)]::Be prog 99 Al Du y15.2.2.1 s15.2.1::Be prog 99 Al Cc y15.2.2.2.1 s15.2.2::l) (fun s15 y15=>Has ([.old w]:LE) y15.1 s15.1.length y15.2.1 4 Ai s15.1/\True);exact kk
     .intro s15 y15 hx hG;obtain⟨_,-⟩:=hG;exact au
     .refine pI ?_;intros;rename_i hx
      apply LrG (γ:=OA×Nat×Nat×Nat×Nat) hx [0,4,9,42,43] (fun s62 y62 f=>(8,.pointer (some ⟨y62.2.2.2.2,0,none⟩))::(44,iq s62.2.2.2)::f) [3,4,5,999] (fun s62 y62 l=>.m y62.2.2.2.2 200 [.slice y62.1 s62.1.length y62.2.1,.map (some y62.2.2.1),.map (some y62.2.2.2.1)]::Be prog 99 Al Du y62.2.2.1 s62.2.1::Be prog 99 Al Cc y62.2.2.2.1 s62.2.2.1::l) (fun s62 y62=>Has ([.old w]:LE) y62.1 s62.1.length y62.2.1 4 Ai s62.1/\True) (_,_,_,_,_);exact kk;exact sF2;exact gG;exact pK2;intro s62 y62 x62 hx _ hG;obtain⟨_,-⟩:=hG;unfold Qq at hx;exact au
    .exact aI⟩
end
end Go.Proofs.YtlejkgngmjchdaaGreat
