import Derived.Test.YthlkpgdfifnagaaGreatD2
set_option maxRecDepth 100000
set_option maxHeartbeats 1000000
namespace Go.Proofs.YthlkpgdfifnagaaGreat
open Go Go.RowKit Tryz
theorem Ah5:Mo prog 156 0 0:=.mk underlying156 rfl rfl (show prog.info? 22=some Tryz.t22 from by kernel_rfl) (show Tryz.t22.size=1 from by kernel_rfl) rfl
instance:Cm prog 156 0 0:=⟨Ah5⟩
theorem Ah6:Mo prog 156 1 1:=.mk underlying156 rfl rfl (show prog.info? 153=some t153 from by kernel_rfl) (show t153.size=1 from by kernel_rfl) rfl
instance:Cm prog 156 1 1:=⟨Ah6⟩
theorem Aph:Tl prog 153:=.mk underlying153 rfl (show prog.info? 153=some t153 from by kernel_rfl) kr
instance:OneI prog 153:=⟨Aph⟩
structure Aj where
 v:List Ac
 apex:List (Ab × Int)
 fixed:List (Ab × Bool)
noncomputable def Bk(p0:Aj)(p1:Int):Option Aa :=
 bnd (idx p0.v p1) fun x2=>
 bnd (Fs x2) fun r0=>
 some r0
instance:UndI prog 153 (.map 103 3):=⟨underlying153⟩
noncomputable def Eo(p0:Aj)(p1:Int)(p2:Int)(p3:Int):Option Aj :=
 gd ((-9223372036854775808<=p1/\p1<=9223372036854775807)/\(-9223372036854775808<=p2/\p2<=9223372036854775807))<|
 gd (p0.apex.length<9223372036854775807)<|
 gd ((-9223372036854775808<=p2/\p2<=9223372036854775807)/\(-9223372036854775808<=p3/\p3<=9223372036854775807))<|
 gd ((mput p0.apex ((⟨p1,p2⟩:Ab)) p3).length<9223372036854775807)<|
 gd ((-9223372036854775808<=p3/\p3<=9223372036854775807)/\(-9223372036854775808<=p1/\p1<=9223372036854775807))<|
 gd ((mput (mput p0.apex ((⟨p1,p2⟩:Ab)) p3) ((⟨p2,p3⟩:Ab)) p1).length<9223372036854775807)<|
 some (⟨p0.v,mput (mput (mput p0.apex ((⟨p1,p2⟩:Ab)) p3) ((⟨p2,p3⟩:Ab)) p1) ((⟨p3,p1⟩:Ab)) p2,p0.fixed⟩:Aj)
noncomputable def Kk(p0:Aj)(p1:Int)(p2:Int)(p3:Int):Option Aj :=
 gd ((-9223372036854775808<=p1/\p1<=9223372036854775807)/\(-9223372036854775808<=p2/\p2<=9223372036854775807))<|
 gd ((-9223372036854775808<=p2/\p2<=9223372036854775807)/\(-9223372036854775808<=p3/\p3<=9223372036854775807))<|
 gd ((-9223372036854775808<=p3/\p3<=9223372036854775807)/\(-9223372036854775808<=p1/\p1<=9223372036854775807))<|
 some (⟨p0.v,mdel (mdel (mdel p0.apex ((⟨p1,p2⟩:Ab))) ((⟨p2,p3⟩:Ab))) ((⟨p3,p1⟩:Ab)),p0.fixed⟩:Aj)
noncomputable def Cx(p0:Aj)(p1:Int)(p2:Int):Option (Aj × Bool):=
 gd ((-9223372036854775808<=p1/\p1<=9223372036854775807)/\(-9223372036854775808<=p2/\p2<=9223372036854775807))<|
 bnd (some ((mget p0.apex ((⟨p1,p2⟩:Ab))).getD 0)) fun x3=>
 gd ((-9223372036854775808<=p2/\p2<=9223372036854775807)/\(-9223372036854775808<=p1/\p1<=9223372036854775807))<|
 bnd (some ((mget p0.apex ((⟨p2,p1⟩:Ab))).getD 0)) fun x8=>
 jn (fun (s5:Bool)=>
 if s5=true then (some (p0,false))
 else (bnd (Kk p0 p1 p2 x3) fun r0=>
 bnd (Kk r0 p2 p1 x8) fun r1=>
 bnd (Eo r1 p1 x8 x3) fun r2=>
 bnd (Eo r2 p2 x3 x8) fun r3=>
 some (r3,true)))
 (fun j5=>if ((mget p0.apex ((⟨p1,p2⟩:Ab))).isSome)=true then (if ((mget p0.apex ((⟨p2,p1⟩:Ab))).isSome)=true then (bnd (Bk p0 x3) fun r4=>
 bnd (Bk p0 x8) fun r5=>
 bnd (Bk p0 p1) fun r6=>
 bnd (Iy r4 r5 r6) fun r7=>
 bnd (Bk p0 x3) fun r8=>
 bnd (Bk p0 x8) fun r9=>
 bnd (Bk p0 p2) fun r35=>
 bnd (Iy r8 r9 r35) fun r38=>
 j5 (decide (0<=(w64 (r7*r38)))))
 else (j5 true))
 else (j5 true))
instance(p0:Aj)(p1:Int):Con (Bk p0 p1) prog 179 (fun K vs=>∃ g0_0 gm0_0 gm0_1 U0 E0,vs=[.pointer (some ⟨g0_0,0,none⟩),iq p1]/\Pt K g0_0 0 [.slice U0 p0.v.length E0,.map (some gm0_0),.map (some gm0_1)]/\Has K U0 p0.v.length E0 4 Ai p0.v/\True) (fun _ r=>fun v Ln=>v = .agg #[iq r.X,iq r.Y]/\Ln=[]/\True):=⟨by
 rintro K _ r ⟨g0_0,gm0_0,gm0_1,U0,E0,rfl,hp0,ha0,-⟩ hx w hK;replace hp0:=Pt.lo hp0 hK;replace ha0:=Has.lo ha0 hK;unfold Bk at hx;refine CtS ntmps179 results179 ?_;exact au⟩
instance(p0:Aj)(p1:Int)(p2:Int)(p3:Int):ConK (Eo p0 p1 p2 p3) prog 180 (fun g0_0 gm0_0 gm0_1 U0 E0 ua0 uc0 vs Lp=>vs=[.pointer (some ⟨g0_0,0,none⟩),iq p1,iq p2,iq p3]/\Lp=[.m g0_0 156 [.slice U0 p0.v.length E0,.map (some gm0_0),.map (some gm0_1)],Bc prog 103 Al Dn gm0_0 p0.apex,Bc prog 103 Al Bw gm0_1 p0.fixed]/\ua0=none/\uc0=0/\True) (fun U0 E0 ua0 uc0 K K2=>Has K U0 p0.v.length E0 4 Ai p0.v/\True) (fun g0_0 gm0_0 gm0_1 U0 E0 ua0 uc0 K r=>fun v Ln=>∃ A0 c0,v = .tuple #[]/\Ln=[.m g0_0 156 [.slice A0 r.v.length c0,.map (some gm0_0),.map (some gm0_1)],Bc prog 103 Al Dn gm0_0 r.apex,Bc prog 103 Al Bw gm0_1 r.fixed]/\Has K A0 r.v.length c0 4 Ai r.v/\True):=⟨by
 rintro g0_0 gm0_0 gm0_1 U0 E0 _ _ K K2 _ _ r ⟨rfl,rfl,rfl,rfl,-⟩ ⟨ha0,-⟩ hx;unfold Eo at hx;refine CtSK ntmps180 results180 ?_;intro Lf hKf;have hKg:=hKf.r;replace hKf:=hKf.l;refine Ts ?_;exact au⟩
instance(p0:Aj)(p1:Int)(p2:Int)(p3:Int):ConK (Kk p0 p1 p2 p3) prog 235 (fun g0_0 gm0_0 gm0_1 U0 E0 ua0 uc0 vs Lp=>vs=[.pointer (some ⟨g0_0,0,none⟩),iq p1,iq p2,iq p3]/\Lp=[.m g0_0 156 [.slice U0 p0.v.length E0,.map (some gm0_0),.map (some gm0_1)],Bc prog 103 Al Dn gm0_0 p0.apex,Bc prog 103 Al Bw gm0_1 p0.fixed]/\ua0=none/\uc0=0/\True) (fun U0 E0 ua0 uc0 K K2=>Has K U0 p0.v.length E0 4 Ai p0.v/\True) (fun g0_0 gm0_0 gm0_1 U0 E0 ua0 uc0 K r=>fun v Ln=>∃ A0 c0,v = .tuple #[]/\Ln=[.m g0_0 156 [.slice A0 r.v.length c0,.map (some gm0_0),.map (some gm0_1)],Bc prog 103 Al Dn gm0_0 r.apex,Bc prog 103 Al Bw gm0_1 r.fixed]/\Has K A0 r.v.length c0 4 Ai r.v/\True):=⟨by
 rintro g0_0 gm0_0 gm0_1 U0 E0 _ _ K K2 _ _ r ⟨rfl,rfl,rfl,rfl,-⟩ ⟨ha0,-⟩ hx;unfold Kk at hx;refine CtSK ntmps235 results235 ?_;intro Lf hKf;have hKg:=hKf.r;replace hKf:=hKf.l;refine Ts ?_;exact au⟩
instance Abz(p0:Aj)(p1:Int)(p2:Int):ConK (Cx p0 p1 p2) prog 186 (fun g0_0 gm0_0 gm0_1 U0 E0 ua0 uc0 vs Lp=>vs=[.pointer (some ⟨g0_0,0,none⟩),iq p1,iq p2]/\Lp=[.m g0_0 156 [.slice U0 p0.v.length E0,.map (some gm0_0),.map (some gm0_1)],Bc prog 103 Al Dn gm0_0 p0.apex,Bc prog 103 Al Bw gm0_1 p0.fixed]/\ua0=none/\uc0=0/\True) (fun U0 E0 ua0 uc0 K K2=>Has K U0 p0.v.length E0 4 Ai p0.v/\True) (fun g0_0 gm0_0 gm0_1 U0 E0 ua0 uc0 K r=>fun v Ln=>∃ A0 c0,v = .bool r.2/\Ln=[.m g0_0 156 [.slice A0 r.1.v.length c0,.map (some gm0_0),.map (some gm0_1)],Bc prog 103 Al Dn gm0_0 r.1.apex,Bc prog 103 Al Bw gm0_1 r.1.fixed]/\Has K A0 r.1.v.length c0 4 Ai r.1.v/\True):=⟨by
 rintro g0_0 gm0_0 gm0_1 U0 E0 _ _ K K2 _ _ r ⟨rfl,rfl,rfl,rfl,-⟩ ⟨ha0,-⟩ hx;unfold Cx at hx;refine CtSK ntmps186 results186 ?_;intro Lf hKf;have hKg:=hKf.r;replace hKf:=hKf.l;refine Ts ?_;try (refine pre ?_;intros;rename_i hx)
 refine Bf ?_;try (refine pre ?_;intros;rename_i hx)
 apply Jr (γ:=Unit) hx [0,1,2,7,9] (fun s5 y5 f=>(62,.bool s5)::f) [0,1,2,1003] (fun s5 y5 l=>l);exact kk
 ·intro s5 y5 hx;exact au
 ·intro _ hx;exact au⟩
theorem Aay(p0:Aj)(p1:Int)(p2:Int){g0_0:Nat}{gm0_0:Nat}{gm0_1:Nat}{K:List Ent}{U0:Option Addr}{E0:Nat}(ha0:Has K U0 p0.v.length E0 4 Ai p0.v){r:Aj × Bool}(hx:Cx p0 p1 p2=some r):CtK prog 186 [.pointer (some ⟨g0_0,0,none⟩),iq p1,iq p2] K [.m g0_0 156 [.slice U0 p0.v.length E0,.map (some gm0_0),.map (some gm0_1)],Bc prog 103 Al Dn gm0_0 p0.apex,Bc prog 103 Al Bw gm0_1 p0.fixed] fun v Ln=>∃ (A0:Option Addr) (c0:Nat),v = .bool r.2/\Ln=[.m g0_0 156 [.slice A0 r.1.v.length c0,.map (some gm0_0),.map (some gm0_1)],Bc prog 103 Al Dn gm0_0 r.1.apex,Bc prog 103 Al Bw gm0_1 r.1.fixed]/\Has (K++[]) A0 r.1.v.length c0 4 Ai r.1.v/\True:=(CtK.one ((Abz p0 p1 p2).h _ _ _ _ _ _ _  K K _ _ _ ⟨rfl,rfl,rfl,rfl,trivial⟩ ⟨ha0,trivial⟩ hx)).mono (by
  rintro _ _ ⟨_,_,rfl,rfl,f0,-⟩;exact⟨_,_,rfl,rfl,Has.up0 f0,trivial⟩)
end Go.Proofs.YthlkpgdfifnagaaGreat
namespace Go.Proofs.YthlkpgdfifnagaaGreat
open Go Go.RowKit Go.Shelf Go.Lib Go.Sort Tryz
theorem Aes{P:Program}{f:FuncId}(h:Wi P f):∀ (args:Array Value) (w:World),(callFunc f args).run P w = .ok (.enter f args) w:=by
 obtain⟨fn,h1,h2,h3⟩:=h;obtain⟨c,hc⟩:∃ c,fn.body=some c:=by cases hb:fn.body with
  | none=>rw[hb] at h3;cases h3
  | some c=>exact⟨c,rfl⟩
 exact enters_of h1 h2 hc
def Alf(z:Int):Prop:=-1000000000000<=z/\z<=1000000000000
instance(z:Int):Decidable (Alf z):=by unfold Alf;infer_instance
def Ob(x:Ab):Prop:=Alf x.a0/\Alf x.a1
instance(x:Ab):Decidable (Ob x):=by unfold Ob;infer_instance
def cmp2(x y:Ab):Int:=if x.a0=y.a0 then x.a1-y.a1 else x.a0-y.a0
theorem Abr(x y:Ab):cmp2 x y<0↔x.a0<y.a0\/x.a0=y.a0/\x.a1<y.a1:=by unfold cmp2;split <;> omega
theorem tot2:Zg Ob cmp2 where
 irr x _:=by rw[Abr];omega
 trans x y z _ _ _ h1 h2:=by rw[Abr] at *;omega
 tot x y _ _ h1 h2:=by
  rw[Abr] at h1 h2;obtain⟨x0,x1⟩:=x;obtain⟨y0,y1⟩:=y;simp only at h1 h2;rw[show x0=y0 by omega,show x1=y1 by omega]
theorem Atk{x y:Ab}(hx:Ob x)(hy:Ob y):Vp x y=some (cmp2 x y):=by
 obtain⟨⟨_,_⟩,_,_⟩:=hx;obtain⟨⟨_,_⟩,_,_⟩:=hy;unfold Vp cmp2;split <;> (rw[As oo oo])
theorem Api(l:List Ab)(hb:l.length<=1000000000)(hp:∀ x∈l,Ob x){A:Option Addr}{m c:Nat}{t:TypeId}{gf:Nat}{cb:Array Value}(w:World)(hok:Ent.ok w (.r A m c t 2 (l.flatMap Aq)))(hcmp:Adc prog Ob cmp2 (fun x=>.agg #[iq x.a0,iq x.a1]) A m c t 2 gf cb w (l.flatMap Aq))(eg:Wi prog gf):Adb prog 176 A m c t 2 gf cb w (l.flatMap Aq) ((Az cmp2 l).flatMap Aq):=
 Ago (ρ:=Tryz.laysSort2_ren) Tryz.laysSort2 (k:=2) isAgg103 sizeOf103 (enc:=Aq) (fun _=>rfl) dD (fun x v hv=>by simp[Aq] at hv;rcases hv with rfl | rfl <;> rfl) tot2 (Aes eg) l hb hp w hok hcmp
def Za(x:Ag):Prop:=True
instance(x:Ag):Decidable (Za x):=by unfold Za;infer_instance
def cmpI(x y:Int):Int:=if x<y then -1 else if y<x then 1 else 0
theorem Arg(x y:Int):cmpI x y<0↔x<y:=by
 unfold cmpI;split
 ·omega
 ·split <;> omega
theorem Azz(x y:Int):cmpI x y=0↔x=y:=by
 unfold cmpI;split
 ·omega
 ·split <;> omega
def cmp3(x y:Ag):Int:=if cmpI x.a0 y.a0=0 then if cmpI x.a1 y.a1=0 then cmpI x.a2 y.a2 else cmpI x.a1 y.a1 else cmpI x.a0 y.a0
theorem Abs(x y:Ag):cmp3 x y<0↔x.a0<y.a0\/x.a0=y.a0/\(x.a1<y.a1\/x.a1=y.a1/\x.a2<y.a2):=by
 unfold cmp3;simp only[Azz];split
 ·split <;> rw[Arg] <;> omega
 ·rw[Arg];omega
theorem tot3:Zg Za cmp3 where
 irr x _:=by rw[Abs];omega
 trans x y z _ _ _ h1 h2:=by rw[Abs] at *;omega
 tot x y _ _ h1 h2:=by
  rw[Abs] at h1 h2;obtain⟨x0,x1,x2⟩:=x;obtain⟨y0,y1,y2⟩:=y;simp only at h1 h2;rw[show x0=y0 by omega,show x1=y1 by omega,show x2=y2 by omega]
theorem Az0(x y:Int):Nz x y=some (cmpI x y):=by
 unfold Nz Qm cmpI;simp only[bnd,decide_true,Bool.not_true,Bool.false_eq_true,if_false];split
 ·rfl
 ·split <;> rfl
theorem Alg{x y:Ag}(hx:Za x)(hy:Za y):Fo x y=some (cmp3 x y):=by
 obtain⟨x0,x1,x2⟩:=x;obtain⟨y0,y1,y2⟩:=y;unfold Fo Hg jn cmp3;simp only;have step:∀ i:Int,Bu [x0,x1,x2] [y0,y1,y2] i=if i<3 then bnd (idx [x0,x1,x2] i) fun a=>bnd (idx [y0,y1,y2] i) fun b=>if cmpI a b=0 then some (.inl (w64 (i+1))) else some (.inr (.inr (cmpI a b))) else some (.inr (.inl ())):=by
  intro i;unfold Bu;simp only[Az0,List.length_cons,List.length_nil]
  by_cases h:i<3
  ·rw[if_pos oo,if_pos h];congr 1;funext a;rw[if_neg oo];rfl
  ·rw[if_neg oo,if_neg h]
 have w1:w64 (0+1)=1:=As oo oo;have w2:w64 (1+1)=2:=As oo oo;have w3:w64 (2+1)=3:=As oo oo;have i0:∀ a b c:Int,idx [a,b,c] 0=some a:=fun _ _ _=>rfl
 have i1:∀ a b c:Int,idx [a,b,c] 1=some b:=fun _ _ _=>rfl
 have i2:∀ a b c:Int,idx [a,b,c] 2=some c:=fun _ _ _=>rfl
 have s0:Bu [x0,x1,x2] [y0,y1,y2] 0=if cmpI x0 y0=0 then some (.inl 1) else some (.inr (.inr (cmpI x0 y0))):=by rw[step,if_pos oo,w1];simp only[i0,bnd]
 have s1:Bu [x0,x1,x2] [y0,y1,y2] 1=if cmpI x1 y1=0 then some (.inl 2) else some (.inr (.inr (cmpI x1 y1))):=by rw[step,if_pos oo,w2];simp only[i1,bnd]
 have s2:Bu [x0,x1,x2] [y0,y1,y2] 2=if cmpI x2 y2=0 then some (.inl 3) else some (.inr (.inr (cmpI x2 y2))):=by rw[step,if_pos oo,w3];simp only[i2,bnd]
 have s3:Bu [x0,x1,x2] [y0,y1,y2] 3=some (.inr (.inl ())):=by rw[step,if_neg oo]
 rw[Bg,s0]
 by_cases h0:cmpI x0 y0=0
 ·rw[if_pos h0,if_pos h0];simp only;rw[Bg,s1]
  by_cases h1:cmpI x1 y1=0
  ·rw[if_pos h1,if_pos h1];simp only;rw[Bg,s2]
   by_cases h2:cmpI x2 y2=0
   ·rw[if_pos h2,h2];simp only;rw[Bg,s3];simp[bnd]
   ·rw[if_neg h2];simp[bnd]
  ·rw[if_neg h1,if_neg h1];simp[bnd]
 ·rw[if_neg h0,if_neg h0];simp[bnd]
theorem Apj(l:List Ag)(hb:l.length<=1000000000)(hp:∀ x∈l,Za x){A:Option Addr}{m c:Nat}{t:TypeId}{gf:Nat}{cb:Array Value}(w:World)(hok:Ent.ok w (.r A m c t 3 (l.flatMap Ax)))(hcmp:Adc prog Za cmp3 (fun x=>.agg #[iq x.a0,iq x.a1,iq x.a2]) A m c t 3 gf cb w (l.flatMap Ax))(eg:Wi prog gf):Adb prog 188 A m c t 3 gf cb w (l.flatMap Ax) ((Az cmp3 l).flatMap Ax):=
 Ago (ρ:=Tryz.laysSort3_ren) Tryz.laysSort3 (k:=3) isAgg101 sizeOf101 (enc:=Ax) (fun _=>rfl) dD (fun x v hv=>by simp[Ax] at hv;rcases hv with rfl | rfl | rfl <;> rfl) tot3 (Aes eg) l hb hp w hok hcmp
def befV(a b:Ac):Prop:=a.X<b.X\/a.X=b.X/\a.Y<b.Y
instance(a b:Ac):Decidable (befV a b):=by unfold befV;infer_instance
def Ye(a b:Ac):Prop:=a.X=b.X/\a.Y=b.Y
instance(a b:Ac):Decidable (Ye a b):=by unfold Ye;infer_instance
def Gy(v:List Ac):Prop:=v.Pairwise fun a b=>¬ Ye a b
instance(v:List Ac):Decidable (Gy v):=by unfold Gy;infer_instance
def okIx(v:List Ac)(i:Int):Prop:=0<=i/\i<(v.length:Int)
instance(v:List Ac)(i:Int):Decidable (okIx v i):=by unfold okIx;infer_instance
def cmpR(v:List Ac)(i j:Int):Int:=match idx v i,idx v j with
 | some a,some b=>if befV a b then -1 else if befV b a then 1 else 0
 | _,_=>0
theorem Jn{v:List Ac}{i:Int}(h:okIx v i):∃ (k:Nat) (hk:k<v.length),i=(k:Int)/\idx v i=some v[k]:=by
 obtain⟨h0,h1⟩:=h;obtain⟨k,rfl⟩:=Int.eq_ofNat_of_zero_le h0;have hk:k<v.length:=oo;exact⟨k,hk,rfl,At hk⟩
theorem Uw{v:List Ac}{i j:Nat}(hi:i<v.length)(hj:j<v.length):cmpR v (i:Int) (j:Int)<0↔befV v[i] v[j]:=by
 unfold cmpR;rw[At hi,At hj];simp only;split
 ·simp_all
 ·split <;> simp_all
theorem totR{v:List Ac}(hd:Gy v):Zg (okIx v) (cmpR v) where
 irr x hx:=by
  obtain⟨i,hi,rfl,_⟩:=Jn hx;rw[Uw hi hi];unfold befV;omega
 trans x y z hx hy hz h1 h2:=by
  obtain⟨i,hi,rfl,_⟩:=Jn hx;obtain⟨j,hj,rfl,_⟩:=Jn hy;obtain⟨k,hk,rfl,_⟩:=Jn hz;rw[Uw hi hj] at h1;rw[Uw hj hk] at h2;rw[Uw hi hk];unfold befV at *;omega
 tot x y hx hy h1 h2:=by
  obtain⟨i,hi,rfl,_⟩:=Jn hx;obtain⟨j,hj,rfl,_⟩:=Jn hy;rw[Uw hi hj] at h1;rw[Uw hj hi] at h2;have hs:Ye v[i] v[j]:=by unfold befV at h1 h2;unfold Ye;omega
  unfold Gy at hd;rw[List.pairwise_iff_getElem] at hd;rcases Nat.lt_trichotomy i j with h | h | h
  ·exact absurd hs (hd i j hi hj h)
  ·rw[h]
  ·exact absurd ⟨hs.1.symm,hs.2.symm⟩ (hd j i hj hi h)
theorem Atl(a b:Ac):Fe ⟨a.X,a.Y⟩ ⟨b.X,b.Y⟩=some (decide (befV a b)):=by
 unfold Fe jn befV;simp only
 by_cases h1:a.X<b.X
 ·simp[h1]
 ·by_cases h2:a.X=b.X
  ·simp[h2]
  ·simp[h1,h2]
theorem Atm(v:List Ac){x y:Int}(hx:okIx v x)(hy:okIx v y):Ut x y v=some (cmpR v x y):=by
 obtain⟨i,hi,rfl,ei⟩:=Jn hx;obtain⟨j,hj,rfl,ej⟩:=Jn hy;unfold Ut cmpR;simp only[ei,ej,bnd,Fs,Atl,decide_eq_true_eq];split
 ·rfl
 ·split <;> rfl
theorem Ann(v:List Ac)(hd:Gy v)(l:List Int)(hb:l.length<=1000000000)(hp:∀ x∈l,okIx v x){A:Option Addr}{m c:Nat}{t:TypeId}{gf:Nat}{cb:Array Value}(w:World)(hok:Ent.ok w (.r A m c t 1 (l.flatMap Ah)))(hcmp:Adc prog (okIx v) (cmpR v) (fun x=>iq x) A m c t 1 gf cb w (l.flatMap Ah))(eg:Wi prog gf):Adb prog 182 A m c t 1 gf cb w (l.flatMap Ah) ((Az (cmpR v) l).flatMap Ah):=
 An9 (ρ:=Tryz.laysSort1_ren) Tryz.laysSort1 (enc:=Value.int .i64) (fun _=>rfl) (totR hd) (Aes eg) l hb hp w hok hcmp
end Go.Proofs.YthlkpgdfifnagaaGreat
namespace Go.Proofs.YthlkpgdfifnagaaGreat
open Go Go.RowKit Tryz
theorem Rc(x0:Int)(x1:Int):Jw prog 24 1 [(0,.agg #[iq x0,iq x1])] 103 [iq x0,iq x1]:=fun w=>kr
instance(x0:Int)(x1:Int):Qd prog 24 1 [(0,.agg #[iq x0,iq x1])] 103 [iq x0,iq x1]:=⟨Rc _ _⟩
theorem Arh:Xf prog 24 103 2 16:=⟨underlying24,⟨t103,.agg #[iq 0,iq 0],kr,kr,kr,kr,rfl⟩,dD⟩
instance:Afp prog 24 103 2 16:=⟨Arh⟩
instance(x0:Int)(x1:Int)(x2:Int):Le prog 101 [(0,iq x0),(1,iq x1),(2,iq x2)] [iq x0,iq x1,iq x2]:=⟨fun w=>kr⟩
instance(x0:Int)(x1:Int)(x2:Int):Qd prog 23 1 [(0,.agg #[iq x0,iq x1,iq x2])] 101 [iq x0,iq x1,iq x2]:=⟨fun w=>kr⟩
instance:Afp prog 23 101 3 24:=⟨⟨underlying23,⟨t101,.agg #[iq 0,iq 0,iq 0],kr,kr,kr,kr,rfl⟩,dD⟩⟩
instance:SrtI prog 176 177 Aq 2 (fun _=>Ob) cmp2 (fun x=>.agg #[iq x.a0,iq x.a1]):=⟨⟨_,func176,rfl,rfl⟩,fun l hb hp A m c t w hok hcm=>Api l hb hp w hok hcm ⟨_,func177,rfl,rfl⟩,fun _ W x y px py=>⟨[.agg #[iq x.a0,iq x.a1],.agg #[iq y.a0,iq y.a1]],rfl,Aiw x y (Atk px py) W⟩⟩
noncomputable def Ug  : (List Ab)->Option (Sum (List Ab) (List Ab)):=fun s0=>
 some (.inr s0)
noncomputable def Qp(p0:Aj):(List Ab)->Ab × Int->Option (Sum (List Ab) (List Ab)):=fun s0 p19_=>
 gd ((-9223372036854775808<=p19_.1.a1/\p19_.1.a1<=9223372036854775807)/\(-9223372036854775808<=p19_.1.a0/\p19_.1.a0<=9223372036854775807))<|
 bnd (some ((mget p0.apex ((⟨p19_.1.a1,p19_.1.a0⟩:Ab))).getD 0)) fun x0=>
 if ((mget p0.apex ((⟨p19_.1.a1,p19_.1.a0⟩:Ab))).isSome)=true then (some (.inl s0))
 else (gd ((s0.length+1)*16<=140737488355328)<|
 some (.inl (s0++[(⟨p19_.1.a1,p19_.1.a0⟩:Ab)])))
noncomputable def Km(p0:Aj):Option (Aj × List Ab):=
 jn (fun (s3:List Ab)=>
 gd (s3.length<=1000000000/\(∀ x∈s3,Ob x))<|
 some (p0,Az cmp2 s3))
 (fun j3=>Ap3 Ug (Qp p0) p0.apex ([]:List Ab) fun t0=>
 j3 t0)
noncomputable def Tb  : (List Ab)->Option (Sum (List Ab) (List Ab)):=fun s0=>
 some (.inr s0)
noncomputable def Ot(p0:Aj):(List Ab)->Ab × Int->Option (Sum (List Ab) (List Ab)):=fun s0 p27_=>
 gd ((-9223372036854775808<=p27_.1.a1/\p27_.1.a1<=9223372036854775807)/\(-9223372036854775808<=p27_.1.a0/\p27_.1.a0<=9223372036854775807))<|
 bnd (some ((mget p0.apex ((⟨p27_.1.a1,p27_.1.a0⟩:Ab))).getD 0)) fun x0=>
 jn (fun (s1:Bool)=>
 if s1=true then (bnd (Fy p27_.1.a0 p27_.1.a1) fun r0=>
 gd ((s0.length+1)*16<=140737488355328)<|
 some (.inl (s0++[r0])))
 else (some (.inl s0)))
 (fun j0=>if p27_.1.a0<p27_.1.a1 then (j0 true)
 else (j0 (!((mget p0.apex ((⟨p27_.1.a1,p27_.1.a0⟩:Ab))).isSome))))
noncomputable def Fv(p0:Aj):Option (Aj × List Ab):=
 jn (fun (s3:List Ab)=>
 gd (s3.length<=1000000000/\(∀ x∈s3,Ob x))<|
 some (p0,Az cmp2 s3))
 (fun j3=>Ap3 Tb (Ot p0) p0.apex ([]:List Ab) fun t0=>
 j3 t0)
instance:SrtI prog 188 189 Ax 3 (fun _=>Za) cmp3 (fun x=>.agg #[iq x.a0,iq x.a1,iq x.a2]):=⟨⟨_,func188,rfl,rfl⟩,fun l hb hp A m c t w hok hcm=>Apj l hb hp w hok hcm ⟨_,func189,rfl,rfl⟩,fun _ W x y px py=>⟨[.agg #[iq x.a0,iq x.a1,iq x.a2],.agg #[iq y.a0,iq y.a1,iq y.a2]],rfl,Uu x y (Alg px py) W⟩⟩
noncomputable def Qq  : (List Ag)->Option (Sum (List Ag) (List Ag)):=fun s0=>
 some (.inr s0)
noncomputable def Lc  : (List Ag)->Ab × Int->Option (Sum (List Ag) (List Ag)):=fun s0 p19_=>
 jn (fun (s1:Bool)=>
 if s1=true then (gd ((s0.length+1)*24<=140737488355328)<|
 some (.inl (s0++[(⟨p19_.1.a0,p19_.1.a1,p19_.2⟩:Ag)])))
 else (some (.inl s0)))
 (fun j0=>if p19_.1.a0<p19_.1.a1 then (j0 (decide (p19_.1.a0<p19_.2)))
 else (j0 false))
noncomputable def Gn(p0:Aj):Option (Aj × List Ag):=
 jn (fun (s3:List Ag)=>
 gd (s3.length<=1000000000/\(∀ x∈s3,Za x))<|
 some (p0,Az cmp3 s3))
 (fun j3=>Ap3 Qq Lc p0.apex ([]:List Ag) fun t0=>
 j3 t0)
noncomputable def Rv(p0:List Ac):(List Int × Int)->Option (Sum (List Int × Int) (List Int)):=fun s0=>
 if s0.2<(p0.length:Int) then (gd ((s0.1.length+1)*8<=140737488355328)<|
 some (.inl (s0.1++[s0.2],w64 (s0.2+1))))
 else (some (.inr s0.1))
noncomputable def Tw(p0:List Ac):Option (List Int):=
 jn (fun (s3:List Int)=>
 gd (s3.length<=1000000000/\(∀ x∈s3,(okIx p0) x)/\Gy p0)<|
 some (Az ((cmpR p0)) s3))
 (fun j3=>bnd (lfix (Rv p0) (([]:List Int),0)) fun t0=>
 j3 t0)
noncomputable def Td(p0:List Ab):(List Ab × Int)->Option (Sum (List Ab × Int) (List Ab)):=fun s0=>
 if s0.2<(p0.length:Int) then (bnd (idx p0 s0.2) fun x0=>
 bnd (Fy x0.a0 x0.a1) fun r0=>
 gd ((s0.1.length+1)*16<=140737488355328)<|
 some (.inl (s0.1++[r0],w64 (s0.2+1))))
 else (some (.inr s0.1))
noncomputable def Uh(p0:List Ab):Option (List Ab):=
 jn (fun (s3:List Ab)=>
 gd (s3.length<=1000000000/\(∀ x∈s3,Ob x))<|
 some (Az cmp2 s3))
 (fun j3=>bnd (lfix (Td p0) (([]:List Ab),0)) fun t0=>
 j3 t0)
instance(p0:Aj):ConK (Km p0) prog 181 (fun g0_0 gm0_0 gm0_1 U0 E0 ua0 uc0 vs Lp=>vs=[.pointer (some ⟨g0_0,0,none⟩)]/\Lp=[.m g0_0 156 [.slice U0 p0.v.length E0,.map (some gm0_0),.map (some gm0_1)],Bc prog 103 Al Dn gm0_0 p0.apex,Bc prog 103 Al Bw gm0_1 p0.fixed]/\ua0=none/\uc0=0/\True) (fun U0 E0 ua0 uc0 K K2=>Has K U0 p0.v.length E0 4 Ai p0.v/\True) (fun g0_0 gm0_0 gm0_1 U0 E0 ua0 uc0 K r=>fun v Ln=>∃ A0 c0 A2 c2,v = .slice A2 r.2.length c2/\Ln=[.m g0_0 156 [.slice A0 r.1.v.length c0,.map (some gm0_0),.map (some gm0_1)],Bc prog 103 Al Dn gm0_0 r.1.apex,Bc prog 103 Al Bw gm0_1 r.1.fixed,.r A2 r.2.length c2 103 2 (r.2.flatMap Aq)]/\Has K A0 r.1.v.length c0 4 Ai r.1.v/\True):=⟨by
 rintro g0_0 gm0_0 gm0_1 U0 E0 _ _ K K2 _ _ r ⟨rfl,rfl,rfl,rfl,-⟩ ⟨ha0,-⟩ hx;unfold Km at hx;have:=dl 5 [0,0,0,1,0,1,0,1,0,1,0,0,0,2,2] [0,1,2,3,4,5,6,7,8,9,10,11,12,13,14];refine CtSK ntmps181 results181 ?_;intro Lf hKf;have hKg:=hKf.r;replace hKf:=hKf.l;refine Ts ?_;try (refine pre ?_;intros;rename_i hx)
 refine Bf ?_;try (refine pre ?_;intros;rename_i hx)
 refine Bf ?_;try (refine pre ?_;intros;rename_i hx)
 apply Jr (γ:=Option Addr × Nat) hx [0] (fun s3 y3 f=>(3,.slice y3.1 s3.length y3.2)::f) [0,1,2,1003] (fun s3 y3 l=>.r y3.1 s3.length y3.2 103 2 (s3.flatMap Aq)::l);exact kk
 ·intro s3 y3 hx;exact au
 ·intro _ hx;try (refine pre ?_;intros;rename_i hx)
  refine T_x (Ad8 Xe Ed underlying153 rfl (fun _=>by exact sE) rfl (fun g1=>?_));try (refine pre ?_;intros;rename_i hx)
  refine Bh 103 2 ?_;refine Akb (σ:=List Ab) (γ:=(List (Ab × Int)) × (Option (Ab × Int)) × Option Addr × Nat) hx (fun y0=>y0.1) (fun s0 y0=>[(0,.pointer (some ⟨g0_0,0,none⟩)),(3,.slice y0.2.2.1 s0.length y0.2.2.2),(11,.pointer (some ⟨g1,0,none⟩))]) (fun s0 y0=>.r y0.2.2.1 s0.length y0.2.2.2 103 2 (s0.flatMap Aq) :: .m g0_0 156 [.slice U0 p0.v.length E0,.map (some gm0_0),.map (some gm0_1)]::rngE prog 103 Al Dn gm0_0 g1 p0.apex y0.1 y0.2.1::Bc prog 103 Al Bw gm0_1 p0.fixed::Lf) (fun s0 y0=>True) (_,_,_,_) rfl trivial (by exact sF2) (by exact pK2) ?_;intro s0 y0 _ hm0;replace hm0:MR _ _ y0.1 s0 r:=hm0;try (refine pre ?_;intros;rename_i hx)
  refine T_h (Agl Xe Ed Xi rfl (fun _ _=>by exact sE) rfl (fun hn0=>?_) (fun p19_ hp0=>?_))
  ·obtain⟨x0,hx,ht0⟩:=MR.noneK hm0 hn0;unfold Ug at hx;refine Aci (by exact sE) ?_;exact au
  ·obtain⟨x0,hx,ht0,hn1⟩:=MR.someK hm0 hp0;unfold Qp at hx;exact au⟩
instance Aaz(p0:Aj):ConK (Fv p0) prog 185 (fun g0_0 gm0_0 gm0_1 U0 E0 ua0 uc0 vs Lp=>vs=[.pointer (some ⟨g0_0,0,none⟩)]/\Lp=[.m g0_0 156 [.slice U0 p0.v.length E0,.map (some gm0_0),.map (some gm0_1)],Bc prog 103 Al Dn gm0_0 p0.apex,Bc prog 103 Al Bw gm0_1 p0.fixed]/\ua0=none/\uc0=0/\True) (fun U0 E0 ua0 uc0 K K2=>Has K U0 p0.v.length E0 4 Ai p0.v/\True) (fun g0_0 gm0_0 gm0_1 U0 E0 ua0 uc0 K r=>fun v Ln=>∃ A0 c0 A2 c2,v = .slice A2 r.2.length c2/\Ln=[.m g0_0 156 [.slice A0 r.1.v.length c0,.map (some gm0_0),.map (some gm0_1)],Bc prog 103 Al Dn gm0_0 r.1.apex,Bc prog 103 Al Bw gm0_1 r.1.fixed,.r A2 r.2.length c2 103 2 (r.2.flatMap Aq)]/\Has K A0 r.1.v.length c0 4 Ai r.1.v/\True):=⟨by
 rintro g0_0 gm0_0 gm0_1 U0 E0 _ _ K K2 _ _ r ⟨rfl,rfl,rfl,rfl,-⟩ ⟨ha0,-⟩ hx;unfold Fv at hx;have:=dl 5 [0,0,0,1,0,1,0,1,0,1,0,0,0,2,2] [0,1,2,3,4,5,6,7,8,9,10,11,12,13,14];refine CtSK ntmps185 results185 ?_;intro Lf hKf;have hKg:=hKf.r;replace hKf:=hKf.l;refine Ts ?_;try (refine pre ?_;intros;rename_i hx)
 refine Bf ?_;try (refine pre ?_;intros;rename_i hx)
 refine Bf ?_;try (refine pre ?_;intros;rename_i hx)
 apply Jr (γ:=Option Addr × Nat) hx [0] (fun s3 y3 f=>(3,.slice y3.1 s3.length y3.2)::f) [0,1,2,1003] (fun s3 y3 l=>.r y3.1 s3.length y3.2 103 2 (s3.flatMap Aq)::l);exact kk
 ·intro s3 y3 hx;exact au
 ·intro _ hx;try (refine pre ?_;intros;rename_i hx)
  refine T_x (Ad8 Xe Ed underlying153 rfl (fun _=>by exact sE) rfl (fun g1=>?_));try (refine pre ?_;intros;rename_i hx)
  refine Bh 103 2 ?_;refine Akb (σ:=List Ab) (γ:=(List (Ab × Int)) × (Option (Ab × Int)) × Option Addr × Nat) hx (fun y0=>y0.1) (fun s0 y0=>[(0,.pointer (some ⟨g0_0,0,none⟩)),(3,.slice y0.2.2.1 s0.length y0.2.2.2),(11,.pointer (some ⟨g1,0,none⟩))]) (fun s0 y0=>.r y0.2.2.1 s0.length y0.2.2.2 103 2 (s0.flatMap Aq) :: .m g0_0 156 [.slice U0 p0.v.length E0,.map (some gm0_0),.map (some gm0_1)]::rngE prog 103 Al Dn gm0_0 g1 p0.apex y0.1 y0.2.1::Bc prog 103 Al Bw gm0_1 p0.fixed::Lf) (fun s0 y0=>True) (_,_,_,_) rfl trivial (by exact sF2) (by exact pK2) ?_;intro s0 y0 _ hm0;replace hm0:MR _ _ y0.1 s0 r:=hm0;try (refine pre ?_;intros;rename_i hx)
  refine T_h (Agl Xe Ed Xi rfl (fun _ _=>by exact sE) rfl (fun hn0=>?_) (fun p27_ hp0=>?_))
  ·obtain⟨x0,hx,ht0⟩:=MR.noneK hm0 hn0;unfold Tb at hx;refine Aci (by exact sE) ?_;exact au
  ·obtain⟨x0,hx,ht0,hn1⟩:=MR.someK hm0 hp0;unfold Ot at hx;exact au⟩
theorem Zo(p0:Aj){g0_0:Nat}{gm0_0:Nat}{gm0_1:Nat}{K:List Ent}{U0:Option Addr}{E0:Nat}(ha0:Has K U0 p0.v.length E0 4 Ai p0.v){r:Aj × List Ab}(hx:Fv p0=some r):CtK prog 185 [.pointer (some ⟨g0_0,0,none⟩)] K [.m g0_0 156 [.slice U0 p0.v.length E0,.map (some gm0_0),.map (some gm0_1)],Bc prog 103 Al Dn gm0_0 p0.apex,Bc prog 103 Al Bw gm0_1 p0.fixed] fun v Ln=>∃ (A0:Option Addr) (c0:Nat) (A2:Option Addr) (c2:Nat),v = .slice A2 r.2.length c2/\Ln=[.m g0_0 156 [.slice A0 r.1.v.length c0,.map (some gm0_0),.map (some gm0_1)],Bc prog 103 Al Dn gm0_0 r.1.apex,Bc prog 103 Al Bw gm0_1 r.1.fixed,.r A2 r.2.length c2 103 2 (r.2.flatMap Aq)]/\Has (K++[]) A0 r.1.v.length c0 4 Ai r.1.v/\True:=(CtK.one ((Aaz p0).h _ _ _ _ _ _ _  K K _ _ _ ⟨rfl,rfl,rfl,rfl,trivial⟩ ⟨ha0,trivial⟩ hx)).mono (by
  rintro _ _ ⟨_,_,_,_,rfl,rfl,f0,-⟩;exact⟨_,_,_,_,rfl,rfl,Has.up0 f0,trivial⟩)
instance(p0:Aj):ConK (Gn p0) prog 131 (fun g0_0 gm0_0 gm0_1 U0 E0 ua0 uc0 vs Lp=>vs=[.pointer (some ⟨g0_0,0,none⟩)]/\Lp=[.m g0_0 156 [.slice U0 p0.v.length E0,.map (some gm0_0),.map (some gm0_1)],Bc prog 103 Al Dn gm0_0 p0.apex,Bc prog 103 Al Bw gm0_1 p0.fixed]/\ua0=none/\uc0=0/\True) (fun U0 E0 ua0 uc0 K K2=>Has K U0 p0.v.length E0 4 Ai p0.v/\True) (fun g0_0 gm0_0 gm0_1 U0 E0 ua0 uc0 K r=>fun v Ln=>∃ A0 c0 A2 c2,v = .slice A2 r.2.length c2/\Ln=[.m g0_0 156 [.slice A0 r.1.v.length c0,.map (some gm0_0),.map (some gm0_1)],Bc prog 103 Al Dn gm0_0 r.1.apex,Bc prog 103 Al Bw gm0_1 r.1.fixed,.r A2 r.2.length c2 101 3 (r.2.flatMap Ax)]/\Has K A0 r.1.v.length c0 4 Ai r.1.v/\True):=⟨by
 rintro g0_0 gm0_0 gm0_1 U0 E0 _ _ K K2 _ _ r ⟨rfl,rfl,rfl,rfl,-⟩ ⟨ha0,-⟩ hx;unfold Gn at hx;refine CtSK ntmps131 results131 ?_;intro Lf hKf;have hKg:=hKf.r;replace hKf:=hKf.l;refine Ts ?_;try (refine pre ?_;intros;rename_i hx)
 refine Bf ?_;try (refine pre ?_;intros;rename_i hx)
 refine Bf ?_;try (refine pre ?_;intros;rename_i hx)
 apply Jr (γ:=Option Addr × Nat) hx [0] (fun s3 y3 f=>(3,.slice y3.1 s3.length y3.2)::f) [0,1,2,1003] (fun s3 y3 l=>.r y3.1 s3.length y3.2 101 3 (s3.flatMap Ax)::l);exact kk
 ·intro s3 y3 hx;exact au
 ·intro _ hx;try (refine pre ?_;intros;rename_i hx)
  refine T_x (Ad8 Xe Ed underlying153 rfl (fun _=>by exact sE) rfl (fun g1=>?_));try (refine pre ?_;intros;rename_i hx)
  refine Bh 101 3 ?_;refine Akb (σ:=List Ag) (γ:=(List (Ab × Int)) × (Option (Ab × Int)) × Option Addr × Nat) hx (fun y0=>y0.1) (fun s0 y0=>[(0,.pointer (some ⟨g0_0,0,none⟩)),(3,.slice y0.2.2.1 s0.length y0.2.2.2),(10,.pointer (some ⟨g1,0,none⟩))]) (fun s0 y0=>.r y0.2.2.1 s0.length y0.2.2.2 101 3 (s0.flatMap Ax) :: .m g0_0 156 [.slice U0 p0.v.length E0,.map (some gm0_0),.map (some gm0_1)]::rngE prog 103 Al Dn gm0_0 g1 p0.apex y0.1 y0.2.1::Bc prog 103 Al Bw gm0_1 p0.fixed::Lf) (fun s0 y0=>True) (_,_,_,_) rfl trivial (by exact sF2) (by exact pK2) ?_;intro s0 y0 _ hm0;replace hm0:MR _ _ y0.1 s0 r:=hm0;try (refine pre ?_;intros;rename_i hx)
  refine T_h (Agl Xe Ed Xi rfl (fun _ _=>by exact sE) rfl (fun hn0=>?_) (fun p19_ hp0=>?_))
  ·obtain⟨x0,hx,ht0⟩:=MR.noneK hm0 hn0;unfold Qq at hx;refine Aci (by exact sE) ?_;exact au
  ·obtain⟨x0,hx,ht0,hn1⟩:=MR.someK hm0 hp0;unfold Lc at hx;exact au⟩
theorem Ai0(p0:List Ac){K:List Ent}{U0:Option Addr}{E0:Nat}(ha0:Has K U0 p0.length E0 4 Ai p0){r:List Int}(hx:Tw p0=some r)(w:World)(hK:∀ e∈K,Ent.ok w e):CtL prog 127 [.slice U0 p0.length E0] w fun v Ln=>∃ (A0:Option Addr) (c0:Nat),v = .slice A0 r.length c0/\Ln=[.r A0 r.length c0 3 1 (r.flatMap Ah)]/\True:=by
 have ha0':=Has.up0 ha0;refine CtL.mk 19 func127 rfl ntmps127 kr rfl ?_;show T 19 _ [(0,.slice U0 p0.length E0)] _;unfold Tw at hx;refine Y2 ?_;refine T_x (Qt rfl rfl rfl (fun g1=>?_));refine Y8 ?_;refine Tj (γ:=Option Addr × Nat) hx (fun s3 y3=>[(1,.pointer (some ⟨g1,0,none⟩)),(3,.slice y3.1 s3.length y3.2)]) (fun s3 y3=>[.r y3.1 s3.length y3.2 3 1 (s3.flatMap Ah),.m g1 22 [.slice U0 p0.length E0]]++[.old w]) (fun s3 y3=>True) (fun s3 y3 hx0 hG0=>?_) (fun j3 hx=>?_)
 ·refine Y4 ?_;obtain⟨h0,hx1⟩:=De hx0;refine T_h (Al3 (p:=(okIx p0)) (arg:=fun x=>iq x) (cf:=(cmpR p0)) s3 (by exact⟨_,func182,rfl,rfl⟩) (fun w hok hcm=>Ann p0 h0.2.2 s3 h0.1 h0.2.1 w hok hcm ⟨_,func183,rfl,rfl⟩) (fun ys=>[.r y3.1 s3.length y3.2 3 1 ys,.m g1 22 [.slice U0 p0.length E0]]++[.old w]) (fun ys=>by exact .here) (fun ys W hW x y px py=>⟨[iq x,iq y,.pointer (some ⟨g1,0,none⟩)],rfl,Afy x y p0 (Has.len' (Has.up (L:=(K++[.m g1 22 [.slice U0 p0.length E0]])) ha0' (SubE.app2 SubE.nil))) (Pt.m0 (List.mem_append_right _ List.mem_cons_self)) (Atm p0 px py) W (Xq (K:=K) (K2:=[.m g1 22 [.slice U0 p0.length E0]]) hK (by exact (sb 2)) (by exact (sb 1)) hW)⟩) rfl rfl rfl ?_);refine Y9 ?_;have hn0:s3.length=(Az ((cmpR p0)) s3).length:=(by rw[Dh]);refine Afe (.here) (e':=.r y3.1 ((Az ((cmpR p0)) s3).length) y3.2 3 1 ((Az ((cmpR p0)) s3).flatMap Ah)) (by first | (rw[<- hn0];done) | rfl) ?_;refine Aha (s:=2) (v':=.slice y3.1 ((Az ((cmpR p0)) s3).length) y3.2) rfl (by have hn1:s3.length=(Az ((cmpR p0)) s3).length:=(by rw[Dh]);first | (rw[<- hn1];done) | rfl) ?_;obtain rfl:=Option.some.inj hx1;exact Jc (rs:=[.tmp 2]) results127 (.tmp rfl (.nil)) (Ln:=[.r y3.1 ((Az ((cmpR p0)) s3).length) y3.2 3 1 ((Az ((cmpR p0)) s3).flatMap Ah)]) ⟨y3.1,y3.2,rfl,rfl,trivial⟩ (Br rfl Fg) (by exact .pick 0 rfl (.drop 0 rfl (.refl)))
 ·refine Y2 ?_;refine Ay (Cg rfl (i:=0) rfl rfl Afm) rfl ?_;refine Ay (If rfl 108 underlying22) rfl ?_;refine Y4 ?_;obtain⟨t0,hl0,ho0⟩:=Au hx;refine Bh 3 1 ?_;have hn2:0=(([]:List Int)).length:=by simp[Nr,Aba,List.length_append] <;> omega
  refine Afe (.here) (e':=.r none ((([]:List Int)).length) 0 3 1 ((([]:List Int)).flatMap Ah)) (by first | (rw[<- hn2];done) | rfl) ?_;refine Lp (σ:=List Int × Int) (γ:=Option Addr × Nat) hl0 (fun s0 y0=>[(1,.pointer (some ⟨g1,0,none⟩)),(3,.slice y0.1 s0.1.length y0.2),(6,iq (p0.length:Int)),(7,iq s0.2)]) (fun s0 y0=>[.r y0.1 s0.1.length y0.2 3 1 (s0.1.flatMap Ah),.m g1 22 [.slice U0 p0.length E0]]++[.old w]) (fun s0 y0=>True) (none,0) trivial (by exact .pick 0 rfl (.pick 0 rfl (.refl))) ?_;intro s0 y0 hG1 x0 hx2 ht0;unfold Rv at hx2;refine Y6 ?_;refine Ti hx2 (s:=8) rfl (fun h1 hx3=>?_) (fun h1 hx4=>?_)
  ·(iterate 14 refine Y ?_);refine T_x (Ck rfl (Oo _) rfl (fun g0=>?_));obtain⟨h2,hx5⟩:=De hx3;refine T_h (Qk Ah s0.1 [s0.2] rfl rfl rfl Ane (fun _=>rfl) (i':=0) rfl rfl rfl rfl h2 rfl (fun _ _=>.there (.here)) (fun _ _=>.drop .refl) dD (fun A1 c1=>?_));refine Y8 ?_;exact Rp (s0.1++[s0.2],w64 (s0.2+1)) (A1,c1) hx5 trivial (by exact .pick 0 rfl (.pick 0 rfl (.refl)))
  ·refine Y3 ?_;obtain rfl:=Ua ht0 hx4;refine Y2 ?_;exact Mt s0.1 (y0.1,y0.2) ho0 trivial (by exact .pick 0 rfl (.pick 0 rfl (.refl)))
instance(p0:List Ac):Con (Tw p0) prog 127 (fun K vs=>∃ U0 E0,vs=[.slice U0 p0.length E0]/\Has K U0 p0.length E0 4 Ai p0/\True) (fun _ r=>fun v Ln=>∃ A0 c0,v = .slice A0 r.length c0/\Ln=[.r A0 r.length c0 3 1 (r.flatMap Ah)]/\True):=⟨by
 rintro K _ r ⟨U0,E0,rfl,ha0,-⟩ hx w hK;exact Ai0 p0 ha0 hx w hK⟩
instance(p0:List Ab):Con (Uh p0) prog 125 (fun K vs=>∃ U0 E0,vs=[.slice U0 p0.length E0]/\Has K U0 p0.length E0 2 Aq p0/\True) (fun _ r=>fun v Ln=>∃ A0 c0,v = .slice A0 r.length c0/\Ln=[.r A0 r.length c0 103 2 (r.flatMap Aq)]/\True):=⟨by
 rintro K _ r ⟨U0,E0,rfl,ha0,-⟩ hx w hK;replace ha0:=Has.lo ha0 hK;unfold Uh at hx;refine CtS ntmps125 results125 ?_;try (refine pre ?_;intros;rename_i hx)
 refine Bf ?_;try (refine pre ?_;intros;rename_i hx)
 refine Bf ?_;try (refine pre ?_;intros;rename_i hx)
 apply Jr (γ:=Option Addr × Nat) hx [] (fun s3 y3 f=>(3,.slice y3.1 s3.length y3.2)::f) [999] (fun s3 y3 l=>.r y3.1 s3.length y3.2 103 2 (s3.flatMap Aq)::l);exact kk
 ·intro s3 y3 hx;exact au
 ·intro _ hx;try (refine pre ?_;intros;rename_i hx)
  refine Bh 103 2 ?_;apply Lr (γ:=Option Addr × Nat) hx [6,7] (fun s0 y0 f=>(3,.slice y0.1 s0.1.length y0.2)::(8,iq s0.2)::f) [999] (fun s0 y0 l=>.r y0.1 s0.1.length y0.2 103 2 (s0.1.flatMap Aq)::l) (_,_);exact kk;exact sk;intro s0 y0 x0 hx _;unfold Td at hx;exact au⟩
theorem Ano:Mo prog 156 2 2:=.mk underlying156 rfl rfl (show prog.info? 154=some t154 from by kernel_rfl) (show t154.size=1 from by kernel_rfl) rfl
instance:Cm prog 156 2 2:=⟨Ano⟩
theorem Aw2:Tl prog 154:=.mk underlying154 rfl (show prog.info? 154=some t154 from by kernel_rfl) kr
instance:OneI prog 154:=⟨Aw2⟩
instance(x0:Int)(x1:Int)(x2:Int)(x3:Int)(x4:Int)(x5:Int)(x6:Int)(x7:Int):Qd prog 24 4 [(0,.agg #[iq x0,iq x1]),(1,.agg #[iq x2,iq x3]),(2,.agg #[iq x4,iq x5]),(3,.agg #[iq x6,iq x7])] 103 [iq x0,iq x1,iq x2,iq x3,iq x4,iq x5,iq x6,iq x7]:=⟨fun w=>kr⟩
theorem Aw3  : Jw prog 22 0 [] 108 []:=fun w=>kr
theorem Bbd:Xf prog 22 108 4 32:=⟨underlying22,⟨t108,.agg #[iq 0,iq 0,iq 0,iq 0],kr,kr,kr,kr,rfl⟩,dD⟩
instance:Afp prog 22 108 4 32:=⟨Bbd⟩
instance:Te prog 26 [.slice none 0 0,.slice none 0 0,.slice none 0 0]:=⟨⟨_,zeroValue26,rfl⟩⟩
instance:Le prog 26 [] [.slice none 0 0,.slice none 0 0,.slice none 0 0]:=⟨fun w=>kr⟩
theorem Bbe:Rw prog 26 3:=.mk underlying26 rfl (show prog.info? 26=some t26 from by kernel_rfl) kr
instance:AggI prog 26 3:=⟨Bbe⟩
instance(x0:Option Addr)(x1:Nat)(x2:Nat)(x3:Nat)(x4:Nat):Le prog 156 [(0,.slice x0 x1 x2),(1,.map (some x3)),(2,.map (some x4))] [.slice x0 x1 x2,.map (some x3),.map (some x4)]:=⟨fun w=>kr⟩
instance(x0:Option Addr)(x1:Nat)(x2:Nat)(x3:Option Addr)(x4:Nat)(x5:Nat)(x6:Option Addr)(x7:Nat)(x8:Nat):Le prog 26 [(0,.slice x0 x1 x2),(1,.slice x3 x4 x5),(2,.slice x6 x7 x8)] [.slice x0 x1 x2,.slice x3 x4 x5,.slice x6 x7 x8]:=⟨fun w=>kr⟩
noncomputable def Hm(p1:List Int)(p0:Aj):Int->Option (Sum Int Int):=fun s0=>
 jn (fun (s6:Bool)=>
 if s6=true then (some (.inl (w64 (s0+1))))
 else (some (.inr s0)))
 (fun j6=>if s0<(p1.length:Int) then (bnd (idx p1 0) fun x0=>
 bnd (idx p1 1) fun x1=>
 bnd (idx p1 s0) fun x2=>
 bnd (Bk p0 x0) fun r0=>
 bnd (Bk p0 x1) fun r1=>
 bnd (Bk p0 x2) fun r2=>
 bnd (Iy r0 r1 r2) fun r3=>
 j6 (decide (r3=0)))
 else (j6 false))
noncomputable def Fh(s2:Int)(p1:List Int):(List Ac × (List (Ab × Int)) × (List (Ab × Bool)) × Int)->Option (Sum (List Ac × (List (Ab × Int)) × (List (Ab × Bool)) × Int) (List Ac × (List (Ab × Int)) × (List (Ab × Bool)))):=fun s0=>
 if (w64 (s0.2.2.2+1))<s2 then (jn (fun (s1:List Ac × (List (Ab × Int)) × (List (Ab × Bool)))=>
 some (.inl (s1.1,s1.2.1,s1.2.2,w64 (s0.2.2.2+1))))
 (fun j0=>bnd (idx p1 s0.2.2.2) fun x0=>
 bnd (idx p1 (w64 (s0.2.2.2+1))) fun x1=>
 bnd (idx p1 s2) fun x2=>
 bnd (Bk (⟨s0.1,s0.2.1,s0.2.2.1⟩:Aj) x0) fun r0=>
 bnd (Bk (⟨s0.1,s0.2.1,s0.2.2.1⟩:Aj) x1) fun r1=>
 bnd (Bk (⟨s0.1,s0.2.1,s0.2.2.1⟩:Aj) x2) fun r2=>
 bnd (Iy r0 r1 r2) fun r3=>
 if 0<r3 then (bnd (idx p1 s0.2.2.2) fun x3=>
 bnd (idx p1 (w64 (s0.2.2.2+1))) fun x4=>
 bnd (idx p1 s2) fun x5=>
 bnd (Eo (⟨s0.1,s0.2.1,s0.2.2.1⟩:Aj) x3 x4 x5) fun r4=>
 j0 (r4.v,r4.apex,r4.fixed))
 else (bnd (idx p1 (w64 (s0.2.2.2+1))) fun x6=>
 bnd (idx p1 s0.2.2.2) fun x7=>
 bnd (idx p1 s2) fun x8=>
 bnd (Eo (⟨s0.1,s0.2.1,s0.2.2.1⟩:Aj) x6 x7 x8) fun r5=>
 j0 (r5.v,r5.apex,r5.fixed))))
 else (some (.inr (s0.1,s0.2.1,s0.2.2.1)))
noncomputable def Dj(r0:Aj × List Ab)(x0:Int):(List Ac × (List (Ab × Int)) × (List (Ab × Bool)) × Int)->Option (Sum (List Ac × (List (Ab × Int)) × (List (Ab × Bool)) × Int) (List Ac × (List (Ab × Int)) × (List (Ab × Bool)))):=fun s0=>
 if s0.2.2.2<(r0.2.length:Int) then (jn (fun (s1:List Ac × (List (Ab × Int)) × (List (Ab × Bool)))=>
 some (.inl (s1.1,s1.2.1,s1.2.2,w64 (s0.2.2.2+1))))
 (fun j0=>bnd (idx r0.2 s0.2.2.2) fun x1=>
 bnd (Bk (⟨s0.1,s0.2.1,s0.2.2.1⟩:Aj) x1.a0) fun r1=>
 bnd (Bk (⟨s0.1,s0.2.1,s0.2.2.1⟩:Aj) x1.a1) fun r2=>
 bnd (Bk (⟨s0.1,s0.2.1,s0.2.2.1⟩:Aj) x0) fun r3=>
 bnd (Iy r1 r2 r3) fun r4=>
 if 0<r4 then (bnd (Eo (⟨s0.1,s0.2.1,s0.2.2.1⟩:Aj) x1.a0 x1.a1 x0) fun r5=>
 j0 (r5.v,r5.apex,r5.fixed))
 else (j0 (s0.1,s0.2.1,s0.2.2.1))))
 else (some (.inr (s0.1,s0.2.1,s0.2.2.1)))
noncomputable def Jv(p1:List Int)(s2:Int):(List Ac × (List (Ab × Int)) × (List (Ab × Bool)) × List Int × Int)->Option (Sum (List Ac × (List (Ab × Int)) × (List (Ab × Bool)) × List Int × Int) Aj):=fun s0=>
 if s0.2.2.2.2<(((p1.length-Int.toNat (w64 (s2+1)):Nat):Int)) then (jn (fun (s1:List Ac × (List (Ab × Int)) × (List (Ab × Bool)))=>
 some (.inl (s1.1,s1.2.1,s1.2.2,s0.2.2.2.1,w64 (s0.2.2.2.2+1))))
 (fun j0=>bnd (idx s0.2.2.2.1 s0.2.2.2.2) fun x0=>
 bnd (Km (⟨s0.1,s0.2.1,s0.2.2.1⟩:Aj)) fun r0=>
 bnd (lfix (Dj r0 x0) (r0.1.v,r0.1.apex,r0.1.fixed,0)) fun t0=>
 j0 t0))
 else (some (.inr (⟨s0.1,s0.2.1,s0.2.2.1⟩:Aj)))
noncomputable def Ld(p0:Aj)(p1:List Int):Option Aj :=
 jn (fun (s2:Int)=>
 if (p1.length:Int)<=s2 then (some p0)
 else (jn (fun (s9:List Ac × (List (Ab × Int)) × (List (Ab × Bool)))=>
 gd (0<=(w64 (s2+1))/\(w64 (s2+1))<=(p1.length:Int))<|
 bnd (lfix (Jv p1 s2) (s9.1,s9.2.1,s9.2.2,subl p1 (w64 (s2+1)) (p1.length:Int),0)) fun t0=>
 some t0)
 (fun j9=>bnd (lfix (Fh s2 p1) (p0.v,p0.apex,p0.fixed,0)) fun t1=>
 j9 t1)))
 (fun j2=>bnd (lfix (Hm p1 p0) 2) fun t2=>
 j2 t2)
noncomputable def Dk  : (List Ac × (List (Ab × Int)) × (List (Ab × Bool)) × List Ab)->Option (Sum (List Ac × (List (Ab × Int)) × (List (Ab × Bool)) × List Ab) Aj):=fun s0=>
 if 0<(s0.2.2.2.length:Int) then (bnd (idx s0.2.2.2 (w64 ((s0.2.2.2.length:Int)-1))) fun x0=>
 gd (0<=(w64 ((s0.2.2.2.length:Int)-1))/\(w64 ((s0.2.2.2.length:Int)-1))<=(s0.2.2.2.length:Int))<|
 gd ((-9223372036854775808<=x0.a0/\x0.a0<=9223372036854775807)/\(-9223372036854775808<=x0.a1/\x0.a1<=9223372036854775807))<|
 bnd (some ((mget s0.2.1 x0).getD 0)) fun x1=>
 gd ((-9223372036854775808<=x0.a1/\x0.a1<=9223372036854775807)/\(-9223372036854775808<=x0.a0/\x0.a0<=9223372036854775807))<|
 bnd (some ((mget s0.2.1 ((⟨x0.a1,x0.a0⟩:Ab))).getD 0)) fun x2=>
 jn (fun (s1:List Ab × Bool)=>
 if s1.2=true then (some (.inl (s0.1,s0.2.1,s0.2.2.1,s1.1)))
 else (bnd (Cx (⟨s0.1,s0.2.1,s0.2.2.1⟩:Aj) x0.a0 x0.a1) fun r0=>
 if r0.2=true then (bnd (Fy x0.a0 x1) fun r1=>
 bnd (Fy x1 x0.a1) fun r2=>
 bnd (Fy x0.a1 x2) fun r3=>
 bnd (Fy x2 x0.a0) fun r4=>
 gd ((s1.1.length+4)*16<=140737488355328)<|
 some (.inl (r0.1.v,r0.1.apex,r0.1.fixed,s1.1++[r1,r2,r3,r4])))
 else (some (.inl (r0.1.v,r0.1.apex,r0.1.fixed,s1.1)))))
 (fun j0=>if ((mget s0.2.1 x0).isSome)=true then (if ((mget s0.2.1 ((⟨x0.a1,x0.a0⟩:Ab))).isSome)=true then (gd ((-9223372036854775808<=x0.a0/\x0.a0<=9223372036854775807)/\(-9223372036854775808<=x0.a1/\x0.a1<=9223372036854775807))<|
 bnd (some ((mget s0.2.2.1 x0).getD false)) fun x3=>
 if x3=true then (j0 (List.take (Int.toNat (w64 ((s0.2.2.2.length:Int)-1))) s0.2.2.2,true))
 else (bnd (Bk (⟨s0.1,s0.2.1,s0.2.2.1⟩:Aj) x0.a0) fun r5=>
 bnd (Bk (⟨s0.1,s0.2.1,s0.2.2.1⟩:Aj) x0.a1) fun r6=>
 bnd (Bk (⟨s0.1,s0.2.1,s0.2.2.1⟩:Aj) x1) fun r7=>
 bnd (Bk (⟨s0.1,s0.2.1,s0.2.2.1⟩:Aj) x2) fun r8=>
 bnd (To r5 r6 r7 r8) fun r9=>
 j0 (List.take (Int.toNat (w64 ((s0.2.2.2.length:Int)-1))) s0.2.2.2,r9)))
 else (j0 (List.take (Int.toNat (w64 ((s0.2.2.2.length:Int)-1))) s0.2.2.2,true)))
 else (j0 (List.take (Int.toNat (w64 ((s0.2.2.2.length:Int)-1))) s0.2.2.2,true))))
 else (some (.inr (⟨s0.1,s0.2.1,s0.2.2.1⟩:Aj)))
noncomputable def Jo(p0:Aj):Option Aj :=
 bnd (Fv p0) fun r1=>
 bnd (lfix Dk (r1.1.v,r1.1.apex,r1.1.fixed,r1.2)) fun t0=>
 some t0
noncomputable def Hn(r2:Aj × List Ab)(p1:Ab):(List Ab × Int)->Option (Sum (List Ab × Int) (List Ac × (List (Ab × Int)) × (List (Ab × Bool)) × List Ab)):=fun s0=>
 if s0.2<(r2.2.length:Int) then (jn (fun (s1:List Ab)=>
 some (.inl (s1,w64 (s0.2+1))))
 (fun j0=>bnd (idx r2.2 s0.2) fun x0=>
 bnd (Io r2.1.v p1 x0) fun r0=>
 if r0=true then (gd ((s0.1.length+1)*16<=140737488355328)<|
 j0 (s0.1++[x0]))
 else (j0 s0.1)))
 else (some (.inr (r2.1.v,r2.1.apex,r2.1.fixed,s0.1)))
noncomputable def Cb(p1:Ab):(List Ac × (List (Ab × Int)) × (List (Ab × Bool)) × List Ab)->Option (Sum (List Ac × (List (Ab × Int)) × (List (Ab × Bool)) × List Ab) (List Ac × (List (Ab × Int)) × (List (Ab × Bool)))):=fun s0=>
 if 0<(s0.2.2.2.length:Int) then (bnd (idx s0.2.2.2 0) fun x0=>
 gd ((0:Int)<=1/\1<=(s0.2.2.2.length:Int))<|
 gd ((-9223372036854775808<=x0.a0/\x0.a0<=9223372036854775807)/\(-9223372036854775808<=x0.a1/\x0.a1<=9223372036854775807))<|
 bnd (some ((mget s0.2.1 x0).getD 0)) fun x1=>
 gd ((-9223372036854775808<=x0.a1/\x0.a1<=9223372036854775807)/\(-9223372036854775808<=x0.a0/\x0.a0<=9223372036854775807))<|
 bnd (some ((mget s0.2.1 ((⟨x0.a1,x0.a0⟩:Ab))).getD 0)) fun x2=>
 bnd (Cx (⟨s0.1,s0.2.1,s0.2.2.1⟩:Aj) x0.a0 x0.a1) fun r0=>
 if r0.2=true then (bnd (Fy x1 x2) fun r1=>
 bnd (Io r0.1.v p1 r1) fun r2=>
 if r2=true then (gd (((List.drop (Int.toNat 1) s0.2.2.2).length+1)*16<=140737488355328)<|
 some (.inl (r0.1.v,r0.1.apex,r0.1.fixed,(List.drop (Int.toNat 1) s0.2.2.2)++[r1])))
 else (some (.inl (r0.1.v,r0.1.apex,r0.1.fixed,List.drop (Int.toNat 1) s0.2.2.2))))
 else (gd (((List.drop (Int.toNat 1) s0.2.2.2).length+1)*16<=140737488355328)<|
 some (.inl (r0.1.v,r0.1.apex,r0.1.fixed,(List.drop (Int.toNat 1) s0.2.2.2)++[x0]))))
 else (some (.inr (s0.1,s0.2.1,s0.2.2.1)))
noncomputable def Ib(p0:Aj)(p1:Ab):Option Aj :=
 jn (fun (s3:List Ac × (List (Ab × Int)) × (List (Ab × Bool)) × List Ab)=>
 jn (fun (s0:List Ac × (List (Ab × Int)) × (List (Ab × Bool)))=>
 gd ((-9223372036854775808<=p1.a0/\p1.a0<=9223372036854775807)/\(-9223372036854775808<=p1.a1/\p1.a1<=9223372036854775807))<|
 gd (s0.2.2.length<9223372036854775807)<|
 some (⟨s0.1,s0.2.1,mput s0.2.2 p1 true⟩:Aj))
 (fun j0=>bnd (lfix (Cb p1) (s3.1,s3.2.1,s3.2.2.1,s3.2.2.2)) fun t0=>
 j0 t0))
 (fun j3=>bnd (Fv p0) fun r2=>
 bnd (lfix (Hn r2 p1) (([]:List Ab),0)) fun t1=>
 j3 t1)
noncomputable def Oc(p0:List Ac):Option (List Ac):=gd (p0.length*32<=140737488355328) <| some p0
theorem Ab0(p0:List Ac){K:List Ent}{U0:Option Addr}{E0:Nat}(ha0:Has K U0 p0.length E0 4 Ai p0){r:List Ac}(hx:Oc p0=some r)(w:World)(hK:∀ e∈K,Ent.ok w e):
  CtL prog 130 [.slice U0 p0.length E0] w (fun v Ln=>∃ (A0:Option Addr) (c0:Nat),v = .slice A0 r.length c0/\Ln=[.r A0 r.length c0 108 4 (r.flatMap Ai)]/\True):=by
 obtain⟨hb,hx⟩:=De hx;obtain rfl:=Option.some.inj hx;have ha:Has [.old w] U0 p0.length E0 4 Ai p0:=Has.low (E:=[]) (by rw[List.append_nil];exact ha0) hK;refine CtL.mk 8 func130 rfl ntmps130 kr rfl ?_;show T 8 _ [(0,.slice U0 p0.length E0)] _;refine Y9 ?_;refine Ay (Asg underlying22 rfl rfl) rfl ?_;refine Y2 ?_;cases hA:U0 with
 | none=>
  subst hA;have h0:p0=[]:=by
   cases p0 with
   | nil=>rfl
   | cons x r=>obtain⟨b,o,h,_⟩:=ha.at_ s_;cases h
  subst h0;refine Y8 ?_;refine Bh 108 4 ?_;exact Jc (rs:=[.tmp 2]) results130 (.tmp rfl .nil) (Ln:=[.r none 0 0 108 4 []]) ⟨none,0,rfl,rfl,trivial⟩ (Br rfl Fg) (.pick 0 rfl (.pick 0 rfl .refl))
 | some a=>
  subst hA;refine Y5 ?_;refine T_x (Ck rfl Aw3 rfl (fun g5=>?_));refine Y ?_;refine T_mr (enc:=Ai) (sz:=4) (([]:List Ac)) (.here) rfl rfl (fun _=>rfl) dD ?_;refine T_h (Acq Ai ([]:List Ac) p0 rfl rfl Bbd (fun _=>rfl) ha (sb 1) (fun _=>rfl) (by rw[List.length_nil,Nat.zero_add];exact hb) rfl (fun _ _=>.here) dD (fun A1 c1=>?_));refine Y4 ?_;exact Jc (rs:=[.tmp 2]) results130 (.tmp rfl .nil) (Ln:=[.r A1 p0.length c1 108 4 (p0.flatMap Ai)]) ⟨A1,c1,rfl,rfl,trivial⟩ (Br rfl Fg) (.pick 0 rfl (.pick 0 rfl .refl))
instance(p0:List Ac):Con (Oc p0) prog 130 (fun K vs=>∃ U0 E0,vs=[.slice U0 p0.length E0]/\Has K U0 p0.length E0 4 Ai p0/\True) (fun _ r=>fun v Ln=>∃ A0 c0,v = .slice A0 r.length c0/\Ln=[.r A0 r.length c0 108 4 (r.flatMap Ai)]/\True):=⟨by rintro K _ r ⟨A,c,rfl,ha,-⟩ hx w hK;exact Ab0 p0 ha hx w hK⟩
structure Ao where
 V:List Ac
 T:List Ag
 Lines:List Ab
noncomputable def Qr(r0:List Ab):(List Ac × (List (Ab × Int)) × (List (Ab × Bool)) × Int)->Option (Sum (List Ac × (List (Ab × Int)) × (List (Ab × Bool)) × Int) (List Ac × (List (Ab × Int)) × (List (Ab × Bool)))):=fun s0=>
 if s0.2.2.2<(r0.length:Int) then (bnd (idx r0 s0.2.2.2) fun x0=>
 bnd (Ib (⟨s0.1,s0.2.1,s0.2.2.1⟩:Aj) x0) fun r1=>
 some (.inl (r1.v,r1.apex,r1.fixed,w64 (s0.2.2.2+1))))
 else (some (.inr (s0.1,s0.2.1,s0.2.2.1)))
noncomputable def Ic(p0:List Ac)(p1:List Ab):Option (Ao × Int):=
 bnd (Rs p0) fun r2=>
 if r2=0 then (bnd (Pi p0 p1) fun r8=>
 if r8=0 then (bnd (Uh p1) fun r0=>
 bnd (Tw p0) fun r1=>
 bnd (Ld (⟨p0,([]:List (Ab × Int)),([]:List (Ab × Bool))⟩:Aj) r1) fun r3=>
 jn (fun (s0:List Ac × (List (Ab × Int)) × (List (Ab × Bool)))=>
 bnd (Oc p0) fun r4=>
 bnd (Gn (⟨s0.1,s0.2.1,s0.2.2⟩:Aj)) fun r5=>
 some ((⟨r4,r5.2,r0⟩:Ao),0))
 (fun j0=>if 0<((r3.apex.length:Int)) then (jn (fun (s1:List Ac × (List (Ab × Int)) × (List (Ab × Bool)))=>
 bnd (Jo (⟨s1.1,s1.2.1,s1.2.2⟩:Aj)) fun r6=>
 j0 (r6.v,r6.apex,r6.fixed))
 (fun j1=>bnd (lfix (Qr r0) (r3.v,r3.apex,r3.fixed,0)) fun t0=>
 j1 t0))
 else (j0 (r3.v,r3.apex,r3.fixed))))
 else (some ((⟨([]:List Ac),([]:List Ag),([]:List Ab)⟩:Ao),r8)))
 else (some ((⟨([]:List Ac),([]:List Ag),([]:List Ab)⟩:Ao),r2))
instance(p0:Aj)(p1:List Int):ConK (Ld p0 p1) prog 126 (fun g0_0 gm0_0 gm0_1 U0 E0 U1 E1 vs Lp=>vs=[.pointer (some ⟨g0_0,0,none⟩),.slice U1 p1.length E1]/\Lp=[.m g0_0 156 [.slice U0 p0.v.length E0,.map (some gm0_0),.map (some gm0_1)],Bc prog 103 Al Dn gm0_0 p0.apex,Bc prog 103 Al Bw gm0_1 p0.fixed]/\True) (fun U0 E0 U1 E1 K K2=>Has K U0 p0.v.length E0 4 Ai p0.v/\Has K2 U1 p1.length E1 1 Ah p1/\True) (fun g0_0 gm0_0 gm0_1 U0 E0 U1 E1 K r=>fun v Ln=>∃ A0 c0,v = .tuple #[]/\Ln=[.m g0_0 156 [.slice A0 r.v.length c0,.map (some gm0_0),.map (some gm0_1)],Bc prog 103 Al Dn gm0_0 r.apex,Bc prog 103 Al Bw gm0_1 r.fixed]/\Has K A0 r.v.length c0 4 Ai r.v/\True):=⟨by
 rintro g0_0 gm0_0 gm0_1 U0 E0 U1 E1 K K2 _ _ r ⟨rfl,rfl,-⟩ ⟨ha0,ha1,-⟩ hx;unfold Ld at hx;have:=dl 1 [0,0,0,0,0,0,0,0,1,2,0,0,0,1,2,0,0,0,0,1,2,2,0,0] [0,1,2,3,4,5,6,7,8,10,11,12,13,15,16,17,18,19,9,14,20,21,22,23];have:=dl 7 [0,0,0,0,1,2,0,0,0,0,0,1,2,0,0,0,0,1,2,2,0] [0,1,2,3,4,6,7,8,9,10,11,13,14,15,16,17,5,12,18,19,20];have:=dl 8 [0,0,0,0,1,0,0,0,0,1,0,0,0,1,3] [0,1,2,3,4,5,6,7,8,9,10,11,12,13,14];have:=dl 9 [0,0,0,0,0,1,0,0,0,1,0,0,0,1,3] [0,1,2,3,4,5,6,7,8,9,10,11,12,13,14];have:=dl 16 [0,0,1,2,0,0,1,2,0,0,2,2,0] [0,1,2,4,5,6,8,9,3,7,10,11,12];refine CtSK ntmps126 results126 ?_;intro Lf hKf;have hKg:=hKf.r;replace hKf:=hKf.l;refine Ts ?_;try (refine pre ?_;intros;rename_i hx)
 refine Bf ?_;try (refine pre ?_;intros;rename_i hx)
 apply Jr (γ:=Unit) hx [0,1] (fun s2 y2 f=>(4,iq s2)::f) [0,1,2,1003] (fun s2 y2 l=>l);exact kk
 ·intro s2 y2 hx;try (refine pre ?_;intros;rename_i hx)
  refine Cq1e (s:=39) hx rfl cQ (fun _ hx=>?_) (fun _ hx=>?_)
  ·exact au
  ·try (refine pre ?_;intros;rename_i hx)
   apply JrG (γ:=Option Addr × Nat) hx [0,1,4] (fun s9 y9 f=>f) [1003] (fun s9 y9 l=>.m g0_0 156 [.slice y9.1 s9.1.length y9.2,.map (some gm0_0),.map (some gm0_1)]::Bc prog 103 Al Dn gm0_0 s9.2.1::Bc prog 103 Al Bw gm0_1 s9.2.2::l) (fun s9 y9=>Has K y9.1 s9.1.length y9.2 4 Ai s9.1/\True);exact kk
   ·intro s9 y9 hx hG;obtain⟨_,-⟩:=hG;try (refine pre ?_;intros;rename_i hx)
    apply LrG (γ:=Option Addr × Nat × Option Addr × Nat) hx [0,101] (fun s0 y0 f=>(100,.slice y0.2.2.1 s0.2.2.2.1.length y0.2.2.2)::(102,iq s0.2.2.2.2)::f) [1003] (fun s0 y0 l=>.m g0_0 156 [.slice y0.1 s0.1.length y0.2.1,.map (some gm0_0),.map (some gm0_1)]::Bc prog 103 Al Dn gm0_0 s0.2.1::Bc prog 103 Al Bw gm0_1 s0.2.2.1::l) (fun s0 y0=>Has K y0.1 s0.1.length y0.2.1 4 Ai s0.1/\Has K2 y0.2.2.1 s0.2.2.2.1.length y0.2.2.2 1 Ah s0.2.2.2.1/\True) (_,_,_,_);exact kk;exact sF2;exact gG;exact pK2;intro s0 y0 x0 hx _ hG;obtain⟨_,_,-⟩:=hG;unfold Jv at hx;try (refine pre ?_;intros;rename_i hx)
    refine Cq1e (s:=103) hx rfl cQ (fun _ hx=>?_) (fun _ hx=>?_)
    ·try (refine pre ?_;intros;rename_i hx)
     apply JrG (γ:=Option Addr × Nat) hx [0,100,101,102] (fun s1 y1 f=>f) [1003] (fun s1 y1 l=>.m g0_0 156 [.slice y1.1 s1.1.length y1.2,.map (some gm0_0),.map (some gm0_1)]::Bc prog 103 Al Dn gm0_0 s1.2.1::Bc prog 103 Al Bw gm0_1 s1.2.2::l) (fun s1 y1=>Has K y1.1 s1.1.length y1.2 4 Ai s1.1/\True);exact kk
     ·intro s1 y1 hx hG;obtain⟨_,-⟩:=hG;exact au
     ·intro _ hx;try (refine pre ?_;intros;rename_i hx)
      apply LrG (γ:=Option Addr × Nat) hx [0,7,100,101,102,107,108] (fun s3 y3 f=>(109,iq s3.2.2.2)::f) [3,1004] (fun s3 y3 l=>.m g0_0 156 [.slice y3.1 s3.1.length y3.2,.map (some gm0_0),.map (some gm0_1)]::Bc prog 103 Al Dn gm0_0 s3.2.1::Bc prog 103 Al Bw gm0_1 s3.2.2.1::l) (fun s3 y3=>Has K y3.1 s3.1.length y3.2 4 Ai s3.1/\True) (_,_);exact kk;exact sF2;exact gG;exact pK2;intro s3 y3 x1 hx _ hG;obtain⟨_,-⟩:=hG;unfold Dj at hx;exact au
    ·exact au
   ·intro _ hx;try (refine pre ?_;intros;rename_i hx)
    apply LrG (γ:=Option Addr × Nat) hx [0,1,4] (fun s4 y4 f=>(5,iq s4.2.2.2)::f) [1003] (fun s4 y4 l=>.m g0_0 156 [.slice y4.1 s4.1.length y4.2,.map (some gm0_0),.map (some gm0_1)]::Bc prog 103 Al Dn gm0_0 s4.2.1::Bc prog 103 Al Bw gm0_1 s4.2.2.1::l) (fun s4 y4=>Has K y4.1 s4.1.length y4.2 4 Ai s4.1/\True) (_,_);exact kk;exact sF2;exact gG;exact pK2;intro s4 y4 x2 hx _ hG;obtain⟨_,-⟩:=hG;unfold Fh at hx;try (refine pre ?_;intros;rename_i hx)
    refine Cq1e (s:=43) hx rfl cQ (fun _ hx=>?_) (fun _ hx=>?_)
    ·exact au
    ·exact au
 ·intro _ hx;try (refine pre ?_;intros;rename_i hx)
  apply Lr (γ:=Unit) hx [0,1] (fun s5 y5 f=>(4,iq s5)::f) [0,1,2,1003] (fun s5 y5 l=>l) ();exact kk;exact sk;intro s5 y5 x3 hx _;unfold Hm at hx;exact au⟩
instance(p0:Aj):ConK (Jo p0) prog 129 (fun g0_0 gm0_0 gm0_1 U0 E0 ua0 uc0 vs Lp=>vs=[.pointer (some ⟨g0_0,0,none⟩)]/\Lp=[.m g0_0 156 [.slice U0 p0.v.length E0,.map (some gm0_0),.map (some gm0_1)],Bc prog 103 Al Dn gm0_0 p0.apex,Bc prog 103 Al Bw gm0_1 p0.fixed]/\ua0=none/\uc0=0/\True) (fun U0 E0 ua0 uc0 K K2=>Has K U0 p0.v.length E0 4 Ai p0.v/\True) (fun g0_0 gm0_0 gm0_1 U0 E0 ua0 uc0 K r=>fun v Ln=>∃ A0 c0,v = .tuple #[]/\Ln=[.m g0_0 156 [.slice A0 r.v.length c0,.map (some gm0_0),.map (some gm0_1)],Bc prog 103 Al Dn gm0_0 r.apex,Bc prog 103 Al Bw gm0_1 r.fixed]/\Has K A0 r.v.length c0 4 Ai r.v/\True):=⟨by
 rintro g0_0 gm0_0 gm0_1 U0 E0 _ _ K K2 _ _ r ⟨rfl,rfl,rfl,rfl,-⟩ ⟨ha0,-⟩ hx;unfold Jo at hx;have:=dl 4 [0,0,0,1,1,1,0,0,0,2,2] [0,1,2,3,4,5,6,7,8,9,10];have:=dl 5 [0,0,0,1,0,1,0,1,0,1,0,0,0,2,2] [0,1,2,3,4,5,6,7,8,9,10,11,12,13,14];have:=dl 6 [0,0,0,0,0,0,0,0,0,0,1,1,1,0,0,0,0,1,2,0,0,1,2,0,0,2,0,0,2,2,0] [0,1,2,3,4,5,6,7,8,9,10,11,12,13,14,15,16,17,19,20,21,23,24,26,27,18,22,25,28,29,30];have:=dl 8 [0,0,1,0,2,0,0,1,2,0,1,0,2,0,0,1,2,2,3,2] [0,1,2,3,5,6,7,9,10,11,13,14,15,4,8,12,16,17,18,19];refine CtSK ntmps129 results129 ?_;intro Lf hKf;have hKg:=hKf.r;replace hKf:=hKf.l;refine Ts ?_;try (refine pre ?_;intros;rename_i hx)
 apply LrG (γ:=Option Addr × Nat × Option Addr × Nat) hx [0] (fun s0 y0 f=>(2,.slice y0.2.2.1 s0.2.2.2.length y0.2.2.2)::f) [1004] (fun s0 y0 l=>.m g0_0 156 [.slice y0.1 s0.1.length y0.2.1,.map (some gm0_0),.map (some gm0_1)]::Bc prog 103 Al Dn gm0_0 s0.2.1::Bc prog 103 Al Bw gm0_1 s0.2.2.1 :: .r y0.2.2.1 s0.2.2.2.length y0.2.2.2 103 2 (s0.2.2.2.flatMap Aq)::l) (fun s0 y0=>Has K y0.1 s0.1.length y0.2.1 4 Ai s0.1/\True) (_,_,_,_);exact kk;exact sF2;exact gG;exact pK2;intro s0 y0 x0 hx _ hG;obtain⟨_,-⟩:=hG;unfold Dk at hx;try (refine pre ?_;intros;rename_i hx)
 refine Cq1e (s:=12) hx rfl cQ (fun _ hx=>?_) (fun _ hx=>?_)
 ·try (refine pre ?_;intros;rename_i hx)
  refine Bf ?_;try (refine pre ?_;intros;rename_i hx)
  apply Jr (γ:=Option Addr × Nat) hx [0,3,4,6] (fun s1 y1 f=>(2,.slice y1.1 s1.1.length y1.2)::(76,.bool s1.2)::f) [0,1,2,3,1005] (fun s1 y1 l=>.r y1.1 s1.1.length y1.2 103 2 (s1.1.flatMap Aq)::l);exact kk
  ·intro s1 y1 hx;exact au
  ·intro _ hx;try (refine pre ?_;intros;rename_i hx)
   refine (Cb4 (s:=48) hx rfl (fun _ hx=>?_) (fun _ hx=>?_)) ⟨_,_,rfl,rfl⟩
   ·try (refine pre ?_;intros;rename_i hx)
    (with_reducible apply Wf 2);exact rfl;exact aT;(with_reducible assumption);exact rfl;exact (fun _=>rfl);exact sA
    exact au
   ·try (refine pre ?_;intros;rename_i hx)
    refine (Cb4 (s:=52) hx rfl (fun _ hx=>?_) (fun _ hx=>?_)) ⟨_,_,rfl,rfl⟩
    ·try (refine pre ?_;intros;rename_i hx)
     (with_reducible apply Wf 2);exact rfl;exact aT;(with_reducible assumption);exact rfl;exact (fun _=>rfl);exact sA
     exact au
    ·try (refine pre ?_;intros;rename_i hx)
     refine (Cb3 (s:=60) hx rfl (fun _ hx=>?_) (fun _ hx=>?_)) ⟨_,_,rfl,rfl⟩
     ·try (refine pre ?_;intros;rename_i hx)
      (with_reducible apply Wf 2);exact rfl;exact aT;(with_reducible assumption);exact rfl;exact (fun _=>rfl);exact sA
      exact au
     ·try (refine pre ?_;intros;rename_i hx)
      (with_reducible apply Wf 2);exact rfl;exact aT;(with_reducible assumption);exact rfl;exact (fun _=>rfl);exact sA
      exact au
 ·exact au⟩
theorem Zp(p0:Aj)(p1:Ab){g0_0:Nat}{gm0_0:Nat}{gm0_1:Nat}{K:List Ent}{U0:Option Addr}{E0:Nat}(ha0:Has K U0 p0.v.length E0 4 Ai p0.v){r:Aj}(hx:Ib p0 p1=some r):CtK prog 128 [.pointer (some ⟨g0_0,0,none⟩),.agg #[iq p1.a0,iq p1.a1]] K [.m g0_0 156 [.slice U0 p0.v.length E0,.map (some gm0_0),.map (some gm0_1)],Bc prog 103 Al Dn gm0_0 p0.apex,Bc prog 103 Al Bw gm0_1 p0.fixed] fun v Ln=>∃ (A0:Option Addr) (c0:Nat),v = .tuple #[]/\Ln=[.m g0_0 156 [.slice A0 r.v.length c0,.map (some gm0_0),.map (some gm0_1)],Bc prog 103 Al Dn gm0_0 r.apex,Bc prog 103 Al Bw gm0_1 r.fixed]/\Has (K++[]) A0 r.v.length c0 4 Ai r.v/\True:=by
 have ha0':=Has.up0 ha0;refine CtK.mk 84 func128 rfl ntmps128 kr rfl ?_;intro Lf hKf;show T 84 _ [(0,.pointer (some ⟨g0_0,0,none⟩)),(1,.agg #[iq p1.a0,iq p1.a1])] ([.m g0_0 156 [.slice U0 p0.v.length E0,.map (some gm0_0),.map (some gm0_1)],Bc prog 103 Al Dn gm0_0 p0.apex,Bc prog 103 Al Bw gm0_1 p0.fixed]++Lf);unfold Ib at hx;refine Y2 ?_;refine T_x (Qt rfl rfl rfl (fun g1=>?_));refine Y7 ?_;obtain⟨j3,hj3,hx⟩:=Ako hx;refine Aeh (τ:=List Ac × (List (Ab × Int)) × (List (Ab × Bool)) × List Ab) (γ:=Option Addr × Nat × Option Addr × Nat) (J:=j3) (out:=r) (fun s3 y3=>[(0,.pointer (some ⟨g0_0,0,none⟩)),(3,.pointer (some ⟨g1,0,none⟩)),(4,.slice y3.2.2.1 s3.2.2.2.length y3.2.2.2)]) (fun s3 y3=>[.r y3.2.2.1 s3.2.2.2.length y3.2.2.2 103 2 (s3.2.2.2.flatMap Aq),.m g0_0 156 [.slice y3.1 s3.1.length y3.2.1,.map (some gm0_0),.map (some gm0_1)],Bc prog 103 Al Dn gm0_0 s3.2.1,Bc prog 103 Al Bw gm0_1 s3.2.2.1,.m g1 103 [iq p1.a0,iq p1.a1]]++Lf) (fun s3 y3=>Has (K++[]) y3.1 s3.1.length y3.2.1 4 Ai s3.1/\True) ?_ ?_
 ·intro s3 y3 hx0 hG0;obtain⟨hs0,-⟩:=hG0;subst hj3;obtain⟨j0,hj0,hx0⟩:=Ako hx0;refine Aeh (τ:=List Ac × (List (Ab × Int)) × (List (Ab × Bool))) (γ:=Option Addr × Nat) (J:=j0) (out:=r) (fun s0 y0=>[(0,.pointer (some ⟨g0_0,0,none⟩)),(3,.pointer (some ⟨g1,0,none⟩))]) (fun s0 y0=>[.m g0_0 156 [.slice y0.1 s0.1.length y0.2,.map (some gm0_0),.map (some gm0_1)],Bc prog 103 Al Dn gm0_0 s0.2.1,Bc prog 103 Al Bw gm0_1 s0.2.2,.m g1 103 [iq p1.a0,iq p1.a1]]++Lf) (fun s0 y0=>Has (K++[]) y0.1 s0.1.length y0.2 4 Ai s0.1/\True) ?_ ?_
  ·intro s0 y0 hx1 hG1;obtain⟨hs1,-⟩:=hG1;subst hj0;refine T_dr [0,0,0,1,1,3] (.q 0 (.q 1 (.q 2 (.q 3 (.q 4 (.e 5 (.done) (.stop))))))) mixed kr kr ?_;refine Y2 ?_;refine P_p rfl rfl (Ee rfl Ano rfl) rfl ?_;refine P_q rfl rfl (Cg rfl (i:=0) rfl rfl Aw2) rfl ?_;refine P_q rfl rfl (Db rfl (i:=3) rfl rfl Rz) rfl ?_;obtain⟨h0,hx2⟩:=De hx1;obtain⟨h1,hx3⟩:=De hx2;refine P_h rfl rfl (Ach (x:=p1) (y:=true) Xe Ed underlying154 rfl rfl rfl rfl rfl (.there (.there (.here))) (Alb p1 h0) h1 ?_) ?_;rotate_left;exact Tq;refine Y ?_;obtain rfl:=Option.some.inj hx3;exact Aof (rs:=[]) results128 (.nil) (Ln:=[.m g0_0 156 [.slice y0.1 s0.1.length y0.2,.map (some gm0_0),.map (some gm0_1)],Bc prog 103 Al Dn gm0_0 s0.2.1,Bc prog 103 Al Bw gm0_1 (mput s0.2.2 p1 true)]) ⟨y0.1,y0.2,rfl,rfl,Has.len' hs1,trivial⟩ (by exact .pick 0 rfl (.pick 0 rfl (.pick 0 rfl (.drop 0 rfl (.refl)))))
  ·skip;refine Y ?_;refine Bds (.here) ?_;obtain⟨t0,hl0,ho0⟩:=Au hx0;refine Lp (σ:=List Ac × (List (Ab × Int)) × (List (Ab × Bool)) × List Ab) (γ:=Option Addr × Nat × Option Addr × Nat) hl0 (fun s1 y1=>[(0,.pointer (some ⟨g0_0,0,none⟩)),(3,.pointer (some ⟨g1,0,none⟩)),(4,.slice y1.2.2.1 s1.2.2.2.length y1.2.2.2)]) (fun s1 y1=>[qw y1.2.2.1 s1.2.2.2.length y1.2.2.2 103 2 (s1.2.2.2.flatMap Aq),.m g0_0 156 [.slice y1.1 s1.1.length y1.2.1,.map (some gm0_0),.map (some gm0_1)],Bc prog 103 Al Dn gm0_0 s1.2.1,Bc prog 103 Al Bw gm0_1 s1.2.2.1,.m g1 103 [iq p1.a0,iq p1.a1]]++Lf) (fun s1 y1=>Has (K++[]) y1.1 s1.1.length y1.2.1 4 Ai s1.1/\True) (y3.1,y3.2.1,y3.2.2.1,y3.2.2.2) ((by exact⟨Has.len' hs0,trivial⟩)) (by exact .pick 0 rfl (.pick 0 rfl (.pick 0 rfl (.pick 0 rfl (.pick 0 rfl (.refl)))))) ?_;intro s1 y1 hG2 x0 hx5 ht0;unfold Cb at hx5;obtain⟨hs2,-⟩:=hG2;refine Y4 ?_;refine Ay (If rfl 103 underlying24) rfl ?_;refine Y3 ?_;refine Ti hx5 (s:=32) rfl (fun h2 hx6=>?_) (fun h2 hx7=>?_)
   ·refine Y7 ?_;obtain⟨x1,h4,hx8⟩:=Au hx6;refine Aub (k:=0) rfl dD (fun _=>rfl) (fun hn0 hs3=>?_);obtain⟨b0,o0,j1,hA0,hj1,hl1,hp0⟩:=Has.at_idx hs3 h4;refine Ay (Iv rfl rfl hA0 (j:=j1) hj1 hl1 Aq2) rfl ?_;refine Ay (Sc rfl hp0 (sb 0) rfl Rz) rfl ?_;refine T_x (Gq Akj rfl (fun g0=>?_));refine T_h (Ef rfl rfl rfl (.here) (.put (.put (.done))) rfl (List.cons_ne_nil _ _) Rz.2 ?_);refine Y5 ?_;refine Aub (k:=1) rfl dD (fun _=>rfl) (fun hn1 hs4=>?_);obtain⟨h5,hx9⟩:=De hx8;refine Auc (q:=Int.toNat 1) (.there (.here)) oo dD (fun _=>rfl) ?_;refine Ay (Akq rfl rfl Aq2 h5.1 h5.2) rfl ?_;refine Y4 ?_;refine T_dr [0,0,0,1,1,1,0,0,0,1,0,1,0,1,0,1,2,2] (.q 0 (.q 1 (.q 2 (.q 3 (.q 4 (.q 5 (.q 6 (.q 7 (.q 8 (.q 9 (.q 10 (.q 11 (.q 12 (.q 13 (.q 14 (.q 15 (.e 16 (.e 17 (.done) (.stop)) (.stop)))))))))))))))))) mixed kr kr ?_;refine Y2 ?_;refine P_p rfl rfl (Ee rfl Ah6 rfl) rfl ?_;refine P_q rfl rfl (Cg rfl (i:=2) rfl rfl Aph) rfl ?_;refine P_q rfl rfl (Db rfl (i:=0) rfl rfl Rz) rfl ?_;obtain⟨h6,hx10⟩:=De hx9;obtain⟨x2,h7,hx11⟩:=Au hx10;refine P_q rfl rfl (Ac9 (x:=x1) (i:=3) (vv:=iq x2) Xe underlying153 (fun w=>kr) Ed rfl rfl rfl rfl Qh (Alb x1 h6) h7 rfl) rfl ?_;refine Y2 ?_;refine P_p rfl rfl (Ee rfl Ah6 rfl) rfl ?_;refine P_q rfl rfl (Cg rfl (i:=2) rfl rfl Aph) rfl ?_;refine P_p rfl rfl (Va rfl rfl Ag6 dD dD rfl) rfl ?_;refine P_q rfl rfl (Cg rfl (i:=0) rfl rfl one3) rfl ?_;refine P_p rfl rfl (Va rfl rfl Ag6 dD dD rfl) rfl ?_;refine P_q rfl rfl (Cg rfl (i:=0) rfl rfl one3) rfl ?_;refine P_p rfl rfl (Qs rfl (Zk _ _)) rfl ?_;obtain⟨h8,hx12⟩:=De hx11;obtain⟨x3,h9,hx13⟩:=Au hx12;refine P_q rfl rfl (Ac9 (x:=(⟨x1.a1,x1.a0⟩:Ab)) (i:=3) (vv:=iq x3) Xe underlying153 (fun w=>kr) Ed rfl rfl rfl rfl Qh (Alb ((⟨x1.a1,x1.a0⟩:Ab)) h8) h9 rfl) rfl ?_;refine P_x rfl (Acv (Me rfl) rfl ?_) ?_;rotate_left;exact Tq;refine P_x rfl (Acv (Me rfl) rfl ?_) ?_;rotate_left;exact Tq;refine Y6 ?_;refine Ay (Va rfl rfl Ag6 dD dD rfl) rfl ?_;refine Ay (Cg rfl (i:=0) rfl rfl one3) rfl ?_;refine Ay (Va rfl rfl Ag6 dD dD rfl) rfl ?_;refine Ay (Cg rfl (i:=0) rfl rfl one3) rfl ?_;obtain⟨r0,h10,hx14⟩:=Au hx13;refine T_h (Ag1 rfl (by exact .pick 2 rfl (.pick 2 rfl (.pick 2 rfl (.refl)))) (by exact (SubE.appC (SubE.tail (SubE.tail (SubE.tail hKf))) SubE.nil)) (Aay (⟨s1.1,s1.2.1,s1.2.2.1⟩:Aj) x1.a0 x1.a1 (Has.len' hs2) h10 (K:=(K++[]))) rfl ?_);rintro _ _ ⟨A1,c1,rfl,rfl,hs5,-⟩;refine Ts ?_;have hs6:Has (K++[]) _ _ _ _ _ _:=Has.assoc hs5;refine Y3 ?_;refine Xo (s:=60) rfl (fun h11=>?_) (fun h11=>?_)
    ·have hx15:=Vt h11 hx14;refine Y4 ?_;refine Ay (Db rfl (i:=3) rfl rfl Rz) rfl ?_;refine T_x (Ck rfl (Rc _ _) rfl (fun g2=>?_));obtain⟨h12,hx16⟩:=De hx15;refine T_h (Agq Aq (List.drop (Int.toNat 1) s1.2.2.2) [x1] rfl rfl rfl Arh (fun _=>rfl) (i':=0) rfl rfl rfl rfl h12 rfl (fun _ _=>.there (.there (.there (.there (.there (.here)))))) (fun _ _=>.drop .refl) dD (fun A2 c2=>?_));refine Y6 ?_;exact Rp (r0.1.v,r0.1.apex,r0.1.fixed,(List.drop (Int.toNat 1) s1.2.2.2)++[x1]) (A1,c1,A2,c2) hx16 ((by exact⟨Has.len' hs6,trivial⟩)) (by exact .pick 4 rfl (.pick 0 rfl (.pick 0 rfl (.pick 0 rfl (.pick 1 rfl (.drop 0 rfl (.refl)))))))
    ·have hx17:=Rg h11 hx14;refine Y7 ?_;obtain⟨r1,h13,hx18⟩:=Au hx17;refine Tc (fun w1 hw1=>Akk x2 x3  h13 w1) ?_;refine T_x (Gq Akj rfl (fun g3=>?_));refine T_h (Ef rfl rfl rfl (.here) (.put (.put (.done))) rfl (List.cons_ne_nil _ _) Rz.2 ?_);refine Y3 ?_;refine T_dr [0,0,0,1,1,1,2] (.q 0 (.q 1 (.q 2 (.q 3 (.q 4 (.q 5 (.e 6 (.done) (.stop)))))))) mixed kr kr ?_;refine Y2 ?_;refine P_p rfl rfl (Ee rfl Ah5 rfl) rfl ?_;refine P_q rfl rfl (Cg rfl (i:=1) rfl rfl Afm) rfl ?_;refine P_q rfl rfl (Db rfl (i:=6) rfl rfl Rz) rfl ?_;refine P_q rfl rfl (Db rfl (i:=0) rfl rfl Rz) rfl ?_;obtain⟨r3,h14,hx19⟩:=Au hx18;refine Pc (fun w1 hw1=>Xz r0.1.v p1 r1 (Has.len' hs6) h14 w1 (Um (K:=(K++[])) (by exact (SubE.appC (SubE.tail (SubE.tail (SubE.tail (SubE.tail (SubE.tail (SubE.tail (SubE.tail hKf))))))) SubE.nil)) hw1)) ?_;refine Y2 ?_;refine Tz (s:=74) rfl (fun h15=>?_) (fun h15=>?_)
     ·have hx20:=Rg h15 hx19;refine Y3 ?_;refine Ay (Db rfl (i:=0) rfl rfl Rz) rfl ?_;refine T_x (Ck rfl (Rc _ _) rfl (fun g4=>?_));obtain⟨h16,hx21⟩:=De hx20;refine T_h (Agq Aq (List.drop (Int.toNat 1) s1.2.2.2) [r1] rfl rfl rfl Arh (fun _=>rfl) (i':=0) rfl rfl rfl rfl h16 rfl (fun _ _=>.there (.there (.there (.there (.there (.there (.here))))))) (fun _ _=>.drop .refl) dD (fun A3 c3=>?_));refine Y3 ?_;exact Rp (r0.1.v,r0.1.apex,r0.1.fixed,(List.drop (Int.toNat 1) s1.2.2.2)++[r1]) (A1,c1,A3,c3) hx21 ((by exact⟨Has.len' hs6,trivial⟩)) (by exact .pick 5 rfl (.pick 1 rfl (.pick 1 rfl (.pick 1 rfl (.pick 2 rfl (.drop 0 rfl (.drop 0 rfl (.refl))))))))
     ·have hx22:=Vt h15 hx19;refine Y3 ?_;have hn2:s1.2.2.2.length-Int.toNat 1=(List.drop (Int.toNat 1) s1.2.2.2).length:=List.length_drop.symm;refine Afe (.there (.there (.there (.there (.there (.here)))))) (e':=qw (slA y1.2.2.1 y1.2.2.2 (Int.toNat 1) 2) ((List.drop (Int.toNat 1) s1.2.2.2).length) (y1.2.2.2-Int.toNat 1) 103 2 ((List.drop (Int.toNat 1) s1.2.2.2).flatMap Aq)) (by first | (rw[<- hn2];done) | rfl) ?_;refine Aha (s:=4) (v':=.slice (slA y1.2.2.1 y1.2.2.2 (Int.toNat 1) 2) ((List.drop (Int.toNat 1) s1.2.2.2).length) (y1.2.2.2-Int.toNat 1)) rfl (by have hn3:(s1.2.2.2.length-Int.toNat 1)=(List.drop (Int.toNat 1) s1.2.2.2).length:=List.length_drop.symm;first | (rw[<- hn3];done) | rfl) ?_;exact Rp (r0.1.v,r0.1.apex,r0.1.fixed,List.drop (Int.toNat 1) s1.2.2.2) (A1,c1,slA y1.2.2.1 y1.2.2.2 (Int.toNat 1) 2,y1.2.2.2-Int.toNat 1) hx22 ((by exact⟨Has.len' hs6,trivial⟩)) (by exact .pick 5 rfl (.pick 1 rfl (.pick 1 rfl (.pick 1 rfl (.pick 2 rfl (.drop 0 rfl (.drop 0 rfl (.refl))))))))
   ·refine Y3 ?_;obtain rfl:=Ua ht0 hx7;refine Y2 ?_;exact Mt (s1.1,s1.2.1,s1.2.2.1) (y1.1,y1.2.1) ho0 ((by exact⟨Has.len' hs2,trivial⟩)) (by exact .pick 1 rfl (.pick 1 rfl (.pick 1 rfl (.pick 1 rfl (.drop 0 rfl (.refl))))))
 ·skip;refine Y3 ?_;obtain⟨r2,h3,hx4⟩:=Au hx;refine T_h (Ag1 rfl (by exact .pick 1 rfl (.pick 1 rfl (.pick 1 rfl (.refl)))) (by exact (SubE.appC (SubE.tail hKf) SubE.nil)) (Zo p0 (Has.len' ha0') h3 (K:=(K++[]))) rfl ?_);rintro _ _ ⟨A5,c6,A7,c8,rfl,rfl,hs9,-⟩;refine Aei ?_;have hs7:Has (K++[]) _ _ _ _ _ _:=Has.assoc hs9;refine Ay (If rfl 103 underlying24) rfl ?_;refine Y4 ?_;obtain⟨t1,hl2,ho1⟩:=Au hx4;refine Bh 103 2 ?_
  have hn4:0=(([]:List Ab)).length:=by simp[Nr,Aba,List.length_append] <;> omega
  refine Afe (.here) (e':=.r none ((([]:List Ab)).length) 0 103 2 ((([]:List Ab)).flatMap Aq)) (by first | (rw[<- hn4];done) | rfl) ?_;refine Lp (σ:=List Ab × Int) (γ:=Option Addr × Nat) hl2 (fun s2 y2=>[(0,.pointer (some ⟨g0_0,0,none⟩)),(3,.pointer (some ⟨g1,0,none⟩)),(4,.slice y2.1 s2.1.length y2.2),(12,.slice A7 r2.2.length c8),(13,iq (r2.2.length:Int)),(14,iq s2.2)]) (fun s2 y2=>[.r y2.1 s2.1.length y2.2 103 2 (s2.1.flatMap Aq),.m g0_0 156 [.slice A5 r2.1.v.length c6,.map (some gm0_0),.map (some gm0_1)],Bc prog 103 Al Dn gm0_0 r2.1.apex,Bc prog 103 Al Bw gm0_1 r2.1.fixed,.r A7 r2.2.length c8 103 2 (r2.2.flatMap Aq),.m g1 103 [iq p1.a0,iq p1.a1]]++Lf) (fun s2 y2=>True) (none,0) trivial (by exact .pick 0 rfl (.pick 0 rfl (.pick 0 rfl (.pick 0 rfl (.pick 0 rfl (.pick 0 rfl (.refl))))))) ?_;intro s2 y2 hG3 x4 hx41 ht1;unfold Hn at hx41;refine Y6 ?_;refine Ti hx41 (s:=15) rfl (fun h43 hx44=>?_) (fun h43 hx45=>?_)
  ·refine Y3 ?_;refine Tj (γ:=Option Addr × Nat) hx44 (fun s4 y4=>[(0,.pointer (some ⟨g0_0,0,none⟩)),(3,.pointer (some ⟨g1,0,none⟩)),(4,.slice y4.1 s4.length y4.2),(12,.slice A7 r2.2.length c8),(13,iq (r2.2.length:Int)),(14,iq s2.2)]) (fun s4 y4=>[.r y4.1 s4.length y4.2 103 2 (s4.flatMap Aq),.m g0_0 156 [.slice A5 r2.1.v.length c6,.map (some gm0_0),.map (some gm0_1)],Bc prog 103 Al Dn gm0_0 r2.1.apex,Bc prog 103 Al Bw gm0_1 r2.1.fixed,.r A7 r2.2.length c8 103 2 (r2.2.flatMap Aq),.m g1 103 [iq p1.a0,iq p1.a1]]++Lf) (fun s4 y4=>True) (fun s4 y4 hx69 hG4=>?_) (fun j2 hx44=>?_)
   ·refine Y4 ?_;exact Rp (s4,w64 (s2.2+1)) (y4.1,y4.2) hx69 trivial (by exact .pick 0 rfl (.pick 0 rfl (.pick 0 rfl (.pick 0 rfl (.pick 0 rfl (.pick 0 rfl (.refl)))))))
   ·refine Y3 ?_;obtain⟨x5,h47,hx48⟩:=Au hx44;refine Aaj (k:=4) rfl dD (fun _=>rfl) h47 (fun b1 j4 hA1 hj2 hl3 hm0 hp1=>?_);refine Ay (Iv rfl rfl hA1 (j:=j4) hj2 hl3 Aq2) rfl ?_;refine Ay (Sc rfl hp1 (sb 4) rfl Rz) rfl ?_;refine T_x (Gq Akj rfl (fun g5=>?_));refine T_h (Ef rfl rfl rfl (.here) (.put (.put (.done))) rfl (List.cons_ne_nil _ _) Rz.2 ?_);refine Y3 ?_;refine T_dr [0,0,0,1,1,1,2] (.q 0 (.q 1 (.q 2 (.q 3 (.q 4 (.q 5 (.e 6 (.done) (.stop)))))))) mixed kr kr ?_;refine Y2 ?_;refine P_p rfl rfl (Ee rfl Ah5 rfl) rfl ?_;refine P_q rfl rfl (Cg rfl (i:=2) rfl rfl Afm) rfl ?_;refine P_q rfl rfl (Db rfl (i:=6) rfl rfl Rz) rfl ?_;refine P_q rfl rfl (Db rfl (i:=0) rfl rfl Rz) rfl ?_;obtain⟨r4,h59,hx60⟩:=Au hx48;refine Pc (fun w1 hw1=>Xz r2.1.v p1 x5 (Has.len' hs7) h59 w1 (Um (K:=(K++[])) (by exact (SubE.appC (SubE.tail (SubE.tail (SubE.tail (SubE.tail (SubE.tail (SubE.tail (SubE.tail hKf))))))) SubE.nil)) hw1)) ?_;refine Y2 ?_;refine Tz (s:=24) rfl (fun h61=>?_) (fun h61=>?_)
    ·have hx62:=Rg h61 hx60;refine Y3 ?_;refine Ay (Db rfl (i:=0) rfl rfl Rz) rfl ?_;refine T_x (Ck rfl (Rc _ _) rfl (fun g6=>?_));obtain⟨h64,hx65⟩:=De hx62;refine T_h (Qk Aq s2.1 [x5] rfl rfl rfl Arh (fun _=>rfl) (i':=0) rfl rfl rfl rfl h64 rfl (fun _ _=>.there (.there (.here))) (fun _ _=>.drop .refl) dD (fun A4 c4=>?_));refine Y3 ?_;exact Mt (s2.1++[x5]) (A4,c4) hx65 trivial (by exact .pick 1 rfl (.pick 1 rfl (.pick 1 rfl (.pick 1 rfl (.pick 1 rfl (.pick 1 rfl (.drop 0 rfl (.refl))))))))
    ·have hx68:=Vt h61 hx60;refine Y3 ?_;exact Mt s2.1 (y2.1,y2.2) hx68 trivial (by exact .pick 1 rfl (.pick 1 rfl (.pick 1 rfl (.pick 1 rfl (.pick 1 rfl (.pick 1 rfl (.drop 0 rfl (.refl))))))))
  ·refine Y3 ?_;obtain rfl:=Ua ht1 hx45;refine Y2 ?_;exact Mt (r2.1.v,r2.1.apex,r2.1.fixed,s2.1) (A5,c6,y2.1,y2.2) ho1 ((by exact⟨Has.len' hs7,trivial⟩)) (by exact .pick 0 rfl (.pick 0 rfl (.pick 0 rfl (.pick 0 rfl (.pick 1 rfl (.drop 0 rfl (.refl)))))))
instance(p0:Aj)(p1:Ab):ConK (Ib p0 p1) prog 128 (fun g0_0 gm0_0 gm0_1 U0 E0 ua0 uc0 vs Lp=>vs=[.pointer (some ⟨g0_0,0,none⟩),.agg #[iq p1.a0,iq p1.a1]]/\Lp=[.m g0_0 156 [.slice U0 p0.v.length E0,.map (some gm0_0),.map (some gm0_1)],Bc prog 103 Al Dn gm0_0 p0.apex,Bc prog 103 Al Bw gm0_1 p0.fixed]/\ua0=none/\uc0=0/\True) (fun U0 E0 ua0 uc0 K K2=>Has K U0 p0.v.length E0 4 Ai p0.v/\True) (fun g0_0 gm0_0 gm0_1 U0 E0 ua0 uc0 K r=>fun v Ln=>∃ A0 c0,v = .tuple #[]/\Ln=[.m g0_0 156 [.slice A0 r.v.length c0,.map (some gm0_0),.map (some gm0_1)],Bc prog 103 Al Dn gm0_0 r.apex,Bc prog 103 Al Bw gm0_1 r.fixed]/\Has K A0 r.v.length c0 4 Ai r.v/\True):=⟨by
 rintro g0_0 gm0_0 gm0_1 U0 E0 _ _ K K2 _ _ r ⟨rfl,rfl,rfl,rfl,-⟩ ⟨ha0,-⟩ hx;exact CtK.wide ((Zp p0 p1 ha0 hx).mono (by
  rintro _ _ ⟨_,_,rfl,rfl,f0,-⟩;exact⟨_,_,rfl,rfl,Has.dn0 f0,trivial⟩))⟩
instance(p0:List Ac)(p1:List Ab):Con (Ic p0 p1) prog 71 (fun K vs=>∃ U0 E0 U1 E1,vs=[.slice U0 p0.length E0,.slice U1 p1.length E1]/\Has K U0 p0.length E0 4 Ai p0/\Has K U1 p1.length E1 2 Aq p1/\True) (fun _ r=>fun v Ln=>∃ A0 c0 A2 c2 A4 c4,v = .tuple #[.agg #[.slice A0 r.1.V.length c0,.slice A2 r.1.T.length c2,.slice A4 r.1.Lines.length c4],iq r.2]/\Ln=[.r A0 r.1.V.length c0 108 4 (r.1.V.flatMap Ai),.r A2 r.1.T.length c2 101 3 (r.1.T.flatMap Ax),.r A4 r.1.Lines.length c4 103 2 (r.1.Lines.flatMap Aq)]/\True):=⟨by
 rintro K _ r ⟨U0,E0,U1,E1,rfl,ha0,ha1,-⟩ hx w hK;replace ha0:=Has.lo ha0 hK;replace ha1:=Has.lo ha1 hK;unfold Ic at hx;refine CtS ntmps71 results71 ?_;try (refine pre ?_;intros;rename_i hx)
 refine Cq2 (s:=15) hx rfl (fun _ hx=>?_) (fun _ hx=>?_)
 ·exact au
 ·try (refine pre ?_;intros;rename_i hx)
  refine Cq2 (s:=22) hx rfl (fun _ hx=>?_) (fun _ hx=>?_)
  ·exact au
  ·try (refine pre ?_;intros;rename_i hx)
   apply JrG (γ:=Option Addr × Nat × Nat × Nat × Nat) hx [0,4,9] (fun s13 y13 f=>(8,.pointer (some ⟨y13.2.2.2.2,0,none⟩))::f) [3,4,5,999] (fun s13 y13 l=>.m y13.2.2.2.2 156 [.slice y13.1 s13.1.length y13.2.1,.map (some y13.2.2.1),.map (some y13.2.2.2.1)]::Bc prog 103 Al Dn y13.2.2.1 s13.2.1::Bc prog 103 Al Bw y13.2.2.2.1 s13.2.2::l) (fun s13 y13=>Has ([.old w]:List Ent) y13.1 s13.1.length y13.2.1 4 Ai s13.1/\True);exact kk
   ·intro s13 y13 hx hG;obtain⟨_,-⟩:=hG;exact au
   ·intro _ hx;try (refine pre ?_;intros;rename_i hx)
    refine Cq1 (s:=41) hx rfl (fun _ hx=>?_) (fun _ hx=>?_)
    ·try (refine pre ?_;intros;rename_i hx)
     apply JrG (γ:=Option Addr × Nat × Nat × Nat × Nat) hx [0,4,9] (fun s15 y15 f=>(8,.pointer (some ⟨y15.2.2.2.2,0,none⟩))::f) [3,4,5,999] (fun s15 y15 l=>.m y15.2.2.2.2 156 [.slice y15.1 s15.1.length y15.2.1,.map (some y15.2.2.1),.map (some y15.2.2.2.1)]::Bc prog 103 Al Dn y15.2.2.1 s15.2.1::Bc prog 103 Al Bw y15.2.2.2.1 s15.2.2::l) (fun s15 y15=>Has ([.old w]:List Ent) y15.1 s15.1.length y15.2.1 4 Ai s15.1/\True);exact kk
     ·intro s15 y15 hx hG;obtain⟨_,-⟩:=hG;exact au
     ·intro _ hx;try (refine pre ?_;intros;rename_i hx)
      apply LrG (γ:=Option Addr × Nat × Nat × Nat × Nat) hx [0,4,9,42,43] (fun s62 y62 f=>(8,.pointer (some ⟨y62.2.2.2.2,0,none⟩))::(44,iq s62.2.2.2)::f) [3,4,5,999] (fun s62 y62 l=>.m y62.2.2.2.2 156 [.slice y62.1 s62.1.length y62.2.1,.map (some y62.2.2.1),.map (some y62.2.2.2.1)]::Bc prog 103 Al Dn y62.2.2.1 s62.2.1::Bc prog 103 Al Bw y62.2.2.2.1 s62.2.2.1::l) (fun s62 y62=>Has ([.old w]:List Ent) y62.1 s62.1.length y62.2.1 4 Ai s62.1/\True) (_,_,_,_,_);exact kk;exact sF2;exact gG;exact pK2;intro s62 y62 x62 hx _ hG;obtain⟨_,-⟩:=hG;unfold Qr at hx;exact au
    ·exact au⟩
end Go.Proofs.YthlkpgdfifnagaaGreat
