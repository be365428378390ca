import Derived.Test.YthlkpgdfifnagaaGreatZ1
set_option maxRecDepth 100000
set_option maxHeartbeats 1000000
namespace Go.Proofs.YthlkpgdfifnagaaGreat
open Go Go.RowKit Tryz
structure Acq(n:By)(z:Int):Prop where
 num:n.n=L32 z.natAbs
 den:n.d=[1]
 neg:z≠0->n.neg=decide (z<0)
theorem Acq.eq{n:By}{z:Int}(h:Acq n z):n=⟨n.neg,L32 z.natAbs,[1]⟩:=by
 obtain⟨s,a,d⟩:=n;obtain⟨h1,h2,h3⟩:=h;simp only at h1 h2;subst h1;subst h2;rfl
theorem Arh(x:Int):wu64 x=x % 18446744073709551616:=by
 unfold wu64;rw[IntKind.wrap_u64]
theorem Ayx{z:Int}(h1:-9223372036854775808<=z)(h2:z<=9223372036854775807):∃ n,Mn z=some n/\Acq n z:=by
 unfold Mn
 by_cases h:z<0
 ·rw[if_pos h];have e:wu64 ((wu64 (w64 (-(w64 (z+1)))))+1)=((z.natAbs:Nat):Int):=by
   rw[Av (x:=z+1) oo oo,Av oo oo,Arh,Arh];omega
  rw[e,Ato oo];exact⟨_,rfl,rfl,rfl,fun _=>by simp[h]⟩
 ·rw[if_neg h];have e:wu64 z=((z.natAbs:Nat):Int):=by rw[Arh];omega
  rw[e,Ato oo];exact⟨_,rfl,rfl,rfl,fun _=>by simp[h]⟩
theorem Beb{a b:By}{x y:Int}(ha:Acq a x)(hb:Acq b y)(h:(dig 4294967296 x.natAbs).length+(dig 4294967296 y.natAbs).length<=1000000):∃ n,Kd a b=some n/\Acq n (x*y):=by
 unfold Kd;rw[ha.num,hb.num,ha.den,hb.den,Bei h,Ae,Atn,Ae];refine⟨_,rfl,by simp[Int.natAbs_mul],rfl,fun h0=>?_⟩;have hx:x≠0:=fun e=>h0 (by rw[e,Int.zero_mul])
 have hy:y≠0:=fun e=>h0 (by rw[e,Int.mul_zero])
 simp only;rw[ha.neg hx,hb.neg hy];rcases Int.lt_or_gt_of_ne hx with h1 | h1 <;> rcases Int.lt_or_gt_of_ne hy with h2 | h2
 ·have:=Int.mul_pos_of_neg_of_neg h1 h2;simp[h1,h2];omega
 ·have:=Int.mul_neg_of_neg_of_pos h1 h2;rw[decide_eq_true h1,decide_eq_false oo,decide_eq_true this];rfl
 ·have:=Int.mul_neg_of_pos_of_neg h1 h2;rw[decide_eq_false oo,decide_eq_true h2,decide_eq_true this];rfl
 ·have:=Int.mul_pos h1 h2;rw[decide_eq_false oo,decide_eq_false oo,decide_eq_false oo];rfl
theorem Ayy{a b:By}{x y:Int}(ha:Acq a x)(hb:Acq b y)(hx:(dig 4294967296 x.natAbs).length<=1000)(hy:(dig 4294967296 y.natAbs).length<=1000):∃ n,Qt a b=some n/\Acq n (x+y):=by
 have e1:=ha.neg;have e2:=hb.neg;unfold Qt;rw[ha.num,hb.num,ha.den,hb.den,Arj _ hx,Ae,Arj _ hy,Ae,Atn,Ae];generalize a.neg=s at *;generalize b.neg=t at *;have f1:x≠0->(s=true↔x<0):=fun h=>by rw[e1 h];simp
 have f2:y≠0->(t=true↔y<0):=fun h=>by rw[e2 h];simp
 clear e1 e2
 by_cases hs:s=t
 ·subst hs;rw[if_pos s_,Beh oo oo,Ae];have:x.natAbs+y.natAbs=(x+y).natAbs:=by
   cases s <;> simp at f1 f2 <;> omega
  rw[this];refine⟨_,rfl,rfl,rfl,fun h0=>?_⟩;simp only;cases s <;> simp at f1 f2 ⊢ <;> omega
 ·rw[if_neg (by simpa using hs),Bed _ _ oo,Ae]
  by_cases hc:y.natAbs<=x.natAbs
  ·rw[if_pos (by unfold cmpN;split <;> (try split) <;> omega),Ay8 oo hc,Ae];have:x.natAbs-y.natAbs=(x+y).natAbs:=by
    cases s <;> cases t <;> simp at f1 f2 hs <;> omega
   rw[this];refine⟨_,rfl,rfl,rfl,fun h0=>?_⟩;simp only;cases s <;> cases t <;> simp at f1 f2 hs ⊢ <;> omega
  ·rw[if_neg (by unfold cmpN;split <;> (try split) <;> omega),Ay8 oo oo,Ae];have:y.natAbs-x.natAbs=(x+y).natAbs:=by
    cases s <;> cases t <;> simp at f1 f2 hs <;> omega
   rw[this];refine⟨_,rfl,rfl,rfl,fun h0=>?_⟩;simp only;cases s <;> cases t <;> simp at f1 f2 hs ⊢ <;> omega
theorem Bbe{n:By}{z:Int}(h:Acq n z):Pb n=some (Int.sign z):=by
 rw[h.eq];exact Bej h.neg
theorem mulB{x y M N:Int}(hM:0<=M)(hx1:-M<=x)(hx2:x<=M)(hy1:-N<=y)(hy2:y<=N):-(M*N)<=x*y/\x*y<=M*N:=by
 have h:(x*y).natAbs<=M.natAbs*N.natAbs:=by
  rw[Int.natAbs_mul];exact Nat.mul_le_mul oo oo
 rw[<- Int.natAbs_mul] at h;have:0<=M*N:=Int.mul_nonneg hM oo;omega
def okP(p:Ac):Prop:=-268435456<=p.X/\p.X<=268435456/\-268435456<=p.Y/\p.Y<=268435456
instance(p:Ac):Decidable (okP p):=by unfold okP;infer_instance
def crs(a b c:Ac):Int:=(b.X-a.X)*(c.Y-a.Y)-(b.Y-a.Y)*(c.X-a.X)
def lft(p d:Ac):Int:=(p.X-d.X)*(p.X-d.X)+(p.Y-d.Y)*(p.Y-d.Y)
def inC(a b c d:Ac):Int:=lft a d*crs d b c+lft b d*crs d c a+lft c d*crs d a b
theorem Al7(l:List Ac)(hl:l.length<=1000000):Sp l=some (l.all fun p=>decide (okP p)):=by
 unfold Sp;rw[jn_d];have step:∀ i (hi:i<l.length),Mo l (i:Int)=if okP l[i] then some (.inl (((i+1:Nat):Int))) else some (.inr (.inr false)):=by
  intro i hi;unfold Mo;rw[if_pos oo,As hi,Ae,jn_d,Az oo]
  by_cases h1:l[i].X < -268435456
  ·rw[if_pos h1,if_neg (show ¬ okP l[i] by unfold okP;omega)];rfl
  ·rw[if_neg h1]
   by_cases h2:268435456<l[i].X
   ·rw[if_pos h2,if_neg (show ¬ okP l[i] by unfold okP;omega)];rfl
   ·rw[if_neg h2]
    by_cases h3:l[i].Y < -268435456
    ·rw[if_pos h3,if_neg (show ¬ okP l[i] by unfold okP;omega)];rfl
    ·rw[if_neg h3]
     by_cases h4:268435456<l[i].Y
     ·rw[decide_eq_true h4,if_neg (show ¬ okP l[i] by unfold okP;omega)];rfl
     ·rw[decide_eq_false h4,if_pos (show okP l[i] by unfold okP;omega)];rfl
 have key:∀ k i,k+i=l.length->lfix (Mo l) (i:Int)=some (if (l.drop i).all (fun p=>decide (okP p)) then .inl () else .inr false):=by
  intro k
  induction k with
  | zero=>
   intro i hi;rw[Ba];unfold Mo;rw[if_neg oo,List.drop_eq_nil_of_le oo];rfl
  | succ k ih=>
   intro i hi;have hlt:i<l.length:=oo;rw[Ba,step i hlt,List.drop_eq_getElem_cons hlt,List.all_cons]
   by_cases h:okP l[i]
   ·rw[if_pos h];simp only[h,decide_true,Bool.true_and];exact ih (i+1) oo
   ·rw[if_neg h];simp[h]
 have:=key l.length 0 oo;rw[show ((0:Nat):Int)=0 from rfl] at this;rw[this,List.drop_zero]
 by_cases h:l.all (fun p=>decide (okP p))=true
 ·rw[h];rfl
 ·rw[Bool.not_eq_true] at h;rw[h];rfl
theorem Ha{a b c:Ac}(ha:okP a)(hb:okP b)(hc:okP c):-576460752303423488<=crs a b c/\crs a b c<=576460752303423488:=by
 unfold okP at ha hb hc;have h1:=mulB (x:=b.X-a.X) (y:=c.Y-a.Y) (M:=536870912) (N:=536870912) oo oo oo oo oo;have h2:=mulB (x:=b.Y-a.Y) (y:=c.X-a.X) (M:=536870912) (N:=536870912) oo oo oo oo oo;unfold crs;omega
theorem Vb{a b c:Ac}(ha:okP a)(hb:okP b)(hc:okP c):Ni a b c=some (crs a b c):=by
 have h0:=Ha ha hb hc;unfold okP at ha hb hc;have h1:=mulB (x:=b.X-a.X) (y:=c.Y-a.Y) (M:=536870912) (N:=536870912) oo oo oo oo oo;have h2:=mulB (x:=b.Y-a.Y) (y:=c.X-a.X) (M:=536870912) (N:=536870912) oo oo oo oo oo;unfold Ni;unfold crs at h0 ⊢;rw[Av (x:=b.X-a.X) oo oo,Av (x:=c.Y-a.Y) oo oo,Av (x:=b.Y-a.Y) oo oo,Av (x:=c.X-a.X) oo oo,
  Av (x:=(b.X-a.X)*(c.Y-a.Y)) oo oo,Av (x:=(b.Y-a.Y)*(c.X-a.X)) oo oo,Av oo oo]
theorem Aet{p d:Ac}(hp:okP p)(hd:okP d):0<=lft p d/\lft p d<=576460752303423488:=by
 unfold okP at hp hd;have h1:=mulB (x:=p.X-d.X) (y:=p.X-d.X) (M:=536870912) (N:=536870912) oo oo oo oo oo;have h2:=mulB (x:=p.Y-d.Y) (y:=p.Y-d.Y) (M:=536870912) (N:=536870912) oo oo oo oo oo;have h3:0<=(p.X-d.X)*(p.X-d.X):=by rw[<- Int.natAbs_mul_self];omega
 have h4:0<=(p.Y-d.Y)*(p.Y-d.Y):=by rw[<- Int.natAbs_mul_self];omega
 unfold lft;omega
theorem Ac9{p d:Ac}(hp:okP p)(hd:okP d):Tz p d=some (lft p d):=by
 have h0:=Aet hp hd;unfold okP at hp hd;have h1:=mulB (x:=p.X-d.X) (y:=p.X-d.X) (M:=536870912) (N:=536870912) oo oo oo oo oo;have h2:=mulB (x:=p.Y-d.Y) (y:=p.Y-d.Y) (M:=536870912) (N:=536870912) oo oo oo oo oo;unfold Tz;unfold lft at h0 ⊢;rw[Av (x:=p.X-d.X) oo oo,Av (x:=p.Y-d.Y) oo oo,
  Av (x:=(p.X-d.X)*(p.X-d.X)) oo oo,Av (x:=(p.Y-d.Y)*(p.Y-d.Y)) oo oo,Av oo oo]
theorem Apq(z:Int):Mq z=some (Int.sign z):=by
 unfold Mq
 by_cases h:z<0
 ·rw[if_pos h,Int.sign_eq_neg_one_of_neg h]
 ·rw[if_neg h]
  by_cases h2:0<z
  ·rw[if_pos h2,Int.sign_eq_one_of_pos h2]
  ·rw[if_neg h2,show z=0 by omega];rfl
theorem Atk(a b c:Ac):Vt a b c=some (if okP a/\okP b/\okP c then (Int.sign (crs a b c),0) else (0,11)):=by
 unfold Vt;rw[Al7 _ s_,Ae]
 by_cases h:okP a/\okP b/\okP c
 ·rw[if_pos (by simp[h]),Vb h.1 h.2.1 h.2.2,Ae,Apq,Ae,if_pos h]
 ·rw[if_neg (by simpa[and_assoc] using h),if_neg h]
theorem turn_eq{a b c:Ac}(ha:okP a)(hb:okP b)(hc:okP c):Sq a b c=some (Int.sign (crs a b c)):=by
 unfold Sq;rw[Atk,if_pos ⟨ha,hb,hc⟩];rfl
theorem dig3{z:Int}(h1:-9223372036854775808<=z)(h2:z<=9223372036854775807):(dig 4294967296 z.natAbs).length<=2:=Asw oo 2 _ (by
 have:(4294967296:Nat) ^ 2=18446744073709551616:=dD;omega)
theorem dig5{z:Int}(h1:-10000000000000000000000000000000000000<=z)(h2:z<=10000000000000000000000000000000000000):(dig 4294967296 z.natAbs).length<=4:=Asw oo 4 _ (by
 have:(4294967296:Nat) ^ 4=340282366920938463463374607431768211456:=dD;omega)
theorem Ann{u v:Int}(hu1:-576460752303423488<=u)(hu2:u<=576460752303423488)(hv1:-576460752303423488<=v)(hv2:v<=576460752303423488):
  ∃ n m k,Mn u=some n/\Mn v=some m/\Kd n m=some k/\Acq k (u*v)/\-332306998946228968225951765070086144<=u*v/\u*v<=332306998946228968225951765070086144:=by
 obtain⟨n,h1,h2⟩:=Ayx (z:=u) oo oo;obtain⟨m,h3,h4⟩:=Ayx (z:=v) oo oo;have d1:=dig3 (z:=u) oo oo;have d2:=dig3 (z:=v) oo oo;obtain⟨k,h5,h6⟩:=Beb h2 h4 oo;have:=mulB (x:=u) (y:=v) (M:=576460752303423488) (N:=576460752303423488) oo oo oo oo oo;exact⟨n,m,k,h1,h3,h5,h6,oo,oo⟩
theorem Au5(a b c d:Ac):Ve a b c d=some (if okP a/\okP b/\okP c/\okP d then if crs a b c=0 then (0,12) else (Int.sign (crs a b c)*Int.sign (inC a b c d),0) else (0,11)):=by
 unfold Ve;rw[Al7 _ s_,Ae]
 by_cases h:okP a/\okP b/\okP c/\okP d
 ·obtain⟨ha,hb,hc,hd⟩:=h;rw[if_pos (by simp[ha,hb,hc,hd]),if_pos ⟨ha,hb,hc,hd⟩,Vb ha hb hc,Ae,Apq,Ae]
  by_cases h0:crs a b c=0
  ·rw[if_pos (by rw[h0];rfl),if_pos h0]
  ·rw[if_neg (by rwa [Int.sign_eq_zero_iff_zero]),if_neg h0];try rw[jn_d]
   have l1:=Aet ha hd;have l2:=Aet hb hd;have l3:=Aet hc hd;have c1:=Ha hd hb hc;have c2:=Ha hd hc ha;have c3:=Ha hd ha hb;obtain⟨n1,m1,k1,e1,e2,e3,i1,b1,b2⟩:=Ann (u:=lft a d) (v:=crs d b c) oo oo oo oo;obtain⟨n2,m2,k2,e4,e5,e6,i2,b3,b4⟩:=Ann (u:=lft b d) (v:=crs d c a) oo oo oo oo;obtain⟨n3,m3,k3,e7,e8,e9,i3,b5,b6⟩:=Ann (u:=lft c d) (v:=crs d a b) oo oo oo oo;have q1:=dig5 (z:=lft a d*crs d b c) oo oo;have q2:=dig5 (z:=lft b d*crs d c a) oo oo;have q3:=dig5 (z:=lft c d*crs d a b) oo oo;have q4:=dig5 (z:=lft a d*crs d b c+lft b d*crs d c a) oo oo;obtain⟨s1,f1,g1⟩:=Ayy i1 i2 oo oo;obtain⟨s2,f2,g2⟩:=Ayy g1 i3 oo oo;simp only[Ac9 ha hd,Ac9 hb hd,Ac9 hc hd,Vb hd hb hc,Vb hd hc ha,Vb hd ha hb,Ae,e1,e2,e3,e4,e5,e6,e7,e8,e9];try rw[show (⟨k1.neg,k1.n,k1.d⟩:By)=k1 from rfl]
   rw[f1,Ae,f2,Ae,Bbe g2,Ae,Av]
   ·rfl
   ·rcases Int.sign_trichotomy (crs a b c) with h | h | h <;> rcases Int.sign_trichotomy (lft a d*crs d b c+lft b d*crs d c a+lft c d*crs d a b) with h' | h' | h' <;> simp[h,h']
   ·rcases Int.sign_trichotomy (crs a b c) with h | h | h <;> rcases Int.sign_trichotomy (lft a d*crs d b c+lft b d*crs d c a+lft c d*crs d a b) with h' | h' | h' <;> simp[h,h']
 ·rw[if_neg (by simpa[and_assoc] using h),if_neg h]
theorem Wy:Mr prog 22 108 4:=.mk underlying22 (show prog.info? 108=some t108 from by kernel_rfl) kr
instance:Ph prog 22 108 4:=⟨Wy⟩
instance:Ud prog 108 [iq 0,iq 0,iq 0,iq 0]:=⟨⟨_,zeroValue108,rfl⟩⟩
instance:Ph prog 24 103 2:=⟨.mk underlying24 (show prog.info? 103=some t103 from by kernel_rfl) kr⟩
theorem Sa:Mr prog 42 3 1:=.mk underlying42 (show prog.info? 3=some Tryz.t3 from by kernel_rfl) kr
instance:Ph prog 42 3 1:=⟨Sa⟩
theorem Tx:Ag0 prog 101 3 1:=.mk underlying101 (show prog.info? 3=some Tryz.t3 from by kernel_rfl) kr
instance:ArrI prog 101 3 1:=⟨Tx⟩
theorem Yd:Vf prog 22:=.mk underlying22 rfl (show prog.info? 22=some Tryz.t22 from by kernel_rfl) kr
instance:OneI prog 22:=⟨Yd⟩
instance:UndI prog 22 (.slice 108):=⟨underlying22⟩
instance:UndI prog 203 (.map 57 4):=⟨underlying203⟩
noncomputable def Ko(p0:List Ad):Int->Option (Sum Int (Sum Unit Int)):=fun s0=>
 if s0<(p0.length:Int) then (bnd (idx p0 s0) fun x0=>
 bnd (Aah x0) fun r0=>
 if r0=true then (some (.inl (w64 (s0+1))))
 else (some (.inr (.inr 60))))
 else (some (.inr (.inl ())))
noncomputable def Re(p0:List Ad):((List (Ac × Bool)) × Int)->Option (Sum ((List (Ac × Bool)) × Int) (Sum Unit Int)):=fun s0=>
 if s0.2<(p0.length:Int) then (bnd (idx p0 s0.2) fun x0=>
 bnd (Oa x0) fun r0=>
 gd ((-9223372036854775808<=r0.X/\r0.X<=9223372036854775807)/\(-9223372036854775808<=r0.Y/\r0.Y<=9223372036854775807))<|
 bnd (some ((mget s0.1 r0).getD false)) fun x1=>
 if x1=true then (some (.inr (.inr 61)))
 else (bnd (Oa x0) fun r1=>
 gd ((-9223372036854775808<=r1.X/\r1.X<=9223372036854775807)/\(-9223372036854775808<=r1.Y/\r1.Y<=9223372036854775807))<|
 gd (s0.1.length<9223372036854775807)<|
 some (.inl (mput s0.1 r1 true,w64 (s0.2+1)))))
 else (some (.inr (.inl ())))
noncomputable def Tg(p0:List Ad):Option Int :=
 if 1024<(p0.length:Int) then (some 2)
 else (jn (fun (s5:Unit)=>
 jn (fun (s0:Unit)=>
 some 0)
 (fun j0=>bnd (lfix (Re p0) (([]:List (Ac × Bool)),0)) fun t0=>
 (match t0 with
 | (.inl z0)=>j0 z0
 | (.inr z0)=>some z0
 )))
 (fun j5=>bnd (lfix (Ko p0) 0) fun t1=>
 (match t1 with
 | (.inl z1)=>j5 z1
 | (.inr z1)=>some z1
 )))
def Ak(x:Ad):List Value:=[iq x.X,iq x.Y,iq x.Z.Lo,iq x.Z.Hi]
instance(x0:Int)(x1:Int)(x2:Int)(x3:Int):DecI Ak [iq x0,iq x1,iq x2,iq x3] (⟨x0,x1,⟨x2,x3⟩⟩):=⟨rfl⟩
instance:EncI 108 Ak:=⟨trivial⟩
def An(x:Ab):Value:=.agg #[iq x.a0,iq x.a1]
theorem Dk(x y:Ab)(h:An x=An y):x=y:=by
 rcases x with⟨_,_⟩;rcases y with⟨_,_⟩;simp[An] at h;simp[h]
instance(x:Ab):UnfI An x (.agg #[iq x.a0,iq x.a1]):=⟨rfl⟩
instance(x0:Int)(x1:Int):Ab4 An (.agg #[iq x0,iq x1]) (⟨x0,x1⟩):=⟨rfl⟩
instance:ValI prog 103 An ((⟨0,0⟩:Ab)):=⟨Dk,fun w=>kr⟩
theorem Bbf:(match prog.underlying 103 with | some (.array _ _) | some (.struct _)=>true | _=>false)=true:=kr
theorem Ye:Maps.Keyed prog 103:=Maps.Keyed.of_law (deep_law_laid Aol (m:=3) oo (of_decide_eq_true kr) kr Bbf)
theorem Akg(x:Ab)(h:(-9223372036854775808<=x.a0/\x.a0<=9223372036854775807)/\(-9223372036854775808<=x.a1/\x.a1<=9223372036854775807)):(keyOf prog 103 (An x)).isSome=true:=by
 refine Atx (zs:=[x.a0,x.a1]) (d:=333) kr underlying103 kr rfl underlying3 kr kr (fun z hz=>?_);simp only[List.mem_cons,List.not_mem_nil,or_false] at hz;rcases hz with rfl | rfl
 ·exact Ajo h.1
 ·exact Ajo h.2
instance:KeyI prog 103 An (fun x=>(-9223372036854775808<=x.a0/\x.a0<=9223372036854775807)/\(-9223372036854775808<=x.a1/\x.a1<=9223372036854775807)):=⟨Ye,Dk,Akg⟩
instance:UndI prog 154 (.map 103 4):=⟨underlying154⟩
instance:UndI prog 24 (.slice 103):=⟨underlying24⟩
def Ar(x:Ab):List Value:=[iq x.a0,iq x.a1]
instance(x0:Int)(x1:Int):DecI Ar [iq x0,iq x1] (⟨x0,x1⟩):=⟨rfl⟩
instance:EncI 103 Ar:=⟨trivial⟩
noncomputable def Ty(p1:List Ab):((List (Ab × Bool)) × Int)->Option (Sum ((List (Ab × Bool)) × Int) Unit):=fun s6=>
 if s6.2<(p1.length:Int) then none
 else (some (.inr ()))
noncomputable def Su(p1:List Ab):Int->Option (Sum Int Unit):=fun s0=>
 if s0<(p1.length:Int) then none
 else (some (.inr ()))
noncomputable def Qo(p0:List Ad)(p1:List Ab):Option Int :=
 jn (fun (s3:Unit)=>
 jn (fun (s9:Unit)=>
 some 0)
 (fun j9=>bnd (lfix (Su p1) 0) fun t0=>
 j9 t0))
 (fun j3=>bnd (lfix (Ty p1) (([]:List (Ab × Bool)),0)) fun t6=>
 j3 t6)
noncomputable def Sb(p0:Int):Option Bool :=
 some (!(decide (p0=p0)))
noncomputable def Oy(p0:Int)(p1:Int):Option Int :=
 bnd (Sb p0) fun r1=>
 bnd (Sb p1) fun r4=>
 if r1=true then (if r4=true then (some 0)
 else (some (-1)))
 else (if r4=true then (some 1)
 else (if p0<p1 then (some (-1))
 else (if p1<p0 then (some 1)
 else (some 0))))
instance:UndI prog 42 (.slice 3):=⟨underlying42⟩
noncomputable def Bx(p0:List Int)(p1:List Int):Int->Option (Sum Int (Sum Unit Int)):=fun s0=>
 if s0<(p0.length:Int) then (bnd (idx p0 s0) fun x0=>
 if (p1.length:Int)<=s0 then (some (.inr (.inr 1)))
 else (bnd (idx p1 s0) fun x1=>
 bnd (Oy x0 x1) fun r0=>
 if r0=0 then (some (.inl (w64 (s0+1))))
 else (some (.inr (.inr r0)))))
 else (some (.inr (.inl ())))
noncomputable def Hc(p0:List Int)(p1:List Int):Option Int :=
 jn (fun (s2:Unit)=>
 if (p0.length:Int)<(p1.length:Int) then (some (-1))
 else (some 0))
 (fun j2=>bnd (lfix (Bx p0 p1) 0) fun t0=>
 (match t0 with
 | (.inl z0)=>j2 z0
 | (.inr z0)=>some z0
 ))
structure Ah where
 a0:Int
 a1:Int
 a2:Int
noncomputable def Fj(p0:Ah)(p1:Ah):Option Int :=
 bnd (Hc ([p0.a0,p0.a1,p0.a2]) ([p1.a0,p1.a1,p1.a2])) fun r5=>
 some r5
noncomputable def Xd(p0:Int)(p1:Int)(p2:List Ad):Option Int :=
 bnd (idx p2 p0) fun x1=>
 bnd (idx p2 p1) fun x0=>
 bnd (Oa x1) fun r0=>
 bnd (Oa x0) fun r1=>
 bnd (Ke r0 r1) fun r2=>
 if r2=true then (some (-1))
 else (bnd (idx p2 p1) fun x2=>
 bnd (idx p2 p0) fun x3=>
 bnd (Oa x2) fun r3=>
 bnd (Oa x3) fun r4=>
 bnd (Ke r3 r4) fun r5=>
 if r5=true then (some 1)
 else (some 0))
def Ax(x:Ah):List Value:=[iq x.a0,iq x.a1,iq x.a2]
instance(x0:Int)(x1:Int)(x2:Int):DecI Ax [iq x0,iq x1,iq x2] (⟨x0,x1,x2⟩):=⟨rfl⟩
instance:EncI 101 Ax:=⟨trivial⟩
instance(p0:List Ad):Con (Tg p0) prog 123 (fun K vs=>∃ E0 G0,vs=[.slice E0 p0.length G0]/\Has K E0 p0.length G0 4 Ak p0/\True) (fun _ r=>fun v Ln=>v = iq r/\Ln=[]/\True):=⟨by
 rintro K _ r ⟨E0,G0,rfl,ha0,-⟩ hx w hK;replace ha0:=Has.lo ha0 hK;unfold Tg at hx;refine CtS ntmps123 results123 ?_;try (refine pre ?_;intros;rename_i hx)
 refine Cq1 (s:=10) hx rfl (fun _ hx=>?_) (fun _ hx=>?_)
 ·exact au
 ·try (refine pre ?_;intros;rename_i hx)
  apply Jr (γ:=Unit) hx [0] (fun s5 y5 f=>f) [999] (fun s5 y5 l=>l);exact kk
  ·intro s5 y5 hx;try (refine pre ?_;intros;rename_i hx)
   refine Bh ?_;try (refine pre ?_;intros;rename_i hx)
   apply Jr (γ:=Unit) hx [] (fun s0 y0 f=>f) [999] (fun s0 y0 l=>l);exact kk
   ·intro s0 y0 hx;exact au
   ·intro _ hx;try (refine pre ?_;intros;rename_i hx)
    apply Lr (γ:=Nat) hx [22,23] (fun s1 y1 f=>(5,.map (some y1))::(24,iq s1.2)::f) [999] (fun s1 y1 l=>Bb prog 57 Eo Bu y1 s1.1::l) _;exact kk;exact sk;intro s1 y1 x0 hx _;unfold Re at hx;exact au
  ·intro _ hx;try (refine pre ?_;intros;rename_i hx)
   apply Lr (γ:=Unit) hx [0,11,12] (fun s2 y2 f=>(13,iq s2)::f) [999] (fun s2 y2 l=>l) ();exact kk;exact sk;intro s2 y2 x1 hx _;unfold Ko at hx;exact au⟩
instance(p0:List Ad)(p1:List Ab):Con (Qo p0 p1) prog 124 (fun K vs=>∃ E0 G0 E1 G1,vs=[.slice E0 p0.length G0,.slice E1 p1.length G1]/\Has K E0 p0.length G0 4 Ak p0/\Has K E1 p1.length G1 2 Ar p1/\True) (fun _ r=>fun v Ln=>v = iq r/\Ln=[]/\True):=⟨by
 rintro K _ r ⟨E0,G0,E1,G1,rfl,ha0,ha1,-⟩ hx w hK;replace ha0:=Has.lo ha0 hK;replace ha1:=Has.lo ha1 hK;unfold Qo at hx;refine CtS ntmps124 results124 ?_;try (refine pre ?_;intros;rename_i hx)
 refine Bh ?_;try (refine pre ?_;intros;rename_i hx)
 refine Bh ?_;try (refine pre ?_;intros;rename_i hx)
 apply Jr (γ:=Unit) hx [0,1] (fun s3 y3 f=>f) [999] (fun s3 y3 l=>l);exact kk
 ·intro s3 y3 hx;apply Jr (γ:=Unit) hx [] (fun s9 y9 f=>f) [999] (fun s9 y9 l=>l);exact kk
  ·intro s9 y9 hx;exact au
  ·intro _ hx;try (refine pre ?_;intros;rename_i hx)
   apply Lr (γ:=Unit) hx [0,1,66,67] (fun s0 y0 f=>(68,iq s0)::f) [999] (fun s0 y0 l=>l) ();exact kk;exact sk;intro s0 y0 x0 hx _;unfold Su at hx;exact au
 ·intro _ hx;try (refine pre ?_;intros;rename_i hx)
  apply Lr (γ:=Nat) hx [0,1,15,16] (fun s6 y6 f=>(5,.map (some y6))::(17,iq s6.2)::f) [999] (fun s6 y6 l=>Bb prog 103 An Bu y6 s6.1::l) _;exact kk;exact sk;intro s6 y6 x6 hx _;unfold Ty at hx;exact au⟩
instance(p0:Int):Con (Sb p0) prog 265 (fun _ vs=>vs=[iq p0]) (fun _ r=>fun v Ln=>v = .bool r/\Ln=[]/\True):=⟨by
 rintro _ _ r rfl hx w hK;unfold Sb at hx;refine CtS ntmps265 results265 ?_;exact au⟩
instance(p0:Int)(p1:Int):Con (Oy p0 p1) prog 238 (fun _ vs=>vs=[iq p0,iq p1]) (fun _ r=>fun v Ln=>v = iq r/\Ln=[]/\True):=⟨by
 rintro _ _ r rfl hx w hK;unfold Oy at hx;refine CtS ntmps238 results238 ?_;exact au⟩
instance(p0:List Int)(p1:List Int):Con (Hc p0 p1) prog 190 (fun K vs=>∃ E0 G0 E1 G1,vs=[.slice E0 p0.length G0,.slice E1 p1.length G1]/\Has K E0 p0.length G0 1 Af p0/\Has K E1 p1.length G1 1 Af p1/\True) (fun _ r=>fun v Ln=>v = iq r/\Ln=[]/\True):=⟨by
 rintro K _ r ⟨E0,G0,E1,G1,rfl,ha0,ha1,-⟩ hx w hK;replace ha0:=Has.lo ha0 hK;replace ha1:=Has.lo ha1 hK;unfold Hc at hx;refine CtS ntmps190 results190 ?_;try (refine pre ?_;intros;rename_i hx)
 refine Bh ?_;try (refine pre ?_;intros;rename_i hx)
 apply Jr (γ:=Unit) hx [0,1] (fun s2 y2 f=>f) [999] (fun s2 y2 l=>l);exact kk
 ·intro s2 y2 hx;exact au
 ·intro _ hx;try (refine pre ?_;intros;rename_i hx)
  apply Lr (γ:=Unit) hx [0,1,9,10] (fun s0 y0 f=>(11,iq s0)::f) [999] (fun s0 y0 l=>l) ();exact kk;exact sk;intro s0 y0 x0 hx _;unfold Bx at hx;exact au⟩
instance Yf(p0:Ah)(p1:Ah):Con (Fj p0 p1) prog 189 (fun _ vs=>vs=[.agg #[iq p0.a0,iq p0.a1,iq p0.a2],.agg #[iq p1.a0,iq p1.a1,iq p1.a2]]) (fun _ r=>fun v Ln=>v = iq r/\Ln=[]/\True):=⟨by
 rintro _ _ r rfl hx w hK;unfold Fj at hx;have:=dl 1 [0,0,2,2] [0,1,2,3];refine CtS ntmps189 results189 ?_;exact au⟩
theorem Xe(p0:Ah)(p1:Ah){r:Int}(hx:Fj p0 p1=some r)(w:World):CtL prog 189 [.agg #[iq p0.a0,iq p0.a1,iq p0.a2],.agg #[iq p1.a0,iq p1.a1,iq p1.a2]] w fun v Ln=>v = iq r/\Ln=[]/\True:=(Yf p0 p1).h [] _ _ rfl hx w (fun _ h=>absurd h List.not_mem_nil)
theorem Ah1(p0:Int)(p1:Int)(p2:List Ad){K:List Ent}{E0:Option Addr}{G0:Nat}(ha0:Has K E0 p2.length G0 4 Ak p2){g0_2:Nat}(hp2:Pt K g0_2 0 [.slice E0 p2.length G0]){r:Int}(hx:Xd p0 p1 p2=some r)(w:World)(hK:∀ e∈K,Ent.ok w e):CtL prog 183 [iq p0,iq p1,.pointer (some ⟨g0_2,0,none⟩)] w fun v Ln=>v = iq r/\Ln=[]/\True:=by
 have ha0':=Has.up0 ha0;have hp2':=Pt.low (E:=[]) (Pt.up0 hp2) hK;refine CtL.mk 28 func183 rfl ntmps183 kr rfl ?_;show T 28 _ [(0,iq p0),(1,iq p1),(2,.pointer (some ⟨g0_2,0,none⟩))] _;unfold Xd at hx;refine Y7 ?_;refine T_dr [1,0,0,1,2,1,0,0,1,2,2] (.q 0 (.q 1 (.q 2 (.q 3 (.q 5 (.q 6 (.q 7 (.q 8 (.e 4 (.e 9 (.e 10 (.done) (.stop)) (.stop)) (.stop)))))))))) mixed kr kr ?_;refine P_q rfl rfl (Ch rfl hp2' (sb 0) rfl Yd) rfl ?_;refine Y ?_;obtain⟨x1,h2,hx3⟩:=Ao hx;refine P_il (Has.low (E:=[]) ha0' hK) h2 Wy Aez (sb 0) (fun b4 o5=>?_);refine P_q rfl rfl (Ch rfl hp2' (sb 0) rfl Yd) rfl ?_;refine Y ?_;obtain⟨x0,h0,hx0⟩:=Ao hx3;refine P_il (Has.low (E:=[]) ha0' hK) h0 Wy Aez (sb 0) (fun b0 o0=>?_);obtain⟨r0,h1,hx1⟩:=Ao hx0;refine Pc (fun w1 hw1=>Abf x1  h1 w1) ?_;obtain⟨r1,h3,hx2⟩:=Ao hx1;refine Pc (fun w1 hw1=>Abf x0  h3 w1) ?_;obtain⟨r2,h4,hx4⟩:=Ao hx2;refine Pc (fun w1 hw1=>Acu r0 r1  h4 w1) ?_;refine Y2 ?_;refine Jv (s:=16) rfl (fun h5=>?_) (fun h5=>?_)
 ·have hx5:=Io h5 hx4;refine Y8 ?_;obtain rfl:=Option.some.inj hx5;exact Df (rs:=[.tmp 5]) results183 (.tmp rfl (.nil)) (Ln:=[]) ⟨rfl,rfl,trivial⟩ Cr (by exact .refl)
 ·have hx6:=Nn h5 hx4;refine Y5 ?_;refine T_dr [1,0,0,1,2,1,0,0,1,2,2] (.q 0 (.q 1 (.q 2 (.q 3 (.q 5 (.q 6 (.q 7 (.q 8 (.e 4 (.e 9 (.e 10 (.done) (.stop)) (.stop)) (.stop)))))))))) mixed kr kr ?_;refine P_q rfl rfl (Ch rfl hp2' (sb 0) rfl Yd) rfl ?_;refine Y ?_;obtain⟨x2,h6,hx7⟩:=Ao hx6;refine P_il (Has.low (E:=[]) ha0' hK) h6 Wy Aez (sb 0) (fun b1 o1=>?_);refine P_q rfl rfl (Ch rfl hp2' (sb 0) rfl Yd) rfl ?_;refine Y ?_;obtain⟨x3,h7,hx8⟩:=Ao hx7;refine P_il (Has.low (E:=[]) ha0' hK) h7 Wy Aez (sb 0) (fun b2 o2=>?_);obtain⟨r3,h8,hx9⟩:=Ao hx8;refine Pc (fun w1 hw1=>Abf x2  h8 w1) ?_;obtain⟨r4,h9,hx62⟩:=Ao hx9;refine Pc (fun w1 hw1=>Abf x3  h9 w1) ?_;obtain⟨r5,h64,hx65⟩:=Ao hx62;refine Pc (fun w1 hw1=>Acu r3 r4  h64 w1) ?_;refine Y2 ?_;refine Jv (s:=27) rfl (fun h66=>?_) (fun h66=>?_)
  ·have hx67:=Io h66 hx65;refine Y8 ?_;obtain rfl:=Option.some.inj hx67;exact Df (rs:=[.tmp 5]) results183 (.tmp rfl (.nil)) (Ln:=[]) ⟨rfl,rfl,trivial⟩ Cr (by exact .refl)
  ·have hx68:=Nn h66 hx65;refine Y9 ?_;obtain rfl:=Option.some.inj hx68;exact Df (rs:=[.tmp 5]) results183 (.tmp rfl (.nil)) (Ln:=[]) ⟨rfl,rfl,trivial⟩ Cr (by exact .refl)
instance:Bz prog 156 0 0:=⟨.mk underlying156 rfl rfl (show prog.info? 22=some Tryz.t22 from by kernel_rfl) (show Tryz.t22.size=1 from by kernel_rfl) rfl⟩
theorem Aaf:Hb prog 156 1 1:=.mk underlying156 rfl rfl (show prog.info? 153=some t153 from by kernel_rfl) (show t153.size=1 from by kernel_rfl) rfl
instance:Bz prog 156 1 1:=⟨Aaf⟩
theorem Agu:Vf prog 153:=.mk underlying153 rfl (show prog.info? 153=some t153 from by kernel_rfl) kr
instance:OneI prog 153:=⟨Agu⟩
structure Am where
 v:List Ad
 apex:List (Ab × Int)
 fixed:List (Ab × Bool)
noncomputable def Bk(p0:Am)(p1:Int):Option Ac :=
 bnd (idx p0.v p1) fun x2=>
 bnd (Oa x2) fun r0=>
 some r0
instance:UndI prog 153 (.map 103 3):=⟨underlying153⟩
noncomputable def Ek(p0:Am)(p1:Int)(p2:Int)(p3:Int):Option Am :=
 gd ((-9223372036854775808<=p1/\p1<=9223372036854775807)/\(-9223372036854775808<=p2/\p2<=9223372036854775807))<|
 gd (p0.apex.length<9223372036854775807)<|
 gd ((-9223372036854775808<=p2/\p2<=9223372036854775807)/\(-9223372036854775808<=p3/\p3<=9223372036854775807))<|
 gd ((mput p0.apex ((⟨p1,p2⟩:Ab)) p3).length<9223372036854775807)<|
 gd ((-9223372036854775808<=p3/\p3<=9223372036854775807)/\(-9223372036854775808<=p1/\p1<=9223372036854775807))<|
 gd ((mput (mput p0.apex ((⟨p1,p2⟩:Ab)) p3) ((⟨p2,p3⟩:Ab)) p1).length<9223372036854775807)<|
 some (⟨p0.v,mput (mput (mput p0.apex ((⟨p1,p2⟩:Ab)) p3) ((⟨p2,p3⟩:Ab)) p1) ((⟨p3,p1⟩:Ab)) p2,p0.fixed⟩:Am)
noncomputable def Kq(p0:Am)(p1:Int)(p2:Int)(p3:Int):Option Am :=
 gd ((-9223372036854775808<=p1/\p1<=9223372036854775807)/\(-9223372036854775808<=p2/\p2<=9223372036854775807))<|
 gd ((-9223372036854775808<=p2/\p2<=9223372036854775807)/\(-9223372036854775808<=p3/\p3<=9223372036854775807))<|
 gd ((-9223372036854775808<=p3/\p3<=9223372036854775807)/\(-9223372036854775808<=p1/\p1<=9223372036854775807))<|
 some (⟨p0.v,mdel (mdel (mdel p0.apex ((⟨p1,p2⟩:Ab))) ((⟨p2,p3⟩:Ab))) ((⟨p3,p1⟩:Ab)),p0.fixed⟩:Am)
noncomputable def Jc(p0:Am)(p1:Int)(p2:Int):Option (Am × Bool):=
 gd ((-9223372036854775808<=p1/\p1<=9223372036854775807)/\(-9223372036854775808<=p2/\p2<=9223372036854775807))<|
 bnd (some ((mget p0.apex ((⟨p1,p2⟩:Ab))).getD 0)) fun x3=>
 gd ((-9223372036854775808<=p2/\p2<=9223372036854775807)/\(-9223372036854775808<=p1/\p1<=9223372036854775807))<|
 bnd (some ((mget p0.apex ((⟨p2,p1⟩:Ab))).getD 0)) fun x8=>
 jn (fun (s5:Bool)=>
 if s5=true then (some (p0,false))
 else (bnd (Kq p0 p1 p2 x3) fun r0=>
 bnd (Kq r0 p2 p1 x8) fun r1=>
 bnd (Ek r1 p1 x8 x3) fun r2=>
 bnd (Ek r2 p2 x3 x8) fun r3=>
 some (r3,true)))
 (fun j5=>if ((mget p0.apex ((⟨p1,p2⟩:Ab))).isSome)=true then (if ((mget p0.apex ((⟨p2,p1⟩:Ab))).isSome)=true then (bnd (Bk p0 x3) fun r4=>
 bnd (Bk p0 x8) fun r5=>
 bnd (Bk p0 p1) fun r6=>
 bnd (Sq r4 r5 r6) fun r7=>
 bnd (Bk p0 x3) fun r8=>
 bnd (Bk p0 x8) fun r9=>
 bnd (Bk p0 p2) fun r35=>
 bnd (Sq r8 r9 r35) fun r38=>
 j5 (decide (0<=(w64 (r7*r38)))))
 else (j5 true))
 else (j5 true))
instance(p0:Am)(p1:Int):Con (Bk p0 p1) prog 179 (fun K vs=>∃ g0_0 gm0_0 gm0_1 E0 G0,vs=[.pointer (some ⟨g0_0,0,none⟩),iq p1]/\Pt K g0_0 0 [.slice E0 p0.v.length G0,.map (some gm0_0),.map (some gm0_1)]/\Has K E0 p0.v.length G0 4 Ak p0.v/\True) (fun _ r=>fun v Ln=>v = .agg #[iq r.X,iq r.Y]/\Ln=[]/\True):=⟨by
 rintro K _ r ⟨g0_0,gm0_0,gm0_1,E0,G0,rfl,hp0,ha0,-⟩ hx w hK;replace hp0:=Pt.lo hp0 hK;replace ha0:=Has.lo ha0 hK;unfold Bk at hx;refine CtS ntmps179 results179 ?_;exact au⟩
instance(p0:Am)(p1:Int)(p2:Int)(p3:Int):ConK (Ek p0 p1 p2 p3) prog 180 (fun g0_0 gm0_0 gm0_1 E0 G0 ua0 uc0 vs Lp=>vs=[.pointer (some ⟨g0_0,0,none⟩),iq p1,iq p2,iq p3]/\Lp=[.m g0_0 156 [.slice E0 p0.v.length G0,.map (some gm0_0),.map (some gm0_1)],Bb prog 103 An Cs gm0_0 p0.apex,Bb prog 103 An Bu gm0_1 p0.fixed]/\ua0=none/\uc0=0/\True) (fun E0 G0 ua0 uc0 K K2=>Has K E0 p0.v.length G0 4 Ak p0.v/\True) (fun g0_0 gm0_0 gm0_1 E0 G0 ua0 uc0 K r=>fun v Ln=>∃ A0 c0,v = .tuple #[]/\Ln=[.m g0_0 156 [.slice A0 r.v.length c0,.map (some gm0_0),.map (some gm0_1)],Bb prog 103 An Cs gm0_0 r.apex,Bb prog 103 An Bu gm0_1 r.fixed]/\Has K A0 r.v.length c0 4 Ak r.v/\True):=⟨by
 rintro g0_0 gm0_0 gm0_1 E0 G0 _ _ K K2 _ _ r ⟨rfl,rfl,rfl,rfl,-⟩ ⟨ha0,-⟩ hx;unfold Ek at hx;refine CtSK ntmps180 results180 ?_;intro Lf hKf;have hKg:=hKf.r;replace hKf:=hKf.l;refine Aed ?_;exact au⟩
instance(p0:Am)(p1:Int)(p2:Int)(p3:Int):ConK (Kq p0 p1 p2 p3) prog 235 (fun g0_0 gm0_0 gm0_1 E0 G0 ua0 uc0 vs Lp=>vs=[.pointer (some ⟨g0_0,0,none⟩),iq p1,iq p2,iq p3]/\Lp=[.m g0_0 156 [.slice E0 p0.v.length G0,.map (some gm0_0),.map (some gm0_1)],Bb prog 103 An Cs gm0_0 p0.apex,Bb prog 103 An Bu gm0_1 p0.fixed]/\ua0=none/\uc0=0/\True) (fun E0 G0 ua0 uc0 K K2=>Has K E0 p0.v.length G0 4 Ak p0.v/\True) (fun g0_0 gm0_0 gm0_1 E0 G0 ua0 uc0 K r=>fun v Ln=>∃ A0 c0,v = .tuple #[]/\Ln=[.m g0_0 156 [.slice A0 r.v.length c0,.map (some gm0_0),.map (some gm0_1)],Bb prog 103 An Cs gm0_0 r.apex,Bb prog 103 An Bu gm0_1 r.fixed]/\Has K A0 r.v.length c0 4 Ak r.v/\True):=⟨by
 rintro g0_0 gm0_0 gm0_1 E0 G0 _ _ K K2 _ _ r ⟨rfl,rfl,rfl,rfl,-⟩ ⟨ha0,-⟩ hx;unfold Kq at hx;refine CtSK ntmps235 results235 ?_;intro Lf hKf;have hKg:=hKf.r;replace hKf:=hKf.l;refine Aed ?_;exact au⟩
instance(p0:Am)(p1:Int)(p2:Int):ConK (Jc p0 p1 p2) prog 186 (fun g0_0 gm0_0 gm0_1 E0 G0 ua0 uc0 vs Lp=>vs=[.pointer (some ⟨g0_0,0,none⟩),iq p1,iq p2]/\Lp=[.m g0_0 156 [.slice E0 p0.v.length G0,.map (some gm0_0),.map (some gm0_1)],Bb prog 103 An Cs gm0_0 p0.apex,Bb prog 103 An Bu gm0_1 p0.fixed]/\ua0=none/\uc0=0/\True) (fun E0 G0 ua0 uc0 K K2=>Has K E0 p0.v.length G0 4 Ak p0.v/\True) (fun g0_0 gm0_0 gm0_1 E0 G0 ua0 uc0 K r=>fun v Ln=>∃ A0 c0,v = .bool r.2/\Ln=[.m g0_0 156 [.slice A0 r.1.v.length c0,.map (some gm0_0),.map (some gm0_1)],Bb prog 103 An Cs gm0_0 r.1.apex,Bb prog 103 An Bu gm0_1 r.1.fixed]/\Has K A0 r.1.v.length c0 4 Ak r.1.v/\True):=⟨by
 rintro g0_0 gm0_0 gm0_1 E0 G0 _ _ K K2 _ _ r ⟨rfl,rfl,rfl,rfl,-⟩ ⟨ha0,-⟩ hx;unfold Jc at hx;refine CtSK ntmps186 results186 ?_;intro Lf hKf;have hKg:=hKf.r;replace hKf:=hKf.l;refine Aed ?_;try (refine pre ?_;intros;rename_i hx)
 refine Bh ?_;try (refine pre ?_;intros;rename_i hx)
 apply Jr (γ:=Unit) hx [0,1,2,7,9] (fun s5 y5 f=>(62,.bool s5)::f) [0,1,2,1003] (fun s5 y5 l=>l);exact kk
 ·intro s5 y5 hx;exact au
 ·intro _ hx;exact au⟩
end Go.Proofs.YthlkpgdfifnagaaGreat
namespace Go.Proofs.YthlkpgdfifnagaaGreat
open Go Go.RowKit Go.Shelf Go.Lib Go.Sort Tryz
theorem Ada{P:Program}{f:FuncId}(h:Wo P f):∀ (args:Array Value) (w:World),(callFunc f args).run P w = .ok (.enter f args) w:=by
 obtain⟨fn,h1,h2,h3⟩:=h;obtain⟨c,hc⟩:∃ c,fn.body=some c:=by cases hb:fn.body with
  | none=>rw[hb] at h3;cases h3
  | some c=>exact⟨c,rfl⟩
 exact enters_of h1 h2 hc
def Ano(z:Int):Prop:=-1000000000000<=z/\z<=1000000000000
instance(z:Int):Decidable (Ano z):=by unfold Ano;infer_instance
def Qy(x:Ab):Prop:=Ano x.a0/\Ano x.a1
instance(x:Ab):Decidable (Qy x):=by unfold Qy;infer_instance
def cmp2(x y:Ab):Int:=if x.a0=y.a0 then x.a1-y.a1 else x.a0-y.a0
theorem Adb(x y:Ab):cmp2 x y<0↔x.a0<y.a0\/x.a0=y.a0/\x.a1<y.a1:=by unfold cmp2;split <;> omega
theorem tot2:Aal Qy cmp2 where
 irr x _:=by rw[Adb];omega
 trans x y z _ _ _ h1 h2:=by rw[Adb] at *;omega
 tot x y _ _ h1 h2:=by
  rw[Adb] at h1 h2;obtain⟨x0,x1⟩:=x;obtain⟨y0,y1⟩:=y;simp only at h1 h2;rw[show x0=y0 by omega,show x1=y1 by omega]
theorem Agv{x y:Ab}(hx:Qy x)(hy:Qy y):Yi x y=some (cmp2 x y):=by
 obtain⟨⟨_,_⟩,_,_⟩:=hx;obtain⟨⟨_,_⟩,_,_⟩:=hy;unfold Yi cmp2;split <;> (rw[Av oo oo])
theorem Aeu(l:List Ab)(hb:l.length<=1000000000)(hp:∀ x∈l,Qy x){A:Option Addr}{m c:Nat}{t:TypeId}{gf:Nat}{cb:Array Value}(w:World)(hok:Ent.ok w (.r A m c t 2 (l.flatMap Ar)))(hcmp:Adu prog Qy cmp2 (fun x=>.agg #[iq x.a0,iq x.a1]) A m c t 2 gf cb w (l.flatMap Ar))(eg:Wo prog gf):Adt prog 176 A m c t 2 gf cb w (l.flatMap Ar) ((Bc cmp2 l).flatMap Ar):=
 Ae1 (ρ:=Tryz.laysSort2_ren) Tryz.laysSort2 (k:=2) isAgg103 sizeOf103 (enc:=Ar) (fun _=>rfl) dD (fun x v hv=>by simp[Ar] at hv;rcases hv with rfl | rfl <;> rfl) tot2 (Ada eg) l hb hp w hok hcmp
def Abd(x:Ah):Prop:=True
instance(x:Ah):Decidable (Abd x):=by unfold Abd;infer_instance
def cmpI(x y:Int):Int:=if x<y then -1 else if y<x then 1 else 0
theorem Atl(x y:Int):cmpI x y<0↔x<y:=by
 unfold cmpI;split
 ·omega
 ·split <;> omega
theorem Bbg(x y:Int):cmpI x y=0↔x=y:=by
 unfold cmpI;split
 ·omega
 ·split <;> omega
def cmp3(x y:Ah):Int:=if cmpI x.a0 y.a0=0 then if cmpI x.a1 y.a1=0 then cmpI x.a2 y.a2 else cmpI x.a1 y.a1 else cmpI x.a0 y.a0
theorem Adc(x y:Ah):cmp3 x y<0↔x.a0<y.a0\/x.a0=y.a0/\(x.a1<y.a1\/x.a1=y.a1/\x.a2<y.a2):=by
 unfold cmp3;simp only[Bbg];split
 ·split <;> rw[Atl] <;> omega
 ·rw[Atl];omega
theorem tot3:Aal Abd cmp3 where
 irr x _:=by rw[Adc];omega
 trans x y z _ _ _ h1 h2:=by rw[Adc] at *;omega
 tot x y _ _ h1 h2:=by
  rw[Adc] at h1 h2;obtain⟨x0,x1,x2⟩:=x;obtain⟨y0,y1,y2⟩:=y;simp only at h1 h2;rw[show x0=y0 by omega,show x1=y1 by omega,show x2=y2 by omega]
theorem Bbh(x y:Int):Oy x y=some (cmpI x y):=by
 unfold Oy Sb cmpI;simp only[bnd,decide_true,Bool.not_true,Bool.false_eq_true,if_false];split
 ·rfl
 ·split <;> rfl
theorem Anp{x y:Ah}(hx:Abd x)(hy:Abd y):Fj x y=some (cmp3 x y):=by
 obtain⟨x0,x1,x2⟩:=x;obtain⟨y0,y1,y2⟩:=y;unfold Fj Hc jn cmp3;simp only;have step:∀ i:Int,Bx [x0,x1,x2] [y0,y1,y2] i=if i<3 then bnd (idx [x0,x1,x2] i) fun a=>bnd (idx [y0,y1,y2] i) fun b=>if cmpI a b=0 then some (.inl (w64 (i+1))) else some (.inr (.inr (cmpI a b))) else some (.inr (.inl ())):=by
  intro i;unfold Bx;simp only[Bbh,List.length_cons,List.length_nil]
  by_cases h:i<3
  ·rw[if_pos oo,if_pos h];congr 1;funext a;rw[if_neg oo];rfl
  ·rw[if_neg oo,if_neg h]
 have w1:w64 (0+1)=1:=Av oo oo;have w2:w64 (1+1)=2:=Av oo oo;have w3:w64 (2+1)=3:=Av oo oo;have i0:∀ a b c:Int,idx [a,b,c] 0=some a:=fun _ _ _=>rfl
 have i1:∀ a b c:Int,idx [a,b,c] 1=some b:=fun _ _ _=>rfl
 have i2:∀ a b c:Int,idx [a,b,c] 2=some c:=fun _ _ _=>rfl
 have s0:Bx [x0,x1,x2] [y0,y1,y2] 0=if cmpI x0 y0=0 then some (.inl 1) else some (.inr (.inr (cmpI x0 y0))):=by rw[step,if_pos oo,w1];simp only[i0,bnd]
 have s1:Bx [x0,x1,x2] [y0,y1,y2] 1=if cmpI x1 y1=0 then some (.inl 2) else some (.inr (.inr (cmpI x1 y1))):=by rw[step,if_pos oo,w2];simp only[i1,bnd]
 have s2:Bx [x0,x1,x2] [y0,y1,y2] 2=if cmpI x2 y2=0 then some (.inl 3) else some (.inr (.inr (cmpI x2 y2))):=by rw[step,if_pos oo,w3];simp only[i2,bnd]
 have s3:Bx [x0,x1,x2] [y0,y1,y2] 3=some (.inr (.inl ())):=by rw[step,if_neg oo]
 rw[Ba,s0]
 by_cases h0:cmpI x0 y0=0
 ·rw[if_pos h0,if_pos h0];simp only;rw[Ba,s1]
  by_cases h1:cmpI x1 y1=0
  ·rw[if_pos h1,if_pos h1];simp only;rw[Ba,s2]
   by_cases h2:cmpI x2 y2=0
   ·rw[if_pos h2,h2];simp only;rw[Ba,s3];simp[bnd]
   ·rw[if_neg h2];simp[bnd]
  ·rw[if_neg h1,if_neg h1];simp[bnd]
 ·rw[if_neg h0,if_neg h0];simp[bnd]
theorem Ari(l:List Ah)(hb:l.length<=1000000000)(hp:∀ x∈l,Abd x){A:Option Addr}{m c:Nat}{t:TypeId}{gf:Nat}{cb:Array Value}(w:World)(hok:Ent.ok w (.r A m c t 3 (l.flatMap Ax)))(hcmp:Adu prog Abd cmp3 (fun x=>.agg #[iq x.a0,iq x.a1,iq x.a2]) A m c t 3 gf cb w (l.flatMap Ax))(eg:Wo prog gf):Adt prog 188 A m c t 3 gf cb w (l.flatMap Ax) ((Bc cmp3 l).flatMap Ax):=
 Ae1 (ρ:=Tryz.laysSort3_ren) Tryz.laysSort3 (k:=3) isAgg101 sizeOf101 (enc:=Ax) (fun _=>rfl) dD (fun x v hv=>by simp[Ax] at hv;rcases hv with rfl | rfl | rfl <;> rfl) tot3 (Ada eg) l hb hp w hok hcmp
def befV(a b:Ad):Prop:=a.X<b.X\/a.X=b.X/\a.Y<b.Y
instance(a b:Ad):Decidable (befV a b):=by unfold befV;infer_instance
def Aag(a b:Ad):Prop:=a.X=b.X/\a.Y=b.Y
instance(a b:Ad):Decidable (Aag a b):=by unfold Aag;infer_instance
def Fe(v:List Ad):Prop:=v.Pairwise fun a b=>¬ Aag a b
instance(v:List Ad):Decidable (Fe v):=by unfold Fe;infer_instance
def okIx(v:List Ad)(i:Int):Prop:=0<=i/\i<(v.length:Int)
instance(v:List Ad)(i:Int):Decidable (okIx v i):=by unfold okIx;infer_instance
def cmpR(v:List Ad)(i j:Int):Int:=match idx v i,idx v j with
 | some a,some b=>if befV a b then -1 else if befV b a then 1 else 0
 | _,_=>0
theorem Lw{v:List Ad}{i:Int}(h:okIx v i):∃ (k:Nat) (hk:k<v.length),i=(k:Int)/\idx v i=some v[k]:=by
 obtain⟨h0,h1⟩:=h;obtain⟨k,rfl⟩:=Int.eq_ofNat_of_zero_le h0;have hk:k<v.length:=oo;exact⟨k,hk,rfl,As hk⟩
theorem Xf{v:List Ad}{i j:Nat}(hi:i<v.length)(hj:j<v.length):cmpR v (i:Int) (j:Int)<0↔befV v[i] v[j]:=by
 unfold cmpR;rw[As hi,As hj];simp only;split
 ·simp_all
 ·split <;> simp_all
theorem totR{v:List Ad}(hd:Fe v):Aal (okIx v) (cmpR v) where
 irr x hx:=by
  obtain⟨i,hi,rfl,_⟩:=Lw hx;rw[Xf hi hi];unfold befV;omega
 trans x y z hx hy hz h1 h2:=by
  obtain⟨i,hi,rfl,_⟩:=Lw hx;obtain⟨j,hj,rfl,_⟩:=Lw hy;obtain⟨k,hk,rfl,_⟩:=Lw hz;rw[Xf hi hj] at h1;rw[Xf hj hk] at h2;rw[Xf hi hk];unfold befV at *;omega
 tot x y hx hy h1 h2:=by
  obtain⟨i,hi,rfl,_⟩:=Lw hx;obtain⟨j,hj,rfl,_⟩:=Lw hy;rw[Xf hi hj] at h1;rw[Xf hj hi] at h2;have hs:Aag v[i] v[j]:=by unfold befV at h1 h2;unfold Aag;omega
  unfold Fe at hd;rw[List.pairwise_iff_getElem] at hd;rcases Nat.lt_trichotomy i j with h | h | h
  ·exact absurd hs (hd i j hi hj h)
  ·rw[h]
  ·exact absurd ⟨hs.1.symm,hs.2.symm⟩ (hd j i hj hi h)
theorem Au6(a b:Ad):Ke ⟨a.X,a.Y⟩ ⟨b.X,b.Y⟩=some (decide (befV a b)):=by
 unfold Ke jn befV;simp only
 by_cases h1:a.X<b.X
 ·simp[h1]
 ·by_cases h2:a.X=b.X
  ·simp[h2]
  ·simp[h1,h2]
theorem Au7(v:List Ad){x y:Int}(hx:okIx v x)(hy:okIx v y):Xd x y v=some (cmpR v x y):=by
 obtain⟨i,hi,rfl,ei⟩:=Lw hx;obtain⟨j,hj,rfl,ej⟩:=Lw hy;unfold Xd cmpR;simp only[ei,ej,bnd,Oa,Au6,decide_eq_true_eq];split
 ·rfl
 ·split <;> rfl
theorem Apr(v:List Ad)(hd:Fe v)(l:List Int)(hb:l.length<=1000000000)(hp:∀ x∈l,okIx v x){A:Option Addr}{m c:Nat}{t:TypeId}{gf:Nat}{cb:Array Value}(w:World)(hok:Ent.ok w (.r A m c t 1 (l.flatMap Af)))(hcmp:Adu prog (okIx v) (cmpR v) (fun x=>iq x) A m c t 1 gf cb w (l.flatMap Af))(eg:Wo prog gf):Adt prog 182 A m c t 1 gf cb w (l.flatMap Af) ((Bc (cmpR v) l).flatMap Af):=
 Arm (ρ:=Tryz.laysSort1_ren) Tryz.laysSort1 (enc:=Value.int .i64) (fun _=>rfl) (totR hd) (Ada eg) l hb hp w hok hcmp
end Go.Proofs.YthlkpgdfifnagaaGreat
namespace Go.Proofs.YthlkpgdfifnagaaGreat
open Go Go.RowKit Tryz
theorem Sn(x0:Int)(x1:Int):Gd prog 24 1 [(0,.agg #[iq x0,iq x1])] 103 [iq x0,iq x1]:=fun w=>kr
instance(x0:Int)(x1:Int):Rc prog 24 1 [(0,.agg #[iq x0,iq x1])] 103 [iq x0,iq x1]:=⟨Sn _ _⟩
theorem Atm:Xl prog 24 103 2 16:=⟨underlying24,⟨t103,.agg #[iq 0,iq 0],kr,kr,kr,kr,rfl⟩,dD⟩
instance:Ag6 prog 24 103 2 16:=⟨Atm⟩
theorem Gt(x0:Int)(x1:Int)(x2:Int):Vv prog 101 [(0,iq x0),(1,iq x1),(2,iq x2)] [iq x0,iq x1,iq x2]:=fun w=>kr
instance(x0:Int)(x1:Int)(x2:Int):Je prog 101 [(0,iq x0),(1,iq x1),(2,iq x2)] [iq x0,iq x1,iq x2]:=⟨Gt _ _ _⟩
theorem Wz(x0:Int)(x1:Int)(x2:Int):Gd prog 23 1 [(0,.agg #[iq x0,iq x1,iq x2])] 101 [iq x0,iq x1,iq x2]:=fun w=>kr
instance(x0:Int)(x1:Int)(x2:Int):Rc prog 23 1 [(0,.agg #[iq x0,iq x1,iq x2])] 101 [iq x0,iq x1,iq x2]:=⟨Wz _ _ _⟩
theorem Bcj:Xl prog 23 101 3 24:=⟨underlying23,⟨t101,.agg #[iq 0,iq 0,iq 0],kr,kr,kr,kr,rfl⟩,dD⟩
instance:Ag6 prog 23 101 3 24:=⟨Bcj⟩
instance:SrtI prog 176 177 Ar 2 (fun _=>Qy) cmp2 (fun x=>.agg #[iq x.a0,iq x.a1]):=⟨⟨_,func176,rfl,rfl⟩,fun l hb hp A m c t w hok hcm=>Aeu l hb hp w hok hcm ⟨_,func177,rfl,rfl⟩,fun _ W x y px py=>⟨[.agg #[iq x.a0,iq x.a1],.agg #[iq y.a0,iq y.a1]],rfl,Zj x y (Agv px py) W⟩⟩
noncomputable def Wk  : (List Ab)->Option (Sum (List Ab) (List Ab)):=fun s0=>
 some (.inr s0)
noncomputable def Sc(p0:Am):(List Ab)->Ab × Int->Option (Sum (List Ab) (List Ab)):=fun s0 p19_=>
 gd ((-9223372036854775808<=p19_.1.a1/\p19_.1.a1<=9223372036854775807)/\(-9223372036854775808<=p19_.1.a0/\p19_.1.a0<=9223372036854775807))<|
 bnd (some ((mget p0.apex ((⟨p19_.1.a1,p19_.1.a0⟩:Ab))).getD 0)) fun x0=>
 if ((mget p0.apex ((⟨p19_.1.a1,p19_.1.a0⟩:Ab))).isSome)=true then (some (.inl s0))
 else (gd ((s0.length+1)*16<=140737488355328)<|
 some (.inl (s0++[(⟨p19_.1.a1,p19_.1.a0⟩:Ab)])))
noncomputable def Ia(p0:Am):Option (Am × List Ab):=
 jn (fun (s3:List Ab)=>
 gd (s3.length<=1000000000/\(∀ x∈s3,Qy x))<|
 some (p0,Bc cmp2 s3))
 (fun j3=>Atp Wk (Sc p0) p0.apex ([]:List Ab) fun t0=>
 j3 t0)
noncomputable def Vc  : (List Ab)->Option (Sum (List Ab) (List Ab)):=fun s0=>
 some (.inr s0)
noncomputable def Pr(p0:Am):(List Ab)->Ab × Int->Option (Sum (List Ab) (List Ab)):=fun s0 p27_=>
 gd ((-9223372036854775808<=p27_.1.a1/\p27_.1.a1<=9223372036854775807)/\(-9223372036854775808<=p27_.1.a0/\p27_.1.a0<=9223372036854775807))<|
 bnd (some ((mget p0.apex ((⟨p27_.1.a1,p27_.1.a0⟩:Ab))).getD 0)) fun x0=>
 jn (fun (s1:Bool)=>
 if s1=true then (bnd (Qu p27_.1.a0 p27_.1.a1) fun r0=>
 gd ((s0.length+1)*16<=140737488355328)<|
 some (.inl (s0++[r0])))
 else (some (.inl s0)))
 (fun j0=>if p27_.1.a0<p27_.1.a1 then (j0 true)
 else (j0 (!((mget p0.apex ((⟨p27_.1.a1,p27_.1.a0⟩:Ab))).isSome))))
noncomputable def Ib(p0:Am):Option (Am × List Ab):=
 jn (fun (s3:List Ab)=>
 gd (s3.length<=1000000000/\(∀ x∈s3,Qy x))<|
 some (p0,Bc cmp2 s3))
 (fun j3=>Atp Vc (Pr p0) p0.apex ([]:List Ab) fun t0=>
 j3 t0)
noncomputable def Sd  : (List Ah)->Option (Sum (List Ah) (List Ah)):=fun s0=>
 some (.inr s0)
noncomputable def Lx  : (List Ah)->Ab × Int->Option (Sum (List Ah) (List Ah)):=fun s0 p19_=>
 jn (fun (s1:Bool)=>
 if s1=true then (gd ((s0.length+1)*24<=140737488355328)<|
 some (.inl (s0++[(⟨p19_.1.a0,p19_.1.a1,p19_.2⟩:Ah)])))
 else (some (.inl s0)))
 (fun j0=>if p19_.1.a0<p19_.1.a1 then (j0 (decide (p19_.1.a0<p19_.2)))
 else (j0 false))
noncomputable def El(p0:Am):Option (Am × List Ah):=
 jn (fun (s3:List Ah)=>
 gd (s3.length<=1000000000/\(∀ x∈s3,Abd x))<|
 some (p0,Bc cmp3 s3))
 (fun j3=>Atp Sd Lx p0.apex ([]:List Ah) fun t0=>
 j3 t0)
noncomputable def Th(p0:List Ad):(List Int × Int)->Option (Sum (List Int × Int) (List Int)):=fun s0=>
 if s0.2<(p0.length:Int) then (gd ((s0.1.length+1)*8<=140737488355328)<|
 some (.inl (s0.1++[s0.2],w64 (s0.2+1))))
 else (some (.inr s0.1))
noncomputable def Vs(p0:List Ad):Option (List Int):=
 jn (fun (s3:List Int)=>
 gd (s3.length<=1000000000/\(∀ x∈s3,(okIx p0) x)/\Fe p0)<|
 some (Bc ((cmpR p0)) s3))
 (fun j3=>bnd (lfix (Th p0) (([]:List Int),0)) fun t0=>
 j3 t0)
noncomputable def Yg(p0:List Ab):(List Ab × Int)->Option (Sum (List Ab × Int) (List Ab)):=fun s6=>
 if s6.2<(p0.length:Int) then none
 else (some (.inr s6.1))
noncomputable def Wl(p0:List Ab):Option (List Ab):=
 jn (fun (s3:List Ab)=>
 gd (s3.length<=1000000000/\(∀ x∈s3,Qy x))<|
 some (Bc cmp2 s3))
 (fun j3=>bnd (lfix (Yg p0) (([]:List Ab),0)) fun t6=>
 j3 t6)
theorem Adm(p0:Am){g0_0:Nat}{gm0_0:Nat}{gm0_1:Nat}{K:List Ent}{E0:Option Addr}{G0:Nat}(ha0:Has K E0 p0.v.length G0 4 Ak p0.v){r:Am × List Ab}(hx:Ia p0=some r):CtK prog 181 [.pointer (some ⟨g0_0,0,none⟩)] K [.m g0_0 156 [.slice E0 p0.v.length G0,.map (some gm0_0),.map (some gm0_1)],Bb prog 103 An Cs gm0_0 p0.apex,Bb prog 103 An Bu gm0_1 p0.fixed] fun v Ln=>∃ (A0:Option Addr) (c0:Nat) (A2:Option Addr) (c2:Nat),v = .slice A2 r.2.length c2/\Ln=[.m g0_0 156 [.slice A0 r.1.v.length c0,.map (some gm0_0),.map (some gm0_1)],Bb prog 103 An Cs gm0_0 r.1.apex,Bb prog 103 An Bu gm0_1 r.1.fixed,.r A2 r.2.length c2 103 2 (r.2.flatMap Ar)]/\Has (K++[]) A0 r.1.v.length c0 4 Ak r.1.v/\True:=by
 have ha0':=Has.up0 ha0;refine CtK.mk 42 func181 rfl ntmps181 kr rfl ?_;intro Lf hKf;show T 42 _ [(0,.pointer (some ⟨g0_0,0,none⟩))] ([.m g0_0 156 [.slice E0 p0.v.length G0,.map (some gm0_0),.map (some gm0_1)],Bb prog 103 An Cs gm0_0 p0.apex,Bb prog 103 An Bu gm0_1 p0.fixed]++Lf);unfold Ia at hx;refine Y10 ?_;refine Tj (γ:=Option Addr × Nat) hx (fun s3 y3=>[(0,.pointer (some ⟨g0_0,0,none⟩)),(3,.slice y3.1 s3.length y3.2)]) (fun s3 y3=>[.r y3.1 s3.length y3.2 103 2 (s3.flatMap Ar),.m g0_0 156 [.slice E0 p0.v.length G0,.map (some gm0_0),.map (some gm0_1)],Bb prog 103 An Cs gm0_0 p0.apex,Bb prog 103 An Bu gm0_1 p0.fixed]++Lf) (fun s3 y3=>True) (fun s3 y3 hx0 hG0=>?_) (fun j3 hx=>?_)
 ·refine Y3 ?_;obtain⟨h0,hx1⟩:=Bv hx0;refine T_h (Aan (p:=Qy) (arg:=fun x=>.agg #[iq x.a0,iq x.a1]) (cf:=cmp2) s3 (by exact⟨_,func176,rfl,rfl⟩) (fun w hok hcm=>Aeu s3 h0.1 h0.2 w hok hcm ⟨_,func177,rfl,rfl⟩) (fun ys=>[.r y3.1 s3.length y3.2 103 2 ys,.m g0_0 156 [.slice E0 p0.v.length G0,.map (some gm0_0),.map (some gm0_1)],Bb prog 103 An Cs gm0_0 p0.apex,Bb prog 103 An Bu gm0_1 p0.fixed]++Lf) (fun ys=>by exact .here) (fun ys W hW x y px py=>⟨[.agg #[iq x.a0,iq x.a1],.agg #[iq y.a0,iq y.a1]],rfl,Zj x y  (Agv px py) W⟩) rfl rfl rfl ?_);refine Y9 ?_;have hn0:s3.length=(Bc cmp2 s3).length:=(by rw[Cb]);refine Wc (.here) (e':=.r y3.1 ((Bc cmp2 s3).length) y3.2 103 2 ((Bc cmp2 s3).flatMap Ar)) (by first | (rw[<- hn0];done) | rfl) ?_;refine Ab8 (s:=2) (v':=.slice y3.1 ((Bc cmp2 s3).length) y3.2) rfl (by have hn1:s3.length=(Bc cmp2 s3).length:=(by rw[Cb]);first | (rw[<- hn1];done) | rfl) ?_;obtain rfl:=Option.some.inj hx1;exact Am4 (rs:=[.tmp 2]) results181 (.tmp rfl (.nil)) (Ln:=[.m g0_0 156 [.slice E0 p0.v.length G0,.map (some gm0_0),.map (some gm0_1)],Bb prog 103 An Cs gm0_0 p0.apex,Bb prog 103 An Bu gm0_1 p0.fixed,.r y3.1 ((Bc cmp2 s3).length) y3.2 103 2 ((Bc cmp2 s3).flatMap Ar)]) ⟨E0,G0,y3.1,y3.2,rfl,rfl,Has.len' ha0',trivial⟩ (by exact .pick 1 rfl (.pick 1 rfl (.pick 1 rfl (.pick 0 rfl (.refl)))))
 ·refine Y4 ?_;refine At (Bf rfl Aaf rfl) rfl ?_;refine At (Bd rfl (i:=0) rfl rfl Agu) rfl ?_;refine T_x (Aga Ye Dk underlying153 rfl (fun _=>.there (.here)) rfl (fun g1=>?_));refine Y3 ?_;refine Bi 103 2 ?_;have hn2:0=(([]:List Ab)).length:=by simp[Dr,Tm,List.length_append] <;> omega
  refine Wc (.here) (e':=.r none ((([]:List Ab)).length) 0 103 2 ((([]:List Ab)).flatMap Ar)) (by first | (rw[<- hn2];done) | rfl) ?_;refine Anw (σ:=List Ab) (γ:=(List (Ab × Int)) × (Option (Ab × Int)) × Option Addr × Nat) hx (fun y0=>y0.1) (fun s0 y0=>[(0,.pointer (some ⟨g0_0,0,none⟩)),(3,.slice y0.2.2.1 s0.length y0.2.2.2),(11,.pointer (some ⟨g1,0,none⟩))]) (fun s0 y0=>[.r y0.2.2.1 s0.length y0.2.2.2 103 2 (s0.flatMap Ar),.m g0_0 156 [.slice E0 p0.v.length G0,.map (some gm0_0),.map (some gm0_1)],rngE prog 103 An Cs gm0_0 g1 p0.apex y0.1 y0.2.1,Bb prog 103 An Bu gm0_1 p0.fixed]++Lf) (fun s0 y0=>True) (p0.apex,(none:Option (Ab × Int)),none,0) rfl trivial (by exact .cons rfl (.cons rfl (.cons rfl (.nil)))) (by exact .pick 0 rfl (.pick 0 rfl (.pick 0 rfl (.pick 0 rfl (.refl))))) ?_;intro s0 y0 hG1 hm0;replace hm0:MR _ _ y0.1 s0 r:=hm0;refine Y2 ?_;refine T_h (Air Ye Dk Aad rfl (i:=2) (fun _ _=>.there (.there (.here))) rfl (fun hn3=>?_) (fun p19_ hp0=>?_))
  ·obtain⟨x0,hx2,ht0⟩:=MR.noneK hm0 hn3;unfold Wk at hx2;refine Y7 ?_;have hk0:=Anv ht0 hx2;refine Ad1 (.there (.there (.here))) ?_;refine Y2 ?_;exact Mt s0 (y0.2.2.1,y0.2.2.2) hk0 trivial (by exact .pick 0 rfl (.pick 0 rfl (.pick 0 rfl (.pick 0 rfl (.refl)))))
  ·obtain⟨x0,hx2,ht0,hn4⟩:=MR.someK hm0 hp0;unfold Sc at hx2;refine Y10 ?_;refine At (Agb (kv:=.agg #[iq p19_.1.a0,iq p19_.1.a1]) (vv:=iq p19_.2) rfl (i:=2) rfl rfl rfl) rfl ?_;refine Y ?_;refine T_x (Bt Aki rfl (fun g0=>?_));refine T_h (Ay rfl rfl rfl (.here) (.put (.put (.done))) rfl (List.cons_ne_nil _ _) Acs.2 ?_);refine Y3 ?_;refine T_dr [0,0,0,1,0,1,0,1,0,1,0,0,0,2,2] (.q 0 (.q 1 (.q 2 (.q 3 (.q 4 (.q 5 (.q 6 (.q 7 (.q 8 (.q 9 (.q 10 (.q 11 (.q 12 (.e 13 (.e 14 (.done) (.stop)) (.stop))))))))))))))) mixed kr kr ?_;refine Y2 ?_;refine P_p rfl rfl (Bf rfl Aaf rfl) rfl ?_;refine P_q rfl rfl (Bd rfl (i:=2) rfl rfl Agu) rfl ?_;refine P_p rfl rfl (Bn rfl rfl Sw dD dD rfl) rfl ?_;refine P_q rfl rfl (Bd rfl (i:=0) rfl rfl one3) rfl ?_;refine P_p rfl rfl (Bn rfl rfl Sw dD dD rfl) rfl ?_;refine P_q rfl rfl (Bd rfl (i:=0) rfl rfl one3) rfl ?_;refine P_p rfl rfl (En rfl (Qp _ _)) rfl ?_;obtain⟨h1,hx3⟩:=Bv hx2;obtain⟨x1,h2,hx4⟩:=Ao hx3;refine P_q rfl rfl (Aas (x:=(⟨p19_.1.a1,p19_.1.a0⟩:Ab)) (i:=3) (vv:=iq x1) Ye underlying153 (fun w=>kr) Dk rfl rfl rfl rfl Aiq (Akg ((⟨p19_.1.a1,p19_.1.a0⟩:Ab)) h1) h2 rfl) rfl ?_;refine Y3 ?_;refine P_x rfl (Dx (Ee rfl) rfl ?_) ?_;rotate_left;exact Bg;refine P_x rfl (Dx (Ee rfl) rfl ?_) ?_;rotate_left;exact Bg;refine Y8 ?_;refine Xw (s:=30) rfl (fun h3=>?_) (fun h3=>?_)
   ·have hx5:=Nn h3 hx4;refine Y3 ?_;refine At (Bn rfl rfl Sw dD dD rfl) rfl ?_;refine At (Bd rfl (i:=0) rfl rfl one3) rfl ?_;refine At (Bn rfl rfl Sw dD dD rfl) rfl ?_;refine At (Bd rfl (i:=0) rfl rfl one3) rfl ?_;refine At (En rfl (Qp _ _)) rfl ?_;refine T_x (Bs rfl (Sn _ _) rfl (fun g2=>?_));obtain⟨h4,hx6⟩:=Bv hx5;refine T_h (Ho Ar s0 [(⟨p19_.1.a1,p19_.1.a0⟩:Ab)] rfl rfl rfl Atm (fun _=>rfl) (i':=0) rfl rfl rfl rfl h4 rfl (fun _ _=>.there (.there (.here))) (fun _ _=>.drop .refl) dD (fun A1 c1=>?_));refine Y3 ?_;exact Aak (s0++[(⟨p19_.1.a1,p19_.1.a0⟩:Ab)]) (mdel y0.1 p19_.1,(some p19_:Option (Ab × Int)),A1,c1) hx6 hn4 hp0 rfl trivial (by exact .cons rfl (.cons rfl (.cons rfl (.nil)))) (by exact .pick 1 rfl (.pick 1 rfl (.pick 1 rfl (.pick 1 rfl (.drop 0 rfl (.refl))))))
   ·have hx7:=Io h3 hx4;refine Y3 ?_;exact Aak s0 (mdel y0.1 p19_.1,(some p19_:Option (Ab × Int)),y0.2.2.1,y0.2.2.2) hx7 hn4 hp0 rfl trivial (by exact .cons rfl (.cons rfl (.cons rfl (.nil)))) (by exact .pick 1 rfl (.pick 1 rfl (.pick 1 rfl (.pick 1 rfl (.drop 0 rfl (.refl))))))
instance(p0:Am):ConK (Ia p0) prog 181 (fun g0_0 gm0_0 gm0_1 E0 G0 ua0 uc0 vs Lp=>vs=[.pointer (some ⟨g0_0,0,none⟩)]/\Lp=[.m g0_0 156 [.slice E0 p0.v.length G0,.map (some gm0_0),.map (some gm0_1)],Bb prog 103 An Cs gm0_0 p0.apex,Bb prog 103 An Bu gm0_1 p0.fixed]/\ua0=none/\uc0=0/\True) (fun E0 G0 ua0 uc0 K K2=>Has K E0 p0.v.length G0 4 Ak p0.v/\True) (fun g0_0 gm0_0 gm0_1 E0 G0 ua0 uc0 K r=>fun v Ln=>∃ A0 c0 A2 c2,v = .slice A2 r.2.length c2/\Ln=[.m g0_0 156 [.slice A0 r.1.v.length c0,.map (some gm0_0),.map (some gm0_1)],Bb prog 103 An Cs gm0_0 r.1.apex,Bb prog 103 An Bu gm0_1 r.1.fixed,.r A2 r.2.length c2 103 2 (r.2.flatMap Ar)]/\Has K A0 r.1.v.length c0 4 Ak r.1.v/\True):=⟨by
 rintro g0_0 gm0_0 gm0_1 E0 G0 _ _ K K2 _ _ r ⟨rfl,rfl,rfl,rfl,-⟩ ⟨ha0,-⟩ hx;exact CtK.wide ((Adm p0 ha0 hx).mono (by
  rintro _ _ ⟨_,_,_,_,rfl,rfl,f0,-⟩;exact⟨_,_,_,_,rfl,rfl,Has.dn0 f0,trivial⟩))⟩
theorem Abo(p0:Am){g0_0:Nat}{gm0_0:Nat}{gm0_1:Nat}{K:List Ent}{E0:Option Addr}{G0:Nat}(ha0:Has K E0 p0.v.length G0 4 Ak p0.v){r:Am × List Ab}(hx:Ib p0=some r):CtK prog 185 [.pointer (some ⟨g0_0,0,none⟩)] K [.m g0_0 156 [.slice E0 p0.v.length G0,.map (some gm0_0),.map (some gm0_1)],Bb prog 103 An Cs gm0_0 p0.apex,Bb prog 103 An Bu gm0_1 p0.fixed] fun v Ln=>∃ (A0:Option Addr) (c0:Nat) (A2:Option Addr) (c2:Nat),v = .slice A2 r.2.length c2/\Ln=[.m g0_0 156 [.slice A0 r.1.v.length c0,.map (some gm0_0),.map (some gm0_1)],Bb prog 103 An Cs gm0_0 r.1.apex,Bb prog 103 An Bu gm0_1 r.1.fixed,.r A2 r.2.length c2 103 2 (r.2.flatMap Ar)]/\Has (K++[]) A0 r.1.v.length c0 4 Ak r.1.v/\True:=by
 have ha0':=Has.up0 ha0;refine CtK.mk 49 func185 rfl ntmps185 kr rfl ?_;intro Lf hKf;show T 49 _ [(0,.pointer (some ⟨g0_0,0,none⟩))] ([.m g0_0 156 [.slice E0 p0.v.length G0,.map (some gm0_0),.map (some gm0_1)],Bb prog 103 An Cs gm0_0 p0.apex,Bb prog 103 An Bu gm0_1 p0.fixed]++Lf);unfold Ib at hx;refine Y10 ?_;refine Tj (γ:=Option Addr × Nat) hx (fun s3 y3=>[(0,.pointer (some ⟨g0_0,0,none⟩)),(3,.slice y3.1 s3.length y3.2)]) (fun s3 y3=>[.r y3.1 s3.length y3.2 103 2 (s3.flatMap Ar),.m g0_0 156 [.slice E0 p0.v.length G0,.map (some gm0_0),.map (some gm0_1)],Bb prog 103 An Cs gm0_0 p0.apex,Bb prog 103 An Bu gm0_1 p0.fixed]++Lf) (fun s3 y3=>True) (fun s3 y3 hx0 hG0=>?_) (fun j3 hx=>?_)
 ·refine Y3 ?_;obtain⟨h0,hx1⟩:=Bv hx0;refine T_h (Aan (p:=Qy) (arg:=fun x=>.agg #[iq x.a0,iq x.a1]) (cf:=cmp2) s3 (by exact⟨_,func176,rfl,rfl⟩) (fun w hok hcm=>Aeu s3 h0.1 h0.2 w hok hcm ⟨_,func177,rfl,rfl⟩) (fun ys=>[.r y3.1 s3.length y3.2 103 2 ys,.m g0_0 156 [.slice E0 p0.v.length G0,.map (some gm0_0),.map (some gm0_1)],Bb prog 103 An Cs gm0_0 p0.apex,Bb prog 103 An Bu gm0_1 p0.fixed]++Lf) (fun ys=>by exact .here) (fun ys W hW x y px py=>⟨[.agg #[iq x.a0,iq x.a1],.agg #[iq y.a0,iq y.a1]],rfl,Zj x y  (Agv px py) W⟩) rfl rfl rfl ?_);refine Y9 ?_;have hn0:s3.length=(Bc cmp2 s3).length:=(by rw[Cb]);refine Wc (.here) (e':=.r y3.1 ((Bc cmp2 s3).length) y3.2 103 2 ((Bc cmp2 s3).flatMap Ar)) (by first | (rw[<- hn0];done) | rfl) ?_;refine Ab8 (s:=2) (v':=.slice y3.1 ((Bc cmp2 s3).length) y3.2) rfl (by have hn1:s3.length=(Bc cmp2 s3).length:=(by rw[Cb]);first | (rw[<- hn1];done) | rfl) ?_;obtain rfl:=Option.some.inj hx1;exact Am4 (rs:=[.tmp 2]) results185 (.tmp rfl (.nil)) (Ln:=[.m g0_0 156 [.slice E0 p0.v.length G0,.map (some gm0_0),.map (some gm0_1)],Bb prog 103 An Cs gm0_0 p0.apex,Bb prog 103 An Bu gm0_1 p0.fixed,.r y3.1 ((Bc cmp2 s3).length) y3.2 103 2 ((Bc cmp2 s3).flatMap Ar)]) ⟨E0,G0,y3.1,y3.2,rfl,rfl,Has.len' ha0',trivial⟩ (by exact .pick 1 rfl (.pick 1 rfl (.pick 1 rfl (.pick 0 rfl (.refl)))))
 ·refine Y4 ?_;refine At (Bf rfl Aaf rfl) rfl ?_;refine At (Bd rfl (i:=0) rfl rfl Agu) rfl ?_;refine T_x (Aga Ye Dk underlying153 rfl (fun _=>.there (.here)) rfl (fun g1=>?_));refine Y3 ?_;refine Bi 103 2 ?_;have hn2:0=(([]:List Ab)).length:=by simp[Dr,Tm,List.length_append] <;> omega
  refine Wc (.here) (e':=.r none ((([]:List Ab)).length) 0 103 2 ((([]:List Ab)).flatMap Ar)) (by first | (rw[<- hn2];done) | rfl) ?_;refine Anw (σ:=List Ab) (γ:=(List (Ab × Int)) × (Option (Ab × Int)) × Option Addr × Nat) hx (fun y0=>y0.1) (fun s0 y0=>[(0,.pointer (some ⟨g0_0,0,none⟩)),(3,.slice y0.2.2.1 s0.length y0.2.2.2),(11,.pointer (some ⟨g1,0,none⟩))]) (fun s0 y0=>[.r y0.2.2.1 s0.length y0.2.2.2 103 2 (s0.flatMap Ar),.m g0_0 156 [.slice E0 p0.v.length G0,.map (some gm0_0),.map (some gm0_1)],rngE prog 103 An Cs gm0_0 g1 p0.apex y0.1 y0.2.1,Bb prog 103 An Bu gm0_1 p0.fixed]++Lf) (fun s0 y0=>True) (p0.apex,(none:Option (Ab × Int)),none,0) rfl trivial (by exact .cons rfl (.cons rfl (.cons rfl (.nil)))) (by exact .pick 0 rfl (.pick 0 rfl (.pick 0 rfl (.pick 0 rfl (.refl))))) ?_;intro s0 y0 hG1 hm0;replace hm0:MR _ _ y0.1 s0 r:=hm0;refine Y2 ?_;refine T_h (Air Ye Dk Aad rfl (i:=2) (fun _ _=>.there (.there (.here))) rfl (fun hn3=>?_) (fun p27_ hp0=>?_))
  ·obtain⟨x0,hx2,ht0⟩:=MR.noneK hm0 hn3;unfold Vc at hx2;refine Y7 ?_;have hk0:=Anv ht0 hx2;refine Ad1 (.there (.there (.here))) ?_;refine Y2 ?_;exact Mt s0 (y0.2.2.1,y0.2.2.2) hk0 trivial (by exact .pick 0 rfl (.pick 0 rfl (.pick 0 rfl (.pick 0 rfl (.refl)))))
  ·obtain⟨x0,hx2,ht0,hn4⟩:=MR.someK hm0 hp0;unfold Pr at hx2;refine Y10 ?_;refine At (Agb (kv:=.agg #[iq p27_.1.a0,iq p27_.1.a1]) (vv:=iq p27_.2) rfl (i:=2) rfl rfl rfl) rfl ?_;refine Y ?_;refine T_x (Bt Aki rfl (fun g0=>?_));refine T_h (Ay rfl rfl rfl (.here) (.put (.put (.done))) rfl (List.cons_ne_nil _ _) Acs.2 ?_);refine Y3 ?_;refine T_dr [0,0,0,1,0,1,0,1,0,1,0,0,0,2,2] (.q 0 (.q 1 (.q 2 (.q 3 (.q 4 (.q 5 (.q 6 (.q 7 (.q 8 (.q 9 (.q 10 (.q 11 (.q 12 (.e 13 (.e 14 (.done) (.stop)) (.stop))))))))))))))) mixed kr kr ?_;refine Y2 ?_;refine P_p rfl rfl (Bf rfl Aaf rfl) rfl ?_;refine P_q rfl rfl (Bd rfl (i:=2) rfl rfl Agu) rfl ?_;refine P_p rfl rfl (Bn rfl rfl Sw dD dD rfl) rfl ?_;refine P_q rfl rfl (Bd rfl (i:=0) rfl rfl one3) rfl ?_;refine P_p rfl rfl (Bn rfl rfl Sw dD dD rfl) rfl ?_;refine P_q rfl rfl (Bd rfl (i:=0) rfl rfl one3) rfl ?_;refine P_p rfl rfl (En rfl (Qp _ _)) rfl ?_;obtain⟨h1,hx3⟩:=Bv hx2;obtain⟨x1,h2,hx4⟩:=Ao hx3;refine P_q rfl rfl (Aas (x:=(⟨p27_.1.a1,p27_.1.a0⟩:Ab)) (i:=3) (vv:=iq x1) Ye underlying153 (fun w=>kr) Dk rfl rfl rfl rfl Aiq (Akg ((⟨p27_.1.a1,p27_.1.a0⟩:Ab)) h1) h2 rfl) rfl ?_;refine Y3 ?_;refine P_x rfl (Dx (Ee rfl) rfl ?_) ?_;rotate_left;exact Bg;refine P_x rfl (Dx (Ee rfl) rfl ?_) ?_;rotate_left;exact Bg;refine Y2 ?_;refine Tj (γ:=Unit) hx4 (fun s1 y1=>[(0,.pointer (some ⟨g0_0,0,none⟩)),(3,.slice y0.2.2.1 s0.length y0.2.2.2),(4,.pointer (some ⟨g0,0,none⟩)),(11,.pointer (some ⟨g1,0,none⟩)),(37,.bool s1)]) (fun s1 y1=>[.m g0 103 [iq p27_.1.a0,iq p27_.1.a1],.r y0.2.2.1 s0.length y0.2.2.2 103 2 (s0.flatMap Ar),.m g0_0 156 [.slice E0 p0.v.length G0,.map (some gm0_0),.map (some gm0_1)],rngE prog 103 An Cs gm0_0 g1 p0.apex (mdel y0.1 p27_.1) (some p27_),Bb prog 103 An Bu gm0_1 p0.fixed]++Lf) (fun s1 y1=>True) (fun s1 y1 hx5 hG2=>?_) (fun j0 hx4=>?_)
   ·refine Jv (s:=37) rfl (fun h3=>?_) (fun h3=>?_)
    ·have hx6:=Io h3 hx5;refine Y3 ?_;refine At (Bn rfl rfl Sw dD dD rfl) rfl ?_;refine At (Bd rfl (i:=0) rfl rfl one3) rfl ?_;refine At (Bn rfl rfl Sw dD dD rfl) rfl ?_;refine At (Bd rfl (i:=0) rfl rfl one3) rfl ?_;obtain⟨r0,h4,hx7⟩:=Ao hx6;refine Tc (fun w1 hw1=>Anr p27_.1.a0 p27_.1.a1  h4 w1) ?_;refine T_x (Bs rfl (Sn _ _) rfl (fun g2=>?_));obtain⟨h5,hx8⟩:=Bv hx7;refine T_h (Ho Ar s0 [r0] rfl rfl rfl Atm (fun _=>rfl) (i':=0) rfl rfl rfl rfl h5 rfl (fun _ _=>.there (.there (.here))) (fun _ _=>.drop .refl) dD (fun A1 c1=>?_));refine Y3 ?_;exact Aak (s0++[r0]) (mdel y0.1 p27_.1,(some p27_:Option (Ab × Int)),A1,c1) hx8 hn4 hp0 rfl trivial (by exact .cons rfl (.cons rfl (.cons rfl (.nil)))) (by exact .pick 1 rfl (.pick 1 rfl (.pick 1 rfl (.pick 1 rfl (.drop 0 rfl (.refl))))))
    ·have hx9:=Nn h3 hx5;refine Y3 ?_;exact Aak s0 (mdel y0.1 p27_.1,(some p27_:Option (Ab × Int)),y0.2.2.1,y0.2.2.2) hx9 hn4 hp0 rfl trivial (by exact .cons rfl (.cons rfl (.cons rfl (.nil)))) (by exact .pick 1 rfl (.pick 1 rfl (.pick 1 rfl (.pick 1 rfl (.drop 0 rfl (.refl))))))
   ·refine Y ?_;refine At (Bn rfl rfl Sw dD dD rfl) rfl ?_;refine At (Bd rfl (i:=0) rfl rfl one3) rfl ?_;refine At (Bn rfl rfl Sw dD dD rfl) rfl ?_;refine At (Bd rfl (i:=0) rfl rfl one3) rfl ?_;refine Y2 ?_;refine Ti hx4 (s:=34) rfl (fun h6 hx38=>?_) (fun h6 hx39=>?_)
    ·refine Y4 ?_;exact Mt true () hx38 trivial (by exact .pick 0 rfl (.pick 0 rfl (.pick 0 rfl (.pick 0 rfl (.pick 0 rfl (.refl))))))
    ·refine Y4 ?_;exact Mt (!((mget p0.apex ((⟨p27_.1.a1,p27_.1.a0⟩:Ab))).isSome)) () hx39 trivial (by exact .pick 0 rfl (.pick 0 rfl (.pick 0 rfl (.pick 0 rfl (.pick 0 rfl (.refl))))))
instance(p0:Am):ConK (Ib p0) prog 185 (fun g0_0 gm0_0 gm0_1 E0 G0 ua0 uc0 vs Lp=>vs=[.pointer (some ⟨g0_0,0,none⟩)]/\Lp=[.m g0_0 156 [.slice E0 p0.v.length G0,.map (some gm0_0),.map (some gm0_1)],Bb prog 103 An Cs gm0_0 p0.apex,Bb prog 103 An Bu gm0_1 p0.fixed]/\ua0=none/\uc0=0/\True) (fun E0 G0 ua0 uc0 K K2=>Has K E0 p0.v.length G0 4 Ak p0.v/\True) (fun g0_0 gm0_0 gm0_1 E0 G0 ua0 uc0 K r=>fun v Ln=>∃ A0 c0 A2 c2,v = .slice A2 r.2.length c2/\Ln=[.m g0_0 156 [.slice A0 r.1.v.length c0,.map (some gm0_0),.map (some gm0_1)],Bb prog 103 An Cs gm0_0 r.1.apex,Bb prog 103 An Bu gm0_1 r.1.fixed,.r A2 r.2.length c2 103 2 (r.2.flatMap Ar)]/\Has K A0 r.1.v.length c0 4 Ak r.1.v/\True):=⟨by
 rintro g0_0 gm0_0 gm0_1 E0 G0 _ _ K K2 _ _ r ⟨rfl,rfl,rfl,rfl,-⟩ ⟨ha0,-⟩ hx;exact CtK.wide ((Abo p0 ha0 hx).mono (by
  rintro _ _ ⟨_,_,_,_,rfl,rfl,f0,-⟩;exact⟨_,_,_,_,rfl,rfl,Has.dn0 f0,trivial⟩))⟩
theorem Yl(p0:Am){g0_0:Nat}{gm0_0:Nat}{gm0_1:Nat}{K:List Ent}{E0:Option Addr}{G0:Nat}(ha0:Has K E0 p0.v.length G0 4 Ak p0.v){r:Am × List Ah}(hx:El p0=some r):CtK prog 131 [.pointer (some ⟨g0_0,0,none⟩)] K [.m g0_0 156 [.slice E0 p0.v.length G0,.map (some gm0_0),.map (some gm0_1)],Bb prog 103 An Cs gm0_0 p0.apex,Bb prog 103 An Bu gm0_1 p0.fixed] fun v Ln=>∃ (A0:Option Addr) (c0:Nat) (A2:Option Addr) (c2:Nat),v = .slice A2 r.2.length c2/\Ln=[.m g0_0 156 [.slice A0 r.1.v.length c0,.map (some gm0_0),.map (some gm0_1)],Bb prog 103 An Cs gm0_0 r.1.apex,Bb prog 103 An Bu gm0_1 r.1.fixed,.r A2 r.2.length c2 101 3 (r.2.flatMap Ax)]/\Has (K++[]) A0 r.1.v.length c0 4 Ak r.1.v/\True:=by
 have ha0':=Has.up0 ha0;refine CtK.mk 39 func131 rfl ntmps131 kr rfl ?_;intro Lf hKf;show T 39 _ [(0,.pointer (some ⟨g0_0,0,none⟩))] ([.m g0_0 156 [.slice E0 p0.v.length G0,.map (some gm0_0),.map (some gm0_1)],Bb prog 103 An Cs gm0_0 p0.apex,Bb prog 103 An Bu gm0_1 p0.fixed]++Lf);unfold El at hx;refine Y10 ?_;refine Tj (γ:=Option Addr × Nat) hx (fun s3 y3=>[(0,.pointer (some ⟨g0_0,0,none⟩)),(3,.slice y3.1 s3.length y3.2)]) (fun s3 y3=>[.r y3.1 s3.length y3.2 101 3 (s3.flatMap Ax),.m g0_0 156 [.slice E0 p0.v.length G0,.map (some gm0_0),.map (some gm0_1)],Bb prog 103 An Cs gm0_0 p0.apex,Bb prog 103 An Bu gm0_1 p0.fixed]++Lf) (fun s3 y3=>True) (fun s3 y3 hx0 hG0=>?_) (fun j3 hx=>?_)
 ·refine Y3 ?_;obtain⟨h0,hx1⟩:=Bv hx0;refine T_h (Aan (p:=Abd) (arg:=fun x=>.agg #[iq x.a0,iq x.a1,iq x.a2]) (cf:=cmp3) s3 (by exact⟨_,func188,rfl,rfl⟩) (fun w hok hcm=>Ari s3 h0.1 h0.2 w hok hcm ⟨_,func189,rfl,rfl⟩) (fun ys=>[.r y3.1 s3.length y3.2 101 3 ys,.m g0_0 156 [.slice E0 p0.v.length G0,.map (some gm0_0),.map (some gm0_1)],Bb prog 103 An Cs gm0_0 p0.apex,Bb prog 103 An Bu gm0_1 p0.fixed]++Lf) (fun ys=>by exact .here) (fun ys W hW x y px py=>⟨[.agg #[iq x.a0,iq x.a1,iq x.a2],.agg #[iq y.a0,iq y.a1,iq y.a2]],rfl,Xe x y  (Anp px py) W⟩) rfl rfl rfl ?_);refine Y9 ?_;have hn0:s3.length=(Bc cmp3 s3).length:=(by rw[Cb]);refine Wc (.here) (e':=.r y3.1 ((Bc cmp3 s3).length) y3.2 101 3 ((Bc cmp3 s3).flatMap Ax)) (by first | (rw[<- hn0];done) | rfl) ?_;refine Ab8 (s:=2) (v':=.slice y3.1 ((Bc cmp3 s3).length) y3.2) rfl (by have hn1:s3.length=(Bc cmp3 s3).length:=(by rw[Cb]);first | (rw[<- hn1];done) | rfl) ?_;obtain rfl:=Option.some.inj hx1;exact Am4 (rs:=[.tmp 2]) results131 (.tmp rfl (.nil)) (Ln:=[.m g0_0 156 [.slice E0 p0.v.length G0,.map (some gm0_0),.map (some gm0_1)],Bb prog 103 An Cs gm0_0 p0.apex,Bb prog 103 An Bu gm0_1 p0.fixed,.r y3.1 ((Bc cmp3 s3).length) y3.2 101 3 ((Bc cmp3 s3).flatMap Ax)]) ⟨E0,G0,y3.1,y3.2,rfl,rfl,Has.len' ha0',trivial⟩ (by exact .pick 1 rfl (.pick 1 rfl (.pick 1 rfl (.pick 0 rfl (.refl)))))
 ·refine Y4 ?_;refine At (Bf rfl Aaf rfl) rfl ?_;refine At (Bd rfl (i:=0) rfl rfl Agu) rfl ?_;refine T_x (Aga Ye Dk underlying153 rfl (fun _=>.there (.here)) rfl (fun g1=>?_));refine Y3 ?_;refine Bi 101 3 ?_;have hn2:0=(([]:List Ah)).length:=by simp[Dr,Tm,List.length_append] <;> omega
  refine Wc (.here) (e':=.r none ((([]:List Ah)).length) 0 101 3 ((([]:List Ah)).flatMap Ax)) (by first | (rw[<- hn2];done) | rfl) ?_;refine Anw (σ:=List Ah) (γ:=(List (Ab × Int)) × (Option (Ab × Int)) × Option Addr × Nat) hx (fun y0=>y0.1) (fun s0 y0=>[(0,.pointer (some ⟨g0_0,0,none⟩)),(3,.slice y0.2.2.1 s0.length y0.2.2.2),(10,.pointer (some ⟨g1,0,none⟩))]) (fun s0 y0=>[.r y0.2.2.1 s0.length y0.2.2.2 101 3 (s0.flatMap Ax),.m g0_0 156 [.slice E0 p0.v.length G0,.map (some gm0_0),.map (some gm0_1)],rngE prog 103 An Cs gm0_0 g1 p0.apex y0.1 y0.2.1,Bb prog 103 An Bu gm0_1 p0.fixed]++Lf) (fun s0 y0=>True) (p0.apex,(none:Option (Ab × Int)),none,0) rfl trivial (by exact .cons rfl (.cons rfl (.cons rfl (.nil)))) (by exact .pick 0 rfl (.pick 0 rfl (.pick 0 rfl (.pick 0 rfl (.refl))))) ?_;intro s0 y0 hG1 hm0;replace hm0:MR _ _ y0.1 s0 r:=hm0;refine Y2 ?_;refine T_h (Air Ye Dk Aad rfl (i:=2) (fun _ _=>.there (.there (.here))) rfl (fun hn3=>?_) (fun p19_ hp0=>?_))
  ·obtain⟨x0,hx2,ht0⟩:=MR.noneK hm0 hn3;unfold Sd at hx2;refine Y7 ?_;have hk0:=Anv ht0 hx2;refine Ad1 (.there (.there (.here))) ?_;refine Y2 ?_;exact Mt s0 (y0.2.2.1,y0.2.2.2) hk0 trivial (by exact .pick 0 rfl (.pick 0 rfl (.pick 0 rfl (.pick 0 rfl (.refl)))))
  ·obtain⟨x0,hx2,ht0,hn4⟩:=MR.someK hm0 hp0;unfold Lx at hx2;refine Y10 ?_;refine At (Agb (kv:=.agg #[iq p19_.1.a0,iq p19_.1.a1]) (vv:=iq p19_.2) rfl (i:=2) rfl rfl rfl) rfl ?_;refine Y2 ?_;refine T_x (Bt Aki rfl (fun g0=>?_));refine T_h (Ay rfl rfl rfl (.here) (.put (.put (.done))) rfl (List.cons_ne_nil _ _) Acs.2 ?_);refine Y3 ?_;refine Tj (γ:=Unit) hx2 (fun s1 y1=>[(0,.pointer (some ⟨g0_0,0,none⟩)),(3,.slice y0.2.2.1 s0.length y0.2.2.2),(4,.pointer (some ⟨g0,0,none⟩)),(5,iq p19_.2),(10,.pointer (some ⟨g1,0,none⟩)),(26,.bool s1)]) (fun s1 y1=>[.m g0 103 [iq p19_.1.a0,iq p19_.1.a1],.r y0.2.2.1 s0.length y0.2.2.2 101 3 (s0.flatMap Ax),.m g0_0 156 [.slice E0 p0.v.length G0,.map (some gm0_0),.map (some gm0_1)],rngE prog 103 An Cs gm0_0 g1 p0.apex (mdel y0.1 p19_.1) (some p19_),Bb prog 103 An Bu gm0_1 p0.fixed]++Lf) (fun s1 y1=>True) (fun s1 y1 hx3 hG2=>?_) (fun j0 hx2=>?_)
   ·refine Jv (s:=26) rfl (fun h1=>?_) (fun h1=>?_)
    ·have hx4:=Io h1 hx3;refine Y3 ?_;refine At (Bn rfl rfl Sw dD dD rfl) rfl ?_;refine At (Bd rfl (i:=0) rfl rfl one3) rfl ?_;refine At (Bn rfl rfl Sw dD dD rfl) rfl ?_;refine At (Bd rfl (i:=0) rfl rfl one3) rfl ?_;refine Y ?_;refine At (En rfl (Gt _ _ _)) rfl ?_;refine T_x (Bs rfl (Wz _ _ _) rfl (fun g2=>?_));obtain⟨h2,hx5⟩:=Bv hx4;refine T_h (Ho Ax s0 [(⟨p19_.1.a0,p19_.1.a1,p19_.2⟩:Ah)] rfl rfl rfl Bcj (fun _=>rfl) (i':=0) rfl rfl rfl rfl h2 rfl (fun _ _=>.there (.there (.here))) (fun _ _=>.drop .refl) dD (fun A1 c1=>?_));refine Y3 ?_;exact Aak (s0++[(⟨p19_.1.a0,p19_.1.a1,p19_.2⟩:Ah)]) (mdel y0.1 p19_.1,(some p19_:Option (Ab × Int)),A1,c1) hx5 hn4 hp0 rfl trivial (by exact .cons rfl (.cons rfl (.cons rfl (.nil)))) (by exact .pick 1 rfl (.pick 1 rfl (.pick 1 rfl (.pick 1 rfl (.drop 0 rfl (.refl))))))
    ·have hx6:=Nn h1 hx3;refine Y3 ?_;exact Aak s0 (mdel y0.1 p19_.1,(some p19_:Option (Ab × Int)),y0.2.2.1,y0.2.2.2) hx6 hn4 hp0 rfl trivial (by exact .cons rfl (.cons rfl (.cons rfl (.nil)))) (by exact .pick 1 rfl (.pick 1 rfl (.pick 1 rfl (.pick 1 rfl (.drop 0 rfl (.refl))))))
   ·refine Y ?_;refine At (Bn rfl rfl Sw dD dD rfl) rfl ?_;refine At (Bd rfl (i:=0) rfl rfl one3) rfl ?_;refine At (Bn rfl rfl Sw dD dD rfl) rfl ?_;refine At (Bd rfl (i:=0) rfl rfl one3) rfl ?_;refine Y2 ?_;refine Ti hx2 (s:=21) rfl (fun h3 hx7=>?_) (fun h3 hx8=>?_)
    ·refine Qv rfl rfl rfl (Bn rfl rfl Sw dD dD rfl) rfl ?_;refine Qv rfl rfl rfl (Bd rfl (i:=0) rfl rfl one3) rfl ?_;refine Y4 ?_;exact Mt (decide (p19_.1.a0<p19_.2)) () hx7 trivial (by exact .pick 0 rfl (.pick 0 rfl (.pick 0 rfl (.pick 0 rfl (.pick 0 rfl (.refl))))))
    ·refine Y6 ?_;exact Mt false () hx8 trivial (by exact .pick 0 rfl (.pick 0 rfl (.pick 0 rfl (.pick 0 rfl (.pick 0 rfl (.refl))))))
instance(p0:Am):ConK (El p0) prog 131 (fun g0_0 gm0_0 gm0_1 E0 G0 ua0 uc0 vs Lp=>vs=[.pointer (some ⟨g0_0,0,none⟩)]/\Lp=[.m g0_0 156 [.slice E0 p0.v.length G0,.map (some gm0_0),.map (some gm0_1)],Bb prog 103 An Cs gm0_0 p0.apex,Bb prog 103 An Bu gm0_1 p0.fixed]/\ua0=none/\uc0=0/\True) (fun E0 G0 ua0 uc0 K K2=>Has K E0 p0.v.length G0 4 Ak p0.v/\True) (fun g0_0 gm0_0 gm0_1 E0 G0 ua0 uc0 K r=>fun v Ln=>∃ A0 c0 A2 c2,v = .slice A2 r.2.length c2/\Ln=[.m g0_0 156 [.slice A0 r.1.v.length c0,.map (some gm0_0),.map (some gm0_1)],Bb prog 103 An Cs gm0_0 r.1.apex,Bb prog 103 An Bu gm0_1 r.1.fixed,.r A2 r.2.length c2 101 3 (r.2.flatMap Ax)]/\Has K A0 r.1.v.length c0 4 Ak r.1.v/\True):=⟨by
 rintro g0_0 gm0_0 gm0_1 E0 G0 _ _ K K2 _ _ r ⟨rfl,rfl,rfl,rfl,-⟩ ⟨ha0,-⟩ hx;exact CtK.wide ((Yl p0 ha0 hx).mono (by
  rintro _ _ ⟨_,_,_,_,rfl,rfl,f0,-⟩;exact⟨_,_,_,_,rfl,rfl,Has.dn0 f0,trivial⟩))⟩
theorem Ak2(p0:List Ad){K:List Ent}{E0:Option Addr}{G0:Nat}(ha0:Has K E0 p0.length G0 4 Ak p0){r:List Int}(hx:Vs p0=some r)(w:World)(hK:∀ e∈K,Ent.ok w e):CtL prog 127 [.slice E0 p0.length G0] w fun v Ln=>∃ (A0:Option Addr) (c0:Nat),v = .slice A0 r.length c0/\Ln=[.r A0 r.length c0 3 1 (r.flatMap Af)]/\True:=by
 have ha0':=Has.up0 ha0;refine CtL.mk 19 func127 rfl ntmps127 kr rfl ?_;show T 19 _ [(0,.slice E0 p0.length G0)] _;unfold Vs at hx;refine Y2 ?_;refine T_x (Pf rfl rfl rfl (fun g1=>?_));refine Y8 ?_;refine Tj (γ:=Option Addr × Nat) hx (fun s3 y3=>[(1,.pointer (some ⟨g1,0,none⟩)),(3,.slice y3.1 s3.length y3.2)]) (fun s3 y3=>[.r y3.1 s3.length y3.2 3 1 (s3.flatMap Af),.m g1 22 [.slice E0 p0.length G0]]++[.old w]) (fun s3 y3=>True) (fun s3 y3 hx0 hG0=>?_) (fun j3 hx=>?_)
 ·refine Y4 ?_;obtain⟨h0,hx1⟩:=Bv hx0;refine T_h (Aan (p:=(okIx p0)) (arg:=fun x=>iq x) (cf:=(cmpR p0)) s3 (by exact⟨_,func182,rfl,rfl⟩) (fun w hok hcm=>Apr p0 h0.2.2 s3 h0.1 h0.2.1 w hok hcm ⟨_,func183,rfl,rfl⟩) (fun ys=>[.r y3.1 s3.length y3.2 3 1 ys,.m g1 22 [.slice E0 p0.length G0]]++[.old w]) (fun ys=>by exact .here) (fun ys W hW x y px py=>⟨[iq x,iq y,.pointer (some ⟨g1,0,none⟩)],rfl,Ah1 x y p0 (Has.len' (Has.up (L:=(K++[.m g1 22 [.slice E0 p0.length G0]])) ha0' (SubE.app2 SubE.nil))) (Pt.m0 (List.mem_append_right _ List.mem_cons_self)) (Au7 p0 px py) W (Ss (K:=K) (K2:=[.m g1 22 [.slice E0 p0.length G0]]) hK (by exact (sb 2)) (by exact (sb 1)) hW)⟩) rfl rfl rfl ?_);refine Y9 ?_;have hn0:s3.length=(Bc ((cmpR p0)) s3).length:=(by rw[Cb]);refine Wc (.here) (e':=.r y3.1 ((Bc ((cmpR p0)) s3).length) y3.2 3 1 ((Bc ((cmpR p0)) s3).flatMap Af)) (by first | (rw[<- hn0];done) | rfl) ?_;refine Ab8 (s:=2) (v':=.slice y3.1 ((Bc ((cmpR p0)) s3).length) y3.2) rfl (by have hn1:s3.length=(Bc ((cmpR p0)) s3).length:=(by rw[Cb]);first | (rw[<- hn1];done) | rfl) ?_;obtain rfl:=Option.some.inj hx1;exact Df (rs:=[.tmp 2]) results127 (.tmp rfl (.nil)) (Ln:=[.r y3.1 ((Bc ((cmpR p0)) s3).length) y3.2 3 1 ((Bc ((cmpR p0)) s3).flatMap Af)]) ⟨y3.1,y3.2,rfl,rfl,trivial⟩ (Bj rfl Cr) (by exact .pick 0 rfl (.drop 0 rfl (.refl)))
 ·refine Y2 ?_;refine At (Bd rfl (i:=0) rfl rfl Yd) rfl ?_;refine At (Dn rfl 108 underlying22) rfl ?_;refine Y4 ?_;obtain⟨t0,hl0,ho0⟩:=Ao hx;refine Bi 3 1 ?_;have hn2:0=(([]:List Int)).length:=by simp[Dr,Tm,List.length_append] <;> omega
  refine Wc (.here) (e':=.r none ((([]:List Int)).length) 0 3 1 ((([]:List Int)).flatMap Af)) (by first | (rw[<- hn2];done) | rfl) ?_;refine Lp (σ:=List Int × Int) (γ:=Option Addr × Nat) hl0 (fun s0 y0=>[(1,.pointer (some ⟨g1,0,none⟩)),(3,.slice y0.1 s0.1.length y0.2),(6,iq (p0.length:Int)),(7,iq s0.2)]) (fun s0 y0=>[.r y0.1 s0.1.length y0.2 3 1 (s0.1.flatMap Af),.m g1 22 [.slice E0 p0.length G0]]++[.old w]) (fun s0 y0=>True) (none,0) trivial (by exact .pick 0 rfl (.pick 0 rfl (.refl))) ?_;intro s0 y0 hG1 x0 hx2 ht0;unfold Th at hx2;refine Y6 ?_;refine Ti hx2 (s:=8) rfl (fun h1 hx3=>?_) (fun h1 hx4=>?_)
  ·(iterate 14 refine Y ?_);refine T_x (Bs rfl (Ju _) rfl (fun g0=>?_));obtain⟨h2,hx5⟩:=Bv hx3;refine T_h (Ho Af s0.1 [s0.2] rfl rfl rfl Afc (fun _=>rfl) (i':=0) rfl rfl rfl rfl h2 rfl (fun _ _=>.there (.here)) (fun _ _=>.drop .refl) dD (fun A1 c1=>?_));refine Y8 ?_;exact Rp (s0.1++[s0.2],w64 (s0.2+1)) (A1,c1) hx5 trivial (by exact .pick 0 rfl (.pick 0 rfl (.refl)))
  ·refine Y3 ?_;obtain rfl:=Ii ht0 hx4;refine Y2 ?_;exact Mt s0.1 (y0.1,y0.2) ho0 trivial (by exact .pick 0 rfl (.pick 0 rfl (.refl)))
instance(p0:List Ad):Con (Vs p0) prog 127 (fun K vs=>∃ E0 G0,vs=[.slice E0 p0.length G0]/\Has K E0 p0.length G0 4 Ak p0/\True) (fun _ r=>fun v Ln=>∃ A0 c0,v = .slice A0 r.length c0/\Ln=[.r A0 r.length c0 3 1 (r.flatMap Af)]/\True):=⟨by
 rintro K _ r ⟨E0,G0,rfl,ha0,-⟩ hx w hK;exact Ak2 p0 ha0 hx w hK⟩
instance(p0:List Ab):Con (Wl p0) prog 125 (fun K vs=>∃ E0 G0,vs=[.slice E0 p0.length G0]/\Has K E0 p0.length G0 2 Ar p0/\True) (fun _ r=>fun v Ln=>∃ A0 c0,v = .slice A0 r.length c0/\Ln=[.r A0 r.length c0 103 2 (r.flatMap Ar)]/\True):=⟨by
 rintro K _ r ⟨E0,G0,rfl,ha0,-⟩ hx w hK;replace ha0:=Has.lo ha0 hK;unfold Wl at hx;refine CtS ntmps125 results125 ?_;try (refine pre ?_;intros;rename_i hx)
 refine Bh ?_;try (refine pre ?_;intros;rename_i hx)
 refine Bh ?_;try (refine pre ?_;intros;rename_i hx)
 apply Jr (γ:=Option Addr × Nat) hx [] (fun s3 y3 f=>(3,.slice y3.1 s3.length y3.2)::f) [999] (fun s3 y3 l=>.r y3.1 s3.length y3.2 103 2 (s3.flatMap Ar)::l);exact kk
 ·intro s3 y3 hx;exact au
 ·intro _ hx;try (refine pre ?_;intros;rename_i hx)
  refine Bi 103 2 ?_;apply Lr (γ:=Option Addr × Nat) hx [6,7] (fun s6 y6 f=>(3,.slice y6.1 s6.1.length y6.2)::(8,iq s6.2)::f) [999] (fun s6 y6 l=>.r y6.1 s6.1.length y6.2 103 2 (s6.1.flatMap Ar)::l) (_,_);exact kk;exact sk;intro s6 y6 x6 hx _;unfold Yg at hx;exact au⟩
section
open List
noncomputable section
instance:Bz prog 156 2 2:=⟨.mk underlying156 rfl rfl (show prog.info? 154=some t154 from by kernel_rfl) (show t154.size=1 from by kernel_rfl) rfl⟩
instance:OneI prog 154:=⟨.mk underlying154 rfl (show prog.info? 154=some t154 from by kernel_rfl) kr⟩
instance(x0:Int)(x1:Int)(x2:Int)(x3:Int)(x4:Int)(x5:Int)(x6:Int)(x7:Int):Rc prog 24 4 [(0,.agg #[.int .i64 x0,.int .i64 x1]),(1,.agg #[.int .i64 x2,.int .i64 x3]),(2,.agg #[.int .i64 x4,.int .i64 x5]),(3,.agg #[.int .i64 x6,.int .i64 x7])] 103 [.int .i64 x0,.int .i64 x1,.int .i64 x2,.int .i64 x3,.int .i64 x4,.int .i64 x5,.int .i64 x6,.int .i64 x7]:=⟨fun w=>kr⟩
theorem Ayl  : Gd prog 22 0 [] 108 []:=fun w=>kr
theorem Bcg:Xl prog 22 108 4 32:=⟨underlying22,⟨t108,.agg #[.int .i64 0,.int .i64 0,.int .i64 0,.int .i64 0],kr,kr,kr,kr,rfl⟩,dD⟩
instance:Ag6 prog 22 108 4 32:=⟨Bcg⟩
instance:Ud prog 26 [.slice none 0 0,.slice none 0 0,.slice none 0 0]:=⟨⟨_,zeroValue26,rfl⟩⟩
instance:Je prog 26 [] [.slice none 0 0,.slice none 0 0,.slice none 0 0]:=⟨fun w=>kr⟩
theorem Atc:Rj prog 26 3:=.mk underlying26 rfl (show prog.info? 26=some t26 from by kernel_rfl) kr
instance:AggI prog 26 3:=⟨Atc⟩
instance(x0:Option Addr)(x1:Nat)(x2:Nat)(x3:Nat)(x4:Nat):Je prog 156 [(0,.slice x0 x1 x2),(1,.map (some x3)),(2,.map (some x4))] [.slice x0 x1 x2,.map (some x3),.map (some x4)]:=⟨fun w=>kr⟩
instance(x0:Option Addr)(x1:Nat)(x2:Nat)(x3:Option Addr)(x4:Nat)(x5:Nat)(x6:Option Addr)(x7:Nat)(x8:Nat):Je prog 26 [(0,.slice x0 x1 x2),(1,.slice x3 x4 x5),(2,.slice x6 x7 x8)] [.slice x0 x1 x2,.slice x3 x4 x5,.slice x6 x7 x8]:=⟨fun w=>kr⟩
def Hj(p1:List Int)(p0:Am):Int->Option (Sum Int Int):=fun s0=>
 jn (fun (s6:Bool)=>
 if s6=true then (some (.inl (w64 (s0+1))))
 else (some (.inr s0)))
 (fun j6=>if s0<(p1.length:Int) then (bnd (idx p1 0) fun x0=>
 bnd (idx p1 1) fun x1=>
 bnd (idx p1 s0) fun x2=>
 bnd (Bk p0 x0) fun r0=>
 bnd (Bk p0 x1) fun r1=>
 bnd (Bk p0 x2) fun r2=>
 bnd (Sq r0 r1 r2) fun r3=>
 j6 (decide (r3=0)))
 else (j6 false))
def Fb(s2:Int)(p1:List Int):(List Ad × (List (Ab × Int)) × (List (Ab × Bool)) × Int)->Option (Sum (List Ad × (List (Ab × Int)) × (List (Ab × Bool)) × Int) (List Ad × (List (Ab × Int)) × (List (Ab × Bool)))):=fun s0=>
 if (w64 (s0.2.2.2+1))<s2 then (jn (fun (s1:List Ad × (List (Ab × Int)) × (List (Ab × Bool)))=>
 some (.inl (s1.1,s1.2.1,s1.2.2,w64 (s0.2.2.2+1))))
 (fun j0=>bnd (idx p1 s0.2.2.2) fun x0=>
 bnd (idx p1 (w64 (s0.2.2.2+1))) fun x1=>
 bnd (idx p1 s2) fun x2=>
 bnd (Bk (⟨s0.1,s0.2.1,s0.2.2.1⟩:Am) x0) fun r0=>
 bnd (Bk (⟨s0.1,s0.2.1,s0.2.2.1⟩:Am) x1) fun r1=>
 bnd (Bk (⟨s0.1,s0.2.1,s0.2.2.1⟩:Am) x2) fun r2=>
 bnd (Sq r0 r1 r2) fun r3=>
 if 0<r3 then (bnd (idx p1 s0.2.2.2) fun x3=>
 bnd (idx p1 (w64 (s0.2.2.2+1))) fun x4=>
 bnd (idx p1 s2) fun x5=>
 bnd (Ek (⟨s0.1,s0.2.1,s0.2.2.1⟩:Am) x3 x4 x5) fun r4=>
 j0 (r4.v,r4.apex,r4.fixed))
 else (bnd (idx p1 (w64 (s0.2.2.2+1))) fun x6=>
 bnd (idx p1 s0.2.2.2) fun x7=>
 bnd (idx p1 s2) fun x8=>
 bnd (Ek (⟨s0.1,s0.2.1,s0.2.2.1⟩:Am) x6 x7 x8) fun r5=>
 j0 (r5.v,r5.apex,r5.fixed))))
 else (some (.inr (s0.1,s0.2.1,s0.2.2.1)))
def Dg(r0:Am × List Ab)(x0:Int):(List Ad × (List (Ab × Int)) × (List (Ab × Bool)) × Int)->Option (Sum (List Ad × (List (Ab × Int)) × (List (Ab × Bool)) × Int) (List Ad × (List (Ab × Int)) × (List (Ab × Bool)))):=fun s0=>
 if s0.2.2.2<(r0.2.length:Int) then (jn (fun (s1:List Ad × (List (Ab × Int)) × (List (Ab × Bool)))=>
 some (.inl (s1.1,s1.2.1,s1.2.2,w64 (s0.2.2.2+1))))
 (fun j0=>bnd (idx r0.2 s0.2.2.2) fun x1=>
 bnd (Bk (⟨s0.1,s0.2.1,s0.2.2.1⟩:Am) x1.a0) fun r1=>
 bnd (Bk (⟨s0.1,s0.2.1,s0.2.2.1⟩:Am) x1.a1) fun r2=>
 bnd (Bk (⟨s0.1,s0.2.1,s0.2.2.1⟩:Am) x0) fun r3=>
 bnd (Sq r1 r2 r3) fun r4=>
 if 0<r4 then (bnd (Ek (⟨s0.1,s0.2.1,s0.2.2.1⟩:Am) x1.a0 x1.a1 x0) fun r5=>
 j0 (r5.v,r5.apex,r5.fixed))
 else (j0 (s0.1,s0.2.1,s0.2.2.1))))
 else (some (.inr (s0.1,s0.2.1,s0.2.2.1)))
def Jy(p1:List Int)(s2:Int):(List Ad × (List (Ab × Int)) × (List (Ab × Bool)) × List Int × Int)->Option (Sum (List Ad × (List (Ab × Int)) × (List (Ab × Bool)) × List Int × Int) Am):=fun s0=>
 if s0.2.2.2.2<(((p1.length-Int.toNat (w64 (s2+1)):Nat):Int)) then (jn (fun (s1:List Ad × (List (Ab × Int)) × (List (Ab × Bool)))=>
 some (.inl (s1.1,s1.2.1,s1.2.2,s0.2.2.2.1,w64 (s0.2.2.2.2+1))))
 (fun j0=>bnd (idx s0.2.2.2.1 s0.2.2.2.2) fun x0=>
 bnd (Ia (⟨s0.1,s0.2.1,s0.2.2.1⟩:Am)) fun r0=>
 bnd (lfix (Dg r0 x0) (r0.1.v,r0.1.apex,r0.1.fixed,0)) fun t0=>
 j0 t0))
 else (some (.inr (⟨s0.1,s0.2.1,s0.2.2.1⟩:Am)))
def Lt(p0:Am)(p1:List Int):Option Am :=
 jn (fun (s2:Int)=>
 if (p1.length:Int)<=s2 then (some p0)
 else (jn (fun (s9:List Ad × (List (Ab × Int)) × (List (Ab × Bool)))=>
 gd (0<=(w64 (s2+1))/\(w64 (s2+1))<=(p1.length:Int))<|
 bnd (lfix (Jy p1 s2) (s9.1,s9.2.1,s9.2.2,subl p1 (w64 (s2+1)) (p1.length:Int),0)) fun t0=>
 some t0)
 (fun j9=>bnd (lfix (Fb s2 p1) (p0.v,p0.apex,p0.fixed,0)) fun t1=>
 j9 t1)))
 (fun j2=>bnd (lfix (Hj p1 p0) 2) fun t2=>
 j2 t2)
def Dh  : (List Ad × (List (Ab × Int)) × (List (Ab × Bool)) × List Ab)->Option (Sum (List Ad × (List (Ab × Int)) × (List (Ab × Bool)) × List Ab) Am):=fun s0=>
 if 0<(s0.2.2.2.length:Int) then (bnd (idx s0.2.2.2 (w64 ((s0.2.2.2.length:Int)-1))) fun x0=>
 gd (0<=(w64 ((s0.2.2.2.length:Int)-1))/\(w64 ((s0.2.2.2.length:Int)-1))<=(s0.2.2.2.length:Int))<|
 gd ((-9223372036854775808<=x0.a0/\x0.a0<=9223372036854775807)/\(-9223372036854775808<=x0.a1/\x0.a1<=9223372036854775807))<|
 bnd (some ((mget s0.2.1 x0).getD 0)) fun x1=>
 gd ((-9223372036854775808<=x0.a1/\x0.a1<=9223372036854775807)/\(-9223372036854775808<=x0.a0/\x0.a0<=9223372036854775807))<|
 bnd (some ((mget s0.2.1 ((⟨x0.a1,x0.a0⟩:Ab))).getD 0)) fun x2=>
 jn (fun (s1:List Ab × Bool)=>
 if s1.2=true then (some (.inl (s0.1,s0.2.1,s0.2.2.1,s1.1)))
 else (bnd (Jc (⟨s0.1,s0.2.1,s0.2.2.1⟩:Am) x0.a0 x0.a1) fun r0=>
 if r0.2=true then (bnd (Qu x0.a0 x1) fun r1=>
 bnd (Qu x1 x0.a1) fun r2=>
 bnd (Qu x0.a1 x2) fun r3=>
 bnd (Qu x2 x0.a0) fun r4=>
 gd ((s1.1.length+4)*16<=140737488355328)<|
 some (.inl (r0.1.v,r0.1.apex,r0.1.fixed,s1.1++[r1,r2,r3,r4])))
 else (some (.inl (r0.1.v,r0.1.apex,r0.1.fixed,s1.1)))))
 (fun j0=>if ((mget s0.2.1 x0).isSome)=true then (if ((mget s0.2.1 ((⟨x0.a1,x0.a0⟩:Ab))).isSome)=true then (gd ((-9223372036854775808<=x0.a0/\x0.a0<=9223372036854775807)/\(-9223372036854775808<=x0.a1/\x0.a1<=9223372036854775807))<|
 bnd (some ((mget s0.2.2.1 x0).getD false)) fun x3=>
 if x3=true then (j0 (List.take (Int.toNat (w64 ((s0.2.2.2.length:Int)-1))) s0.2.2.2,true))
 else (bnd (Bk (⟨s0.1,s0.2.1,s0.2.2.1⟩:Am) x0.a0) fun r5=>
 bnd (Bk (⟨s0.1,s0.2.1,s0.2.2.1⟩:Am) x0.a1) fun r6=>
 bnd (Bk (⟨s0.1,s0.2.1,s0.2.2.1⟩:Am) x1) fun r7=>
 bnd (Bk (⟨s0.1,s0.2.1,s0.2.2.1⟩:Am) x2) fun r8=>
 bnd (Vu r5 r6 r7 r8) fun r9=>
 j0 (List.take (Int.toNat (w64 ((s0.2.2.2.length:Int)-1))) s0.2.2.2,r9)))
 else (j0 (List.take (Int.toNat (w64 ((s0.2.2.2.length:Int)-1))) s0.2.2.2,true)))
 else (j0 (List.take (Int.toNat (w64 ((s0.2.2.2.length:Int)-1))) s0.2.2.2,true))))
 else (some (.inr (⟨s0.1,s0.2.1,s0.2.2.1⟩:Am)))
def Jp(p0:Am):Option Am :=
 bnd (Ib p0) fun r1=>
 bnd (lfix Dh (r1.1.v,r1.1.apex,r1.1.fixed,r1.2)) fun t0=>
 some t0
def Ov(p0:List Ad):Option (List Ad):=gd (p0.length*32<=140737488355328) <| some p0
theorem Adk(p0:List Ad){K:List Ent}{E0:Option Addr}{G0:Nat}(ha0:Has K E0 p0.length G0 4 Ak p0){r:List Ad}(hx:Ov p0=some r)(w:World)(hK:∀ e∈K,Ent.ok w e):
  CtL prog 130 [.slice E0 p0.length G0] w (fun v Ln=>∃ (A0:Option Addr) (c0:Nat),v = .slice A0 r.length c0/\Ln=[.r A0 r.length c0 108 4 (r.flatMap Ak)]/\True):=by
 obtain⟨hb,hx⟩:=Bv hx;obtain rfl:=Option.some.inj hx;have ha:Has [.old w] E0 p0.length G0 4 Ak p0:=Has.low (E:=[]) (by rw[append_nil];exact ha0) hK;refine CtL.mk 8 func130 rfl ntmps130 kr rfl ?_;show T 8 _ [(0,.slice E0 p0.length G0)] _;refine Y9 ?_;refine At (Af9 underlying22 rfl rfl) rfl ?_;refine Y2 ?_;cases hA:E0 with
 | none=>
  subst hA;have h0:p0=[]:=by
   cases p0 with
   | nil=>rfl
   | cons x r=>obtain⟨b,o,h,_⟩:=ha.at_ s_;cases h
  subst h0;refine Y8 ?_;refine Bi 108 4 ?_;exact Df (rs:=[.tmp 2]) results130 (.tmp rfl .nil) (Ln:=[.r none 0 0 108 4 []]) ⟨none,0,rfl,rfl,trivial⟩ (Bj rfl Cr) (.pick 0 rfl (.pick 0 rfl .refl))
 | some a=>
  subst hA;refine Y5 ?_;refine T_x (Bs rfl Ayl rfl (fun g5=>?_));refine Y ?_;refine T_mr (enc:=Ak) (sz:=4) (([]:List Ad)) (.here) rfl rfl (fun _=>rfl) dD ?_;refine T_h (Vm Ak ([]:List Ad) p0 rfl rfl Bcg (fun _=>rfl) ha (sb 1) (fun _=>rfl) (by rw[length_nil,Nat.zero_add];exact hb) rfl (fun _ _=>.here) dD (fun A1 c1=>?_));refine Y4 ?_;exact Df (rs:=[.tmp 2]) results130 (.tmp rfl .nil) (Ln:=[.r A1 p0.length c1 108 4 (p0.flatMap Ak)]) ⟨A1,c1,rfl,rfl,trivial⟩ (Bj rfl Cr) (.pick 0 rfl (.pick 0 rfl .refl))
instance(p0:List Ad):Con (Ov p0) prog 130 (fun K vs=>∃ E0 G0,vs=[.slice E0 p0.length G0]/\Has K E0 p0.length G0 4 Ak p0/\True) (fun _ r=>fun v Ln=>∃ A0 c0,v = .slice A0 r.length c0/\Ln=[.r A0 r.length c0 108 4 (r.flatMap Ak)]/\True):=⟨by rintro K _ r ⟨A,c,rfl,ha,-⟩ hx w hK;exact Adk p0 ha hx w hK⟩
structure Aq where
 V:List Ad
 T:List Ah
 Lines:List Ab
def Uw(r0:List Ab):Unit->Option (Sum Unit Unit):=fun s0=>
 if 0<(r0.length:Int) then (bnd (idx r0 0) fun x0=>
 none)
 else (some (.inr ()))
def Rv(p0:List Ad)(p1:List Ab):Option (Aq × Int):=
 bnd (Tg p0) fun r2=>
 if r2=0 then (bnd (Qo p0 p1) fun r8=>
 if r8=0 then (bnd (Wl p1) fun r0=>
 bnd (Vs p0) fun r1=>
 bnd (Lt (⟨p0,([]:List (Ab × Int)),([]:List (Ab × Bool))⟩:Am) r1) fun r3=>
 jn (fun (s0:List Ad × (List (Ab × Int)) × (List (Ab × Bool)))=>
 bnd (Ov p0) fun r4=>
 bnd (El (⟨s0.1,s0.2.1,s0.2.2⟩:Am)) fun r5=>
 some ((⟨r4,r5.2,r0⟩:Aq),0))
 (fun j0=>if 0<((r3.apex.length:Int)) then (jn (fun (s1:Unit)=>
 bnd (Jp r3) fun r6=>
 j0 (r6.v,r6.apex,r6.fixed))
 (fun j1=>bnd (lfix (Uw r0) ()) fun t0=>
 j1 t0))
 else (j0 (r3.v,r3.apex,r3.fixed))))
 else (some ((⟨([]:List Ad),([]:List Ah),([]:List Ab)⟩:Aq),r8)))
 else (some ((⟨([]:List Ad),([]:List Ah),([]:List Ab)⟩:Aq),r2))
instance(p0:Am)(p1:List Int):ConK (Lt p0 p1) prog 126 (fun g0_0 gm0_0 gm0_1 E0 G0 E1 G1 vs Lp=>vs=[.pointer (some ⟨g0_0,0,none⟩),.slice E1 p1.length G1]/\Lp=[.m g0_0 156 [.slice E0 p0.v.length G0,.map (some gm0_0),.map (some gm0_1)],Bb prog 103 An Cs gm0_0 p0.apex,Bb prog 103 An Bu gm0_1 p0.fixed]/\True) (fun E0 G0 E1 G1 K K2=>Has K E0 p0.v.length G0 4 Ak p0.v/\Has K2 E1 p1.length G1 1 Af p1/\True) (fun g0_0 gm0_0 gm0_1 E0 G0 E1 G1 K r=>fun v Ln=>∃ A0 c0,v = .tuple #[]/\Ln=[.m g0_0 156 [.slice A0 r.v.length c0,.map (some gm0_0),.map (some gm0_1)],Bb prog 103 An Cs gm0_0 r.apex,Bb prog 103 An Bu gm0_1 r.fixed]/\Has K A0 r.v.length c0 4 Ak r.v/\True):=⟨by
 rintro g0_0 gm0_0 gm0_1 E0 G0 E1 G1 K K2 _ _ r ⟨rfl,rfl,-⟩ ⟨ha0,ha1,-⟩ hx;unfold Lt at hx;have:=dl 1 [0,0,0,0,0,0,0,0,1,2,0,0,0,1,2,0,0,0,0,1,2,2,0,0] [0,1,2,3,4,5,6,7,8,10,11,12,13,15,16,17,18,19,9,14,20,21,22,23];have:=dl 7 [0,0,0,0,1,2,0,0,0,0,0,1,2,0,0,0,0,1,2,2,0] [0,1,2,3,4,6,7,8,9,10,11,13,14,15,16,17,5,12,18,19,20];have:=dl 8 [0,0,0,0,1,0,0,0,0,1,0,0,0,1,3] [0,1,2,3,4,5,6,7,8,9,10,11,12,13,14];have:=dl 9 [0,0,0,0,0,1,0,0,0,1,0,0,0,1,3] [0,1,2,3,4,5,6,7,8,9,10,11,12,13,14];have:=dl 16 [0,0,1,2,0,0,1,2,0,0,2,2,0] [0,1,2,4,5,6,8,9,3,7,10,11,12];refine CtSK ntmps126 results126 ?_;intro Lf hKf;have hKg:=hKf.r;replace hKf:=hKf.l;refine Aed ?_;try (refine pre ?_;intros;rename_i hx)
 refine Bh ?_;try (refine pre ?_;intros;rename_i hx)
 apply Jr (γ:=Unit) hx [0,1] (fun s2 y2 f=>(4,.int .i64 s2)::f) [0,1,2,1003] (fun s2 y2 l=>l);exact kk
 ·intro s2 y2 hx;try (refine pre ?_;intros;rename_i hx)
  refine Cq1e (s:=39) hx rfl cQ (fun _ hx=>?_) (fun _ hx=>?_)
  ·exact au
  ·try (refine pre ?_;intros;rename_i hx)
   apply JrG (γ:=Option Addr × Nat) hx [0,1,4] (fun s9 y9 f=>f) [1003] (fun s9 y9 l=>.m g0_0 156 [.slice y9.1 s9.1.length y9.2,.map (some gm0_0),.map (some gm0_1)]::Bb prog 103 An Cs gm0_0 s9.2.1::Bb prog 103 An Bu gm0_1 s9.2.2::l) (fun s9 y9=>Has K y9.1 s9.1.length y9.2 4 Ak s9.1/\True);exact kk
   ·intro s9 y9 hx hG;obtain⟨_,-⟩:=hG;try (refine pre ?_;intros;rename_i hx)
    apply LrG (γ:=Option Addr × Nat × Option Addr × Nat) hx [0,101] (fun s0 y0 f=>(100,.slice y0.2.2.1 s0.2.2.2.1.length y0.2.2.2)::(102,.int .i64 s0.2.2.2.2)::f) [1003] (fun s0 y0 l=>.m g0_0 156 [.slice y0.1 s0.1.length y0.2.1,.map (some gm0_0),.map (some gm0_1)]::Bb prog 103 An Cs gm0_0 s0.2.1::Bb prog 103 An Bu gm0_1 s0.2.2.1::l) (fun s0 y0=>Has K y0.1 s0.1.length y0.2.1 4 Ak s0.1/\Has K2 y0.2.2.1 s0.2.2.2.1.length y0.2.2.2 1 Af s0.2.2.2.1/\True) (_,_,_,_);exact kk;exact sF2;exact gG;exact pK2;intro s0 y0 x0 hx _ hG;obtain⟨_,_,-⟩:=hG;unfold Jy at hx;try (refine pre ?_;intros;rename_i hx)
    refine Cq1e (s:=103) hx rfl cQ (fun _ hx=>?_) (fun _ hx=>?_)
    ·try (refine pre ?_;intros;rename_i hx)
     apply JrG (γ:=Option Addr × Nat) hx [0,100,101,102] (fun s1 y1 f=>f) [1003] (fun s1 y1 l=>.m g0_0 156 [.slice y1.1 s1.1.length y1.2,.map (some gm0_0),.map (some gm0_1)]::Bb prog 103 An Cs gm0_0 s1.2.1::Bb prog 103 An Bu gm0_1 s1.2.2::l) (fun s1 y1=>Has K y1.1 s1.1.length y1.2 4 Ak s1.1/\True);exact kk
     ·intro s1 y1 hx hG;obtain⟨_,-⟩:=hG;exact au
     ·intro _ hx;try (refine pre ?_;intros;rename_i hx)
      apply LrG (γ:=Option Addr × Nat) hx [0,7,100,101,102,107,108] (fun s3 y3 f=>(109,.int .i64 s3.2.2.2)::f) [3,1004] (fun s3 y3 l=>.m g0_0 156 [.slice y3.1 s3.1.length y3.2,.map (some gm0_0),.map (some gm0_1)]::Bb prog 103 An Cs gm0_0 s3.2.1::Bb prog 103 An Bu gm0_1 s3.2.2.1::l) (fun s3 y3=>Has K y3.1 s3.1.length y3.2 4 Ak s3.1/\True) (_,_);exact kk;exact sF2;exact gG;exact pK2;intro s3 y3 x1 hx _ hG;obtain⟨_,-⟩:=hG;unfold Dg at hx;exact au
    ·exact au
   ·intro _ hx;try (refine pre ?_;intros;rename_i hx)
    apply LrG (γ:=Option Addr × Nat) hx [0,1,4] (fun s4 y4 f=>(5,.int .i64 s4.2.2.2)::f) [1003] (fun s4 y4 l=>.m g0_0 156 [.slice y4.1 s4.1.length y4.2,.map (some gm0_0),.map (some gm0_1)]::Bb prog 103 An Cs gm0_0 s4.2.1::Bb prog 103 An Bu gm0_1 s4.2.2.1::l) (fun s4 y4=>Has K y4.1 s4.1.length y4.2 4 Ak s4.1/\True) (_,_);exact kk;exact sF2;exact gG;exact pK2;intro s4 y4 x2 hx _ hG;obtain⟨_,-⟩:=hG;unfold Fb at hx;try (refine pre ?_;intros;rename_i hx)
    refine Cq1e (s:=43) hx rfl cQ (fun _ hx=>?_) (fun _ hx=>?_)
    ·exact au
    ·exact au
 ·intro _ hx;try (refine pre ?_;intros;rename_i hx)
  apply Lr (γ:=Unit) hx [0,1] (fun s5 y5 f=>(4,.int .i64 s5)::f) [0,1,2,1003] (fun s5 y5 l=>l) ();exact kk;exact sk;intro s5 y5 x3 hx _;unfold Hj at hx;exact au⟩
instance(p0:Am):ConK (Jp p0) prog 129 (fun g0_0 gm0_0 gm0_1 E0 G0 ua0 uc0 vs Lp=>vs=[.pointer (some ⟨g0_0,0,none⟩)]/\Lp=[.m g0_0 156 [.slice E0 p0.v.length G0,.map (some gm0_0),.map (some gm0_1)],Bb prog 103 An Cs gm0_0 p0.apex,Bb prog 103 An Bu gm0_1 p0.fixed]/\ua0=none/\uc0=0/\True) (fun E0 G0 ua0 uc0 K K2=>Has K E0 p0.v.length G0 4 Ak p0.v/\True) (fun g0_0 gm0_0 gm0_1 E0 G0 ua0 uc0 K r=>fun v Ln=>∃ A0 c0,v = .tuple #[]/\Ln=[.m g0_0 156 [.slice A0 r.v.length c0,.map (some gm0_0),.map (some gm0_1)],Bb prog 103 An Cs gm0_0 r.apex,Bb prog 103 An Bu gm0_1 r.fixed]/\Has K A0 r.v.length c0 4 Ak r.v/\True):=⟨by
 rintro g0_0 gm0_0 gm0_1 E0 G0 _ _ K K2 _ _ r ⟨rfl,rfl,rfl,rfl,-⟩ ⟨ha0,-⟩ hx;unfold Jp at hx;have:=dl 4 [0,0,0,1,1,1,0,0,0,2,2] [0,1,2,3,4,5,6,7,8,9,10];have:=dl 5 [0,0,0,1,0,1,0,1,0,1,0,0,0,2,2] [0,1,2,3,4,5,6,7,8,9,10,11,12,13,14];have:=dl 6 [0,0,0,0,0,0,0,0,0,0,1,1,1,0,0,0,0,1,2,0,0,1,2,0,0,2,0,0,2,2,0] [0,1,2,3,4,5,6,7,8,9,10,11,12,13,14,15,16,17,19,20,21,23,24,26,27,18,22,25,28,29,30];have:=dl 8 [0,0,1,0,2,0,0,1,2,0,1,0,2,0,0,1,2,2,3,2] [0,1,2,3,5,6,7,9,10,11,13,14,15,4,8,12,16,17,18,19];refine CtSK ntmps129 results129 ?_;intro Lf hKf;have hKg:=hKf.r;replace hKf:=hKf.l;refine Aed ?_;try (refine pre ?_;intros;rename_i hx)
 apply LrG (γ:=Option Addr × Nat × Option Addr × Nat) hx [0] (fun s0 y0 f=>(2,.slice y0.2.2.1 s0.2.2.2.length y0.2.2.2)::f) [1004] (fun s0 y0 l=>.m g0_0 156 [.slice y0.1 s0.1.length y0.2.1,.map (some gm0_0),.map (some gm0_1)]::Bb prog 103 An Cs gm0_0 s0.2.1::Bb prog 103 An Bu gm0_1 s0.2.2.1 :: .r y0.2.2.1 s0.2.2.2.length y0.2.2.2 103 2 (s0.2.2.2.flatMap Ar)::l) (fun s0 y0=>Has K y0.1 s0.1.length y0.2.1 4 Ak s0.1/\True) (_,_,_,_);exact kk;exact sF2;exact gG;exact pK2;intro s0 y0 x0 hx _ hG;obtain⟨_,-⟩:=hG;unfold Dh at hx;try (refine pre ?_;intros;rename_i hx)
 refine Cq1e (s:=12) hx rfl cQ (fun _ hx=>?_) (fun _ hx=>?_)
 ·try (refine pre ?_;intros;rename_i hx)
  refine Bh ?_;try (refine pre ?_;intros;rename_i hx)
  apply Jr (γ:=Option Addr × Nat) hx [0,3,4,6] (fun s1 y1 f=>(2,.slice y1.1 s1.1.length y1.2)::(76,.bool s1.2)::f) [0,1,2,3,1005] (fun s1 y1 l=>.r y1.1 s1.1.length y1.2 103 2 (s1.1.flatMap Ar)::l);exact kk
  ·intro s1 y1 hx;exact au
  ·intro _ hx;try (refine pre ?_;intros;rename_i hx)
   refine (Cb4 (s:=48) hx rfl (fun _ hx=>?_) (fun _ hx=>?_)) ⟨_,_,rfl,rfl⟩
   ·try (refine pre ?_;intros;rename_i hx)
    (with_reducible apply Xv 2);exact rfl;exact aT;(with_reducible assumption);exact rfl;exact (fun _=>rfl);exact sA
    exact au
   ·try (refine pre ?_;intros;rename_i hx)
    refine (Cb4 (s:=52) hx rfl (fun _ hx=>?_) (fun _ hx=>?_)) ⟨_,_,rfl,rfl⟩
    ·try (refine pre ?_;intros;rename_i hx)
     (with_reducible apply Xv 2);exact rfl;exact aT;(with_reducible assumption);exact rfl;exact (fun _=>rfl);exact sA
     exact au
    ·try (refine pre ?_;intros;rename_i hx)
     refine (Cb3 (s:=60) hx rfl (fun _ hx=>?_) (fun _ hx=>?_)) ⟨_,_,rfl,rfl⟩
     ·try (refine pre ?_;intros;rename_i hx)
      (with_reducible apply Xv 2);exact rfl;exact aT;(with_reducible assumption);exact rfl;exact (fun _=>rfl);exact sA
      exact au
     ·try (refine pre ?_;intros;rename_i hx)
      (with_reducible apply Xv 2);exact rfl;exact aT;(with_reducible assumption);exact rfl;exact (fun _=>rfl);exact sA
      exact au
 ·exact au⟩
instance(p0:List Ad)(p1:List Ab):Con (Rv p0 p1) prog 71 (fun K vs=>∃ E0 G0 E1 G1,vs=[.slice E0 p0.length G0,.slice E1 p1.length G1]/\Has K E0 p0.length G0 4 Ak p0/\Has K E1 p1.length G1 2 Ar p1/\True) (fun _ r=>fun v Ln=>∃ A0 c0 A2 c2 A4 c4,v = .tuple #[.agg #[.slice A0 r.1.V.length c0,.slice A2 r.1.T.length c2,.slice A4 r.1.Lines.length c4],.int .i64 r.2]/\Ln=[.r A0 r.1.V.length c0 108 4 (r.1.V.flatMap Ak),.r A2 r.1.T.length c2 101 3 (r.1.T.flatMap Ax),.r A4 r.1.Lines.length c4 103 2 (r.1.Lines.flatMap Ar)]/\True):=⟨by
 rintro K _ r ⟨E0,G0,E1,G1,rfl,ha0,ha1,-⟩ hx w hK;replace ha0:=Has.lo ha0 hK;replace ha1:=Has.lo ha1 hK;unfold Rv at hx;refine CtS ntmps71 results71 ?_;try (refine pre ?_;intros;rename_i hx)
 refine Cq2 (s:=15) hx rfl (fun _ hx=>?_) (fun _ hx=>?_)
 ·exact au
 ·try (refine pre ?_;intros;rename_i hx)
  refine Cq2 (s:=22) hx rfl (fun _ hx=>?_) (fun _ hx=>?_)
  ·exact au
  ·try (refine pre ?_;intros;rename_i hx)
   apply JrG (γ:=Option Addr × Nat × Nat × Nat × Nat) hx [0,4,9] (fun s13 y13 f=>(8,.pointer (some ⟨y13.2.2.2.2,0,none⟩))::f) [3,4,5,999] (fun s13 y13 l=>.m y13.2.2.2.2 156 [.slice y13.1 s13.1.length y13.2.1,.map (some y13.2.2.1),.map (some y13.2.2.2.1)]::Bb prog 103 An Cs y13.2.2.1 s13.2.1::Bb prog 103 An Bu y13.2.2.2.1 s13.2.2::l) (fun s13 y13=>Has ([.old w]:List Ent) y13.1 s13.1.length y13.2.1 4 Ak s13.1/\True);exact kk
   ·intro s13 y13 hx hG;obtain⟨_,-⟩:=hG;exact au
   ·intro _ hx;try (refine pre ?_;intros;rename_i hx)
    refine Cq1 (s:=41) hx rfl (fun _ hx=>?_) (fun _ hx=>?_)
    ·try (refine pre ?_;intros;rename_i hx)
     apply Jr (γ:=Unit) hx [0,4,8,9] (fun s15 y15 f=>f) [0,1,2,3,4,5,999] (fun s15 y15 l=>l);exact kk
     ·intro s15 y15 hx;exact au
     ·intro _ hx;try (refine pre ?_;intros;rename_i hx)
      apply Lr (γ:=Unit) hx [0,4,8,9,42,43,44] (fun s55 y55 f=>f) [0,1,2,3,4,5,999] (fun s55 y55 l=>l) ();exact kk;exact sk;intro s55 y55 x55 hx _;unfold Uw at hx;exact au
    ·exact au⟩
instance:Ud prog 295 [.int .i64 0,.int .i64 0,.int .i64 0]:=⟨⟨_,zeroValue295,rfl⟩⟩
instance:Bz prog 295 0 0:=⟨.mk underlying295 rfl rfl (show prog.info? 3=some Tryz.t3 from by kernel_rfl) (show Tryz.t3.size=1 from by kernel_rfl) rfl⟩
instance:Bz prog 295 1 1:=⟨.mk underlying295 rfl rfl (show prog.info? 3=some Tryz.t3 from by kernel_rfl) (show Tryz.t3.size=1 from by kernel_rfl) rfl⟩
instance:Bz prog 295 2 2:=⟨.mk underlying295 rfl rfl (show prog.info? 3=some Tryz.t3 from by kernel_rfl) (show Tryz.t3.size=1 from by kernel_rfl) rfl⟩
instance(x0:Int)(x1:Int)(x2:Int):Je prog 295 [(0,.int .i64 x0),(1,.int .i64 x1),(2,.int .i64 x2)] [.int .i64 x0,.int .i64 x1,.int .i64 x2]:=⟨fun w=>kr⟩
instance:AggI prog 295 3:=⟨.mk underlying295 rfl (show prog.info? 295=some t295 from by kernel_rfl) kr⟩
def Au(p0:Ad):Option Ac :=
 some (⟨p0.X,p0.Y⟩:Ac)
def Fc(p0:Ac):Option Bool :=
 jn (fun (s2:Bool)=>
 some s2)
 (fun j2=>if (-268435456)<=p0.X then (if p0.X<=268435456 then (if (-268435456)<=p0.Y then (j2 (decide (p0.Y<=268435456)))
 else (j2 false))
 else (j2 false))
 else (j2 false))
def Gi(p0:Ad):Option Bool :=
 jn (fun (s2:Bool)=>
 some s2)
 (fun j2=>bnd (Au p0) fun r2=>
 bnd (Fc r2) fun r5=>
 if r5=true then (if (-268435456)<=p0.Z.Lo then (if p0.Z.Lo<=p0.Z.Hi then (j2 (decide (p0.Z.Hi<=268435456)))
 else (j2 false))
 else (j2 false))
 else (j2 false))
def Gj(p0:Ac)(p1:Ac):Option Bool :=
 jn (fun (s2:Bool)=>
 some s2)
 (fun j2=>if p0.X<p1.X then (j2 true)
 else (if p0.X=p1.X then (j2 (decide (p0.Y<p1.Y)))
 else (j2 false)))
def Sm(p0:Ac)(p1:Ac)(p2:Ac):Option Int :=
 some (w64 ((w64 ((w64 (p1.X-p0.X))*(w64 (p2.Y-p0.Y))))-(w64 ((w64 (p1.Y-p0.Y))*(w64 (p2.X-p0.X))))))
def Jh(p0:Int):Option Int :=
 if p0<0 then (some (-1))
 else (if 0<p0 then (some 1)
 else (some 0))
def Eb(p0:Ac)(p1:Ac)(p2:Ac):Option Int :=
 bnd (Sm p0 p1 p2) fun r4=>
 bnd (Jh r4) fun r7=>
 some r7
structure Cp where
 high:Int
 middle:Int
 low:Int
def Ew(p0:Cp)(p1:Int)(p2:Int):Option Cp :=
 some (⟨w64 (p0.high+(w64 ((shr_ .i64 p1 30)*(shr_ .i64 p2 30)))),w64 ((w64 (p0.middle+(w64 ((shr_ .i64 p1 30)*(Ds .i64 p2 1073741823)))))+(w64 ((Ds .i64 p1 1073741823)*(shr_ .i64 p2 30)))),w64 (p0.low+(w64 ((Ds .i64 p1 1073741823)*(Ds .i64 p2 1073741823))))⟩:Cp)
def It(p0:Cp):Option Int :=
 if (w64 (p0.high+(shr_ .i64 (w64 (p0.middle+(shr_ .i64 p0.low 30))) 30)))=0 then (bnd (Jh (w64 ((Ds .i64 (w64 (p0.middle+(shr_ .i64 p0.low 30))) 1073741823)+(Ds .i64 p0.low 1073741823)))) fun r8=>
 some r8)
 else (bnd (Jh (w64 (p0.high+(shr_ .i64 (w64 (p0.middle+(shr_ .i64 p0.low 30))) 30)))) fun r4=>
 some r4)
def Nd(p0:Ac)(p1:Ac)(p2:Ac)(p3:Ac):Option Int :=
 bnd (Ew (⟨0,0,0⟩:Cp) (w64 ((w64 ((w64 (p0.X-p3.X))*(w64 (p0.X-p3.X))))+(w64 ((w64 (p0.Y-p3.Y))*(w64 (p0.Y-p3.Y)))))) (w64 ((w64 ((w64 (p1.X-p3.X))*(w64 (p2.Y-p3.Y))))-(w64 ((w64 (p1.Y-p3.Y))*(w64 (p2.X-p3.X))))))) fun r6=>
 bnd (Ew r6 (w64 ((w64 ((w64 (p1.X-p3.X))*(w64 (p1.X-p3.X))))+(w64 ((w64 (p1.Y-p3.Y))*(w64 (p1.Y-p3.Y)))))) (w64 ((w64 ((w64 (p2.X-p3.X))*(w64 (p0.Y-p3.Y))))-(w64 ((w64 (p2.Y-p3.Y))*(w64 (p0.X-p3.X))))))) fun r9=>
 bnd (Ew r9 (w64 ((w64 ((w64 (p2.X-p3.X))*(w64 (p2.X-p3.X))))+(w64 ((w64 (p2.Y-p3.Y))*(w64 (p2.Y-p3.Y)))))) (w64 ((w64 ((w64 (p0.X-p3.X))*(w64 (p1.Y-p3.Y))))-(w64 ((w64 (p0.Y-p3.Y))*(w64 (p1.X-p3.X))))))) fun r0=>
 bnd (It r0) fun r1=>
 some r1
instance Aeq(p0:Ad):Con (Au p0) prog 203 (fun _ vs=>vs=[.agg #[.int .i64 p0.X,.int .i64 p0.Y,.int .i64 p0.Z.Lo,.int .i64 p0.Z.Hi]]) (fun _ r=>fun v Ln=>v = .agg #[.int .i64 r.X,.int .i64 r.Y]/\Ln=[]/\True):=⟨by
 rintro _ _ r rfl hx w hK;unfold Au at hx;refine CtS ntmps203 results203 ?_;exact au⟩
theorem Ww(p0:Ad){r:Ac}(hx:Au p0=some r)(w:World):CtL prog 203 [.agg #[.int .i64 p0.X,.int .i64 p0.Y,.int .i64 p0.Z.Lo,.int .i64 p0.Z.Hi]] w fun v Ln=>v = .agg #[.int .i64 r.X,.int .i64 r.Y]/\Ln=[]/\True:=(Aeq p0).h [] _ _ rfl hx w (fun _ h=>absurd h not_mem_nil)
instance(p0:Ac):Con (Fc p0) prog 139 (fun _ vs=>vs=[.agg #[.int .i64 p0.X,.int .i64 p0.Y]]) (fun _ r=>fun v Ln=>v = .bool r/\Ln=[]/\True):=⟨by
 rintro _ _ r rfl hx w hK;unfold Fc at hx;refine CtS ntmps139 results139 ?_;exact au⟩
instance(p0:Ad):Con (Gi p0) prog 241 (fun _ vs=>vs=[.agg #[.int .i64 p0.X,.int .i64 p0.Y,.int .i64 p0.Z.Lo,.int .i64 p0.Z.Hi]]) (fun _ r=>fun v Ln=>v = .bool r/\Ln=[]/\True):=⟨by
 rintro _ _ r rfl hx w hK;unfold Gi at hx;refine CtS ntmps241 results241 ?_;exact au⟩
instance Adl(p0:Ac)(p1:Ac):Con (Gj p0 p1) prog 244 (fun _ vs=>vs=[.agg #[.int .i64 p0.X,.int .i64 p0.Y],.agg #[.int .i64 p1.X,.int .i64 p1.Y]]) (fun _ r=>fun v Ln=>v = .bool r/\Ln=[]/\True):=⟨by
 rintro _ _ r rfl hx w hK;unfold Gj at hx;refine CtS ntmps244 results244 ?_;exact au⟩
theorem Acl(p0:Ac)(p1:Ac){r:Bool}(hx:Gj p0 p1=some r)(w:World):CtL prog 244 [.agg #[.int .i64 p0.X,.int .i64 p0.Y],.agg #[.int .i64 p1.X,.int .i64 p1.Y]] w fun v Ln=>v = .bool r/\Ln=[]/\True:=(Adl p0 p1).h [] _ _ rfl hx w (fun _ h=>absurd h not_mem_nil)
instance(p0:Ac)(p1:Ac)(p2:Ac):Con (Sm p0 p1 p2) prog 251 (fun _ vs=>vs=[.agg #[.int .i64 p0.X,.int .i64 p0.Y],.agg #[.int .i64 p1.X,.int .i64 p1.Y],.agg #[.int .i64 p2.X,.int .i64 p2.Y]]) (fun _ r=>fun v Ln=>v = .int .i64 r/\Ln=[]/\True):=⟨by
 rintro _ _ r rfl hx w hK;unfold Sm at hx;refine CtS ntmps251 results251 ?_;exact au⟩
instance(p0:Int):Con (Jh p0) prog 250 (fun _ vs=>vs=[.int .i64 p0]) (fun _ r=>fun v Ln=>v = .int .i64 r/\Ln=[]/\True):=⟨by
 rintro _ _ r rfl hx w hK;unfold Jh at hx;refine CtS ntmps250 results250 ?_;exact au⟩
instance(p0:Ac)(p1:Ac)(p2:Ac):Con (Eb p0 p1 p2) prog 202 (fun _ vs=>vs=[.agg #[.int .i64 p0.X,.int .i64 p0.Y],.agg #[.int .i64 p1.X,.int .i64 p1.Y],.agg #[.int .i64 p2.X,.int .i64 p2.Y]]) (fun _ r=>fun v Ln=>v = .int .i64 r/\Ln=[]/\True):=⟨by
 rintro _ _ r rfl hx w hK;unfold Eb at hx;refine CtS ntmps202 results202 ?_;exact au⟩
instance(p0:Cp)(p1:Int)(p2:Int):Con (Ew p0 p1 p2) prog 299 (fun _ vs=>vs=[.agg #[.int .i64 p0.high,.int .i64 p0.middle,.int .i64 p0.low],.int .i64 p1,.int .i64 p2]) (fun _ r=>fun v Ln=>v = .agg #[.int .i64 r.high,.int .i64 r.middle,.int .i64 r.low]/\Ln=[]/\True):=⟨by
 rintro _ _ r rfl hx w hK;unfold Ew at hx;refine CtS ntmps299 results299 ?_;exact au⟩
instance(p0:Cp):Con (It p0) prog 300 (fun _ vs=>vs=[.agg #[.int .i64 p0.high,.int .i64 p0.middle,.int .i64 p0.low]]) (fun _ r=>fun v Ln=>v = .int .i64 r/\Ln=[]/\True):=⟨by
 rintro _ _ r rfl hx w hK;unfold It at hx;refine CtS ntmps300 results300 ?_;exact au⟩
instance(p0:Ac)(p1:Ac)(p2:Ac)(p3:Ac):Con (Nd p0 p1 p2 p3) prog 246 (fun _ vs=>vs=[.agg #[.int .i64 p0.X,.int .i64 p0.Y],.agg #[.int .i64 p1.X,.int .i64 p1.Y],.agg #[.int .i64 p2.X,.int .i64 p2.Y],.agg #[.int .i64 p3.X,.int .i64 p3.Y]]) (fun _ r=>fun v Ln=>v = .int .i64 r/\Ln=[]/\True):=⟨by
 rintro _ _ r rfl hx w hK;unfold Nd at hx;have:=dl 1 [0,1,0,1,0,0,1,0,1,0,0,1,0,1,0,0,1,0,1,0,0,1,0,1,0,0,1,0,1,0,2,2,2,2,2,2] [0,1,2,3,4,5,6,7,8,9,10,11,12,13,14,15,16,17,18,19,20,21,22,23,24,25,26,27,28,29,30,31,32,33,34,35];refine CtS ntmps246 results246 ?_;exact au⟩
theorem Aym(a:Int):shr_ .i64 a 30=a / 1073741824:=by
 unfold shr_;rw[show (2:Int) ^ (min (30:Int).toNat IntKind.i64.bits)=1073741824 from by decide,Int.fdiv_eq_ediv_of_nonneg _ oo]
theorem Ayn(a:Int):Ds .i64 a 1073741823=a % 1073741824:=by
 unfold Ds;have h1:(BitVec.ofInt 64 1073741823).toNat=2 ^ 30-1:=dD;have h2:(BitVec.ofInt 64 a).toNat=(a % 18446744073709551616).toNat:=by simp[BitVec.toNat_ofInt]
 have h3:(BitVec.ofInt IntKind.i64.bits a &&& BitVec.ofInt IntKind.i64.bits 1073741823).toNat=(a % 1073741824).toNat:=by
  show (BitVec.ofInt 64 a &&& BitVec.ofInt 64 1073741823).toNat=_;rw[BitVec.toNat_and,h1,Nat.and_two_pow_sub_one_eq_mod,h2];omega
 rw[h3];show IntKind.wrap .i64 _=_;rw[IntKind.wrap_i64];omega
def wval(w:Cp):Int:=w.high*1152921504606846976+w.middle*1073741824+w.low
structure Aq8(w:Cp)(n z:Int):Prop where
 val:wval w=z
 high:-(n*288230376151711744)<=w.high/\w.high<=n*288230376151711744
 middle:-(n*1152921504606846976)<=w.middle/\w.middle<=n*1152921504606846976
 low:0<=w.low/\w.low<=n*1152921504606846976
theorem Aj5{w:Cp}{n z a b:Int}(h:Aq8 w n z)(hn0:0<=n)(hn:n<=2)(ha1:-576460752303423488<=a)(ha2:a<=576460752303423488)(hb1:-576460752303423488<=b)(hb2:b<=576460752303423488):
  ∃ w',Ew w a b=some w'/\Aq8 w' (n+1) (z+a*b):=by
 obtain⟨h0,h1,h2,h3⟩:=h;unfold Ew;rw[Aym,Aym,Ayn,Ayn];have ea:a=a / 1073741824*1073741824+a % 1073741824:=oo;have eb:b=b / 1073741824*1073741824+b % 1073741824:=oo;have A1:-536870912<=a / 1073741824/\a / 1073741824<=536870912:=oo;have B1:-536870912<=b / 1073741824/\b / 1073741824<=536870912:=oo;have A0:0<=a % 1073741824/\a % 1073741824<=1073741824:=oo;have B0:0<=b % 1073741824/\b % 1073741824<=1073741824:=oo;generalize a / 1073741824=a1 at *;generalize b / 1073741824=b1 at *;generalize a % 1073741824=a0 at *;generalize b % 1073741824=b0 at *;have p1:=mulB (x:=a1) (y:=b1) (M:=536870912) (N:=536870912) oo oo oo oo oo;have p2:=mulB (x:=a1) (y:=b0) (M:=536870912) (N:=1073741824) oo oo oo oo oo;have p3:=mulB (x:=a0) (y:=b1) (M:=1073741824) (N:=536870912) oo oo oo oo oo;have p4:=mulB (x:=a0) (y:=b0) (M:=1073741824) (N:=1073741824) oo oo oo oo oo;have p5:0<=a0*b0:=Int.mul_nonneg A0.1 B0.1;have e:a*b=a1*b1*1152921504606846976+(a1*b0+a0*b1)*1073741824+a0*b0:=by
  rw[ea,eb];grind
 rw[Av (x:=a1*b1) oo oo,Av (x:=a1*b0) oo oo,Av (x:=a0*b1) oo oo,Av (x:=a0*b0) oo oo,
  Av (x:=w.high+a1*b1) oo oo,Av (x:=w.middle+a1*b0) oo oo,Av oo oo,Av oo oo]
 refine⟨_,rfl,?_,?_,?_,?_⟩
 ·unfold wval at h0 ⊢;simp only;omega
 ·simp only;omega
 ·simp only;omega
 ·simp only;omega
theorem Aj6(z:Int):Jh z=some (Int.sign z):=by
 unfold Jh
 by_cases h:z<0
 ·rw[if_pos h,Int.sign_eq_neg_one_of_neg h]
 ·rw[if_neg h]
  by_cases h2:0<z
  ·rw[if_pos h2,Int.sign_eq_one_of_pos h2]
  ·rw[if_neg h2,show z=0 by omega];rfl
theorem Auy{w:Cp}{z:Int}(h:Aq8 w 3 z):It w=some (Int.sign z):=by
 obtain⟨h0,h1,h2,h3⟩:=h;unfold It;simp only[Aym,Ayn];have e1:w.low=w.low / 1073741824*1073741824+w.low % 1073741824:=oo;rw[Av (x:=w.middle+w.low / 1073741824) oo oo];have e2:w.middle+w.low / 1073741824=(w.middle+w.low / 1073741824) / 1073741824*1073741824+(w.middle+w.low / 1073741824) % 1073741824:=oo;unfold wval at h0;have l0:0<=w.low % 1073741824/\w.low % 1073741824<1073741824:=oo;have m0:0<=(w.middle+w.low / 1073741824) % 1073741824/\(w.middle+w.low / 1073741824) % 1073741824<1073741824:=oo;have hb:-4611686018427387904<=w.high+(w.middle+w.low / 1073741824) / 1073741824/\w.high+(w.middle+w.low / 1073741824) / 1073741824<=4611686018427387904:=oo;have hz:z=(w.high+(w.middle+w.low / 1073741824) / 1073741824)*1152921504606846976+(w.middle+w.low / 1073741824) % 1073741824*1073741824+w.low % 1073741824:=oo;clear e1 e2 h0 h1 h2 h3;rw[Av (x:=w.high+(w.middle+w.low / 1073741824) / 1073741824) oo oo];generalize w.high+(w.middle+w.low / 1073741824) / 1073741824=H at *;generalize (w.middle+w.low / 1073741824) % 1073741824=M at *;generalize w.low % 1073741824=L at *
 by_cases c:H=0
 ·rw[if_pos c,Av oo oo,Aj6,Ae];congr 1
  by_cases c2:M+L=0
  ·rw[c2,show z=0 by omega]
  ·rw[Int.sign_eq_one_of_pos oo,Int.sign_eq_one_of_pos oo]
 ·rw[if_neg c,Aj6,Ae];congr 1
  by_cases c2:H<0
  ·rw[Int.sign_eq_neg_one_of_neg c2,Int.sign_eq_neg_one_of_neg oo]
  ·rw[Int.sign_eq_one_of_pos oo,Int.sign_eq_one_of_pos oo]
theorem Auz{a b c:Ac}(ha:okP a)(hb:okP b)(hc:okP c):Sm a b c=some (crs a b c):=Vb ha hb hc
theorem Aab{a b c:Ac}(ha:okP a)(hb:okP b)(hc:okP c):Eb a b c=some (Int.sign (crs a b c)):=by
 unfold Eb;rw[Auz ha hb hc,Ae,Aj6,Ae]
theorem Aq9{a b c d:Ac}(ha:okP a)(hb:okP b)(hc:okP c)(hd:okP d):Nd a b c d=some (Int.sign (inC a b c d)):=by
 have l1:=Aet ha hd;have l2:=Aet hb hd;have l3:=Aet hc hd;have c1:=Ha hd hb hc;have c2:=Ha hd hc ha;have c3:=Ha hd ha hb;obtain⟨w1,e1,i1⟩:=Aj5 (w:=⟨0,0,0⟩) (n:=0) (z:=0) (a:=lft a d) (b:=crs d b c) ⟨rfl,s_,s_,s_⟩ oo oo oo oo oo oo;obtain⟨w2,e2,i2⟩:=Aj5 (a:=lft b d) (b:=crs d c a) i1 oo oo oo oo oo oo;obtain⟨w3,e3,i3⟩:=Aj5 (a:=lft c d) (b:=crs d a b) i2 oo oo oo oo oo oo;have x1:w64 (w64 (w64 (a.X-d.X)*w64 (a.X-d.X))+w64 (w64 (a.Y-d.Y)*w64 (a.Y-d.Y)))=lft a d:=Option.some.inj (Ac9 ha hd);have x2:w64 (w64 (w64 (b.X-d.X)*w64 (b.X-d.X))+w64 (w64 (b.Y-d.Y)*w64 (b.Y-d.Y)))=lft b d:=Option.some.inj (Ac9 hb hd);have x3:w64 (w64 (w64 (c.X-d.X)*w64 (c.X-d.X))+w64 (w64 (c.Y-d.Y)*w64 (c.Y-d.Y)))=lft c d:=Option.some.inj (Ac9 hc hd);have y1:w64 (w64 (w64 (b.X-d.X)*w64 (c.Y-d.Y))-w64 (w64 (b.Y-d.Y)*w64 (c.X-d.X)))=crs d b c:=Option.some.inj (Vb hd hb hc);have y2:w64 (w64 (w64 (c.X-d.X)*w64 (a.Y-d.Y))-w64 (w64 (c.Y-d.Y)*w64 (a.X-d.X)))=crs d c a:=Option.some.inj (Vb hd hc ha);have y3:w64 (w64 (w64 (a.X-d.X)*w64 (b.Y-d.Y))-w64 (w64 (a.Y-d.Y)*w64 (b.X-d.X)))=crs d a b:=Option.some.inj (Vb hd ha hb);unfold Nd;simp only[x1,x2,x3,y1,y2,y3,e1,Ae,e2,e3];rw[Auy (by simpa using i3),Ae];simp[inC]
def befP(p q:Ac):Prop:=p.X<q.X\/p.X=q.X/\p.Y<q.Y
instance(p q:Ac):Decidable (befP p q):=by unfold befP;infer_instance
def Cy(p q:Ac):Prop:=p.X=q.X/\p.Y=q.Y
instance(p q:Ac):Decidable (Cy p q):=by unfold Cy;infer_instance
theorem Afw{p q:Ac}(h:Cy p q):p=q:=by
 obtain⟨x,y⟩:=p;obtain⟨x',y'⟩:=q;obtain⟨h1,h2⟩:=h;simp only at h1 h2;rw[h1,h2]
def Nr(a b:Ac):Ac:=if befP b a then b else a
theorem Ayo(a b:Ac):Ke a b=some (decide (befP a b)):=by
 unfold Ke jn befP;simp only
 by_cases h1:a.X<b.X
 ·simp[h1]
 ·by_cases h2:a.X=b.X
  ·simp[h2]
  ·simp[h1,h2]
theorem Atd(a:Ac):Fc a=some (decide (okP a)):=by
 unfold Fc;rw[jn_d]
 by_cases h1:-268435456<=a.X
 ·rw[if_pos h1]
  by_cases h2:a.X<=268435456
  ·rw[if_pos h2]
   by_cases h3:-268435456<=a.Y
   ·rw[if_pos h3]
    by_cases h4:a.Y<=268435456
    ·rw[decide_eq_true h4,decide_eq_true (show okP a by unfold okP;omega)]
    ·rw[decide_eq_false h4,decide_eq_false (show ¬ okP a by unfold okP;omega)]
   ·rw[if_neg h3,decide_eq_false (show ¬ okP a by unfold okP;omega)]
  ·rw[if_neg h2,decide_eq_false (show ¬ okP a by unfold okP;omega)]
 ·rw[if_neg h1,decide_eq_false (show ¬ okP a by unfold okP;omega)]
theorem Ara(B:(Int × Int × Int)->Option (Sum (Int × Int × Int) (Int × Int)))(p q r:Ac)(hB:∀ x y i,B (x,y,i)=if i<3 then bnd (idx [p,q,r] i) fun z=>some (.inl ((Nr ⟨x,y⟩ z).X,(Nr ⟨x,y⟩ z).Y,w64 (i+1))) else some (.inr (x,y)))(x y:Int):
  lfix B (x,y,0)=some ((Nr (Nr (Nr ⟨x,y⟩ p) q) r).X,(Nr (Nr (Nr ⟨x,y⟩ p) q) r).Y):=by
 have w1:w64 (0+1)=1:=Av oo oo;have w2:w64 (1+1)=2:=Av oo oo;have w3:w64 (2+1)=3:=Av oo oo;have i0:idx [p,q,r] 0=some p:=rfl;have i1:idx [p,q,r] 1=some q:=rfl;have i2:idx [p,q,r] 2=some r:=rfl;rw[Ba,hB,if_pos oo,i0,Ae,w1];simp only;rw[Ba,hB,if_pos oo,i1,Ae,w2];simp only;rw[Ba,hB,if_pos oo,i2,Ae,w3];simp only;rw[Ba,hB,if_neg oo]
theorem Au0{a b c d:Ac}(h1:¬ Cy a c)(h2:¬ Cy a d)(h3:¬ Cy b c)(h4:¬ Cy b d):
  (Cy (Nr (Nr (Nr a b) c) d) c\/Cy (Nr (Nr (Nr a b) c) d) d)↔((befP c a/\befP c b)\/(befP d a/\befP d b)):=by
 have key:∀ p q:Ac,(befP q p/\Nr p q=q)\/(¬ befP q p/\Nr p q=p):=fun p q=>by
  unfold Nr
  by_cases h:befP q p
  ·exact .inl ⟨h,if_pos h⟩
  ·exact .inr ⟨h,if_neg h⟩
 rcases key a b with⟨k1,e1⟩|⟨k1,e1⟩ <;> rw[e1]
 ·rcases key b c with⟨k2,e2⟩|⟨k2,e2⟩ <;> rw[e2]
  ·rcases key c d with⟨k3,e3⟩|⟨k3,e3⟩ <;> rw[e3] <;> unfold Cy befP at * <;> omega
  ·rcases key b d with⟨k3,e3⟩|⟨k3,e3⟩ <;> rw[e3] <;> unfold Cy befP at * <;> omega
 ·rcases key a c with⟨k2,e2⟩|⟨k2,e2⟩ <;> rw[e2]
  ·rcases key c d with⟨k3,e3⟩|⟨k3,e3⟩ <;> rw[e3] <;> unfold Cy befP at * <;> omega
  ·rcases key a d with⟨k3,e3⟩|⟨k3,e3⟩ <;> rw[e3] <;> unfold Cy befP at * <;> omega
def legP(a b c d:Ac):Prop:=Int.sign (crs a b c)*Int.sign (inC a b c d)<0\/Int.sign (crs a b c)*Int.sign (inC a b c d)=0/\((befP c a/\befP c b)\/(befP d a/\befP d b))
instance(a b c d:Ac):Decidable (legP a b c d):=by unfold legP;infer_instance
theorem Au1(a c:Ac):crs a c c=0:=by unfold crs;grind
theorem Gs(a b:Ac):crs a b a=0:=by unfold crs;grind
theorem Cm(a b:Ac):crs a b b=0:=by unfold crs;grind
theorem Aac(a b:Ac):crs a a b=0:=by unfold crs;grind
theorem Cq(a b c:Ac):crs b a c = -crs a b c:=by unfold crs;grind
theorem Ca(a b c:Ac):crs b c a=crs a b c:=by unfold crs;grind
theorem Ayp{a b c d:Ac}(ha:okP a)(hb:okP b)(hc:okP c)(hd:okP d)(h1:¬ Cy a c)(h2:¬ Cy a d)(h3:¬ Cy b c)(h4:¬ Cy b d):Vu a b c d=some (decide (legP a b c d)):=by
 unfold Vu;rw[Au5,if_pos ⟨ha,hb,hc,hd⟩,Ae];have e:(if crs a b c=0 then ((0:Int),(12:Int)) else (Int.sign (crs a b c)*Int.sign (inC a b c d),0)).1=Int.sign (crs a b c)*Int.sign (inC a b c d):=by
  split
  ·rename_i h;rw[h];simp
  ·rfl
 rw[e]
 by_cases h0:Int.sign (crs a b c)*Int.sign (inC a b c d)=0
 ·rw[if_pos h0,jn_d,Ara _ b c d (fun x y i=>?_),Ae]
  ·dsimp only;rw[jn_d];have hl:=Au0 h1 h2 h3 h4
   by_cases hcc:Cy (Nr (Nr (Nr a b) c) d) c
   ·have:legP a b c d:=.inr ⟨h0,hl.1 (.inl hcc)⟩;rw[if_pos (by simpa[Cy] using hcc),decide_eq_true this]
   ·rw[if_neg (by simpa[Cy] using hcc)];congr 1;rw[Bool.eq_iff_iff];simp only[Bool.and_true,Bool.and_eq_true,beq_iff_eq,decide_eq_true_eq];unfold legP;constructor
    ·intro h;exact .inr ⟨h0,hl.1 (.inr h)⟩
    ·rintro (h | ⟨_,h⟩)
     ·omega
     ·exact (hl.2 h).resolve_left hcc
  ·unfold Zi;simp only;split
   ·refine congrArg (bnd _) (funext fun z=>?_);rw[Ayo,Ae];unfold Nr
    by_cases hb:befP z ⟨x,y⟩
    ·rw[if_pos (by simpa using hb),if_pos hb]
    ·rw[if_neg (by simpa using hb),if_neg hb]
   ·rfl
 ·rw[if_neg h0];congr 1;rw[Bool.eq_iff_iff];simp only[decide_eq_true_eq];unfold legP;constructor
  ·intro h;exact .inl h
  ·rintro (h | ⟨h,_⟩)
   ·exact h
   ·exact absurd h h0
theorem Agr{x y:Int}:Int.sign x*Int.sign y = -1↔(x<0/\0<y)\/(0<x/\y<0):=by
 rcases Int.lt_trichotomy x 0 with h | h | h <;> rcases Int.lt_trichotomy y 0 with h' | h' | h'
 all_goals first
  | (rw[Int.sign_eq_neg_one_of_neg h];try rw[Int.sign_eq_neg_one_of_neg h'])
  | (rw[Int.sign_eq_one_of_pos h];try rw[Int.sign_eq_neg_one_of_neg h'])
  | (rw[h])
 all_goals try rw[Int.sign_eq_one_of_pos h']
 all_goals try rw[h']
 all_goals simp
 all_goals omega
theorem Apk{x y:Int}:w64 (Int.sign x*Int.sign y)=Int.sign x*Int.sign y:=by
 apply Av
 ·rcases Int.sign_trichotomy x with h | h | h <;> rcases Int.sign_trichotomy y with h' | h' | h' <;> simp[h,h']
 ·rcases Int.sign_trichotomy x with h | h | h <;> rcases Int.sign_trichotomy y with h' | h' | h' <;> simp[h,h']
theorem Anh{x y:Int}:0<=Int.sign x*Int.sign y↔¬ Int.sign x*Int.sign y = -1:=by
 rcases Int.sign_trichotomy x with h | h | h <;> rcases Int.sign_trichotomy y with h' | h' | h' <;> simp[h,h']
theorem Ani{a b c d:Ac}(h:Int.sign (crs a b c)*Int.sign (crs a b d) = -1):¬ Cy a c/\¬ Cy a d/\¬ Cy b c/\¬ Cy b d:=by
 rw[Agr] at h;refine⟨fun e=>?_,fun e=>?_,fun e=>?_,fun e=>?_⟩ <;> (have:=Afw e;subst this;simp only[Au1,Gs,Cm] at h;omega)
end
end
end Go.Proofs.YthlkpgdfifnagaaGreat
