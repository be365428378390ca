import Derived.Test.YthlkpgdfifnagaaGreatB1
set_option maxRecDepth 100000
set_option maxHeartbeats 1000000
namespace Go.Proofs.YthlkpgdfifnagaaGreat
open Go Go.RowKit Tryz
noncomputable section
theorem Alx(a b c p:Ab):crs b c p+crs c a p+crs a b p=crs a b c:=by unfold crs;grind
theorem Ar6{w0 w1 w2:Int}(n0:0<=w0)(n1:0<=w1)(n2:0<=w2)(hA:w0+w1+w2<=2305843009213693952)(h0:0<w0+w1+w2){p:Ag}(k0:-1099511627776<=p.a0/\p.a0<=1099511627776)(k1:-1099511627776<=p.a1/\p.a1<=1099511627776)(k2:-1099511627776<=p.a2/\p.a2<=1099511627776):
  Oc ⟨w0,w1,w2⟩ p=some ((w0*p.a0+w1*p.a1+w2*p.a2)/(w0+w1+w2),-((-(w0*p.a0+w1*p.a1+w2*p.a2))/(w0+w1+w2))):=by
 obtain⟨m0,rfl⟩:=Int.eq_ofNat_of_zero_le n0;obtain⟨m1,rfl⟩:=Int.eq_ofNat_of_zero_le n1;obtain⟨m2,rfl⟩:=Int.eq_ofNat_of_zero_le n2;obtain⟨b,hb⟩:∃b,min (min p.a0 p.a1) p.a2=b:=⟨_,rfl⟩;obtain⟨d0,e0⟩:∃d:Nat,p.a0=b+d:=⟨(p.a0-b).toNat,oo⟩;obtain⟨d1,e1⟩:∃d:Nat,p.a1=b+d:=⟨(p.a1-b).toNat,oo⟩;obtain⟨d2,e2⟩:∃d:Nat,p.a2=b+d:=⟨(p.a2-b).toNat,oo⟩;have h:=Azz (m0:=m0) (m1:=m1) (m2:=m2) (d0:=d0) (d1:=d1) (d2:=d2) (b:=b) (p:=p) oo oo oo oo oo oo oo hb e0 e1 e2;rw[h];have hS:(m0:Int)*p.a0+(m1:Int)*p.a1+(m2:Int)*p.a2=((m0*d0+m1*d1+m2*d2:Nat):Int)+b*((m0+m1+m2:Nat):Int):=by
  rw[e0,e1,e2];push_cast;grind
 have hA2:(m0:Int)+(m1:Int)+(m2:Int)=((m0+m1+m2:Nat):Int):=by push_cast;rfl
 rw[hS,hA2];have hpos:0<m0+m1+m2:=oo;clear hS hA2 h e0 e1 e2 hb n0 n1 n2 hA h0 k0 k1 k2;generalize m0*d0+m1*d1+m2*d2=N at *;generalize m0+m1+m2=A at *;have q1:=Nat.div_add_mod N A;have q2:=Nat.mod_lt N hpos;generalize N/A=q at *;generalize N%A=r at *;have q3:(N:Int)=(A:Int)*(q:Int)+(r:Int):=by rw[<-q1];push_cast;rfl
 have l1:((N:Int)+b*(A:Int))/(A:Int)=b+(q:Int):=X.ediv_of (r:=(r:Int)) oo (by rw[q3];grind) oo oo
 by_cases hr:0<r
 .have l2:(-((N:Int)+b*(A:Int)))/(A:Int) = -(b+(q:Int)+1):=X.ediv_of (r:=(A:Int)-(r:Int)) oo (by rw[q3];grind) oo oo;rw[l1,l2,if_pos hr,Int.neg_neg]
 .have l2:(-((N:Int)+b*(A:Int)))/(A:Int) = -(b+(q:Int)):=X.ediv_of (r:=0) oo (by rw[q3,show r=0 by omega];grind) oo oo;rw[l1,l2,if_neg hr,Int.neg_neg,Int.add_zero]
def zV(v:List Ae)(i:Int):Av:=match idx v i with
 |some x=>x.Z
 |none=>⟨0,0⟩
def covT(v:List Ae)(at_:Ab)(t:Ag):Bool:=decide (0<=crs (plV v t.a0) (plV v t.a1) at_/\0<=crs (plV v t.a1) (plV v t.a2) at_/\0<=crs (plV v t.a2) (plV v t.a0) at_)
def Pg(v:List Ae)(t:Ag):Int:=crs (plV v t.a0) (plV v t.a1) (plV v t.a2)
def wsum(v:List Ae)(at_:Ab)(t:Ag)(f:Av->Int):Int :=
 crs (plV v t.a1) (plV v t.a2) at_*f (zV v t.a0)+crs (plV v t.a2) (plV v t.a0) at_*f (zV v t.a1)+crs (plV v t.a0) (plV v t.a1) at_*f (zV v t.a2)
def bndT(v:List Ae)(at_:Ab)(t:Ag):Av:=⟨wsum v at_ t (·.Lo)/Pg v t,-((-(wsum v at_ t (·.Hi)))/Pg v t)⟩
def locT(v:List Ae)(T:List Ag)(at_:Ab):Option Nat:=T.findIdx? (covT v at_)
def gapI(a b:Av):Int:=max (max 0 (a.Lo-b.Hi)) (b.Lo-a.Hi)
def Nl(v:List Ae)(r:Af)(p:Aa)(k:Int):Bool :=
 decide (gapI p.Z (zV v k)*gapI p.Z (zV v k)*1000000<=r.Slope*r.Slope*((p.X-(plV v k).X)*(p.X-(plV v k).X)+(p.Y-(plV v k).Y)*(p.Y-(plV v k).Y)))
def fitV(v:List Ae)(T:List Ag)(r:Af)(p:Aa):Int×Bool×Int:=match locT v T (X.plF p) with
 |none=>(-1,false,0)
 |some i=>match idx T (i:Int) with
  |none=>(-1,false,0)
  |some t=>
   if r.Reach<gapI p.Z (bndT v (X.plF p) t) then ((i:Int),false,0) else
   if Nl v r p t.a0=true/\Nl v r p t.a1=true/\Nl v r p t.a2=true then ((i:Int),true,gapI p.Z (bndT v (X.plF p) t)) else ((i:Int),false,0)
theorem Akl{α:Type}(l:List α)(p:α->Bool)(B:Int->Option (Sum Int (Sum Unit Int)))(h1:∀ (j:Nat) (h:j<l.length),B j=if p l[j]=true then some (.inr (.inr (j:Int))) else some (.inl ((j+1:Nat):Int)))(h2:B l.length=some (.inr (.inl ()))):
  lfix B 0=some (match l.findIdx? p with|some i=>.inr (i:Int)|none=>.inl ()):=by
 have key:∀(m k:Nat),k<=l.length->l.length-k=m->(∀j (hj:j<l.length),j<k->p l[j]=false)->lfix B k=some (match l.findIdx? p with|some i=>.inr (i:Int)|none=>.inl ()):=by
  intro m
  induction m with
  |zero=>
   intro k hk hm hf;obtain rfl:k=l.length:=oo;rw[Ay,h2];have:l.findIdx? p=none:=by
    rw[List.findIdx?_eq_none_iff];intro x hx;obtain⟨j,hj,rfl⟩:=List.getElem_of_mem hx;exact hf j hj hj
   rw[this]
  |succ m ih=>
   intro k hk hm hf;have hlt:k<l.length:=oo;rw[Ay,h1 k hlt]
   by_cases hp:p l[k]=true
   ·rw[if_pos hp];have:l.findIdx? p=some k:=by
     rw[List.findIdx?_eq_some_iff_getElem];exact⟨hlt,hp,fun j hj=>by rw[hf j oo hj];simp⟩
    rw[this]
   .rw[if_neg hp];refine ih (k+1) oo oo fun j hj hjk=>?_
    by_cases e:j=k
    .subst e;exact Bool.eq_false_iff.2 hp
    .exact hf j hj oo
 exact key l.length 0 (Nat.zero_le _) rfl (fun j _ h=>absurd h oo)
theorem Agj{l:LI}(hl:l.length<=1000000)(n:Int):Ck l n=some (decide (n∈l)):=by
 unfold Ck Ja;rw[jn_d,Akl l (fun x=>decide (n=x)) (Dn l n) (fun j hj=>?_) ?_,Ad]
 .cases e:l.findIdx? (fun x=>decide (n=x)) with
  |none=>
   dsimp only;rw[List.findIdx?_eq_none_iff] at e;rw[Ad];have:n∉l:=fun h=>by simpa using e n h
   simp[this]
  |some i=>
   dsimp only;rw[List.findIdx?_eq_some_iff_getElem] at e;obtain⟨hi,h,_⟩:=e;rw[Ad];have:n∈l:=by
    rw[decide_eq_true_eq] at h;rw[h];exact List.getElem_mem hi
   simp[this]
 .unfold Dn;rw[if_neg oo]
 .unfold Dn;rw[if_pos oo,Am hj,Ad,w1 hj oo];simp only[decide_eq_true_eq]
structure Msh(m:Ak):Prop where
 n:m.V.length<=1024
 ok:∀x∈m.V,Mc x
 len:m.T.length<=1152921504606846976
 t:∀t∈m.T,inN m.V.length t.a0/\inN m.V.length t.a1/\inN m.V.length t.a2/\0<Pg m.V t
theorem Fu{n:Nat}{i:Int}(h:inN n i):∃k:Nat,i=(k:Int)/\k<n:=⟨i.toNat,by unfold inN at h;omega,by unfold inN at h;omega⟩
theorem Aiw{v:List Ae}{k:Nat}(hk:k<v.length):zV v (k:Int)=v[k].Z:=by unfold zV;rw[Am hk]
theorem Gg{v:List Ae}(h:∀x∈v,Mc x){i:Int}(hi:inN v.length i):okP (plV v i)/\-268435456<=(zV v i).Lo/\(zV v i).Lo<=(zV v i).Hi/\(zV v i).Hi<=268435456:=by
 obtain⟨k,rfl,hk⟩:=Fu hi;rw[Yh hk,Aiw hk];exact h _ (List.getElem_mem hk)
theorem Xk{a b c:Ab}(ha:okP a)(hb:okP b)(hc:okP c):Fy a b c=some (crs a b c):=by
 have h0:=Hd ha hb hc;unfold okP at ha hb hc;have h1:=mulB (x:=b.X-a.X) (y:=c.Y-a.Y) (M:=536870912) (N:=536870912) oo oo oo oo oo;have h2:=mulB (x:=b.Y-a.Y) (y:=c.X-a.X) (M:=536870912) (N:=536870912) oo oo oo oo oo;unfold Fy;unfold crs at h0⊢;rw[Aq (x:=b.X-a.X) oo oo,Aq (x:=c.Y-a.Y) oo oo,Aq (x:=b.Y-a.Y) oo oo,Aq (x:=c.X-a.X) oo oo,
  Aq (x:=(b.X-a.X)*(c.Y-a.Y)) oo oo,Aq (x:=(b.Y-a.Y)*(c.X-a.X)) oo oo,Aq oo oo]
theorem Aub{a b:Ab}(ha:okP a)(hb:okP b):Mf a b=some ((a.X-b.X)*(a.X-b.X)+(a.Y-b.Y)*(a.Y-b.Y))/\0<=(a.X-b.X)*(a.X-b.X)+(a.Y-b.Y)*(a.Y-b.Y)/\(a.X-b.X)*(a.X-b.X)+(a.Y-b.Y)*(a.Y-b.Y)<=576460752303423488:=by
 unfold okP at ha hb;obtain⟨a1,a2,a3,a4⟩:=X.sq_w (a:=a.X) (b:=b.X) oo oo;obtain⟨b1,b2,b3,b4⟩:=X.sq_w (a:=a.Y) (b:=b.Y) oo oo;refine⟨?_,oo,oo⟩;unfold Mf;rw[a1,b1,a2,b2,Aq oo oo]
section
variable {m:Ak}(h:Msh m)
include h
theorem Aix{i:Nat}(hi:i<m.T.length):Mw m (i:Int)=some ⟨plV m.V m.T[i].a0,plV m.V m.T[i].a1,plV m.V m.T[i].a2⟩:=by
 obtain⟨h0,h1,h2,_⟩:=h.t _ (List.getElem_mem hi);obtain⟨a,ea,ha⟩:=Fu h0;obtain⟨b,eb,hb⟩:=Fu h1;obtain⟨c,ec,hc⟩:=Fu h2;unfold Mw Kk;rw[Am hi,Ad,ea,eb,ec,Am ha,Ad,Ad,Am hb,Ad,Ad,Am hc,Ad,Ad,Yh ha,Yh hb,Yh hc];rfl
theorem Akm{p:Ab}(hp:okP p):Pj m p=some (match locT m.V m.T p with|some i=>(i:Int)|none=>-1):=by
 unfold Pj;have hl:=h.len;rw[jn_d,Akl m.T (covT m.V p) (Nq m p) (fun j hj=>?_) ?_,Ad]
 .unfold locT;cases m.T.findIdx? (covT m.V p) <;> rfl
 .unfold Nq;rw[if_neg oo]
 .obtain⟨h0,h1,h2,_⟩:=h.t _ (List.getElem_mem hj);have q0:=(Gg h.ok h0).1;have q1:=(Gg h.ok h1).1;have q2:=(Gg h.ok h2).1;unfold Nq;rw[if_pos oo,Aix h hj,Ad,jn_d,Au oo];dsimp only;rw[Xk q0 q1 hp,Ad];unfold covT
  by_cases c1:0<=crs (plV m.V m.T[j].a0) (plV m.V m.T[j].a1) p
  .rw[if_pos c1,Xk q1 q2 hp,Ad]
   by_cases c2:0<=crs (plV m.V m.T[j].a1) (plV m.V m.T[j].a2) p
   .rw[if_pos c2,Xk q2 q0 hp,Ad]
    by_cases c3:0<=crs (plV m.V m.T[j].a2) (plV m.V m.T[j].a0) p
    .simp[c1,c2,c3]
    .simp[c1,c2,c3]
   .rw[if_neg c2,if_neg s_,if_neg (by simp[c2])]
  .rw[if_neg c1,if_neg s_,if_neg (by simp[c1])]
theorem Akn{p:Ab}(hp:okP p){i:Nat}(hi:i<m.T.length)(hc:covT m.V p m.T[i]=true):Pk m (i:Int) p=some (bndT m.V p m.T[i]):=by
 obtain⟨h0,h1,h2,hpos⟩:=h.t _ (List.getElem_mem hi);obtain⟨q0,z0⟩:=Gg h.ok h0;obtain⟨q1,z1⟩:=Gg h.ok h1;obtain⟨q2,z2⟩:=Gg h.ok h2;have hs:=Alx (plV m.V m.T[i].a0) (plV m.V m.T[i].a1) (plV m.V m.T[i].a2) p;have hb:=Hd q0 q1 q2;unfold Pg at hpos;unfold covT at hc;rw[decide_eq_true_eq] at hc;obtain⟨a,ea,ha⟩:=Fu h0;obtain⟨b,eb,hb'⟩:=Fu h1;obtain⟨c,ec,hc'⟩:=Fu h2;unfold Pk;rw[Aix h hi,Ad];try rw[jn_d]
 dsimp only;rw[Xk q1 q2 hp,Ad,Xk q2 q0 hp,Ad,Xk q0 q1 hp,Ad,Am hi,Ad,jn_d,ea,Am ha,Ad,Ad];dsimp only;rw[jn_d,eb,Am hb',Ad,Ad];dsimp only;rw[jn_d,ec,Am hc',Ad,Ad];dsimp only;rw[<-ea,<-eb,<-ec];have ga:zV m.V m.T[i].a0=m.V[a].Z:=by rw[ea,Aiw ha]
 have gb:zV m.V m.T[i].a1=m.V[b].Z:=by rw[eb,Aiw hb']
 have gc:zV m.V m.T[i].a2=m.V[c].Z:=by rw[ec,Aiw hc']
 rw[ga] at z0;rw[gb] at z1;rw[gc] at z2;rw[Ar6 oo oo oo oo oo (by dsimp only;omega) (by dsimp only;omega) (by dsimp only;omega),Ad,
  Ar6 oo oo oo oo oo (by dsimp only;omega) (by dsimp only;omega) (by dsimp only;omega),Ad]
 unfold bndT wsum Pg;rw[ga,gb,gc,hs]
theorem Abz{p:Ab}{t:Ag}(ht:t∈m.T)(hc:covT m.V p t=true):-268435456<=(bndT m.V p t).Lo/\(bndT m.V p t).Lo<=(bndT m.V p t).Hi/\(bndT m.V p t).Hi<=268435456:=by
 obtain⟨h0,h1,h2,hpos⟩:=h.t _ ht;obtain⟨q0,z0⟩:=Gg h.ok h0;obtain⟨q1,z1⟩:=Gg h.ok h1;obtain⟨q2,z2⟩:=Gg h.ok h2;have hs:=Alx (plV m.V t.a0) (plV m.V t.a1) (plV m.V t.a2) p;unfold Pg at hpos;unfold covT at hc;rw[decide_eq_true_eq] at hc;unfold bndT wsum Pg;dsimp only;rw[<-hs];rw[<-hs] at hpos;obtain⟨n0,n1,n2⟩:=hc;generalize crs (plV m.V t.a1) (plV m.V t.a2) p=w0 at *;generalize crs (plV m.V t.a2) (plV m.V t.a0) p=w1 at *;generalize crs (plV m.V t.a0) (plV m.V t.a1) p=w2 at *;generalize zV m.V t.a0=s0 at *;generalize zV m.V t.a1=s1 at *;generalize zV m.V t.a2=s2 at *;have a0:=Int.mul_le_mul_of_nonneg_left (show -268435456<=s0.Lo by omega) n1;have a1:=Int.mul_le_mul_of_nonneg_left (show -268435456<=s1.Lo by omega) n2;have a2:=Int.mul_le_mul_of_nonneg_left (show -268435456<=s2.Lo by omega) n0;have b0:=Int.mul_le_mul_of_nonneg_left (show s0.Hi<=268435456 by omega) n1;have b1:=Int.mul_le_mul_of_nonneg_left (show s1.Hi<=268435456 by omega) n2;have b2:=Int.mul_le_mul_of_nonneg_left (show s2.Hi<=268435456 by omega) n0;have c0:=Int.mul_le_mul_of_nonneg_left (show s0.Lo<=s0.Hi by omega) n1;have c1:=Int.mul_le_mul_of_nonneg_left (show s1.Lo<=s1.Hi by omega) n2;have c2:=Int.mul_le_mul_of_nonneg_left (show s2.Lo<=s2.Hi by omega) n0;generalize w0*s0.Lo=x0 at *;generalize w1*s1.Lo=x1 at *;generalize w2*s2.Lo=x2 at *;generalize w0*s0.Hi=y0 at *;generalize w1*s1.Hi=y1 at *;generalize w2*s2.Hi=y2 at *;generalize hA:w0+w1+w2=A at *;have e1:-268435456<=(x0+x1+x2)/A:=Int.le_ediv_of_mul_le hpos oo;have e2:-268435456<=(-(y0+y1+y2))/A:=Int.le_ediv_of_mul_le hpos oo;have g1:=Int.mul_ediv_self_le (x:=x0+x1+x2) (k:=A) oo;have g2:=Int.mul_ediv_self_le (x:=-(y0+y1+y2)) (k:=A) oo;refine⟨e1,?_,oo⟩;refine Int.not_lt.1 fun hlt=>?_
 have g3:=Int.mul_le_mul_of_nonneg_left (show -((-(y0+y1+y2))/A)+1<=(x0+x1+x2)/A by omega) (show 0<=A by omega);rw[Int.mul_add,Int.mul_neg,Int.mul_one] at g3;omega
end
theorem Afq(p:Aa):Bt p=some (X.plF p):=rfl
theorem Yb{p:Aa}(hp:X.okPt p=true):okP (X.plF p):=by
 have:=X.okPt_rng hp;unfold okP X.plF;dsimp only;omega
theorem Aiy{a b:Av}(ha:-268435456<=a.Lo/\a.Lo<=a.Hi/\a.Hi<=268435456)(hb:-268435456<=b.Lo/\b.Lo<=b.Hi/\b.Hi<=268435456):Vp a b=some (gapI a b)/\0<=gapI a b/\gapI a b<=536870912:=by
 unfold Vp gapI;rw[Aq (x:=a.Lo-b.Hi) oo oo,Aq (x:=b.Lo-a.Hi) oo oo];exact⟨rfl,oo,oo⟩
theorem Axn{g q s:Int}(h1:0<=g)(h2:g<4294967296)(h3:0<=s)(h4:s<4294967296)(h5:0<=q)(h6:q<18446744073709551616):Sj g q s=some (decide (g*g*1000000<=s*s*q)):=by
 obtain⟨a,rfl⟩:=Int.eq_ofNat_of_zero_le h1;obtain⟨b,rfl⟩:=Int.eq_ofNat_of_zero_le h3;obtain⟨c,rfl⟩:=Int.eq_ofNat_of_zero_le h5;rw[Avl oo oo oo];congr 1;rw[Bool.eq_iff_iff,decide_eq_true_eq,decide_eq_true_eq,
  show (a:Int)*(a:Int)*1000000=((a*a*1000000:Nat):Int) by rw[Int.natCast_mul,Int.natCast_mul];rfl,
  show (b:Int)*(b:Int)*(c:Int)=((b*b*c:Nat):Int) by rw[Int.natCast_mul,Int.natCast_mul]]
 exact Int.ofNat_le.symm
section
variable {m:Ak}(h:Msh m){p:Aa}(hp:X.okPt p=true){r:Af}(hr:X.okRules r=true)
include h hp hr
theorem Auc{t:Ag}(ht:t∈m.T)(i:Int){j:Nat}(hj:j < [t.a0,t.a1,t.a2].length):
  Qu t m p r i (j:Int)=if Nl m.V r p [t.a0,t.a1,t.a2][j]=true then some (.inl ((j+1:Nat):Int)) else some (.inr (.inr (i,false,0))):=by
 obtain⟨h0,h1,h2,_⟩:=h.t _ ht;have hk:inN m.V.length [t.a0,t.a1,t.a2][j]:=by
  have:[t.a0,t.a1,t.a2][j]∈[t.a0,t.a1,t.a2]:=List.getElem_mem hj;simp only[List.mem_cons,List.not_mem_nil,or_false] at this;rcases this with e|e|e <;> rw[e] <;> assumption
 have hj3:j<3:=hj;have hrr:=X.okRules_rng hr;have hpp:=X.okPt_rng hp;unfold Qu;rw[if_pos oo,Am hj,Ad,Au oo];unfold Nl;generalize [t.a0,t.a1,t.a2][j]=k at *;have hz:=Gg h.ok hk;obtain⟨n,rfl,hn⟩:=Fu hk;rw[Aiw hn,Yh hn] at hz⊢;obtain⟨g1,g2,g3⟩:=Aiy (a:=p.Z) (b:=m.V[n].Z) oo hz.2;obtain⟨q1,q2,q3⟩:=Aub (Yb hp) hz.1;have sp:Kk m.V[n]=some (pP m.V[n]):=rfl;rw[Am hn,Ad,g1,Ad,Afq,Ad,sp,Ad,q1,Ad,Axn g2 oo oo oo q2 oo,Ad];rfl
theorem Bar:Yc m p r=some (fitV m.V m.T r p):=by
 have hpp:=X.okPt_rng hp;have hq:=Yb hp;unfold Yc;rw[Afq,Ad,Akm h hq,Ad];unfold fitV;cases e:locT m.V m.T (X.plF p) with
 |none=>rfl
 |some i=>
  dsimp only;have e':=e;unfold locT at e';rw[List.findIdx?_eq_some_iff_getElem] at e';obtain⟨hi,hc,_⟩:=e';have hb:=Abz h (List.getElem_mem hi) hc;rw[if_neg oo,Ad,Akn h hq hi hc,Ad,(Aiy (a:=p.Z) oo hb).1,Ad,Am hi];dsimp only
  by_cases c:r.Reach<gapI p.Z (bndT m.V (X.plF p) m.T[i])
  .rw[if_pos c,if_pos c]
  .rw[if_neg c,if_neg c,jn_d,Ad,Wd [m.T[i].a0,m.T[i].a1,m.T[i].a2] (Nl m.V r p) (Qu m.T[i] m p r (i:Int)) () ((i:Int),false,0) (fun j hj=>Auc h hp hr (List.getElem_mem hi) _ hj) ?_,Ad]
   .by_cases c2:Nl m.V r p m.T[i].a0=true/\Nl m.V r p m.T[i].a1=true/\Nl m.V r p m.T[i].a2=true
    .rw[if_pos c2,if_pos (by simp[c2])]
    .rw[if_neg c2,if_neg (by simpa using c2)]
   .unfold Qu;rw[if_neg s_]
omit hp hr in
theorem Axo:-1<=(fitV m.V m.T r p).1/\(fitV m.V m.T r p).1<2305843009213693952:=by
 have hl:=h.len;unfold fitV;cases e:locT m.V m.T (X.plF p) with
 |none=>dsimp only;omega
 |some i=>
  have e':=e;unfold locT at e';rw[List.findIdx?_eq_some_iff_getElem] at e';obtain⟨hi,hc,_⟩:=e';dsimp only;rw[Am hi];dsimp only;split
  .dsimp only;omega
  .split <;> (dsimp only;omega)
end
theorem Aud{n:Nat}{T:List Ag}(hnd:T.Nodup)(h:∀t∈T,inN n t.a0/\inN n t.a1/\inN n t.a2):T.length<=n*n*n:=by
 have h1:(T.map fun t=>((t.a0.toNat*n+t.a1.toNat)*n+t.a2.toNat)).Nodup:=by
  unfold List.Nodup;rw[List.pairwise_map];refine List.Pairwise.imp_of_mem ?_ hnd;intro x y hx hy hne e;obtain⟨x0,x1,x2⟩:=h x hx;obtain⟨y0,y1,y2⟩:=h y hy;unfold inN at x0 x1 x2 y0 y1 y2;have e2:x.a2.toNat=y.a2.toNat:=by
   have:=congrArg (· % n) e;simp only[Nat.mul_add_mod_self_right] at this
   rwa [Nat.mod_eq_of_lt oo,Nat.mod_eq_of_lt oo] at this
  have e':x.a0.toNat*n+x.a1.toNat=y.a0.toNat*n+y.a1.toNat:=by
   rw[e2] at e;exact Nat.eq_of_mul_eq_mul_right (show 0<n by omega) oo
  have e1:x.a1.toNat=y.a1.toNat:=by
   have:=congrArg (· % n) e';simp only[Nat.mul_add_mod_self_right] at this
   rwa [Nat.mod_eq_of_lt oo,Nat.mod_eq_of_lt oo] at this
  have e0:x.a0.toNat=y.a0.toNat:=by
   rw[e1] at e';exact Nat.eq_of_mul_eq_mul_right (show 0<n by omega) oo
  apply hne;obtain⟨xa,xb,xc⟩:=x;obtain⟨ya,yb,yc⟩:=y;simp only at *;rw[show xa=ya by omega,show xb=yb by omega,show xc=yc by omega]
 have:=Bm (m:=List.range (n*n*n)) h1 fun x hx=>by
  obtain⟨t,ht,rfl⟩:=List.mem_map.1 hx;obtain⟨t0,t1,t2⟩:=h t ht;unfold inN at t0 t1 t2;rw[List.mem_range];have a1:=Nat.mul_le_mul_right n (show t.a0.toNat+1<=n by omega);have a2:=Nat.mul_le_mul_right n (show t.a0.toNat*n+t.a1.toNat+1<=n*n by rw[Nat.add_mul] at a1;omega);rw[Nat.add_mul,Nat.one_mul] at a2;omega
 rwa [List.length_map,List.length_range] at this
theorem Axp{L:List Aa}(hL:X.Fit L):∀x∈vxL L,Mc x:=fun x hx=>by
 unfold vxL at hx;obtain⟨p,hp,rfl⟩:=List.mem_map.1 hx;have:=X.okPt_rng (hL.ok p hp);unfold Mc okP pP;dsimp only;omega
theorem Ako{L:List Aa}(hL:X.Fit L):∃r:Ak×Int,Nh L=some r/\((r.2=0/\Hc L/\r.1.V=vxL L/\r.1.Lines=[]/\Vh (vxL L) r.1.T)\/(r=(⟨[],[],[]⟩,11)/\¬Hc L)):=by
 have hn:=hL.n;unfold Nh;rw[gd_t oo,jn_d,Ahr hn,Ad];dsimp only;rcases Afc hL with⟨e,ha⟩|⟨e,ha⟩
 .obtain⟨T,t1,t3⟩:=Ane e;rw[t1,Ad];dsimp only;rw[if_pos rfl];exact⟨_,rfl,.inl ⟨rfl,ha,rfl,rfl,t3⟩⟩
 .rw[Aj7 [] oo,Ad];dsimp only;rw[if_neg oo];exact⟨_,rfl,.inr ⟨rfl,ha⟩⟩
theorem Aiz{L:List Aa}(hL:X.Fit L){m:Ak}(hv:m.V=vxL L)(ht:Vh (vxL L) m.T):Msh m:=by
 have hn:=hL.n;have hlen:m.V.length<=1024:=by rw[hv];unfold vxL;rw[List.length_map];exact hn
 have hin:∀t∈m.T,inN m.V.length t.a0/\inN m.V.length t.a1/\inN m.V.length t.a2/\0<Pg m.V t:=fun t h=>by
  rw[hv];obtain⟨_,_,d0,d1,d2,d3,_⟩:=(ht.mem t).1 h;exact⟨d0,d1,d2,d3⟩
 refine⟨hlen,by rw[hv];exact Axp hL,?_,hin⟩;have:=Aud ht.nd (fun t h=>⟨(hin t h).1,(hin t h).2.1,(hin t h).2.2.1⟩);have h1:=Nat.mul_le_mul hlen hlen;have h2:=Nat.mul_le_mul h1 hlen;omega
section
open Go.Sort
structure Ctx(l:List Aa)(r:Af)(C:List Aa):Prop where
 val:X.validL l=true
 rul:X.okRules r=true
 few:l.length<=300
 perm:C.Perm (X.candL l r)
structure GOk(C:List Aa)(g:LI):Prop where
 nd:g.Nodup
 src:∀i∈g,∃p∈C,p.Id=i
theorem Fit.pick{l:List Aa}{ids:LI}(hl:X.Fit l):X.Fit (Su l ids):=(Fit.sel hl).perm (Ej _ _).symm
section
variable {l:List Aa}{r:Af}{C:List Aa}(hc:Ctx l r C)
include hc
theorem Ctx.fit:X.Fit C:=(X.Fit.cand hc.val).perm hc.perm.symm
theorem Ctx.bot{p:Aa}(hp:p∈C):p∈X.candL l r:=hc.perm.mem_iff.1 hp
theorem Ctx.dry{p:Aa}(hp:p∈C):p∈l/\X.sunkB l r p=false/\p.Num=p.Of:=by
 have h1:=(X.mem_bot.1 (hc.bot hp)).1;unfold X.lastL X.dryL at h1;rw[List.mem_filter,List.mem_filter] at h1;exact⟨h1.1.1,by simpa using h1.1.2,by simpa using h1.2⟩
theorem Ctx.apart{p q:Aa}(hp:p∈C)(hq:q∈C)(hx:p.X=q.X)(hy:p.Y=q.Y):p=q:=by
 obtain⟨p1,p2⟩:=X.mem_bot.1 (hc.bot hp);obtain⟨q1,q2⟩:=X.mem_bot.1 (hc.bot hq);have e:X.plF p=X.plF q:=by unfold X.plF;rw[hx,hy]
 exact X.id_inj hc.fit.id hp hq (X.lowB_total (q2 p p1 e) (p2 q q1 e.symm))
theorem Ctx.len:C.length<=300:=by
 classical
 have h1:=Bm (l:=C) (m:=l) (X.nodup_of_ids hc.fit.id) (fun x hx=>(hc.dry hx).1);have:=hc.few;omega
variable {g:LI}(hg:GOk C g)
include hg
omit hc in
theorem GOk.len:g.length<=C.length:=by
 have:=Bm (l:=g) (m:=C.map (·.Id)) hg.nd (fun i hi=>by
  obtain⟨p,hp,rfl⟩:=hg.src i hi;exact List.mem_map_of_mem hp)
 rwa [List.length_map] at this
theorem GOk.sel:Zk l g:=⟨hg.nd,fun i hi=>by
 obtain⟨p,hp,e⟩:=hg.src i hi;exact⟨p,(hc.dry hp).1,e⟩⟩
theorem GOk.rng{i:Int}(hi:i∈g):-9223372036854775808<=i/\i<=9223372036854775807:=by
 obtain⟨p,hp,rfl⟩:=hg.src i hi;have:=X.okPt_rng (hc.fit.ok p hp);omega
theorem GOk.pick{p:Aa}(hp:p∈Su l g):p∈C/\p.Id∈g:=by
 have h1:p∈selL l g:=Ga.1 hp;unfold selL at h1;rw[List.mem_filter,decide_eq_true_eq] at h1;obtain⟨c,hc1,e⟩:=hg.src _ h1.2;rw[X.id_inj (X.Fit.of hc.val).id h1.1 (hc.dry hc1).1 e.symm];exact⟨hc1,by rw[e];exact h1.2⟩
theorem GOk.apart:Hc (Su l g):=by
 have hf:=(Fit.pick (ids:=g) (X.Fit.of hc.val)).id;rw[List.Nodup,List.pairwise_map] at hf;unfold Hc;refine List.Pairwise.imp_of_mem ?_ hf;intro a b ha hb hne e;exact hne (congrArg (·.Id) (hc.apart (GOk.pick hc hg ha).1 (GOk.pick hc hg hb).1 e.1 e.2))
end
structure GSel(l:List Aa)(g:LI):Prop where
 sel:Zk l g
 apart:Hc (Su l g)
theorem GOk.gsel{l:List Aa}{r:Af}{C:List Aa}(hc:Ctx l r C){g:LI}(hg:GOk C g):GSel l g:=⟨GOk.sel hc hg,GOk.apart hc hg⟩
section
variable {l:List Aa}{r:Af}{C:List Aa}(hc:Ctx l r C){g:LI}(hg:GSel l g)
include hg
theorem GSel.len:g.length<=l.length:=by
 have:=Bm (l:=g) (m:=l.map (·.Id)) hg.sel.1 (fun i hi=>by
  obtain⟨p,hp,rfl⟩:=hg.sel.2 i hi;exact List.mem_map_of_mem hp)
 rwa [List.length_map] at this
include hc
theorem GSel.rng{i:Int}(hi:i∈g):-9223372036854775808<=i/\i<=9223372036854775807:=by
 obtain⟨p,hp,rfl⟩:=hg.sel.2 i hi;have:=X.okPt_rng ((X.Fit.of hc.val).ok p hp);omega
theorem Bas:∃m:Ak,Bv l g=some (m,0)/\m.V=vxL (Su l g)/\m.Lines=[]/\Vh (vxL (Su l g)) m.T/\Msh m:=by
 have h1:=GSel.len hg;have h2:=hc.few;have hf:=Fit.pick (ids:=g) (X.Fit.of hc.val);obtain⟨x,e,⟨e0,_,e1,e2,e3⟩|⟨_,e0⟩⟩:=Ako hf
 .refine⟨x.1,?_,e1,e2,e3,Aiz hf e1 e3⟩;unfold Bv;rw[Zl (X.Fit.of hc.val) oo (fun i hi=>GSel.rng hc hg hi),Ad,if_pos hg.sel];dsimp only;rw[if_pos rfl,e,Ad,e0]
 .exact absurd hg.apart e0
end
def Fc(l:List Aa)(g:LI):Ak:=match Bv l g with
 |some r=>r.1
 |none=>⟨[],[],[]⟩
def gFit(l:List Aa)(r:Af)(g:LI):FitF:=fitV (Fc l g).V (Fc l g).T r
section
variable {l:List Aa}{r:Af}{C:List Aa}(hc:Ctx l r C){g:LI}(hg:GSel l g)
include hc hg
theorem Zx:Bv l g=some (Fc l g,0)/\(Fc l g).V=vxL (Su l g)/\(Fc l g).Lines=[]/\Vh (vxL (Su l g)) (Fc l g).T/\Msh (Fc l g):=by
 obtain⟨m,e,h⟩:=Bas hc hg;have:Fc l g=m:=by unfold Fc;rw[e]
 rw[this];exact⟨e,h⟩
omit hc hg in
theorem Anw{C':List Aa}{b:List (Int×Ba)}(h:Zf g (gFit l r g) C' b):b.length<=C'.length:=by
 classical
 have h1:(b.map (·.2.p)).Nodup:=by
  unfold List.Nodup;rw[List.pairwise_map];refine List.Pairwise.imp_of_mem ?_ h.map;intro q q' hq hq' hne e;have a1:=(h.src q hq).2.2;have a2:=(h.src q' hq').2.2;rw[e,a2] at a1;exact hne (Prod.mk.inj a1).1.symm
 have:=Bm (m:=C') h1 fun x hx=>by
  obtain⟨q,hq,rfl⟩:=List.mem_map.1 hx;exact (h.src q hq).1
 rwa [List.length_map] at this
theorem Aly:lfix (Te C g (Fc l g,0) r) (([]:List (Int×Ba)),0)=some (Ww g (gFit l r g) C):=by
 obtain⟨_,_,_,_,hm⟩:=Zx hc hg;have hlen:=hc.len;have hgl:=GSel.len hg;have hll:=hc.few;have:=Aw (B:=Te C g (Fc l g,0) r) (fun s=>C.length-s.2.toNat) (fun s=>∃k:Nat,k<=C.length/\s=((C.take k).foldl (Tf g (gFit l r g)) [],(k:Int))) (fun t=>t=Ww g (gFit l r g) C) (fun s hs=>by
  obtain⟨k,hk,rfl⟩:=hs;have hb:=Ady (g:=g) (F:=gFit l r g) (C:=C) k;have hbl:=Anw hb;rw[List.length_take] at hbl;unfold Te;dsimp only
  by_cases hk2:k<C.length
  .left;refine⟨((C.take (k+1)).foldl (Tf g (gFit l r g)) [],((k+1:Nat):Int)),?_,⟨k+1,hk2,rfl⟩,by dsimp only;omega⟩;rw[List.take_succ_eq_append_getElem hk2,List.foldl_append];generalize (C.take k).foldl (Tf g (gFit l r g)) []=b at *;rw[if_pos oo,jn_d,Am hk2,Ad,Agj oo,Ad,Au oo];have hp:=hc.fit.ok _ (List.getElem_mem hk2);have hf:=Bar hm hp hc.rul;have hfr:=Axo (p:=C[k]) (r:=r) hm;show _=some (Sum.inl (Tf g (gFit l r g) b C[k],((k+1:Nat):Int)));unfold Tf
   by_cases c1:C[k].Id∈g
   .rw[if_pos (by simpa using c1),if_pos (.inl c1)]
   .rw[if_neg (by simpa using c1),hf,Ad];unfold gFit;generalize fitV (Fc l g).V (Fc l g).T r C[k]=f at *
    by_cases c2:f.2.1=true
    .rw[if_pos c2,gd_t oo,Ad,jn_d,if_neg (show ¬(C[k].Id∈g\/f.2.1=false) by rw[c2];simpa using c1),gd_t oo,gd_t oo];cases e:mget b f.1 with
     |none=>simp
     |some o=>
      simp only[Option.isSome_some,if_true,Option.getD_some]
      by_cases c3:f.2.2<o.far
      .rw[if_pos c3,if_pos (.inl c3)];try simp
      .rw[if_neg c3]
       by_cases c4:f.2.2=o.far
       .rw[if_pos c4,X.lower_eq,Ad]
        by_cases c5:X.lowB C[k] o.p=true
        .rw[if_pos c5,if_pos (.inr ⟨c4,c5⟩)]
        .rw[if_neg c5,if_neg (fun h=>h.elim c3 (fun h=>c5 h.2))]
       .rw[if_neg c4,if_neg s_,if_neg (fun h=>h.elim c3 (fun h=>c4 h.1))]
    .rw[if_neg c2,if_pos (.inr (by simpa using c2))]
  .right;rw[if_neg oo];have:k=C.length:=oo;subst this;exact⟨_,rfl,by rw[List.take_length];rfl⟩) (([]:List (Int×Ba)),0) ⟨0,oo,rfl⟩
 obtain⟨t,ht,rfl⟩:=this;exact ht
theorem Axq:Vq l g C r=some (Jw g (gFit l r g) C,0):=by
 obtain⟨hs,_⟩:=Zx hc hg;have hlen:=hc.len;have hgl:=GSel.len hg;have hll:=hc.few;have hbl:=Anw (Zz g (gFit l r g) C);unfold Vq;rw[hs,Ad];dsimp only;rw[if_pos rfl,jn_d,Aly hc hg,Ad];dsimp only;unfold Acj;rw[gd_t oo,Ad,jn_d];refine Aqc (Zz g (gFit l r g) C).map g (fun q=>[q.2.p.Id]) (fun q=>s_) (fun s=>rfl) (fun s q hq hlt=>?_) (fun w hw=>?_)
 .unfold Wp;rw[gd_t oo]
 .rw[<-List.map_eq_flatMap] at hw;have:=hw.length_eq;rw[List.length_map] at this;dsimp only;rw[gd_t (by rw[List.length_append];omega)];unfold Jw adds;rw[X.sortI_perm (hw.append_left g)]
end
section
variable {l:List Aa}{r:Af}{C:List Aa}(hc:Ctx l r C){g:LI}(hg:GOk C g)
include hc hg
theorem Anx:Bv l g=some (Fc l g,0)/\(Fc l g).V=vxL (Su l g)/\(Fc l g).Lines=[]/\Vh (vxL (Su l g)) (Fc l g).T/\Msh (Fc l g):=Zx hc (GOk.gsel hc hg)
theorem Ar7:Vq l g C r=some (Jw g (gFit l r g) C,0):=Axq hc (GOk.gsel hc hg)
theorem Alz:GOk C (Jw g (gFit l r g) C):=⟨An5 hg.nd hc.fit.id,fun i hi=>Aug hg.src hi⟩
end
structure Grnd(l:List Aa)(r:Af)(C:List Aa)(g:LI):Prop where
 ok:GOk C g
 srt:g.Pairwise (·<=·)
 seed:∀i∈X.seedL l r,i∈g
 again:Jw g (gFit l r g) C=g
 stop:Ww g (gFit l r g) C=[]
theorem Bdr{l:List Aa}{r:Af}(hl:X.validL l=true)(hr:X.okRules r=true)(hn:l.length<=300):∃C,Cx l r=some C/\Ctx l r C:=by
 obtain⟨C,h1,h2⟩:=X.cand_eq hl hr;exact⟨C,h2,hl,hr,hn,h1⟩
section
variable {l:List Aa}{r:Af}{C:List Aa}(hc:Ctx l r C)
include hc
theorem Ar8:Rk C r=some (X.seedL l r):=by
 rw[X.seeds_eq hc.fit hc.rul];unfold X.seedL;rw[X.sortI_perm ((X.bot_perm (X.nodup_of_ids hc.fit.id) hc.perm).map _)]
theorem Al0:GOk C (X.seedL l r):=by
 have hf:=X.Fit.cand (l:=l) (r:=r) hc.val;have hb:X.Fit (X.bot (X.ceF r.Cell) (X.candL l r)):=hf.filter _;refine⟨(X.perm_sortI _).nodup_iff.2 hb.id,fun i hi=>?_⟩;obtain⟨p,hp,rfl⟩:=List.mem_map.1 ((X.perm_sortI _).mem_iff.1 hi);exact⟨p,hc.perm.mem_iff.2 (X.mem_bot.1 hp).1,rfl⟩
theorem Anz(hC:Cx l r=some C):∃g,Iv l r=some g/\Grnd l r C g:=by
 have:=Aw (B:=Jb l C r) (fun g=>C.length-g.length) (fun g=>GOk C g/\g.Pairwise (·<=·)/\∀i∈X.seedL l r,i∈g) (fun g=>Grnd l r C g) (fun g hs=>by
  obtain⟨h1,h2,h3⟩:=hs;have h4:=Alz hc h1;unfold Jb;rw[Ar7 hc h1,Ad,jn_d];dsimp only;rw[if_pos rfl]
  by_cases e:(Jw g (gFit l r g) C).length=g.length
  .right;obtain⟨e1,e2⟩:=Aqd h2 e;rw[if_pos (decide_eq_true oo)];exact⟨g,rfl,h1,h2,h3,e1,e2⟩
  .left;rw[if_neg (by rw[decide_eq_true_eq];omega)];have l1:=GOk.len h4;have l2:=Acn (g:=g) (F:=gFit l r g) (C:=C);exact⟨_,rfl,⟨h4,Aeu,fun i hi=>Auh (h3 i hi)⟩,oo⟩) (X.seedL l r) ⟨Al0 hc,X.sorted_sortI _,fun i hi=>hi⟩
 obtain⟨g,e,h⟩:=this;refine⟨g,?_,h⟩;unfold Iv;rw[hC,Ad,Ar8 hc,Ad,e,Ad]
end
end
namespace X
end X
section
open Go.Sort
def Axr(l:List Aa)(r:Af)(n:Nat):Prop:=l.length<=n/\X.validL l=true/\X.okRules r=true
instance(l:List Aa)(r:Af)(n:Nat):Decidable (Axr l r n):=by unfold Axr;infer_instance
section
variable {l:List Aa}{r:Af}{C:List Aa}(hc:Ctx l r C){g:LI}(hg:Grnd l r C g)
include hc
include hg
end
section
variable {l:List Aa}{r:Af}{C:List Aa}(hc:Ctx l r C)
include hc
theorem Axs{p:Aa}(hp:p∈l):p.Id∈Co ((X.sunkL l r).map (·.Id))↔X.sunkB l r p=true:=by
 rw[(X.perm_sortI _).mem_iff];constructor
 .intro h;obtain⟨q,hq,e⟩:=List.mem_map.1 h;unfold X.sunkL at hq;rw[List.mem_filter] at hq;rw[<-X.id_inj (X.Fit.of hc.val).id hq.1 hp e];exact hq.2
 .intro h;refine List.mem_map.2 ⟨p,?_,rfl⟩;unfold X.sunkL;rw[List.mem_filter];exact⟨hp,h⟩
end
def Abb(v:List Ae)(T:List Ag)(p:Aa):Option Av:=match locT v T (X.plF p) with
 |none=>none
 |some i=>match idx T (i:Int) with
  |none=>none
  |some t=>some ⟨p.Z.Lo-(bndT v (X.plF p) t).Hi,p.Z.Hi-(bndT v (X.plF p) t).Lo⟩
section
variable {m:Ak}(h:Msh m){p:Aa}(hp:X.okPt p=true)
include h hp
theorem Ar9:Vi m p=some (match Abb m.V m.T p with|some s=>(s,true)|none=>(⟨0,0⟩,false)):=by
 have hpp:=X.okPt_rng hp;have hq:=Yb hp;unfold Vi;rw[Afq,Ad,Akm h hq,Ad];unfold Abb;cases e:locT m.V m.T (X.plF p) with
 |none=>rfl
 |some i=>
  dsimp only;have e':=e;unfold locT at e';rw[List.findIdx?_eq_some_iff_getElem] at e';obtain⟨hi,hc,_⟩:=e';have hb:=Abz h (List.getElem_mem hi) hc;rw[if_neg oo,Ad,Akn h hq hi hc,Ad,Am hi,Aq oo oo,Aq oo oo]
end
def We(m:Ak)(g:LI)(r:Af)(p:Aa):Bool:=decide (p.Of=1/\p.Id∉g)&&match Abb m.V m.T p with
 |some s=>decide (r.Tall<=s.Lo/\s.Lo<=r.High)
 |none=>false
def Cg(l:List Aa)(m:Ak)(g:LI)(r:Af):List Aa:=Bi So (X.bot X.plF ((X.dryL l r).filter (We m g r)))
theorem Ap5{l:List Aa}(hf:X.Fit l):∃L,L.Perm (X.bot X.plF l)/\Sx Bt l=some L:=by
 obtain⟨L,h1,h2⟩:=X.lowest_eq X.plF Bt Ah3 l [] hf.n hf.id (fun p hp=>⟨rfl,by have:=X.okPt_rng (hf.ok p hp);simp only[X.plF];omega⟩);refine⟨L,h1,?_⟩;have hlen:L.length<=1024:=by rw[h1.length_eq];exact Nat.le_trans (List.length_filter_le _ _) hf.n
 unfold Sx;rw[h2,X.foldlM_stepC L [] (by simpa using hlen)];rfl
theorem Fit.bot{l:List Aa}(h:X.Fit l):X.Fit (X.bot X.plF l):=h.filter _
section
variable {l:List Aa}{r:Af}(hl:X.validL l=true)(hr:X.okRules r=true){m:Ak}(h:Msh m){g:LI}(hg:g.length<=1000000)
theorem Zy(hl:X.validL l=true):X.Fit (Cg l m g r):=(Fit.bot (((X.Fit.of hl).filter _).filter _)).perm (Ej _ _).symm
theorem Akp{p:Aa}(hp:p∈Cg l m g r):p∈l/\X.sunkB l r p=false/\p.Of=1/\p.Id∉g/\∃s,Abb m.V m.T p=some s/\r.Tall<=s.Lo/\s.Lo<=r.High:=by
 have h1:=(X.mem_bot.1 (Ga.1 hp)).1;rw[List.mem_filter] at h1;obtain⟨h2,h3⟩:=h1;unfold X.dryL at h2;rw[List.mem_filter] at h2;unfold We at h3;rw[Bool.and_eq_true,decide_eq_true_eq] at h3;refine⟨h2.1,by simpa using h2.2,h3.1.1,h3.1.2,?_⟩;cases e:Abb m.V m.T p with
 |none=>rw[e] at h3;cases h3.2
 |some s=>rw[e] at h3;exact⟨s,rfl,by simpa using h3.2⟩
theorem Agk(hl:X.validL l=true):Hc (Cg l m g r):=by
 have hf:=(Zy (m:=m) (g:=g) (r:=r) hl).id;rw[List.Nodup,List.pairwise_map] at hf;unfold Hc;refine List.Pairwise.imp_of_mem ?_ hf;intro a b ha hb hne e;obtain⟨a1,a2⟩:=X.mem_bot.1 (Ga.1 ha);obtain⟨b1,b2⟩:=X.mem_bot.1 (Ga.1 hb);have e':X.plF a=X.plF b:=by unfold X.plF;rw[e.1,e.2]
 exact hne (X.lowB_total (b2 a a1 e') (a2 b b1 e'.symm))
include hl hr h hg
theorem Asa:Xp l m g r=some (Cg l m g r):=by
 have hF:=X.Fit.of hl;have hn:=hF.n;have hd:X.Fit (X.dryL l r):=hF.filter _;have hdn:=hd.n;obtain⟨L,h1,h2⟩:=Ap5 (hd.filter (We m g r));have hL:X.Fit L:=(Fit.bot (hd.filter _)).perm h1.symm;have hLn:=hL.n;unfold Xp;rw[X.parted_eq hl hr,Ad,jn_d,X.lfix_filter (X.dryL l r) (We m g r) (Sv (X.dryL l r,X.sunkL l r) m r g) (fun j hj s hs=>?_) (fun s=>?_),Ad]
 .dsimp only;rw[h2,Ad,gd_t ⟨oo,fun x hx=>⟨hx,Abi hL⟩⟩];unfold Cg;rw[Up (totP L) (fun x hx=>⟨hx,Abi hL⟩) h1]
 .unfold Sv;dsimp only;rw[if_pos oo,jn_d,Am hj,Ad,jn_d,Au oo];have hp:=hd.ok _ (List.getElem_mem hj);have hrr:=X.okRules_rng hr;generalize (X.dryL l r)[j]=p at *
  by_cases c:p.Of=1
  .rw[if_pos c,Agj hg,Ad];dsimp only
   by_cases c2:p.Id∈g
   .have hv:We m g r p=false:=by unfold We;rw[decide_eq_false (fun h:p.Of=1/\p.Id∉g=>h.2 c2)];rfl
    rw[if_pos (decide_eq_true c2),hv];rfl
   .rw[if_neg (by simpa using c2),Ar9 h hp,Ad,jn_d];cases e:Abb m.V m.T p with
    |none=>
     have hv:We m g r p=false:=by unfold We;rw[e,Bool.and_false]
     rw[hv];rfl
    |some z=>
     have hv:We m g r p=decide (r.Tall<=z.Lo/\z.Lo<=r.High):=by unfold We;rw[decide_eq_true (⟨c,c2⟩:p.Of=1/\p.Id∉g),Bool.true_and,e]
     dsimp only;rw[if_pos rfl,X.within_eq,Ad,gd_t oo,hv]
     by_cases c3:r.Tall<=z.Lo/\z.Lo<=r.High
     .rw[decide_eq_true c3];rfl
     .rw[decide_eq_false c3];rfl
  .have hv:We m g r p=false:=by unfold We;rw[decide_eq_false (fun h:p.Of=1/\p.Id∉g=>c h.1)];rfl
   rw[if_neg c,hv];rfl
 .unfold Sv;dsimp only;rw[if_neg oo]
end
theorem Ap6{ids:LI}(h:ids.length<=1000000)(hr:∀i∈ids,-9223372036854775808<=i/\i<=9223372036854775807):∃m,Ue ids=some m/\∀x,(mget m x).getD false=decide (x∈ids):=by
 have:=Aw (B:=Wz ids) (fun s=>ids.length-s.2.toNat) (fun s=>∃k:Nat,k<=ids.length/\s.2=(k:Int)/\s.1.length<=k/\(∀p∈s.1,p.2=true)/\∀x,x∈s.1.map (·.1)↔x∈ids.take k)
  (fun m=>(∀p∈m,p.2=true)/\∀x,x∈m.map (·.1)↔x∈ids) (fun s hs=>by
  obtain⟨m,i⟩:=s;obtain⟨k,hk,hi,hlen,ht,hx⟩:=hs;dsimp only at hi hlen ht hx;subst hi;unfold Wz;dsimp only
  by_cases hk2:k<ids.length
  .left;rw[if_pos oo,Am hk2,Ad,gd_t (hr _ (List.getElem_mem hk2)),gd_t oo,Au oo];have hsub:∀p∈mdel m ids[k],p∈m:=fun p hp=>(Lw.1 hp).1
   refine⟨_,rfl,⟨k+1,hk2,rfl,?_,?_,fun x=>?_⟩,by dsimp only;omega⟩
   .show (mdel m ids[k]).length+1<=k+1;have:(mdel m ids[k]).length<=m.length:=List.length_filter_le _ _;omega
   .intro p hp;rcases List.mem_cons.1 hp with rfl|hp
    .rfl
    .exact ht p (hsub p hp)
   .dsimp only;show x∈ids[k]::(mdel m ids[k]).map (·.1)↔_;rw[List.mem_cons,List.take_succ_eq_append_getElem hk2,List.mem_append,List.mem_singleton,<-hx x];constructor
    .rintro (e|e)
     .exact .inr e
     .obtain⟨p,hp,rfl⟩:=List.mem_map.1 e;exact .inl (List.mem_map_of_mem (hsub p hp))
    .rintro (e|e)
     .by_cases c:x=ids[k]
      .exact .inl c
      .obtain⟨p,hp,rfl⟩:=List.mem_map.1 e;exact .inr (List.mem_map.2 ⟨p,Lw.2 ⟨hp,c⟩,rfl⟩)
     .exact .inl e
  .right;rw[if_neg oo];have:k=ids.length:=oo;subst this;rw[List.take_length] at hx;exact⟨_,rfl,ht,hx⟩) (([]:List (Int×Bool)),0) ⟨0,oo,rfl,s_,fun p hp=>(by cases hp),fun x=>s_⟩
 obtain⟨m,e,h1,h2⟩:=this;refine⟨m,?_,fun x=>?_⟩
 .unfold Ue;rw[jn_d,e,Ad]
 .rw[X.mget_true h1];exact decide_eq_decide.2 (h2 x)
def UF(s:LI):Prop:=∀k (hk:k<s.length),0<=s[k]/\s[k]<=(k:Int)
theorem Al1{s:LI}(hu:UF s){i:Nat}(hi:i<s.length):∃j:Nat,j<=i/\Pu s (i:Int)=some (j:Int):=by
 have:=Aw (B:=Nx s) (fun x=>x.toNat) (fun x=>∃k:Nat,x=(k:Int)/\k<=i) (fun t=>∃j:Nat,t=(j:Int)/\j<=i) (fun x hx=>by
  obtain⟨k,rfl,hk⟩:=hx;have hk2:k<s.length:=oo;have h1:=hu k hk2;unfold Nx;rw[Am hk2,Ad,Ad]
  by_cases c:s[k]=(k:Int)
  .right;rw[if_pos c];exact⟨_,rfl,k,rfl,hk⟩
  .left;rw[if_neg c];exact⟨_,rfl,⟨s[k].toNat,oo,oo⟩,oo⟩) (i:Int) ⟨i,rfl,Nat.le_refl _⟩
 obtain⟨t,ht,j,rfl,hj⟩:=this;refine⟨j,hj,?_⟩;unfold Pu;rw[jn_d,ht,Ad]
theorem UF.set{s:LI}(hu:UF s){a b:Nat}(h:b<=a):UF (setI s (a:Int) (b:Int)):=by
 rw[Io];intro k hk;rw[List.length_set] at hk;rw[List.getElem_set]
 by_cases c:a=k
 .rw[if_pos c];omega
 .rw[if_neg c];exact hu k hk
theorem Axt{n:Nat}{t:Ag}(h0:inN n t.a0)(h1:inN n t.a1)(h2:inN n t.a2){k:Nat}(hk:k<3):
  ∃a b:Nat,idx [t.a0,t.a1,t.a2] (k:Int)=some (a:Int)/\idx [t.a0,t.a1,t.a2] (Int.tmod (w64 ((k:Int)+1)) 3)=some (b:Int)/\a<n/\b<n:=by
 obtain⟨a,ea,ha⟩:=Fu h0;obtain⟨b,eb,hb⟩:=Fu h1;obtain⟨c,ec,hc⟩:=Fu h2;rw[ea,eb,ec,Au oo];rcases (by omega:k=0\/k=1\/k=2) with rfl|rfl|rfl
 .exact⟨a,b,rfl,rfl,ha,hb⟩
 .exact⟨b,c,rfl,rfl,hb,hc⟩
 .exact⟨c,a,rfl,rfl,hc,ha⟩
section
variable {L:List Aa}{r:Af}(hL:X.Fit L)(hr:X.okRules r=true)
include hL hr
theorem Ap7{t:Ag}(h0:inN L.length t.a0)(h1:inN L.length t.a1)(h2:inN L.length t.a2){s:List Int}(hu:UF s)(hn:s.length=L.length):
  ∃s',lfix (Fi t L r) (s,0)=some s'/\UF s'/\s'.length=L.length:=by
 have hrr:=X.okRules_rng hr;have:=Aw (B:=Fi t L r) (fun x=>3-x.2.toNat) (fun x=>∃k:Nat,k<=3/\x.2=(k:Int)/\UF x.1/\x.1.length=L.length) (fun s'=>UF s'/\s'.length=L.length) (fun x hx=>by
  obtain⟨s,i⟩:=x;obtain⟨k,hk,hi,hu,hn⟩:=hx;dsimp only at hi hu hn;subst hi;unfold Fi;dsimp only
  by_cases hk2:k<3
  .left;obtain⟨a,b,ea,eb,ha,hb⟩:=Axt h0 h1 h2 hk2;have pa:=hL.ok _ (List.getElem_mem ha);have pb:=hL.ok _ (List.getElem_mem hb);have ra:=X.okPt_rng pa;have rb:=X.okPt_rng pb;rw[if_pos oo,jn_d,ea,Ad,eb,Ad,jn_d,Am ha,Ad,Am hb,Ad,X.near_eq pa pb oo oo,Ad,Au oo]
   by_cases c:X.sq L[a] L[b]<=r.Link*r.Link
   .rw[if_pos (decide_eq_true c),Ad,Ad,(Aiy (a:=L[a].Z) (b:=L[b].Z) oo oo).1,Ad];dsimp only
    by_cases c2:r.Flat<gapI L[a].Z L[b].Z
    .rw[if_pos (decide_eq_true c2)];exact⟨_,rfl,⟨k+1,hk2,rfl,hu,hn⟩,by dsimp only;omega⟩
    .obtain⟨x,hx,ex⟩:=Al1 hu (i:=a) oo;obtain⟨y,hy,ey⟩:=Al1 hu (i:=b) oo;have em:max (x:Int) (y:Int)=((max x y:Nat):Int):=oo;have en:min (x:Int) (y:Int)=((min x y:Nat):Int):=oo;have hm:max x y<s.length:=oo;rw[if_neg (by simpa using c2),ex,Ad,ey,Ad,em,en,Am hm,Ad];exact⟨_,rfl,⟨k+1,hk2,rfl,hu.set oo,by rw[Fn];exact hn⟩,by dsimp only;omega⟩
   .rw[if_neg (by simpa using c)];dsimp only;rw[if_pos rfl];exact⟨_,rfl,⟨k+1,hk2,rfl,hu,hn⟩,by dsimp only;omega⟩
  .right;rw[if_neg oo];exact⟨_,rfl,hu,hn⟩) (s,0) ⟨0,oo,rfl,hu,hn⟩
 obtain⟨s',e,h⟩:=this;exact⟨s',e,h⟩
theorem Aue(ha:Hc L):∃G,If L r=some G/\G.length=L.length/\∀x∈G,∃k:Nat,x=(k:Int)/\k<L.length:=by
 have hn:=hL.n;obtain⟨x,e,⟨e0,_,e1,e2,e3⟩|⟨_,e0⟩⟩:=Ako hL
 .have hm:=Aiz hL e1 e3;have hvl:x.1.V.length=L.length:=by rw[e1];unfold vxL;rw[List.length_map]
  have i1:∃s,lfix (Gx L) (List.replicate (Int.toNat (L.length:Int)) (0:Int),0)=some s/\UF s/\s.length=L.length:=by
   have:=Aw (B:=Gx L) (fun s=>L.length-s.2.toNat) (fun s=>∃k:Nat,k<=L.length/\s.2=(k:Int)/\UF s.1/\s.1.length=L.length) (fun s=>UF s/\s.length=L.length) (fun s hs=>by
    obtain⟨s,i⟩:=s;obtain⟨k,hk,hi,hu,hs⟩:=hs;dsimp only at hi hu hs;subst hi;unfold Gx;dsimp only;rw[List.length_replicate]
    by_cases hk2:k<L.length
    .left;rw[if_pos oo,Am (show k<s.length by omega),Ad,Au oo];exact⟨_,rfl,⟨k+1,hk2,rfl,hu.set (Nat.le_refl _),by rw[Fn];exact hs⟩,by dsimp only;omega⟩
    .right;rw[if_neg oo];exact⟨_,rfl,hu,hs⟩) (List.replicate (Int.toNat (L.length:Int)) (0:Int),0) ⟨0,oo,rfl,fun k hk=>by dsimp only;rw[List.getElem_replicate];omega,by dsimp only;rw[List.length_replicate];omega⟩
   exact this
  obtain⟨s1,l1,u1,n1⟩:=i1;have i2:∃s,lfix (Fj x L r) (s1,0)=some s/\UF s/\s.length=L.length:=by
   have hTl:=hm.len;have:=Aw (B:=Fj x L r) (fun s=>x.1.T.length-s.2.toNat) (fun s=>∃k:Nat,k<=x.1.T.length/\s.2=(k:Int)/\UF s.1/\s.1.length=L.length) (fun s=>UF s/\s.length=L.length) (fun s hs=>by
    obtain⟨s,i⟩:=s;obtain⟨k,hk,hi,hu,hs⟩:=hs;dsimp only at hi hu hs;subst hi;unfold Fj;dsimp only
    by_cases hk2:k<x.1.T.length
    .left;obtain⟨t0,t1,t2,_⟩:=hm.t _ (List.getElem_mem hk2);rw[hvl] at t0 t1 t2;obtain⟨s',g1,g2,g3⟩:=Ap7 hL hr t0 t1 t2 hu hs;rw[if_pos oo,jn_d,Am hk2,Ad,g1,Ad,Au oo];exact⟨_,rfl,⟨k+1,hk2,rfl,g2,g3⟩,by dsimp only;omega⟩
    .right;rw[if_neg oo];exact⟨_,rfl,hu,hs⟩) (s1,0) ⟨0,oo,rfl,u1,n1⟩
   exact this
  obtain⟨s2,l2,u2,n2⟩:=i2;have i3:∃s,lfix (Fk s2) (s2,0)=some s/\UF s/\s.length=L.length:=by
   have:=Aw (B:=Fk s2) (fun s=>s2.length-s.2.toNat) (fun s=>∃k:Nat,k<=s2.length/\s.2=(k:Int)/\UF s.1/\s.1.length=L.length) (fun s=>UF s/\s.length=L.length) (fun s hs=>by
    obtain⟨s,i⟩:=s;obtain⟨k,hk,hi,hu,hs⟩:=hs;dsimp only at hi hu hs;subst hi;unfold Fk;dsimp only
    by_cases hk2:k<s2.length
    .left;have hk3:k<s.length:=oo;obtain⟨y,hy,ey⟩:=Al1 hu hk3;rw[if_pos oo,ey,Ad,Am hk3,Ad,Au oo];exact⟨_,rfl,⟨k+1,hk2,rfl,hu.set hy,by rw[Fn];exact hs⟩,by dsimp only;omega⟩
    .right;rw[if_neg oo];exact⟨_,rfl,hu,hs⟩) (s2,0) ⟨0,oo,rfl,u2,n2⟩
   exact this
  obtain⟨s3,l3,u3,n3⟩:=i3;refine⟨s3,?_,n3,fun z hz=>?_⟩
  .unfold If;rw[gd_t oo,jn_d,l1,Ad];dsimp only;rw[e,Ad,if_pos e0,jn_d,l2,Ad];dsimp only;rw[jn_d,l3,Ad]
  .obtain⟨k,hk,rfl⟩:=List.getElem_of_mem hz;have:=u3 k hk;exact⟨s3[k].toNat,oo,oo⟩
 .exact absurd ha e0
end
def Fv{α:Type}(p:Nat->Bool)(l:List α):List α:=(l.zipIdx.filter fun x=>p x.2).map (·.1)
theorem Aaw{α:Type}{p:Nat->Bool}{l:List α}{k:Nat}(hk:k<l.length):Fv p (l.take (k+1))=if p k=true then Fv p (l.take k)++[l[k]] else Fv p (l.take k):=by
 unfold Fv;rw[List.take_succ_eq_append_getElem hk,List.zipIdx_append,List.filter_append,List.map_append,List.length_take,Nat.min_eq_left oo];simp only[List.zipIdx_cons,List.zipIdx_nil,Nat.zero_add]
 by_cases c:p k=true
 .rw[if_pos c,List.filter_cons_of_pos (by simpa using c)];rfl
 .rw[if_neg c,List.filter_cons_of_neg (by simpa using c)];simp
theorem Agl{α:Type}{p:Nat->Bool}{l:List α}{x:α}(h:x∈Fv p l):x∈l:=by
 unfold Fv at h;obtain⟨y,hy,rfl⟩:=List.mem_map.1 h;exact List.fst_mem_of_mem_zipIdx (List.mem_filter.1 hy).1
theorem Wf{α:Type}(p:Nat->Bool)(l:List α):(Fv p l).length<=l.length:=by
 unfold Fv;rw[List.length_map];have:=List.length_filter_le (fun x:α×Nat=>p x.2) l.zipIdx;rw[List.length_zipIdx] at this;exact this
theorem Aax{α:Type}(l:List α)(p:Nat->Bool)(B:List α×Int->Option (Sum (List α×Int) (List α)))(h1:∀(j:Nat) (hj:j<l.length) (s:List α),s.length<=j->B (s,(j:Int))=some (.inl (if p j=true then s++[l[j]] else s,((j+1:Nat):Int))))(h2:∀s,B (s,(l.length:Int))=some (.inr s)):lfix B ([],0)=some (Fv p l):=by
 have key:∀(m k:Nat),k<=l.length->l.length-k=m->lfix B (Fv p (l.take k),(k:Int))=some (Fv p l):=by
  intro m
  induction m with
  |zero=>
   intro k hk hm;obtain rfl:k=l.length:=oo;rw[Ay,h2,List.take_length]
  |succ m ih=>
   intro k hk hm;have hlt:k<l.length:=oo;have:=Wf p (l.take k);rw[List.length_take] at this;rw[Ay,h1 k hlt _ oo];dsimp only;rw[<-Aaw hlt];exact ih (k+1) oo oo
 exact key l.length 0 (Nat.zero_le _) rfl
def Vg(G S:LI)(r:Af)(j:Nat):Bool:=match idx G (j:Int) with
 |some x=>(match idx S x with
  |some z=>decide (r.Few<=z)
  |none=>false)
 |none=>false
theorem Axu{G:LI}{n:Nat}(hn:G.length<=1000000)(hg:∀x∈G,∃k:Nat,x=(k:Int)/\k<n):∃S,lfix (Dj G) (List.replicate n (0:Int),0)=some S/\S.length=n:=by
 have:=Aw (B:=Dj G) (fun s=>G.length-s.2.toNat) (fun s=>∃k:Nat,k<=G.length/\s.2=(k:Int)/\s.1.length=n) (fun s=>s.length=n) (fun s hs=>by
  obtain⟨s,i⟩:=s;obtain⟨k,hk,hi,hs⟩:=hs;dsimp only at hi hs;subst hi;unfold Dj;dsimp only
  by_cases hk2:k<G.length
  .left;obtain⟨x,hx,hx2⟩:=hg _ (List.getElem_mem hk2);have hx3:x<s.length:=oo;rw[if_pos oo,Am hk2,Ad,hx,Am hx3,Ad,Ad,Au oo];exact⟨_,rfl,⟨k+1,hk2,rfl,by rw[Fn];exact hs⟩,by dsimp only;omega⟩
  .right;rw[if_neg oo];exact⟨_,rfl,hs⟩) (List.replicate n (0:Int),0) ⟨0,oo,rfl,List.length_replicate⟩
 exact this
theorem Axv{l:List Aa}{r:Af}(hl:X.validL l=true)(hr:X.okRules r=true){m:Ak}(h:Msh m){g:List Int}(hg:g.length<=1000000):
  ∃G S,If (Cg l m g r) r=some G/\lfix (Dj G) (List.replicate (Cg l m g r).length (0:Int),0)=some S/\Nc l m g r=some (Co ((Fv (Vg G S r) (Cg l m g r)).map (·.Id))):=by
 have hF:=Zy (m:=m) (g:=g) (r:=r) hl;have hn:=hF.n;obtain⟨G,e1,e2,e3⟩:=Aue hF hr (Agk hl);obtain⟨S,e4,e5⟩:=Axu (n:=(Cg l m g r).length) oo e3;refine⟨G,S,e1,e4,?_⟩;unfold Nc;rw[Asa hl hr h hg,Ad,e1,Ad,gd_t oo,jn_d,show Int.toNat ((((Cg l m g r).length:Nat):Int))=(Cg l m g r).length from rfl,e4,Ad];dsimp only;rw[jn_d,Aax (Cg l m g r) (Vg G S r) (Gy (Cg l m g r) G S r) (fun j hj s hs=>?_) (fun s=>?_),Ad]
 .dsimp only;have hl2:=Wf (Vg G S r) (Cg l m g r);rw[X.ids_eq oo,Ad]
 ·unfold Gy;dsimp only;have hj2:j<G.length:=oo;obtain⟨x,hx,hx2⟩:=e3 _ (List.getElem_mem hj2);have hx3:x<S.length:=oo;rw[if_pos oo,jn_d,Am hj,Ad,Am hj2,Ad,hx,Am hx3,Ad,Au oo];have hv:Vg G S r j=decide (r.Few<=S[x]):=by
   unfold Vg;rw[Am hj2];dsimp only;rw[hx,Am hx3]
  rw[hv]
  by_cases c:r.Few<=S[x]
  .rw[if_pos c,gd_t oo,if_pos (decide_eq_true c)]
  .rw[if_neg c,if_neg (by simpa using c)]
 .unfold Gy;dsimp only;rw[if_neg oo]
inductive Cnx(E:Nat->Nat->Prop):Nat->Nat->Prop
 |refl (i:Nat):Cnx E i i
 |base {i j:Nat}:E i j->Cnx E i j
 |symm {i j:Nat}:Cnx E i j->Cnx E j i
 |trans {i j k:Nat}:Cnx E i j->Cnx E j k->Cnx E i k
theorem Cnx.mono{E E':Nat->Nat->Prop}(h:∀x y,E x y->E' x y\/E' y x){i j:Nat}(c:Cnx E i j):Cnx E' i j:=by
 induction c with
 |refl i=>exact .refl i
 |base e=>exact (h _ _ e).elim .base fun g=>.symm (.base g)
 |symm _ ih=>exact .symm ih
 |trans _ _ h g=>exact .trans h g
theorem Cnx.add{E:Nat->Nat->Prop}{a b i j:Nat}:Cnx (fun x y=>E x y\/(x=a/\y=b)) i j↔Cnx E i j\/(Cnx E i a/\Cnx E b j)\/(Cnx E i b/\Cnx E a j):=by
 constructor
 .intro h
  induction h with
  |refl i=>exact .inl (.refl i)
  |base h=>
   rcases h with h|⟨rfl,rfl⟩
   .exact .inl (.base h)
   .exact .inr (.inl ⟨.refl _,.refl _⟩)
  |symm _ ih=>
   rcases ih with h|⟨h,g⟩|⟨h,g⟩
   .exact .inl h.symm
   .exact .inr (.inr ⟨g.symm,h.symm⟩)
   .exact .inr (.inl ⟨g.symm,h.symm⟩)
  |trans _ _ h g=>
   rcases h with h|⟨h,h'⟩|⟨h,h'⟩
   .rcases g with g|⟨g,g'⟩|⟨g,g'⟩
    .exact .inl (h.trans g)
    .exact .inr (.inl ⟨h.trans g,g'⟩)
    .exact .inr (.inr ⟨h.trans g,g'⟩)
   .rcases g with g|⟨_,g'⟩|⟨_,g'⟩
    .exact .inr (.inl ⟨h,h'.trans g⟩)
    .exact .inr (.inl ⟨h,g'⟩)
    .exact .inl (h.trans g')
   .rcases g with g|⟨_,g'⟩|⟨_,g'⟩
    .exact .inr (.inr ⟨h,h'.trans g⟩)
    .exact .inl (h.trans g')
    .exact .inr (.inr ⟨h,g'⟩)
 .have m:∀{x y:Nat},Cnx E x y->Cnx (fun x y=>E x y\/(x=a/\y=b)) x y:=fun c=>c.mono fun x y e=>.inl (.inl e)
  have ab:Cnx (fun x y=>E x y\/(x=a/\y=b)) a b:=.base (.inr ⟨rfl,rfl⟩);rintro (h|⟨h,g⟩|⟨h,g⟩)
  .exact m h
  .exact ((m h).trans ab).trans (m g)
  .exact ((m h).trans ab.symm).trans (m g)
theorem Akq{n:Nat}{G G':Nat->Int}{E:Nat->Nat->Prop}{a b:Nat}(ha:a<n)(hb:b<n)(h:∀ i j,i<n->j<n->(G i=G j↔Cnx E i j)){u w:Int}(hm:(u=G a/\w=G b)\/(u=G b/\w=G a))(hG:∀ i,i<n->G' i=if G i=u then w else G i){i j:Nat}(hi:i<n)(hj:j<n):
  G' i=G' j↔Cnx (fun x y=>E x y\/(x=a/\y=b)) i j:=by
 rw[Cnx.add,<-h i j hi hj,<-h i a hi ha,<-h b j hb hj,<-h i b hi hb,<-h a j ha hj,hG i hi,hG j hj];grind
inductive Rt(s:LI):Nat->Nat->Prop
 |root {i:Nat}:s[i]? = some (i:Int)->Rt s i i
 |step {i k j:Nat}:s[i]? = some (k:Int)->k<i->Rt s k j->Rt s i j
theorem Rt.le{s:LI}{i j:Nat}(h:Rt s i j):j<=i:=by
 induction h with
 |root _=>exact Nat.le_refl _
 |step _ h _ ih=>omega
theorem Rt.top{s:LI}{i j:Nat}(h:Rt s i j):s[j]? = some (j:Int):=by
 induction h with
 |root h=>exact h
 |step _ _ _ ih=>exact ih
theorem Rt.uniq{s:LI}{i j:Nat}(h:Rt s i j):∀{k:Nat},Rt s i k->j=k:=by
 induction h with
 |root h=>
  intro k g;cases g with
  |root _=>rfl
  |step e l _=>rw[h] at e;have:=Option.some.inj e;omega
 |step e l _ ih=>
  intro k g;cases g with
  |root h=>rw[h] at e;have:=Option.some.inj e;omega
  |step e' l' g=>rw[e] at e';have:=Option.some.inj e';have:=Int.ofNat.inj this;subst this;exact ih g
theorem Rt.ex{s:LI}(hu:UF s):∀(i:Nat),i<s.length->∃j,Rt s i j:=by
 intro i
 induction i using Nat.strongRecOn with
 |ind i ih=>
  intro hi;have h1:=hu i hi;obtain⟨k,hk⟩:∃k:Nat,s[i]=(k:Int):=⟨s[i].toNat,oo⟩;have e:s[i]? = some (k:Int):=by rw[List.getElem?_eq_getElem hi,hk]
  by_cases c:k=i
  .subst c;exact⟨_,.root e⟩
  .obtain⟨j,hj⟩:=ih k oo oo;exact⟨j,.step e oo hj⟩
theorem Rt.run{s:LI}{i j:Nat}(h:Rt s i j):Pu s (i:Int)=some (j:Int):=by
 unfold Pu;rw[jn_d];have:lfix (Nx s) (i:Int)=some (j:Int):=by
  induction h with
  |@root i h=>
   obtain⟨hi,e⟩:=List.getElem?_eq_some_iff.1 h;rw[Ay];unfold Nx;rw[Am hi,Ad,Ad,if_pos e]
  |@step i k j h l _ ih=>
   obtain⟨hi,e⟩:=List.getElem?_eq_some_iff.1 h;rw[Ay];unfold Nx;rw[Am hi,Ad,Ad,if_neg oo,e];exact ih
 rw[this,Ad]
theorem Rt.put{s:LI}{m c i j:Nat}(hm:s[m]? = some (m:Int))(hc:s[c]? = some (c:Int))(hle:c<=m)(h:Rt s i j):Rt (setI s (m:Int) (c:Int)) i (if j=m then c else j):=by
 have hl:m<s.length:=(List.getElem?_eq_some_iff.1 hm).1;rw[Io]
 induction h with
 |@root i h=>
  by_cases e:i=m
  .subst e;rw[if_pos rfl]
   by_cases e2:c=i
   .subst e2;exact .root (List.getElem?_set_self hl)
   .exact .step (List.getElem?_set_self hl) oo (.root (by rw[List.getElem?_set_ne oo];exact hc))
  .rw[if_neg e];exact .root (by rw[List.getElem?_set_ne oo];exact h)
 |@step i k j h l _ ih=>
  have:i≠m:=fun e=>by subst e;rw[hm] at h;have:=Option.some.inj h;omega
  exact .step (by rw[List.getElem?_set_ne oo];exact h) l ih
theorem Rt.flat{s:LI}{i0 r0 i j:Nat}(h0:Rt s i0 r0)(h:Rt s i j):Rt (setI s (i0:Int) (r0:Int)) i j:=by
 have hl:i0<s.length:=by
  cases h0 with
  |root h=>exact (List.getElem?_eq_some_iff.1 h).1
  |step h _ _=>exact (List.getElem?_eq_some_iff.1 h).1
 rw[Io]
 induction h with
 |@root i h=>
  by_cases e:i=i0
  .subst e;obtain rfl:=h0.uniq (.root h);exact .root (List.getElem?_set_self hl)
  .exact .root (by rw[List.getElem?_set_ne oo];exact h)
 |@step i k j h l g ih=>
  by_cases e:i=i0
  .subst e;obtain rfl:=h0.uniq (.step h l g);have:=g.le;exact .step (List.getElem?_set_self hl) oo (.root (by rw[List.getElem?_set_ne oo];exact g.top))
  .exact .step (by rw[List.getElem?_set_ne oo];exact h) l ih
structure Nms(s:LI)(n:Nat)(E:Nat->Nat->Prop):Prop where
 uf:UF s
 len:s.length=n
 ex:∃G:Nat->Nat,(∀i,i<n->Rt s i (G i))/\∀i j,i<n->j<n->((G i:Int)=(G j:Int)↔Cnx E i j)
theorem Nms.congr{s:LI}{n:Nat}{E E':Nat->Nat->Prop}(h:Nms s n E)(e:∀x y,E x y↔E' x y):Nms s n E':=by
 obtain rfl:E=E':=funext fun x=>funext fun y=>propext (e x y)
 exact h
theorem Nms.add{s:LI}{n:Nat}{E:Nat->Nat->Prop}(h:Nms s n E){a b x y:Nat}(ha:a<n)(hb:b<n)(hx:Rt s a x)(hy:Rt s b y):Nms (setI s ((max x y:Nat):Int) ((min x y:Nat):Int)) n (fun i j=>E i j\/(i=a/\j=b)):=by
 obtain⟨G,g1,g2⟩:=h.ex;obtain rfl:=(g1 a ha).uniq hx;obtain rfl:=(g1 b hb).uniq hy;have tx:=hx.top;have ty:=hy.top;have hm:s[max (G a) (G b)]? = some ((max (G a) (G b):Nat):Int):=by
  rcases Nat.le_total (G a) (G b) with c|c
  .rw[Nat.max_eq_right c];exact ty
  .rw[Nat.max_eq_left c];exact tx
 have hc:s[min (G a) (G b)]? = some ((min (G a) (G b):Nat):Int):=by
  rcases Nat.le_total (G a) (G b) with c|c
  .rw[Nat.min_eq_left c];exact tx
  .rw[Nat.min_eq_right c];exact ty
 refine⟨h.uf.set oo,by rw[Fn];exact h.len,fun i=>if G i=max (G a) (G b) then min (G a) (G b) else G i,fun i hi=>(g1 i hi).put hm hc oo,fun i j hi hj=>?_⟩;refine Akq (G:=fun i=>(G i:Int)) (u:=((max (G a) (G b):Nat):Int)) (w:=((min (G a) (G b):Nat):Int)) (G':=fun i=>(((if G i=max (G a) (G b) then min (G a) (G b) else G i:Nat)):Int)) ha hb g2 ?_ (fun i _=>?_) hi hj
 .rcases Nat.le_total (G a) (G b) with c|c
  .rw[Nat.max_eq_right c,Nat.min_eq_left c];exact .inr ⟨rfl,rfl⟩
  .rw[Nat.max_eq_left c,Nat.min_eq_right c];exact .inl ⟨rfl,rfl⟩
 .by_cases c:G i=max (G a) (G b)
  .rw[if_pos c,if_pos oo]
  .rw[if_neg c,if_neg oo]
def edT(t:Ag)(k:Nat):Int×Int:=if k=0 then (t.a0,t.a1) else if k=1 then (t.a1,t.a2) else (t.a2,t.a0)
def okE(L:List Aa)(r:Af)(x y:Nat):Prop:=∃p q,L[x]? = some p/\L[y]? = some q/\X.sq p q<=r.Link*r.Link/\¬r.Flat<gapI p.Z q.Z
def EdP(L:List Aa)(r:Af)(T:List Ag)(x y:Nat):Prop:=(∃t∈T,∃k,k<3/\edT t k=((x:Int),(y:Int)))/\okE L r x y
theorem Axw{n:Nat}{t:Ag}(h0:inN n t.a0)(h1:inN n t.a1)(h2:inN n t.a2){k:Nat}(hk:k<3):
  ∃a b:Nat,idx [t.a0,t.a1,t.a2] (k:Int)=some (a:Int)/\idx [t.a0,t.a1,t.a2] (Int.tmod (w64 ((k:Int)+1)) 3)=some (b:Int)/\a<n/\b<n/\edT t k=((a:Int),(b:Int)):=by
 obtain⟨a,ea,ha⟩:=Fu h0;obtain⟨b,eb,hb⟩:=Fu h1;obtain⟨c,ec,hc⟩:=Fu h2;unfold edT;rw[ea,eb,ec,Au oo];rcases (by omega:k=0\/k=1\/k=2) with rfl|rfl|rfl
 .exact⟨a,b,rfl,rfl,ha,hb,rfl⟩
 .exact⟨b,c,rfl,rfl,hb,hc,rfl⟩
 .exact⟨c,a,rfl,rfl,hc,ha,rfl⟩
section
variable {L:List Aa}{r:Af}(hL:X.Fit L)(hr:X.okRules r=true)
include hL hr
theorem An0{t:Ag}(h0:inN L.length t.a0)(h1:inN L.length t.a1)(h2:inN L.length t.a2){s:List Int}{E:Nat->Nat->Prop}(hs:Nms s L.length E):
  ∃s',lfix (Fi t L r) (s,0)=some s'/\Nms s' L.length (fun x y=>E x y\/(∃k,k<3/\edT t k=((x:Int),(y:Int)))/\okE L r x y):=by
 have hrr:=X.okRules_rng hr;have:=Aw (B:=Fi t L r) (fun x=>3-x.2.toNat) (fun x=>∃k:Nat,k<=3/\x.2=(k:Int)/\Nms x.1 L.length (fun x y=>E x y\/(∃k',k'<k/\edT t k'=((x:Int),(y:Int)))/\okE L r x y)) (fun s'=>Nms s' L.length (fun x y=>E x y\/(∃k,k<3/\edT t k=((x:Int),(y:Int)))/\okE L r x y)) (fun x hx=>by
  obtain⟨s,i⟩:=x;obtain⟨k,hk,hi,hs⟩:=hx;dsimp only at hi hs;subst hi;unfold Fi;dsimp only
  by_cases hk2:k<3
  ·left;obtain⟨a,b,ea,eb,ha,hb,ed⟩:=Axw h0 h1 h2 hk2;have pa:=hL.ok _ (List.getElem_mem ha);have pb:=hL.ok _ (List.getElem_mem hb);have ra:=X.okPt_rng pa;have rb:=X.okPt_rng pb;have oe:okE L r a b↔X.sq L[a] L[b]<=r.Link*r.Link/\¬ r.Flat<gapI L[a].Z L[b].Z:=by
    unfold okE;rw[List.getElem?_eq_getElem ha,List.getElem?_eq_getElem hb];exact⟨fun ⟨p,q,e1,e2,h⟩=>by cases e1;cases e2;exact h,fun h=>⟨_,_,rfl,rfl,h⟩⟩
   have nx:∀x y:Nat,(∃k',k'<k+1/\edT t k'=((x:Int),(y:Int)))↔(∃k',k'<k/\edT t k'=((x:Int),(y:Int)))\/(x=a/\y=b):=fun x y=>by
    constructor
    .rintro⟨k',h1,h2⟩
     by_cases e:k'=k
     .subst e;rw[ed] at h2;have e1:=congrArg Prod.fst h2;have e2:=congrArg Prod.snd h2;dsimp only at e1 e2;exact .inr oo
     .exact .inl ⟨k',oo,h2⟩
    .rintro (⟨k',h1,h2⟩|⟨rfl,rfl⟩)
     .exact⟨k',oo,h2⟩
     .exact⟨k,oo,ed⟩
   have no:¬okE L r a b->Nms s L.length (fun x y=>E x y\/(∃k',k'<k+1/\edT t k'=((x:Int),(y:Int)))/\okE L r x y):=fun h=>hs.congr fun x y=>by
    rw[nx];constructor
    .rintro (g|⟨g,g'⟩)
     .exact .inl g
     .exact .inr ⟨.inl g,g'⟩
    .rintro (g|⟨g|⟨rfl,rfl⟩,g'⟩)
     .exact .inl g
     .exact .inr ⟨g,g'⟩
     .exact absurd g' h
   rw[if_pos oo,jn_d,ea,Ad,eb,Ad,jn_d,Am ha,Ad,Am hb,Ad,X.near_eq pa pb oo oo,Ad,Au oo]
   by_cases c:X.sq L[a] L[b]<=r.Link*r.Link
   .rw[if_pos (decide_eq_true c),Ad,Ad,(Aiy (a:=L[a].Z) (b:=L[b].Z) oo oo).1,Ad];dsimp only
    by_cases c2:r.Flat<gapI L[a].Z L[b].Z
    .rw[if_pos (decide_eq_true c2)];exact⟨_,rfl,⟨k+1,hk2,rfl,no (by rw[oe];exact fun h=>h.2 c2)⟩,by dsimp only;omega⟩
    .have hl:=hs.len;obtain⟨x,ex⟩:=Rt.ex hs.uf a oo;obtain⟨y,ey⟩:=Rt.ex hs.uf b oo;have hx:=ex.le;have hy:=ey.le;have em:max (x:Int) (y:Int)=((max x y:Nat):Int):=oo;have en:min (x:Int) (y:Int)=((min x y:Nat):Int):=oo;have hm:max x y<s.length:=oo;rw[if_neg (by simpa using c2),ex.run,Ad,ey.run,Ad,em,en,Am hm,Ad];refine⟨_,rfl,⟨k+1,hk2,rfl,(hs.add ha hb ex ey).congr fun x y=>?_⟩,by dsimp only;omega⟩;rw[nx];constructor
     .rintro ((g|⟨g,g'⟩)|⟨rfl,rfl⟩)
      .exact .inl g
      .exact .inr ⟨.inl g,g'⟩
      .exact .inr ⟨.inr ⟨rfl,rfl⟩,oe.2 ⟨c,c2⟩⟩
     .rintro (g|⟨g|⟨rfl,rfl⟩,g'⟩)
      .exact .inl (.inl g)
      .exact .inl (.inr ⟨g,g'⟩)
      .exact .inr ⟨rfl,rfl⟩
   .rw[if_neg (by simpa using c)];dsimp only;rw[if_pos rfl];exact⟨_,rfl,⟨k+1,hk2,rfl,no (by rw[oe];exact fun h=>c h.1)⟩,by dsimp only;omega⟩
  .right;obtain rfl:k=3:=oo;rw[if_neg oo];exact⟨_,rfl,hs⟩) (s,0) ⟨0,oo,rfl,hs.congr fun x y=>s_⟩
 exact this
theorem An1{x:Ak × Int}(e:Nh L=some x)(e0:x.2=0)(e1:x.1.V=vxL L)(e3:Vh (vxL L) x.1.T):
  ∃G,If L r=some G/\G.length=L.length/\(∀x∈G,∃k:Nat,x=(k:Int)/\k<L.length)/\∀i j (hi:i<G.length) (hj:j<G.length),G[i]=G[j]↔Cnx (EdP L r x.1.T) i j:=by
 have hn:=hL.n;have hm:=Aiz hL e1 e3;have hvl:x.1.V.length=L.length:=by rw[e1];unfold vxL;rw[List.length_map]
 have i1:∃s,lfix (Gx L) (List.replicate (Int.toNat (L.length:Int)) (0:Int),0)=some s/\s.length=L.length/\∀i,i<L.length->s[i]? = some (i:Int):=by
  have:=Aw (B:=Gx L) (fun s=>L.length-s.2.toNat) (fun s=>∃k:Nat,k<=L.length/\s.2=(k:Int)/\s.1.length=L.length/\∀i,i<k->s.1[i]? = some (i:Int)) (fun s=>s.length=L.length/\∀i,i<L.length->s[i]? = some (i:Int)) (fun s hs=>by
   obtain⟨s,i⟩:=s;obtain⟨k,hk,hi,hs,hu⟩:=hs;dsimp only at hi hu hs;subst hi;unfold Gx;dsimp only;rw[List.length_replicate]
   by_cases hk2:k<L.length
   .left;rw[if_pos oo,Am (show k<s.length by omega),Ad,Au oo];refine⟨_,rfl,⟨k+1,hk2,rfl,by rw[Fn];exact hs,fun i hi=>?_⟩,by dsimp only;omega⟩;dsimp only;rw[Io]
    by_cases c:k=i
    .subst c;exact List.getElem?_set_self oo
    .rw[List.getElem?_set_ne c];exact hu i oo
   .right;obtain rfl:k=L.length:=oo;rw[if_neg oo];exact⟨_,rfl,hs,hu⟩) (List.replicate (Int.toNat (L.length:Int)) (0:Int),0) ⟨0,oo,rfl,by dsimp only;rw[List.length_replicate];omega,fun i hi=>absurd hi oo⟩
  exact this
 obtain⟨s1,l1,n1,u1⟩:=i1;have g1:Nms s1 L.length (EdP L r []):=by
  refine⟨fun k hk=>?_,n1,id,fun i hi=>.root (u1 i hi),fun i j hi hj=>?_⟩
  .have:=u1 k oo;rw[List.getElem?_eq_getElem hk] at this;have:=Option.some.inj this;omega
  .constructor
   .intro h;dsimp only[id] at h;obtain rfl:i=j:=oo;exact .refl _
   .intro h;dsimp only[id];clear hi hj
    induction h with
    |refl i=>rfl
    |base h=>obtain⟨⟨t,ht,_⟩,_⟩:=h;cases ht
    |symm _ ih=>exact ih.symm
    |trans _ _ h g=>exact h.trans g
 have i2:∃s,lfix (Fj x L r) (s1,0)=some s/\Nms s L.length (EdP L r x.1.T):=by
  have hTl:=hm.len;have:=Aw (B:=Fj x L r) (fun s=>x.1.T.length-s.2.toNat) (fun s=>∃k:Nat,k<=x.1.T.length/\s.2=(k:Int)/\Nms s.1 L.length (EdP L r (x.1.T.take k))) (fun s=>Nms s L.length (EdP L r x.1.T)) (fun s hs=>by
   obtain⟨s,i⟩:=s;obtain⟨k,hk,hi,hs⟩:=hs;dsimp only at hi hs;subst hi;unfold Fj;dsimp only
   by_cases hk2:k<x.1.T.length
   .left;obtain⟨t0,t1,t2,_⟩:=hm.t _ (List.getElem_mem hk2);rw[hvl] at t0 t1 t2;obtain⟨s',g1,g2⟩:=An0 hL hr t0 t1 t2 hs;rw[if_pos oo,jn_d,Am hk2,Ad,g1,Ad,Au oo];refine⟨_,rfl,⟨k+1,hk2,rfl,g2.congr fun a b=>?_⟩,by dsimp only;omega⟩;unfold EdP;rw[List.take_succ_eq_append_getElem hk2];constructor
    .rintro (⟨⟨t,ht,h⟩,o⟩|⟨h,o⟩)
     .exact⟨⟨t,List.mem_append_left _ ht,h⟩,o⟩
     .exact⟨⟨_,List.mem_append_right _ (List.mem_singleton.2 rfl),h⟩,o⟩
    .rintro⟨⟨t,ht,h⟩,o⟩;rcases List.mem_append.1 ht with ht|ht
     .exact .inl ⟨⟨t,ht,h⟩,o⟩
     .obtain rfl:=List.mem_singleton.1 ht;exact .inr ⟨h,o⟩
   .right;obtain rfl:k=x.1.T.length:=oo;rw[List.take_length] at hs;rw[if_neg oo];exact⟨_,rfl,hs⟩) (s1,0) ⟨0,oo,rfl,g1⟩
  exact this
 obtain⟨s2,l2,hs2⟩:=i2;obtain⟨G,hG,hE⟩:=hs2.ex;have n2:=hs2.len;have i3:∃s,lfix (Fk s2) (s2,0)=some s/\s.length=L.length/\∀i,i<L.length->s[i]? = some (G i:Int):=by
  have:=Aw (B:=Fk s2) (fun s=>s2.length-s.2.toNat) (fun s=>∃k:Nat,k<=s2.length/\s.2=(k:Int)/\s.1.length=L.length/\(∀i,i<L.length->Rt s.1 i (G i))/\∀i,i<k->s.1[i]? = some (G i:Int)) (fun s=>s.length=L.length/\∀i,i<L.length->s[i]? = some (G i:Int)) (fun s hs=>by
   obtain⟨s,i⟩:=s;obtain⟨k,hk,hi,hs,ho,hu⟩:=hs;dsimp only at hi hu ho hs;subst hi;unfold Fk;dsimp only
   by_cases hk2:k<s2.length
   .left;have hk3:k<s.length:=oo;have ho':=ho k oo;rw[if_pos oo,ho'.run,Ad,Am hk3,Ad,Au oo];refine⟨_,rfl,⟨k+1,hk2,rfl,by rw[Fn];exact hs,fun i hi=>ho'.flat (ho i hi),fun i hi=>?_⟩,by dsimp only;omega⟩;dsimp only;rw[Io]
    by_cases c:k=i
    .subst c;exact List.getElem?_set_self oo
    .rw[List.getElem?_set_ne c];exact hu i oo
   .right;obtain rfl:k=s2.length:=oo;rw[if_neg oo];exact⟨_,rfl,hs,fun i hi=>hu i oo⟩) (s2,0) ⟨0,oo,rfl,n2,hG,fun i hi=>absurd hi oo⟩
  exact this
 obtain⟨s3,l3,n3,u3⟩:=i3;have at3:∀i (hi:i<s3.length),s3[i]=(G i:Int):=fun i hi=>by
  have:=u3 i oo;rw[List.getElem?_eq_getElem hi] at this;exact Option.some.inj this
 refine⟨s3,?_,n3,fun z hz=>?_,fun i j hi hj=>?_⟩
 .unfold If;rw[gd_t oo,jn_d,l1,Ad];dsimp only;rw[e,Ad,if_pos e0,jn_d,l2,Ad];dsimp only;rw[jn_d,l3,Ad]
 .obtain⟨k,hk,rfl⟩:=List.getElem_of_mem hz;have h:=(hG k oo).le;exact⟨G k,at3 k hk,oo⟩
 .rw[at3 i hi,at3 j hj];exact hE i j oo oo
end
theorem Ap8{G:LI}{n:Nat}(hn:G.length<=1000000)(hg:∀x∈G,∃k:Nat,x=(k:Int)/\k<n):∃S,lfix (Dj G) (List.replicate n (0:Int),0)=some S/\S.length=n/\∀i (hi:i<S.length),S[i]=((G.count (i:Int):Nat):Int):=by
 have:=Aw (B:=Dj G) (fun s=>G.length-s.2.toNat) (fun s=>∃k:Nat,k<=G.length/\s.2=(k:Int)/\s.1.length=n/\∀i (hi:i<s.1.length),s.1[i]=(((G.take k).count (i:Int):Nat):Int)) (fun s=>s.length=n/\∀i (hi:i<s.length),s[i]=((G.count (i:Int):Nat):Int)) (fun s hs=>by
  obtain⟨s,i⟩:=s;obtain⟨k,hk,hi,hs,hc⟩:=hs;dsimp only at hi hs hc;subst hi;unfold Dj;dsimp only
  by_cases hk2:k<G.length
  .left;obtain⟨x,hx,hx2⟩:=hg _ (List.getElem_mem hk2);have hx3:x<s.length:=oo;have hb:(G.take k).count (x:Int)<=k:=Nat.le_trans List.count_le_length (by rw[List.length_take];omega);rw[if_pos oo,Am hk2,Ad,hx,Am hx3,Ad,Ad,Au oo,hc x hx3,Au oo];refine⟨_,rfl,⟨k+1,hk2,rfl,by rw[Fn];exact hs,fun i hi=>?_⟩,by dsimp only;omega⟩;dsimp only at hi⊢;simp only[Io] at hi⊢;rw[List.length_set] at hi;rw[List.getElem_set,List.take_succ_eq_append_getElem hk2,List.count_append,hx,List.count_singleton]
   by_cases c:x=i
   .subst c;rw[if_pos rfl,if_pos s_]
   .rw[if_neg c,if_neg (by simp;omega),hc i hi];simp
  .right;obtain rfl:k=G.length:=oo;rw[List.take_length] at hc;rw[if_neg oo];exact⟨_,rfl,hs,hc⟩) (List.replicate n (0:Int),0) ⟨0,oo,rfl,List.length_replicate,fun i hi=>s_⟩
 exact this
theorem Ap9{G G':LI}(hn:G.length=G'.length)(h:∀i j (hi:i<G.length) (hj:j<G.length),G[i]=G[j]↔G'[i]=G'[j]){i:Nat}(hi:i<G.length):G.count G[i]=G'.count G'[i]:=by
 have key:∀k,k<=G.length->(G.take k).count G[i]=(G'.take k).count G'[i]:=by
  intro k
  induction k with
  |zero=>intro _;simp
  |succ k ih=>
   intro hk;rw[List.take_succ_eq_append_getElem (show k<G.length by omega),List.take_succ_eq_append_getElem (show k<G'.length by omega),List.count_append,List.count_append,ih oo,List.count_singleton,List.count_singleton];have:=h k i oo hi
   by_cases c:G[k]=G[i]
   .rw[if_pos (by simpa using c),if_pos (by simpa using this.1 c)]
   .rw[if_neg (by simpa using c),if_neg (by simpa using fun g=>c (this.2 g))]
 have:=key G.length (Nat.le_refl _);rw[List.take_length,hn,List.take_length] at this;exact this
end
instance(x0:Int)(x1:Int):Iy prog 30 [(1,.int .i64 x0),(2,.int .i64 x1)] [.int .i64 0,.int .i64 x0,.int .i64 x1,.int .i64 0,.int .i64 0,.int .i64 0,.int .i64 0,.int .i64 0,.int .i64 0]:=⟨fun w=>kr⟩
def Ex(p0:Av)(p1:Av):Option Int :=
 bnd (Us p0 p1) fun r3=>
 some r3.1
def Mu(p0:Ak)(p1:Aa)(p2:Af):Option (Bool×Int×Int):=
 bnd (Jj p0 (⟨p1.X,p1.Y⟩:Ab)) fun r5=>
 if r5.2=0 then (bnd (Gi p0 (⟨p1.X,p1.Y⟩:Ab)) fun r0=>
 bnd (Ex p1.Z r0.1) fun r1=>
 if p2.Reach<r1 then (some (false,0,0))
 else (bnd (idx p0.T r5.1) fun x0=>
 bnd (idx p0.V x0.a0) fun x1=>
 bnd (Bu (⟨0,x1.X,x1.Y,(⟨0,0⟩:Av),0,0,0,0⟩:Aa) p1) fun r2=>
 bnd (Ex p1.Z x1.Z) fun r3=>
 bnd (Bd r3) fun r4=>
 bnd (Bd 1000000) fun r6=>
 bnd (Bc r6 r4) fun r7=>
 bnd (Bc r7 r4) fun r8=>
 bnd (Bd (w64 (p2.Slope*p2.Slope))) fun r9=>
 bnd (Bd r2) fun r86=>
 bnd (Bc r9 r86) fun r95=>
 bnd (Cs r8 r95) fun r10=>
 if 0<r10 then (some (false,0,0))
 else (bnd (idx p0.T r5.1) fun x2=>
 bnd (idx p0.V x2.a1) fun x3=>
 bnd (Bu (⟨0,x3.X,x3.Y,(⟨0,0⟩:Av),0,0,0,0⟩:Aa) p1) fun r12=>
 bnd (Ex p1.Z x3.Z) fun r13=>
 bnd (Bd r13) fun r14=>
 bnd (Bd 1000000) fun r16=>
 bnd (Bc r16 r14) fun r17=>
 bnd (Bc r17 r14) fun r18=>
 bnd (Bd (w64 (p2.Slope*p2.Slope))) fun r19=>
 bnd (Bd r12) fun r20=>
 bnd (Bc r19 r20) fun r21=>
 bnd (Cs r18 r21) fun r22=>
 if 0<r22 then (some (false,0,0))
 else (bnd (idx p0.T r5.1) fun x4=>
 bnd (idx p0.V x4.a2) fun x5=>
 bnd (Bu (⟨0,x5.X,x5.Y,(⟨0,0⟩:Av),0,0,0,0⟩:Aa) p1) fun r23=>
 bnd (Ex p1.Z x5.Z) fun r24=>
 bnd (Bd r24) fun r25=>
 bnd (Bd 1000000) fun r26=>
 bnd (Bc r26 r25) fun r27=>
 bnd (Bc r27 r25) fun r28=>
 bnd (Bd (w64 (p2.Slope*p2.Slope))) fun r29=>
 bnd (Bd r23) fun r30=>
 bnd (Bc r29 r30) fun r31=>
 bnd (Cs r28 r31) fun r32=>
 if 0<r32 then (some (false,0,0))
 else (some (true,r1,r5.1))))))
 else (some (false,0,0))
def Lk(r9:Ak×Int):(LI×Int)->Option (Sum (LI×Int) LI):=fun s0=>
 if s0.2<(r9.1.T.length:Int) then (bnd (idx s0.1 s0.2) fun x0=>
 some (.inl (setI s0.1 s0.2 (-1),w64 (s0.2+1))))
 else (some (.inr s0.1))
def Js(r0:List Aa)(p1:List Aa)(r9:Ak×Int)(p2:Af):(LI×LI×Int)->Option (Sum (LI×LI×Int) LI):=fun s0=>
 if s0.2.2<(r0.length:Int) then (jn (fun (s1:LI×LI)=>
 some (.inl (s1.1,s1.2,w64 (s0.2.2+1))))
 (fun j0=>bnd (idx r0 s0.2.2) fun x0=>
 bnd (Dl p1) fun r1=>
 bnd (Es r1 x0.Id) fun r2=>
 if r2=true then (j0 (s0.1,s0.2.1))
 else (bnd (idx r0 s0.2.2) fun x1=>
 bnd (Mu r9.1 x1 p2) fun r3=>
 if r3.1=true then (jn (fun (s2:Bool)=>
 if s2=true then (bnd (idx s0.1 r3.2.2) fun x2=>
 bnd (idx s0.2.1 r3.2.2) fun x3=>
 j0 (setI s0.1 r3.2.2 s0.2.2,setI s0.2.1 r3.2.2 r3.2.1))
 else (j0 (s0.1,s0.2.1)))
 (fun j1=>bnd (idx s0.1 r3.2.2) fun x4=>
 if x4<0 then (j1 true)
 else (bnd (idx s0.2.1 r3.2.2) fun x5=>
 if r3.2.1<x5 then (j1 true)
 else (bnd (idx s0.2.1 r3.2.2) fun x6=>
 if r3.2.1=x6 then (bnd (idx r0 s0.2.2) fun x7=>
 bnd (idx s0.1 r3.2.2) fun x8=>
 bnd (idx r0 x8) fun x9=>
 bnd (Hu x7 x9) fun r4=>
 j1 r4)
 else (j1 false)))))
 else (j0 (s0.1,s0.2.1)))))
 else (some (.inr s0.1))
def Jt(r9:Ak×Int)(s0:LI)(r0:List Aa):(List Aa×Int)->Option (Sum (List Aa×Int) (List Aa)):=fun s1=>
 if s1.2<(r9.1.T.length:Int) then (jn (fun (s2:List Aa)=>
 some (.inl (s2,w64 (s1.2+1))))
 (fun j0=>bnd (idx s0 s1.2) fun x0=>
 if 0<=x0 then (bnd (idx s0 s1.2) fun x1=>
 bnd (idx r0 x1) fun x2=>
 gd ((s1.1.length+1)*72<=140737488355328)<|
 j0 (s1.1++[x2]))
 else (j0 s1.1)))
 else (some (.inr s1.1))
def Mv(p0:List Aa)(p1:List Aa)(p2:Af):Option (List Aa×Int):=
 bnd (Gd p1) fun r2=>
 bnd (Fb r2) fun r9=>
 if r9.2=0 then (bnd (En p0 p2) fun r0=>
 gd ((0:Int)<=(r9.1.T.length:Int)/\8*Int.toNat (r9.1.T.length:Int)<=140737488355328)<|
 gd ((0:Int)<=(r9.1.T.length:Int)/\8*Int.toNat (r9.1.T.length:Int)<=140737488355328)<|
 jn (fun (s9:LI)=>
 jn (fun (s0:LI)=>
 gd (((([]:List Aa)).length+p1.length)*72<=140737488355328)<|
 jn (fun (s1:List Aa)=>
 some (s1,0))
 (fun j0=>bnd (lfix (Jt r9 s0 r0) ((([]:List Aa))++p1,0)) fun t0=>
 j0 t0))
 (fun j1=>bnd (lfix (Js r0 p1 r9 p2) (s9,List.replicate (Int.toNat (r9.1.T.length:Int)) (0:Int),0)) fun t1=>
 j1 t1))
 (fun j9=>bnd (lfix (Lk r9) (List.replicate (Int.toNat (r9.1.T.length:Int)) (0:Int),0)) fun t2=>
 j9 t2))
 else (some (([]:List Aa),r9.2))
instance(p0:Av)(p1:Av):Con (Ex p0 p1) prog 86 (fun _ vs=>vs=[.agg #[.int .i64 p0.Lo,.int .i64 p0.Hi],.agg #[.int .i64 p1.Lo,.int .i64 p1.Hi]]) (fun _ r=>fun v Ln=>v=.int .i64 r/\Ln=[]/\True):=⟨by
 rintro _ _ r rfl hx w hK;unfold Ex at hx;refine CtS ntmps86 results86 ?_;exact au⟩
instance(p0:Ak)(p1:Aa)(p2:Af):Con (Mu p0 p1 p2) prog 38 (fun K vs=>∃U0 E0 U1 E1 U2 E2,vs=[.agg #[.slice U0 p0.V.length E0,.slice U1 p0.T.length E1,.slice U2 p0.Lines.length E2],.agg #[.int .i64 p1.Id,.int .i64 p1.X,.int .i64 p1.Y,.int .i64 p1.Z.Lo,.int .i64 p1.Z.Hi,.int .i64 p1.Wide,.int .i64 p1.Num,.int .i64 p1.Of,.int .i64 p1.Class],.agg #[.int .i64 p2.Cell,.int .i64 p2.Reach,.int .i64 p2.Slope,.int .i64 p2.Link,.int .i64 p2.Flat,.int .i64 p2.Tall,.int .i64 p2.High,.int .i64 p2.Low,.int .i64 p2.Brush,.int .i64 p2.Few]]/\Has K U0 p0.V.length E0 4 Al p0.V/\Has K U1 p0.T.length E1 3 Az p0.T/\Has K U2 p0.Lines.length E2 2 Ar p0.Lines/\True) (fun _ r=>fun v Ln=>v=.tuple #[.bool r.1,.int .i64 r.2.1,.int .i64 r.2.2]/\Ln=[]/\True):=⟨by
 rintro K _ r ⟨U0,E0,U1,E1,U2,E2,rfl,ha0,ha1,ha2,-⟩ hx w hK;replace ha0:=ha0.lo hK;replace ha1:=ha1.lo hK;replace ha2:=ha2.lo hK;unfold Mu at hx;have:=dl 12 [0,1,0,1,0,0,0,0,1,0,1,2,3] [0,1,2,3,4,5,6,7,8,9,10,11,12];have:=dl 16 [2,1,2,1,2,4,3] [1,3,0,2,4,5,6] [5];have:=dl 17 [1,0,1,0,1,0,2,0,2,2,2,0] [0,1,2,3,4,5,7,6,8,9,10,11];refine CtS ntmps38 results38 ?_;refine pq ?_;intros;rename_i hx
 refine Cq2 (s:=33) hx rfl ?_ ?_
 .exact aI
 .refine pI ?_;intros;rename_i hx
  refine Cq1 (s:=47) hx rfl ?_ ?_
  .exact aI
  .refine pI ?_;intros;rename_i hx
   refine Cq1 (s:=93) hx rfl ?_ ?_
   .exact aI
   .refine pI ?_;intros;rename_i hx
    refine Cq1 (s:=93) hx rfl ?_ ?_
    .exact aI
    .refine pI ?_;intros;rename_i hx
     refine Cq1 (s:=93) hx rfl ?_ ?_
     .exact aI
     .exact aI⟩
instance(p0:List Aa)(p1:List Aa)(p2:Af):Con (Mv p0 p1 p2) prog 47 (fun K vs=>∃U0 E0 U1 E1,vs=[.slice U0 p0.length E0,.slice U1 p1.length E1,.agg #[.int .i64 p2.Cell,.int .i64 p2.Reach,.int .i64 p2.Slope,.int .i64 p2.Link,.int .i64 p2.Flat,.int .i64 p2.Tall,.int .i64 p2.High,.int .i64 p2.Low,.int .i64 p2.Brush,.int .i64 p2.Few]]/\Has K U0 p0.length E0 9 Ah p0/\Has K U1 p1.length E1 9 Ah p1/\True) (fun _ r=>fun v Ln=>∃A0 c0,v=.tuple #[.slice A0 r.1.length c0,.int .i64 r.2]/\Ln=[.r A0 r.1.length c0 30 9 (r.1.flatMap Ah)]/\True):=⟨by
 rintro K _ r ⟨U0,E0,U1,E1,rfl,ha0,ha1,-⟩ hx w hK;replace ha0:=ha0.lo hK;replace ha1:=ha1.lo hK;unfold Mv at hx;have:=dl 14 [0,2,0,0,0,0,1,2] [0,2,3,4,5,6,1,7];have:=dl 15 [1,0,0,0,1,1,2,0,0,0,0,2,2,2] [0,1,2,3,4,5,6,7,8,9,10,11,12,13];have:=dl 17 [0,0,0,1,0,0,0,0,0,0,1,0,0,0,0,0,0,0,1,0,0,0,0,0,1,0,0,0,0,1,0,1,2,0,0] [0,1,2,3,4,5,6,7,8,9,10,11,12,13,14,15,16,17,18,19,20,21,22,23,24,25,26,27,28,29,30,31,32,33,34];refine CtS ntmps47 results47 ?_;refine pq ?_;intros;rename_i hx
 refine Cq2 (s:=27) hx rfl ?_ ?_
 .exact aI
 .refine pI ?_;intros;rename_i hx
  refine pA ?_;intros;rename_i hx
  apply Jr (γ:=OA×Nat) hx [1,5,8,10,12] (fun s9 y9 f=>(11,.slice y9.1 s9.length y9.2)::f) [0,2,3,4,5,6,8,999] (fun s9 y9 l=>.r y9.1 s9.length y9.2 3 1 (s9.flatMap Aj)::l);exact kk
  .intro s9 y9 hx;apply Jr (γ:=OA×Nat) hx [1,8,10] (fun s0 y0 f=>(11,.slice y0.1 s0.length y0.2)::f) [2,3,4,5,6,999] (fun s0 y0 l=>.r y0.1 s0.length y0.2 3 1 (s0.flatMap Aj)::l);exact kk
   .intro s0 y0 hx;refine pq ?_;intros;rename_i hx
    (with_reducible apply Ae2 120 (sz:=9));exact rfl;exact aT;exact inferInstance;exact dL;exact (fun _=>rfl);exact rfl;exact rfl;exact sA
    refine pq ?_;intros;rename_i hx
    apply Jr (γ:=OA×Nat) hx [] (fun s1 y1 f=>(18,.slice y1.1 s1.length y1.2)::f) [999] (fun s1 y1 l=>.r y1.1 s1.length y1.2 30 9 (s1.flatMap Ah)::l);exact kk
    .exact aI
    .refine pI ?_;intros;rename_i hx
     apply Lr (γ:=OA×Nat) hx [8,10,11] (fun s2 y2 f=>(18,.slice y2.1 s2.1.length y2.2)::(19,.int .i64 s2.2)::f) [1,2,3,4,5,6,999] (fun s2 y2 l=>.r y2.1 s2.1.length y2.2 30 9 (s2.1.flatMap Ah)::l) (_,_);exact kk;exact sk;intro s2 y2 x0 hx _;unfold Jt at hx;exact au
   .refine pI ?_;intros;rename_i hx
    apply Lr (γ:=OA×Nat×OA×Nat) hx [1,5,8,10] (fun s3 y3 f=>(11,.slice y3.1 s3.1.length y3.2.1)::(12,.slice y3.2.2.1 s3.2.1.length y3.2.2.2)::(14,.int .i64 s3.2.2)::f) [2,3,4,5,6,7,999] (fun s3 y3 l=>.r y3.2.2.1 s3.2.1.length y3.2.2.2 3 1 (s3.2.1.flatMap Aj) :: .r y3.1 s3.1.length y3.2.1 3 1 (s3.1.flatMap Aj)::l) (_,_,_,_);exact kk;exact sk;intro s3 y3 x1 hx _;unfold Js at hx;refine pq ?_;intros;rename_i hx
    refine Cq1 (s:=53) hx rfl ?_ ?_
    .refine pI ?_;intros;rename_i hx
     apply Jr (γ:=OA×Nat×OA×Nat) hx [1,5,8,10,14] (fun s4 y4 f=>(11,.slice y4.1 s4.1.length y4.2.1)::(12,.slice y4.2.2.1 s4.2.length y4.2.2.2)::f) [2,3,4,5,6,7,999] (fun s4 y4 l=>.r y4.2.2.1 s4.2.length y4.2.2.2 3 1 (s4.2.flatMap Aj) :: .r y4.1 s4.1.length y4.2.1 3 1 (s4.1.flatMap Aj)::l);exact kk
     .exact aI
     .refine pI ?_;intros;rename_i hx
      refine Cq3 (s:=63) hx rfl ?_ ?_
      .exact aI
      .refine pI ?_;intros;rename_i hx
       refine Cq4 (s:=76) hx rfl ?_ ?_
       .exact aI
       .refine pI ?_;intros;rename_i hx
        apply Jr (γ:=Unit) hx [1,5,8,10,11,12,14,16,17] (fun s5 y5 f=>(111,.bool s5)::f) [1,2,3,4,5,6,7,8,999] (fun s5 y5 l=>l);exact kk
        .exact aI
        .exact aI
    .exact aI
  .refine pI ?_;intros;rename_i hx
   apply Lr (γ:=OA×Nat) hx [1,5,8,10,12] (fun s6 y6 f=>(11,.slice y6.1 s6.1.length y6.2)::(13,.int .i64 s6.2)::f) [0,2,3,4,5,6,8,999] (fun s6 y6 l=>.r y6.1 s6.1.length y6.2 3 1 (s6.1.flatMap Aj)::l) (_,_);exact kk;exact sk;intro s6 y6 x2 hx _;unfold Lk at hx;exact au⟩
def Nm(p0:List Aa)(p1:Af):(List Aa)->Option (Sum (List Aa) (LI×Int)):=fun s0=>
 bnd (Mv p0 s0 p1) fun r0=>
 if (r0.1.length:Int)=(s0.length:Int) then (bnd (Dl s0) fun r1=>
 some (.inr (r1,0)))
 else (some (.inl r0.1))
def Gh(p0:List Aa)(p1:Af):Option (LI×Int):=
 bnd (Pe p0 p1) fun r2=>
 if r2.2=0 then (bnd (Ms p0 r2.1) fun r0=>
 bnd (lfix (Nm p0 p1) r0.1) fun t0=>
 some t0)
 else (some (([]:LI),r2.2))
instance(p0:List Aa)(p1:Af):Con (Gh p0 p1) prog 20 (fun K vs=>∃U0 E0,vs=[.slice U0 p0.length E0,.agg #[.int .i64 p1.Cell,.int .i64 p1.Reach,.int .i64 p1.Slope,.int .i64 p1.Link,.int .i64 p1.Flat,.int .i64 p1.Tall,.int .i64 p1.High,.int .i64 p1.Low,.int .i64 p1.Brush,.int .i64 p1.Few]]/\Has K U0 p0.length E0 9 Ah p0/\True) (fun _ r=>fun v Ln=>∃A0 c0,v=.tuple #[.slice A0 r.1.length c0,.int .i64 r.2]/\Ln=[.r A0 r.1.length c0 3 1 (r.1.flatMap Aj)]/\True):=⟨by
 rintro K _ r ⟨U0,E0,rfl,ha0,-⟩ hx w hK;replace ha0:=ha0.lo hK;unfold Gh at hx;refine CtS ntmps20 results20 ?_;refine pq ?_;intros;rename_i hx
 refine Cq2 (s:=19) hx rfl ?_ ?_
 .exact aI
 .refine pI ?_;intros;rename_i hx
  apply Lr (γ:=OA×Nat) hx [0,3] (fun s35 y35 f=>(8,.slice y35.1 s35.length y35.2)::f) [2,999] (fun s35 y35 l=>.r y35.1 s35.length y35.2 30 9 (s35.flatMap Ah)::l) (_,_);exact kk;exact sk;intro s35 y35 x35 hx _;unfold Nm at hx;exact au⟩
end
end Go.Proofs.YthlkpgdfifnagaaGreat
