import Derived.Test.YtjfndjmabhbicabGreatB1
set_option maxRecDepth 100000
set_option maxHeartbeats 1000000
namespace Go.Proofs.YtjfndjmabhbicabGreat
open Go Go.RowKit Tryz
theorem Aml(a b c p:Ab):crs b c p+crs c a p+crs a b p=crs a b c:=by unfold crs;grind
theorem Ar0{w0 w1 w2:Int}(n0:0<=w0)(n1:0<=w1)(n2:0<=w2)(hA:w0+w1+w2<=2305843009213693952)(h0:0<w0+w1+w2){p:Ai}(k0:-1099511627776<=p.a0/\p.a0<=1099511627776)(k1:-1099511627776<=p.a1/\p.a1<=1099511627776)(k2:-1099511627776<=p.a2/\p.a2<=1099511627776):
  Ke ⟨w0,w1,w2⟩ p=some ((w0*p.a0+w1*p.a1+w2*p.a2) / (w0+w1+w2),-((-(w0*p.a0+w1*p.a1+w2*p.a2)) / (w0+w1+w2))):=by
 obtain⟨m0,rfl⟩:=Int.eq_ofNat_of_zero_le n0;obtain⟨m1,rfl⟩:=Int.eq_ofNat_of_zero_le n1;obtain⟨m2,rfl⟩:=Int.eq_ofNat_of_zero_le n2;obtain⟨b,hb⟩:∃ b,min (min p.a0 p.a1) p.a2=b:=⟨_,rfl⟩;obtain⟨d0,e0⟩:∃ d:Nat,p.a0=b+d:=⟨(p.a0-b).toNat,oo⟩;obtain⟨d1,e1⟩:∃ d:Nat,p.a1=b+d:=⟨(p.a1-b).toNat,oo⟩;obtain⟨d2,e2⟩:∃ d:Nat,p.a2=b+d:=⟨(p.a2-b).toNat,oo⟩;have h:=Azi (m0:=m0) (m1:=m1) (m2:=m2) (d0:=d0) (d1:=d1) (d2:=d2) (b:=b) (p:=p) oo oo oo oo oo oo oo hb e0 e1 e2;rw[h];have hS:(m0:Int)*p.a0+(m1:Int)*p.a1+(m2:Int)*p.a2=((m0*d0+m1*d1+m2*d2:Nat):Int)+b*((m0+m1+m2:Nat):Int):=by
  rw[e0,e1,e2];push_cast;grind
 have hA2:(m0:Int)+(m1:Int)+(m2:Int)=((m0+m1+m2:Nat):Int):=by push_cast;rfl
 rw[hS,hA2];have hpos:0<m0+m1+m2:=oo;clear hS hA2 h e0 e1 e2 hb n0 n1 n2 hA h0 k0 k1 k2;generalize m0*d0+m1*d1+m2*d2=N at *;generalize m0+m1+m2=A at *;have q1:=Nat.div_add_mod N A;have q2:=Nat.mod_lt N hpos;generalize N / A=q at *;generalize N % A=r at *;have q3:(N:Int)=(A:Int)*(q:Int)+(r:Int):=by rw[<- q1];push_cast;rfl
 have l1:((N:Int)+b*(A:Int)) / (A:Int)=b+(q:Int):=X.ediv_of (r:=(r:Int)) oo (by rw[q3];grind) oo oo
 by_cases hr:0<r
 ·have l2:(-((N:Int)+b*(A:Int))) / (A:Int) = -(b+(q:Int)+1):=X.ediv_of (r:=(A:Int)-(r:Int)) oo (by rw[q3];grind) oo oo;rw[l1,l2,if_pos hr,Int.neg_neg]
 ·have l2:(-((N:Int)+b*(A:Int))) / (A:Int) = -(b+(q:Int)):=X.ediv_of (r:=0) oo (by rw[q3,show r=0 by omega];grind) oo oo;rw[l1,l2,if_neg hr,Int.neg_neg,Int.add_zero]
def zV(v:List Ad)(i:Int):Ax:=match idx v i with
 | some x=>x.Z
 | none=>⟨0,0⟩
def covT(v:List Ad)(at_:Ab)(t:Ai):Bool:=decide (0<=crs (plV v t.a0) (plV v t.a1) at_/\0<=crs (plV v t.a1) (plV v t.a2) at_/\0<=crs (plV v t.a2) (plV v t.a0) at_)
def Oi(v:List Ad)(t:Ai):Int:=crs (plV v t.a0) (plV v t.a1) (plV v t.a2)
def wsum(v:List Ad)(at_:Ab)(t:Ai)(f:Ax->Int):Int :=
 crs (plV v t.a1) (plV v t.a2) at_*f (zV v t.a0)+crs (plV v t.a2) (plV v t.a0) at_*f (zV v t.a1)+crs (plV v t.a0) (plV v t.a1) at_*f (zV v t.a2)
def bndT(v:List Ad)(at_:Ab)(t:Ai):Ax:=⟨wsum v at_ t (·.Lo) / Oi v t,-((-(wsum v at_ t (·.Hi))) / Oi v t)⟩
def locT(v:List Ad)(T:List Ai)(at_:Ab):Option Nat:=T.findIdx? (covT v at_)
def gapI(a b:Ax):Int:=max (max 0 (a.Lo-b.Hi)) (b.Lo-a.Hi)
def Nc(v:List Ad)(r:Ah)(p:Aa)(k:Int):Bool :=
 decide (gapI p.Z (zV v k)*gapI p.Z (zV v k)*1000000<=r.Slope*r.Slope*((p.X-(plV v k).X)*(p.X-(plV v k).X)+(p.Y-(plV v k).Y)*(p.Y-(plV v k).Y)))
def fitV(v:List Ad)(T:List Ai)(r:Ah)(p:Aa):Int × Bool × Int:=match locT v T (X.plF p) with
 | none=>(-1,false,0)
 | some i=>match idx T (i:Int) with
  | none=>(-1,false,0)
  | some t=>
   if r.Reach<gapI p.Z (bndT v (X.plF p) t) then ((i:Int),false,0) else
   if Nc v r p t.a0=true/\Nc v r p t.a1=true/\Nc v r p t.a2=true then ((i:Int),true,gapI p.Z (bndT v (X.plF p) t)) else ((i:Int),false,0)
theorem Alb{α:Type}(l:List α)(p:α->Bool)(B:Int->Option (Sum Int (Sum Unit Int)))(h1:∀ (j:Nat) (h:j<l.length),B j=if p l[j]=true then some (.inr (.inr (j:Int))) else some (.inl ((j+1:Nat):Int)))(h2:B l.length=some (.inr (.inl ()))):
  lfix B 0=some (match l.findIdx? p with | some i=>.inr (i:Int) | none=>.inl ()):=by
 have key:∀ (m k:Nat),k<=l.length->l.length-k=m->(∀ j (hj:j<l.length),j<k->p l[j]=false)->lfix B k=some (match l.findIdx? p with | some i=>.inr (i:Int) | none=>.inl ()):=by
  intro m
  induction m with
  | zero=>
   intro k hk hm hf;obtain rfl:k=l.length:=oo;rw[Bd,h2];have:l.findIdx? p=none:=by
    rw[List.findIdx?_eq_none_iff];intro x hx;obtain⟨j,hj,rfl⟩:=List.getElem_of_mem hx;exact hf j hj hj
   rw[this]
  | succ m ih=>
   intro k hk hm hf;have hlt:k<l.length:=oo;rw[Bd,h1 k hlt]
   by_cases hp:p l[k]=true
   ·rw[if_pos hp];have:l.findIdx? p=some k:=by
     rw[List.findIdx?_eq_some_iff_getElem];exact⟨hlt,hp,fun j hj=>by rw[hf j oo hj];simp⟩
    rw[this]
   ·rw[if_neg hp];refine ih (k+1) oo oo fun j hj hjk=>?_
    by_cases e:j=k
    ·subst e;exact Bool.eq_false_iff.2 hp
    ·exact hf j hj oo
 exact key l.length 0 (Nat.zero_le _) rfl (fun j _ h=>absurd h oo)
theorem Aob{l:List Int}(hl:l.length<=1000000)(n:Int):Dd l n=some (decide (n∈l)):=by
 unfold Dd Je;rw[jn_d,Alb l (fun x=>decide (n=x)) (Ee l n) (fun j hj=>?_) ?_,Ae]
 ·cases e:l.findIdx? (fun x=>decide (n=x)) with
  | none=>
   dsimp only;rw[List.findIdx?_eq_none_iff] at e;rw[Ae];have:n ∉ l:=fun h=>by simpa using e n h
   simp[this]
  | some i=>
   dsimp only;rw[List.findIdx?_eq_some_iff_getElem] at e;obtain⟨hi,h,_⟩:=e;rw[Ae];have:n∈l:=by
    rw[decide_eq_true_eq] at h;rw[h];exact List.getElem_mem hi
   simp[this]
 ·unfold Ee;rw[if_neg oo]
 ·unfold Ee;rw[if_pos oo,At hj,Ae,w1 hj oo];simp only[decide_eq_true_eq]
structure Msh(m:Aq):Prop where
 n:m.V.length<=1024
 ok:∀ x∈m.V,Mb x
 len:m.T.length<=1152921504606846976
 t:∀ t∈m.T,inN m.V.length t.a0/\inN m.V.length t.a1/\inN m.V.length t.a2/\0<Oi m.V t
theorem Mc{n:Nat}{i:Int}(h:inN n i):∃ k:Nat,i=(k:Int)/\k<n:=⟨i.toNat,by unfold inN at h;omega,by unfold inN at h;omega⟩
theorem Ai2{v:List Ad}{k:Nat}(hk:k<v.length):zV v (k:Int)=v[k].Z:=by unfold zV;rw[At hk]
theorem Gh{v:List Ad}(h:∀ x∈v,Mb x){i:Int}(hi:inN v.length i):okP (plV v i)/\-268435456<=(zV v i).Lo/\(zV v i).Lo<=(zV v i).Hi/\(zV v i).Hi<=268435456:=by
 obtain⟨k,rfl,hk⟩:=Mc hi;rw[Yh hk,Ai2 hk];exact h _ (List.getElem_mem hk)
theorem Xc{a b c:Ab}(ha:okP a)(hb:okP b)(hc:okP c):Fo a b c=some (crs a b c):=by
 have h0:=Hd ha hb hc;unfold okP at ha hb hc;have h1:=mulB (x:=b.X-a.X) (y:=c.Y-a.Y) (M:=536870912) (N:=536870912) oo oo oo oo oo;have h2:=mulB (x:=b.Y-a.Y) (y:=c.X-a.X) (M:=536870912) (N:=536870912) oo oo oo oo oo;unfold Fo;unfold crs at h0 ⊢;rw[Av (x:=b.X-a.X) oo oo,Av (x:=c.Y-a.Y) oo oo,Av (x:=b.Y-a.Y) oo oo,Av (x:=c.X-a.X) oo oo,
  Av (x:=(b.X-a.X)*(c.Y-a.Y)) oo oo,Av (x:=(b.Y-a.Y)*(c.X-a.X)) oo oo,Av oo oo]
theorem Ats{a b:Ab}(ha:okP a)(hb:okP b):Lt a b=some ((a.X-b.X)*(a.X-b.X)+(a.Y-b.Y)*(a.Y-b.Y))/\0<=(a.X-b.X)*(a.X-b.X)+(a.Y-b.Y)*(a.Y-b.Y)/\(a.X-b.X)*(a.X-b.X)+(a.Y-b.Y)*(a.Y-b.Y)<=576460752303423488:=by
 unfold okP at ha hb;obtain⟨a1,a2,a3,a4⟩:=X.sq_w (a:=a.X) (b:=b.X) oo oo;obtain⟨b1,b2,b3,b4⟩:=X.sq_w (a:=a.Y) (b:=b.Y) oo oo;refine⟨?_,oo,oo⟩;unfold Lt;rw[a1,b1,a2,b2,Av oo oo]
section
variable {m:Aq} (h:Msh m)
include h
theorem Ai3{i:Nat}(hi:i<m.T.length):Jh m (i:Int)=some ⟨plV m.V m.T[i].a0,plV m.V m.T[i].a1,plV m.V m.T[i].a2⟩:=by
 obtain⟨h0,h1,h2,_⟩:=h.t _ (List.getElem_mem hi);obtain⟨a,ea,ha⟩:=Mc h0;obtain⟨b,eb,hb⟩:=Mc h1;obtain⟨c,ec,hc⟩:=Mc h2;unfold Jh Kd;rw[At hi,Ae,ea,eb,ec,At ha,Ae,Ae,At hb,Ae,Ae,At hc,Ae,Ae,Yh ha,Yh hb,Yh hc];rfl
theorem Att{p:Ab}(hp:okP p):Qy m p=some (match locT m.V m.T p with | some i=>(i:Int) | none=>-1):=by
 unfold Qy;have hl:=h.len;rw[jn_d,Alb m.T (covT m.V p) (Nb m p) (fun j hj=>?_) ?_,Ae]
 ·unfold locT;cases m.T.findIdx? (covT m.V p) <;> rfl
 ·unfold Nb;rw[if_neg oo]
 ·obtain⟨h0,h1,h2,_⟩:=h.t _ (List.getElem_mem hj);have q0:=(Gh h.ok h0).1;have q1:=(Gh h.ok h1).1;have q2:=(Gh h.ok h2).1;unfold Nb;rw[if_pos oo,Ai3 h hj,Ae,jn_d,Bj oo];dsimp only;rw[Xc q0 q1 hp,Ae];unfold covT
  by_cases c1:0<=crs (plV m.V m.T[j].a0) (plV m.V m.T[j].a1) p
  ·rw[if_pos c1,Xc q1 q2 hp,Ae]
   by_cases c2:0<=crs (plV m.V m.T[j].a1) (plV m.V m.T[j].a2) p
   ·rw[if_pos c2,Xc q2 q0 hp,Ae]
    by_cases c3:0<=crs (plV m.V m.T[j].a2) (plV m.V m.T[j].a0) p
    ·simp[c1,c2,c3]
    ·simp[c1,c2,c3]
   ·rw[if_neg c2,if_neg (by simp),if_neg (by simp[c2])]
  ·rw[if_neg c1,if_neg (by simp),if_neg (by simp[c1])]
theorem Atu{p:Ab}(hp:okP p){i:Nat}(hi:i<m.T.length)(hc:covT m.V p m.T[i]=true):Oh m (i:Int) p=some (bndT m.V p m.T[i]):=by
 obtain⟨h0,h1,h2,hpos⟩:=h.t _ (List.getElem_mem hi);obtain⟨q0,z0⟩:=Gh h.ok h0;obtain⟨q1,z1⟩:=Gh h.ok h1;obtain⟨q2,z2⟩:=Gh h.ok h2;have hs:=Aml (plV m.V m.T[i].a0) (plV m.V m.T[i].a1) (plV m.V m.T[i].a2) p;have hb:=Hd q0 q1 q2;unfold Oi at hpos;unfold covT at hc;rw[decide_eq_true_eq] at hc;obtain⟨a,ea,ha⟩:=Mc h0;obtain⟨b,eb,hb'⟩:=Mc h1;obtain⟨c,ec,hc'⟩:=Mc h2;unfold Oh;rw[Ai3 h hi,Ae,jn_d];dsimp only;rw[Xc q1 q2 hp,Ae,Xc q2 q0 hp,Ae,Xc q0 q1 hp,Ae,At hi,Ae,jn_d,ea,At ha,Ae,Ae];dsimp only;rw[jn_d,eb,At hb',Ae,Ae];dsimp only;rw[jn_d,ec,At hc',Ae,Ae];dsimp only;rw[<- ea,<- eb,<- ec];have ga:zV m.V m.T[i].a0=m.V[a].Z:=by rw[ea,Ai2 ha]
 have gb:zV m.V m.T[i].a1=m.V[b].Z:=by rw[eb,Ai2 hb']
 have gc:zV m.V m.T[i].a2=m.V[c].Z:=by rw[ec,Ai2 hc']
 rw[ga] at z0;rw[gb] at z1;rw[gc] at z2;rw[Ar0 oo oo oo oo oo (by dsimp only;omega) (by dsimp only;omega) (by dsimp only;omega),Ae,
  Ar0 oo oo oo oo oo (by dsimp only;omega) (by dsimp only;omega) (by dsimp only;omega),Ae]
 unfold bndT wsum Oi;rw[ga,gb,gc,hs]
theorem Ai4{p:Ab}{t:Ai}(ht:t∈m.T)(hc:covT m.V p t=true):-268435456<=(bndT m.V p t).Lo/\(bndT m.V p t).Lo<=(bndT m.V p t).Hi/\(bndT m.V p t).Hi<=268435456:=by
 obtain⟨h0,h1,h2,hpos⟩:=h.t _ ht;obtain⟨q0,z0⟩:=Gh h.ok h0;obtain⟨q1,z1⟩:=Gh h.ok h1;obtain⟨q2,z2⟩:=Gh h.ok h2;have hs:=Aml (plV m.V t.a0) (plV m.V t.a1) (plV m.V t.a2) p;unfold Oi at hpos;unfold covT at hc;rw[decide_eq_true_eq] at hc;unfold bndT wsum Oi;dsimp only;rw[<- hs];rw[<- hs] at hpos;obtain⟨n0,n1,n2⟩:=hc;generalize crs (plV m.V t.a1) (plV m.V t.a2) p=w0 at *;generalize crs (plV m.V t.a2) (plV m.V t.a0) p=w1 at *;generalize crs (plV m.V t.a0) (plV m.V t.a1) p=w2 at *;generalize zV m.V t.a0=s0 at *;generalize zV m.V t.a1=s1 at *;generalize zV m.V t.a2=s2 at *;have a0:=Int.mul_le_mul_of_nonneg_left (show -268435456<=s0.Lo by omega) n1;have a1:=Int.mul_le_mul_of_nonneg_left (show -268435456<=s1.Lo by omega) n2;have a2:=Int.mul_le_mul_of_nonneg_left (show -268435456<=s2.Lo by omega) n0;have b0:=Int.mul_le_mul_of_nonneg_left (show s0.Hi<=268435456 by omega) n1;have b1:=Int.mul_le_mul_of_nonneg_left (show s1.Hi<=268435456 by omega) n2;have b2:=Int.mul_le_mul_of_nonneg_left (show s2.Hi<=268435456 by omega) n0;have c0:=Int.mul_le_mul_of_nonneg_left (show s0.Lo<=s0.Hi by omega) n1;have c1:=Int.mul_le_mul_of_nonneg_left (show s1.Lo<=s1.Hi by omega) n2;have c2:=Int.mul_le_mul_of_nonneg_left (show s2.Lo<=s2.Hi by omega) n0;generalize w0*s0.Lo=x0 at *;generalize w1*s1.Lo=x1 at *;generalize w2*s2.Lo=x2 at *;generalize w0*s0.Hi=y0 at *;generalize w1*s1.Hi=y1 at *;generalize w2*s2.Hi=y2 at *;generalize hA:w0+w1+w2=A at *;have e1:-268435456<=(x0+x1+x2) / A:=Int.le_ediv_of_mul_le hpos oo;have e2:-268435456<=(-(y0+y1+y2)) / A:=Int.le_ediv_of_mul_le hpos oo;have g1:=Int.mul_ediv_self_le (x:=x0+x1+x2) (k:=A) oo;have g2:=Int.mul_ediv_self_le (x:=-(y0+y1+y2)) (k:=A) oo;refine⟨e1,?_,oo⟩;refine Int.not_lt.1 fun hlt=>?_
 have g3:=Int.mul_le_mul_of_nonneg_left (show -((-(y0+y1+y2)) / A)+1<=(x0+x1+x2) / A by omega) (show 0<=A by omega);rw[Int.mul_add,Int.mul_neg,Int.mul_one] at g3;omega
end
theorem pow8:(65536:Nat) ^ 8=340282366920938463463374607431768211456:=dD
theorem addI{a b:Int}(ha:a.natAbs<65536 ^ 8)(hb:b.natAbs<65536 ^ 8):Cs (QR (a:Rat)) (QR (b:Rat))=some (QR ((a+b:Int):Rat)):=by
 rw[Bbm (Sml.int ha oo) (Sml.int hb oo) oo,Rat.intCast_add]
theorem subI{a b:Int}(ha:a.natAbs<65536 ^ 8)(hb:b.natAbs<65536 ^ 8):Da (QR (a:Rat)) (QR (b:Rat))=some (QR ((a-b:Int):Rat)):=by
 rw[Bbn (Sml.int ha oo) (Sml.int hb oo) oo,Rat.intCast_sub]
theorem mulI{a b:Int}(ha:a.natAbs<65536 ^ 8)(hb:b.natAbs<65536 ^ 8):Dr (QR (a:Rat)) (QR (b:Rat))=some (QR ((a*b:Int):Rat)):=by
 rw[Bel (Sml.int ha oo) (Sml.int hb oo) oo,Rat.intCast_mul]
theorem Ap6{x1 y1 x2 y2 x3 y3:Int}(h:∀ z∈[x1,y1,x2,y2,x3,y3],-268435456<=z/\z<=268435456):
  Hr ⟨QR (x1:Rat),QR (y1:Rat)⟩ ⟨QR (x2:Rat),QR (y2:Rat)⟩ ⟨QR (x3:Rat),QR (y3:Rat)⟩=some (QR ((crs ⟨x1,y1⟩ ⟨x2,y2⟩ ⟨x3,y3⟩:Int):Rat)):=by
 have a1:=h x1 (by simp);have a2:=h y1 (by simp);have a3:=h x2 (by simp);have a4:=h y2 (by simp);have a5:=h x3 (by simp);have a6:=h y3 (by simp);have m1:=mulB (x:=x2-x1) (y:=y3-y1) (M:=536870912) (N:=536870912) oo oo oo oo oo;have m2:=mulB (x:=y2-y1) (y:=x3-x1) (M:=536870912) (N:=536870912) oo oo oo oo oo;unfold Hr;dsimp only;rw[subI (by rw[pow8];omega) (by rw[pow8];omega),Ae,subI (by rw[pow8];omega) (by rw[pow8];omega),Ae,mulI (by rw[pow8];omega) (by rw[pow8];omega),Ae,subI (by rw[pow8];omega) (by rw[pow8];omega),Ae,
  subI (by rw[pow8];omega) (by rw[pow8];omega),Ae,mulI (by rw[pow8];omega) (by rw[pow8];omega),Ae,subI (by rw[pow8];omega) (by rw[pow8];omega),Ae]
 rfl
theorem Ai5{z S A:Int}(hA:0<A):(z:Rat)<=(S:Rat) / (A:Rat)↔z*A<=S:=by
 have hA':(0:Rat)<(A:Rat):=by rw[show (0:Rat)=((0:Int):Rat) from rfl,Rat.intCast_lt_intCast];exact hA
 have hne:(A:Rat)≠0:=fun e=>by rw[e] at hA';exact absurd hA' dD
 have e:=Rat.div_mul_cancel (a:=(S:Rat)) hne;rw[<- Rat.intCast_le_intCast,Rat.intCast_mul];generalize (S:Rat) / (A:Rat)=y at *;rw[<- e];constructor
 ·intro h;exact Rat.mul_le_mul_of_nonneg_right h (by grind)
 ·intro h;exact Rat.le_of_mul_le_mul_right h hA'
theorem Atv{S A:Int}(hA:0<A):((S:Rat) / (A:Rat)).floor=S / A:=by
 refine Int.le_antisymm ?_ ?_
 ·have h:=(Rat.le_floor_iff (x:=((S:Rat) / (A:Rat)).floor) (a:=(S:Rat) / (A:Rat))).1 (Int.le_refl _);exact Int.le_ediv_of_mul_le hA ((Ai5 hA).1 h)
 ·rw[Rat.le_floor_iff,Ai5 hA];exact Int.ediv_mul_le _ oo
theorem At_Q{p:Ab}(hp:okP p):Ik p=some ⟨QR (p.X:Rat),QR (p.Y:Rat)⟩:=by
 unfold okP at hp;unfold Ik;rw[Acy oo oo,Ae,Acy oo oo,Ae]
section
variable {m:Aq} (h:Msh m)
include h
theorem Atw{p:Ab}(hp:okP p){t:Ai}(ht:t∈m.T):Ky m t ⟨QR (p.X:Rat),QR (p.Y:Rat)⟩ =
  some ⟨QR ((crs (plV m.V t.a1) (plV m.V t.a2) p:Int):Rat),QR ((crs (plV m.V t.a2) (plV m.V t.a0) p:Int):Rat),QR ((crs (plV m.V t.a0) (plV m.V t.a1) p:Int):Rat)⟩:=by
 obtain⟨h0,h1,h2,_⟩:=h.t _ ht;have q0:=(Gh h.ok h0).1;have q1:=(Gh h.ok h1).1;have q2:=(Gh h.ok h2).1;obtain⟨a,ea,ha⟩:=Mc h0;obtain⟨b,eb,hb⟩:=Mc h1;obtain⟨c,ec,hc⟩:=Mc h2;have pa:∀ {k:Nat} (hk:k<m.V.length),Au m.V[k]=some (plV m.V (k:Int)):=fun hk=>by rw[Yh hk];rfl
 unfold Ky;rw[ea,eb,ec,At ha,Ae,At hb,Ae,At hc,Ae,pa ha,Ae,pa hb,pa hc];rw[ea] at q0;rw[eb] at q1;rw[ec] at q2;rw[At_Q q0,Ae,Ae,At_Q q1,Ae,Ae,At_Q q2,Ae];generalize plV m.V (a:Int)=A at *;generalize plV m.V (b:Int)=B at *;generalize plV m.V (c:Int)=C at *;have all:∀ {u v w:Ab},okP u->okP v->okP w->∀ z∈[u.X,u.Y,v.X,v.Y,w.X,w.Y],-268435456<=z/\z<=268435456:=fun hu hv hw z hz=>by
  unfold okP at hu hv hw;simp only[List.mem_cons,List.not_mem_nil,or_false] at hz;omega
 rw[Ap6 (all hp q1 q2),Ae,Ap6 (all q0 hp q2),Ae,Ap6 (all q0 q1 hp),Ae];have r1:crs p B C=crs B C p:=by unfold crs;grind
 have r2:crs A p C=crs C A p:=by unfold crs;grind
 show some (⟨QR ((crs p B C:Int):Rat),QR ((crs A p C:Int):Rat),QR ((crs A B p:Int):Rat)⟩:Sg)=_;rw[r1,r2]
theorem Alc{p:Ab}(hp:okP p){t:Ai}(ht:t∈m.T)(b:Bool)(f:Ax->Int)(hf:∀ z,f z=if b=true then z.Hi else z.Lo):
  Ht m t ⟨QR (p.X:Rat),QR (p.Y:Rat)⟩ b=some (QR (((wsum m.V p t f:Int):Rat) / ((Oi m.V t:Int):Rat))):=by
 obtain⟨h0,h1,h2,hpos⟩:=h.t _ ht;obtain⟨q0,z0⟩:=Gh h.ok h0;obtain⟨q1,z1⟩:=Gh h.ok h1;obtain⟨q2,z2⟩:=Gh h.ok h2;have hs:=Aml (plV m.V t.a0) (plV m.V t.a1) (plV m.V t.a2) p;have b0:=Hd q1 q2 hp;have b1:=Hd q2 q0 hp;have b2:=Hd q0 q1 hp;have b3:=Hd q0 q1 q2;unfold Oi at hpos;unfold Ht;rw[Atw h hp ht,Ae,show Cr 0=some (QR ((0:Int):Rat)) from Acy oo oo,Ae,Ae];unfold wsum Oi;obtain⟨a,ea,ha⟩:=Mc h0;obtain⟨b',eb,hb⟩:=Mc h1;obtain⟨c,ec,hc⟩:=Mc h2;have hh:∀ {k:Nat} (hk:k<m.V.length),Fb m.V[k] b=some (f (zV m.V (k:Int))):=fun hk=>by
  unfold Fb;rw[Ai2 hk,hf];cases b <;> rfl
 rw[<- hs];rw[<- hs] at hpos b3;have f0:-268435456<=f (zV m.V t.a0)/\f (zV m.V t.a0)<=268435456:=by rw[hf];split <;> omega
 have f1:-268435456<=f (zV m.V t.a1)/\f (zV m.V t.a1)<=268435456:=by rw[hf];split <;> omega
 have f2:-268435456<=f (zV m.V t.a2)/\f (zV m.V t.a2)<=268435456:=by rw[hf];split <;> omega
 have k0:=hh ha;have k1:=hh hb;have k2:=hh hc;rw[<- ea] at k0;rw[<- eb] at k1;rw[<- ec] at k2;have i0:idx m.V t.a0=some m.V[a]:=by rw[ea];exact At ha
 have i1:idx m.V t.a1=some m.V[b']:=by rw[eb];exact At hb
 have i2:idx m.V t.a2=some m.V[c]:=by rw[ec];exact At hc
 rw[i0,Ae,k0,Ae];generalize f (zV m.V t.a0)=v0 at *;rw[Acy oo oo,Ae];generalize crs (plV m.V t.a1) (plV m.V t.a2) p=w0 at *;generalize crs (plV m.V t.a2) (plV m.V t.a0) p=w1 at *;generalize crs (plV m.V t.a0) (plV m.V t.a1) p=w2 at *;have m0:=mulB (x:=w0) (y:=v0) (M:=576460752303423488) (N:=268435456) oo oo oo oo oo;dsimp only;rw[mulI (by rw[pow8];omega) (by rw[pow8];omega),Ae,addI (by rw[pow8];omega) (by rw[pow8];omega),Ae,addI (by rw[pow8];omega) (by rw[pow8];omega),Ae,i1,Ae,k1,Ae];generalize f (zV m.V t.a1)=v1 at *;have m1:=mulB (x:=w1) (y:=v1) (M:=576460752303423488) (N:=268435456) oo oo oo oo oo;rw[Acy oo oo,Ae,mulI (by rw[pow8];omega) (by rw[pow8];omega),Ae,addI (by rw[pow8];omega) (by rw[pow8];omega),Ae,addI (by rw[pow8];omega) (by rw[pow8];omega),Ae,i2,Ae,k2,Ae];generalize f (zV m.V t.a2)=v2 at *;have m2:=mulB (x:=w2) (y:=v2) (M:=576460752303423488) (N:=268435456) oo oo oo oo oo;rw[Acy oo oo,Ae,mulI (by rw[pow8];omega) (by rw[pow8];omega),Ae,addI (by rw[pow8];omega) (by rw[pow8];omega),Ae,addI (by rw[pow8];omega) (by rw[pow8];omega),Ae];have e1:0+w0*v0+w1*v1+w2*v2=w0*v0+w1*v1+w2*v2:=oo;have e2:0+w0+w1+w2=w0+w1+w2:=oo;rw[e1,e2];have hne:((w0+w1+w2:Int):Rat)≠0:=fun e=>by
  rw[show (0:Rat)=((0:Int):Rat) from rfl,Rat.intCast_inj] at e;omega
 rw[Ben (Sml.int (k:=8) (by rw[pow8];omega) oo) (Sml.int (k:=8) (by rw[pow8];omega) oo) oo hne,Ae]
end
theorem Ald(p:Aa):Df p=some (X.plF p):=rfl
theorem Aee{p:Aa}(hp:X.okPt p=true):okP (X.plF p):=by
 have:=X.okPt_rng hp;unfold okP X.plF;dsimp only;omega
theorem Ap7{a b:Ax}(ha:-268435456<=a.Lo/\a.Lo<=a.Hi/\a.Hi<=268435456)(hb:-268435456<=b.Lo/\b.Lo<=b.Hi/\b.Hi<=268435456):Xa a b=some (gapI a b)/\0<=gapI a b/\gapI a b<=536870912:=by
 unfold Xa gapI;rw[Av (x:=a.Lo-b.Hi) oo oo,Av (x:=b.Lo-a.Hi) oo oo];exact⟨rfl,oo,oo⟩
theorem Axc{g q s:Int}(h1:0<=g)(h2:g<4294967296)(h3:0<=s)(h4:s<4294967296)(h5:0<=q)(h6:q<18446744073709551616):Rw g q s=some (decide (g*g*1000000<=s*s*q)):=by
 obtain⟨a,rfl⟩:=Int.eq_ofNat_of_zero_le h1;obtain⟨b,rfl⟩:=Int.eq_ofNat_of_zero_le h3;obtain⟨c,rfl⟩:=Int.eq_ofNat_of_zero_le h5;rw[Avi oo oo oo];congr 1;rw[Bool.eq_iff_iff,decide_eq_true_eq,decide_eq_true_eq,
  show (a:Int)*(a:Int)*1000000=((a*a*1000000:Nat):Int) by rw[Int.natCast_mul,Int.natCast_mul];rfl,
  show (b:Int)*(b:Int)*(c:Int)=((b*b*c:Nat):Int) by rw[Int.natCast_mul,Int.natCast_mul]]
 exact Int.ofNat_le.symm
section
variable {m:Aq} (h:Msh m) {p:Aa} (hp:X.okPt p=true) {r:Ah} (hr:X.okRules r=true)
include h hp hr
theorem Atx{t:Ai}(ht:t∈m.T)(i:Int){j:Nat}(hj:j < [t.a0,t.a1,t.a2].length):
  Qe t m p r i (j:Int)=if Nc m.V r p [t.a0,t.a1,t.a2][j]=true then some (.inl ((j+1:Nat):Int)) else some (.inr (.inr (i,false,0))):=by
 obtain⟨h0,h1,h2,_⟩:=h.t _ ht;have hk:inN m.V.length [t.a0,t.a1,t.a2][j]:=by
  have:[t.a0,t.a1,t.a2][j]∈[t.a0,t.a1,t.a2]:=List.getElem_mem hj;simp only[List.mem_cons,List.not_mem_nil,or_false] at this;rcases this with e | e | e <;> rw[e] <;> assumption
 have hj3:j<3:=hj;have hrr:=X.okRules_rng hr;have hpp:=X.okPt_rng hp;unfold Qe;rw[if_pos oo,At hj,Ae,Bj oo];unfold Nc;generalize [t.a0,t.a1,t.a2][j]=k at *;have hz:=Gh h.ok hk;obtain⟨n,rfl,hn⟩:=Mc hk;rw[Ai2 hn,Yh hn] at hz ⊢;obtain⟨g1,g2,g3⟩:=Ap7 (a:=p.Z) (b:=m.V[n].Z) oo hz.2;obtain⟨q1,q2,q3⟩:=Ats (Aee hp) hz.1;have sp:Kd m.V[n]=some (pP m.V[n]):=rfl;rw[At hn,Ae,g1,Ae,Ald,Ae,sp,Ae,q1,Ae,Axc g2 oo oo oo q2 oo,Ae];rfl
theorem Bah:Va m p r=some (fitV m.V m.T r p):=by
 have hpp:=X.okPt_rng hp;have hq:=Aee hp;unfold Va;rw[Ald,Ae,Att h hq,Ae];unfold fitV;cases e:locT m.V m.T (X.plF p) with
 | none=>rfl
 | some i=>
  dsimp only;have e':=e;unfold locT at e';rw[List.findIdx?_eq_some_iff_getElem] at e';obtain⟨hi,hc,_⟩:=e';have hb:=Ai4 h (List.getElem_mem hi) hc;rw[if_neg oo,Ae,Atu h hq hi hc,Ae,(Ap7 (a:=p.Z) oo hb).1,Ae,At hi];dsimp only
  by_cases c:r.Reach<gapI p.Z (bndT m.V (X.plF p) m.T[i])
  ·rw[if_pos c,if_pos c]
  ·rw[if_neg c,if_neg c,jn_d,Ae,Vr [m.T[i].a0,m.T[i].a1,m.T[i].a2] (Nc m.V r p) (Qe m.T[i] m p r (i:Int)) () ((i:Int),false,0) (fun j hj=>Atx h hp hr (List.getElem_mem hi) _ hj) ?_,Ae]
   ·by_cases c2:Nc m.V r p m.T[i].a0=true/\Nc m.V r p m.T[i].a1=true/\Nc m.V r p m.T[i].a2=true
    ·rw[if_pos c2,if_pos (by simp[c2])]
    ·rw[if_neg c2,if_neg (by simpa using c2)]
   ·unfold Qe;rw[if_neg (by simp)]
omit hp hr in
theorem Axd:-1<=(fitV m.V m.T r p).1/\(fitV m.V m.T r p).1<2305843009213693952:=by
 have hl:=h.len;unfold fitV;cases e:locT m.V m.T (X.plF p) with
 | none=>dsimp only;omega
 | some i=>
  have e':=e;unfold locT at e';rw[List.findIdx?_eq_some_iff_getElem] at e';obtain⟨hi,hc,_⟩:=e';dsimp only;rw[At hi];dsimp only;split
  ·dsimp only;omega
  ·split <;> (dsimp only;omega)
end
theorem Aty{n:Nat}{T:List Ai}(hnd:T.Nodup)(h:∀ t∈T,inN n t.a0/\inN n t.a1/\inN n t.a2):T.length<=n*n*n:=by
 have h1:(T.map fun t=>((t.a0.toNat*n+t.a1.toNat)*n+t.a2.toNat)).Nodup:=by
  unfold List.Nodup;rw[List.pairwise_map];refine List.Pairwise.imp_of_mem ?_ hnd;intro x y hx hy hne e;obtain⟨x0,x1,x2⟩:=h x hx;obtain⟨y0,y1,y2⟩:=h y hy;unfold inN at x0 x1 x2 y0 y1 y2;have e2:x.a2.toNat=y.a2.toNat:=by
   have:=congrArg (· % n) e;simp only[Nat.mul_add_mod_self_right] at this
   rwa [Nat.mod_eq_of_lt oo,Nat.mod_eq_of_lt oo] at this
  have e':x.a0.toNat*n+x.a1.toNat=y.a0.toNat*n+y.a1.toNat:=by
   rw[e2] at e;exact Nat.eq_of_mul_eq_mul_right (show 0<n by omega) oo
  have e1:x.a1.toNat=y.a1.toNat:=by
   have:=congrArg (· % n) e';simp only[Nat.mul_add_mod_self_right] at this
   rwa [Nat.mod_eq_of_lt oo,Nat.mod_eq_of_lt oo] at this
  have e0:x.a0.toNat=y.a0.toNat:=by
   rw[e1] at e';exact Nat.eq_of_mul_eq_mul_right (show 0<n by omega) oo
  apply hne;obtain⟨xa,xb,xc⟩:=x;obtain⟨ya,yb,yc⟩:=y;simp only at *;rw[show xa=ya by omega,show xb=yb by omega,show xc=yc by omega]
 have:=Ce (m:=List.range (n*n*n)) h1 fun x hx=>by
  obtain⟨t,ht,rfl⟩:=List.mem_map.1 hx;obtain⟨t0,t1,t2⟩:=h t ht;unfold inN at t0 t1 t2;rw[List.mem_range];have a1:=Nat.mul_le_mul_right n (show t.a0.toNat+1<=n by omega);have a2:=Nat.mul_le_mul_right n (show t.a0.toNat*n+t.a1.toNat+1<=n*n by rw[Nat.add_mul] at a1;omega);rw[Nat.add_mul,Nat.one_mul] at a2;omega
 rwa [List.length_map,List.length_range] at this
theorem Axe{L:List Aa}(hL:X.Fit L):∀ x∈vxL L,Mb x:=fun x hx=>by
 unfold vxL at hx;obtain⟨p,hp,rfl⟩:=List.mem_map.1 hx;have:=X.okPt_rng (hL.ok p hp);unfold Mb okP pP;dsimp only;omega
theorem Ale{L:List Aa}(hL:X.Fit L):∃ r:Aq × Int,Rn L=some r/\((r.2=0/\Ip L/\r.1.V=vxL L/\r.1.Lines=[]/\Wk (vxL L) r.1.T)\/(r=(⟨[],[],[]⟩,11)/\¬ Ip L)):=by
 have hn:=hL.n;unfold Rn;rw[gd_t oo,jn_d,Ai0 hn,Ae];dsimp only;rcases Agg hL with⟨e,ha⟩|⟨e,ha⟩
 ·obtain⟨T,t1,t3⟩:=An8 e;rw[t1,Ae];dsimp only;rw[if_pos rfl];exact⟨_,rfl,.inl ⟨rfl,ha,rfl,rfl,t3⟩⟩
 ·rw[Ala [] oo,Ae];dsimp only;rw[if_neg oo];exact⟨_,rfl,.inr ⟨rfl,ha⟩⟩
theorem Axf{L:List Aa}(hL:X.Fit L){m:Aq}(hv:m.V=vxL L)(ht:Wk (vxL L) m.T):Msh m:=by
 have hn:=hL.n;have hlen:m.V.length<=1024:=by rw[hv];unfold vxL;rw[List.length_map];exact hn
 have hin:∀ t∈m.T,inN m.V.length t.a0/\inN m.V.length t.a1/\inN m.V.length t.a2/\0<Oi m.V t:=fun t h=>by
  rw[hv];obtain⟨_,_,d0,d1,d2,d3,_⟩:=(ht.mem t).1 h;exact⟨d0,d1,d2,d3⟩
 refine⟨hlen,by rw[hv];exact Axe hL,?_,hin⟩;have:=Aty ht.nd (fun t h=>⟨(hin t h).1,(hin t h).2.1,(hin t h).2.2.1⟩);have h1:=Nat.mul_le_mul hlen hlen;have h2:=Nat.mul_le_mul h1 hlen;omega
end Go.Proofs.YtjfndjmabhbicabGreat
namespace Go.Proofs.YtjfndjmabhbicabGreat
open Go Go.RowKit Go.Sort Tryz
structure Ctx(l:List Aa)(r:Ah)(C:List Aa):Prop where
 val:X.validL l=true
 rul:X.okRules r=true
 few:l.length<=300
 perm:C.Perm (X.candL l r)
structure GOk(C:List Aa)(g:List Int):Prop where
 nd:g.Nodup
 src:∀ i∈g,∃ p∈C,p.Id=i
theorem Fit.pick{l:List Aa}{ids:List Int}(hl:X.Fit l):X.Fit (Qz l ids):=(Fit.sel hl).perm (Iu _ _).symm
section
variable {l:List Aa} {r:Ah} {C:List Aa} (hc:Ctx l r C)
include hc
theorem Ctx.fit:X.Fit C:=(X.Fit.cand hc.val).perm hc.perm.symm
theorem Ctx.bot{p:Aa}(hp:p∈C):p∈X.candL l r:=hc.perm.mem_iff.1 hp
theorem Ctx.dry{p:Aa}(hp:p∈C):p∈l/\X.sunkB l r p=false/\p.Num=p.Of:=by
 have h1:=(X.mem_bot.1 (hc.bot hp)).1;unfold X.lastL X.dryL at h1;rw[List.mem_filter,List.mem_filter] at h1;exact⟨h1.1.1,by simpa using h1.1.2,by simpa using h1.2⟩
theorem Ctx.len:C.length<=300:=by
 classical
 have h1:=Ce (l:=C) (m:=l) (X.nodup_of_ids hc.fit.id) (fun x hx=>(hc.dry hx).1);have:=hc.few;omega
variable {g:List Int} (hg:GOk C g)
include hg
theorem GOk.rng{i:Int}(hi:i∈g):-9223372036854775808<=i/\i<=9223372036854775807:=by
 obtain⟨p,hp,rfl⟩:=hg.src i hi;have:=X.okPt_rng (hc.fit.ok p hp);omega
end
structure GSel(l:List Aa)(g:List Int):Prop where
 sel:Xp l g
 apart:Ip (Qz l g)
section
variable {l:List Aa} {r:Ah} {C:List Aa} (hc:Ctx l r C) {g:List Int} (hg:GSel l g)
include hg
theorem GSel.len:g.length<=l.length:=by
 have:=Ce (l:=g) (m:=l.map (·.Id)) hg.sel.1 (fun i hi=>by
  obtain⟨p,hp,rfl⟩:=hg.sel.2 i hi;exact List.mem_map_of_mem hp)
 rwa [List.length_map] at this
include hc
theorem GSel.rng{i:Int}(hi:i∈g):-9223372036854775808<=i/\i<=9223372036854775807:=by
 obtain⟨p,hp,rfl⟩:=hg.sel.2 i hi;have:=X.okPt_rng ((X.Fit.of hc.val).ok p hp);omega
theorem Bai:∃ m:Aq,Cm l g=some (m,0)/\m.V=vxL (Qz l g)/\m.Lines=[]/\Wk (vxL (Qz l g)) m.T/\Msh m:=by
 have h1:=GSel.len hg;have h2:=hc.few;have hf:=Fit.pick (ids:=g) (X.Fit.of hc.val);obtain⟨x,e,⟨e0,_,e1,e2,e3⟩|⟨_,e0⟩⟩:=Ale hf
 ·refine⟨x.1,?_,e1,e2,e3,Axf hf e1 e3⟩;unfold Cm;rw[Xb (X.Fit.of hc.val) oo (fun i hi=>GSel.rng hc hg hi),Ae,if_pos hg.sel];dsimp only;rw[if_pos rfl,e,Ae,e0]
 ·exact absurd hg.apart e0
end
noncomputable def Oy(l:List Aa)(g:List Int):Aq:=match Cm l g with
 | some r=>r.1
 | none=>⟨[],[],[]⟩
noncomputable def gFit(l:List Aa)(r:Ah)(g:List Int):FitF:=fitV (Oy l g).V (Oy l g).T r
section
variable {l:List Aa} {r:Ah} {C:List Aa} (hc:Ctx l r C) {g:List Int} (hg:GSel l g)
include hc hg
theorem Ac0:Cm l g=some (Oy l g,0)/\(Oy l g).V=vxL (Qz l g)/\(Oy l g).Lines=[]/\Wk (vxL (Qz l g)) (Oy l g).T/\Msh (Oy l g):=by
 obtain⟨m,e,h⟩:=Bai hc hg;have:Oy l g=m:=by unfold Oy;rw[e]
 rw[this];exact⟨e,h⟩
omit hc hg in
theorem Ai6{C':List Aa}{b:List (Int × Ay)}(h:Zl g (gFit l r g) C' b):b.length<=C'.length:=by
 classical
 have h1:(b.map (·.2.p)).Nodup:=by
  unfold List.Nodup;rw[List.pairwise_map];refine List.Pairwise.imp_of_mem ?_ h.map;intro q q' hq hq' hne e;have a1:=(h.src q hq).2.2;have a2:=(h.src q' hq').2.2;rw[e,a2] at a1;exact hne (Prod.mk.inj a1).1.symm
 have:=Ce (m:=C') h1 fun x hx=>by
  obtain⟨q,hq,rfl⟩:=List.mem_map.1 hx;exact (h.src q hq).1
 rwa [List.length_map] at this
theorem Amm:lfix (Ta C g (Oy l g,0) r) (([]:List (Int × Ay)),0)=some (Yz g (gFit l r g) C):=by
 obtain⟨_,_,_,_,hm⟩:=Ac0 hc hg;have hlen:=hc.len;have hgl:=GSel.len hg;have hll:=hc.few;have:=Bk (B:=Ta C g (Oy l g,0) r) (fun s=>C.length-s.2.toNat) (fun s=>∃ k:Nat,k<=C.length/\s=((C.take k).foldl (Sv g (gFit l r g)) [],(k:Int))) (fun t=>t=Yz g (gFit l r g) C) (fun s hs=>by
  obtain⟨k,hk,rfl⟩:=hs;have hb:=Aeo (g:=g) (F:=gFit l r g) (C:=C) k;have hbl:=Ai6 hb;rw[List.length_take] at hbl;unfold Ta;dsimp only
  by_cases hk2:k<C.length
  ·left;refine⟨((C.take (k+1)).foldl (Sv g (gFit l r g)) [],((k+1:Nat):Int)),?_,⟨k+1,hk2,rfl⟩,by dsimp only;omega⟩;rw[List.take_succ_eq_append_getElem hk2,List.foldl_append];generalize (C.take k).foldl (Sv g (gFit l r g)) []=b at *;rw[if_pos oo,jn_d,At hk2,Ae,Aob oo,Ae,Bj oo];have hp:=hc.fit.ok _ (List.getElem_mem hk2);have hf:=Bah hm hp hc.rul;have hfr:=Axd (p:=C[k]) (r:=r) hm;show _=some (Sum.inl (Sv g (gFit l r g) b C[k],((k+1:Nat):Int)));unfold Sv
   by_cases c1:C[k].Id∈g
   ·rw[if_pos (by simpa using c1),if_pos (.inl c1)]
   ·rw[if_neg (by simpa using c1),hf,Ae];unfold gFit;generalize fitV (Oy l g).V (Oy l g).T r C[k]=f at *
    by_cases c2:f.2.1=true
    ·rw[if_pos c2,gd_t oo,Ae,jn_d,if_neg (show ¬ (C[k].Id∈g\/f.2.1=false) by rw[c2];simpa using c1),gd_t oo,gd_t oo];cases e:mget b f.1 with
     | none=>simp
     | some o=>
      simp only[Option.isSome_some,if_true,Option.getD_some]
      by_cases c3:f.2.2<o.far
      ·rw[if_pos c3,if_pos (.inl c3)];try simp
      ·rw[if_neg c3]
       by_cases c4:f.2.2=o.far
       ·rw[if_pos c4,X.lower_eq,Ae]
        by_cases c5:X.lowB C[k] o.p=true
        ·rw[if_pos c5,if_pos (.inr ⟨c4,c5⟩)]
        ·rw[if_neg c5,if_neg (fun h=>h.elim c3 (fun h=>c5 h.2))]
       ·rw[if_neg c4,if_neg (by simp),if_neg (fun h=>h.elim c3 (fun h=>c4 h.1))]
    ·rw[if_neg c2,if_pos (.inr (by simpa using c2))]
  ·right;rw[if_neg oo];have:k=C.length:=oo;subst this;exact⟨_,rfl,by rw[List.take_length];rfl⟩) (([]:List (Int × Ay)),0) ⟨0,oo,rfl⟩
 obtain⟨t,ht,rfl⟩:=this;exact ht
theorem Axg:Rt l g C r=some (Yc g (gFit l r g) C,0):=by
 obtain⟨hs,_⟩:=Ac0 hc hg;have hlen:=hc.len;have hgl:=GSel.len hg;have hll:=hc.few;have hbl:=Ai6 (Aag g (gFit l r g) C);unfold Rt;rw[hs,Ae];dsimp only;rw[if_pos rfl,jn_d,Amm hc hg,Ae];dsimp only;unfold Ac6;rw[gd_t oo,Ae,jn_d];refine Aqp (Aag g (gFit l r g) C).map g (fun q=>[q.2.p.Id]) (fun q=>by simp) (fun s=>rfl) (fun s q hq hlt=>?_) (fun w hw=>?_)
 ·unfold Wa;rw[gd_t oo]
 ·rw[<- List.map_eq_flatMap] at hw;have:=hw.length_eq;rw[List.length_map] at this;dsimp only;rw[gd_t (by rw[List.length_append];omega)];unfold Yc adds;rw[X.sortI_perm (hw.append_left g)]
end
section
variable {l:List Aa} {r:Ah} {C:List Aa} (hc:Ctx l r C) {g:List Int} (hg:GOk C g)
include hc hg
end
structure Grnd(l:List Aa)(r:Ah)(C:List Aa)(g:List Int):Prop where
 ok:GOk C g
 srt:g.Pairwise (·<=·)
 seed:∀ i∈X.seedL l r,i∈g
 again:Yc g (gFit l r g) C=g
 stop:Yz g (gFit l r g) C=[]
theorem Bdk{l:List Aa}{r:Ah}(hl:X.validL l=true)(hr:X.okRules r=true)(hn:l.length<=300):∃ C,Eo l r=some C/\Ctx l r C:=by
 obtain⟨C,h1,h2⟩:=X.cand_eq hl hr;exact⟨C,h2,hl,hr,hn,h1⟩
section
variable {l:List Aa} {r:Ah} {C:List Aa} (hc:Ctx l r C)
include hc
end
theorem Aki{m:Aq}(h1:m.V.length<=1000000)(h2:m.T.length<=100000000)(h3:m.Lines=[]):Jq m m=some true:=by
 have e1:lfix (Er m m) 0=some (.inl ()):=by
  rw[Vr (β:=Unit) (γ:=Bool) m.V (fun _=>true) (Er m m) () false (fun j hj=>?_) ?_]
  ·simp
  ·unfold Er;rw[if_neg oo]
  ·unfold Er;rw[if_pos oo,At hj,Ae,Ae,if_pos (by simp),if_pos rfl,w1 hj oo]
 have e2:lfix (Dz m m) 0=some (.inl ()):=by
  rw[Vr (β:=Unit) (γ:=Bool) m.T (fun _=>true) (Dz m m) () false (fun j hj=>?_) ?_]
  ·simp
  ·unfold Dz;rw[if_neg oo]
  ·unfold Dz;rw[if_pos oo,At hj,Ae,Ae,if_pos (by simp),if_pos rfl,w1 hj oo]
 have e3:lfix (Ja m) 0=some ():=by
  rw[Bd];unfold Ja;rw[if_neg (by rw[h3];simp)]
 unfold Jq;rw[jn_d,if_pos rfl,if_pos rfl,decide_eq_true rfl];dsimp only;rw[if_neg (by simp),jn_d,e1,Ae];dsimp only;rw[jn_d,e2,Ae];dsimp only;rw[jn_d,e3,Ae]
theorem Alf{v:List Ad}{T:List Ai}(hn:v.length<=1024)(h:Wk v T):T.length<=1048576:=by
 have hsq:=Ahe hn;have:=Aiv (fun t ht=>(h.mem t).1 ht) h.nd;omega
end Go.Proofs.YtjfndjmabhbicabGreat
namespace Go.Proofs.YtjfndjmabhbicabGreat
open Go Go.RowKit Tryz
theorem Ap8{α γ:Type}(l:List α)(p:α->Bool)(g:Nat->γ)(B:Int->Option (Sum Int (Sum Unit γ)))(h1:∀ (j:Nat) (h:j<l.length),B j=if p l[j]=true then some (.inr (.inr (g j))) else some (.inl ((j+1:Nat):Int)))(h2:B l.length=some (.inr (.inl ()))):
  lfix B 0=some (match l.findIdx? p with | some i=>.inr (g i) | none=>.inl ()):=by
 have key:∀ (m k:Nat),k<=l.length->l.length-k=m->(∀ j (hj:j<l.length),j<k->p l[j]=false)->lfix B k=some (match l.findIdx? p with | some i=>.inr (g i) | none=>.inl ()):=by
  intro m
  induction m with
  | zero=>
   intro k hk hm hf;obtain rfl:k=l.length:=oo;rw[Bd,h2];have:l.findIdx? p=none:=by
    rw[List.findIdx?_eq_none_iff];intro x hx;obtain⟨j,hj,rfl⟩:=List.getElem_of_mem hx;exact hf j hj hj
   rw[this]
  | succ m ih=>
   intro k hk hm hf;have hlt:k<l.length:=oo;rw[Bd,h1 k hlt]
   by_cases hp:p l[k]=true
   ·rw[if_pos hp];have:l.findIdx? p=some k:=by
     rw[List.findIdx?_eq_some_iff_getElem];exact⟨hlt,hp,fun j hj=>by rw[hf j oo hj];simp⟩
    rw[this]
   ·rw[if_neg hp];refine ih (k+1) oo oo fun j hj hjk=>?_
    by_cases e:j=k
    ·subst e;exact Bool.eq_false_iff.2 hp
    ·exact hf j hj oo
 exact key l.length 0 (Nat.zero_le _) rfl (fun j _ h=>absurd h oo)
structure Aoc(m:Aq):Prop where
 msh:Msh m
 chk:Oe m=some 0
theorem Axh{L:List Aa}(hL:X.Fit L)(ha:Ip L){m:Aq}(hv:m.V=vxL L)(hl:m.Lines=[])(ht:Wk (vxL L) m.T):Aoc m:=by
 have hm:=Axf hL hv ht;refine⟨hm,?_⟩;rcases Agg hL with⟨e,_⟩|⟨_,g⟩
 ·obtain⟨T,t1,t2,t3⟩:=Afk e;have hn:=hL.n;have hlen:(vxL L).length<=1024:=by unfold vxL;rw[List.length_map];exact hn
  have hT:=Alf hlen ht;have em:(⟨vxL L,T,[]⟩:Aq)=m:=by
   obtain⟨V,T',Ls⟩:=m;dsimp only at hv hl ht;rw[hv,hl,t3.unique ht]
  unfold Oe;rw[hv,hl,t1,Ae,jn_d];dsimp only;rw[if_pos rfl,em,Aki (by have:=hm.n;omega) oo hl,Ae];rfl
 ·exact absurd ha g
section
variable {m:Aq} (h:Msh m)
include h
theorem Bdl{p:Ab}(hp:okP p){t:Ai}(ht:t∈m.T):So m t p=some (covT m.V p t):=by
 obtain⟨h0,h1,h2,_⟩:=h.t _ ht;have q0:=(Gh h.ok h0).1;have q1:=(Gh h.ok h1).1;have q2:=(Gh h.ok h2).1;obtain⟨a,ea,ha⟩:=Mc h0;obtain⟨b,eb,hb⟩:=Mc h1;obtain⟨c,ec,hc⟩:=Mc h2;have pa:∀ {k:Nat} (hk:k<m.V.length),Au m.V[k]=some (plV m.V (k:Int)):=fun hk=>by rw[Yh hk];rfl
 have sg:∀ z:Int,Int.sign z<0↔¬ 0<=z:=fun z=>by
  rw[Int.sign_neg_iff];omega
 have st:∀ (j:Nat) (u v:Nat),u<m.V.length->v<m.V.length->idx [t.a0,t.a1,t.a2] (j:Int)=some (u:Int)->idx [t.a0,t.a1,t.a2] (Int.tmod (w64 ((j:Int)+1)) 3)=some (v:Int)->j<3->okP (plV m.V (u:Int))->okP (plV m.V (v:Int)) ->
   Dq t m p (j:Int)=if 0<=crs (plV m.V (u:Int)) (plV m.V (v:Int)) p then some (.inl ((j+1:Nat):Int)) else some (.inr (.inr false)):=fun j u v hu hv e1 e2 hj o1 o2=>by
  unfold Dq;rw[if_pos oo,e1,Ae,At hu,Ae,e2,Ae,At hv,Ae,pa hu,Ae,pa hv,Ae,Zy o1 o2 hp,Ae,Bj oo]
  by_cases c:0<=crs (plV m.V (u:Int)) (plV m.V (v:Int)) p
  ·rw[if_pos c,if_neg (by rw[sg];omega)]
  ·rw[if_neg c,if_pos ((sg _).2 c)]
 rw[ea] at q0;rw[eb] at q1;rw[ec] at q2;have t3:∀ {k:Nat},k<3->∃ u v:Nat,idx [t.a0,t.a1,t.a2] (k:Int)=some (u:Int)/\idx [t.a0,t.a1,t.a2] (Int.tmod (w64 ((k:Int)+1)) 3)=some (v:Int)/\((k=0/\u=a/\v=b)\/(k=1/\u=b/\v=c)\/(k=2/\u=c/\v=a)):=fun {k} hk=>by
  rw[ea,eb,ec,Bj oo];rcases (by omega:k=0\/k=1\/k=2) with rfl | rfl | rfl
  ·exact⟨a,b,rfl,rfl,.inl ⟨rfl,rfl,rfl⟩⟩
  ·exact⟨b,c,rfl,rfl,.inr (.inl ⟨rfl,rfl,rfl⟩)⟩
  ·exact⟨c,a,rfl,rfl,.inr (.inr ⟨rfl,rfl,rfl⟩)⟩
 have s0:Dq t m p ((0:Nat):Int)=if 0<=crs (plV m.V (a:Int)) (plV m.V (b:Int)) p then some (.inl ((0+1:Nat):Int)) else some (.inr (.inr false)):=by
  obtain⟨u,v,e1,e2,g⟩:=t3 (show 0<3 by omega);obtain⟨rfl,rfl⟩:u=a/\v=b:=oo;exact st 0 u v ha hb e1 e2 oo q0 q1
 have s1:Dq t m p ((0+1:Nat):Int)=if 0<=crs (plV m.V (b:Int)) (plV m.V (c:Int)) p then some (.inl ((0+1+1:Nat):Int)) else some (.inr (.inr false)):=by
  obtain⟨u,v,e1,e2,g⟩:=t3 (show 0+1<3 by omega);obtain⟨rfl,rfl⟩:u=b/\v=c:=oo;exact st _ u v hb hc e1 e2 oo q1 q2
 have s2:Dq t m p ((0+1+1:Nat):Int)=if 0<=crs (plV m.V (c:Int)) (plV m.V (a:Int)) p then some (.inl ((0+1+1+1:Nat):Int)) else some (.inr (.inr false)):=by
  obtain⟨u,v,e1,e2,g⟩:=t3 (show 0+1+1<3 by omega);obtain⟨rfl,rfl⟩:u=c/\v=a:=oo;exact st _ u v hc ha e1 e2 oo q2 q0
 have s3:Dq t m p ((0+1+1+1:Nat):Int)=some (.inr (.inl ())):=by
  unfold Dq;rw[if_neg oo]
 unfold So covT;rw[jn_d,ea,eb,ec];show bnd (lfix (Dq t m p) ((0:Nat):Int)) _=_
 by_cases c0:0<=crs (plV m.V (a:Int)) (plV m.V (b:Int)) p
 ·by_cases c1:0<=crs (plV m.V (b:Int)) (plV m.V (c:Int)) p
  ·by_cases c2:0<=crs (plV m.V (c:Int)) (plV m.V (a:Int)) p
   ·rw[if_pos c0] at s0;rw[if_pos c1] at s1;rw[if_pos c2] at s2;rw[Bd,s0];dsimp only;rw[Bd,s1];dsimp only;rw[Bd,s2];dsimp only;rw[Bd,s3];simp[Ae,c0,c1,c2]
   ·rw[if_pos c0] at s0;rw[if_pos c1] at s1;rw[if_neg c2] at s2;rw[Bd,s0];dsimp only;rw[Bd,s1];dsimp only;rw[Bd,s2];simp[Ae,c2]
  ·rw[if_pos c0] at s0;rw[if_neg c1] at s1;rw[Bd,s0];dsimp only;rw[Bd,s1];simp[Ae,c1]
 ·rw[if_neg c0] at s0;rw[Bd,s0];simp[Ae,c0]
end
theorem Amn{m:Aq}(h:Aoc m){p:Ab}(hp:okP p):Jg m p=some (match locT m.V m.T p with | some i=>((i:Int),0) | none=>(0,65)):=by
 unfold Jg;rw[h.chk,Ae,if_pos rfl,Ar2,Ae,decide_eq_true hp,if_pos rfl,jn_d];have hl:=h.msh.len;have e:=Ap8 m.T (covT m.V p) (fun i=>((i:Int),(0:Int))) (Kx m p) (fun j hj=>by
  unfold Kx;rw[if_pos oo,At hj,Ae,Bdl h.msh hp (List.getElem_mem hj),Ae,Bj oo]) (by
  unfold Kx;rw[if_neg oo])
 rw[e,Ae];unfold locT;cases m.T.findIdx? (covT m.V p) <;> rfl
theorem Ap9{m:Aq}(h:Aoc m){p:Ab}(hp:okP p):Ge m p=some (match locT m.V m.T p with | some i=>(match idx m.T (i:Int) with | some t=>(bndT m.V p t,0) | none=>(⟨0,0⟩,0)) | none=>(⟨0,0⟩,65)):=by
 unfold Ge Mz;rw[Amn h hp,Ae];cases e:locT m.V m.T p with
 | none=>rfl
 | some i=>
  have e':=e;unfold locT at e';rw[List.findIdx?_eq_some_iff_getElem] at e';obtain⟨hi,hc,_⟩:=e';have ht:=List.getElem_mem hi;obtain⟨h0,h1,h2,hpos⟩:=h.msh.t _ ht;have hb:=Ai4 h.msh ht hc;dsimp only;rw[if_pos rfl,At hi,Ae,Ae,At_Q hp,Ae,Alc h.msh hp ht false (·.Lo) (fun z=>by simp),Ae,Ae,Alc h.msh hp ht true (·.Hi) (fun z=>by simp),Ae,Ae];dsimp only;rw[if_pos rfl];unfold bndT at hb ⊢;dsimp only at hb;have hd:∀ z:Int,-((z:Rat) / ((Oi m.V m.T[i]:Int):Rat))=((-z:Int):Rat) / ((Oi m.V m.T[i]:Int):Rat):=fun z=>by
   rw[Rat.div_def,Rat.div_def,<- Rat.neg_mul,Rat.intCast_neg]
  have fl:=fun z=>Atv (S:=z) hpos
  have hw:wsum m.V p m.T[i] (·.Lo)<=wsum m.V p m.T[i] (·.Hi):=by
   obtain⟨_,z0⟩:=Gh h.msh.ok h0;obtain⟨_,z1⟩:=Gh h.msh.ok h1;obtain⟨_,z2⟩:=Gh h.msh.ok h2;unfold covT at hc;rw[decide_eq_true_eq] at hc;unfold wsum;dsimp only;have c0:=Int.mul_le_mul_of_nonneg_left z0.2.1 hc.2.1;have c1:=Int.mul_le_mul_of_nonneg_left z1.2.1 hc.2.2;have c2:=Int.mul_le_mul_of_nonneg_left z2.2.1 hc.1;omega
  have big:∀ f:Ax->Int,(∀ z:Ax,-268435456<=z.Lo->z.Lo<=z.Hi->z.Hi<=268435456->-268435456<=f z/\f z<=268435456)->(wsum m.V p m.T[i] f).natAbs<65536 ^ 8:=fun f hf=>by
   obtain⟨q0,z0⟩:=Gh h.msh.ok h0;obtain⟨q1,z1⟩:=Gh h.msh.ok h1;obtain⟨q2,z2⟩:=Gh h.msh.ok h2;have f0:=hf _ z0.1 z0.2.1 z0.2.2;have f1:=hf _ z1.1 z1.2.1 z1.2.2;have f2:=hf _ z2.1 z2.2.1 z2.2.2;have b0:=Hd q1 q2 hp;have b1:=Hd q2 q0 hp;have b2:=Hd q0 q1 hp;have m0:=mulB (M:=576460752303423488) (N:=268435456) oo b0.1 b0.2 f0.1 f0.2;have m1:=mulB (M:=576460752303423488) (N:=268435456) oo b1.1 b1.2 f1.1 f1.2;have m2:=mulB (M:=576460752303423488) (N:=268435456) oo b2.1 b2.2 f2.1 f2.2;unfold wsum;rw[pow8];omega
  have hA8:(Oi m.V m.T[i]).natAbs<65536 ^ 8:=by
   have:=Hd (Gh h.msh.ok h0).1 (Gh h.msh.ok h1).1 (Gh h.msh.ok h2).1;unfold Oi;rw[pow8];omega
  have hne:((Oi m.V m.T[i]:Int):Rat)≠0:=fun e=>by
   rw[show (0:Rat)=((0:Int):Rat) from rfl,Rat.intCast_inj] at e;omega
  have s1:=big (·.Lo) (fun z a b c=>by constructor <;> omega);have s2:=big (·.Hi) (fun z a b c=>by constructor <;> omega);have x1:Sml 16 (((wsum m.V p m.T[i] (·.Lo):Int):Rat) / ((Oi m.V m.T[i]:Int):Rat)):=Sml.div (Sml.int s1 oo) (Sml.int hA8 oo) hne;have x2:Sml 16 (((wsum m.V p m.T[i] (·.Hi):Int):Rat) / ((Oi m.V m.T[i]:Int):Rat)):=Sml.div (Sml.int s2 oo) (Sml.int hA8 oo) hne;have hpos':(0:Rat)<((Oi m.V m.T[i]:Int):Rat):=Rat.intCast_pos.2 hpos;have hxy:¬ ((wsum m.V p m.T[i] (·.Hi):Int):Rat) / ((Oi m.V m.T[i]:Int):Rat)<((wsum m.V p m.T[i] (·.Lo):Int):Rat) / ((Oi m.V m.T[i]:Int):Rat):=fun hlt=>by
   rw[Rat.div_lt_iff hpos',Rat.div_mul_cancel hne,Rat.intCast_lt_intCast] at hlt;omega
  have e2:(if ((wsum m.V p m.T[i] (·.Lo):Int):Rat) / ((Oi m.V m.T[i]:Int):Rat)<((wsum m.V p m.T[i] (·.Hi):Int):Rat) / ((Oi m.V m.T[i]:Int):Rat) then ((wsum m.V p m.T[i] (·.Hi):Int):Rat) / ((Oi m.V m.T[i]:Int):Rat) else ((wsum m.V p m.T[i] (·.Lo):Int):Rat) / ((Oi m.V m.T[i]:Int):Rat))=((wsum m.V p m.T[i] (·.Hi):Int):Rat) / ((Oi m.V m.T[i]:Int):Rat):=by
   split
   ·rfl
   ·rename_i hlt;exact Rat.le_antisymm (Rat.not_lt.1 hxy) (Rat.not_lt.1 hlt)
  have ar:=Av6 x1 x2 oo (by rw[if_neg hxy,fl];omega) (by rw[e2,hd,fl];omega);rw[if_neg hxy,e2,hd,fl,fl] at ar;rw[ar,Ae]
instance(x0:Int)(x1:Int):Jz prog 30 [(1,iq x0),(2,iq x1)] [iq 0,iq x0,iq x1,iq 0,iq 0,iq 0,iq 0,iq 0,iq 0]:=⟨fun w=>kr⟩
noncomputable def Gi(p0:Ax)(p1:Ax):Option Int :=
 bnd (Ut p0 p1) fun r3=>
 some r3.1
noncomputable def Mi(p0:Aq)(p1:Aa)(p2:Ah):Option (Bool × Int × Int):=
 bnd (Jg p0 (⟨p1.X,p1.Y⟩:Ab)) fun r5=>
 if r5.2=0 then (bnd (Ge p0 (⟨p1.X,p1.Y⟩:Ab)) fun r0=>
 bnd (Gi p1.Z r0.1) fun r1=>
 if p2.Reach<r1 then (some (false,0,0))
 else (bnd (idx p0.T r5.1) fun x0=>
 bnd (idx p0.V x0.a0) fun x1=>
 bnd (Cj (⟨0,x1.X,x1.Y,(⟨0,0⟩:Ax),0,0,0,0⟩:Aa) p1) fun r2=>
 bnd (Gi p1.Z x1.Z) fun r3=>
 bnd (Bh r3) fun r4=>
 bnd (Bh 1000000) fun r6=>
 bnd (Bc r6 r4) fun r7=>
 bnd (Bc r7 r4) fun r8=>
 bnd (Bh (w64 (p2.Slope*p2.Slope))) fun r9=>
 bnd (Bh r2) fun r86=>
 bnd (Bc r9 r86) fun r95=>
 bnd (Dj r8 r95) fun r10=>
 if 0<r10 then (some (false,0,0))
 else (bnd (idx p0.T r5.1) fun x2=>
 bnd (idx p0.V x2.a1) fun x3=>
 bnd (Cj (⟨0,x3.X,x3.Y,(⟨0,0⟩:Ax),0,0,0,0⟩:Aa) p1) fun r12=>
 bnd (Gi p1.Z x3.Z) fun r13=>
 bnd (Bh r13) fun r14=>
 bnd (Bh 1000000) fun r16=>
 bnd (Bc r16 r14) fun r17=>
 bnd (Bc r17 r14) fun r18=>
 bnd (Bh (w64 (p2.Slope*p2.Slope))) fun r19=>
 bnd (Bh r12) fun r20=>
 bnd (Bc r19 r20) fun r21=>
 bnd (Dj r18 r21) fun r22=>
 if 0<r22 then (some (false,0,0))
 else (bnd (idx p0.T r5.1) fun x4=>
 bnd (idx p0.V x4.a2) fun x5=>
 bnd (Cj (⟨0,x5.X,x5.Y,(⟨0,0⟩:Ax),0,0,0,0⟩:Aa) p1) fun r23=>
 bnd (Gi p1.Z x5.Z) fun r24=>
 bnd (Bh r24) fun r25=>
 bnd (Bh 1000000) fun r26=>
 bnd (Bc r26 r25) fun r27=>
 bnd (Bc r27 r25) fun r28=>
 bnd (Bh (w64 (p2.Slope*p2.Slope))) fun r29=>
 bnd (Bh r23) fun r30=>
 bnd (Bc r29 r30) fun r31=>
 bnd (Dj r28 r31) fun r32=>
 if 0<r32 then (some (false,0,0))
 else (some (true,r1,r5.1))))))
 else (some (false,0,0))
noncomputable def Lb(r9:Aq × Int):(List Int × Int)->Option (Sum (List Int × Int) (List Int)):=fun s0=>
 if s0.2<(r9.1.T.length:Int) then (bnd (idx s0.1 s0.2) fun x0=>
 some (.inl (setI s0.1 s0.2 (-1),w64 (s0.2+1))))
 else (some (.inr s0.1))
noncomputable def Jl(r0:List Aa)(p1:List Aa)(r9:Aq × Int)(p2:Ah):(List Int × List Int × Int)->Option (Sum (List Int × List Int × Int) (List Int)):=fun s0=>
 if s0.2.2<(r0.length:Int) then (jn (fun (s1:List Int × List Int)=>
 some (.inl (s1.1,s1.2,w64 (s0.2.2+1))))
 (fun j0=>bnd (idx r0 s0.2.2) fun x0=>
 bnd (Is p1) fun r1=>
 bnd (Lh r1 x0.Id) fun r2=>
 if r2=true then (j0 (s0.1,s0.2.1))
 else (bnd (idx r0 s0.2.2) fun x1=>
 bnd (Mi r9.1 x1 p2) fun r3=>
 if r3.1=true then (jn (fun (s2:Bool)=>
 if s2=true then (bnd (idx s0.1 r3.2.2) fun x2=>
 bnd (idx s0.2.1 r3.2.2) fun x3=>
 j0 (setI s0.1 r3.2.2 s0.2.2,setI s0.2.1 r3.2.2 r3.2.1))
 else (j0 (s0.1,s0.2.1)))
 (fun j1=>bnd (idx s0.1 r3.2.2) fun x4=>
 if x4<0 then (j1 true)
 else (bnd (idx s0.2.1 r3.2.2) fun x5=>
 if r3.2.1<x5 then (j1 true)
 else (bnd (idx s0.2.1 r3.2.2) fun x6=>
 if r3.2.1=x6 then (bnd (idx r0 s0.2.2) fun x7=>
 bnd (idx s0.1 r3.2.2) fun x8=>
 bnd (idx r0 x8) fun x9=>
 bnd (Km x7 x9) fun r4=>
 j1 r4)
 else (j1 false)))))
 else (j0 (s0.1,s0.2.1)))))
 else (some (.inr s0.1))
noncomputable def Jm(r9:Aq × Int)(s0:List Int)(r0:List Aa):(List Aa × Int)->Option (Sum (List Aa × Int) (List Aa)):=fun s1=>
 if s1.2<(r9.1.T.length:Int) then (jn (fun (s2:List Aa)=>
 some (.inl (s2,w64 (s1.2+1))))
 (fun j0=>bnd (idx s0 s1.2) fun x0=>
 if 0<=x0 then (bnd (idx s0 s1.2) fun x1=>
 bnd (idx r0 x1) fun x2=>
 gd ((s1.1.length+1)*72<=140737488355328)<|
 j0 (s1.1++[x2]))
 else (j0 s1.1)))
 else (some (.inr s1.1))
noncomputable def Gz(p0:List Aa)(p1:List Aa)(p2:Ah):Option (List Aa × Int):=
 bnd (Jc p1) fun r2=>
 bnd (Mk r2) fun r9=>
 if r9.2=0 then (bnd (Hn p0 p2) fun r0=>
 gd ((0:Int)<=(r9.1.T.length:Int)/\8*Int.toNat (r9.1.T.length:Int)<=140737488355328)<|
 gd ((0:Int)<=(r9.1.T.length:Int)/\8*Int.toNat (r9.1.T.length:Int)<=140737488355328)<|
 jn (fun (s9:List Int)=>
 jn (fun (s0:List Int)=>
 gd (((([]:List Aa)).length+p1.length)*72<=140737488355328)<|
 jn (fun (s1:List Aa)=>
 some (s1,0))
 (fun j0=>bnd (lfix (Jm r9 s0 r0) ((([]:List Aa))++p1,0)) fun t0=>
 j0 t0))
 (fun j1=>bnd (lfix (Jl r0 p1 r9 p2) (s9,List.replicate (Int.toNat (r9.1.T.length:Int)) (0:Int),0)) fun t1=>
 j1 t1))
 (fun j9=>bnd (lfix (Lb r9) (List.replicate (Int.toNat (r9.1.T.length:Int)) (0:Int),0)) fun t2=>
 j9 t2))
 else (some (([]:List Aa),r9.2))
noncomputable def Ha(p0:List Aa)(p1:List Int)(p2:Ah):Option (List Int × Int):=
 bnd (Lj p0 p2) fun r2=>
 if r2=0 then (bnd (Ps p0 p1) fun r8=>
 if r8.2=true then (bnd (Gz p0 r8.1 p2) fun r0=>
 bnd (Is r0.1) fun r1=>
 some (r1,r0.2))
 else (some (([]:List Int),2)))
 else (some (([]:List Int),r2))
noncomputable def Hg(p0:List Aa)(p1:List Int)(p2:Ah):Option Bool :=
 jn (fun (s3:Bool)=>
 if s3=true then (bnd Ic fun r0=>
 some r0)
 else (bnd (Ru p0 p1 p2) fun r1=>
 bnd (Ha p0 p1 p2) fun r3=>
 jn (fun (s7:Bool)=>
 some s7)
 (fun j7=>bnd (Ju r1.1 r3.1) fun r4=>
 if r4=true then (if r1.2=r3.2 then (bnd Ic fun r5=>
 j7 r5)
 else (j7 false))
 else (j7 false))))
 (fun j3=>bnd (Pu p0 16) fun r2=>
 if r2=true then (j3 true)
 else (j3 (decide (300<(p1.length:Int)))))
instance lidarref07_gap_c(p0:Ax)(p1:Ax):Con (Gi p0 p1) prog 86 (fun _ vs=>vs=[.agg #[iq p0.Lo,iq p0.Hi],.agg #[iq p1.Lo,iq p1.Hi]]) (fun _ r=>fun v Ln=>v = iq r/\Ln=[]/\True):=⟨by
 rintro _ _ r rfl hx w hK;unfold Gi at hx;refine CtS ntmps86 results86 ?_;exact au⟩
instance lidarref07_fits_c(p0:Aq)(p1:Aa)(p2:Ah):Con (Mi p0 p1 p2) prog 38 (fun K vs=>∃ U0 E0 U1 E1 U2 E2,vs=[.agg #[.slice U0 p0.V.length E0,.slice U1 p0.T.length E1,.slice U2 p0.Lines.length E2],.agg #[iq p1.Id,iq p1.X,iq p1.Y,iq p1.Z.Lo,iq p1.Z.Hi,iq p1.Wide,iq p1.Num,iq p1.Of,iq p1.Class],.agg #[iq p2.Cell,iq p2.Reach,iq p2.Slope,iq p2.Link,iq p2.Flat,iq p2.Tall,iq p2.High,iq p2.Low,iq p2.Brush,iq p2.Few]]/\Has K U0 p0.V.length E0 4 Ak p0.V/\Has K U1 p0.T.length E1 3 Aw p0.T/\Has K U2 p0.Lines.length E2 2 Ar p0.Lines/\True) (fun _ r=>fun v Ln=>v = .tuple #[.bool r.1,iq r.2.1,iq r.2.2]/\Ln=[]/\True):=⟨by
 rintro K _ r ⟨U0,E0,U1,E1,U2,E2,rfl,ha0,ha1,ha2,-⟩ hx w hK;replace ha0:=Has.lo ha0 hK;replace ha1:=Has.lo ha1 hK;replace ha2:=Has.lo ha2 hK;unfold Mi at hx;have:=dl 12 [0,1,0,1,0,0,0,0,1,0,1,2,3] [0,1,2,3,4,5,6,7,8,9,10,11,12];have:=dl 16 [2,1,2,1,2,4,3] [1,3,0,2,4,5,6] [5];have:=dl 17 [1,0,1,0,1,0,2,0,2,2,2,0] [0,1,2,3,4,5,7,6,8,9,10,11];refine CtS ntmps38 results38 ?_;try (refine pre ?_;intros;rename_i hx)
 refine Cq2 (s:=33) hx rfl (fun _ hx=>?_) (fun _ hx=>?_)
 ·exact au
 ·try (refine pre ?_;intros;rename_i hx)
  refine Cq1 (s:=47) hx rfl (fun _ hx=>?_) (fun _ hx=>?_)
  ·exact au
  ·try (refine pre ?_;intros;rename_i hx)
   refine Cq1 (s:=93) hx rfl (fun _ hx=>?_) (fun _ hx=>?_)
   ·exact au
   ·try (refine pre ?_;intros;rename_i hx)
    refine Cq1 (s:=93) hx rfl (fun _ hx=>?_) (fun _ hx=>?_)
    ·exact au
    ·try (refine pre ?_;intros;rename_i hx)
     refine Cq1 (s:=93) hx rfl (fun _ hx=>?_) (fun _ hx=>?_)
     ·exact au
     ·exact au⟩
instance lidarref07_grow_c(p0:List Aa)(p1:List Aa)(p2:Ah):Con (Gz p0 p1 p2) prog 47 (fun K vs=>∃ U0 E0 U1 E1,vs=[.slice U0 p0.length E0,.slice U1 p1.length E1,.agg #[iq p2.Cell,iq p2.Reach,iq p2.Slope,iq p2.Link,iq p2.Flat,iq p2.Tall,iq p2.High,iq p2.Low,iq p2.Brush,iq p2.Few]]/\Has K U0 p0.length E0 9 Aj p0/\Has K U1 p1.length E1 9 Aj p1/\True) (fun _ r=>fun v Ln=>∃ A0 c0,v = .tuple #[.slice A0 r.1.length c0,iq r.2]/\Ln=[.r A0 r.1.length c0 30 9 (r.1.flatMap Aj)]/\True):=⟨by
 rintro K _ r ⟨U0,E0,U1,E1,rfl,ha0,ha1,-⟩ hx w hK;replace ha0:=Has.lo ha0 hK;replace ha1:=Has.lo ha1 hK;unfold Gz at hx;have:=dl 14 [0,2,0,0,0,0,1,2] [0,2,3,4,5,6,1,7];have:=dl 15 [1,0,0,0,1,1,2,0,0,0,0,2,2,2] [0,1,2,3,4,5,6,7,8,9,10,11,12,13];have:=dl 17 [0,0,0,1,0,0,0,0,0,0,1,0,0,0,0,0,0,0,1,0,0,0,0,0,1,0,0,0,0,1,0,1,2,0,0] [0,1,2,3,4,5,6,7,8,9,10,11,12,13,14,15,16,17,18,19,20,21,22,23,24,25,26,27,28,29,30,31,32,33,34];refine CtS ntmps47 results47 ?_;try (refine pre ?_;intros;rename_i hx)
 refine Cq2 (s:=27) hx rfl (fun _ hx=>?_) (fun _ hx=>?_)
 ·exact au
 ·try (refine pre ?_;intros;rename_i hx)
  refine Bl ?_;try (refine pre ?_;intros;rename_i hx)
  apply Jr (γ:=Option Addr × Nat) hx [1,5,8,10,12] (fun s9 y9 f=>(11,.slice y9.1 s9.length y9.2)::f) [0,2,3,4,5,6,8,999] (fun s9 y9 l=>.r y9.1 s9.length y9.2 3 1 (s9.flatMap Af)::l);exact kk
  ·intro s9 y9 hx;apply Jr (γ:=Option Addr × Nat) hx [1,8,10] (fun s0 y0 f=>(11,.slice y0.1 s0.length y0.2)::f) [2,3,4,5,6,999] (fun s0 y0 l=>.r y0.1 s0.length y0.2 3 1 (s0.flatMap Af)::l);exact kk
   ·intro s0 y0 hx;try (refine pre ?_;intros;rename_i hx)
    (with_reducible apply Ak8 120 (sz:=9));exact rfl;exact aT;exact inferInstance;exact dL;exact (fun _=>rfl);exact rfl;exact rfl;exact sA
    try (refine pre ?_;intros;rename_i hx)
    apply Jr (γ:=Option Addr × Nat) hx [] (fun s1 y1 f=>(18,.slice y1.1 s1.length y1.2)::f) [999] (fun s1 y1 l=>.r y1.1 s1.length y1.2 30 9 (s1.flatMap Aj)::l);exact kk
    ·intro s1 y1 hx;exact au
    ·intro _ hx;try (refine pre ?_;intros;rename_i hx)
     apply Lr (γ:=Option Addr × Nat) hx [8,10,11] (fun s2 y2 f=>(18,.slice y2.1 s2.1.length y2.2)::(19,iq s2.2)::f) [1,2,3,4,5,6,999] (fun s2 y2 l=>.r y2.1 s2.1.length y2.2 30 9 (s2.1.flatMap Aj)::l) (_,_);exact kk;exact sk;intro s2 y2 x0 hx _;unfold Jm at hx;exact au
   ·intro _ hx;try (refine pre ?_;intros;rename_i hx)
    apply Lr (γ:=Option Addr × Nat × Option Addr × Nat) hx [1,5,8,10] (fun s3 y3 f=>(11,.slice y3.1 s3.1.length y3.2.1)::(12,.slice y3.2.2.1 s3.2.1.length y3.2.2.2)::(14,iq s3.2.2)::f) [2,3,4,5,6,7,999] (fun s3 y3 l=>.r y3.2.2.1 s3.2.1.length y3.2.2.2 3 1 (s3.2.1.flatMap Af) :: .r y3.1 s3.1.length y3.2.1 3 1 (s3.1.flatMap Af)::l) (_,_,_,_);exact kk;exact sk;intro s3 y3 x1 hx _;unfold Jl at hx;try (refine pre ?_;intros;rename_i hx)
    refine Cq1 (s:=53) hx rfl (fun _ hx=>?_) (fun _ hx=>?_)
    ·try (refine pre ?_;intros;rename_i hx)
     apply Jr (γ:=Option Addr × Nat × Option Addr × Nat) hx [1,5,8,10,14] (fun s4 y4 f=>(11,.slice y4.1 s4.1.length y4.2.1)::(12,.slice y4.2.2.1 s4.2.length y4.2.2.2)::f) [2,3,4,5,6,7,999] (fun s4 y4 l=>.r y4.2.2.1 s4.2.length y4.2.2.2 3 1 (s4.2.flatMap Af) :: .r y4.1 s4.1.length y4.2.1 3 1 (s4.1.flatMap Af)::l);exact kk
     ·intro s4 y4 hx;exact au
     ·intro _ hx;try (refine pre ?_;intros;rename_i hx)
      refine Cq3 (s:=63) hx rfl (fun _ hx=>?_) (fun _ hx=>?_)
      ·exact au
      ·try (refine pre ?_;intros;rename_i hx)
       refine Cq4 (s:=76) hx rfl (fun _ hx=>?_) (fun _ hx=>?_)
       ·exact au
       ·try (refine pre ?_;intros;rename_i hx)
        apply Jr (γ:=Unit) hx [1,5,8,10,11,12,14,16,17] (fun s5 y5 f=>(111,.bool s5)::f) [1,2,3,4,5,6,7,8,999] (fun s5 y5 l=>l);exact kk
        ·intro s5 y5 hx;exact au
        ·intro _ hx;exact au
    ·exact au
  ·intro _ hx;try (refine pre ?_;intros;rename_i hx)
   apply Lr (γ:=Option Addr × Nat) hx [1,5,8,10,12] (fun s6 y6 f=>(11,.slice y6.1 s6.1.length y6.2)::(13,iq s6.2)::f) [0,2,3,4,5,6,8,999] (fun s6 y6 l=>.r y6.1 s6.1.length y6.2 3 1 (s6.1.flatMap Af)::l) (_,_);exact kk;exact sk;intro s6 y6 x2 hx _;unfold Lb at hx;exact au⟩
instance lidarref07_Grow_c(p0:List Aa)(p1:List Int)(p2:Ah):Con (Ha p0 p1 p2) prog 17 (fun K vs=>∃ U0 E0 U1 E1,vs=[.slice U0 p0.length E0,.slice U1 p1.length E1,.agg #[iq p2.Cell,iq p2.Reach,iq p2.Slope,iq p2.Link,iq p2.Flat,iq p2.Tall,iq p2.High,iq p2.Low,iq p2.Brush,iq p2.Few]]/\Has K U0 p0.length E0 9 Aj p0/\Has K U1 p1.length E1 1 Af p1/\True) (fun _ r=>fun v Ln=>∃ A0 c0,v = .tuple #[.slice A0 r.1.length c0,iq r.2]/\Ln=[.r A0 r.1.length c0 3 1 (r.1.flatMap Af)]/\True):=⟨by
 rintro K _ r ⟨U0,E0,U1,E1,rfl,ha0,ha1,-⟩ hx w hK;replace ha0:=Has.lo ha0 hK;replace ha1:=Has.lo ha1 hK;unfold Ha at hx;refine CtS ntmps17 results17 ?_;exact au⟩
instance Zx(p0:List Aa)(p1:List Int)(p2:Ah):Con (Hg p0 p1 p2) prog 4 (fun K vs=>∃ U0 E0 U1 E1,vs=[.slice U0 p0.length E0,.slice U1 p1.length E1,.agg #[iq p2.Cell,iq p2.Reach,iq p2.Slope,iq p2.Link,iq p2.Flat,iq p2.Tall,iq p2.High,iq p2.Low,iq p2.Brush,iq p2.Few]]/\Has K U0 p0.length E0 9 Aj p0/\Has K U1 p1.length E1 1 Af p1/\True) (fun _ r=>fun v Ln=>v = .bool r/\Ln=[]/\True):=⟨by
 rintro K _ r ⟨U0,E0,U1,E1,rfl,ha0,ha1,-⟩ hx w hK;replace ha0:=Has.lo ha0 hK;replace ha1:=Has.lo ha1 hK;unfold Hg at hx;refine CtS ntmps4 results4 ?_;try (refine pre ?_;intros;rename_i hx)
 refine Bl ?_;try (refine pre ?_;intros;rename_i hx)
 refine Bl ?_;try (refine pre ?_;intros;rename_i hx)
 apply Jr (γ:=Unit) hx [0,1,5] (fun s3 y3 f=>(17,.bool s3)::f) [0,999] (fun s3 y3 l=>l);exact kk
 ·intro s3 y3 hx;exact au
 ·intro _ hx;exact au⟩
theorem Zi(p0:List Aa)(p1:List Int)(p2:Ah){K:List Ent}{U0:Option Addr}{E0:Nat}{U1:Option Addr}{E1:Nat}(ha0:Has K U0 p0.length E0 9 Aj p0)(ha1:Has K U1 p1.length E1 1 Af p1){r:Bool}(hx:Hg p0 p1 p2=some r)(w:World)(hK:∀ e∈K,Ent.ok w e):CtL prog 4 [.slice U0 p0.length E0,.slice U1 p1.length E1,.agg #[iq p2.Cell,iq p2.Reach,iq p2.Slope,iq p2.Link,iq p2.Flat,iq p2.Tall,iq p2.High,iq p2.Low,iq p2.Brush,iq p2.Few]] w fun v Ln=>v = .bool r/\Ln=[]/\True:=(Zx p0 p1 p2).h K _ _ ⟨_,_,_,_,rfl,ha0,ha1,trivial⟩ hx w hK
end Go.Proofs.YtjfndjmabhbicabGreat
