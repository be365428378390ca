import Derived.Test.YthlkpgdfifnagaaGreatB1
namespace Go.Proofs.YthlkpgdfifnagaaGreat
open Go Go.RowKit List
theorem Anb(a b c p:Ab):crs b c p+crs c a p+crs a b p=crs a b c:=by unfold crs;grind
theorem Asv{w0 w1 w2:Int}(n0:0<=w0)(n1:0<=w1)(n2:0<=w2)(hA:w0+w1+w2<=2305843009213693952)(h0:0<w0+w1+w2){p:Aj}(k0:-1099511627776<=p.a0/\p.a0<=1099511627776)(k1:-1099511627776<=p.a1/\p.a1<=1099511627776)(k2:-1099511627776<=p.a2/\p.a2<=1099511627776):
  Kh ⟨w0,w1,w2⟩ p=some ((w0*p.a0+w1*p.a1+w2*p.a2) / (w0+w1+w2),-((-(w0*p.a0+w1*p.a1+w2*p.a2)) / (w0+w1+w2))):=by
 obtain⟨m0,rfl⟩:=Int.eq_ofNat_of_zero_le n0;obtain⟨m1,rfl⟩:=Int.eq_ofNat_of_zero_le n1;obtain⟨m2,rfl⟩:=Int.eq_ofNat_of_zero_le n2;obtain⟨b,hb⟩:∃ b,min (min p.a0 p.a1) p.a2=b:=⟨_,rfl⟩;obtain⟨d0,e0⟩:∃ d:Nat,p.a0=b+d:=⟨(p.a0-b).toNat,oo⟩;obtain⟨d1,e1⟩:∃ d:Nat,p.a1=b+d:=⟨(p.a1-b).toNat,oo⟩;obtain⟨d2,e2⟩:∃ d:Nat,p.a2=b+d:=⟨(p.a2-b).toNat,oo⟩;have h:=Azx (m0:=m0) (m1:=m1) (m2:=m2) (d0:=d0) (d1:=d1) (d2:=d2) (b:=b) (p:=p) oo oo oo oo oo oo oo hb e0 e1 e2;rw[h];have hS:(m0:Int)*p.a0+(m1:Int)*p.a1+(m2:Int)*p.a2=((m0*d0+m1*d1+m2*d2:Nat):Int)+b*((m0+m1+m2:Nat):Int):=by
  rw[e0,e1,e2];push_cast;grind
 have hA2:(m0:Int)+(m1:Int)+(m2:Int)=((m0+m1+m2:Nat):Int):=by push_cast;rfl
 rw[hS,hA2];have hpos:0<m0+m1+m2:=oo;clear hS hA2 h e0 e1 e2 hb n0 n1 n2 hA h0 k0 k1 k2;generalize m0*d0+m1*d1+m2*d2=N at *;generalize m0+m1+m2=A at *;have q1:=Nat.div_add_mod N A;have q2:=Nat.mod_lt N hpos;generalize N / A=q at *;generalize N % A=r at *;have q3:(N:Int)=(A:Int)*(q:Int)+(r:Int):=by rw[<- q1];push_cast;rfl
 have l1:((N:Int)+b*(A:Int)) / (A:Int)=b+(q:Int):=X.ediv_of (r:=(r:Int)) oo (by rw[q3];grind) oo oo
 by_cases hr:0<r
 ·have l2:(-((N:Int)+b*(A:Int))) / (A:Int) = -(b+(q:Int)+1):=X.ediv_of (r:=(A:Int)-(r:Int)) oo (by rw[q3];grind) oo oo;rw[l1,l2,if_pos hr,Int.neg_neg]
 ·have l2:(-((N:Int)+b*(A:Int))) / (A:Int) = -(b+(q:Int)):=X.ediv_of (r:=0) oo (by rw[q3,show r=0 by omega];grind) oo oo;rw[l1,l2,if_neg hr,Int.neg_neg,Int.add_zero]
def zV(v:List Ad)(i:Int):Ax:=match idx v i with
 | some x=>x.Z
 | none=>⟨0,0⟩
def covT(v:List Ad)(at_:Ab)(t:Aj):Bool:=decide (0<=crs (plV v t.a0) (plV v t.a1) at_/\0<=crs (plV v t.a1) (plV v t.a2) at_/\0<=crs (plV v t.a2) (plV v t.a0) at_)
def Oy(v:List Ad)(t:Aj):Int:=crs (plV v t.a0) (plV v t.a1) (plV v t.a2)
def wsum(v:List Ad)(at_:Ab)(t:Aj)(f:Ax->Int):Int :=
 crs (plV v t.a1) (plV v t.a2) at_*f (zV v t.a0)+crs (plV v t.a2) (plV v t.a0) at_*f (zV v t.a1)+crs (plV v t.a0) (plV v t.a1) at_*f (zV v t.a2)
def bndT(v:List Ad)(at_:Ab)(t:Aj):Ax:=⟨wsum v at_ t (·.Lo) / Oy v t,-((-(wsum v at_ t (·.Hi))) / Oy v t)⟩
def locT(v:List Ad)(T:List Aj)(at_:Ab):Option Nat:=T.findIdx? (covT v at_)
def gapI(a b:Ax):Int:=max (max 0 (a.Lo-b.Hi)) (b.Lo-a.Hi)
def Nl(v:List Ad)(r:Af)(p:Aa)(k:Int):Bool :=
 decide (gapI p.Z (zV v k)*gapI p.Z (zV v k)*1000000<=r.Slope*r.Slope*((p.X-(plV v k).X)*(p.X-(plV v k).X)+(p.Y-(plV v k).Y)*(p.Y-(plV v k).Y)))
def fitV(v:List Ad)(T:List Aj)(r:Af)(p:Aa):Int × Bool × Int:=match locT v T (X.plF p) with
 | none=>(-1,false,0)
 | some i=>match idx T (i:Int) with
  | none=>(-1,false,0)
  | some t=>
   if r.Reach<gapI p.Z (bndT v (X.plF p) t) then ((i:Int),false,0) else
   if Nl v r p t.a0=true/\Nl v r p t.a1=true/\Nl v r p t.a2=true then ((i:Int),true,gapI p.Z (bndT v (X.plF p) t)) else ((i:Int),false,0)
theorem Alu{α:Type}(l:List α)(p:α->Bool)(B:Int->Option (Sum Int (Sum Unit Int)))(h1:∀ (j:Nat) (h:j<l.length),B j=if p l[j]=true then some (.inr (.inr (j:Int))) else some (.inl ((j+1:Nat):Int)))(h2:B l.length=some (.inr (.inl ()))):
  lfix B 0=some (match l.findIdx? p with | some i=>.inr (i:Int) | none=>.inl ()):=by
 have key:∀ (m k:Nat),k<=l.length->l.length-k=m->(∀ j (hj:j<l.length),j<k->p l[j]=false)->lfix B k=some (match l.findIdx? p with | some i=>.inr (i:Int) | none=>.inl ()):=by
  intro m
  induction m with
  | zero=>
   intro k hk hm hf;obtain rfl:k=l.length:=oo;rw[Bd,h2];have:l.findIdx? p=none:=by
    rw[List.findIdx?_eq_none_iff];intro x hx;obtain⟨j,hj,rfl⟩:=getElem_of_mem hx;exact hf j hj hj
   rw[this]
  | succ m ih=>
   intro k hk hm hf;have hlt:k<l.length:=oo;rw[Bd,h1 k hlt]
   by_cases hp:p l[k]=true
   ·rw[if_pos hp];have:l.findIdx? p=some k:=by
     rw[List.findIdx?_eq_some_iff_getElem];exact⟨hlt,hp,fun j hj=>by rw[hf j oo hj];simp⟩
    rw[this]
   ·rw[if_neg hp];refine ih (k+1) oo oo fun j hj hjk=>?_
    by_cases e:j=k
    ·subst e;exact Bool.eq_false_iff.2 hp
    ·exact hf j hj oo
 exact key l.length 0 (Nat.zero_le _) rfl (fun j _ h=>absurd h oo)
theorem Ao6{l:List Int}(hl:l.length<=1000000)(n:Int):Dd l n=some (decide (n∈l)):=by
 unfold Dd Jd;rw[jn_d,Alu l (fun x=>decide (n=x)) (Ed l n) (fun j hj=>?_) ?_,Ae]
 ·cases e:l.findIdx? (fun x=>decide (n=x)) with
  | none=>
   dsimp only;rw[List.findIdx?_eq_none_iff] at e;rw[Ae];have:n ∉ l:=fun h=>by simpa using e n h
   simp[this]
  | some i=>
   dsimp only;rw[List.findIdx?_eq_some_iff_getElem] at e;obtain⟨hi,h,_⟩:=e;rw[Ae];have:n∈l:=by
    rw[decide_eq_true_eq] at h;rw[h];exact getElem_mem hi
   simp[this]
 ·unfold Ed;rw[if_neg oo]
 ·unfold Ed;rw[if_pos oo,At hj,Ae,w1 hj oo];simp only[decide_eq_true_eq]
structure Msh(m:Aq):Prop where
 n:m.V.length<=1024
 ok:∀ x∈m.V,Md x
 len:m.T.length<=1152921504606846976
 t:∀ t∈m.T,inN m.V.length t.a0/\inN m.V.length t.a1/\inN m.V.length t.a2/\0<Oy m.V t
theorem Mg{n:Nat}{i:Int}(h:inN n i):∃ k:Nat,i=(k:Int)/\k<n:=⟨i.toNat,by unfold inN at h;omega,by unfold inN at h;omega⟩
theorem Aj0{v:List Ad}{k:Nat}(hk:k<v.length):zV v (k:Int)=v[k].Z:=by unfold zV;rw[At hk]
theorem Gr{v:List Ad}(h:∀ x∈v,Md x){i:Int}(hi:inN v.length i):okP (plV v i)/\-268435456<=(zV v i).Lo/\(zV v i).Lo<=(zV v i).Hi/\(zV v i).Hi<=268435456:=by
 obtain⟨k,rfl,hk⟩:=Mg hi;rw[Yq hk,Aj0 hk];exact h _ (getElem_mem hk)
theorem Xn{a b c:Ab}(ha:okP a)(hb:okP b)(hc:okP c):Fs a b c=some (crs a b c):=by
 have h0:=Hh ha hb hc;unfold okP at ha hb hc;have h1:=mulB (x:=b.X-a.X) (y:=c.Y-a.Y) (M:=536870912) (N:=536870912) oo oo oo oo oo;have h2:=mulB (x:=b.Y-a.Y) (y:=c.X-a.X) (M:=536870912) (N:=536870912) oo oo oo oo oo;unfold Fs;unfold crs at h0 ⊢;rw[Av (x:=b.X-a.X) oo oo,Av (x:=c.Y-a.Y) oo oo,Av (x:=b.Y-a.Y) oo oo,Av (x:=c.X-a.X) oo oo,
  Av (x:=(b.X-a.X)*(c.Y-a.Y)) oo oo,Av (x:=(b.Y-a.Y)*(c.X-a.X)) oo oo,Av oo oo]
theorem Aul{a b:Ab}(ha:okP a)(hb:okP b):Lv a b=some ((a.X-b.X)*(a.X-b.X)+(a.Y-b.Y)*(a.Y-b.Y))/\0<=(a.X-b.X)*(a.X-b.X)+(a.Y-b.Y)*(a.Y-b.Y)/\(a.X-b.X)*(a.X-b.X)+(a.Y-b.Y)*(a.Y-b.Y)<=576460752303423488:=by
 unfold okP at ha hb;obtain⟨a1,a2,a3,a4⟩:=X.sq_w (a:=a.X) (b:=b.X) oo oo;obtain⟨b1,b2,b3,b4⟩:=X.sq_w (a:=a.Y) (b:=b.Y) oo oo;refine⟨?_,oo,oo⟩;unfold Lv;rw[a1,b1,a2,b2,Av oo oo]
section
variable {m:Aq} (h:Msh m)
include h
theorem Aj1{i:Nat}(hi:i<m.T.length):Jg m (i:Int)=some ⟨plV m.V m.T[i].a0,plV m.V m.T[i].a1,plV m.V m.T[i].a2⟩:=by
 obtain⟨h0,h1,h2,_⟩:=h.t _ (getElem_mem hi);obtain⟨a,ea,ha⟩:=Mg h0;obtain⟨b,eb,hb⟩:=Mg h1;obtain⟨c,ec,hc⟩:=Mg h2;unfold Jg Kg;rw[At hi,Ae,ea,eb,ec,At ha,Ae,Ae,At hb,Ae,Ae,At hc,Ae,Ae,Yq ha,Yq hb,Yq hc];rfl
theorem Aum{p:Ab}(hp:okP p):Rl m p=some (match locT m.V m.T p with | some i=>(i:Int) | none=>-1):=by
 unfold Rl;have hl:=h.len;rw[jn_d,Alu m.T (covT m.V p) (Nf m p) (fun j hj=>?_) ?_,Ae]
 ·unfold locT;cases m.T.findIdx? (covT m.V p) <;> rfl
 ·unfold Nf;rw[if_neg oo]
 ·obtain⟨h0,h1,h2,_⟩:=h.t _ (getElem_mem hj);have q0:=(Gr h.ok h0).1;have q1:=(Gr h.ok h1).1;have q2:=(Gr h.ok h2).1;unfold Nf;rw[if_pos oo,Aj1 h hj,Ae,jn_d,Bg oo];dsimp only;rw[Xn q0 q1 hp,Ae];unfold covT
  by_cases c1:0<=crs (plV m.V m.T[j].a0) (plV m.V m.T[j].a1) p
  ·rw[if_pos c1,Xn q1 q2 hp,Ae]
   by_cases c2:0<=crs (plV m.V m.T[j].a1) (plV m.V m.T[j].a2) p
   ·rw[if_pos c2,Xn q2 q0 hp,Ae]
    by_cases c3:0<=crs (plV m.V m.T[j].a2) (plV m.V m.T[j].a0) p
    ·simp[c1,c2,c3]
    ·simp[c1,c2,c3]
   ·rw[if_neg c2,if_neg (by simp),if_neg (by simp[c2])]
  ·rw[if_neg c1,if_neg (by simp),if_neg (by simp[c1])]
theorem Aun{p:Ab}(hp:okP p){i:Nat}(hi:i<m.T.length)(hc:covT m.V p m.T[i]=true):Ot m (i:Int) p=some (bndT m.V p m.T[i]):=by
 obtain⟨h0,h1,h2,hpos⟩:=h.t _ (getElem_mem hi);obtain⟨q0,z0⟩:=Gr h.ok h0;obtain⟨q1,z1⟩:=Gr h.ok h1;obtain⟨q2,z2⟩:=Gr h.ok h2;have hs:=Anb (plV m.V m.T[i].a0) (plV m.V m.T[i].a1) (plV m.V m.T[i].a2) p;have hb:=Hh q0 q1 q2;unfold Oy at hpos;unfold covT at hc;rw[decide_eq_true_eq] at hc;obtain⟨a,ea,ha⟩:=Mg h0;obtain⟨b,eb,hb'⟩:=Mg h1;obtain⟨c,ec,hc'⟩:=Mg h2;unfold Ot;rw[Aj1 h hi,Ae,jn_d];dsimp only;rw[Xn q1 q2 hp,Ae,Xn q2 q0 hp,Ae,Xn q0 q1 hp,Ae,At hi,Ae,jn_d,ea,At ha,Ae,Ae];dsimp only;rw[jn_d,eb,At hb',Ae,Ae];dsimp only;rw[jn_d,ec,At hc',Ae,Ae];dsimp only;rw[<- ea,<- eb,<- ec];have ga:zV m.V m.T[i].a0=m.V[a].Z:=by rw[ea,Aj0 ha]
 have gb:zV m.V m.T[i].a1=m.V[b].Z:=by rw[eb,Aj0 hb']
 have gc:zV m.V m.T[i].a2=m.V[c].Z:=by rw[ec,Aj0 hc']
 rw[ga] at z0;rw[gb] at z1;rw[gc] at z2;rw[Asv oo oo oo oo oo (by dsimp only;omega) (by dsimp only;omega) (by dsimp only;omega),Ae,
  Asv oo oo oo oo oo (by dsimp only;omega) (by dsimp only;omega) (by dsimp only;omega),Ae]
 unfold bndT wsum Oy;rw[ga,gb,gc,hs]
theorem Aj2{p:Ab}{t:Aj}(ht:t∈m.T)(hc:covT m.V p t=true):-268435456<=(bndT m.V p t).Lo/\(bndT m.V p t).Lo<=(bndT m.V p t).Hi/\(bndT m.V p t).Hi<=268435456:=by
 obtain⟨h0,h1,h2,hpos⟩:=h.t _ ht;obtain⟨q0,z0⟩:=Gr h.ok h0;obtain⟨q1,z1⟩:=Gr h.ok h1;obtain⟨q2,z2⟩:=Gr h.ok h2;have hs:=Anb (plV m.V t.a0) (plV m.V t.a1) (plV m.V t.a2) p;unfold Oy at hpos;unfold covT at hc;rw[decide_eq_true_eq] at hc;unfold bndT wsum Oy;dsimp only;rw[<- hs];rw[<- hs] at hpos;obtain⟨n0,n1,n2⟩:=hc;generalize crs (plV m.V t.a1) (plV m.V t.a2) p=w0 at *;generalize crs (plV m.V t.a2) (plV m.V t.a0) p=w1 at *;generalize crs (plV m.V t.a0) (plV m.V t.a1) p=w2 at *;generalize zV m.V t.a0=s0 at *;generalize zV m.V t.a1=s1 at *;generalize zV m.V t.a2=s2 at *;have a0:=Int.mul_le_mul_of_nonneg_left (show -268435456<=s0.Lo by omega) n1;have a1:=Int.mul_le_mul_of_nonneg_left (show -268435456<=s1.Lo by omega) n2;have a2:=Int.mul_le_mul_of_nonneg_left (show -268435456<=s2.Lo by omega) n0;have b0:=Int.mul_le_mul_of_nonneg_left (show s0.Hi<=268435456 by omega) n1;have b1:=Int.mul_le_mul_of_nonneg_left (show s1.Hi<=268435456 by omega) n2;have b2:=Int.mul_le_mul_of_nonneg_left (show s2.Hi<=268435456 by omega) n0;have c0:=Int.mul_le_mul_of_nonneg_left (show s0.Lo<=s0.Hi by omega) n1;have c1:=Int.mul_le_mul_of_nonneg_left (show s1.Lo<=s1.Hi by omega) n2;have c2:=Int.mul_le_mul_of_nonneg_left (show s2.Lo<=s2.Hi by omega) n0;generalize w0*s0.Lo=x0 at *;generalize w1*s1.Lo=x1 at *;generalize w2*s2.Lo=x2 at *;generalize w0*s0.Hi=y0 at *;generalize w1*s1.Hi=y1 at *;generalize w2*s2.Hi=y2 at *;generalize hA:w0+w1+w2=A at *;have e1:-268435456<=(x0+x1+x2) / A:=Int.le_ediv_of_mul_le hpos oo;have e2:-268435456<=(-(y0+y1+y2)) / A:=Int.le_ediv_of_mul_le hpos oo;have g1:=Int.mul_ediv_self_le (x:=x0+x1+x2) (k:=A) oo;have g2:=Int.mul_ediv_self_le (x:=-(y0+y1+y2)) (k:=A) oo;refine⟨e1,?_,oo⟩;refine Int.not_lt.1 fun hlt=>?_
 have g3:=Int.mul_le_mul_of_nonneg_left (show -((-(y0+y1+y2)) / A)+1<=(x0+x1+x2) / A by omega) (show 0<=A by omega);rw[Int.mul_add,Int.mul_neg,Int.mul_one] at g3;omega
end
theorem pow8:(65536:Nat) ^ 8=340282366920938463463374607431768211456:=dD
theorem addI{a b:Int}(ha:a.natAbs<65536 ^ 8)(hb:b.natAbs<65536 ^ 8):Cr (QR (a:Rat)) (QR (b:Rat))=some (QR ((a+b:Int):Rat)):=by
 rw[Bb4 (Sml.int ha oo) (Sml.int hb oo) oo,Rat.intCast_add]
theorem subI{a b:Int}(ha:a.natAbs<65536 ^ 8)(hb:b.natAbs<65536 ^ 8):Db (QR (a:Rat)) (QR (b:Rat))=some (QR ((a-b:Int):Rat)):=by
 rw[Bb5 (Sml.int ha oo) (Sml.int hb oo) oo,Rat.intCast_sub]
theorem mulI{a b:Int}(ha:a.natAbs<65536 ^ 8)(hb:b.natAbs<65536 ^ 8):Ds (QR (a:Rat)) (QR (b:Rat))=some (QR ((a*b:Int):Rat)):=by
 rw[Be3 (Sml.int ha oo) (Sml.int hb oo) oo,Rat.intCast_mul]
theorem Aq1{x1 y1 x2 y2 x3 y3:Int}(h:∀ z∈[x1,y1,x2,y2,x3,y3],-268435456<=z/\z<=268435456):
  Ht ⟨QR (x1:Rat),QR (y1:Rat)⟩ ⟨QR (x2:Rat),QR (y2:Rat)⟩ ⟨QR (x3:Rat),QR (y3:Rat)⟩=some (QR ((crs ⟨x1,y1⟩ ⟨x2,y2⟩ ⟨x3,y3⟩:Int):Rat)):=by
 have a1:=h x1 (by simp);have a2:=h y1 (by simp);have a3:=h x2 (by simp);have a4:=h y2 (by simp);have a5:=h x3 (by simp);have a6:=h y3 (by simp);have m1:=mulB (x:=x2-x1) (y:=y3-y1) (M:=536870912) (N:=536870912) oo oo oo oo oo;have m2:=mulB (x:=y2-y1) (y:=x3-x1) (M:=536870912) (N:=536870912) oo oo oo oo oo;unfold Ht;dsimp only;rw[subI (by rw[pow8];omega) (by rw[pow8];omega),Ae,subI (by rw[pow8];omega) (by rw[pow8];omega),Ae,mulI (by rw[pow8];omega) (by rw[pow8];omega),Ae,subI (by rw[pow8];omega) (by rw[pow8];omega),Ae,
  subI (by rw[pow8];omega) (by rw[pow8];omega),Ae,mulI (by rw[pow8];omega) (by rw[pow8];omega),Ae,subI (by rw[pow8];omega) (by rw[pow8];omega),Ae]
 rfl
theorem Aj3{z S A:Int}(hA:0<A):(z:Rat)<=(S:Rat) / (A:Rat)↔z*A<=S:=by
 have hA':(0:Rat)<(A:Rat):=by rw[show (0:Rat)=((0:Int):Rat) from rfl,Rat.intCast_lt_intCast];exact hA
 have hne:(A:Rat)≠0:=fun e=>by rw[e] at hA';exact absurd hA' dD
 have e:=Rat.div_mul_cancel (a:=(S:Rat)) hne;rw[<- Rat.intCast_le_intCast,Rat.intCast_mul];generalize (S:Rat) / (A:Rat)=y at *;rw[<- e];constructor
 ·intro h;exact Rat.mul_le_mul_of_nonneg_right h (by grind)
 ·intro h;exact Rat.le_of_mul_le_mul_right h hA'
theorem Auo{S A:Int}(hA:0<A):((S:Rat) / (A:Rat)).floor=S / A:=by
 refine Int.le_antisymm ?_ ?_
 ·have h:=(Rat.le_floor_iff (x:=((S:Rat) / (A:Rat)).floor) (a:=(S:Rat) / (A:Rat))).1 (Int.le_refl _);exact Int.le_ediv_of_mul_le hA ((Aj3 hA).1 h)
 ·rw[Rat.le_floor_iff,Aj3 hA];exact Int.ediv_mul_le _ oo
theorem At_Q{p:Ab}(hp:okP p):Il p=some ⟨QR (p.X:Rat),QR (p.Y:Rat)⟩:=by
 unfold okP at hp;unfold Il;rw[Ac7 oo oo,Ae,Ac7 oo oo,Ae]
section
variable {m:Aq} (h:Msh m)
include h
theorem Aup{p:Ab}(hp:okP p){t:Aj}(ht:t∈m.T):Lc m t ⟨QR (p.X:Rat),QR (p.Y:Rat)⟩ =
  some ⟨QR ((crs (plV m.V t.a1) (plV m.V t.a2) p:Int):Rat),QR ((crs (plV m.V t.a2) (plV m.V t.a0) p:Int):Rat),QR ((crs (plV m.V t.a0) (plV m.V t.a1) p:Int):Rat)⟩:=by
 obtain⟨h0,h1,h2,_⟩:=h.t _ ht;have q0:=(Gr h.ok h0).1;have q1:=(Gr h.ok h1).1;have q2:=(Gr h.ok h2).1;obtain⟨a,ea,ha⟩:=Mg h0;obtain⟨b,eb,hb⟩:=Mg h1;obtain⟨c,ec,hc⟩:=Mg h2;have pa:∀ {k:Nat} (hk:k<m.V.length),Au m.V[k]=some (plV m.V (k:Int)):=fun hk=>by rw[Yq hk];rfl
 unfold Lc;rw[ea,eb,ec,At ha,Ae,At hb,Ae,At hc,Ae,pa ha,Ae,pa hb,pa hc];rw[ea] at q0;rw[eb] at q1;rw[ec] at q2;rw[At_Q q0,Ae,Ae,At_Q q1,Ae,Ae,At_Q q2,Ae];generalize plV m.V (a:Int)=A at *;generalize plV m.V (b:Int)=B at *;generalize plV m.V (c:Int)=C at *;have all:∀ {u v w:Ab},okP u->okP v->okP w->∀ z∈[u.X,u.Y,v.X,v.Y,w.X,w.Y],-268435456<=z/\z<=268435456:=fun hu hv hw z hz=>by
  unfold okP at hu hv hw;simp only[mem_cons,not_mem_nil,or_false] at hz;omega
 rw[Aq1 (all hp q1 q2),Ae,Aq1 (all q0 hp q2),Ae,Aq1 (all q0 q1 hp),Ae];have r1:crs p B C=crs B C p:=by unfold crs;grind
 have r2:crs A p C=crs C A p:=by unfold crs;grind
 show some (⟨QR ((crs p B C:Int):Rat),QR ((crs A p C:Int):Rat),QR ((crs A B p:Int):Rat)⟩:So)=_;rw[r1,r2]
theorem Alv{p:Ab}(hp:okP p){t:Aj}(ht:t∈m.T)(b:Bool)(f:Ax->Int)(hf:∀ z,f z=if b=true then z.Hi else z.Lo):
  Hu m t ⟨QR (p.X:Rat),QR (p.Y:Rat)⟩ b=some (QR (((wsum m.V p t f:Int):Rat) / ((Oy m.V t:Int):Rat))):=by
 obtain⟨h0,h1,h2,hpos⟩:=h.t _ ht;obtain⟨q0,z0⟩:=Gr h.ok h0;obtain⟨q1,z1⟩:=Gr h.ok h1;obtain⟨q2,z2⟩:=Gr h.ok h2;have hs:=Anb (plV m.V t.a0) (plV m.V t.a1) (plV m.V t.a2) p;have b0:=Hh q1 q2 hp;have b1:=Hh q2 q0 hp;have b2:=Hh q0 q1 hp;have b3:=Hh q0 q1 q2;unfold Oy at hpos;unfold Hu;rw[Aup h hp ht,Ae,show Cq 0=some (QR ((0:Int):Rat)) from Ac7 oo oo,Ae,Ae];unfold wsum Oy;obtain⟨a,ea,ha⟩:=Mg h0;obtain⟨b',eb,hb⟩:=Mg h1;obtain⟨c,ec,hc⟩:=Mg h2;have hh:∀ {k:Nat} (hk:k<m.V.length),Fc m.V[k] b=some (f (zV m.V (k:Int))):=fun hk=>by
  unfold Fc;rw[Aj0 hk,hf];cases b <;> rfl
 rw[<- hs];rw[<- hs] at hpos b3;have f0:-268435456<=f (zV m.V t.a0)/\f (zV m.V t.a0)<=268435456:=by rw[hf];split <;> omega
 have f1:-268435456<=f (zV m.V t.a1)/\f (zV m.V t.a1)<=268435456:=by rw[hf];split <;> omega
 have f2:-268435456<=f (zV m.V t.a2)/\f (zV m.V t.a2)<=268435456:=by rw[hf];split <;> omega
 have k0:=hh ha;have k1:=hh hb;have k2:=hh hc;rw[<- ea] at k0;rw[<- eb] at k1;rw[<- ec] at k2;have i0:idx m.V t.a0=some m.V[a]:=by rw[ea];exact At ha
 have i1:idx m.V t.a1=some m.V[b']:=by rw[eb];exact At hb
 have i2:idx m.V t.a2=some m.V[c]:=by rw[ec];exact At hc
 rw[i0,Ae,k0,Ae];generalize f (zV m.V t.a0)=v0 at *;rw[Ac7 oo oo,Ae];generalize crs (plV m.V t.a1) (plV m.V t.a2) p=w0 at *;generalize crs (plV m.V t.a2) (plV m.V t.a0) p=w1 at *;generalize crs (plV m.V t.a0) (plV m.V t.a1) p=w2 at *;have m0:=mulB (x:=w0) (y:=v0) (M:=576460752303423488) (N:=268435456) oo oo oo oo oo;dsimp only;rw[mulI (by rw[pow8];omega) (by rw[pow8];omega),Ae,addI (by rw[pow8];omega) (by rw[pow8];omega),Ae,addI (by rw[pow8];omega) (by rw[pow8];omega),Ae,i1,Ae,k1,Ae];generalize f (zV m.V t.a1)=v1 at *;have m1:=mulB (x:=w1) (y:=v1) (M:=576460752303423488) (N:=268435456) oo oo oo oo oo;rw[Ac7 oo oo,Ae,mulI (by rw[pow8];omega) (by rw[pow8];omega),Ae,addI (by rw[pow8];omega) (by rw[pow8];omega),Ae,addI (by rw[pow8];omega) (by rw[pow8];omega),Ae,i2,Ae,k2,Ae];generalize f (zV m.V t.a2)=v2 at *;have m2:=mulB (x:=w2) (y:=v2) (M:=576460752303423488) (N:=268435456) oo oo oo oo oo;rw[Ac7 oo oo,Ae,mulI (by rw[pow8];omega) (by rw[pow8];omega),Ae,addI (by rw[pow8];omega) (by rw[pow8];omega),Ae,addI (by rw[pow8];omega) (by rw[pow8];omega),Ae];have e1:0+w0*v0+w1*v1+w2*v2=w0*v0+w1*v1+w2*v2:=oo;have e2:0+w0+w1+w2=w0+w1+w2:=oo;rw[e1,e2];have hne:((w0+w1+w2:Int):Rat)≠0:=fun e=>by
  rw[show (0:Rat)=((0:Int):Rat) from rfl,Rat.intCast_inj] at e;omega
 rw[Be5 (Sml.int (k:=8) (by rw[pow8];omega) oo) (Sml.int (k:=8) (by rw[pow8];omega) oo) oo hne,Ae]
end
theorem Alw(p:Aa):Df p=some (X.plF p):=rfl
theorem Aeu{p:Aa}(hp:X.okPt p=true):okP (X.plF p):=by
 have:=X.okPt_rng hp;unfold okP X.plF;dsimp only;omega
theorem Aq2{a b:Ax}(ha:-268435456<=a.Lo/\a.Lo<=a.Hi/\a.Hi<=268435456)(hb:-268435456<=b.Lo/\b.Lo<=b.Hi/\b.Hi<=268435456):Xm a b=some (gapI a b)/\0<=gapI a b/\gapI a b<=536870912:=by
 unfold Xm gapI;rw[Av (x:=a.Lo-b.Hi) oo oo,Av (x:=b.Lo-a.Hi) oo oo];exact⟨rfl,oo,oo⟩
theorem Aym{g q s:Int}(h1:0<=g)(h2:g<4294967296)(h3:0<=s)(h4:s<4294967296)(h5:0<=q)(h6:q<18446744073709551616):Sd g q s=some (decide (g*g*1000000<=s*s*q)):=by
 obtain⟨a,rfl⟩:=Int.eq_ofNat_of_zero_le h1;obtain⟨b,rfl⟩:=Int.eq_ofNat_of_zero_le h3;obtain⟨c,rfl⟩:=Int.eq_ofNat_of_zero_le h5;rw[Avz oo oo oo];congr 1;rw[Bool.eq_iff_iff,decide_eq_true_eq,decide_eq_true_eq,
  show (a:Int)*(a:Int)*1000000=((a*a*1000000:Nat):Int) by rw[Int.natCast_mul,Int.natCast_mul];rfl,
  show (b:Int)*(b:Int)*(c:Int)=((b*b*c:Nat):Int) by rw[Int.natCast_mul,Int.natCast_mul]]
 exact Int.ofNat_le.symm
section
variable {m:Aq} (h:Msh m) {p:Aa} (hp:X.okPt p=true) {r:Af} (hr:X.okRules r=true)
include h hp hr
theorem Auq{t:Aj}(ht:t∈m.T)(i:Int){j:Nat}(hj:j < [t.a0,t.a1,t.a2].length):
  Qp t m p r i (j:Int)=if Nl m.V r p [t.a0,t.a1,t.a2][j]=true then some (.inl ((j+1:Nat):Int)) else some (.inr (.inr (i,false,0))):=by
 obtain⟨h0,h1,h2,_⟩:=h.t _ ht;have hk:inN m.V.length [t.a0,t.a1,t.a2][j]:=by
  have:[t.a0,t.a1,t.a2][j]∈[t.a0,t.a1,t.a2]:=getElem_mem hj;simp only[mem_cons,not_mem_nil,or_false] at this;rcases this with e | e | e <;> rw[e] <;> assumption
 have hj3:j<3:=hj;have hrr:=X.okRules_rng hr;have hpp:=X.okPt_rng hp;unfold Qp;rw[if_pos oo,At hj,Ae,Bg oo];unfold Nl;generalize [t.a0,t.a1,t.a2][j]=k at *;have hz:=Gr h.ok hk;obtain⟨n,rfl,hn⟩:=Mg hk;rw[Aj0 hn,Yq hn] at hz ⊢;obtain⟨g1,g2,g3⟩:=Aq2 (a:=p.Z) (b:=m.V[n].Z) oo hz.2;obtain⟨q1,q2,q3⟩:=Aul (Aeu hp) hz.1;have sp:Kg m.V[n]=some (pP m.V[n]):=rfl;rw[At hn,Ae,g1,Ae,Alw,Ae,sp,Ae,q1,Ae,Aym g2 oo oo oo q2 oo,Ae];rfl
theorem Ba4:Vh m p r=some (fitV m.V m.T r p):=by
 have hpp:=X.okPt_rng hp;have hq:=Aeu hp;unfold Vh;rw[Alw,Ae,Aum h hq,Ae];unfold fitV;cases e:locT m.V m.T (X.plF p) with
 | none=>rfl
 | some i=>
  dsimp only;have e':=e;unfold locT at e';rw[List.findIdx?_eq_some_iff_getElem] at e';obtain⟨hi,hc,_⟩:=e';have hb:=Aj2 h (getElem_mem hi) hc;rw[if_neg oo,Ae,Aun h hq hi hc,Ae,(Aq2 (a:=p.Z) oo hb).1,Ae,At hi];dsimp only
  by_cases c:r.Reach<gapI p.Z (bndT m.V (X.plF p) m.T[i])
  ·rw[if_pos c,if_pos c]
  ·rw[if_neg c,if_neg c,jn_d,Ae,Wd [m.T[i].a0,m.T[i].a1,m.T[i].a2] (Nl m.V r p) (Qp m.T[i] m p r (i:Int)) () ((i:Int),false,0) (fun j hj=>Auq h hp hr (getElem_mem hi) _ hj) ?_,Ae]
   ·by_cases c2:Nl m.V r p m.T[i].a0=true/\Nl m.V r p m.T[i].a1=true/\Nl m.V r p m.T[i].a2=true
    ·rw[if_pos c2,if_pos (by simp[c2])]
    ·rw[if_neg c2,if_neg (by simpa using c2)]
   ·unfold Qp;rw[if_neg (by simp)]
omit hp hr in
theorem Ayn:-1<=(fitV m.V m.T r p).1/\(fitV m.V m.T r p).1<2305843009213693952:=by
 have hl:=h.len;unfold fitV;cases e:locT m.V m.T (X.plF p) with
 | none=>dsimp only;omega
 | some i=>
  have e':=e;unfold locT at e';rw[List.findIdx?_eq_some_iff_getElem] at e';obtain⟨hi,hc,_⟩:=e';dsimp only;rw[At hi];dsimp only;split
  ·dsimp only;omega
  ·split <;> (dsimp only;omega)
end
theorem Aur{n:Nat}{T:List Aj}(hnd:T.Nodup)(h:∀ t∈T,inN n t.a0/\inN n t.a1/\inN n t.a2):T.length<=n*n*n:=by
 have h1:(T.map fun t=>((t.a0.toNat*n+t.a1.toNat)*n+t.a2.toNat)).Nodup:=by
  unfold List.Nodup;rw[pairwise_map];refine List.Pairwise.imp_of_mem ?_ hnd;intro x y hx hy hne e;obtain⟨x0,x1,x2⟩:=h x hx;obtain⟨y0,y1,y2⟩:=h y hy;unfold inN at x0 x1 x2 y0 y1 y2;have e2:x.a2.toNat=y.a2.toNat:=by
   have:=congrArg (· % n) e;simp only[Nat.mul_add_mod_self_right] at this
   rwa [Nat.mod_eq_of_lt oo,Nat.mod_eq_of_lt oo] at this
  have e':x.a0.toNat*n+x.a1.toNat=y.a0.toNat*n+y.a1.toNat:=by
   rw[e2] at e;exact Nat.eq_of_mul_eq_mul_right (show 0<n by omega) oo
  have e1:x.a1.toNat=y.a1.toNat:=by
   have:=congrArg (· % n) e';simp only[Nat.mul_add_mod_self_right] at this
   rwa [Nat.mod_eq_of_lt oo,Nat.mod_eq_of_lt oo] at this
  have e0:x.a0.toNat=y.a0.toNat:=by
   rw[e1] at e';exact Nat.eq_of_mul_eq_mul_right (show 0<n by omega) oo
  apply hne;obtain⟨xa,xb,xc⟩:=x;obtain⟨ya,yb,yc⟩:=y;simp only at *;rw[show xa=ya by omega,show xb=yb by omega,show xc=yc by omega]
 have:=Bz (m:=List.range (n*n*n)) h1 fun x hx=>by
  obtain⟨t,ht,rfl⟩:=mem_map.1 hx;obtain⟨t0,t1,t2⟩:=h t ht;unfold inN at t0 t1 t2;rw[mem_range];have a1:=Nat.mul_le_mul_right n (show t.a0.toNat+1<=n by omega);have a2:=Nat.mul_le_mul_right n (show t.a0.toNat*n+t.a1.toNat+1<=n*n by rw[Nat.add_mul] at a1;omega);rw[Nat.add_mul,Nat.one_mul] at a2;omega
 rwa [length_map,length_range] at this
theorem Ayo{L:List Aa}(hL:X.Fit L):∀ x∈vxL L,Md x:=fun x hx=>by
 unfold vxL at hx;obtain⟨p,hp,rfl⟩:=mem_map.1 hx;have:=X.okPt_rng (hL.ok p hp);unfold Md okP pP;dsimp only;omega
theorem Aus{L:List Aa}(hL:X.Fit L):∃ r:Aq × Int,Ry L=some r/\((r.2=0/\Jh L/\r.1.V=vxL L/\r.1.Lines=[]/\Wy (vxL L) r.1.T)\/(r=(⟨[],[],[]⟩,11)/\¬ Jh L)):=by
 have hn:=hL.n;unfold Ry;rw[gd_t oo,jn_d,Aje hn,Ae];dsimp only;rcases Agp hL with⟨e,ha⟩|⟨e,ha⟩
 ·obtain⟨T,t1,t3⟩:=Aom e;rw[t1,Ae];dsimp only;rw[if_pos rfl];exact⟨_,rfl,.inl ⟨rfl,ha,rfl,rfl,t3⟩⟩
 ·rw[Alk [] oo,Ae];dsimp only;rw[if_neg oo];exact⟨_,rfl,.inr ⟨rfl,ha⟩⟩
theorem Ayp{L:List Aa}(hL:X.Fit L){m:Aq}(hv:m.V=vxL L)(ht:Wy (vxL L) m.T):Msh m:=by
 have hn:=hL.n;have hlen:m.V.length<=1024:=by rw[hv];unfold vxL;rw[length_map];exact hn
 have hin:∀ t∈m.T,inN m.V.length t.a0/\inN m.V.length t.a1/\inN m.V.length t.a2/\0<Oy m.V t:=fun t h=>by
  rw[hv];obtain⟨_,_,d0,d1,d2,d3,_⟩:=(ht.mem t).1 h;exact⟨d0,d1,d2,d3⟩
 refine⟨hlen,by rw[hv];exact Ayo hL,?_,hin⟩;have:=Aur ht.nd (fun t h=>⟨(hin t h).1,(hin t h).2.1,(hin t h).2.2.1⟩);have h1:=Nat.mul_le_mul hlen hlen;have h2:=Nat.mul_le_mul h1 hlen;omega
end Go.Proofs.YthlkpgdfifnagaaGreat
namespace Go.Proofs.YthlkpgdfifnagaaGreat
open Go Go.RowKit Go.Sort List
structure Ctx(l:List Aa)(r:Af)(C:List Aa):Prop where
 val:X.validL l=true
 rul:X.okRules r=true
 few:l.length<=300
 perm:C.Perm (X.candL l r)
structure GOk(C:List Aa)(g:List Int):Prop where
 nd:g.Nodup
 src:∀ i∈g,∃ p∈C,p.Id=i
theorem Fit.pick{l:List Aa}{ids:List Int}(hl:X.Fit l):X.Fit (Un l ids):=(Fit.sel hl).perm (Kj _ _).symm
section
variable {l:List Aa} {r:Af} {C:List Aa} (hc:Ctx l r C)
include hc
theorem Ctx.fit:X.Fit C:=(X.Fit.cand hc.val).perm hc.perm.symm
theorem Ctx.bot{p:Aa}(hp:p∈C):p∈X.candL l r:=hc.perm.mem_iff.1 hp
theorem Ctx.dry{p:Aa}(hp:p∈C):p∈l/\X.sunkB l r p=false/\p.Num=p.Of:=by
 have h1:=(X.mem_bot.1 (hc.bot hp)).1;unfold X.lastL X.dryL at h1;rw[mem_filter,mem_filter] at h1;exact⟨h1.1.1,by simpa using h1.1.2,by simpa using h1.2⟩
theorem Ctx.apart{p q:Aa}(hp:p∈C)(hq:q∈C)(hx:p.X=q.X)(hy:p.Y=q.Y):p=q:=by
 obtain⟨p1,p2⟩:=X.mem_bot.1 (hc.bot hp);obtain⟨q1,q2⟩:=X.mem_bot.1 (hc.bot hq);have e:X.plF p=X.plF q:=by unfold X.plF;rw[hx,hy]
 exact X.id_inj hc.fit.id hp hq (X.lowB_total (q2 p p1 e) (p2 q q1 e.symm))
theorem Ctx.len:C.length<=300:=by
 classical
 have h1:=Bz (l:=C) (m:=l) (X.nodup_of_ids hc.fit.id) (fun x hx=>(hc.dry hx).1);have:=hc.few;omega
variable {g:List Int} (hg:GOk C g)
include hg
omit hc in
theorem GOk.len:g.length<=C.length:=by
 have:=Bz (l:=g) (m:=C.map (·.Id)) hg.nd (fun i hi=>by
  obtain⟨p,hp,rfl⟩:=hg.src i hi;exact mem_map_of_mem hp)
 rwa [length_map] at this
theorem GOk.sel:Abm l g:=⟨hg.nd,fun i hi=>by
 obtain⟨p,hp,e⟩:=hg.src i hi;exact⟨p,(hc.dry hp).1,e⟩⟩
theorem GOk.rng{i:Int}(hi:i∈g):-9223372036854775808<=i/\i<=9223372036854775807:=by
 obtain⟨p,hp,rfl⟩:=hg.src i hi;have:=X.okPt_rng (hc.fit.ok p hp);omega
theorem GOk.pick{p:Aa}(hp:p∈Un l g):p∈C/\p.Id∈g:=by
 have h1:p∈selL l g:=Oa.1 hp;unfold selL at h1;rw[mem_filter,decide_eq_true_eq] at h1;obtain⟨c,hc1,e⟩:=hg.src _ h1.2;rw[X.id_inj (X.Fit.of hc.val).id h1.1 (hc.dry hc1).1 e.symm];exact⟨hc1,by rw[e];exact h1.2⟩
theorem GOk.apart:Jh (Un l g):=by
 have hf:=(Fit.pick (ids:=g) (X.Fit.of hc.val)).id;rw[List.Nodup,pairwise_map] at hf;unfold Jh;refine List.Pairwise.imp_of_mem ?_ hf;intro a b ha hb hne e;exact hne (congrArg (·.Id) (hc.apart (GOk.pick hc hg ha).1 (GOk.pick hc hg hb).1 e.1 e.2))
end
structure GSel(l:List Aa)(g:List Int):Prop where
 sel:Abm l g
 apart:Jh (Un l g)
theorem GOk.gsel{l:List Aa}{r:Af}{C:List Aa}(hc:Ctx l r C){g:List Int}(hg:GOk C g):GSel l g:=⟨GOk.sel hc hg,GOk.apart hc hg⟩
section
variable {l:List Aa} {r:Af} {C:List Aa} (hc:Ctx l r C) {g:List Int} (hg:GSel l g)
include hg
theorem GSel.len:g.length<=l.length:=by
 have:=Bz (l:=g) (m:=l.map (·.Id)) hg.sel.1 (fun i hi=>by
  obtain⟨p,hp,rfl⟩:=hg.sel.2 i hi;exact mem_map_of_mem hp)
 rwa [length_map] at this
include hc
theorem GSel.rng{i:Int}(hi:i∈g):-9223372036854775808<=i/\i<=9223372036854775807:=by
 obtain⟨p,hp,rfl⟩:=hg.sel.2 i hi;have:=X.okPt_rng ((X.Fit.of hc.val).ok p hp);omega
theorem Ba5:∃ m:Aq,Da l g=some (m,0)/\m.V=vxL (Un l g)/\m.Lines=[]/\Wy (vxL (Un l g)) m.T/\Msh m:=by
 have h1:=GSel.len hg;have h2:=hc.few;have hf:=Fit.pick (ids:=g) (X.Fit.of hc.val);obtain⟨x,e,⟨e0,_,e1,e2,e3⟩|⟨_,e0⟩⟩:=Aus hf
 ·refine⟨x.1,?_,e1,e2,e3,Ayp hf e1 e3⟩;unfold Da;rw[Ac9 (X.Fit.of hc.val) oo (fun i hi=>GSel.rng hc hg hi),Ae,if_pos hg.sel];dsimp only;rw[if_pos rfl,e,Ae,e0]
 ·exact absurd hg.apart e0
end
noncomputable def Pk(l:List Aa)(g:List Int):Aq:=match Da l g with
 | some r=>r.1
 | none=>⟨[],[],[]⟩
noncomputable def gFit(l:List Aa)(r:Af)(g:List Int):FitF:=fitV (Pk l g).V (Pk l g).T r
section
variable {l:List Aa} {r:Af} {C:List Aa} (hc:Ctx l r C) {g:List Int} (hg:GSel l g)
include hc hg
theorem Adg:Da l g=some (Pk l g,0)/\(Pk l g).V=vxL (Un l g)/\(Pk l g).Lines=[]/\Wy (vxL (Un l g)) (Pk l g).T/\Msh (Pk l g):=by
 obtain⟨m,e,h⟩:=Ba5 hc hg;have:Pk l g=m:=by unfold Pk;rw[e]
 rw[this];exact⟨e,h⟩
omit hc hg in
theorem Ao7{C':List Aa}{b:List (Int × Ay)}(h:Zt g (gFit l r g) C' b):b.length<=C'.length:=by
 classical
 have h1:(b.map (·.2.p)).Nodup:=by
  unfold List.Nodup;rw[pairwise_map];refine List.Pairwise.imp_of_mem ?_ h.map;intro q q' hq hq' hne e;have a1:=(h.src q hq).2.2;have a2:=(h.src q' hq').2.2;rw[e,a2] at a1;exact hne (Prod.mk.inj a1).1.symm
 have:=Bz (m:=C') h1 fun x hx=>by
  obtain⟨q,hq,rfl⟩:=mem_map.1 hx;exact (h.src q hq).1
 rwa [length_map] at this
theorem Anc:lfix (Th C g (Pk l g,0) r) (([]:List (Int × Ay)),0)=some (Zi g (gFit l r g) C):=by
 obtain⟨_,_,_,_,hm⟩:=Adg hc hg;have hlen:=hc.len;have hgl:=GSel.len hg;have hll:=hc.few;have:=Bk (B:=Th C g (Pk l g,0) r) (fun s=>C.length-s.2.toNat) (fun s=>∃ k:Nat,k<=C.length/\s=((C.take k).foldl (Tb g (gFit l r g)) [],(k:Int))) (fun t=>t=Zi g (gFit l r g) C) (fun s hs=>by
  obtain⟨k,hk,rfl⟩:=hs;have hb:=Aew (g:=g) (F:=gFit l r g) (C:=C) k;have hbl:=Ao7 hb;rw[length_take] at hbl;unfold Th;dsimp only
  by_cases hk2:k<C.length
  ·left;refine⟨((C.take (k+1)).foldl (Tb g (gFit l r g)) [],((k+1:Nat):Int)),?_,⟨k+1,hk2,rfl⟩,by dsimp only;omega⟩;rw[take_succ_eq_append_getElem hk2,foldl_append];generalize (C.take k).foldl (Tb g (gFit l r g)) []=b at *;rw[if_pos oo,jn_d,At hk2,Ae,Ao6 oo,Ae,Bg oo];have hp:=hc.fit.ok _ (getElem_mem hk2);have hf:=Ba4 hm hp hc.rul;have hfr:=Ayn (p:=C[k]) (r:=r) hm;show _=some (Sum.inl (Tb g (gFit l r g) b C[k],((k+1:Nat):Int)));unfold Tb
   by_cases c1:C[k].Id∈g
   ·rw[if_pos (by simpa using c1),if_pos (.inl c1)]
   ·rw[if_neg (by simpa using c1),hf,Ae];unfold gFit;generalize fitV (Pk l g).V (Pk l g).T r C[k]=f at *
    by_cases c2:f.2.1=true
    ·rw[if_pos c2,gd_t oo,Ae,jn_d,if_neg (show ¬ (C[k].Id∈g\/f.2.1=false) by rw[c2];simpa using c1),gd_t oo,gd_t oo];cases e:mget b f.1 with
     | none=>simp
     | some o=>
      simp only[Option.isSome_some,if_true,Option.getD_some]
      by_cases c3:f.2.2<o.far
      ·rw[if_pos c3,if_pos (.inl c3)];try simp
      ·rw[if_neg c3]
       by_cases c4:f.2.2=o.far
       ·rw[if_pos c4,X.lower_eq,Ae]
        by_cases c5:X.lowB C[k] o.p=true
        ·rw[if_pos c5,if_pos (.inr ⟨c4,c5⟩)]
        ·rw[if_neg c5,if_neg (fun h=>h.elim c3 (fun h=>c5 h.2))]
       ·rw[if_neg c4,if_neg (by simp),if_neg (fun h=>h.elim c3 (fun h=>c4 h.1))]
    ·rw[if_neg c2,if_pos (.inr (by simpa using c2))]
  ·right;rw[if_neg oo];have:k=C.length:=oo;subst this;exact⟨_,rfl,by rw[take_length];rfl⟩) (([]:List (Int × Ay)),0) ⟨0,oo,rfl⟩
 obtain⟨t,ht,rfl⟩:=this;exact ht
theorem Ayq:Vq l g C r=some (Nm g (gFit l r g) C,0):=by
 obtain⟨hs,_⟩:=Adg hc hg;have hlen:=hc.len;have hgl:=GSel.len hg;have hll:=hc.few;have hbl:=Ao7 (Aan g (gFit l r g) C);unfold Vq;rw[hs,Ae];dsimp only;rw[if_pos rfl,jn_d,Anc hc hg,Ae];dsimp only;unfold Adf;rw[gd_t oo,Ae,jn_d];refine Aq5 (Aan g (gFit l r g) C).map g (fun q=>[q.2.p.Id]) (fun q=>by simp) (fun s=>rfl) (fun s q hq hlt=>?_) (fun w hw=>?_)
 ·unfold Wn;rw[gd_t oo]
 ·rw[<- map_eq_flatMap] at hw;have:=hw.length_eq;rw[length_map] at this;dsimp only;rw[gd_t (by rw[length_append];omega)];unfold Nm adds;rw[X.sortI_perm (hw.append_left g)]
end
section
variable {l:List Aa} {r:Af} {C:List Aa} (hc:Ctx l r C) {g:List Int} (hg:GOk C g)
include hc hg
theorem Ba6:Vq l g C r=some (Nm g (gFit l r g) C,0):=Ayq hc (GOk.gsel hc hg)
theorem And:GOk C (Nm g (gFit l r g) C):=⟨Apb hg.nd hc.fit.id,fun i hi=>Aux hg.src hi⟩
end
structure Grnd(l:List Aa)(r:Af)(C:List Aa)(g:List Int):Prop where
 ok:GOk C g
 srt:g.Pairwise (·<=·)
 seed:∀ i∈X.seedL l r,i∈g
 again:Nm g (gFit l r g) C=g
 stop:Zi g (gFit l r g) C=[]
theorem Bed{l:List Aa}{r:Af}(hl:X.validL l=true)(hr:X.okRules r=true)(hn:l.length<=300):∃ C,Eo l r=some C/\Ctx l r C:=by
 obtain⟨C,h1,h2⟩:=X.cand_eq hl hr;exact⟨C,h2,hl,hr,hn,h1⟩
section
variable {l:List Aa} {r:Af} {C:List Aa} (hc:Ctx l r C)
include hc
theorem Ba7:Ud C r=some (X.seedL l r):=by
 rw[X.seeds_eq hc.fit hc.rul];unfold X.seedL;rw[X.sortI_perm ((X.bot_perm (X.nodup_of_ids hc.fit.id) hc.perm).map _)]
theorem Ane:GOk C (X.seedL l r):=by
 have hf:=X.Fit.cand (l:=l) (r:=r) hc.val;have hb:X.Fit (X.bot (X.ceF r.Cell) (X.candL l r)):=hf.filter _;refine⟨(X.perm_sortI _).nodup_iff.2 hb.id,fun i hi=>?_⟩;obtain⟨p,hp,rfl⟩:=mem_map.1 ((X.perm_sortI _).mem_iff.1 hi);exact⟨p,hc.perm.mem_iff.2 (X.mem_bot.1 hp).1,rfl⟩
end
theorem Akt{m:Aq}(h1:m.V.length<=1000000)(h2:m.T.length<=100000000)(h3:m.Lines=[]):Jp m m=some true:=by
 have e1:lfix (Er m m) 0=some (.inl ()):=by
  rw[Wd (β:=Unit) (γ:=Bool) m.V (fun _=>true) (Er m m) () false (fun j hj=>?_) ?_]
  ·simp
  ·unfold Er;rw[if_neg oo]
  ·unfold Er;rw[if_pos oo,At hj,Ae,Ae,if_pos (by simp),if_pos rfl,w1 hj oo]
 have e2:lfix (Dz m m) 0=some (.inl ()):=by
  rw[Wd (β:=Unit) (γ:=Bool) m.T (fun _=>true) (Dz m m) () false (fun j hj=>?_) ?_]
  ·simp
  ·unfold Dz;rw[if_neg oo]
  ·unfold Dz;rw[if_pos oo,At hj,Ae,Ae,if_pos (by simp),if_pos rfl,w1 hj oo]
 have e3:lfix (Ja m) 0=some ():=by
  rw[Bd];unfold Ja;rw[if_neg (by rw[h3];simp)]
 unfold Jp;rw[jn_d,if_pos rfl,if_pos rfl,decide_eq_true rfl];dsimp only;rw[if_neg (by simp),jn_d,e1,Ae];dsimp only;rw[jn_d,e2,Ae];dsimp only;rw[jn_d,e3,Ae]
theorem Alx{v:List Ad}{T:List Aj}(hn:v.length<=1024)(h:Wy v T):T.length<=1048576:=by
 have hsq:=Aho hn;have:=Ai8 (fun t ht=>(h.mem t).1 ht) h.nd;omega
end Go.Proofs.YthlkpgdfifnagaaGreat
namespace Go.Proofs.YthlkpgdfifnagaaGreat
open Go Go.RowKit List
theorem Aq3{α γ:Type}(l:List α)(p:α->Bool)(g:Nat->γ)(B:Int->Option (Sum Int (Sum Unit γ)))(h1:∀ (j:Nat) (h:j<l.length),B j=if p l[j]=true then some (.inr (.inr (g j))) else some (.inl ((j+1:Nat):Int)))(h2:B l.length=some (.inr (.inl ()))):
  lfix B 0=some (match l.findIdx? p with | some i=>.inr (g i) | none=>.inl ()):=by
 have key:∀ (m k:Nat),k<=l.length->l.length-k=m->(∀ j (hj:j<l.length),j<k->p l[j]=false)->lfix B k=some (match l.findIdx? p with | some i=>.inr (g i) | none=>.inl ()):=by
  intro m
  induction m with
  | zero=>
   intro k hk hm hf;obtain rfl:k=l.length:=oo;rw[Bd,h2];have:l.findIdx? p=none:=by
    rw[List.findIdx?_eq_none_iff];intro x hx;obtain⟨j,hj,rfl⟩:=getElem_of_mem hx;exact hf j hj hj
   rw[this]
  | succ m ih=>
   intro k hk hm hf;have hlt:k<l.length:=oo;rw[Bd,h1 k hlt]
   by_cases hp:p l[k]=true
   ·rw[if_pos hp];have:l.findIdx? p=some k:=by
     rw[List.findIdx?_eq_some_iff_getElem];exact⟨hlt,hp,fun j hj=>by rw[hf j oo hj];simp⟩
    rw[this]
   ·rw[if_neg hp];refine ih (k+1) oo oo fun j hj hjk=>?_
    by_cases e:j=k
    ·subst e;exact Bool.eq_false_iff.2 hp
    ·exact hf j hj oo
 exact key l.length 0 (Nat.zero_le _) rfl (fun j _ h=>absurd h oo)
structure Ao8(m:Aq):Prop where
 msh:Msh m
 chk:Oo m=some 0
theorem Ayr{L:List Aa}(hL:X.Fit L)(ha:Jh L){m:Aq}(hv:m.V=vxL L)(hl:m.Lines=[])(ht:Wy (vxL L) m.T):Ao8 m:=by
 have hm:=Ayp hL hv ht;refine⟨hm,?_⟩;rcases Agp hL with⟨e,_⟩|⟨_,g⟩
 ·obtain⟨T,t1,t2,t3⟩:=Afu e;have hn:=hL.n;have hlen:(vxL L).length<=1024:=by unfold vxL;rw[length_map];exact hn
  have hT:=Alx hlen ht;have em:(⟨vxL L,T,[]⟩:Aq)=m:=by
   obtain⟨V,T',Ls⟩:=m;dsimp only at hv hl ht;rw[hv,hl,t3.unique ht]
  unfold Oo;rw[hv,hl,t1,Ae,jn_d];dsimp only;rw[if_pos rfl,em,Akt (by have:=hm.n;omega) oo hl,Ae];rfl
 ·exact absurd ha g
section
variable {m:Aq} (h:Msh m)
include h
theorem Bee{p:Ab}(hp:okP p){t:Aj}(ht:t∈m.T):Su m t p=some (covT m.V p t):=by
 obtain⟨h0,h1,h2,_⟩:=h.t _ ht;have q0:=(Gr h.ok h0).1;have q1:=(Gr h.ok h1).1;have q2:=(Gr h.ok h2).1;obtain⟨a,ea,ha⟩:=Mg h0;obtain⟨b,eb,hb⟩:=Mg h1;obtain⟨c,ec,hc⟩:=Mg h2;have pa:∀ {k:Nat} (hk:k<m.V.length),Au m.V[k]=some (plV m.V (k:Int)):=fun hk=>by rw[Yq hk];rfl
 have sg:∀ z:Int,Int.sign z<0↔¬ 0<=z:=fun z=>by
  rw[Int.sign_neg_iff];omega
 have st:∀ (j:Nat) (u v:Nat),u<m.V.length->v<m.V.length->idx [t.a0,t.a1,t.a2] (j:Int)=some (u:Int)->idx [t.a0,t.a1,t.a2] (Int.tmod (w64 ((j:Int)+1)) 3)=some (v:Int)->j<3->okP (plV m.V (u:Int))->okP (plV m.V (v:Int)) ->
   Dr t m p (j:Int)=if 0<=crs (plV m.V (u:Int)) (plV m.V (v:Int)) p then some (.inl ((j+1:Nat):Int)) else some (.inr (.inr false)):=fun j u v hu hv e1 e2 hj o1 o2=>by
  unfold Dr;rw[if_pos oo,e1,Ae,At hu,Ae,e2,Ae,At hv,Ae,pa hu,Ae,pa hv,Ae,Aaf o1 o2 hp,Ae,Bg oo]
  by_cases c:0<=crs (plV m.V (u:Int)) (plV m.V (v:Int)) p
  ·rw[if_pos c,if_neg (by rw[sg];omega)]
  ·rw[if_neg c,if_pos ((sg _).2 c)]
 rw[ea] at q0;rw[eb] at q1;rw[ec] at q2;have t3:∀ {k:Nat},k<3->∃ u v:Nat,idx [t.a0,t.a1,t.a2] (k:Int)=some (u:Int)/\idx [t.a0,t.a1,t.a2] (Int.tmod (w64 ((k:Int)+1)) 3)=some (v:Int)/\((k=0/\u=a/\v=b)\/(k=1/\u=b/\v=c)\/(k=2/\u=c/\v=a)):=fun {k} hk=>by
  rw[ea,eb,ec,Bg oo];rcases (by omega:k=0\/k=1\/k=2) with rfl | rfl | rfl
  ·exact⟨a,b,rfl,rfl,.inl ⟨rfl,rfl,rfl⟩⟩
  ·exact⟨b,c,rfl,rfl,.inr (.inl ⟨rfl,rfl,rfl⟩)⟩
  ·exact⟨c,a,rfl,rfl,.inr (.inr ⟨rfl,rfl,rfl⟩)⟩
 have s0:Dr t m p ((0:Nat):Int)=if 0<=crs (plV m.V (a:Int)) (plV m.V (b:Int)) p then some (.inl ((0+1:Nat):Int)) else some (.inr (.inr false)):=by
  obtain⟨u,v,e1,e2,g⟩:=t3 (show 0<3 by omega);obtain⟨rfl,rfl⟩:u=a/\v=b:=oo;exact st 0 u v ha hb e1 e2 oo q0 q1
 have s1:Dr t m p ((0+1:Nat):Int)=if 0<=crs (plV m.V (b:Int)) (plV m.V (c:Int)) p then some (.inl ((0+1+1:Nat):Int)) else some (.inr (.inr false)):=by
  obtain⟨u,v,e1,e2,g⟩:=t3 (show 0+1<3 by omega);obtain⟨rfl,rfl⟩:u=b/\v=c:=oo;exact st _ u v hb hc e1 e2 oo q1 q2
 have s2:Dr t m p ((0+1+1:Nat):Int)=if 0<=crs (plV m.V (c:Int)) (plV m.V (a:Int)) p then some (.inl ((0+1+1+1:Nat):Int)) else some (.inr (.inr false)):=by
  obtain⟨u,v,e1,e2,g⟩:=t3 (show 0+1+1<3 by omega);obtain⟨rfl,rfl⟩:u=c/\v=a:=oo;exact st _ u v hc ha e1 e2 oo q2 q0
 have s3:Dr t m p ((0+1+1+1:Nat):Int)=some (.inr (.inl ())):=by
  unfold Dr;rw[if_neg oo]
 unfold Su covT;rw[jn_d,ea,eb,ec];show bnd (lfix (Dr t m p) ((0:Nat):Int)) _=_
 by_cases c0:0<=crs (plV m.V (a:Int)) (plV m.V (b:Int)) p
 ·by_cases c1:0<=crs (plV m.V (b:Int)) (plV m.V (c:Int)) p
  ·by_cases c2:0<=crs (plV m.V (c:Int)) (plV m.V (a:Int)) p
   ·rw[if_pos c0] at s0;rw[if_pos c1] at s1;rw[if_pos c2] at s2;rw[Bd,s0];dsimp only;rw[Bd,s1];dsimp only;rw[Bd,s2];dsimp only;rw[Bd,s3];simp[Ae,c0,c1,c2]
   ·rw[if_pos c0] at s0;rw[if_pos c1] at s1;rw[if_neg c2] at s2;rw[Bd,s0];dsimp only;rw[Bd,s1];dsimp only;rw[Bd,s2];simp[Ae,c2]
  ·rw[if_pos c0] at s0;rw[if_neg c1] at s1;rw[Bd,s0];dsimp only;rw[Bd,s1];simp[Ae,c1]
 ·rw[if_neg c0] at s0;rw[Bd,s0];simp[Ae,c0]
end
theorem Anf{m:Aq}(h:Ao8 m){p:Ab}(hp:okP p):Jf m p=some (match locT m.V m.T p with | some i=>((i:Int),0) | none=>(0,65)):=by
 unfold Jf;rw[h.chk,Ae,if_pos rfl,Asg,Ae,decide_eq_true hp,if_pos rfl,jn_d];have hl:=h.msh.len;have e:=Aq3 m.T (covT m.V p) (fun i=>((i:Int),(0:Int))) (Lb m p) (fun j hj=>by
  unfold Lb;rw[if_pos oo,At hj,Ae,Bee h.msh hp (getElem_mem hj),Ae,Bg oo]) (by
  unfold Lb;rw[if_neg oo])
 rw[e,Ae];unfold locT;cases m.T.findIdx? (covT m.V p) <;> rfl
theorem Aq4{m:Aq}(h:Ao8 m){p:Ab}(hp:okP p):Gj m p=some (match locT m.V m.T p with | some i=>(match idx m.T (i:Int) with | some t=>(bndT m.V p t,0) | none=>(⟨0,0⟩,0)) | none=>(⟨0,0⟩,65)):=by
 unfold Gj Nd;rw[Anf h hp,Ae];cases e:locT m.V m.T p with
 | none=>rfl
 | some i=>
  have e':=e;unfold locT at e';rw[List.findIdx?_eq_some_iff_getElem] at e';obtain⟨hi,hc,_⟩:=e';have ht:=getElem_mem hi;obtain⟨h0,h1,h2,hpos⟩:=h.msh.t _ ht;have hb:=Aj2 h.msh ht hc;dsimp only;rw[if_pos rfl,At hi,Ae,Ae,At_Q hp,Ae,Alv h.msh hp ht false (·.Lo) (fun z=>by simp),Ae,Ae,Alv h.msh hp ht true (·.Hi) (fun z=>by simp),Ae,Ae];dsimp only;rw[if_pos rfl];unfold bndT at hb ⊢;dsimp only at hb;have hd:∀ z:Int,-((z:Rat) / ((Oy m.V m.T[i]:Int):Rat))=((-z:Int):Rat) / ((Oy m.V m.T[i]:Int):Rat):=fun z=>by
   rw[Rat.div_def,Rat.div_def,<- Rat.neg_mul,Rat.intCast_neg]
  have fl:=fun z=>Auo (S:=z) hpos
  have hw:wsum m.V p m.T[i] (·.Lo)<=wsum m.V p m.T[i] (·.Hi):=by
   obtain⟨_,z0⟩:=Gr h.msh.ok h0;obtain⟨_,z1⟩:=Gr h.msh.ok h1;obtain⟨_,z2⟩:=Gr h.msh.ok h2;unfold covT at hc;rw[decide_eq_true_eq] at hc;unfold wsum;dsimp only;have c0:=Int.mul_le_mul_of_nonneg_left z0.2.1 hc.2.1;have c1:=Int.mul_le_mul_of_nonneg_left z1.2.1 hc.2.2;have c2:=Int.mul_le_mul_of_nonneg_left z2.2.1 hc.1;omega
  have big:∀ f:Ax->Int,(∀ z:Ax,-268435456<=z.Lo->z.Lo<=z.Hi->z.Hi<=268435456->-268435456<=f z/\f z<=268435456)->(wsum m.V p m.T[i] f).natAbs<65536 ^ 8:=fun f hf=>by
   obtain⟨q0,z0⟩:=Gr h.msh.ok h0;obtain⟨q1,z1⟩:=Gr h.msh.ok h1;obtain⟨q2,z2⟩:=Gr h.msh.ok h2;have f0:=hf _ z0.1 z0.2.1 z0.2.2;have f1:=hf _ z1.1 z1.2.1 z1.2.2;have f2:=hf _ z2.1 z2.2.1 z2.2.2;have b0:=Hh q1 q2 hp;have b1:=Hh q2 q0 hp;have b2:=Hh q0 q1 hp;have m0:=mulB (M:=576460752303423488) (N:=268435456) oo b0.1 b0.2 f0.1 f0.2;have m1:=mulB (M:=576460752303423488) (N:=268435456) oo b1.1 b1.2 f1.1 f1.2;have m2:=mulB (M:=576460752303423488) (N:=268435456) oo b2.1 b2.2 f2.1 f2.2;unfold wsum;rw[pow8];omega
  have hA8:(Oy m.V m.T[i]).natAbs<65536 ^ 8:=by
   have:=Hh (Gr h.msh.ok h0).1 (Gr h.msh.ok h1).1 (Gr h.msh.ok h2).1;unfold Oy;rw[pow8];omega
  have hne:((Oy m.V m.T[i]:Int):Rat)≠0:=fun e=>by
   rw[show (0:Rat)=((0:Int):Rat) from rfl,Rat.intCast_inj] at e;omega
  have s1:=big (·.Lo) (fun z a b c=>by constructor <;> omega);have s2:=big (·.Hi) (fun z a b c=>by constructor <;> omega);have x1:Sml 16 (((wsum m.V p m.T[i] (·.Lo):Int):Rat) / ((Oy m.V m.T[i]:Int):Rat)):=Sml.div (Sml.int s1 oo) (Sml.int hA8 oo) hne;have x2:Sml 16 (((wsum m.V p m.T[i] (·.Hi):Int):Rat) / ((Oy m.V m.T[i]:Int):Rat)):=Sml.div (Sml.int s2 oo) (Sml.int hA8 oo) hne;have hpos':(0:Rat)<((Oy m.V m.T[i]:Int):Rat):=Rat.intCast_pos.2 hpos;have hxy:¬ ((wsum m.V p m.T[i] (·.Hi):Int):Rat) / ((Oy m.V m.T[i]:Int):Rat)<((wsum m.V p m.T[i] (·.Lo):Int):Rat) / ((Oy m.V m.T[i]:Int):Rat):=fun hlt=>by
   rw[Rat.div_lt_iff hpos',Rat.div_mul_cancel hne,Rat.intCast_lt_intCast] at hlt;omega
  have e2:(if ((wsum m.V p m.T[i] (·.Lo):Int):Rat) / ((Oy m.V m.T[i]:Int):Rat)<((wsum m.V p m.T[i] (·.Hi):Int):Rat) / ((Oy m.V m.T[i]:Int):Rat) then ((wsum m.V p m.T[i] (·.Hi):Int):Rat) / ((Oy m.V m.T[i]:Int):Rat) else ((wsum m.V p m.T[i] (·.Lo):Int):Rat) / ((Oy m.V m.T[i]:Int):Rat))=((wsum m.V p m.T[i] (·.Hi):Int):Rat) / ((Oy m.V m.T[i]:Int):Rat):=by
   split
   ·rfl
   ·rename_i hlt;exact Rat.le_antisymm (Rat.not_lt.1 hxy) (Rat.not_lt.1 hlt)
  have ar:=Awn x1 x2 oo (by rw[if_neg hxy,fl];omega) (by rw[e2,hd,fl];omega);rw[if_neg hxy,e2,hd,fl,fl] at ar;rw[ar,Ae]
end Go.Proofs.YthlkpgdfifnagaaGreat
