import Derived.Test.YthlkpgdfifnagaaGreatZ2
namespace Go.Proofs.YthlkpgdfifnagaaGreat
open Go Go.RowKit List
section
theorem Ayp(a:Int):shr_ .i64 a 30=a/1073741824:=by
 unfold shr_;rw[show (2:Int)^(min (30:Int).toNat IntKind.i64.bits)=1073741824 from by decide,Int.fdiv_eq_ediv_of_nonneg _ oo]
theorem Ayq(a:Int):Df .i64 a 1073741823=a%1073741824:=by
 unfold Df;have h1:(BitVec.ofInt 64 1073741823).toNat=2^30-1:=dD;have h2:(BitVec.ofInt 64 a).toNat=(a%18446744073709551616).toNat:=by simp[BitVec.toNat_ofInt]
 have h3:(BitVec.ofInt IntKind.i64.bits a &&& BitVec.ofInt IntKind.i64.bits 1073741823).toNat=(a%1073741824).toNat:=by
  show (BitVec.ofInt 64 a &&& BitVec.ofInt 64 1073741823).toNat=_;rw[BitVec.toNat_and,h1,Nat.and_two_pow_sub_one_eq_mod,h2];omega
 rw[h3];show IntKind.wrap .i64 _=_;rw[IntKind.wrap_i64];omega
def wval(w:Ci):Int:=w.high*1152921504606846976+w.middle*1073741824+w.low
structure Ara(w:Ci)(n z:Int):Prop where
 val:wval w=z
 high:-(n*288230376151711744)<=w.high/\w.high<=n*288230376151711744
 middle:-(n*1152921504606846976)<=w.middle/\w.middle<=n*1152921504606846976
 low:0<=w.low/\w.low<=n*1152921504606846976
theorem Ajj{w:Ci}{n z a b:Int}(h:Ara w n z)(hn0:0<=n)(hn:n<=2)(ha1:-576460752303423488<=a)(ha2:a<=576460752303423488)(hb1:-576460752303423488<=b)(hb2:b<=576460752303423488):
  ∃w',El w a b=some w'/\Ara w' (n+1) (z+a*b):=by
 obtain⟨h0,h1,h2,h3⟩:=h;unfold El;rw[Ayp,Ayp,Ayq,Ayq];have ea:a=a/1073741824*1073741824+a%1073741824:=oo;have eb:b=b/1073741824*1073741824+b%1073741824:=oo;have A1:-536870912<=a/1073741824/\a/1073741824<=536870912:=oo;have B1:-536870912<=b/1073741824/\b/1073741824<=536870912:=oo;have A0:0<=a%1073741824/\a%1073741824<=1073741824:=oo;have B0:0<=b%1073741824/\b%1073741824<=1073741824:=oo;generalize a/1073741824=a1 at *;generalize b/1073741824=b1 at *;generalize a%1073741824=a0 at *;generalize b%1073741824=b0 at *;have p1:=mulB (x:=a1) (y:=b1) (M:=536870912) (N:=536870912) oo oo oo oo oo;have p2:=mulB (x:=a1) (y:=b0) (M:=536870912) (N:=1073741824) oo oo oo oo oo;have p3:=mulB (x:=a0) (y:=b1) (M:=1073741824) (N:=536870912) oo oo oo oo oo;have p4:=mulB (x:=a0) (y:=b0) (M:=1073741824) (N:=1073741824) oo oo oo oo oo;have p5:0<=a0*b0:=Int.mul_nonneg A0.1 B0.1;have e:a*b=a1*b1*1152921504606846976+(a1*b0+a0*b1)*1073741824+a0*b0:=by
  rw[ea,eb];grind
 rw[Aq (x:=a1*b1) oo oo,Aq (x:=a1*b0) oo oo,Aq (x:=a0*b1) oo oo,Aq (x:=a0*b0) oo oo,
  Aq (x:=w.high+a1*b1) oo oo,Aq (x:=w.middle+a1*b0) oo oo,Aq oo oo,Aq oo oo]
 refine⟨_,rfl,?_,?_,?_,?_⟩
 .unfold wval at h0⊢;simp only;omega
 .simp only;omega
 .simp only;omega
 .simp only;omega
theorem Ajk(z:Int):Jx z=some (Int.sign z):=by
 unfold Jx
 by_cases h:z<0
 .rw[iP h,Int.sign_eq_neg_one_of_neg h]
 .rw[iN h]
  by_cases h2:0<z
  .rw[iP h2,Int.sign_eq_one_of_pos h2]
  .rw[iN h2,show z=0 by omega];rfl
theorem Avi{w:Ci}{z:Int}(h:Ara w 3 z):Jl w=some (Int.sign z):=by
 obtain⟨h0,h1,h2,h3⟩:=h;unfold Jl;simp only[Ayp,Ayq];have e1:w.low=w.low/1073741824*1073741824+w.low%1073741824:=oo;rw[Aq (x:=w.middle+w.low/1073741824) oo oo];have e2:w.middle+w.low/1073741824=(w.middle+w.low/1073741824)/1073741824*1073741824+(w.middle+w.low/1073741824)%1073741824:=oo;unfold wval at h0;have l0:0<=w.low%1073741824/\w.low%1073741824<1073741824:=oo;have m0:0<=(w.middle+w.low/1073741824)%1073741824/\(w.middle+w.low/1073741824)%1073741824<1073741824:=oo;have hb:-4611686018427387904<=w.high+(w.middle+w.low/1073741824)/1073741824/\w.high+(w.middle+w.low/1073741824)/1073741824<=4611686018427387904:=oo;have hz:z=(w.high+(w.middle+w.low/1073741824)/1073741824)*1152921504606846976+(w.middle+w.low/1073741824)%1073741824*1073741824+w.low%1073741824:=oo;clear e1 e2 h0 h1 h2 h3;rw[Aq (x:=w.high+(w.middle+w.low/1073741824)/1073741824) oo oo];generalize w.high+(w.middle+w.low/1073741824)/1073741824=H at *;generalize (w.middle+w.low/1073741824)%1073741824=M at *;generalize w.low%1073741824=L at *
 by_cases c:H=0
 .rw[iP c,Aq oo oo,Ajk,Ac];congr 1
  by_cases c2:M+L=0
  .rw[c2,show z=0 by omega]
  .rw[Int.sign_eq_one_of_pos oo,Int.sign_eq_one_of_pos oo]
 .rw[iN c,Ajk,Ac];congr 1
  by_cases c2:H<0
  .rw[Int.sign_eq_neg_one_of_neg c2,Int.sign_eq_neg_one_of_neg oo]
  .rw[Int.sign_eq_one_of_pos oo,Int.sign_eq_one_of_pos oo]
theorem Avj{a b c:Ab}(ha:okP a)(hb:okP b)(hc:okP c):Tv a b c=some (crs a b c):=Wi ha hb hc
theorem Aa2{a b c:Ab}(ha:okP a)(hb:okP b)(hc:okP c):Du a b c=some (Int.sign (crs a b c)):=by
 unfold Du;rw[Avj ha hb hc,Ac,Ajk,Ac]
theorem Arb{a b c d:Ab}(ha:okP a)(hb:okP b)(hc:okP c)(hd:okP d):Ot a b c d=some (Int.sign (inC a b c d)):=by
 have l1:=Ae7 ha hd;have l2:=Ae7 hb hd;have l3:=Ae7 hc hd;have c1:=Hp hd hb hc;have c2:=Hp hd hc ha;have c3:=Hp hd ha hb;obtain⟨w1,e1,i1⟩:=Ajj (w:=⟨0,0,0⟩) (n:=0) (z:=0) (a:=lft a d) (b:=crs d b c) ⟨rfl,s_,s_,s_⟩ oo oo oo oo oo oo;obtain⟨w2,e2,i2⟩:=Ajj (a:=lft b d) (b:=crs d c a) i1 oo oo oo oo oo oo;obtain⟨w3,e3,i3⟩:=Ajj (a:=lft c d) (b:=crs d a b) i2 oo oo oo oo oo oo;have x1:w64 (w64 (w64 (a.X-d.X)*w64 (a.X-d.X))+w64 (w64 (a.Y-d.Y)*w64 (a.Y-d.Y)))=lft a d:=oI (Adt ha hd);have x2:w64 (w64 (w64 (b.X-d.X)*w64 (b.X-d.X))+w64 (w64 (b.Y-d.Y)*w64 (b.Y-d.Y)))=lft b d:=oI (Adt hb hd);have x3:w64 (w64 (w64 (c.X-d.X)*w64 (c.X-d.X))+w64 (w64 (c.Y-d.Y)*w64 (c.Y-d.Y)))=lft c d:=oI (Adt hc hd);have y1:w64 (w64 (w64 (b.X-d.X)*w64 (c.Y-d.Y))-w64 (w64 (b.Y-d.Y)*w64 (c.X-d.X)))=crs d b c:=oI (Wi hd hb hc);have y2:w64 (w64 (w64 (c.X-d.X)*w64 (a.Y-d.Y))-w64 (w64 (c.Y-d.Y)*w64 (a.X-d.X)))=crs d c a:=oI (Wi hd hc ha);have y3:w64 (w64 (w64 (a.X-d.X)*w64 (b.Y-d.Y))-w64 (w64 (a.Y-d.Y)*w64 (b.X-d.X)))=crs d a b:=oI (Wi hd ha hb);unfold Ot;simp only[x1,x2,x3,y1,y2,y3,e1,Ac,e2,e3];rw[Avi (sV i3),Ac];simp[inC]
def befP(p q:Ab):Prop:=p.X<q.X\/p.X=q.X/\p.Y<q.Y
instance(p q:Ab):Decidable (befP p q):=by unfold befP;infer_instance
def Co(p q:Ab):Prop:=p.X=q.X/\p.Y=q.Y
instance(p q:Ab):Decidable (Co p q):=by unfold Co;infer_instance
theorem Afl{p q:Ab}(h:Co p q):p=q:=by
 obtain⟨x,y⟩:=p;obtain⟨x',y'⟩:=q;obtain⟨h1,h2⟩:=h;simp only at h1 h2;rw[h1,h2]
def Pd(a b:Ab):Ab:=if befP b a then b else a
theorem Ayr(a b:Ab):La a b=some (decide (befP a b)):=by
 unfold La jn befP;simp only
 by_cases h1:a.X<b.X
 .simp[h1]
 .by_cases h2:a.X=b.X
  .simp[h2]
  .simp[h1,h2]
theorem Atb(a:Ab):Ex a=some (decide (okP a)):=by
 unfold Ex;rw[jn_d]
 by_cases h1:-268435456<=a.X
 .rw[iP h1]
  by_cases h2:a.X<=268435456
  .rw[iP h2]
   by_cases h3:-268435456<=a.Y
   .rw[iP h3]
    by_cases h4:a.Y<=268435456
    .rw[dT h4,dT (show okP a by unfold okP;omega)]
    .rw[dF h4,dF (show ¬okP a by unfold okP;omega)]
   .rw[iN h3,dF (show ¬okP a by unfold okP;omega)]
  .rw[iN h2,dF (show ¬okP a by unfold okP;omega)]
 .rw[iN h1,dF (show ¬okP a by unfold okP;omega)]
theorem Arc(B:(Int × Int × Int)->Option (Sum (Int × Int × Int) (Int × Int)))(p q r:Ab)(hB:∀ x y i,B (x,y,i)=if i<3 then bnd (idx [p,q,r] i) fun z=>some (.inl ((Pd ⟨x,y⟩ z).X,(Pd ⟨x,y⟩ z).Y,w64 (i+1))) else some (.inr (x,y)))(x y:Int):
  lfix B (x,y,0)=some ((Pd (Pd (Pd ⟨x,y⟩ p) q) r).X,(Pd (Pd (Pd ⟨x,y⟩ p) q) r).Y):=by
 have w1:w64 (0+1)=1:=Aq oo oo;have w2:w64 (1+1)=2:=Aq oo oo;have w3:w64 (2+1)=3:=Aq oo oo;have i0:idx [p,q,r] 0=some p:=rfl;have i1:idx [p,q,r] 1=some q:=rfl;have i2:idx [p,q,r] 2=some r:=rfl;rw[Ay,hB,iP oo,i0,Ac,w1];simp only;rw[Ay,hB,iP oo,i1,Ac,w2];simp only;rw[Ay,hB,iP oo,i2,Ac,w3];simp only;rw[Ay,hB,iN oo]
theorem Avk{a b c d:Ab}(h1:¬ Co a c)(h2:¬ Co a d)(h3:¬ Co b c)(h4:¬ Co b d):
  (Co (Pd (Pd (Pd a b) c) d) c\/Co (Pd (Pd (Pd a b) c) d) d)↔((befP c a/\befP c b)\/(befP d a/\befP d b)):=by
 have key:∀p q:Ab,(befP q p/\Pd p q=q)\/(¬befP q p/\Pd p q=p):=fun p q=>by
  unfold Pd
  by_cases h:befP q p
  .exact .inl ⟨h,iP h⟩
  .exact .inr ⟨h,iN h⟩
 rcases key a b with⟨k1,e1⟩|⟨k1,e1⟩ <;> rw[e1]
 .rcases key b c with⟨k2,e2⟩|⟨k2,e2⟩ <;> rw[e2]
  .rcases key c d with⟨k3,e3⟩|⟨k3,e3⟩ <;> rw[e3] <;> unfold Co befP at * <;> omega
  .rcases key b d with⟨k3,e3⟩|⟨k3,e3⟩ <;> rw[e3] <;> unfold Co befP at * <;> omega
 .rcases key a c with⟨k2,e2⟩|⟨k2,e2⟩ <;> rw[e2]
  .rcases key c d with⟨k3,e3⟩|⟨k3,e3⟩ <;> rw[e3] <;> unfold Co befP at * <;> omega
  .rcases key a d with⟨k3,e3⟩|⟨k3,e3⟩ <;> rw[e3] <;> unfold Co befP at * <;> omega
def legP(a b c d:Ab):Prop:=Int.sign (crs a b c)*Int.sign (inC a b c d)<0\/Int.sign (crs a b c)*Int.sign (inC a b c d)=0/\((befP c a/\befP c b)\/(befP d a/\befP d b))
instance(a b c d:Ab):Decidable (legP a b c d):=by unfold legP;infer_instance
theorem Avl(a c:Ab):crs a c c=0:=by unfold crs;grind
theorem Hd(a b:Ab):crs a b a=0:=by unfold crs;grind
theorem Ce(a b:Ab):crs a b b=0:=by unfold crs;grind
theorem Aa3(a b:Ab):crs a a b=0:=by unfold crs;grind
theorem Ch(a b c:Ab):crs b a c = -crs a b c:=by unfold crs;grind
theorem Bu(a b c:Ab):crs b c a=crs a b c:=by unfold crs;grind
theorem Ays{a b c d:Ab}(ha:okP a)(hb:okP b)(hc:okP c)(hd:okP d)(h1:¬Co a c)(h2:¬Co a d)(h3:¬Co b c)(h4:¬Co b d):Wy a b c d=some (decide (legP a b c d)):=by
 unfold Wy;rw[Aww,iP ⟨ha,hb,hc,hd⟩,Ac];have e:(if crs a b c=0 then ((0:Int),(12:Int)) else (Int.sign (crs a b c)*Int.sign (inC a b c d),0)).1=Int.sign (crs a b c)*Int.sign (inC a b c d):=by
  split
  .rename_i h;rw[h];simp
  .rfl
 rw[e]
 by_cases h0:Int.sign (crs a b c)*Int.sign (inC a b c d)=0
 .rw[iP h0,jn_d,Arc _ b c d (fun x y i=>?_),Ac]
  .dsimp only;rw[jn_d];have hl:=Avk h1 h2 h3 h4
   by_cases hcc:Co (Pd (Pd (Pd a b) c) d) c
   .have:legP a b c d:=.inr ⟨h0,hl.1 (.inl hcc)⟩;rw[iP (by simpa[Co] using hcc),dT this]
   .rw[iN (by simpa[Co] using hcc)];congr 1;rw[Bool.eq_iff_iff];simp only[Bool.and_true,Bool.and_eq_true,beq_iff_eq,dQ];unfold legP;constructor
    .intro h;exact .inr ⟨h0,hl.1 (.inr h)⟩
    .rintro (h|⟨_,h⟩)
     .omega
     .exact (hl.2 h).resolve_left hcc
  .unfold Aam;simp only;split
   .refine congrArg (bnd _) (funext fun z=>?_);rw[Ayr,Ac];unfold Pd
    by_cases hb:befP z ⟨x,y⟩
    .rw[iP (sV hb),iP hb]
    .rw[iN (sV hb),iN hb]
   .rfl
 .rw[iN h0];congr 1;rw[Bool.eq_iff_iff];simp only[dQ];unfold legP;constructor
  .intro h;exact .inl h
  .rintro (h|⟨h,_⟩)
   .exact h
   .exact absurd h h0
theorem Agj{x y:Int}:Int.sign x*Int.sign y = -1↔(x<0/\0<y)\/(0<x/\y<0):=by
 rcases Int.lt_trichotomy x 0 with h|h|h <;> rcases Int.lt_trichotomy y 0 with h'|h'|h'
 all_goals first
  |(rw[Int.sign_eq_neg_one_of_neg h];try rw[Int.sign_eq_neg_one_of_neg h'])
  |(rw[Int.sign_eq_one_of_pos h];try rw[Int.sign_eq_neg_one_of_neg h'])
  |(rw[h])
 all_goals try rw[Int.sign_eq_one_of_pos h']
 all_goals try rw[h']
 all_goals simp
 all_goals omega
theorem Ao1{x y:Int}:w64 (Int.sign x*Int.sign y)=Int.sign x*Int.sign y:=by
 apply Aq
 .rcases Int.sign_trichotomy x with h|h|h <;> rcases Int.sign_trichotomy y with h'|h'|h' <;> simp[h,h']
 .rcases Int.sign_trichotomy x with h|h|h <;> rcases Int.sign_trichotomy y with h'|h'|h' <;> simp[h,h']
theorem Am2{x y:Int}:0<=Int.sign x*Int.sign y↔¬Int.sign x*Int.sign y = -1:=by
 rcases Int.sign_trichotomy x with h|h|h <;> rcases Int.sign_trichotomy y with h'|h'|h' <;> simp[h,h']
theorem Am3{a b c d:Ab}(h:Int.sign (crs a b c)*Int.sign (crs a b d) = -1):¬Co a c/\¬Co a d/\¬Co b c/\¬Co b d:=by
 rw[Agj] at h;refine⟨fun e=>?_,fun e=>?_,fun e=>?_,fun e=>?_⟩ <;> (have:=Afl e;subst this;simp only[Avl,Hd,Ce] at h;omega)
def Dt(ha hb hc hd:Int)(a b c d:Ab):Int:=ha*crs b c d+hb*crs c a d+hc*crs a b d-hd*crs a b c
def plt(ha hb hc:Int)(a b c x:Ab):Int:=ha*crs b c x+hb*crs c a x+hc*crs a b x
def sq(p:Ab):Int:=p.X*p.X+p.Y*p.Y
theorem Bfa(a b c d:Ab):inC a b c d=Dt (sq a) (sq b) (sq c) (sq d) a b c d:=by unfold inC Dt lft sq crs;grind
theorem Ajl(ha hb hc hd:Int)(a b c d:Ab):Dt ha hb hc hd a b c d=plt ha hb hc a b c d-hd*crs a b c:=rfl
theorem Aa4(a b c d:Ab):crs a b c=crs b c d+crs c a d+crs a b d:=by unfold crs;grind
theorem Am4(a b c q r u:Ab):crs b c u*crs q r a+crs c a u*crs q r b+crs a b u*crs q r c=crs a b c*crs q r u:=by unfold crs;grind
theorem Aem(hp hq hr:Int)(a b c p q r u:Ab):crs b c u*plt hp hq hr p q r a+crs c a u*plt hp hq hr p q r b+crs a b u*plt hp hq hr p q r c=crs a b c*plt hp hq hr p q r u:=by
 have h1:=Am4 a b c q r u;have h2:=Am4 a b c r p u;have h3:=Am4 a b c p q u;unfold plt;grind
theorem Abo(ha hb hc hd:Int)(a b c d x:Ab):plt hb ha hd b a d x*crs a b c-plt ha hb hc a b c x*crs b a d=Dt ha hb hc hd a b c d*crs a b x:=by
 unfold plt Dt crs;grind
theorem Bb3(ha hb hc hd:Int)(a b c d:Ab):Dt hb ha hc hd b a c d = -Dt ha hb hc hd a b c d:=by unfold Dt crs;grind
theorem Bfb(ha hb hc hd:Int)(a b c d:Ab):Dt hb hc ha hd b c a d=Dt ha hb hc hd a b c d:=by unfold Dt crs;grind
theorem Ao2(ha hb hc hd:Int)(a b c d:Ab):Dt ha hb hd hc a b d c = -Dt ha hb hc hd a b c d:=by unfold Dt crs;grind
theorem Am5(ha hb hc:Int)(a b c x:Ab):plt hb hc ha b c a x=plt ha hb hc a b c x:=by unfold plt;grind
theorem Ayt(ha hb hc:Int)(a b c:Ab):plt ha hb hc a b c a=ha*crs a b c:=by unfold plt crs;grind
theorem Atc(ha hb hc:Int)(a b c:Ab):plt ha hb hc a b c b=hb*crs a b c:=by unfold plt crs;grind
theorem Atd(ha hb hc:Int)(a b c:Ab):plt ha hb hc a b c c=hc*crs a b c:=by unfold plt crs;grind
theorem Bfc(a b c d:Ab):inC a b c d=lft a b*crs b c d+lft c b*crs a b d-lft d b*crs a b c:=by unfold inC lft crs;grind
theorem Am6{p q:Ab}(h:¬Co p q):0<lft p q:=by
 unfold lft;have h1:0<=(p.X-q.X)*(p.X-q.X):=by rw[<-Int.natAbs_mul_self];omega
 have h2:0<=(p.Y-q.Y)*(p.Y-q.Y):=by rw[<-Int.natAbs_mul_self];omega
 by_cases hx:p.X=q.X
 .have hy:p.Y-q.Y≠0:=fun e=>h ⟨hx,oo⟩
  have:0<(p.Y-q.Y)*(p.Y-q.Y):=by
   rcases Int.lt_or_gt_of_ne hy with g|g
   .exact Int.mul_pos_of_neg_of_neg g g
   .exact Int.mul_pos g g
  omega
 ·have hx':p.X-q.X≠0:=oo;have:0<(p.X-q.X)*(p.X-q.X):=by
   rcases Int.lt_or_gt_of_ne hx' with g|g
   .exact Int.mul_pos_of_neg_of_neg g g
   .exact Int.mul_pos g g
  omega
theorem Abp(p q:Ab):0<=lft p q:=by
 unfold lft;have h1:0<=(p.X-q.X)*(p.X-q.X):=by rw[<-Int.natAbs_mul_self];omega
 have h2:0<=(p.Y-q.Y)*(p.Y-q.Y):=by rw[<-Int.natAbs_mul_self];omega
 omega
theorem Ajm{a b c d:Ab}(h1:0<crs a b c)(h2:crs a b d<0)(h3:crs b c d<=0):inC a b c d<0:=by
 have hd:¬Co d b:=fun e=>by
  have:=Afl e;subst this;simp only[Ce] at h2;omega
 rw[Bfc];have e1:lft a b*crs b c d<=0:=Int.mul_nonpos_of_nonneg_of_nonpos (Abp a b) h3;have e2:lft c b*crs a b d<=0:=Int.mul_nonpos_of_nonneg_of_nonpos (Abp c b) oo;have e3:0<lft d b*crs a b c:=Int.mul_pos (Am6 hd) h1;omega
theorem Acp{a b c d:Ab}(h1:0<crs a b c)(h2:crs a b d<0)(h3:crs c a d<=0):inC a b c d<0:=by
 have e:inC a b c d=lft b a*crs c a d+lft c a*crs a b d-lft d a*crs a b c:=by unfold inC lft crs;grind
 have hd:¬Co d a:=fun e=>by
  have:=Afl e;subst this;simp only[Hd] at h2;omega
 rw[e];have e1:lft b a*crs c a d<=0:=Int.mul_nonpos_of_nonneg_of_nonpos (Abp b a) h3;have e2:lft c a*crs a b d<=0:=Int.mul_nonpos_of_nonneg_of_nonpos (Abp c a) oo;have e3:0<lft d a*crs a b c:=Int.mul_pos (Am6 hd) h1;omega
theorem Ajn{a b c x y z:Int}(hx:0<x)(hy:0<y)(hz:0<z)(h1:a*y<b*x)(h2:b*z<c*y):a*z<c*x:=by
 have h3:=Int.mul_lt_mul_of_pos_right h1 hz;have h4:=Int.mul_lt_mul_of_pos_right h2 hx;have h5:y*(a*z)<y*(c*x):=by
  have e1:y*(a*z)=a*y*z:=by grind
  have e2:b*x*z=b*z*x:=by grind
  have e3:y*(c*x)=c*y*x:=by grind
  rw[e1,e3];rw[e2] at h3;exact Int.lt_trans h3 h4
 exact Int.lt_of_mul_lt_mul_left h5 (Int.le_of_lt hy)
theorem Agk{α:Type}{p q:α->Bool}{x:α}:∀{l:List α},(∀y∈l,p y=true->q y=true)->x∈l->q x=true->p x=false->l.countP p<l.countP q
 |[],_,hx,_,_=>by cases hx
 |y::r,h',hx,hq,hp=>by
  have h:=h' y mS;have h2:∀z∈r,p z=true->q z=true:=fun z hz=>h' z (mO _ hz)
  have hle:r.countP p<=r.countP q:=countP_mono_left h2;rw[countP_cons,countP_cons];rcases mem_cons.1 hx with rfl|hx
  .rw[hq,hp];simp;omega
  .have:=Agk h2 hx hq hp
   by_cases c:p y=true
   .rw[iP c,iP (h c)];omega
   .rw[iN c];split <;> omega
def c3(a b p q r:Ab):Int:=crs a b p+crs a b q+crs a b r
def p3(ha hb hc:Int)(a b c p q r:Ab):Int:=plt ha hb hc a b c p+plt ha hb hc a b c q+plt ha hb hc a b c r
theorem Avm(ha hb hc hd:Int)(a b c d p q r:Ab):p3 hb ha hd b a d p q r*crs a b c-p3 ha hb hc a b c p q r*crs b a d=Dt ha hb hc hd a b c d*c3 a b p q r:=by
 have h1:=Abo ha hb hc hd a b c d p;have h2:=Abo ha hb hc hd a b c d q;have h3:=Abo ha hb hc hd a b c d r;unfold p3 c3;grind
theorem Ayu(ha hb hc:Int)(a b c p q r:Ab):p3 hb hc ha b c a p q r=p3 ha hb hc a b c p q r:=by unfold p3;rw[Am5 ha hb hc a b c p,Am5 ha hb hc a b c q,Am5 ha hb hc a b c r]
abbrev T3:=Int×Int×Int
variable {P:Int->Ab}{H:Int->Int}
def Ajo(P:Int->Ab)(t:T3):Int:=crs (P t.1) (P t.2.1) (P t.2.2)
def hgt3(P:Int->Ab)(H:Int->Int)(t:T3)(p q r:Ab):Int:=p3 (H t.1) (H t.2.1) (H t.2.2) (P t.1) (P t.2.1) (P t.2.2) p q r
def Acq(P:Int->Ab)(H:Int->Int)(p q r:Ab)(t s:T3):Prop:=hgt3 P H t p q r*Ajo P s<hgt3 P H s p q r*Ajo P t
instance(p q r:Ab)(t s:T3):Decidable (Acq P H p q r t s):=by unfold Acq;infer_instance
def DH(P:Int->Ab)(H:Int->Int)(a b c d:Int):Int:=Dt (H a) (H b) (H c) (H d) (P a) (P b) (P c) (P d)
structure Ajp(P:Int->Ab)(X:List T3):Prop where
 rot:∀a b c,(a,b,c)∈X->(b,c,a)∈X
 ccw:∀a b c,(a,b,c)∈X->0<crs (P a) (P b) (P c)
theorem walk{X:List T3}(hX:Ajp P X)(p q r:Ab)(step:∀ a b c,(a,b,c)∈X->c3 (P a) (P b) p q r<0->∃ d,(b,a,d)∈X/\DH P H a b c d<0):
  ∀t∈X,∃s∈X,0<=c3 (P s.1) (P s.2.1) p q r/\0<=c3 (P s.2.1) (P s.2.2) p q r/\0<=c3 (P s.2.2) (P s.1) p q r/\(s=t\/Acq P H p q r t s):=by
 have key:∀(n:Nat) (t:T3),t∈X->X.countP (fun s=>decide (Acq P H p q r t s))=n->∃s∈X,0<=c3 (P s.1) (P s.2.1) p q r/\0<=c3 (P s.2.1) (P s.2.2) p q r/\0<=c3 (P s.2.2) (P s.1) p q r/\(s=t\/Acq P H p q r t s):=by
  intro n
  induction n using Nat.strongRecOn with
  |ind n ih=>
   intro t ht hn;have go:∀ t':T3,t'∈X->hgt3 P H t' p q r=hgt3 P H t p q r->Ajo P t'=Ajo P t->c3 (P t'.1) (P t'.2.1) p q r<0 ->
     ∃s∈X,0<=c3 (P s.1) (P s.2.1) p q r/\0<=c3 (P s.2.1) (P s.2.2) p q r/\0<=c3 (P s.2.2) (P s.1) p q r/\(s=t\/Acq P H p q r t s):=by
    rintro⟨a,b,c⟩ h1 h2 h3 h4;obtain⟨d,h5,h6⟩:=step a b c h1 h4;have hb:Acq P H p q r t (b,a,d):=by
     unfold Acq;rw[<-h2,<-h3];have e:=Avm (H a) (H b) (H c) (H d) (P a) (P b) (P c) (P d) p q r;have:0<Dt (H a) (H b) (H c) (H d) (P a) (P b) (P c) (P d)*c3 (P a) (P b) p q r:=Int.mul_pos_of_neg_of_neg h6 h4;show p3 _ _ _ _ _ _ p q r*crs _ _ _<p3 _ _ _ _ _ _ p q r*crs _ _ _;simp only;omega
    have hpos:∀u∈X,0<Ajo P u:=fun u hu=>hX.ccw u.1 u.2.1 u.2.2 hu
    have hlt:X.countP (fun s=>decide (Acq P H p q r (b,a,d) s))<n:=by
     rw[<-hn];refine Agk (x:=(b,a,d)) (fun y hy hb2=>?_) h5 (sV hb) (by simp[Acq]);rw[dQ] at hb2⊢;exact Ajn (hpos t ht) (hpos _ h5) (hpos y hy) hb hb2
    obtain⟨s,k1,k2,k3,k4,k5⟩:=ih _ hlt (b,a,d) h5 rfl;refine⟨s,k1,k2,k3,k4,.inr ?_⟩;rcases k5 with rfl|k5
    .exact hb
    .exact Ajn (hpos t ht) (hpos _ h5) (hpos s k1) hb k5
   obtain⟨a,b,c⟩:=t
   by_cases g1:c3 (P a) (P b) p q r<0
   .exact go (a,b,c) ht rfl rfl g1
   .by_cases g2:c3 (P b) (P c) p q r<0
    .exact go (b,c,a) (hX.rot _ _ _ ht) (Ayu _ _ _ _ _ _ _ _ _) (Bu _ _ _) g2
    .by_cases g3:c3 (P c) (P a) p q r<0
     .exact go (c,a,b) (hX.rot _ _ _ (hX.rot _ _ _ ht)) (by unfold hgt3;rw[<-Ayu]) (by unfold Ajo;rw[<-Bu]) g3
     .exact⟨(a,b,c),ht,by simp only;omega,by simp only;omega,by simp only;omega,.inl rfl⟩
 exact fun t ht=>key _ t ht rfl
end
section
variable {P:Int->Ab}{H:Int->Int}{V:Int->Prop}
theorem Aen{a b c d:Int}(hd:d≠a->d≠b->d≠c->DH P H a b c d<0):plt (H a) (H b) (H c) (P a) (P b) (P c) (P d)<=H d*crs (P a) (P b) (P c)/\(d≠a->d≠b->d≠c->plt (H a) (H b) (H c) (P a) (P b) (P c) (P d)<H d*crs (P a) (P b) (P c)):=by
 have key:d≠a->d≠b->d≠c->plt (H a) (H b) (H c) (P a) (P b) (P c) (P d)<H d*crs (P a) (P b) (P c):=fun h1 h2 h3=>by
  have:=hd h1 h2 h3;unfold DH at this;rw[Ajl] at this;omega
 refine⟨?_,key⟩
 by_cases h1:d=a
 .subst h1;rw[Ayt];exact Int.le_refl _
 .by_cases h2:d=b
  .subst h2;rw[Atc];exact Int.le_refl _
  .by_cases h3:d=c
   .subst h3;rw[Atd];exact Int.le_refl _
   .exact Int.le_of_lt (key h1 h2 h3)
theorem global{X:List T3}(hX:Ajp P X)(emp:∀ a b c,(a,b,c)∈X->∀ d,V d->d≠a->d≠b->d≠c->crs (P a) (P b) (P d)<0\/crs (P b) (P c) (P d)<0\/crs (P c) (P a) (P d)<0)(leg:∀ a b c,(a,b,c)∈X->∀ d,V d->crs (P a) (P b) (P d)<0->∃ e,(b,a,e)∈X/\DH P H a b c e<0):
  ∀a b c,(a,b,c)∈X->∀d,V d->d≠a->d≠b->d≠c->DH P H a b c d<0:=by
 intro a b c ht d hd h1 h2 h3;have c3d:∀x y,c3 x y (P d) (P d) (P d)=3*crs x y (P d):=fun x y=>by unfold c3;omega
 obtain⟨⟨x,y,z⟩,hs,g1,g2,g3,g4⟩:=walk (H:=H) hX (P d) (P d) (P d) (fun a b c h hc=>leg a b c h d hd (by rw[c3d] at hc;omega)) (a,b,c) ht;simp only[c3d] at g1 g2 g3;rcases g4 with e|hb
 .cases e
  rcases emp a b c ht d hd h1 h2 h3 with h|h|h <;> omega
 ·have hτ:=hX.ccw _ _ _ ht;have hσ:=hX.ccw _ _ _ hs;have hp:plt (H x) (H y) (H z) (P x) (P y) (P z) (P d)=H d*crs (P x) (P y) (P z):=by
   by_cases k1:d=x
   .subst k1;rw[Ayt]
   .by_cases k2:d=y
    .subst k2;rw[Atc]
    .by_cases k3:d=z
     .subst k3;rw[Atd]
     .rcases emp x y z hs d hd k1 k2 k3 with h|h|h <;> omega
  unfold Acq hgt3 Ajo p3 at hb;simp only[hp] at hb;have h4:(plt (H a) (H b) (H c) (P a) (P b) (P c) (P d)*3)*crs (P x) (P y) (P z)<(H d*crs (P a) (P b) (P c)*3)*crs (P x) (P y) (P z):=by
   have e1:(plt (H a) (H b) (H c) (P a) (P b) (P c) (P d)*3)*crs (P x) (P y) (P z)=(plt (H a) (H b) (H c) (P a) (P b) (P c) (P d)+plt (H a) (H b) (H c) (P a) (P b) (P c) (P d)+plt (H a) (H b) (H c) (P a) (P b) (P c) (P d))*crs (P x) (P y) (P z):=by grind
   have e2:(H d*crs (P a) (P b) (P c)*3)*crs (P x) (P y) (P z)=(H d*crs (P x) (P y) (P z)+H d*crs (P x) (P y) (P z)+H d*crs (P x) (P y) (P z))*crs (P a) (P b) (P c):=by grind
   rw[e1,e2];exact hb
  have h5:=Int.lt_of_mul_lt_mul_right h4 (Int.le_of_lt hσ);unfold DH;rw[Ajl];omega
theorem Abq{a b c:Int}(h:crs (P a) (P b) (P c)≠0):a≠b/\b≠c/\c≠a:=by
 refine⟨fun e=>?_,fun e=>?_,fun e=>?_⟩
 .subst e;exact h (Aa3 _ _)
 .subst e;exact h (Ce _ _)
 .subst e;exact h (Hd _ _)
theorem Ajq{X:List T3}(hX:Ajp P X)(hV:∀a b c,(a,b,c)∈X->V a/\V b/\V c)(empX:∀a b c,(a,b,c)∈X->∀d,V d->d≠a->d≠b->d≠c->DH P H a b c d<0)(step:∀a b c,(a,b,c)∈X->∀d,V d->crs (P a) (P b) (P d)<0->∃e,(b,a,e)∈X)(hne:X≠[]){p q r:Int}(hp:V p)(hq:V q)(hr:V r)(hs:0<crs (P p) (P q) (P r))(hemp:∀d,V d->d≠p->d≠q->d≠r->DH P H p q r d<0):(p,q,r)∈X:=by
 obtain⟨t0,ht0⟩:=exists_mem_of_ne_nil X hne;obtain⟨⟨a,b,c⟩,ht,g1,g2,g3,_⟩:=walk (H:=H) hX (P p) (P q) (P r) (fun a b c h hc=>by
  have hτ:=hX.ccw _ _ _ h;obtain⟨e,he⟩:∃e,(b,a,e)∈X:=by
   unfold c3 at hc
   by_cases k1:crs (P a) (P b) (P p)<0
   .exact step a b c h p hp k1
   .by_cases k2:crs (P a) (P b) (P q)<0
    .exact step a b c h q hq k2
    .exact step a b c h r hr oo
  refine⟨e,he,empX a b c h e (hV _ _ _ he).2.2 ?_ ?_ ?_⟩
  .exact (Abq (P:=P) (a:=b) (b:=a) (c:=e) (by have:=hX.ccw _ _ _ he;omega)).2.1.symm
  .exact (Abq (P:=P) (a:=b) (b:=a) (c:=e) (by have:=hX.ccw _ _ _ he;omega)).2.2
  .intro k;subst k;have h1:=hX.ccw _ _ _ he;rw[Ch] at h1;omega) t0 ht0
 simp only at g1 g2 g3;have hτ:=hX.ccw _ _ _ ht;obtain⟨va,vb,vc⟩:=hV _ _ _ ht;have P1:=Aen (P:=P) (H:=H) (empX a b c ht p hp);have P2:=Aen (P:=P) (H:=H) (empX a b c ht q hq);have P3:=Aen (P:=P) (H:=H) (empX a b c ht r hr);have Q1:=(Aen (P:=P) (H:=H) (hemp a va)).1;have Q2:=(Aen (P:=P) (H:=H) (hemp b vb)).1;have Q3:=(Aen (P:=P) (H:=H) (hemp c vc)).1;have e1:c3 (P b) (P c) (P p) (P q) (P r)*plt (H p) (H q) (H r) (P p) (P q) (P r) (P a)+c3 (P c) (P a) (P p) (P q) (P r)*plt (H p) (H q) (H r) (P p) (P q) (P r) (P b)+c3 (P a) (P b) (P p) (P q) (P r)*plt (H p) (H q) (H r) (P p) (P q) (P r) (P c)
   = crs (P a) (P b) (P c)*((H p+H q+H r)*crs (P p) (P q) (P r)):=by
  have i1:=Aem (H p) (H q) (H r) (P a) (P b) (P c) (P p) (P q) (P r) (P p);have i2:=Aem (H p) (H q) (H r) (P a) (P b) (P c) (P p) (P q) (P r) (P q);have i3:=Aem (H p) (H q) (H r) (P a) (P b) (P c) (P p) (P q) (P r) (P r);rw[Ayt] at i1;rw[Atc] at i2;rw[Atd] at i3;unfold c3;grind
 have e2:plt (H a) (H b) (H c) (P a) (P b) (P c) (P p)+plt (H a) (H b) (H c) (P a) (P b) (P c) (P q)+plt (H a) (H b) (H c) (P a) (P b) (P c) (P r)=H a*c3 (P b) (P c) (P p) (P q) (P r)+H b*c3 (P c) (P a) (P p) (P q) (P r)+H c*c3 (P a) (P b) (P p) (P q) (P r):=by unfold plt c3;grind
 have m1:=Int.mul_le_mul_of_nonneg_left Q1 g2;have m2:=Int.mul_le_mul_of_nonneg_left Q2 g3;have m3:=Int.mul_le_mul_of_nonneg_left Q3 g1;generalize hF:plt (H a) (H b) (H c) (P a) (P b) (P c) (P p)+plt (H a) (H b) (H c) (P a) (P b) (P c) (P q)+plt (H a) (H b) (H c) (P a) (P b) (P c) (P r)=F at *;have hge:(H p+H q+H r)*crs (P a) (P b) (P c)<=F:=by
  have:crs (P p) (P q) (P r)*((H p+H q+H r)*crs (P a) (P b) (P c))<=crs (P p) (P q) (P r)*F:=by
   have e3:crs (P p) (P q) (P r)*F=c3 (P b) (P c) (P p) (P q) (P r)*(H a*crs (P p) (P q) (P r))+c3 (P c) (P a) (P p) (P q) (P r)*(H b*crs (P p) (P q) (P r))+c3 (P a) (P b) (P p) (P q) (P r)*(H c*crs (P p) (P q) (P r)):=by rw[e2];grind
   have e4:crs (P p) (P q) (P r)*((H p+H q+H r)*crs (P a) (P b) (P c))=crs (P a) (P b) (P c)*((H p+H q+H r)*crs (P p) (P q) (P r)):=by grind
   rw[e3,e4];omega
  exact Int.le_of_mul_le_mul_left this hs
 have hsum:(H p+H q+H r)*crs (P a) (P b) (P c)=H p*crs (P a) (P b) (P c)+H q*crs (P a) (P b) (P c)+H r*crs (P a) (P b) (P c):=by grind
 have in1:p=a\/p=b\/p=c:=by
  by_cases k1:p=a
  .exact .inl k1
  .by_cases k2:p=b
   .exact .inr (.inl k2)
   .by_cases k3:p=c
    .exact .inr (.inr k3)
    .have:=P1.2 k1 k2 k3;omega
 have in2:q=a\/q=b\/q=c:=by
  by_cases k1:q=a
  .exact .inl k1
  .by_cases k2:q=b
   .exact .inr (.inl k2)
   .by_cases k3:q=c
    .exact .inr (.inr k3)
    .have:=P2.2 k1 k2 k3;omega
 have in3:r=a\/r=b\/r=c:=by
  by_cases k1:r=a
  .exact .inl k1
  .by_cases k2:r=b
   .exact .inr (.inl k2)
   .by_cases k3:r=c
    .exact .inr (.inr k3)
    .have:=P3.2 k1 k2 k3;omega
 obtain⟨d1,d2,d3⟩:=Abq (P:=P) (a:=p) (b:=q) (c:=r) oo;have o1:crs (P b) (P a) (P c) = -crs (P a) (P b) (P c):=Ch _ _ _;have o2:crs (P a) (P c) (P b) = -crs (P a) (P b) (P c):=by unfold crs;grind
 have o3:crs (P c) (P b) (P a) = -crs (P a) (P b) (P c):=by rw[Ch,Bu]
 rcases in1 with rfl|rfl|rfl <;> rcases in2 with rfl|rfl|rfl <;> rcases in3 with rfl|rfl|rfl
 all_goals first
  |exact absurd rfl d1
  |exact absurd rfl d2
  |exact absurd rfl d3
  |exact ht
  |exact hX.rot _ _ _ ht
  |exact hX.rot _ _ _ (hX.rot _ _ _ ht)
  |omega
end
section
theorem Xk(s a b c d:Ab):crs s a b*crs s c d-crs s a c*crs s b d+crs s a d*crs s b c=0:=by unfold crs;grind
theorem Vl{x y:Int}(h:0<x*y)(hx:0<x):0<y:=by
 rcases Int.lt_or_le 0 y with g|g
 .exact g
 .have:=Int.mul_nonpos_of_nonneg_of_nonpos (Int.le_of_lt hx) g;omega
theorem Yg{x y:Int}(h:0<=x*y)(hx:0<x):0<=y:=by
 rcases Int.lt_or_le y 0 with g|g
 .have:=Int.mul_neg_of_pos_of_neg hx g;omega
 .exact g
theorem Bv(s a b:Ab):crs s b a = -crs s a b:=by unfold crs;grind
theorem Acr{s a b l i:Ab}(h1:0<crs s a l)(h2:0<crs s l b)(h3:0<crs s a b)(h4:0<crs s a i)(h5:0<crs s i l):0<crs s i b:=by
 have h:=Xk s a l i b;rw[Bv s i l] at h;have e1:0<crs s a i*crs s l b:=Int.mul_pos h4 h2;have e2:0<crs s a b*crs s i l:=Int.mul_pos h3 h5;have e3:crs s a b * -crs s i l = -(crs s a b*crs s i l):=Int.mul_neg _ _;exact Vl (x:=crs s a l) oo h1
theorem Am7{s a b l j:Ab}(h1:0<crs s a l)(h2:0<crs s l b)(h3:0<crs s a b)(h4:0<crs s j b)(h5:0<crs s l j):0<crs s a j:=by
 have h:=Xk s a j l b;have e1:0<crs s a l*crs s j b:=Int.mul_pos h1 h4;have e2:0<crs s a b*crs s l j:=Int.mul_pos h3 h5;have e3:crs s a b*crs s j l = -(crs s a b*crs s l j):=by rw[Bv s l j,Int.mul_neg]
 exact Vl (x:=crs s l b) (by rw[Int.mul_comm];omega) h2
theorem Ajr{s j m l w:Ab}(h0:crs s j m=0)(h1:0<crs s j l)(h2:0<crs s m l)(h3:0<crs s m w):0<crs s j w:=by
 have h:=Xk s j l m w;rw[h0,Bv s m l] at h;have e1:0<crs s j l*crs s m w:=Int.mul_pos h1 h3;have e2:crs s j w * -crs s m l = -(crs s m l*crs s j w):=by rw[Int.mul_neg,Int.mul_comm]
 exact Vl (x:=crs s m l) oo h2
theorem Avn{s j m l w:Ab}(h0:crs s j m=0)(h1:0<crs s l j)(h2:0<crs s l m)(h3:0<crs s w m):0<crs s w j:=by
 have h:=Xk s l j w m;have e0:crs s j m=0:=h0;have e1:0<crs s l j*crs s w m:=Int.mul_pos h1 h3;have e2:crs s l m*crs s j w = -(crs s l m*crs s w j):=by rw[Bv s w j,Int.mul_neg]
 rw[e0,Int.mul_zero] at h;exact Vl (x:=crs s l m) oo h2
theorem Ayv{s a i b j:Ab}(h0:crs s a i=0)(h1:0<crs s a b)(h2:0<crs s i b)(h3:0<crs s i j)(h4:0<crs s a j):
  (0<=crs a b i/\0<=crs b s i)\/(0<=crs i j a/\0<=crs j s a):=by
 have hp:=Xk s a b i j;rw[h0,Bv s i b] at hp;have s1:=Aa4 s a b i;have s2:=Aa4 s i j a;have r1:crs b s i=crs s i b:=by unfold crs;grind
 have r2:crs j s a=crs s a j:=by unfold crs;grind
 have r3:crs s i a=0:=by rw[Bv,h0];rfl
 by_cases c:crs s i b<=crs s a b
 .left;omega
 ·right;have:crs s a j<=crs s i j:=by
   rcases Int.lt_or_le (crs s i j) (crs s a j) with g|g
   .have e1:=Int.mul_lt_mul_of_pos_left g h1;have e2:=Int.mul_lt_mul_of_pos_right (oo:crs s a b<crs s i b) h4;have e3:crs s a j * -crs s i b = -(crs s i b*crs s a j):=by rw[Int.mul_neg,Int.mul_comm]
    have e4:crs s a b*crs s a j=crs s a b*crs s a j:=rfl;omega
   .exact g
  omega
theorem Bb4{s a i b j:Ab}(h0:crs s a i=0)(h1:0<crs s b a)(h2:0<crs s b i)(h3:0<crs s j i)(h4:0<crs s j a):
  (0<=crs b a i/\0<=crs s b i)\/(0<=crs j i a/\0<=crs s j a):=by
 have hp:=Xk s b a j i;rw[h0,Bv s j a,Int.mul_zero] at hp;have s1:=Aa4 s b a i;have s2:=Aa4 s j i a;have r1:crs a s i=0:=by rw[Ch,h0];rfl
 have r2:crs i s a=0:=by rw[Ch,Bv,h0];rfl
 by_cases c:crs s b i<=crs s b a
 .left;omega
 ·right;have:crs s j a<=crs s j i:=by
   rcases Int.lt_or_le (crs s j i) (crs s j a) with g|g
   .have e1:=Int.mul_lt_mul_of_pos_left g h1;have e2:=Int.mul_lt_mul_of_pos_right (oo:crs s b a<crs s b i) h4;have e3:crs s b i * -crs s j a = -(crs s b i*crs s j a):=Int.mul_neg _ _;omega
   .exact g
  omega
abbrev Ap:=Int->Int->Option Int
structure Tri(P:Int->Ab)(V:Int->Prop)(ap:Ap):Prop where
 rot:∀i j k,ap i j=some k->ap j k=some i
 ccw:∀i j k,ap i j=some k->V i/\V j/\V k/\0<crs (P i) (P j) (P k)
 emp:∀i j k,ap i j=some k->∀d,V d->d≠i->d≠j->d≠k->crs (P i) (P j) (P d)<0\/crs (P j) (P k) (P d)<0\/crs (P k) (P i) (P d)<0
 cone:∀s a b m,ap s a=some b->(ap s m≠none\/ap m s≠none)->¬(0<crs (P s) (P a) (P m)/\0<crs (P s) (P m) (P b))
variable {P:Int->Ab}{H:Int->Int}{V:Int->Prop}{ap:Ap}
theorem Tri.rot2(h:Tri P V ap){i j k}(hk:ap i j=some k):ap k i=some j:=h.rot _ _ _ (h.rot _ _ _ hk)
theorem Tri.ne(h:Tri P V ap){i j k}(hk:ap i j=some k):i≠j/\j≠k/\k≠i:=Abq (P:=P) (by have:=(h.ccw _ _ _ hk).2.2.2;omega)
theorem Tri.nbr(h:Tri P V ap){s m}(hm:ap s m≠none\/ap m s≠none):(∃w,ap s m=some w)\/∃w,ap s w=some m:=by
 rcases hm with hm|hm
 .obtain⟨w,hw⟩:=Option.ne_none_iff_exists'.1 hm;exact .inl ⟨w,hw⟩
 .obtain⟨w,hw⟩:=Option.ne_none_iff_exists'.1 hm;exact .inr ⟨w,h.rot _ _ _ hw⟩
theorem Tri.cones(h:Tri P V ap){s a b i j:Int}{l:Ab}(h1:ap s a=some b)(h2:ap s i=some j)(g1:0<crs (P s) (P a) l)(g2:0<crs (P s) l (P b))(g3:0<crs (P s) (P i) l)(g4:0<crs (P s) l (P j)):a=i:=by
 obtain⟨vs,va,vb,cab⟩:=h.ccw _ _ _ h1;obtain⟨_,vi,vj,cij⟩:=h.ccw _ _ _ h2;rcases Int.lt_trichotomy (crs (P s) (P a) (P i)) 0 with c|c|c
 .have c':0<crs (P s) (P i) (P a):=by rw[Bv];omega
  exact absurd ⟨c',Acr g3 g4 cij c' g1⟩ (h.cone s i j a h2 (.inl (by rw[h1];simp)))
 .by_cases e:a=i
  .exact e
  .exfalso;have n1:=h.ne h1;have n2:=h.ne h2;have k1:0<crs (P s) (P i) (P b):=Ajr (l:=l) (by rw[Bv,c];rfl) g3 g1 cab;have k2:0<crs (P s) (P a) (P j):=Ajr (l:=l) c g1 g3 cij;rcases Ayv c cab k1 cij k2 with⟨q1,q2⟩|⟨q1,q2⟩
   .by_cases e2:i=b
    .subst e2;omega
    .rcases h.emp s a b h1 i vi oo oo e2 with g|g|g <;> omega
   .by_cases e2:a=j
    .subst e2;rw[Bv] at cij;omega
    .have:crs (P s) (P i) (P a)=0:=by rw[Bv,c];rfl
     rcases h.emp s i j h2 a va oo oo e2 with g|g|g <;> omega
 .exact absurd ⟨c,Acr g1 g2 cab c g3⟩ (h.cone s a b i h1 (.inl (by rw[h2];simp)))
end
section
variable {P:Int->Ab}{H:Int->Int}{V:Int->Prop}{ap:Ap}
def Rr(ap:Ap)(i j k l:Int):Ap:=fun a b=>
 if a=i/\b=l then some k else if a=l/\b=k then some i else if a=k/\b=i then some l else
 if a=j/\b=k then some l else if a=k/\b=l then some j else if a=l/\b=j then some k else
 if a=i/\b=j then none else if a=j/\b=i then none else ap a b
theorem Vd{i j k l a b c:Int}(h:Rr ap i j k l a b=some c):
  (a=i/\b=l/\c=k)\/(a=l/\b=k/\c=i)\/(a=k/\b=i/\c=l)\/(a=j/\b=k/\c=l)\/(a=k/\b=l/\c=j)\/(a=l/\b=j/\c=k) \/
  (ap a b=some c/\¬(a=i/\b=l)/\¬(a=l/\b=k)/\¬(a=k/\b=i)/\¬(a=j/\b=k)/\¬(a=k/\b=l)/\¬(a=l/\b=j)/\¬(a=i/\b=j)/\¬(a=j/\b=i)):=by
 unfold Rr at h
 by_cases k0:a=i/\b=l
 .rw[iP k0] at h;exact .inl ⟨k0.1,k0.2,(oI h).symm⟩
 rw[iN k0] at h
 by_cases k1:a=l/\b=k
 .rw[iP k1] at h;exact .inr (.inl ⟨k1.1,k1.2,(oI h).symm⟩)
 rw[iN k1] at h
 by_cases k2:a=k/\b=i
 .rw[iP k2] at h;exact .inr (.inr (.inl ⟨k2.1,k2.2,(oI h).symm⟩))
 rw[iN k2] at h
 by_cases k3:a=j/\b=k
 .rw[iP k3] at h;exact .inr (.inr (.inr (.inl ⟨k3.1,k3.2,(oI h).symm⟩)))
 rw[iN k3] at h
 by_cases k4:a=k/\b=l
 .rw[iP k4] at h;exact .inr (.inr (.inr (.inr (.inl ⟨k4.1,k4.2,(oI h).symm⟩))))
 rw[iN k4] at h
 by_cases k5:a=l/\b=j
 .rw[iP k5] at h;exact .inr (.inr (.inr (.inr (.inr (.inl ⟨k5.1,k5.2,(oI h).symm⟩)))))
 rw[iN k5] at h
 by_cases k6:a=i/\b=j
 .rw[iP k6] at h;cases h
 rw[iN k6] at h
 by_cases k7:a=j/\b=i
 .rw[iP k7] at h;cases h
 rw[iN k7] at h;exact .inr (.inr (.inr (.inr (.inr (.inr ⟨h,k0,k1,k2,k3,k4,k5,k6,k7⟩)))))
theorem Ayw{i j k l s m:Int}(h:Tri P V ap)(hk:ap i j=some k)(hl:ap j i=some l)(hm:Rr ap i j k l s m≠none\/Rr ap i j k l m s≠none):
  ((ap s m≠none\/ap m s≠none)/\¬(s=i/\m=j)/\¬(s=j/\m=i))\/(s=k/\m=l)\/(s=l/\m=k):=by
 have a1:=h.rot _ _ _ hk;have a2:=h.rot2 hk;have a3:=h.rot _ _ _ hl;have a4:=h.rot2 hl;have n1:=h.ne hk;have n2:=h.ne hl;have key:∀x y,Rr ap i j k l x y≠none->((ap x y≠none\/ap y x≠none)/\¬(x=i/\y=j)/\¬(x=j/\y=i))\/(x=k/\y=l)\/(x=l/\y=k):=by
  intro x y hx;obtain⟨c,hc⟩:=Option.ne_none_iff_exists'.1 hx;rcases Vd hc with⟨rfl,rfl,rfl⟩|⟨rfl,rfl,rfl⟩|⟨rfl,rfl,rfl⟩|⟨rfl,rfl,rfl⟩|⟨rfl,rfl,rfl⟩|⟨rfl,rfl,rfl⟩|⟨h0,h1⟩
  .exact .inl ⟨.inl (by rw[a3];simp),oo,oo⟩
  .exact .inr (.inr ⟨rfl,rfl⟩)
  .exact .inl ⟨.inl (by rw[a2];simp),oo,oo⟩
  .exact .inl ⟨.inl (by rw[a1];simp),oo,oo⟩
  .exact .inr (.inl ⟨rfl,rfl⟩)
  .exact .inl ⟨.inl (by rw[a4];simp),oo,oo⟩
  .exact .inl ⟨.inl (by rw[h0];simp),oo,oo⟩
 rcases hm with hm|hm
 .exact key s m hm
 .rcases key m s hm with⟨g1,g2,g3⟩|⟨g1,g2⟩|⟨g1,g2⟩
  .exact .inl ⟨g1.symm,oo,oo⟩
  .exact .inr (.inr ⟨g2,g1⟩)
  .exact .inr (.inl ⟨g2,g1⟩)
structure Quad(P:Int->Ab)(V:Int->Prop)(ap:Ap)(i j k l:Int):Prop where
 tri:Tri P V ap
 hk:ap i j=some k
 hl:ap j i=some l
 c1:0<crs (P i) (P l) (P k)
 c2:0<crs (P j) (P k) (P l)
theorem Quad.symm{i j k l}(q:Quad P V ap i j k l):Quad P V ap j i l k:=⟨q.tri,q.hl,q.hk,q.c2,q.c1⟩
theorem Quad.ne{i j k l}(q:Quad P V ap i j k l):i≠j/\k≠l/\k≠i/\k≠j/\l≠i/\l≠j:=by
 have n1:=q.tri.ne q.hk;have n2:=q.tri.ne q.hl;have n3:=Abq (P:=P) (a:=i) (b:=l) (c:=k) (by have:=q.c1;omega);omega
theorem Quad.fresh{i j k l}(q:Quad P V ap i j k l):ap k l=none/\ap l k=none:=by
 have key:∀{i j k l},Quad P V ap i j k l->¬(ap k l≠none\/ap l k≠none):=fun {i j k l} q hn=>by
  refine q.tri.cone k i j l (q.tri.rot2 q.hk) hn ⟨?_,?_⟩
  .have:=q.c1;rw[Bu] at this;exact this
  .rw[Bu];exact q.c2
 have:=key q;exact⟨by rcases h:ap k l with _|x;rfl;exact absurd (.inl (by rw[h];simp)) this,by rcases h:ap l k with _|x;rfl;exact absurd (.inr (by rw[h];simp)) this⟩
theorem Ayx{i j k l}(q:Quad P V ap i j k l):∀a b c,Rr ap i j k l a b=some c->Rr ap i j k l b c=some a:=by
 intro a b c hc;have a1:=q.tri.rot _ _ _ q.hk;have a2:=q.tri.rot2 q.hk;have a3:=q.tri.rot _ _ _ q.hl;have a4:=q.tri.rot2 q.hl;have hk:=q.hk;have hl:=q.hl;obtain⟨f1,f2⟩:=q.fresh;obtain⟨n1,n2,n3,n4,n5,n6⟩:=q.ne;have hr:=q.tri.rot;rcases Vd hc with⟨rfl,rfl,rfl⟩|⟨rfl,rfl,rfl⟩|⟨rfl,rfl,rfl⟩|⟨rfl,rfl,rfl⟩|⟨rfl,rfl,rfl⟩|⟨rfl,rfl,rfl⟩|⟨h0,h1⟩
 .unfold Rr;grind
 .unfold Rr;grind
 .unfold Rr;grind
 .unfold Rr;grind
 .unfold Rr;grind
 .unfold Rr;grind
 .have h2:=hr _ _ _ h0;unfold Rr;grind
theorem Bb5{pi pj pk pl pd:Ab}(hk:0<crs pi pj pk)(hl:0<crs pj pi pl)(c1:0<crs pi pl pk)(c2:0<crs pj pk pl)(d1:0<=crs pi pl pd)(d2:0<=crs pl pk pd)(d3:0<=crs pk pi pd):
  (0<=crs pi pj pd/\0<=crs pj pk pd/\0<=crs pk pi pd)\/(0<=crs pj pi pd/\0<=crs pi pl pd/\0<=crs pl pj pd):=by
 by_cases c:0<=crs pi pj pd
 .left;refine⟨c,?_,d3⟩;have e:crs pi pl pk*crs pj pk pd=crs pi pj pk*crs pl pk pd+crs pj pk pl*crs pk pi pd:=by unfold crs;grind
  have:=Int.mul_nonneg (Int.le_of_lt hk) d2;have:=Int.mul_nonneg (Int.le_of_lt c2) d3;exact Yg (x:=crs pi pl pk) oo c1
 .right;refine⟨by rw[Ch];omega,d1,?_⟩;have e:crs pi pl pk*crs pl pj pd=crs pj pi pl*crs pl pk pd+crs pj pk pl*crs pi pl pd:=by unfold crs;grind
  have:=Int.mul_nonneg (Int.le_of_lt hl) d2;have:=Int.mul_nonneg (Int.le_of_lt c2) d1;exact Yg (x:=crs pi pl pk) oo c1
theorem Quad.emp1{i j k l}(q:Quad P V ap i j k l)(d:Int)(hd:V d)(h1:d≠i)(h2:d≠l)(h3:d≠k):crs (P i) (P l) (P d)<0\/crs (P l) (P k) (P d)<0\/crs (P k) (P i) (P d)<0:=by
 obtain⟨_,_,_,ck⟩:=q.tri.ccw _ _ _ q.hk;obtain⟨_,_,_,cl⟩:=q.tri.ccw _ _ _ q.hl
 by_cases hj:d=j
 .subst hj;have:crs (P l) (P k) (P d) = -crs (P d) (P k) (P l):=by unfold crs;grind
  have:=q.c2;omega
 .by_cases g1:crs (P i) (P l) (P d)<0
  .exact .inl g1
  .by_cases g2:crs (P l) (P k) (P d)<0
   .exact .inr (.inl g2)
   .by_cases g3:crs (P k) (P i) (P d)<0
    .exact .inr (.inr g3)
    .exfalso;rcases Bb5 (pd:=P d) ck cl q.c1 q.c2 oo oo oo with⟨e1,e2,e3⟩|⟨e1,e2,e3⟩
     .rcases q.tri.emp _ _ _ q.hk d hd h1 hj h3 with g|g|g <;> omega
     .rcases q.tri.emp _ _ _ q.hl d hd hj h1 h2 with g|g|g <;> omega
theorem Quad.cone_i{i j k l}(q:Quad P V ap i j k l)(m:Int)(hm:ap i m≠none\/ap m i≠none)(hj:m≠j):¬(0<crs (P i) (P l) (P m)/\0<crs (P i) (P m) (P k)):=by
 rintro⟨g1,g2⟩;have hk:=q.hk;have hl:=q.tri.rot _ _ _ q.hl;obtain⟨vi,vj,vk,ck⟩:=q.tri.ccw _ _ _ hk;obtain⟨_,vl,_,cl⟩:=q.tri.ccw _ _ _ hl;rcases Int.lt_trichotomy (crs (P i) (P j) (P m)) 0 with c|c|c
 .exact q.tri.cone i l j m hl hm ⟨g1,by rw[Bv];omega⟩
 ·-- on the ray to j
  have ne:=q.tri.ne hk;have ne':=q.tri.ne hl;have cmj:crs (P i) (P m) (P j)=0:=by rw[Bv,c];rfl
  rcases q.tri.nbr hm with⟨w,hw⟩|⟨w,hw⟩
  .obtain⟨_,vm,vw,cw⟩:=q.tri.ccw _ _ _ hw;have k1:0<crs (P i) (P j) (P w):=Ajr (l:=P k) c ck g2 cw;rcases Ayv cmj cw k1 ck g2 with⟨q1,q2⟩|⟨q1,q2⟩
   .have nw:=q.tri.ne hw
    by_cases e:j=w
    .subst e;omega
    .rcases q.tri.emp _ _ _ hw j vj oo oo e with g|g|g <;> omega
   .by_cases e:m=k
    .subst e;omega
    .rcases q.tri.emp _ _ _ hk m vm (q.tri.ne hw).1.symm hj e with g|g|g <;> omega
  .obtain⟨_,vw,vm,cw⟩:=q.tri.ccw _ _ _ hw;have nw:=q.tri.ne hw;have k1:0<crs (P i) (P w) (P j):=Avn (l:=P l) c cl g1 cw;rcases Bb4 cmj cw k1 cl g1 with⟨q1,q2⟩|⟨q1,q2⟩
   .by_cases e:j=w
    .subst e;rw[Ce] at k1;omega
    .have:crs (P m) (P i) (P j)=0:=by rw[Ch,cmj];rfl
     rcases q.tri.emp _ _ _ hw j vj oo e oo with g|g|g <;> omega
   .by_cases e:m=l
    .subst e;rw[Ce] at g1;omega
    .have:crs (P j) (P i) (P m)=0:=by rw[Ch,c];rfl
     rcases q.tri.emp _ _ _ hl m vm oo e hj with g|g|g <;> omega
 .exact q.tri.cone i j k m hk hm ⟨c,g2⟩
theorem Quad.cone_k{i j k l}(q:Quad P V ap i j k l)(m:Int)(hm:ap k m≠none\/ap m k≠none):¬(0<crs (P k) (P i) (P m)/\0<crs (P k) (P m) (P l)):=by
 rintro⟨g1,g2⟩;have hk:=q.tri.rot2 q.hk;obtain⟨_,_,_,ck⟩:=q.tri.ccw _ _ _ hk;have c2:0<crs (P k) (P l) (P j):=by rw[Bu];exact q.c2
 have c1:0<crs (P k) (P i) (P l):=by have:=q.c1;rw[Bu] at this;exact this
 refine q.tri.cone k i j m hk hm ⟨g1,?_⟩;exact Acr (l:=P l) c1 c2 ck g1 g2
theorem Quad.cone_l{i j k l}(q:Quad P V ap i j k l)(m:Int)(hm:ap l m≠none\/ap m l≠none):¬(0<crs (P l) (P k) (P m)/\0<crs (P l) (P m) (P i)):=by
 rintro⟨g1,g2⟩;have hl:=q.tri.rot2 q.hl;obtain⟨_,_,_,cl⟩:=q.tri.ccw _ _ _ hl;have c1:0<crs (P l) (P k) (P i):=by rw[Bu];exact q.c1
 have c2:0<crs (P l) (P j) (P k):=by have:=q.c2;rw[Bu] at this;exact this
 refine q.tri.cone l j i m hl hm ⟨?_,g2⟩;exact Am7 (l:=P k) c2 c1 cl g2 g1
theorem Quad.flip{i j k l}(q:Quad P V ap i j k l):Tri P V (Rr ap i j k l):=by
 have hk:=q.hk;have hl:=q.hl;obtain⟨vi,vj,vk,ck⟩:=q.tri.ccw _ _ _ hk;obtain⟨_,_,vl,cl⟩:=q.tri.ccw _ _ _ hl;have c1:=q.c1;have c2:=q.c2;have c1':0<crs (P l) (P k) (P i):=by rw[Bu];exact c1
 have c1'':0<crs (P k) (P i) (P l):=by rw[Bu];exact c1'
 have c2':0<crs (P k) (P l) (P j):=by rw[Bu];exact c2
 have c2'':0<crs (P l) (P j) (P k):=by rw[Bu];exact c2'
 have n:=q.ne;refine⟨Ayx q,fun a b c hc=>?_,fun a b c hc d hd h1 h2 h3=>?_,fun s a b m hc hm=>?_⟩
 .rcases Vd hc with⟨rfl,rfl,rfl⟩|⟨rfl,rfl,rfl⟩|⟨rfl,rfl,rfl⟩|⟨rfl,rfl,rfl⟩|⟨rfl,rfl,rfl⟩|⟨rfl,rfl,rfl⟩|⟨h0,_⟩
  .exact⟨vi,vl,vk,c1⟩
  .exact⟨vl,vk,vi,c1'⟩
  .exact⟨vk,vi,vl,c1''⟩
  .exact⟨vj,vk,vl,c2⟩
  .exact⟨vk,vl,vj,c2'⟩
  .exact⟨vl,vj,vk,c2''⟩
  .exact q.tri.ccw _ _ _ h0
 .rcases Vd hc with⟨rfl,rfl,rfl⟩|⟨rfl,rfl,rfl⟩|⟨rfl,rfl,rfl⟩|⟨rfl,rfl,rfl⟩|⟨rfl,rfl,rfl⟩|⟨rfl,rfl,rfl⟩|⟨h0,_⟩
  .exact q.emp1 d hd h1 h2 h3
  .rcases q.emp1 d hd h3 h1 h2 with g|g|g <;> simp[g]
  .rcases q.emp1 d hd h2 h3 h1 with g|g|g <;> simp[g]
  .exact q.symm.emp1 d hd h1 h2 h3
  .rcases q.symm.emp1 d hd h3 h1 h2 with g|g|g <;> simp[g]
  .rcases q.symm.emp1 d hd h2 h3 h1 with g|g|g <;> simp[g]
  .exact q.tri.emp _ _ _ h0 d hd h1 h2 h3
 .have hn:=Ayw q.tri hk hl hm;rcases Vd hc with⟨rfl,rfl,rfl⟩|⟨rfl,rfl,rfl⟩|⟨rfl,rfl,rfl⟩|⟨rfl,rfl,rfl⟩|⟨rfl,rfl,rfl⟩|⟨rfl,rfl,rfl⟩|⟨h0,h9⟩
  ·-- at i
   rcases hn with⟨g1,g2,g3⟩|⟨g1,g2⟩|⟨g1,g2⟩
   .exact q.cone_i m g1 (fun e=>g2 ⟨rfl,e⟩)
   .omega
   .omega
  ·-- at l: from k to i
   rcases hn with⟨g1,g2,g3⟩|⟨g1,g2⟩|⟨g1,g2⟩
   .exact q.cone_l m g1
   .omega
   .rintro⟨e1,e2⟩;rw[g2,Ce] at e1;omega
  ·-- at k: from i to l
   rcases hn with⟨g1,g2,g3⟩|⟨g1,g2⟩|⟨g1,g2⟩
   .exact q.cone_k m g1
   .rintro⟨e1,e2⟩;rw[g2,Ce] at e2;omega
   .omega
  .rcases hn with⟨g1,g2,g3⟩|⟨g1,g2⟩|⟨g1,g2⟩
   .exact q.symm.cone_i m g1 (fun e=>g3 ⟨rfl,e⟩)
   .omega
   .omega
  .rcases hn with⟨g1,g2,g3⟩|⟨g1,g2⟩|⟨g1,g2⟩
   .exact q.symm.cone_l m g1
   .rintro⟨e1,e2⟩;rw[g2,Ce] at e1;omega
   .omega
  .rcases hn with⟨g1,g2,g3⟩|⟨g1,g2⟩|⟨g1,g2⟩
   .exact q.symm.cone_k m g1
   .omega
   .rintro⟨e1,e2⟩;rw[g2,Ce] at e2;omega
  .rcases hn with⟨g1,g2,g3⟩|⟨rfl,rfl⟩|⟨rfl,rfl⟩
   .exact q.tri.cone s a b m h0 g1
   ·-- at k,l within another angle
    rintro⟨e1,e2⟩;have:=q.tri.cones h0 (q.tri.rot2 hk) e1 e2 c1'' c2';omega
   .rintro⟨e1,e2⟩;have:=q.tri.cones h0 (q.tri.rot2 hl) e1 e2 c2'' c1';omega
end
section
variable {P:Int->Ab}{H:Int->Int}{V:Int->Prop}{ap:Ap}
def Ajs(P:Int->Ab)(H:Int->Int)(V:Int->Prop):Prop :=
 ∀a b c d,V a->V b->V c->V d->0<crs (P a) (P b) (P c)->crs (P a) (P b) (P d)<0->(crs (P b) (P c) (P d)<=0\/crs (P c) (P a) (P d)<=0)->DH P H a b c d<0
def Cov(P:Int->Ab)(S:Int->Prop)(ap:Ap):Prop:=∀i j k,ap i j=some k->ap j i=none->∀d,S d->0<=crs (P i) (P j) (P d)
theorem Agl{i j k l a b:Int}(h:Rr ap i j k l a b=none):ap a b=none\/(a=i/\b=j)\/(a=j/\b=i):=by
 unfold Rr at h
 by_cases k0:a=i/\b=l
 .rw[iP k0] at h;cases h
 rw[iN k0] at h
 by_cases k1:a=l/\b=k
 .rw[iP k1] at h;cases h
 rw[iN k1] at h
 by_cases k2:a=k/\b=i
 .rw[iP k2] at h;cases h
 rw[iN k2] at h
 by_cases k3:a=j/\b=k
 .rw[iP k3] at h;cases h
 rw[iN k3] at h
 by_cases k4:a=k/\b=l
 .rw[iP k4] at h;cases h
 rw[iN k4] at h
 by_cases k5:a=l/\b=j
 .rw[iP k5] at h;cases h
 rw[iN k5] at h
 by_cases k6:a=i/\b=j
 .exact .inr (.inl k6)
 rw[iN k6] at h
 by_cases k7:a=j/\b=i
 .exact .inr (.inr k7)
 rw[iN k7] at h;exact .inl h
theorem Ate{i j k l:Int}(h1:l≠i):Rr ap i j k l l k=some i:=by unfold Rr;rw[iN oo];simp
theorem Atf{i j k l:Int}(h1:k≠i)(h2:k≠l)(h3:k≠j)(h4:l≠i):Rr ap i j k l k l=some j:=by unfold Rr;rw[iN oo,iN oo,iN oo,iN oo];simp
theorem Quad.cov{S:Int->Prop}{i j k l}(q:Quad P V ap i j k l)(h:Cov P S ap):Cov P S (Rr ap i j k l):=by
 have hk:=q.hk;have hl:=q.hl;have a1:=q.tri.rot _ _ _ hk;have a2:=q.tri.rot2 hk;have a3:=q.tri.rot _ _ _ hl;have a4:=q.tri.rot2 hl;obtain⟨n1,n2,n3,n4,n5,n6⟩:=q.ne;intro a b c hc hn d hd;have hn':ap b a=none\/(b=i/\a=j)\/(b=j/\a=i):=Agl hn;rcases Vd hc with⟨rfl,rfl,rfl⟩|⟨rfl,rfl,rfl⟩|⟨rfl,rfl,rfl⟩|⟨rfl,rfl,rfl⟩|⟨rfl,rfl,rfl⟩|⟨rfl,rfl,rfl⟩|⟨h0,h9⟩
 .exact h _ _ _ a3 (hn'.resolve_right oo) d hd
 .rw[Atf n3 n2 n4 n5] at hn;cases hn
 .exact h _ _ _ a2 (hn'.resolve_right oo) d hd
 .exact h _ _ _ a1 (hn'.resolve_right oo) d hd
 .rw[Ate n5] at hn;cases hn
 .exact h _ _ _ a4 (hn'.resolve_right oo) d hd
 .exact h _ _ _ h0 (hn'.resolve_right oo) d hd
theorem Aeo(a b c d:Int):DH P H b c a d=DH P H a b c d:=Bfb _ _ _ _ _ _ _ _
theorem Abr{a c x y Q s:Int}(h:x*a-y*c = -(Q*s))(ha:0<a)(hc:0<c)(hQ:0<Q)(hx:0<x)(hs:0<=s):0<y:=by
 have e1:=Int.mul_pos hx ha;have e2:=Int.mul_nonneg (Int.le_of_lt hQ) hs;exact Vl (x:=c) (by rw[Int.mul_comm];omega) hc
theorem Atg(hi hj hk hl hd:Int)(i j k l d:Ab):Dt hi hl hk hd i l k d*crs i j k-Dt hi hj hk hd i j k d*crs i l k = -(Dt hi hj hk hl i j k l*crs k i d):=by unfold Dt crs;grind
theorem Ath(hi hj hk hl hd:Int)(i j k l d:Ab):Dt hi hl hk hd i l k d*crs j i l-Dt hj hi hl hd j i l d*crs i l k = -(Dt hi hj hk hl i j k l*crs i l d):=by unfold Dt crs;grind
theorem Quad.swapQ{i j k l:Int}:DH P H j i l k=DH P H i j k l:=by
 unfold DH;rw[Bb3,Ao2,Int.neg_neg]
theorem Quad.conf1{i j k l d:Int}(hcv:Ajs P H V)(q:Quad P V ap i j k l)(hQ:0<DH P H i j k l)(hd:V d)(hC:0<DH P H i l k d):0<DH P H i j k d\/0<DH P H j i l d:=by
 obtain⟨vi,vj,vk,ck⟩:=q.tri.ccw _ _ _ q.hk;obtain⟨_,_,vl,cl⟩:=q.tri.ccw _ _ _ q.hl;have p1:=Atg (H i) (H j) (H k) (H l) (H d) (P i) (P j) (P k) (P l) (P d);have p2:=Ath (H i) (H j) (H k) (H l) (H d) (P i) (P j) (P k) (P l) (P d)
 by_cases g1:0<=crs (P k) (P i) (P d)
 .exact .inl (Abr p1 ck q.c1 hQ hC g1)
 .by_cases g2:0<=crs (P i) (P l) (P d)
  .exact .inr (Abr p2 cl q.c1 hQ hC g2)
  .have:=hcv i l k d vi vl vk hd q.c1 oo (.inr oo);omega
theorem Quad.conf2{i j k l d:Int}(hcv:Ajs P H V)(q:Quad P V ap i j k l)(hQ:0<DH P H i j k l)(hd:V d)(hC:0<DH P H i l k d)(hE:0<DH P H j k l d):0<DH P H i j k d:=by
 obtain⟨vi,vj,vk,ck⟩:=q.tri.ccw _ _ _ q.hk;obtain⟨_,_,vl,cl⟩:=q.tri.ccw _ _ _ q.hl;have p1:=Atg (H i) (H j) (H k) (H l) (H d) (P i) (P j) (P k) (P l) (P d);have p3:=Ath (H j) (H i) (H l) (H k) (H d) (P j) (P i) (P l) (P k) (P d)
 by_cases g1:0<=crs (P k) (P i) (P d)
 .exact Abr p1 ck q.c1 hQ hC g1
 .by_cases g2:0<=crs (P j) (P k) (P d)
  .exact Abr p3 ck q.c2 (by have:=Quad.swapQ (P:=P) (H:=H) (i:=i) (j:=j) (k:=k) (l:=l);unfold DH at this hQ;omega) hE g2
  .exfalso;have c2':0<crs (P k) (P l) (P j):=by rw[Bu];exact q.c2
   have c1':0<crs (P k) (P i) (P l):=by have:=q.c1;rw[Bu] at this;exact this
   by_cases g3:crs (P k) (P l) (P d)<=0
   .have:=hcv j k l d vj vk vl hd q.c2 oo (.inl g3);omega
   .have g4:crs (P l) (P k) (P d)<=0:=by rw[Ch];omega
    have:=hcv k i l d vk vi vl hd c1' oo (.inr g4);have e:DH P H k i l d=DH P H i l k d:=(Aeo k i l d).symm;omega
end
section
theorem Ati{A B C E:Int->Bool}:∀{L:LI},(∀d∈L,(C d).toNat+(E d).toNat<=(A d).toNat+(B d).toNat)->L.countP C+L.countP E<=L.countP A+L.countP B
 |[],_=>s_
 |x::r,h=>by
  have h1:=h x mS;have h2:=Ati (L:=r) fun d hd=>h d (mO _ hd)
  simp only[countP_cons];cases hA:A x <;> cases hB:B x <;> cases hC:C x <;> cases hE:E x <;> rw[hA,hB,hC,hE] at h1 <;> simp at h1⊢ <;> omega
theorem Atj{A B C E:Int->Bool}:∀{L:LI} {x:Int},(∀d∈L,(C d).toNat+(E d).toNat<=(A d).toNat+(B d).toNat)->x∈L->(C x).toNat+(E x).toNat<(A x).toNat+(B x).toNat->L.countP C+L.countP E<L.countP A+L.countP B
 |[],_,_,hx,_=>by cases hx
 |y::r,x,h,hx,hlt=>by
  have h1:=h y mS;have h2:∀d∈r,(C d).toNat+(E d).toNat<=(A d).toNat+(B d).toNat:=fun d hd=>h d (mO _ hd)
  simp only[countP_cons];rcases mem_cons.1 hx with rfl|hx
  .have:=Ati h2;cases hA:A x <;> cases hB:B x <;> cases hC:C x <;> cases hE:E x <;> rw[hA,hB,hC,hE] at hlt <;> simp at hlt⊢ <;> omega
  .have:=Atj h2 hx hlt;cases hA:A y <;> cases hB:B y <;> cases hC:C y <;> cases hE:E y <;> rw[hA,hB,hC,hE] at h1 <;> simp at h1⊢ <;> omega
def inds(n:Nat):LI:=(List.range n).map fun k:Nat=>(k:Int)
def inN(n:Nat)(i:Int):Prop:=0<=i/\i<(n:Int)
theorem Xl{n:Nat}{i:Int}:i∈inds n↔inN n i:=by
 unfold inds inN;rw[mem_map];constructor
 .rintro⟨k,hk,rfl⟩;rw[mem_range] at hk;omega
 .rintro⟨h0,h1⟩;exact⟨i.toNat,by rw[mem_range];omega,oo⟩
theorem Aa5{n:Nat}:(inds n).length=n:=by simp[inds]
variable {P:Int->Ab}{H:Int->Int}{ap:Ap}{n:Nat}
def cnf(P:Int->Ab)(H:Int->Int)(n:Nat)(a b c:Int):Nat:=(inds n).countP fun d=>decide (0<DH P H a b c d)
theorem Bfd(a b c:Int):cnf P H n a b c<=n:=by
 have:(inds n).countP (fun d=>decide (0<DH P H a b c d))<=(inds n).length:=countP_le_length;rw[Aa5] at this;exact this
theorem Abs(a b c:Int):cnf P H n b c a=cnf P H n a b c:=by
 unfold cnf;simp only[Aeo]
theorem DH_b(a b c:Int):DH P H a b c b=0:=by unfold DH;rw[Ajl,Atc];omega
theorem DH_c(a b c:Int):DH P H a b c c=0:=by unfold DH;rw[Ajl,Atd];omega
theorem Quad.cnf_lt{i j k l:Int}(hcv:Ajs P H (inN n))(q:Quad P (inN n) ap i j k l)(hQ:0<DH P H i j k l):cnf P H n i l k+cnf P H n j k l<cnf P H n i j k+cnf P H n j i l:=by
 obtain⟨vi,vj,vk,ck⟩:=q.tri.ccw _ _ _ q.hk;obtain⟨_,_,vl,cl⟩:=q.tri.ccw _ _ _ q.hl;have hQ':0<DH P H j i l k:=by rw[Quad.swapQ];exact hQ
 unfold cnf;refine Atj (x:=l) (fun d hd=>?_) (Xl.2 vl) ?_
 .have vd:=Xl.1 hd;have t1:=q.conf1 (d:=d) hcv hQ vd;have t2:=q.symm.conf1 (d:=d) hcv hQ' vd;have t3:=q.conf2 (d:=d) hcv hQ vd;have t4:=q.symm.conf2 (d:=d) hcv hQ' vd
  by_cases hC:0<DH P H i l k d
  .by_cases hE:0<DH P H j k l d
   .have hA:=t3 hC hE;have hB:=t4 hE hC;simp[hC,hE,hA,hB]
   .rcases t1 hC with hA|hB
    .simp[hC,hE,hA]
    .simp[hC,hE,hB]
  .by_cases hE:0<DH P H j k l d
   .rcases t2 hE with hB|hA
    .simp[hC,hE,hB]
    .simp[hC,hE,hA]
   .simp[hC,hE]
 .rw[DH_b,DH_c,DH_c];simp[hQ]
end
def plV(v:List Ae)(i:Int):Ab:=match idx v i with
 |some x=>⟨x.X,x.Y⟩
 |none=>⟨0,0⟩
structure Iv(v:List Ae):Prop where
 ok:∀i,inN v.length i->okP (plV v i)
 dist:∀i j,inN v.length i->inN v.length j->Co (plV v i) (plV v j)->i=j
def KK:Int:=4611686018427387904
def aft(v:List Ae)(i:Int):Nat:=(inds v.length).countP fun j=>decide (befP (plV v i) (plV v j))
def hV(v:List Ae)(i:Int):Int:=KK^(v.length+1)*sq (plV v i)+KK^aft v i
theorem Bfe(v:List Ae)(i:Int):aft v i<=v.length:=by
 have:(inds v.length).countP (fun j=>decide (befP (plV v i) (plV v j)))<=(inds v.length).length:=countP_le_length;rw[Aa5] at this;exact this
theorem Agm{v:List Ae}{i j:Int}(hj:inN v.length j)(h:befP (plV v i) (plV v j)):aft v j<aft v i:=by
 unfold aft;refine Agk (x:=j) (fun y _ hy=>?_) (Xl.2 hj) (sV h) (by simp[befP]);simp only[dQ] at hy⊢;unfold befP at *;omega
theorem Vx(k:Nat):1<=KK^k:=by
 have:0<KK^k:=Int.pow_pos dD;omega
theorem Atk{a b:Nat}(h:a<=b):KK^a<=KK^b:=by
 obtain⟨c,rfl⟩:=Nat.le.dest h;rw[Int.pow_add];have h1:=Vx a;have h2:=Vx c;have:=Int.mul_le_mul_of_nonneg_left h2 (oo:0<=KK^a);omega
theorem Aln{a b:Nat}(h:a<b):KK*KK^a<=KK^b:=by
 have:=Atk (a:=a+1) (b:=b) h;rw[Int.pow_succ,Int.mul_comm] at this;exact this
theorem Bff(B sa sb sc sd wa wb wc wd:Int)(a b c d:Ab):Dt (B*sa+wa) (B*sb+wb) (B*sc+wc) (B*sd+wd) a b c d=B*Dt sa sb sc sd a b c d+Dt wa wb wc wd a b c d:=by unfold Dt;grind
theorem Afm(v:List Ae)(a b c d:Int):DH (plV v) (hV v) a b c d=KK^(v.length+1)*inC (plV v a) (plV v b) (plV v c) (plV v d)+Dt (KK^aft v a) (KK^aft v b) (KK^aft v c) (KK^aft v d) (plV v a) (plV v b) (plV v c) (plV v d):=by
 unfold DH hV;rw[Bff,<-Bfa]
theorem Uk{w x N C:Int}(hw0:0<=w)(hw:w<=N)(hC:0<=C)(h1:-C<=x)(h2:x<=C):-(N*C)<=w*x/\w*x<=N*C:=by
 have:=mulB (x:=w) (y:=x) (M:=N) (N:=C) oo oo hw h1 h2;exact this
theorem Ayy{N wa wb wc wd:Int}{a b c d:Ab}(ha:okP a)(hb:okP b)(hc:okP c)(hd:okP d)(h1:0<=wa/\wa<=N)(h2:0<=wb/\wb<=N)(h3:0<=wc/\wc<=N)(h4:0<=wd/\wd<=N):
  -(N*2305843009213693952)<=Dt wa wb wc wd a b c d/\Dt wa wb wc wd a b c d<=N*2305843009213693952:=by
 have c1:=Hp hb hc hd;have c2:=Hp hc ha hd;have c3:=Hp ha hb hd;have c4:=Hp ha hb hc;have m1:=Uk (C:=576460752303423488) h1.1 h1.2 oo c1.1 c1.2;have m2:=Uk (C:=576460752303423488) h2.1 h2.2 oo c2.1 c2.2;have m3:=Uk (C:=576460752303423488) h3.1 h3.2 oo c3.1 c3.2;have m4:=Uk (C:=576460752303423488) h4.1 h4.2 oo c4.1 c4.2;unfold Dt;omega
section
variable {v:List Ae}(hv:Iv v){a b c d:Int}(ha:inN v.length a)(hb:inN v.length b)(hc:inN v.length c)(hd:inN v.length d)
include hv ha hb hc hd
theorem Ayz:-(KK^(v.length+1))<Dt (KK^aft v a) (KK^aft v b) (KK^aft v c) (KK^aft v d) (plV v a) (plV v b) (plV v c) (plV v d)/\Dt (KK^aft v a) (KK^aft v b) (KK^aft v c) (KK^aft v d) (plV v a) (plV v b) (plV v c) (plV v d)<KK^(v.length+1):=by
 have w:∀i,0<=KK^aft v i/\KK^aft v i<=KK^v.length:=fun i=>⟨by have:=Vx (aft v i);omega,Atk (Bfe v i)⟩
 have:=Ayy (hv.ok a ha) (hv.ok b hb) (hv.ok c hc) (hv.ok d hd) (w a) (w b) (w c) (w d);have h1:=Vx v.length;generalize Dt (KK^aft v a) (KK^aft v b) (KK^aft v c) (KK^aft v d) (plV v a) (plV v b) (plV v c) (plV v d)=D at *;rw[Int.pow_succ];have e:KK=4611686018427387904:=rfl;generalize KK^v.length=N at *;rw[e];omega
theorem Bgx(h:0<inC (plV v a) (plV v b) (plV v c) (plV v d)):0<DH (plV v) (hV v) a b c d:=by
 rw[Afm];have h1:=Ayz hv ha hb hc hd;have h2:=Vx (v.length+1);have:=Int.mul_le_mul_of_nonneg_left (oo:1<=inC (plV v a) (plV v b) (plV v c) (plV v d)) (oo:0<=KK^(v.length+1));omega
theorem Am8(h:inC (plV v a) (plV v b) (plV v c) (plV v d)<0):DH (plV v) (hV v) a b c d<0:=by
 rw[Afm];have h1:=Ayz hv ha hb hc hd;have h2:=Vx (v.length+1);have:=Int.mul_le_mul_of_nonneg_left (oo:inC (plV v a) (plV v b) (plV v c) (plV v d)<=-1) (oo:0<=KK^(v.length+1));omega
theorem Zc(h0:inC (plV v a) (plV v b) (plV v c) (plV v d)=0)(h1:befP (plV v a) (plV v b))(h2:befP (plV v a) (plV v c))(h3:befP (plV v a) (plV v d)):
  (0<crs (plV v b) (plV v c) (plV v d)->0<DH (plV v) (hV v) a b c d)/\(crs (plV v b) (plV v c) (plV v d)<0->DH (plV v) (hV v) a b c d<0):=by
 rw[Afm,h0,Int.mul_zero,Int.zero_add];have k1:=Aln (Agm hb h1);have k2:=Aln (Agm hc h2);have k3:=Aln (Agm hd h3);have e:KK=4611686018427387904:=rfl;rw[e] at k1 k2 k3;have w0:=Vx (aft v a);have w1:=Vx (aft v b);have w2:=Vx (aft v c);have w3:=Vx (aft v d);rw[e] at w0 w1 w2 w3;rw[e];have c1:=Hp (hv.ok b hb) (hv.ok c hc) (hv.ok d hd);have c2:=Hp (hv.ok c hc) (hv.ok a ha) (hv.ok d hd);have c3:=Hp (hv.ok a ha) (hv.ok b hb) (hv.ok d hd);have c4:=Hp (hv.ok a ha) (hv.ok b hb) (hv.ok c hc);generalize (4611686018427387904:Int)^aft v a=wa at *;generalize (4611686018427387904:Int)^aft v b=wb at *;generalize (4611686018427387904:Int)^aft v c=wc at *;generalize (4611686018427387904:Int)^aft v d=wd at *;have m2:=Uk (w:=wb) (C:=576460752303423488) oo (Int.le_refl _) oo c2.1 c2.2;have m3:=Uk (w:=wc) (C:=576460752303423488) oo (Int.le_refl _) oo c3.1 c3.2;have m4:=Uk (w:=wd) (C:=576460752303423488) oo (Int.le_refl _) oo c4.1 c4.2;unfold Dt;constructor
 .intro hp;have:=Int.mul_le_mul_of_nonneg_left (oo:1<=crs (plV v b) (plV v c) (plV v d)) (oo:0<=wa);omega
 .intro hp;have:=Int.mul_le_mul_of_nonneg_left (oo:crs (plV v b) (plV v c) (plV v d)<=-1) (oo:0<=wa);omega
theorem Ajt(h0:inC (plV v a) (plV v b) (plV v c) (plV v d)=0)(h1:befP (plV v d) (plV v a))(h2:befP (plV v d) (plV v b))(h3:befP (plV v d) (plV v c))(hp:0<crs (plV v a) (plV v b) (plV v c)):DH (plV v) (hV v) a b c d<0:=by
 rw[Afm,h0,Int.mul_zero,Int.zero_add];have k1:=Aln (Agm ha h1);have k2:=Aln (Agm hb h2);have k3:=Aln (Agm hc h3);have e:KK=4611686018427387904:=rfl;rw[e] at k1 k2 k3;have w0:=Vx (aft v a);have w1:=Vx (aft v b);have w2:=Vx (aft v c);have w3:=Vx (aft v d);rw[e] at w0 w1 w2 w3;rw[e];have c1:=Hp (hv.ok b hb) (hv.ok c hc) (hv.ok d hd);have c2:=Hp (hv.ok c hc) (hv.ok a ha) (hv.ok d hd);have c3:=Hp (hv.ok a ha) (hv.ok b hb) (hv.ok d hd);generalize (4611686018427387904:Int)^aft v a=wa at *;generalize (4611686018427387904:Int)^aft v b=wb at *;generalize (4611686018427387904:Int)^aft v c=wc at *;generalize (4611686018427387904:Int)^aft v d=wd at *;have m1:=Uk (w:=wa) (C:=576460752303423488) oo (Int.le_refl _) oo c1.1 c1.2;have m2:=Uk (w:=wb) (C:=576460752303423488) oo (Int.le_refl _) oo c2.1 c2.2;have m3:=Uk (w:=wc) (C:=576460752303423488) oo (Int.le_refl _) oo c3.1 c3.2;unfold Dt;have:=Int.mul_le_mul_of_nonneg_left (oo:1<=crs (plV v a) (plV v b) (plV v c)) (oo:0<=wd);omega
end
theorem Adc{v:List Ae}(hv:Iv v):Ajs (plV v) (hV v) (inN v.length):=by
 intro a b c d ha hb hc hd h1 h2 h3;rcases h3 with h3|h3
 .exact Am8 hv ha hb hc hd (Ajm h1 h2 h3)
 .exact Am8 hv ha hb hc hd (Acp h1 h2 h3)
theorem Aif(a b c d:Ab):inC b c a d=inC a b c d:=by unfold inC lft crs;grind
theorem Mj{p q r:Ab}(h1:befP p q)(h2:befP q r):befP p r:=by unfold befP at *;omega
theorem Wv{p q:Ab}(h1:befP p q)(h2:befP q p):False:=by unfold befP at *;omega
theorem Qs{p q:Ab}(h:¬Co p q):befP p q\/befP q p:=by unfold befP Co at *;omega
theorem Aku{a b c d:Ab}(n1:¬ Co a b)(n2:¬ Co a c)(n3:¬ Co a d)(n4:¬ Co b c)(n5:¬ Co b d)(n6:¬ Co c d):
  (befP a b/\befP a c/\befP a d)\/(befP b c/\befP b a/\befP b d)\/(befP c a/\befP c b/\befP c d)\/(befP d a/\befP d b/\befP d c):=by
 rcases Qs n1 with h1|h1
 .rcases Qs n6 with h2|h2
  .rcases Qs n2 with h3|h3
   .exact .inl ⟨h1,h3,Mj h3 h2⟩
   .exact .inr (.inr (.inl ⟨h3,Mj h3 h1,h2⟩))
  .rcases Qs n3 with h3|h3
   .exact .inl ⟨h1,Mj h3 h2,h3⟩
   .exact .inr (.inr (.inr ⟨h3,Mj h3 h1,h2⟩))
 .rcases Qs n6 with h2|h2
  .rcases Qs n4 with h3|h3
   .exact .inr (.inl ⟨h3,h1,Mj h3 h2⟩)
   .exact .inr (.inr (.inl ⟨Mj h3 h1,h3,h2⟩))
  .rcases Qs n5 with h3|h3
   .exact .inr (.inl ⟨Mj h3 h2,h1,h3⟩)
   .exact .inr (.inr (.inr ⟨Mj h3 h1,h3,h2⟩))
theorem Alo{v:List Ae}(hv:Iv v){a b c d:Int}(ha:inN v.length a)(hb:inN v.length b)(hc:inN v.length c)(hd:inN v.length d)(h1:0<crs (plV v a) (plV v b) (plV v c))(h2:crs (plV v a) (plV v b) (plV v d)<0):
  (legP (plV v a) (plV v b) (plV v c) (plV v d)↔DH (plV v) (hV v) a b c d<0)/\DH (plV v) (hV v) a b c d≠0:=by
 have hs:Int.sign (crs (plV v a) (plV v b) (plV v c))=1:=Int.sign_eq_one_of_pos h1;have n1:=Abq (P:=plV v) (a:=a) (b:=b) (c:=c) oo;have n2:=Abq (P:=plV v) (a:=a) (b:=b) (c:=d) oo;have ncd:c≠d:=fun e=>by subst e;omega
 have nab:¬Co (plV v a) (plV v b):=fun e=>n1.1 (hv.dist a b ha hb e)
 have nac:¬Co (plV v a) (plV v c):=fun e=>n1.2.2 (hv.dist a c ha hc e).symm
 have nad:¬Co (plV v a) (plV v d):=fun e=>n2.2.2 (hv.dist a d ha hd e).symm
 have nbc:¬Co (plV v b) (plV v c):=fun e=>n1.2.1 (hv.dist b c hb hc e)
 have nbd:¬Co (plV v b) (plV v d):=fun e=>n2.2.1 (hv.dist b d hb hd e)
 have ncd':¬Co (plV v c) (plV v d):=fun e=>ncd (hv.dist c d hc hd e)
 unfold legP;rw[hs,Int.one_mul];rcases Int.lt_trichotomy (inC (plV v a) (plV v b) (plV v c) (plV v d)) 0 with g|g|g
 .have:=Am8 hv ha hb hc hd g;rw[Int.sign_eq_neg_one_of_neg g];exact⟨⟨fun _=>this,fun _=>.inl oo⟩,oo⟩
 ·rw[g,Int.sign_zero];have k1:0<crs (plV v b) (plV v c) (plV v d):=by
   rcases Int.lt_or_le 0 (crs (plV v b) (plV v c) (plV v d)) with k|k
   .exact k
   .have:=Ajm h1 h2 k;omega
  have k2:0<crs (plV v c) (plV v a) (plV v d):=by
   rcases Int.lt_or_le 0 (crs (plV v c) (plV v a) (plV v d)) with k|k
   .exact k
   .have:=Acp h1 h2 k;omega
  have fa:=Zc hv ha hb hc hd g;have fd:=Ajt hv ha hb hc hd g;have fb:=Zc hv hb hc ha hd (by rw[Aif];exact g);have fc:=Zc hv hc ha hb hd (by rw[<-Aif];exact g);rw[Aeo] at fb;rw[<-Aeo] at fc;have key:=Aku nab nac nad nbc nbd ncd';rcases key with⟨b1,b2,b3⟩|⟨b1,b2,b3⟩|⟨b1,b2,b3⟩|⟨b1,b2,b3⟩
  .have:=(fa b1 b2 b3).1 k1;refine⟨⟨fun h=>?_,fun h=>oo⟩,oo⟩;rcases h with h|⟨_,⟨h,_⟩|⟨h,_⟩⟩
   .omega
   .exact (Wv b2 h).elim
   .exact (Wv b3 h).elim
  .have:=(fb b1 b2 b3).1 k2;refine⟨⟨fun h=>?_,fun h=>oo⟩,oo⟩;rcases h with h|⟨_,⟨_,h⟩|⟨_,h⟩⟩
   .omega
   .exact (Wv b1 h).elim
   .exact (Wv b3 h).elim
  .have:=(fc b1 b2 b3).2 h2;refine⟨⟨fun h=>this,fun h=>.inr ⟨rfl,.inl ⟨b1,b2⟩⟩⟩,oo⟩
  .have:=fd b1 b2 b3 h1;refine⟨⟨fun h=>this,fun h=>.inr ⟨rfl,.inr ⟨b1,b2⟩⟩⟩,oo⟩
 .have:=Bgx hv ha hb hc hd g;rw[Int.sign_eq_one_of_pos g];refine⟨⟨fun h=>?_,fun h=>oo⟩,oo⟩;omega
end Go.Proofs.YthlkpgdfifnagaaGreat
