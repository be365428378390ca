import Derived.Test.YthlkpgdfifnagaaGreatV5
namespace Go.Proofs.YthlkpgdfifnagaaGreat
open Go Go.RowKit List
noncomputable section
section
theorem Ai1(v:List Ae):Rs v []=some 0:=by
 unfold Rs;rw[jn_d,Ay];unfold Vf;try dsimp only
 rw[iN s_];try dsimp only
 rw[Ac];try dsimp only
 rw[jn_d,Ay];unfold Tz;try dsimp only
 rw[iN s_];rfl
theorem Aq0:Xp []=some []:=by
 unfold Xp;rw[jn_d,Ay];unfold Zn;try dsimp only
 rw[iN s_];try dsimp only
 rw[Ac];try dsimp only
 rw[gd_t s_];rw[show Bf cmp2 []=[] from by simp[Bf]]
theorem Akp:lfix (We []) ()=some ():=by
 rw[Ay];unfold We;rw[iN s_]
theorem Ai2{v:List Ae}(h:Ajh v):Wl v [] :=
 ⟨List.Pairwise.nil,nodup_nil,fun t=>⟨fun h=>(by cases h),fun g=>(by have:=h _ _ _ g.2.2.1 g.2.2.2.1 g.2.2.2.2.1;have:=g.2.2.2.2.2.1;omega)⟩⟩
theorem Aok{v:List Ae}(h:Wu v=0):∃T,Td v []=some (⟨v,T,[]⟩,0)/\Wl v T:=by
 obtain⟨hn,_,hv⟩:=Ahm h;obtain⟨l,hl,hr⟩:=Aoy hv hn;obtain⟨m,h1,h2⟩:=Ayn hv hn hr [];unfold Td;rw[Ahn,h,Ac,iP rfl,Ai1,Ac,iP rfl,Aq0,Ac,hl,Ac,h1,Ac,jn_d];dsimp only;have hcl:Qj v=some v:=by
  unfold Qj;rw[gd_t oo]
 rcases h2 with⟨h3,rfl⟩|⟨h3,h4,h5,h6,h7⟩
 .rw[iN s_];have ht:=Afx (n:=v.length) hn (b:=⟨v,[],[]⟩) ⟨List.Pairwise.nil,s_⟩;rw[hcl,Ac,ht,Ac];exact⟨_,rfl,by simpa[Bf] using Ai2 h3⟩
 .have hpos:0<m.length:=length_pos_iff.2 h7;rw[iP oo,jn_d,Akp,Ac];obtain⟨m',g1,g2,g3⟩:=Avg (b:=⟨v,m,[]⟩) hv hn h4 h5;rw[g1,Ac];dsimp only at g1 g2 g3 ⊢;have ht:=Afx (n:=v.length) hn (b:=⟨v,m',[]⟩) g2.map;rw[hcl,Ac,ht,Ac];refine⟨_,rfl,Bb2 g2.map (Aoz hv g2.map g2.tri (g3.cov _ h6) (fun i j k l hk hl=>?_) ?_)⟩
  .rcases g2.pend i j k l hk hl with q|q|q
   .cases q
   .unfold Fx mget at q;simp at q
   .exact q
  .exact g3.ne h7
theorem Alb{v:List Ae}(lines:List Ad)(h:Wu v≠0):Td v lines=some (⟨[],[],[]⟩,Wu v):=by
 unfold Td;rw[Ahn,Ac,iN h]
section
variable {α:Type}{lt:α->α->Bool}
theorem Ax5(htr:∀ x y z,lt y x=false->lt z y=false->lt z x=false)(has:∀ x y,lt x y=true->lt y x=false){B:List α × Int->Option (Sum (List α × Int) (List α))}(hB:∀ (A:List α) (y x:α) (R:List α),A.length<=100000000->B (A++y::x::R,((A.length+1:Nat):Int))=if lt x y=true then some (.inl (A++x::y::R,(A.length:Int))) else some (.inr (A++y::x::R)))(hB0:∀ (x:α) (R:List α),B (x::R,0)=some (.inr (x::R))):
  ∀(n:Nat) (A C D:List α) (x:α),A.length=n->n<=100000000->((A++C).Pairwise fun x y=>lt y x=false)->(∀c∈C,lt x c=true)->∃A' C',A'++C'=A++C/\lfix B (A++x::(C++D),(A.length:Int))=some (A'++x::(C'++D))/\(A'++x::C').Pairwise fun x y=>lt y x=false:=by
 intro n
 induction n with
 |zero=>
  intro A C D x hA _ hs hc;have:A=[]:=eq_nil_of_length_eq_zero hA;subst this;refine⟨[],C,rfl,?_,?_⟩
  .rw[nil_append,Ay,show ((([]:List α).length:Nat):Int)=0 from rfl,hB0]
  .exact pairwise_cons.2 ⟨fun c hc'=>has _ _ (hc c hc'),hs⟩
 |succ n ih=>
  intro A C D x hA hn hs hc;obtain⟨A',y,rfl⟩:∃A' y,A=A'++[y]:=⟨A.dropLast,A.getLast (fun e=>by rw[e] at hA;simp at hA),(dropLast_concat_getLast _).symm⟩;have hA':A'.length=n:=by simpa using hA
  have e1:(A'++[y])++x::(C++D)=A'++y::x::(C++D):=s_;have e2:(((A'++[y]).length:Nat):Int)=((A'.length+1:Nat):Int):=s_;rw[e1,e2,Ay,hB _ _ _ _ oo]
  by_cases c:lt x y=true
  .rw[iP c];dsimp only;obtain⟨A2,C2,g1,g2,g3⟩:=ih A' (y::C) D x hA' oo (sV hs) (fun z hz=>by rcases mem_cons.1 hz with rfl|hz;exact c;exact hc z hz);exact⟨A2,C2,by rw[g1];simp,g2,g3⟩
  .rw[iN c];have c':lt x y=false:=by simpa using c
   refine⟨A'++[y],C,rfl,s_,?_⟩;rw[pairwise_append] at hs⊢;obtain⟨h1,h2,h3⟩:=hs;refine⟨h1,pairwise_cons.2 ⟨fun z hz=>has _ _ (hc z hz),h2⟩,fun z hz w hw=>?_⟩;rcases mem_cons.1 hw with rfl|hw
   .rw[pairwise_append] at h1;rcases mem_append.1 hz with hz|hz
    .exact htr _ _ _ (h1.2.2 z hz y s_) c'
    .rw[mem_singleton] at hz;subst hz;exact c'
   .exact h3 z hz w hw
theorem Aol(htr:∀ x y z,lt y x=false->lt z y=false->lt z x=false)(has:∀ x y,lt x y=true->lt y x=false){B:List α × Int->Option (Sum (List α × Int) (List α))}{B2:List α × Int->Option (Sum (List α × Int) (List α))}{p:List α}(hB:∀ (A:List α) (y x:α) (R:List α),A.length<=100000000->B (A++y::x::R,((A.length+1:Nat):Int))=if lt x y=true then some (.inl (A++x::y::R,(A.length:Int))) else some (.inr (A++y::x::R)))(hB0:∀ (x:α) (R:List α),B (x::R,0)=some (.inr (x::R)))(hp:p.length<=100000000)(h2:∀ (l:List α) (k:Nat),k<p.length->B2 (l,(k:Int))=bnd (lfix B (l,(k:Int))) fun t=>some (.inl (t,((k+1:Nat):Int))))(h3:∀ l:List α,B2 (l,(p.length:Int))=some (.inr l)):
  ∃r,lfix B2 (p,0)=some r/\r.Perm p/\r.Pairwise fun x y=>lt y x=false:=by
 refine Ax (B:=B2) (fun s=>p.length-s.2.toNat) (fun s=>∃S D:List α,s=(S++D,(S.length:Int))/\(S++D).Perm p/\S.Pairwise fun x y=>lt y x=false) _ (fun s hs=>?_) _ ⟨[],p,rfl,List.Perm.refl _,List.Pairwise.nil⟩;obtain⟨S,D,rfl,h4,h5⟩:=hs;have hlen:=h4.length_eq;rw[length_append] at hlen;rcases D with _|⟨x,D⟩
 .right;have:S.length=p.length:=by simpa using hlen
  rw[this,h3];exact⟨_,rfl,h4,sV h5⟩
 .left;rw[length_cons] at hlen;rw[h2 _ _ oo];obtain⟨A',C',g1,g2,g3⟩:=Ax5 htr has hB hB0 S.length S [] D x rfl oo (sV h5) (fun c hc=>(by cases hc));rw[append_nil] at g1;rw[nil_append] at g2;rw[g2,Ac];have hl:A'.length+C'.length=S.length:=by rw[<-length_append,g1]
  have e:(A'++x::(C'++D))=(A'++x::C')++D:=s_;refine⟨_,rfl,⟨A'++x::C',D,by rw[e,length_append,length_cons,<-hl];congr 2,?_,g3⟩,by dsimp only;omega⟩;rw[<-e];refine List.Perm.trans ?_ h4;rw[<-g1];have:(A'++x::(C'++D)).Perm (x::(A'++(C'++D))):=perm_middle;refine this.trans ?_;have:((A'++C')++x::D).Perm (x::((A'++C')++D)):=perm_middle;rw[<-append_assoc];exact this.symm
end
theorem Amt{α:Type}(A:List α)(y x:α)(R:List α):idx (A++y::x::R) (A.length:Int)=some y/\idx (A++y::x::R) ((A.length+1:Nat):Int)=some x:=by
 constructor
 .rw[Aj s_];simp
 .rw[Aj s_];simp
theorem Bbr(x y:Ah):Rj x y=some (decide (cmp3 x y<0)):=by
 obtain⟨x0,x1,x2⟩:=x;obtain⟨y0,y1,y2⟩:=y;have step:∀(a b c a' b' c':Int) (i:Int) (h:Int),w64 (i+1)=h->∀p q,i<3->idx [a,b,c] i=some p->idx [a',b',c'] i=some q->Ib ⟨a,b,c⟩ ⟨a',b',c'⟩ i=if p=q then some (.inl h) else some (.inr (.inr (decide (p<q)))):=by
  intro a b c a' b' c' i h hh p q hi hp hq;unfold Ib;dsimp only;rw[iP hi,hp,Ac,hq,Ac,Ac,Ac,hh]
 have w1:w64 (0+1)=1:=Aq oo oo;have w2:w64 (1+1)=2:=Aq oo oo;have w3:w64 (2+1)=3:=Aq oo oo;have s0:=step x0 x1 x2 y0 y1 y2 0 1 w1 x0 y0 oo rfl rfl;have s1:=step x0 x1 x2 y0 y1 y2 1 2 w2 x1 y1 oo rfl rfl;have s2:=step x0 x1 x2 y0 y1 y2 2 3 w3 x2 y2 oo rfl rfl;have s3:Ib ⟨x0,x1,x2⟩ ⟨y0,y1,y2⟩ 3=some (.inr (.inl ())):=by unfold Ib;rw[iN oo]
 unfold Rj;rw[jn_d,Ay,s0];have key:∀P:Prop,∀Q:Prop,[Decidable P]->[Decidable Q]->(P↔Q)->some (decide P)=some (decide Q):=fun P Q _ _ h=>by rw[decide_eq_decide.2 h]
 have hc:=Adi ⟨x0,x1,x2⟩ ⟨y0,y1,y2⟩;dsimp only at hc
 by_cases h0:x0=y0
 .rw[iP h0];dsimp only;rw[Ay,s1]
  by_cases h1:x1=y1
  .rw[iP h1];dsimp only;rw[Ay,s2]
   by_cases h2:x2=y2
   .rw[iP h2];dsimp only;rw[Ay,s3,Ac];dsimp only;rw[dF (fun g=>by have:=hc.1 g;omega)]
   .rw[iN h2,Ac];dsimp only;exact key _ _ (by rw[hc];omega)
  .rw[iN h1,Ac];dsimp only;exact key _ _ (by rw[hc];omega)
 .rw[iN h0,Ac];dsimp only;exact key _ _ (by rw[hc];omega)
theorem Aq1(p:List Ah)(hp:p.length<=100000000):∃r,Oa p=some r/\r.Perm p/\r.Pairwise fun x y=>¬cmp3 y x<0:=by
 have:=Aol (lt:=fun x y:Ah=>decide (cmp3 x y<0)) (B:=Jb) (B2:=Jc p) (p:=p)
  (fun x y z h1 h2=>by
   simp only[decide_eq_false_iff_not,Adi] at *;omega)
  (fun x y h=>by
   simp only[decide_eq_false_iff_not,dQ,Adi] at *;omega)
  (fun A y x R hA=>by
   obtain⟨i0,i1⟩:=Amt A y x R;have w1:w64 (((A.length+1:Nat):Int)-1)=(A.length:Int):=by rw[Aq oo oo];omega
   unfold Jb;dsimp only;rw[jn_d,iP oo,w1,i1,Ac,i0,Ac,Bbr,Ac]
   by_cases c:decide (cmp3 x y<0)=true
   .have e1:(A++y::x::R).set (A.length+1) y=A++y::y::R:=by simp[set_append]
    have e2:(A++y::y::R).set A.length x=A++x::y::R:=by simp[set_append]
    have j0:∃z,idx (A++y::y::R) (A.length:Int)=some z:=⟨_,(Amt A y y R).1⟩;obtain⟨z,j0⟩:=j0;dsimp only;rw[iP c,iP c,Ac,Ac,Ac,Fo,e1,j0,Ac,Fo,e2]
   .dsimp only;rw[iN c,iN c])
  (fun x R=>by
   unfold Jb;dsimp only;rw[jn_d,iN oo];dsimp only;rw[iN s_])
  hp
  (fun l k hk=>by
   unfold Jc;dsimp only;rw[iP oo,jn_d,show w64 ((k:Int)+1)=((k+1:Nat):Int) from by rw[Aq oo oo];omega])
  (fun l=>by
   unfold Jc;dsimp only;rw[iN oo])
 obtain⟨r,h1,h2,h3⟩:=this;refine⟨r,?_,h2,h3.imp fun h=>by simpa using h⟩;unfold Oa;rw[jn_d,h1,Ac]
variable {v:List Ae}
theorem Au5{a b c:Int}(h:Del v a b c):∃t,Ob ⟨a,b,c⟩=some t/\Al3 v t/\Vg t a b/\(∀p q,Vg t p q↔Vg ⟨a,b,c⟩ p q):=by
 have hn:=Abq (P:=plV v) (a:=a) (b:=b) (c:=c) (by have:=h.2.2.2.1;omega);have stop:∀x y z:Int,¬y<x->¬z<x->Fu (x,y,z)=some (.inr (x,y,z)):=fun x y z h1 h2=>by
  unfold Fu;dsimp only;rw[jn_d,iN h1,dF h2];dsimp only;rw[iN s_]
 have more:∀x y z:Int,y<x\/z<x->Fu (x,y,z)=some (.inl (y,z,x)):=fun x y z h1=>by
  unfold Fu;dsimp only;rw[jn_d]
  by_cases c:y<x
  .rw[iP c];dsimp only;rw[iP rfl]
  .rw[iN c,dT (h1.resolve_left c)];dsimp only;rw[iP rfl]
 unfold Ob;rw[jn_d];dsimp only
 by_cases h1:b<a\/c<a
 .rw[Ay,more _ _ _ h1];dsimp only
  by_cases h2:c<b\/a<b
  .rw[Ay,more _ _ _ h2];dsimp only;rw[Ay,stop _ _ _ oo oo,Ac];refine⟨_,rfl,⟨by dsimp only;omega,by dsimp only;omega,h.rot.rot⟩,.inr (.inl ⟨rfl,rfl⟩),fun p q=>?_⟩;unfold Vg;dsimp only;omega
  .rw[Ay,stop _ _ _ oo oo,Ac];refine⟨_,rfl,⟨by dsimp only;omega,by dsimp only;omega,h.rot⟩,.inr (.inr ⟨rfl,rfl⟩),fun p q=>?_⟩;unfold Vg;dsimp only;omega
 .rw[Ay,stop _ _ _ oo oo,Ac];exact⟨_,rfl,⟨by dsimp only;omega,by dsimp only;omega,h⟩,.inl ⟨rfl,rfl⟩,fun p q=>Iff.rfl⟩
theorem Be1{n:Nat}(hn:n<=1024){t:Ah}(h0:inN n t.a0)(h1:inN n t.a1)(h2:inN n t.a2){s:List Ad × (List (Ad × Bool)) × List Ah}{op:List Ad}{dn:List (Ad × Bool)}(hop:op.length<=10000000)(hdn:dn.length<=10000000)(hpl:∀ (m:List (Ad × Bool)) (x:Ad),(mput m x true).length<=m.length+1):
  lfix (Cj t s) (op,dn,0)=some (op++[⟨t.a1,t.a0⟩,⟨t.a2,t.a1⟩,⟨t.a0,t.a2⟩],mput (mput (mput dn ⟨t.a0,t.a1⟩ true) ⟨t.a1,t.a2⟩ true) ⟨t.a2,t.a0⟩ true,s.2.2++[t]):=by
 unfold inN at h0 h1 h2;have step:∀ (op:List Ad) (dn:List (Ad × Bool)) (i j:Int) (p q:Int),op.length<=20000000->dn.length<=20000000->0<=i->i<3->Int.tmod (w64 (i+1)) 3=j->idx [t.a0,t.a1,t.a2] i=some p->idx [t.a0,t.a1,t.a2] j=some q->(0<=p/\p<1024)->(0<=q/\q<1024) ->
   Cj t s (op,dn,i)=some (.inl (op++[⟨q,p⟩],mput dn ⟨p,q⟩ true,i+1)):=fun op dn i j p q ho hd hi hi3 hj hp hq hpr hqr=>by
  unfold Cj;dsimp only;rw[iP hi3,hp,Ac,hj,hq,Ac,gd_t ⟨⟨oo,oo⟩,oo,oo⟩,gd_t oo,gd_t oo,Aq oo oo]
 have last:∀(op:List Ad) (dn:List (Ad×Bool)),Cj t s (op,dn,3)=some (.inr (op,dn,s.2.2++[t])):=fun op dn=>by
  unfold Cj;dsimp only;rw[iN oo]
 have l1:=hpl dn ⟨t.a0,t.a1⟩;have l2:=hpl (mput dn ⟨t.a0,t.a1⟩ true) ⟨t.a1,t.a2⟩;have m0:Int.tmod (w64 (0+1)) 3=1:=by rw[Aq oo oo];rfl
 have m1:Int.tmod (w64 (1+1)) 3=2:=by rw[Aq oo oo];rfl
 have m2:Int.tmod (w64 (2+1)) 3=0:=by rw[Aq oo oo];rfl
 rw[Ay,step op dn 0 1 t.a0 t.a1 oo oo oo oo m0 rfl rfl oo oo];dsimp only;rw[Ay,show (0:Int)+1=1 from rfl,step _ _ 1 2 t.a1 t.a2 (by simp;omega) oo oo oo m1 rfl rfl oo oo];dsimp only;rw[Ay,show (1:Int)+1=2 from rfl,step _ _ 2 0 t.a2 t.a0 (by simp;omega) oo oo oo m2 rfl rfl oo oo];dsimp only;rw[Ay,show (2:Int)+1=3 from rfl,last];simp
def dnM(m:List (Ad×Bool))(p q:Int):Prop:=(mget m ⟨p,q⟩).getD false=true
theorem Aia{m:List (Ad×Bool)}(hm:Cx m)(x y p q:Int):dnM (mput m ⟨x,y⟩ true) p q↔dnM m p q\/(p=x/\q=y):=by
 unfold dnM;rw[Mq hm]
 by_cases h:(⟨p,q⟩:Ad)=⟨x,y⟩
 .rw[iP h];simp only[Ad.mk.injEq] at h;simp[h]
 .rw[iN h];simp only[Ad.mk.injEq] at h;exact⟨.inl,fun g=>g.elim id fun g=>absurd g h⟩
theorem Aay(m:List (Ad×Bool))(x:Ad):(mput m x true).length<=m.length+1:=by
 unfold mput;have:(mdel m x).length<=m.length:=length_filter_le _ _;simp only[length_cons,length_append,length_nil];omega
theorem Ai3(hv:Iv v)(hn:v.length<=1024){p0 q0:Int}(h0:okS v p0 q0)(hs:∃ e,Del v p0 q0 e):
  ∃out,lfix (Fv v []) ([⟨p0,q0⟩],([]:List (Ad×Bool)),([]:List Ah))=some out/\out.Nodup/\out.length<=1048576/\∀t,t∈out↔t.a0<t.a1/\t.a0<t.a2/\Del v t.a0 t.a1 t.a2:=by
 have hsq:=Ahr hn;refine Ax (B:=Fv v []) (fun s=>4*(v.length*v.length-s.2.2.length)+s.1.length)
  (fun s=>Tr v p0 q0 s.1 (dnM s.2.1) s.2.2/\Cx s.2.1/\s.2.1.length+s.1.length<=1+6*s.2.2.length) _ (fun s hst=>?_) _ ⟨Tr.init h0 (fun p q h=>by simp[dnM,Aoi] at h),List.Pairwise.nil,s_⟩
 obtain⟨op,dn,out⟩:=s;obtain⟨h1,h2,h3⟩:=hst;dsimp only at h1 h2 h3;have hb:=h1.bound;have hl:=h1.len;unfold Fv;dsimp only
 by_cases hop:op=[]
 .right;subst hop;rw[iN s_];exact⟨_,rfl,h1.nd,oo,h1.full hs⟩
 .left;obtain⟨r,s,rfl⟩:∃r s,op=r++[s]:=⟨op.dropLast,op.getLast hop,(dropLast_concat_getLast hop).symm⟩;obtain⟨s1,s2,s3⟩:=h1.opn s s_;have hln:(r++[s]).length=r.length+1:=s_;have w1:w64 ((((r++[s]).length:Nat):Int)-1)=(r.length:Int):=by rw[hln,Aq oo oo];omega
  have i1:idx (r++[s]) (r.length:Int)=some s:=by rw[Aj s_];simp
  have tk:List.take (Int.toNat (r.length:Int)) (r++[s])=r:=s_;have hr1:=Wb hn s1 s2;rw[iP oo,w1,i1,Ac,gd_t ⟨oo,oo⟩,gd_t hr1,Ac,tk]
  by_cases c1:(mget dn s).getD false=true
  .rw[iP c1];exact⟨_,rfl,⟨h1.skip c1,h2,by dsimp only;omega⟩,by dsimp only;omega⟩
  .rw[iN c1];obtain⟨c,e1,e2⟩:=Ann hv hn s1 s2;rw[e1,Ac];have hput:=Aay dn s
   by_cases c2:c<0
   ·have hno:noT v s.a0 s.a1:=by
     rcases e2 with⟨_,g⟩|g
     .exact g
     .have:=g.1.1;omega
    rw[iP c2,gd_t hr1,gd_t oo];exact⟨_,rfl,⟨h1.none (fun p q=>Aia h2 s.a0 s.a1 p q) hno,h2.put _ _,by dsimp only;omega⟩,by dsimp only;omega⟩
   ·have ht:Top v s.a0 s.a1 c:=by
     rcases e2 with⟨g,_⟩|g
     .omega
     .exact g
    have hd:Del v s.a0 s.a1 c:=by
     rcases s3 with g|⟨e,he⟩
     .have:=g c ht.1;have:=ht.2.1;omega
     .rw[<-he.top.unique ht];exact he
    obtain⟨t,t1,t2,t3,t4⟩:=Au5 hd;have tin:inN v.length t.a0/\inN v.length t.a1/\inN v.length t.a2:=⟨t2.2.2.1,t2.2.2.2.1,t2.2.2.2.2.1⟩;have hnew:=h1.more (dn':=dnM (mput (mput (mput dn ⟨t.a0,t.a1⟩ true) ⟨t.a1,t.a2⟩ true) ⟨t.a2,t.a0⟩ true)) c1 t2 t3 (fun p q=>by
      rw[Aia ((h2.put _ _).put _ _),Aia (h2.put _ _),Aia h2];unfold Vg;constructor
      .rintro (((g|g)|g)|g)
       .exact .inl g
       .exact .inr (.inl g)
       .exact .inr (.inr (.inl g))
       .exact .inr (.inr (.inr g))
      .rintro (g|g|g|g)
       .exact .inl (.inl (.inl g))
       .exact .inl (.inl (.inr g))
       .exact .inl (.inr g)
       .exact .inr g) (fun p q hpq=>by
      obtain⟨e,he⟩:=t2.side hpq;refine⟨he.2.1,he.1,?_⟩;obtain⟨x,_,hx⟩:=Ann hv hn he.2.1 he.1;rcases hx with⟨_,hx⟩|hx
      .exact .inl hx
      .exact .inr ⟨x,Top.across he hx⟩)
    have hb2:=hnew.bound;rw[length_append,length_singleton] at hb2;have q1:=Aay dn ⟨t.a0,t.a1⟩;have q2:=Aay (mput dn ⟨t.a0,t.a1⟩ true) ⟨t.a1,t.a2⟩;have q3:=Aay (mput (mput dn ⟨t.a0,t.a1⟩ true) ⟨t.a1,t.a2⟩ true) ⟨t.a2,t.a0⟩;rw[iN c2,t1,Ac,gd_t oo,Be1 hn tin.1 tin.2.1 tin.2.2 oo oo Aay,Ac];refine⟨_,rfl,⟨hnew,((h2.put _ _).put _ _).put _ _,?_⟩,?_⟩
    .dsimp only;simp only[length_append,length_cons,length_nil];rw[hln] at h3;omega
    .dsimp only;simp only[length_append,length_cons,length_nil];omega
theorem Ax6(hv:Iv v)(hn:v.length<=1024){f b:Int}(hf:inN v.length f)(low:∀k,inN v.length k->k=f\/befP (plV v f) (plV v k))(hb:inN v.length b)(hbf:b≠f)(hh:∀k,inN v.length k->k≠f->behind v f b k)(hfl:¬Ajh v):∃e,Del v f b e:=by
 obtain⟨c,_,hc⟩:=Ann hv hn hf hb;have left:∀d,inN v.length d->0<=crs (plV v f) (plV v b) (plV v d):=fun d hd=>by
  by_cases e:d=f
  .rw[e,Hd];exact Int.le_refl _
  .rcases hh d hd e with g|g <;> omega
 rcases hc with⟨_,hc⟩|hc
 .exfalso;have on:∀d,inN v.length d->crs (plV v f) (plV v b) (plV v d)=0:=fun d hd=>by have:=left d hd;have:=hc d hd;omega
  exact hfl fun i j k hi hj hk=>Afw (Abd hv hf hb (fun e=>hbf e.symm)) (on i hi) (on j hj) (on k hk)
 ·refine⟨c,hc.hull hv hf hb left fun d hd n1 n2 h0 x hx=>?_⟩;have h1:befP (plV v f) (plV v b):=(low b hb).resolve_left hbf;have h2:befP (plV v b) (plV v d):=by
   rcases hh d hd n1 with g|g
   .omega
   .exact (Qs (Abd hv hb hd (fun e=>n2 e.symm))).resolve_right g.2
  exact Ar3 (hv.ok _ hf) (hv.ok _ hb) (hv.ok _ hd) h1 h2 h0 hx
theorem Ax7(hv:Iv v)(hn:v.length<=1024)(h0:0<v.length):∃f,inN v.length f/\∀k,inN v.length k->k=f\/befP (plV v f) (plV v k):=by
 obtain⟨l,hl,hr⟩:=Aoy hv hn;have hlen:=hr.len;have g0:0<l.length:=oo;refine⟨l[0],hr.val.1 (gM g0),fun k hk=>?_⟩;obtain⟨j,hj,rfl⟩:=getElem_of_mem (hr.val.2 hk)
 by_cases e:j=0
 .subst e;exact .inl rfl
 .exact .inr (hr.lt g0 hj oo)
theorem Aom(hv:Iv v)(h3:3<=v.length):(∀k,2<=k->inN v.length k->crs (plV v 0) (plV v 1) (plV v k)=0)↔Ajh v:=by
 have i0:inN v.length 0:=⟨oo,oo⟩;have i1:inN v.length 1:=⟨oo,oo⟩;constructor
 ·intro h i j k hi hj hk;have on:∀ d,inN v.length d->crs (plV v 0) (plV v 1) (plV v d)=0:=fun d hd=>by
   by_cases e0:d=0
   .subst e0;exact Hd _ _
   .by_cases e1:d=1
    .subst e1;exact Ce _ _
    .exact h d (by have:=hd.1;omega) hd
  exact Afw (Abd hv i0 i1 oo) (on i hi) (on j hj) (on k hk)
 .intro h k _ hk;exact h 0 1 k i0 i1 hk
theorem Akq(hv:Iv v)(hn:v.length<=1024):∃T,Jd v []=some T/\Wl v T:=by
 unfold Jd;rw[jn_d];have flatT:Ajh v->∃T,(some ([]:List Ah))=some T/\Wl v T:=fun h=>⟨[],rfl,Ai2 h⟩
 by_cases c:v.length<3
 .rw[iP oo];dsimp only;rw[iP rfl];refine flatT fun i j k hi hj hk=>?_
  unfold inN at hi hj hk;have:i=j\/j=k\/i=k:=oo;rcases this with rfl|rfl|rfl
  .exact Aa3 _ _
  .exact Ce _ _
  .exact Hd _ _
 .rw[iN oo];obtain⟨x,f1,f2⟩:=Bcx hv hn;rw[f1,Ac];dsimp only
  by_cases hx:x=true
  .rw[iP hx];exact flatT ((Aom hv oo).1 (f2.1 hx))
  .rw[iN hx];have hfl:¬Ajh v:=fun g=>hx (f2.2 ((Aom hv oo).2 g))
   obtain⟨f,hf,low⟩:=Ax7 hv hn oo;obtain⟨b,b1,b2,b3,b4⟩:=Awe hv hn hf low oo;obtain⟨e,he⟩:=Ax6 hv hn hf low b2 b3 b4 hfl;obtain⟨out,o1,o2,o3,o4⟩:=Ai3 hv hn ⟨hf,b2,.inr ⟨e,he⟩⟩ ⟨e,he⟩;obtain⟨r,r1,r2,r3⟩:=Aq1 out oo;rw[first_eq hn hf low,Ac,b1,Ac,jn_d,o1,Ac];dsimp only;rw[r1,Ac];exact⟨r,rfl,r3,r2.nodup_iff.2 o2,fun t=>by rw[r2.mem_iff];exact o4 t⟩
theorem Aeg(v:List Ae):Ht v []=some 0:=by
 unfold Ht;rw[jn_d,Ay];unfold Pb;try dsimp only
 rw[iN s_];try dsimp only
 rw[Ac];try dsimp only
 rw[jn_d,Ay];unfold Nb;try dsimp only
 rw[iN s_];rfl
theorem Ax8(v:List Ae)(hn:v.length<=1024):lfix (Kc v) (([]:List Ae),0)=some v:=by
 have:=Ax (B:=Kc v) (fun s=>v.length-s.2.toNat) (fun s=>∃k:Nat,k<=v.length/\s=(v.take k,(k:Int))) (fun t=>t=v) (fun s hs=>by
  obtain⟨k,hk,rfl⟩:=hs;unfold Kc;dsimp only
  by_cases hk2:k<v.length
  .left;rw[iP oo,Aj hk2,Ac,gd_t (by rw[length_take];omega),show w64 ((k:Int)+1)=((k+1:Nat):Int) from by rw[Aq oo oo];omega];exact⟨_,rfl,⟨k+1,hk2,by rw[take_succ_eq_append_getElem hk2]⟩,by dsimp only;omega⟩
  .right;rw[iN oo];have:k=v.length:=oo;subst this;exact⟨_,rfl,by rw[take_length]⟩) (([]:List Ae),0) ⟨0,oo,s_⟩
 obtain⟨t,ht,rfl⟩:=this;exact ht
theorem Ahw:Dm []=some []:=by
 unfold Dm;rw[jn_d,Ay];unfold Hu;try dsimp only
 rw[iN s_];try dsimp only
 rw[Ac];try dsimp only
 rw[jn_d,Ay];unfold Er;try dsimp only
 rw[iN s_];rfl
theorem Afh{v:List Ae}(h:Wu v=0):∃T,Ld v []=some (⟨v,T,[]⟩,0)/\Td v []=some (⟨v,T,[]⟩,0)/\Wl v T:=by
 obtain⟨hn,_,hv⟩:=Ahm h;obtain⟨T,t1,t2⟩:=Aok h;obtain⟨T',e1,e2⟩:=Akq hv hn;have:T'=T:=e2.unique t2;subst this;refine⟨T',?_,t1,t2⟩;unfold Ld Tn;rw[Ah3,h,Ac,iP rfl,Aeg,Ac,Ac,iP rfl,jn_d,Ax8 v hn,Ac,Ahw];dsimp only;rw[Ac,e1,Ac]
end
section
open Go.Sort
theorem w1{k n:Nat}(h:k<n)(hn:n<=1000000000):w64 ((k:Int)+1)=((k+1:Nat):Int):=by rw[Aq oo oo];omega
theorem has_eq{l:LI}(hl:l.length<=1000000)(n:Int):Fd l n=some (decide (n∈l)):=by
 unfold Fd;rw[jn_d];have:=Ax (B:=Sk l n) (fun s=>l.length-s.toNat) (fun s=>∃k:Nat,k<=l.length/\s=(k:Int)/\n∉l.take k) (fun t=>(t=.inl ()/\n∉l)\/(t=.inr true/\n∈l)) (fun s hs=>by
  obtain⟨k,hk,rfl,h⟩:=hs;unfold Sk
  by_cases hk2:k<l.length
  .rw[iP oo,Aj hk2,Ac]
   by_cases c:l[k]=n
   .right;rw[iP c];exact⟨_,rfl,.inr ⟨rfl,c▸gM hk2⟩⟩
   .left;rw[iN c,w1 hk2 oo];refine⟨_,rfl,⟨k+1,hk2,rfl,fun g=>?_⟩,oo⟩;rw[take_succ_eq_append_getElem hk2,mem_append,mem_singleton] at g;rcases g with g|g
    .exact h g
    .exact c g.symm
  .right;rw[iN oo];have:k=l.length:=oo;subst this;rw[take_length] at h;exact⟨_,rfl,.inl ⟨rfl,h⟩⟩) 0 ⟨0,oo,rfl,s_⟩
 obtain⟨t,ht,g|g⟩:=this
 .obtain⟨rfl,g⟩:=g;rw[ht,Ac];simp[g]
 .obtain⟨rfl,g⟩:=g;rw[ht,Ac];simp[g]
def Xz(l:List Aa)(ids:LI):Prop:=ids.Nodup/\∀i∈ids,∃p∈l,p.Id=i
instance(l:List Aa)(ids:LI):Decidable (Xz l ids):=Classical.propDecidable _
def selL(l:List Aa)(ids:LI):List Aa:=l.filter fun p=>decide (p.Id∈ids)
def Sj(l:List Aa)(ids:LI):List Aa:=Bf Hn (selL l ids)
variable {l:List Aa}{ids:LI}
theorem Xi(hl:X.Fit l):Al9 l:=⟨hl.id,fun x hx=>by have:=X.okPt_rng (hl.ok x hx);omega⟩
theorem Au6{m:List Aa}(h:Al9 l)(hm:∀x∈m,x∈l)(hn:(m.map (·.Id)).Nodup):Al9 m:=⟨hn,fun x hx=>h.2 x (hm x hx)⟩
theorem Be2{out:List Aa}(hl:X.Fit l)(h1:out.map (·.Id)=ids)(h2:∀p∈out,p∈l)(hn:ids.Nodup):out.Perm (selL l ids):=by
 have hon:out.Nodup:=X.nodup_of_ids (by rw[h1];exact hn);refine (perm_ext_iff_of_nodup hon ((X.nodup_of_ids hl.id).filter _)).2 fun p=>?_
 rw[mem_filter,dQ];constructor
 .intro hp;exact⟨h2 p hp,by rw[<-h1];exact mem_map_of_mem hp⟩
 .rintro⟨hp,hi⟩;rw[<-h1,mem_map] at hi;obtain⟨q,hq,e⟩:=hi;rw[<-Asf hl.id (h2 q hq) hp e];exact hq
theorem Aon{out:List Aa}(h:Al9 out)(hp:out.Perm (selL l ids)):Bf Hn out=Sj l ids :=
 Qt (totP out) (fun x hx=>⟨hx,h⟩) hp
theorem Ax9(hl:X.Fit l):∃m,lfix (Rl l) (([]:List (Int×Aa)),0)=some m/\Cx m/\∀x p,mget m x=some p↔p∈l/\p.Id=x:=by
 have hn:=hl.n;refine Ax (B:=Rl l) (fun s=>l.length-s.2.toNat) (fun s=>∃k:Nat,k<=l.length/\s.2=(k:Int)/\Cx s.1/\s.1.length<=k/\∀x p,mget s.1 x=some p↔p∈l.take k/\p.Id=x) _ (fun s hs=>?_) _ ⟨0,oo,rfl,List.Pairwise.nil,s_,fun x p=>by simp[Aoi]⟩;obtain⟨m,j⟩:=s;obtain⟨k,hk,rfl,h1,h2,h3⟩:=hs;dsimp only at h1 h2 h3;unfold Rl;dsimp only
 by_cases hk2:k<l.length
 .left;have hr:=X.okPt_rng (hl.ok _ (gM hk2));rw[iP oo,Aj hk2,Ac,gd_t oo,gd_t oo,w1 hk2 oo];refine⟨_,rfl,⟨k+1,hk2,rfl,h1.put _ _,?_,fun x p=>?_⟩,by dsimp only;omega⟩
  .dsimp only;unfold mput;have:(mdel m l[k].Id).length<=m.length:=length_filter_le _ _;rw[length_cons];omega
  .dsimp only;rw[Mq h1,take_succ_eq_append_getElem hk2,mem_append,mem_singleton]
   by_cases e:x=l[k].Id
   .rw[iP e];constructor
    .intro g;cases g
     exact⟨.inr rfl,e.symm⟩
    .rintro⟨g|g,g2⟩
     .rw[Asf hl.id (mem_of_mem_take g) (gM hk2) oo]
     .rw[g]
   .rw[iN e,h3];constructor
    .rintro⟨g,g2⟩;exact⟨.inl g,g2⟩
    .rintro⟨g|g,g2⟩
     .exact⟨g,g2⟩
     .rw[g] at g2;exact absurd g2.symm e
 .right;rw[iN oo];have:k=l.length:=oo;subst this;rw[take_length] at h3;exact⟨_,rfl,h1,h3⟩
theorem Aya(hl:X.Fit l)(hi:ids.length<=300){m:List (Int × Aa)}(hm:Cx m)(hg:∀ x p,mget m x=some p↔p∈l/\p.Id=x)(hr:∀ i∈ids,-9223372036854775808<=i/\i<=9223372036854775807):
  (∃out:List Aa,lfix (Ni ids) (m,([]:List Aa),0)=some (.inl out)/\out.map (·.Id)=ids/\(∀p∈out,p∈l)/\Xz l ids)\/(lfix (Ni ids) (m,([]:List Aa),0)=some (.inr ([],false))/\¬Xz l ids):=by
 have:=Ax (B:=Ni ids) (fun s=>ids.length-s.2.2.toNat)
  (fun s=>∃k:Nat,k<=ids.length/\s.2.2=(k:Int)/\Cx s.1/\s.2.1.map (·.Id)=ids.take k/\(∀p∈s.2.1,p∈l)/\(ids.take k).Nodup/\∀x p,mget s.1 x=some p↔p∈l/\p.Id=x/\x∉ids.take k)
  (fun t=>(∃out:List Aa,t=.inl out/\out.map (·.Id)=ids/\(∀p∈out,p∈l)/\Xz l ids)\/(t=.inr ([],false)/\¬Xz l ids)) (fun s hs=>by
  obtain⟨m,out,j⟩:=s;obtain⟨k,hk,rfl,h1,h2,h3,h4,h5⟩:=hs;dsimp only at h1 h2 h3 h5;unfold Ni;dsimp only
  by_cases hk2:k<ids.length
  .have ts:ids.take (k+1)=ids.take k++[ids[k]]:=take_succ_eq_append_getElem hk2;have hl2:out.length=k:=by have:=congrArg List.length h2;rw[length_map,length_take] at this;omega
   have hrk:=hr _ (gM hk2);rw[iP oo,Aj hk2,Ac,gd_t hrk,Ac];rcases e:mget m ids[k] with _|p
   ·right;rw[if_neg s_];refine⟨_,rfl,.inr ⟨rfl,fun g=>?_⟩⟩;obtain⟨q,q1,q2⟩:=g.2 _ (getElem_mem hk2);have hno:ids[k] ∉ ids.take k:=fun hin=>by
     obtain⟨i,hi',e'⟩:=getElem_of_mem hin;rw[length_take] at hi';rw[getElem_take] at e';have:=pairwise_iff_getElem.1 g.1 i k oo hk2 oo;exact this e'
    have:=(h5 ids[k] q).2 ⟨q1,q2,hno⟩;rw[e] at this;cases this
   .left;obtain⟨p1,p2,p3⟩:=(h5 _ _).1 e;rw[iP s_,gd_t hrk,gd_t oo,w1 hk2 oo];refine⟨_,rfl,⟨k+1,hk2,rfl,h1.del _,?_,fun q hq=>?_,?_,fun x q=>?_⟩,by dsimp only;omega⟩
    .dsimp only;rw[map_append,h2,ts];simp[p2]
    .dsimp only at hq;rcases mem_append.1 hq with hq|hq
     .exact h3 q hq
     .rw[mem_singleton] at hq;subst hq;exact p1
    .rw[ts,nodup_append];refine⟨h4,s_,fun a ha b hb e=>?_⟩;rw[mem_singleton] at hb;subst hb;subst e;exact p3 ha
    .dsimp only;rw[Xn h1,ts,mem_append,mem_singleton]
     by_cases c:x=ids[k]
     .rw[iP c];exact⟨fun g=>(by cases g),fun g=>absurd (.inr c) g.2.2⟩
     .rw[iN c,h5];exact⟨fun g=>⟨g.1,g.2.1,fun h=>h.elim g.2.2 c⟩,fun g=>⟨g.1,g.2.1,fun h=>g.2.2 (.inl h)⟩⟩
  .right;rw[iN oo];have:k=ids.length:=oo;subst this;rw[take_length] at h2 h4;refine⟨_,rfl,.inl ⟨out,rfl,h2,h3,h4,fun i hi=>?_⟩⟩;rw[<-h2,mem_map] at hi;obtain⟨p,hp,e⟩:=hi;exact⟨p,h3 p hp,e⟩) (m,[],0) ⟨0,oo,rfl,hm,s_,fun p hp=>(by cases hp),s_,fun x p=>by rw[hg];simp⟩
 obtain⟨t,ht,⟨out,rfl,g⟩|⟨rfl,g⟩⟩:=this
 .exact .inl ⟨out,ht,g⟩
 .exact .inr ⟨ht,g⟩
theorem Wp(hl:X.Fit l)(hi:ids.length<=300)(hr:∀i∈ids,-9223372036854775808<=i/\i<=9223372036854775807):Vu l ids=some (if Xz l ids then (Sj l ids,true) else ([],false)):=by
 obtain⟨m,h1,h2,h3⟩:=Ax9 hl;unfold Vu;rw[jn_d,h1,Ac];dsimp only;rw[gd_t oo,jn_d];rcases Aya hl hi h2 h3 hr with⟨out,g1,g2,g3,g4⟩|⟨g1,g2⟩
 .rw[g1,Ac];dsimp only;have ho:Al9 out:=Au6 (Xi hl) g3 (by rw[g2];exact g4.1);have hlen:out.length=ids.length:=by rw[<-g2,length_map]
  rw[gd_t ⟨oo,fun x hx=>⟨hx,ho⟩⟩,Aon ho (Be2 hl g2 g3 g4.1),iP g4]
 .rw[g1,Ac];dsimp only;rw[iN g2]
theorem Ayb(hi:ids.length<=300):(lfix (Ie ids) 0=some (.inl ())/\ids.Nodup)\/(lfix (Ie ids) 0=some (.inr ([],false))/\¬ids.Nodup):=by
 have:=Ax (B:=Ie ids) (fun s=>ids.length-s.toNat) (fun s=>∃k:Nat,k<=ids.length/\s=(k:Int)/\(ids.take k).Nodup) (fun t=>(t=.inl ()/\ids.Nodup)\/(t=.inr ([],false)/\¬ids.Nodup)) (fun s hs=>by
  obtain⟨k,hk,rfl,h⟩:=hs;unfold Ie
  by_cases hk2:k<ids.length
  .have ts:ids.take (k+1)=ids.take k++[ids[k]]:=take_succ_eq_append_getElem hk2;have hsub:subl ids 0 (k:Int)=ids.take k:=by unfold subl;simp
   rw[iP oo,gd_t ⟨oo,oo⟩,Aj hk2,Ac,hsub,has_eq (by rw[length_take];omega),Ac]
   by_cases c:ids[k]∈ids.take k
   .right;rw[iP (sV c)];refine⟨_,rfl,.inr ⟨rfl,fun g=>?_⟩⟩;have h2:(ids.take (k+1)).Nodup:=g.sublist (take_sublist _ _);rw[ts,nodup_append] at h2;exact h2.2.2 _ c _ (mem_singleton.2 rfl) rfl
   .left;rw[iN (sV c),w1 hk2 oo];refine⟨_,rfl,⟨k+1,hk2,rfl,?_⟩,oo⟩;rw[ts,nodup_append];refine⟨h,s_,fun a ha b hb e=>?_⟩;rw[mem_singleton] at hb;subst hb;subst e;exact c ha
  .right;rw[iN oo];have:k=ids.length:=oo;subst this;rw[take_length] at h;exact⟨_,rfl,.inl ⟨rfl,h⟩⟩) 0 ⟨0,oo,rfl,s_⟩
 obtain⟨t,ht,⟨rfl,g⟩|⟨rfl,g⟩⟩:=this
 .exact .inl ⟨ht,g⟩
 .exact .inr ⟨ht,g⟩
theorem Ayc(hl:X.Fit l)(hi:ids.length<=300):lfix (Mc l ids) (([]:List Aa),0)=some (selL l ids):=by
 have hn:=hl.n;refine X.lfix_filter l (fun p=>decide (p.Id∈ids)) _ (fun j hj s hs=>?_) (fun s=>?_)
 .unfold Mc;dsimp only;rw[iP oo,jn_d,Aj hj,Ac,has_eq oo,Ac,Ac,w1 hj oo]
  by_cases c:l[j].Id∈ids
  .rw[iP (sV c),iP (sV c),gd_t oo]
  .rw[iN (sV c),iN (sV c)]
 .unfold Mc;dsimp only;rw[iN oo]
theorem Abn{L:List Aa}(hL:X.Fit L):Eo L=some (Bf Hn L):=by
 have hn:=hL.n;have ho:=Xi hL;unfold Eo;rw[X.rids_eq hn,Ac,jn_d];generalize hr:Cq (L.map (·.Id))=r;have hrp:r.Perm (L.map (·.Id)):=by rw[<-hr];exact X.perm_sortI _
 have hrl:r.length=L.length:=by rw[hrp.length_eq,length_map]
 have hrn:r.Nodup:=hrp.nodup_iff.2 hL.id;have hrs:r.Pairwise (· < ·):=by
  have h1:r.Pairwise (·<=·):=by rw[<-hr];exact X.sorted_sortI _
  exact (pairwise_and_iff.2 ⟨h1,hrn⟩).imp fun h=>oo
 have inner:∀(i:Nat) (hi:i<r.length) (acc:List Aa),acc.length<=1024*i->lfix (Je L r (acc,(i:Int))) (acc,0)=some (acc++L.filter fun p=>decide (p.Id=r[i])):=fun i hi acc ha=>by
  have:=Ax (B:=Je L r (acc,(i:Int))) (fun s=>L.length-s.2.toNat) (fun s=>∃k:Nat,k<=L.length/\s=(acc++(L.take k).filter (fun p=>decide (p.Id=r[i])),(k:Int))) (fun t=>t=acc++L.filter fun p=>decide (p.Id=r[i])) (fun s hs=>by
   obtain⟨k,hk,rfl⟩:=hs;unfold Je;dsimp only
   by_cases hk2:k<L.length
   .left;have ts:L.take (k+1)=L.take k++[L[k]]:=take_succ_eq_append_getElem hk2;have hf:=length_filter_le (fun p:Aa=>decide (p.Id=r[i])) (L.take k);rw[length_take] at hf;have hi4:i<1024:=oo;rw[iP oo,jn_d,Aj hk2,Ac,Aj hi,Ac,Ac,w1 hk2 oo]
    by_cases c:L[k].Id=r[i]
    .rw[iP c,gd_t (by rw[length_append];omega)];exact⟨_,rfl,⟨k+1,hk2,by rw[ts,filter_append];simp[c]⟩,by dsimp only;omega⟩
    .rw[iN c];exact⟨_,rfl,⟨k+1,hk2,by rw[ts,filter_append];simp[c]⟩,by dsimp only;omega⟩
   .right;rw[iN oo];have:k=L.length:=oo;subst this;exact⟨_,rfl,by rw[take_length]⟩) (acc,0) ⟨0,oo,s_⟩
  obtain⟨t,ht,rfl⟩:=this;exact ht
 have outer:=Ax (B:=Og r L) (fun s=>r.length-s.2.toNat) (fun s=>∃k:Nat,k<=r.length/\s=((r.take k).flatMap (fun i=>L.filter fun p=>decide (p.Id=i)),(k:Int))/\s.1.length<=1024*k) (fun t=>t=r.flatMap fun i=>L.filter fun p=>decide (p.Id=i)) (fun s hs=>by
  obtain⟨k,hk,rfl,hb⟩:=hs;dsimp only at hb;unfold Og;dsimp only
  by_cases hk2:k<r.length
  .left;have ts:r.take (k+1)=r.take k++[r[k]]:=take_succ_eq_append_getElem hk2;rw[iP oo,jn_d,inner k hk2 _ hb,Ac,w1 hk2 oo];refine⟨_,rfl,⟨k+1,hk2,by rw[ts,flatMap_append];simp,?_⟩,by dsimp only;omega⟩;dsimp only;have hf:=length_filter_le (fun p:Aa=>decide (p.Id=r[k])) L;rw[length_append];omega
  .right;rw[iN oo];have:k=r.length:=oo;subst this;exact⟨_,rfl,by rw[take_length]⟩) (([]:List Aa),0) ⟨0,oo,s_,s_⟩
 obtain⟨t,ht,rfl⟩:=outer;rw[ht,Ac];congr 1;have hpw:(r.flatMap fun i=>L.filter fun p=>decide (p.Id=i)).Pairwise fun x y=>x.Id<y.Id:=by
  rw[pairwise_flatMap];refine⟨fun i _=>?_,hrs.imp fun {a b} hab x hx y hy=>?_⟩
  .refine List.Pairwise.imp_of_mem ?_ ((pairwise_map.1 hL.id).filter _);intro a b ha hb hne;rw[mem_filter,dQ] at ha hb;exact absurd (ha.2.trans hb.2.symm) hne
  .rw[mem_filter,dQ] at hx hy;omega
 have hmem:∀p,p∈(r.flatMap fun i=>L.filter fun p=>decide (p.Id=i))↔p∈L:=fun p=>by
  rw[mem_flatMap];constructor
  .rintro⟨i,_,hp⟩;exact (mem_filter.1 hp).1
  .intro hp;exact⟨p.Id,hrp.mem_iff.2 (mem_map_of_mem hp),mem_filter.2 ⟨hp,s_⟩⟩
 have hnd:(r.flatMap fun i=>L.filter fun p=>decide (p.Id=i)).Nodup:=hpw.imp fun h e=>by rw[e] at h;omega
 refine Adl (totP L) (fun x hx=>⟨(hmem x).1 hx,ho⟩) (hpw.imp fun h=>by unfold Hn;omega) (Pf (totP L) fun x hx=>⟨hx,ho⟩) ?_;exact ((perm_ext_iff_of_nodup hnd (X.nodup_of_ids hL.id)).2 hmem).trans (Db _ _).symm
theorem Fit.sel(hl:X.Fit l):X.Fit (selL l ids):=hl.filter _
theorem As5(hl:X.Fit l)(hi:ids.length<=300):Nj l ids=some (if Xz l ids then (Sj l ids,true) else ([],false)):=by
 unfold Nj;rw[jn_d];have hsn:=(Fit.sel (ids:=ids) hl).id;have hsub:∀i∈(selL l ids).map (·.Id),i∈ids:=fun i hi=>by
  obtain⟨p,hp,rfl⟩:=mem_map.1 hi;exact of_decide_eq_true (mem_filter.1 hp).2
 rcases Ayb hi with⟨g1,g2⟩|⟨g1,g2⟩
 ·rw[g1,Ac];dsimp only;rw[jn_d,Ayc hl hi,Ac];dsimp only;have key:((((selL l ids).length:Nat):Int))=(ids.length:Int)↔Xz l ids:=by
   have h1:=Bn hsn hsub;rw[length_map] at h1;constructor
   .intro e;refine⟨g2,fun i hi'=>?_⟩;refine Classical.byContradiction fun hno=>?_
    have hni:i∉(selL l ids).map (·.Id):=fun h=>by
     obtain⟨p,hp,e2⟩:=mem_map.1 h;exact hno ⟨p,(mem_filter.1 hp).1,e2⟩
    have:=Bn (l:=i::(selL l ids).map (·.Id)) (m:=ids) (nodup_cons.2 ⟨hni,hsn⟩) (fun x hx=>by rcases mem_cons.1 hx with rfl|hx;exact hi';exact hsub x hx);rw[length_cons,length_map] at this;omega
   ·intro ho;have:=Bn (l:=ids) (m:=(selL l ids).map (·.Id)) g2 (fun i hi'=>by
     obtain⟨p,hp,rfl⟩:=ho.2 i hi';exact mem_map_of_mem (mem_filter.2 ⟨hp,sV hi'⟩))
    rw[length_map] at this;omega
  by_cases c:Xz l ids
  .rw[iP (key.2 c),Abn (Fit.sel hl),Ac,iP c];rfl
  .rw[iN (fun h=>c (key.1 h)),iN c]
 .rw[g1,Ac];dsimp only;rw[iN (fun h=>g2 h.1)]
def vxL(L:List Aa):List Ae:=L.map fun p=>⟨p.X,p.Y,p.Z⟩
theorem Ai4{L:List Aa}(hn:L.length<=1024):lfix (Ss L) (([]:List Ae),0)=some (vxL L):=by
 have:=Ax (B:=Ss L) (fun s=>L.length-s.2.toNat) (fun s=>∃k:Nat,k<=L.length/\s=(vxL (L.take k),(k:Int))) (fun t=>t=vxL L) (fun s hs=>by
  obtain⟨k,hk,rfl⟩:=hs;unfold Ss;dsimp only
  by_cases hk2:k<L.length
  .left;rw[iP oo,Aj hk2,Ac,gd_t (by unfold vxL;rw[length_map,length_take];omega),w1 hk2 oo];exact⟨_,rfl,⟨k+1,hk2,by unfold vxL;rw[take_succ_eq_append_getElem hk2,map_append];rfl⟩,by dsimp only;omega⟩
  .right;rw[iN oo];have:k=L.length:=oo;subst this;exact⟨_,rfl,by rw[take_length]⟩) (([]:List Ae),0) ⟨0,oo,rfl⟩
 obtain⟨t,ht,rfl⟩:=this;exact ht
def Ho(L:List Aa):Prop:=L.Pairwise fun p q=>¬(p.X=q.X/\p.Y=q.Y)
theorem Agd{L:List Aa}(hL:X.Fit L):Wu (vxL L)=0/\Ho L\/Wu (vxL L)=61/\¬Ho L:=by
 have hn:=hL.n;have h1:¬1024<(vxL L).length:=by unfold vxL;rw[length_map];omega
 have h2:∀x∈vxL L,Mb x:=fun x hx=>by
  unfold vxL at hx;obtain⟨p,hp,rfl⟩:=mem_map.1 hx;have:=X.okPt_rng (hL.ok p hp);unfold Mb okP pP;dsimp only;omega
 have h3:Eu (vxL L)↔Ho L:=by
  unfold Eu Ho vxL;rw[pairwise_map];exact Iff.rfl
 unfold Wu;rw[iN h1,iN (fun h=>h h2)]
 by_cases c:Ho L
 .rw[iN (fun h=>h (h3.2 c))];exact .inl ⟨rfl,c⟩
 .rw[iP (fun h=>c (h3.1 h))];exact .inr ⟨rfl,c⟩
theorem Ai5{L:List Aa}(hL:X.Fit L):(lfix (Ig L) (([]:List Ae),0)=some (.inl (vxL L))/\Ho L)\/(lfix (Ig L) (([]:List Ae),0)=some (.inr (⟨[],[],[]⟩,11))/\¬Ho L):=by
 have hn:=hL.n;have inner:∀ (i:Nat) (hi:i<L.length) (acc:List Ae),(lfix (If (acc,(i:Int)) L L[i] L[i] L[i]) 0=some (.inl (acc++[(⟨L[i].X,L[i].Y,L[i].Z⟩:Ae)]))/\∀ q∈L.take i,¬ (q.X=L[i].X/\q.Y=L[i].Y)) \/
   (lfix (If (acc,(i:Int)) L L[i] L[i] L[i]) 0=some (.inr (⟨[],[],[]⟩,11))/\∃q∈L.take i,q.X=L[i].X/\q.Y=L[i].Y):=fun i hi acc=>by
  have:=Ax (B:=If (acc,(i:Int)) L L[i] L[i] L[i]) (fun s=>i-s.toNat) (fun s=>∃k:Nat,k<=i/\s=(k:Int)/\∀q∈L.take k,¬(q.X=L[i].X/\q.Y=L[i].Y))
   (fun t=>(t=.inl (acc++[(⟨L[i].X,L[i].Y,L[i].Z⟩:Ae)])/\∀q∈L.take i,¬(q.X=L[i].X/\q.Y=L[i].Y))\/(t=.inr (⟨[],[],[]⟩,11)/\∃q∈L.take i,q.X=L[i].X/\q.Y=L[i].Y)) (fun s hs=>by
   obtain⟨k,hk,rfl,h⟩:=hs;unfold If;dsimp only
   by_cases hk2:k<i
   ·have hkl:k<L.length:=oo;rw[if_pos oo,Aj hkl,Ac,Aj hi,Ac,X.apart_eq (hL.ok _ (getElem_mem hkl)) (hL.ok _ (getElem_mem hi)),Ac];have hz:=@X.sq_zero L[k] L[i];have hmem:L[k]∈L.take i:=by
     rw[mem_take_iff_getElem];exact⟨k,oo,rfl⟩
    by_cases c:X.sq L[k] L[i]=0
    .right;rw[iP c];exact⟨_,rfl,.inr ⟨rfl,L[k],hmem,hz.1 oo⟩⟩
    .left;rw[iN c,w1 hk2 oo];refine⟨_,rfl,⟨k+1,hk2,rfl,fun q hq=>?_⟩,oo⟩;rw[take_succ_eq_append_getElem hkl,mem_append,mem_singleton] at hq;rcases hq with hq|rfl
     .exact h q hq
     .intro g;have h0:0<=X.sq L[k] L[i]:=by unfold X.sq;rw[<-Int.natAbs_mul_self,<-Int.natAbs_mul_self (a:=L[k].Y-L[i].Y)];omega
      have:=hz.2 g;omega
   .right;rw[iN oo];have:k=i:=oo;subst this;exact⟨.inl (acc++[⟨L[k].X,L[k].Y,L[k].Z⟩]),rfl,.inl ⟨rfl,h⟩⟩) 0 ⟨0,oo,rfl,s_⟩
  obtain⟨t,ht,⟨rfl,g⟩|⟨rfl,g⟩⟩:=this
  .exact .inl ⟨ht,g⟩
  .exact .inr ⟨ht,g⟩
 have:=Ax (B:=Ig L) (fun s=>L.length-s.2.toNat) (fun s=>∃k:Nat,k<=L.length/\s=(vxL (L.take k),(k:Int))/\Ho (L.take k))
  (fun t=>(t=.inl (vxL L)/\Ho L)\/(t=.inr (⟨[],[],[]⟩,11)/\¬Ho L)) (fun s hs=>by
  obtain⟨k,hk,rfl,h⟩:=hs;unfold Ig;dsimp only
  by_cases hk2:k<L.length
  .have ts:L.take (k+1)=L.take k++[L[k]]:=take_succ_eq_append_getElem hk2;rw[iP oo,jn_d,Aj hk2,Ac,Ac,Ac,gd_t (by unfold vxL;rw[length_map,length_take];omega)];rcases inner k hk2 (vxL (L.take k)) with⟨g1,g2⟩|⟨g1,q,q1,q2⟩
   .left;rw[g1,Ac];dsimp only;rw[w1 hk2 oo];refine⟨_,rfl,⟨k+1,hk2,by unfold vxL;rw[ts,map_append];rfl,?_⟩,by dsimp only;omega⟩;unfold Ho at h⊢;rw[ts,pairwise_append];refine⟨h,s_,fun x hx y hy=>?_⟩;rw[mem_singleton] at hy;subst hy;exact g2 x hx
   .right;rw[g1,Ac];refine⟨_,rfl,.inr ⟨rfl,fun g=>?_⟩⟩;have g':Ho (L.take (k+1)):=List.Pairwise.sublist (take_sublist _ _) g;unfold Ho at g';rw[ts,pairwise_append] at g';exact g'.2.2 q q1 _ (mem_singleton.2 rfl) q2
  .right;rw[iN oo];have:k=L.length:=oo;subst this;rw[take_length] at h;exact⟨_,rfl,.inl ⟨by rw[take_length],h⟩⟩) (([]:List Ae),0) ⟨0,oo,rfl,by simp[Ho]⟩
 obtain⟨t,ht,⟨rfl,g⟩|⟨rfl,g⟩⟩:=this
 .exact .inl ⟨ht,g⟩
 .exact .inr ⟨ht,g⟩
theorem Ai6{L:List Aa}(hL:X.Fit L):∃r:Al×Int,Oc L=some r/\Fj L=some r/\((r.2=0/\Ho L/\r.1.V=vxL L/\r.1.Lines=[]/\Wl (vxL L) r.1.T)\/(r=(⟨[],[],[]⟩,11)/\¬Ho L)):=by
 have hn:=hL.n;unfold Oc Fj;rw[gd_t oo,jn_d,jn_d,Ai4 hn,Ac];dsimp only;rcases Agd hL with⟨e,ha⟩|⟨e,ha⟩
 .obtain⟨T,t1,t2,t3⟩:=Afh e;rcases Ai5 hL with⟨g1,_⟩|⟨_,g2⟩
  .rw[g1,t2,Ac,Ac];dsimp only;rw[iP rfl,t1,Ac];exact⟨_,rfl,rfl,.inl ⟨rfl,ha,rfl,rfl,t3⟩⟩
  .exact absurd ha g2
 .rcases Ai5 hL with⟨_,g2⟩|⟨g1,_⟩
  .exact absurd g2 ha
  .rw[g1,Alb [] oo,Ac,Ac];dsimp only;rw[iN oo];exact⟨_,rfl,rfl,.inr ⟨rfl,ha⟩⟩
end
theorem Amu(a b c p:Ab):crs b c p+crs c a p+crs a b p=crs a b c:=by unfold crs;grind
theorem As6{w0 w1 w2:Int}(n0:0<=w0)(n1:0<=w1)(n2:0<=w2)(hA:w0+w1+w2<=2305843009213693952)(h0:0<w0+w1+w2){p:Ah}(k0:-1099511627776<=p.a0/\p.a0<=1099511627776)(k1:-1099511627776<=p.a1/\p.a1<=1099511627776)(k2:-1099511627776<=p.a2/\p.a2<=1099511627776):
  Oy ⟨w0,w1,w2⟩ p=some ((w0*p.a0+w1*p.a1+w2*p.a2)/(w0+w1+w2),-((-(w0*p.a0+w1*p.a1+w2*p.a2))/(w0+w1+w2))):=by
 obtain⟨m0,rfl⟩:=Int.eq_ofNat_of_zero_le n0;obtain⟨m1,rfl⟩:=Int.eq_ofNat_of_zero_le n1;obtain⟨m2,rfl⟩:=Int.eq_ofNat_of_zero_le n2;obtain⟨b,hb⟩:∃b,min (min p.a0 p.a1) p.a2=b:=⟨_,rfl⟩;obtain⟨d0,e0⟩:∃d:Nat,p.a0=b+d:=⟨(p.a0-b).toNat,oo⟩;obtain⟨d1,e1⟩:∃d:Nat,p.a1=b+d:=⟨(p.a1-b).toNat,oo⟩;obtain⟨d2,e2⟩:∃d:Nat,p.a2=b+d:=⟨(p.a2-b).toNat,oo⟩;have h:=Bcg (m0:=m0) (m1:=m1) (m2:=m2) (d0:=d0) (d1:=d1) (d2:=d2) (b:=b) (p:=p) oo oo oo oo oo oo oo hb e0 e1 e2;rw[h];have hS:(m0:Int)*p.a0+(m1:Int)*p.a1+(m2:Int)*p.a2=((m0*d0+m1*d1+m2*d2:Nat):Int)+b*((m0+m1+m2:Nat):Int):=by
  rw[e0,e1,e2];push_cast;grind
 have hA2:(m0:Int)+(m1:Int)+(m2:Int)=((m0+m1+m2:Nat):Int):=by push_cast;rfl
 rw[hS,hA2];have hpos:0<m0+m1+m2:=oo;clear hS hA2 h e0 e1 e2 hb n0 n1 n2 hA h0 k0 k1 k2;generalize m0*d0+m1*d1+m2*d2=N at *;generalize m0+m1+m2=A at *;have q1:=Nat.div_add_mod N A;have q2:=Nat.mod_lt N hpos;generalize N/A=q at *;generalize N%A=r at *;have q3:(N:Int)=(A:Int)*(q:Int)+(r:Int):=by rw[<-q1];push_cast;rfl
 have l1:((N:Int)+b*(A:Int))/(A:Int)=b+(q:Int):=X.ediv_of (r:=(r:Int)) oo (by rw[q3];grind) oo oo
 by_cases hr:0<r
 .have l2:(-((N:Int)+b*(A:Int)))/(A:Int) = -(b+(q:Int)+1):=X.ediv_of (r:=(A:Int)-(r:Int)) oo (by rw[q3];grind) oo oo;rw[l1,l2,iP hr,Int.neg_neg]
 .have l2:(-((N:Int)+b*(A:Int)))/(A:Int) = -(b+(q:Int)):=X.ediv_of (r:=0) oo (by rw[q3,show r=0 by omega];grind) oo oo;rw[l1,l2,iN hr,Int.neg_neg,Int.add_zero]
def zV(v:List Ae)(i:Int):Av:=match idx v i with
 |some x=>x.Z
 |none=>⟨0,0⟩
def covT(v:List Ae)(at_:Ab)(t:Ah):Bool:=decide (0<=crs (plV v t.a0) (plV v t.a1) at_/\0<=crs (plV v t.a1) (plV v t.a2) at_/\0<=crs (plV v t.a2) (plV v t.a0) at_)
def Ps(v:List Ae)(t:Ah):Int:=crs (plV v t.a0) (plV v t.a1) (plV v t.a2)
def wsum(v:List Ae)(at_:Ab)(t:Ah)(f:Av->Int):Int :=
 crs (plV v t.a1) (plV v t.a2) at_*f (zV v t.a0)+crs (plV v t.a2) (plV v t.a0) at_*f (zV v t.a1)+crs (plV v t.a0) (plV v t.a1) at_*f (zV v t.a2)
def bndT(v:List Ae)(at_:Ab)(t:Ah):Av:=⟨wsum v at_ t (·.Lo)/Ps v t,-((-(wsum v at_ t (·.Hi)))/Ps v t)⟩
def locT(v:List Ae)(T:List Ah)(at_:Ab):Option Nat:=T.findIdx? (covT v at_)
def gapI(a b:Av):Int:=max (max 0 (a.Lo-b.Hi)) (b.Lo-a.Hi)
def Nx(v:List Ae)(r:Af)(p:Aa)(k:Int):Bool :=
 decide (gapI p.Z (zV v k)*gapI p.Z (zV v k)*1000000<=r.Slope*r.Slope*((p.X-(plV v k).X)*(p.X-(plV v k).X)+(p.Y-(plV v k).Y)*(p.Y-(plV v k).Y)))
def fitV(v:List Ae)(T:List Ah)(r:Af)(p:Aa):Int×Bool×Int:=match locT v T (X.plF p) with
 |none=>(-1,false,0)
 |some i=>match idx T (i:Int) with
  |none=>(-1,false,0)
  |some t=>
   if r.Reach<gapI p.Z (bndT v (X.plF p) t) then ((i:Int),false,0) else
   if Nx v r p t.a0=true/\Nx v r p t.a1=true/\Nx v r p t.a2=true then ((i:Int),true,gapI p.Z (bndT v (X.plF p) t)) else ((i:Int),false,0)
theorem Alc{α:Type}(l:List α)(p:α->Bool)(B:Int->Option (Sum Int (Sum Unit Int)))(h1:∀ (j:Nat) (h:j<l.length),B j=if p l[j]=true then some (.inr (.inr (j:Int))) else some (.inl ((j+1:Nat):Int)))(h2:B l.length=some (.inr (.inl ()))):
  lfix B 0=some (match l.findIdx? p with|some i=>.inr (i:Int)|none=>.inl ()):=by
 have key:∀(m k:Nat),k<=l.length->l.length-k=m->(∀j (hj:j<l.length),j<k->p l[j]=false)->lfix B k=some (match l.findIdx? p with|some i=>.inr (i:Int)|none=>.inl ()):=by
  intro m
  induction m with
  |zero=>
   intro k hk hm hf;obtain rfl:k=l.length:=oo;rw[Ay,h2];have:l.findIdx? p=none:=by
    rw[List.findIdx?_eq_none_iff];intro x hx;obtain⟨j,hj,rfl⟩:=getElem_of_mem hx;exact hf j hj hj
   rw[this]
  |succ m ih=>
   intro k hk hm hf;have hlt:k<l.length:=oo;rw[Ay,h1 k hlt]
   by_cases hp:p l[k]=true
   ·rw[if_pos hp];have:l.findIdx? p=some k:=by
     rw[List.findIdx?_eq_some_iff_getElem];exact⟨hlt,hp,fun j hj=>by rw[hf j oo hj];simp⟩
    rw[this]
   .rw[iN hp];refine ih (k+1) oo oo fun j hj hjk=>?_
    by_cases e:j=k
    .subst e;exact Bool.eq_false_iff.2 hp
    .exact hf j hj oo
 exact key l.length 0 (Nat.zero_le _) rfl (fun j _ h=>absurd h oo)
theorem Ahh{l:LI}(hl:l.length<=1000000)(n:Int):Cl l n=some (decide (n∈l)):=by
 unfold Cl Jn;rw[jn_d,Alc l (fun x=>decide (n=x)) (Dk l n) (fun j hj=>?_) ?_,Ac]
 .cases e:l.findIdx? (fun x=>decide (n=x)) with
  |none=>
   dsimp only;rw[List.findIdx?_eq_none_iff] at e;rw[Ac];have:n∉l:=fun h=>by simpa using e n h
   simp[this]
  |some i=>
   dsimp only;rw[List.findIdx?_eq_some_iff_getElem] at e;obtain⟨hi,h,_⟩:=e;rw[Ac];have:n∈l:=by
    rw[dQ] at h;rw[h];exact gM hi
   simp[this]
 .unfold Dk;rw[iN oo]
 .unfold Dk;rw[iP oo,Aj hj,Ac,w1 hj oo];simp only[dQ]
structure Msh(m:Al):Prop where
 n:m.V.length<=1024
 ok:∀x∈m.V,Mb x
 len:m.T.length<=1152921504606846976
 t:∀t∈m.T,inN m.V.length t.a0/\inN m.V.length t.a1/\inN m.V.length t.a2/\0<Ps m.V t
theorem Gf{n:Nat}{i:Int}(h:inN n i):∃k:Nat,i=(k:Int)/\k<n:=⟨i.toNat,by unfold inN at h;omega,by unfold inN at h;omega⟩
theorem Ai7{v:List Ae}{k:Nat}(hk:k<v.length):zV v (k:Int)=v[k].Z:=by unfold zV;rw[Aj hk]
theorem Gm{v:List Ae}(h:∀x∈v,Mb x){i:Int}(hi:inN v.length i):okP (plV v i)/\-268435456<=(zV v i).Lo/\(zV v i).Lo<=(zV v i).Hi/\(zV v i).Hi<=268435456:=by
 obtain⟨k,rfl,hk⟩:=Gf hi;rw[Zb hk,Ai7 hk];exact h _ (gM hk)
theorem Yo{a b c:Ab}(ha:okP a)(hb:okP b)(hc:okP c):Gh a b c=some (crs a b c):=by
 have h0:=Hp ha hb hc;unfold okP at ha hb hc;have h1:=mulB (x:=b.X-a.X) (y:=c.Y-a.Y) (M:=536870912) (N:=536870912) oo oo oo oo oo;have h2:=mulB (x:=b.Y-a.Y) (y:=c.X-a.X) (M:=536870912) (N:=536870912) oo oo oo oo oo;unfold Gh;unfold crs at h0⊢;rw[Aq (x:=b.X-a.X) oo oo,Aq (x:=c.Y-a.Y) oo oo,Aq (x:=b.Y-a.Y) oo oo,Aq (x:=c.X-a.X) oo oo,
  Aq (x:=(b.X-a.X)*(c.Y-a.Y)) oo oo,Aq (x:=(b.Y-a.Y)*(c.X-a.X)) oo oo,Aq oo oo]
theorem Au7{a b:Ab}(ha:okP a)(hb:okP b):My a b=some ((a.X-b.X)*(a.X-b.X)+(a.Y-b.Y)*(a.Y-b.Y))/\0<=(a.X-b.X)*(a.X-b.X)+(a.Y-b.Y)*(a.Y-b.Y)/\(a.X-b.X)*(a.X-b.X)+(a.Y-b.Y)*(a.Y-b.Y)<=576460752303423488:=by
 unfold okP at ha hb;obtain⟨a1,a2,a3,a4⟩:=X.sq_w (a:=a.X) (b:=b.X) oo oo;obtain⟨b1,b2,b3,b4⟩:=X.sq_w (a:=a.Y) (b:=b.Y) oo oo;refine⟨?_,oo,oo⟩;unfold My;rw[a1,b1,a2,b2,Aq oo oo]
section
variable {m:Al}(h:Msh m)
include h
theorem Ai8{i:Nat}(hi:i<m.T.length):Nf m (i:Int)=some ⟨plV m.V m.T[i].a0,plV m.V m.T[i].a1,plV m.V m.T[i].a2⟩:=by
 obtain⟨h0,h1,h2,_⟩:=h.t _ (gM hi);obtain⟨a,ea,ha⟩:=Gf h0;obtain⟨b,eb,hb⟩:=Gf h1;obtain⟨c,ec,hc⟩:=Gf h2;unfold Nf Kx;rw[Aj hi,Ac,ea,eb,ec,Aj ha,Ac,Ac,Aj hb,Ac,Ac,Aj hc,Ac,Ac,Zb ha,Zb hb,Zb hc];rfl
theorem Ald{p:Ab}(hp:okP p):Pu m p=some (match locT m.V m.T p with|some i=>(i:Int)|none=>-1):=by
 unfold Pu;have hl:=h.len;rw[jn_d,Alc m.T (covT m.V p) (Ny m p) (fun j hj=>?_) ?_,Ac]
 .unfold locT;cases m.T.findIdx? (covT m.V p) <;> rfl
 .unfold Ny;rw[iN oo]
 .obtain⟨h0,h1,h2,_⟩:=h.t _ (gM hj);have q0:=(Gm h.ok h0).1;have q1:=(Gm h.ok h1).1;have q2:=(Gm h.ok h2).1;unfold Ny;rw[iP oo,Ai8 h hj,Ac,jn_d,As oo];dsimp only;rw[Yo q0 q1 hp,Ac];unfold covT
  by_cases c1:0<=crs (plV m.V m.T[j].a0) (plV m.V m.T[j].a1) p
  .rw[iP c1,Yo q1 q2 hp,Ac]
   by_cases c2:0<=crs (plV m.V m.T[j].a1) (plV m.V m.T[j].a2) p
   .rw[iP c2,Yo q2 q0 hp,Ac]
    by_cases c3:0<=crs (plV m.V m.T[j].a2) (plV m.V m.T[j].a0) p
    .simp[c1,c2,c3]
    .simp[c1,c2,c3]
   .rw[iN c2,iN s_,iN (by simp[c2])]
  .rw[iN c1,iN s_,iN (by simp[c1])]
theorem Ale{p:Ab}(hp:okP p){i:Nat}(hi:i<m.T.length)(hc:covT m.V p m.T[i]=true):Pv m (i:Int) p=some (bndT m.V p m.T[i]):=by
 obtain⟨h0,h1,h2,hpos⟩:=h.t _ (gM hi);obtain⟨q0,z0⟩:=Gm h.ok h0;obtain⟨q1,z1⟩:=Gm h.ok h1;obtain⟨q2,z2⟩:=Gm h.ok h2;have hs:=Amu (plV m.V m.T[i].a0) (plV m.V m.T[i].a1) (plV m.V m.T[i].a2) p;have hb:=Hp q0 q1 q2;unfold Ps at hpos;unfold covT at hc;rw[dQ] at hc;obtain⟨a,ea,ha⟩:=Gf h0;obtain⟨b,eb,hb'⟩:=Gf h1;obtain⟨c,ec,hc'⟩:=Gf h2;unfold Pv;rw[Ai8 h hi,Ac];try rw[jn_d]
 dsimp only;rw[Yo q1 q2 hp,Ac,Yo q2 q0 hp,Ac,Yo q0 q1 hp,Ac,Aj hi,Ac,jn_d,ea,Aj ha,Ac,Ac];dsimp only;rw[jn_d,eb,Aj hb',Ac,Ac];dsimp only;rw[jn_d,ec,Aj hc',Ac,Ac];dsimp only;rw[<-ea,<-eb,<-ec];have ga:zV m.V m.T[i].a0=m.V[a].Z:=by rw[ea,Ai7 ha]
 have gb:zV m.V m.T[i].a1=m.V[b].Z:=by rw[eb,Ai7 hb']
 have gc:zV m.V m.T[i].a2=m.V[c].Z:=by rw[ec,Ai7 hc']
 rw[ga] at z0;rw[gb] at z1;rw[gc] at z2;rw[As6 oo oo oo oo oo (by dsimp only;omega) (by dsimp only;omega) (by dsimp only;omega),Ac,
  As6 oo oo oo oo oo (by dsimp only;omega) (by dsimp only;omega) (by dsimp only;omega),Ac]
 unfold bndT wsum Ps;rw[ga,gb,gc,hs]
theorem Acl{p:Ab}{t:Ah}(ht:t∈m.T)(hc:covT m.V p t=true):-268435456<=(bndT m.V p t).Lo/\(bndT m.V p t).Lo<=(bndT m.V p t).Hi/\(bndT m.V p t).Hi<=268435456:=by
 obtain⟨h0,h1,h2,hpos⟩:=h.t _ ht;obtain⟨q0,z0⟩:=Gm h.ok h0;obtain⟨q1,z1⟩:=Gm h.ok h1;obtain⟨q2,z2⟩:=Gm h.ok h2;have hs:=Amu (plV m.V t.a0) (plV m.V t.a1) (plV m.V t.a2) p;unfold Ps at hpos;unfold covT at hc;rw[dQ] at hc;unfold bndT wsum Ps;dsimp only;rw[<-hs];rw[<-hs] at hpos;obtain⟨n0,n1,n2⟩:=hc;generalize crs (plV m.V t.a1) (plV m.V t.a2) p=w0 at *;generalize crs (plV m.V t.a2) (plV m.V t.a0) p=w1 at *;generalize crs (plV m.V t.a0) (plV m.V t.a1) p=w2 at *;generalize zV m.V t.a0=s0 at *;generalize zV m.V t.a1=s1 at *;generalize zV m.V t.a2=s2 at *;have a0:=Int.mul_le_mul_of_nonneg_left (oo:-268435456<=s0.Lo) n1;have a1:=Int.mul_le_mul_of_nonneg_left (oo:-268435456<=s1.Lo) n2;have a2:=Int.mul_le_mul_of_nonneg_left (oo:-268435456<=s2.Lo) n0;have b0:=Int.mul_le_mul_of_nonneg_left (oo:s0.Hi<=268435456) n1;have b1:=Int.mul_le_mul_of_nonneg_left (oo:s1.Hi<=268435456) n2;have b2:=Int.mul_le_mul_of_nonneg_left (oo:s2.Hi<=268435456) n0;have c0:=Int.mul_le_mul_of_nonneg_left (oo:s0.Lo<=s0.Hi) n1;have c1:=Int.mul_le_mul_of_nonneg_left (oo:s1.Lo<=s1.Hi) n2;have c2:=Int.mul_le_mul_of_nonneg_left (oo:s2.Lo<=s2.Hi) n0;generalize w0*s0.Lo=x0 at *;generalize w1*s1.Lo=x1 at *;generalize w2*s2.Lo=x2 at *;generalize w0*s0.Hi=y0 at *;generalize w1*s1.Hi=y1 at *;generalize w2*s2.Hi=y2 at *;generalize hA:w0+w1+w2=A at *;have e1:-268435456<=(x0+x1+x2)/A:=Int.le_ediv_of_mul_le hpos oo;have e2:-268435456<=(-(y0+y1+y2))/A:=Int.le_ediv_of_mul_le hpos oo;have g1:=Int.mul_ediv_self_le (x:=x0+x1+x2) (k:=A) oo;have g2:=Int.mul_ediv_self_le (x:=-(y0+y1+y2)) (k:=A) oo;refine⟨e1,?_,oo⟩;refine Int.not_lt.1 fun hlt=>?_
 have g3:=Int.mul_le_mul_of_nonneg_left (oo:-((-(y0+y1+y2))/A)+1<=(x0+x1+x2)/A) (oo:0<=A);rw[Int.mul_add,Int.mul_neg,Int.mul_one] at g3;omega
end
theorem pow8:(65536:Nat)^8=340282366920938463463374607431768211456:=dD
theorem addI{a b:Int}(ha:a.natAbs<65536^8)(hb:b.natAbs<65536^8):Cg (QR (a:Rat)) (QR (b:Rat))=some (QR ((a+b:Int):Rat)):=by
 rw[Bd2 (Sml.int ha oo) (Sml.int hb oo) oo,Rat.intCast_add]
theorem subI{a b:Int}(ha:a.natAbs<65536^8)(hb:b.natAbs<65536^8):Cm (QR (a:Rat)) (QR (b:Rat))=some (QR ((a-b:Int):Rat)):=by
 rw[Bd3 (Sml.int ha oo) (Sml.int hb oo) oo,Rat.intCast_sub]
theorem mulI{a b:Int}(ha:a.natAbs<65536^8)(hb:b.natAbs<65536^8):Cz (QR (a:Rat)) (QR (b:Rat))=some (QR ((a*b:Int):Rat)):=by
 rw[Bg1 (Sml.int ha oo) (Sml.int hb oo) oo,Rat.intCast_mul]
theorem Aq2{x1 y1 x2 y2 x3 y3:Int}(h:∀ z∈[x1,y1,x2,y2,x3,y3],-268435456<=z/\z<=268435456):
  Ir ⟨QR (x1:Rat),QR (y1:Rat)⟩ ⟨QR (x2:Rat),QR (y2:Rat)⟩ ⟨QR (x3:Rat),QR (y3:Rat)⟩=some (QR ((crs ⟨x1,y1⟩ ⟨x2,y2⟩ ⟨x3,y3⟩:Int):Rat)):=by
 have a1:=h x1 s_;have a2:=h y1 s_;have a3:=h x2 s_;have a4:=h y2 s_;have a5:=h x3 s_;have a6:=h y3 s_;have m1:=mulB (x:=x2-x1) (y:=y3-y1) (M:=536870912) (N:=536870912) oo oo oo oo oo;have m2:=mulB (x:=y2-y1) (y:=x3-x1) (M:=536870912) (N:=536870912) oo oo oo oo oo;unfold Ir;dsimp only;rw[subI (by rw[pow8];omega) (by rw[pow8];omega),Ac,subI (by rw[pow8];omega) (by rw[pow8];omega),Ac,mulI (by rw[pow8];omega) (by rw[pow8];omega),Ac,subI (by rw[pow8];omega) (by rw[pow8];omega),Ac,
  subI (by rw[pow8];omega) (by rw[pow8];omega),Ac,mulI (by rw[pow8];omega) (by rw[pow8];omega),Ac,subI (by rw[pow8];omega) (by rw[pow8];omega),Ac]
 rfl
theorem Ai9{z S A:Int}(hA:0<A):(z:Rat)<=(S:Rat)/(A:Rat)↔z*A<=S:=by
 have hA':(0:Rat)<(A:Rat):=by rw[show (0:Rat)=((0:Int):Rat) from rfl,Rat.intCast_lt_intCast];exact hA
 have hne:(A:Rat)≠0:=fun e=>by rw[e] at hA';exact absurd hA' dD
 have e:=Rat.div_mul_cancel (a:=(S:Rat)) hne;rw[<-Rat.intCast_le_intCast,Rat.intCast_mul];generalize (S:Rat)/(A:Rat)=y at *;rw[<-e];constructor
 .intro h;exact Rat.mul_le_mul_of_nonneg_right h (by grind)
 .intro h;exact Rat.le_of_mul_le_mul_right h hA'
theorem Au8{S A:Int}(hA:0<A):((S:Rat)/(A:Rat)).floor=S/A:=by
 refine Int.le_antisymm ?_ ?_
 .have h:=(Rat.le_floor_iff (x:=((S:Rat)/(A:Rat)).floor) (a:=(S:Rat)/(A:Rat))).1 (Int.le_refl _);exact Int.le_ediv_of_mul_le hA ((Ai9 hA).1 h)
 .rw[Rat.le_floor_iff,Ai9 hA];exact Int.ediv_mul_le _ oo
theorem At_Q{p:Ab}(hp:okP p):Ix p=some ⟨QR (p.X:Rat),QR (p.Y:Rat)⟩:=by
 unfold okP at hp;unfold Ix;rw[Ade oo oo,Ac,Ade oo oo,Ac]
section
variable {m:Al}(h:Msh m)
include h
theorem Au9{p:Ab}(hp:okP p){t:Ah}(ht:t∈m.T):Mm m t ⟨QR (p.X:Rat),QR (p.Y:Rat)⟩ =
  some ⟨QR ((crs (plV m.V t.a1) (plV m.V t.a2) p:Int):Rat),QR ((crs (plV m.V t.a2) (plV m.V t.a0) p:Int):Rat),QR ((crs (plV m.V t.a0) (plV m.V t.a1) p:Int):Rat)⟩:=by
 obtain⟨h0,h1,h2,_⟩:=h.t _ ht;have q0:=(Gm h.ok h0).1;have q1:=(Gm h.ok h1).1;have q2:=(Gm h.ok h2).1;obtain⟨a,ea,ha⟩:=Gf h0;obtain⟨b,eb,hb⟩:=Gf h1;obtain⟨c,ec,hc⟩:=Gf h2;have pa:∀{k:Nat} (hk:k<m.V.length),At m.V[k]=some (plV m.V (k:Int)):=fun hk=>by rw[Zb hk];rfl
 unfold Mm;rw[ea,eb,ec,Aj ha,Ac,Aj hb,Ac,Aj hc,Ac,pa ha,Ac,pa hb,pa hc];rw[ea] at q0;rw[eb] at q1;rw[ec] at q2;rw[At_Q q0,Ac,Ac,At_Q q1,Ac,Ac,At_Q q2,Ac];generalize plV m.V (a:Int)=A at *;generalize plV m.V (b:Int)=B at *;generalize plV m.V (c:Int)=C at *;have all:∀{u v w:Ab},okP u->okP v->okP w->∀z∈[u.X,u.Y,v.X,v.Y,w.X,w.Y],-268435456<=z/\z<=268435456:=fun hu hv hw z hz=>by
  unfold okP at hu hv hw;simp only[mem_cons,not_mem_nil,or_false] at hz;omega
 rw[Aq2 (all hp q1 q2),Ac,Aq2 (all q0 hp q2),Ac,Aq2 (all q0 q1 hp),Ac];have r1:crs p B C=crs B C p:=by unfold crs;grind
 have r2:crs A p C=crs C A p:=by unfold crs;grind
 show some (⟨QR ((crs p B C:Int):Rat),QR ((crs A p C:Int):Rat),QR ((crs A B p:Int):Rat)⟩:Ty)=_;rw[r1,r2]
theorem Alf{p:Ab}(hp:okP p){t:Ah}(ht:t∈m.T)(b:Bool)(f:Av->Int)(hf:∀ z,f z=if b=true then z.Hi else z.Lo):
  Is m t ⟨QR (p.X:Rat),QR (p.Y:Rat)⟩ b=some (QR (((wsum m.V p t f:Int):Rat)/((Ps m.V t:Int):Rat))):=by
 obtain⟨h0,h1,h2,hpos⟩:=h.t _ ht;obtain⟨q0,z0⟩:=Gm h.ok h0;obtain⟨q1,z1⟩:=Gm h.ok h1;obtain⟨q2,z2⟩:=Gm h.ok h2;have hs:=Amu (plV m.V t.a0) (plV m.V t.a1) (plV m.V t.a2) p;have b0:=Hp q1 q2 hp;have b1:=Hp q2 q0 hp;have b2:=Hp q0 q1 hp;have b3:=Hp q0 q1 q2;unfold Ps at hpos;unfold Is;rw[Au9 h hp ht,Ac,show Cf 0=some (QR ((0:Int):Rat)) from Ade oo oo,Ac,Ac];unfold wsum Ps;obtain⟨a,ea,ha⟩:=Gf h0;obtain⟨b',eb,hb⟩:=Gf h1;obtain⟨c,ec,hc⟩:=Gf h2;have hh:∀{k:Nat} (hk:k<m.V.length),Ei m.V[k] b=some (f (zV m.V (k:Int))):=fun hk=>by
  unfold Ei;rw[Ai7 hk,hf];cases b <;> rfl
 rw[<-hs];rw[<-hs] at hpos b3;have f0:-268435456<=f (zV m.V t.a0)/\f (zV m.V t.a0)<=268435456:=by rw[hf];split <;> omega
 have f1:-268435456<=f (zV m.V t.a1)/\f (zV m.V t.a1)<=268435456:=by rw[hf];split <;> omega
 have f2:-268435456<=f (zV m.V t.a2)/\f (zV m.V t.a2)<=268435456:=by rw[hf];split <;> omega
 have k0:=hh ha;have k1:=hh hb;have k2:=hh hc;rw[<-ea] at k0;rw[<-eb] at k1;rw[<-ec] at k2;have i0:idx m.V t.a0=some m.V[a]:=by rw[ea];exact Aj ha
 have i1:idx m.V t.a1=some m.V[b']:=by rw[eb];exact Aj hb
 have i2:idx m.V t.a2=some m.V[c]:=by rw[ec];exact Aj hc
 rw[i0,Ac,k0,Ac];generalize f (zV m.V t.a0)=v0 at *;rw[Ade oo oo,Ac];generalize crs (plV m.V t.a1) (plV m.V t.a2) p=w0 at *;generalize crs (plV m.V t.a2) (plV m.V t.a0) p=w1 at *;generalize crs (plV m.V t.a0) (plV m.V t.a1) p=w2 at *;have m0:=mulB (x:=w0) (y:=v0) (M:=576460752303423488) (N:=268435456) oo oo oo oo oo;dsimp only;rw[mulI (by rw[pow8];omega) (by rw[pow8];omega),Ac,addI (by rw[pow8];omega) (by rw[pow8];omega),Ac,addI (by rw[pow8];omega) (by rw[pow8];omega),Ac,i1,Ac,k1,Ac];generalize f (zV m.V t.a1)=v1 at *;have m1:=mulB (x:=w1) (y:=v1) (M:=576460752303423488) (N:=268435456) oo oo oo oo oo;rw[Ade oo oo,Ac,mulI (by rw[pow8];omega) (by rw[pow8];omega),Ac,addI (by rw[pow8];omega) (by rw[pow8];omega),Ac,addI (by rw[pow8];omega) (by rw[pow8];omega),Ac,i2,Ac,k2,Ac];generalize f (zV m.V t.a2)=v2 at *;have m2:=mulB (x:=w2) (y:=v2) (M:=576460752303423488) (N:=268435456) oo oo oo oo oo;rw[Ade oo oo,Ac,mulI (by rw[pow8];omega) (by rw[pow8];omega),Ac,addI (by rw[pow8];omega) (by rw[pow8];omega),Ac,addI (by rw[pow8];omega) (by rw[pow8];omega),Ac];have e1:0+w0*v0+w1*v1+w2*v2=w0*v0+w1*v1+w2*v2:=oo;have e2:0+w0+w1+w2=w0+w1+w2:=oo;rw[e1,e2];have hne:((w0+w1+w2:Int):Rat)≠0:=fun e=>by
  rw[show (0:Rat)=((0:Int):Rat) from rfl,Rat.intCast_inj] at e;omega
 rw[Bg3 (Sml.int (k:=8) (by rw[pow8];omega) oo) (Sml.int (k:=8) (by rw[pow8];omega) oo) oo hne,Ac]
end
theorem Age(p:Aa):Bp p=some (X.plF p):=rfl
theorem Yy{p:Aa}(hp:X.okPt p=true):okP (X.plF p):=by
 have:=X.okPt_rng hp;unfold okP X.plF;dsimp only;omega
theorem Aja{a b:Av}(ha:-268435456<=a.Lo/\a.Lo<=a.Hi/\a.Hi<=268435456)(hb:-268435456<=b.Lo/\b.Lo<=b.Hi/\b.Hi<=268435456):Wq a b=some (gapI a b)/\0<=gapI a b/\gapI a b<=536870912:=by
 unfold Wq gapI;rw[Aq (x:=a.Lo-b.Hi) oo oo,Aq (x:=b.Lo-a.Hi) oo oo];exact⟨rfl,oo,oo⟩
theorem Ayd{g q s:Int}(h1:0<=g)(h2:g<4294967296)(h3:0<=s)(h4:s<4294967296)(h5:0<=q)(h6:q<18446744073709551616):Tm g q s=some (decide (g*g*1000000<=s*s*q)):=by
 obtain⟨a,rfl⟩:=Int.eq_ofNat_of_zero_le h1;obtain⟨b,rfl⟩:=Int.eq_ofNat_of_zero_le h3;obtain⟨c,rfl⟩:=Int.eq_ofNat_of_zero_le h5;rw[Azl oo oo oo];congr 1;rw[Bool.eq_iff_iff,dQ,dQ,
  show (a:Int)*(a:Int)*1000000=((a*a*1000000:Nat):Int) by rw[Int.natCast_mul,Int.natCast_mul];rfl,
  show (b:Int)*(b:Int)*(c:Int)=((b*b*c:Nat):Int) by rw[Int.natCast_mul,Int.natCast_mul]]
 exact Int.ofNat_le.symm
section
variable {m:Al}(h:Msh m){p:Aa}(hp:X.okPt p=true){r:Af}(hr:X.okRules r=true)
include h hp hr
theorem Ava{t:Ah}(ht:t∈m.T)(i:Int){j:Nat}(hj:j < [t.a0,t.a1,t.a2].length):
  Rz t m p r i (j:Int)=if Nx m.V r p [t.a0,t.a1,t.a2][j]=true then some (.inl ((j+1:Nat):Int)) else some (.inr (.inr (i,false,0))):=by
 obtain⟨h0,h1,h2,_⟩:=h.t _ ht;have hk:inN m.V.length [t.a0,t.a1,t.a2][j]:=by
  have:[t.a0,t.a1,t.a2][j]∈[t.a0,t.a1,t.a2]:=gM hj;simp only[mem_cons,not_mem_nil,or_false] at this;rcases this with e|e|e <;> rw[e] <;> assumption
 have hj3:j<3:=hj;have hrr:=X.okRules_rng hr;have hpp:=X.okPt_rng hp;unfold Rz;rw[iP oo,Aj hj,Ac,As oo];unfold Nx;generalize [t.a0,t.a1,t.a2][j]=k at *;have hz:=Gm h.ok hk;obtain⟨n,rfl,hn⟩:=Gf hk;rw[Ai7 hn,Zb hn] at hz⊢;obtain⟨g1,g2,g3⟩:=Aja (a:=p.Z) (b:=m.V[n].Z) oo hz.2;obtain⟨q1,q2,q3⟩:=Au7 (Yy hp) hz.1;have sp:Kx m.V[n]=some (pP m.V[n]):=rfl;rw[Aj hn,Ac,g1,Ac,Age,Ac,sp,Ac,q1,Ac,Ayd g2 oo oo oo q2 oo,Ac];rfl
theorem Bbs:Yz m p r=some (fitV m.V m.T r p):=by
 have hpp:=X.okPt_rng hp;have hq:=Yy hp;unfold Yz;rw[Age,Ac,Ald h hq,Ac];unfold fitV;cases e:locT m.V m.T (X.plF p) with
 |none=>rfl
 |some i=>
  dsimp only;have e':=e;unfold locT at e';rw[List.findIdx?_eq_some_iff_getElem] at e';obtain⟨hi,hc,_⟩:=e';have hb:=Acl h (gM hi) hc;rw[iN oo,Ac,Ale h hq hi hc,Ac,(Aja (a:=p.Z) oo hb).1,Ac,Aj hi];dsimp only
  by_cases c:r.Reach<gapI p.Z (bndT m.V (X.plF p) m.T[i])
  .rw[iP c,iP c]
  .rw[iN c,iN c,jn_d,Ac,Uf [m.T[i].a0,m.T[i].a1,m.T[i].a2] (Nx m.V r p) (Rz m.T[i] m p r (i:Int)) () ((i:Int),false,0) (fun j hj=>Ava h hp hr (gM hi) _ hj) ?_,Ac]
   .by_cases c2:Nx m.V r p m.T[i].a0=true/\Nx m.V r p m.T[i].a1=true/\Nx m.V r p m.T[i].a2=true
    .rw[iP c2,iP (by simp[c2])]
    .rw[iN c2,iN (sV c2)]
   .unfold Rz;rw[iN s_]
omit hp hr in
theorem Aye:-1<=(fitV m.V m.T r p).1/\(fitV m.V m.T r p).1<2305843009213693952:=by
 have hl:=h.len;unfold fitV;cases e:locT m.V m.T (X.plF p) with
 |none=>dsimp only;omega
 |some i=>
  have e':=e;unfold locT at e';rw[List.findIdx?_eq_some_iff_getElem] at e';obtain⟨hi,hc,_⟩:=e';dsimp only;rw[Aj hi];dsimp only;split
  .dsimp only;omega
  .split <;> (dsimp only;omega)
end
theorem Avb{n:Nat}{T:List Ah}(hnd:T.Nodup)(h:∀t∈T,inN n t.a0/\inN n t.a1/\inN n t.a2):T.length<=n*n*n:=by
 have h1:(T.map fun t=>((t.a0.toNat*n+t.a1.toNat)*n+t.a2.toNat)).Nodup:=by
  unfold List.Nodup;rw[pairwise_map];refine List.Pairwise.imp_of_mem ?_ hnd;intro x y hx hy hne e;obtain⟨x0,x1,x2⟩:=h x hx;obtain⟨y0,y1,y2⟩:=h y hy;unfold inN at x0 x1 x2 y0 y1 y2;have e2:x.a2.toNat=y.a2.toNat:=by
   have:=congrArg (· % n) e;simp only[Nat.mul_add_mod_self_right] at this
   rwa [Nat.mod_eq_of_lt oo,Nat.mod_eq_of_lt oo] at this
  have e':x.a0.toNat*n+x.a1.toNat=y.a0.toNat*n+y.a1.toNat:=by
   rw[e2] at e;exact Nat.eq_of_mul_eq_mul_right (oo:0<n) oo
  have e1:x.a1.toNat=y.a1.toNat:=by
   have:=congrArg (· % n) e';simp only[Nat.mul_add_mod_self_right] at this
   rwa [Nat.mod_eq_of_lt oo,Nat.mod_eq_of_lt oo] at this
  have e0:x.a0.toNat=y.a0.toNat:=by
   rw[e1] at e';exact Nat.eq_of_mul_eq_mul_right (oo:0<n) oo
  apply hne;obtain⟨xa,xb,xc⟩:=x;obtain⟨ya,yb,yc⟩:=y;simp only at *;rw[show xa=ya by omega,show xb=yb by omega,show xc=yc by omega]
 have:=Bn (m:=List.range (n*n*n)) h1 fun x hx=>by
  obtain⟨t,ht,rfl⟩:=mem_map.1 hx;obtain⟨t0,t1,t2⟩:=h t ht;unfold inN at t0 t1 t2;rw[mem_range];have a1:=Nat.mul_le_mul_right n (oo:t.a0.toNat+1<=n);have a2:=Nat.mul_le_mul_right n (show t.a0.toNat*n+t.a1.toNat+1<=n*n by rw[Nat.add_mul] at a1;omega);rw[Nat.add_mul,Nat.one_mul] at a2;omega
 rwa [length_map,length_range] at this
theorem Ayf{L:List Aa}(hL:X.Fit L):∀x∈vxL L,Mb x:=fun x hx=>by
 unfold vxL at hx;obtain⟨p,hp,rfl⟩:=mem_map.1 hx;have:=X.okPt_rng (hL.ok p hp);unfold Mb okP pP;dsimp only;omega
theorem Alg{L:List Aa}(hL:X.Fit L):∃r:Al×Int,Oc L=some r/\((r.2=0/\Ho L/\r.1.V=vxL L/\r.1.Lines=[]/\Wl (vxL L) r.1.T)\/(r=(⟨[],[],[]⟩,11)/\¬Ho L)):=by
 have hn:=hL.n;unfold Oc;rw[gd_t oo,jn_d,Ai4 hn,Ac];dsimp only;rcases Agd hL with⟨e,ha⟩|⟨e,ha⟩
 .obtain⟨T,t1,t3⟩:=Aok e;rw[t1,Ac];dsimp only;rw[iP rfl];exact⟨_,rfl,.inl ⟨rfl,ha,rfl,rfl,t3⟩⟩
 .rw[Alb [] oo,Ac];dsimp only;rw[iN oo];exact⟨_,rfl,.inr ⟨rfl,ha⟩⟩
theorem Ajb{L:List Aa}(hL:X.Fit L){m:Al}(hv:m.V=vxL L)(ht:Wl (vxL L) m.T):Msh m:=by
 have hn:=hL.n;have hlen:m.V.length<=1024:=by rw[hv];unfold vxL;rw[length_map];exact hn
 have hin:∀t∈m.T,inN m.V.length t.a0/\inN m.V.length t.a1/\inN m.V.length t.a2/\0<Ps m.V t:=fun t h=>by
  rw[hv];obtain⟨_,_,d0,d1,d2,d3,_⟩:=(ht.mem t).1 h;exact⟨d0,d1,d2,d3⟩
 refine⟨hlen,by rw[hv];exact Ayf hL,?_,hin⟩;have:=Avb ht.nd (fun t h=>⟨(hin t h).1,(hin t h).2.1,(hin t h).2.2.1⟩);have h1:=Nat.mul_le_mul hlen hlen;have h2:=Nat.mul_le_mul h1 hlen;omega
section
open Go.Sort
structure Ctx(l:List Aa)(r:Af)(C:List Aa):Prop where
 val:X.validL l=true
 rul:X.okRules r=true
 few:l.length<=300
 perm:C.Perm (X.candL l r)
structure GOk(C:List Aa)(g:LI):Prop where
 nd:g.Nodup
 src:∀i∈g,∃p∈C,p.Id=i
theorem Fit.pick{l:List Aa}{ids:LI}(hl:X.Fit l):X.Fit (Sj l ids):=(Fit.sel hl).perm (Db _ _).symm
section
variable {l:List Aa}{r:Af}{C:List Aa}(hc:Ctx l r C)
include hc
theorem Ctx.fit:X.Fit C:=(X.Fit.cand hc.val).perm hc.perm.symm
theorem Ctx.bot{p:Aa}(hp:p∈C):p∈X.candL l r:=hc.perm.mem_iff.1 hp
theorem Ctx.dry{p:Aa}(hp:p∈C):p∈l/\X.sunkB l r p=false/\p.Num=p.Of:=by
 have h1:=(X.mem_bot.1 (hc.bot hp)).1;unfold X.lastL X.dryL at h1;rw[mem_filter,mem_filter] at h1;exact⟨h1.1.1,sV h1.1.2,sV h1.2⟩
theorem Ctx.apart{p q:Aa}(hp:p∈C)(hq:q∈C)(hx:p.X=q.X)(hy:p.Y=q.Y):p=q:=by
 obtain⟨p1,p2⟩:=X.mem_bot.1 (hc.bot hp);obtain⟨q1,q2⟩:=X.mem_bot.1 (hc.bot hq);have e:X.plF p=X.plF q:=by unfold X.plF;rw[hx,hy]
 exact X.id_inj hc.fit.id hp hq (X.lowB_total (q2 p p1 e) (p2 q q1 e.symm))
theorem Ctx.len:C.length<=300:=by
 classical
 have h1:=Bn (l:=C) (m:=l) (X.nodup_of_ids hc.fit.id) (fun x hx=>(hc.dry hx).1);have:=hc.few;omega
variable {g:LI}(hg:GOk C g)
include hg
omit hc in
theorem GOk.len:g.length<=C.length:=by
 have:=Bn (l:=g) (m:=C.map (·.Id)) hg.nd (fun i hi=>by
  obtain⟨p,hp,rfl⟩:=hg.src i hi;exact mem_map_of_mem hp)
 rwa [length_map] at this
theorem GOk.sel:Xz l g:=⟨hg.nd,fun i hi=>by
 obtain⟨p,hp,e⟩:=hg.src i hi;exact⟨p,(hc.dry hp).1,e⟩⟩
theorem GOk.rng{i:Int}(hi:i∈g):-9223372036854775808<=i/\i<=9223372036854775807:=by
 obtain⟨p,hp,rfl⟩:=hg.src i hi;have:=X.okPt_rng (hc.fit.ok p hp);omega
theorem GOk.pick{p:Aa}(hp:p∈Sj l g):p∈C/\p.Id∈g:=by
 have h1:p∈selL l g:=Gs.1 hp;unfold selL at h1;rw[mem_filter,dQ] at h1;obtain⟨c,hc1,e⟩:=hg.src _ h1.2;rw[X.id_inj (X.Fit.of hc.val).id h1.1 (hc.dry hc1).1 e.symm];exact⟨hc1,by rw[e];exact h1.2⟩
theorem GOk.apart:Ho (Sj l g):=by
 have hf:=(Fit.pick (ids:=g) (X.Fit.of hc.val)).id;rw[List.Nodup,pairwise_map] at hf;unfold Ho;refine List.Pairwise.imp_of_mem ?_ hf;intro a b ha hb hne e;exact hne (congrArg (·.Id) (hc.apart (GOk.pick hc hg ha).1 (GOk.pick hc hg hb).1 e.1 e.2))
end
structure GSel(l:List Aa)(g:LI):Prop where
 sel:Xz l g
 apart:Ho (Sj l g)
theorem GOk.gsel{l:List Aa}{r:Af}{C:List Aa}(hc:Ctx l r C){g:LI}(hg:GOk C g):GSel l g:=⟨GOk.sel hc hg,GOk.apart hc hg⟩
section
variable {l:List Aa}{r:Af}{C:List Aa}(hc:Ctx l r C){g:LI}(hg:GSel l g)
include hg
theorem GSel.len:g.length<=l.length:=by
 have:=Bn (l:=g) (m:=l.map (·.Id)) hg.sel.1 (fun i hi=>by
  obtain⟨p,hp,rfl⟩:=hg.sel.2 i hi;exact mem_map_of_mem hp)
 rwa [length_map] at this
include hc
theorem GSel.rng{i:Int}(hi:i∈g):-9223372036854775808<=i/\i<=9223372036854775807:=by
 obtain⟨p,hp,rfl⟩:=hg.sel.2 i hi;have:=X.okPt_rng ((X.Fit.of hc.val).ok p hp);omega
theorem Bbt:∃m:Al,Bo l g=some (m,0)/\m.V=vxL (Sj l g)/\m.Lines=[]/\Wl (vxL (Sj l g)) m.T/\Msh m:=by
 have h1:=GSel.len hg;have h2:=hc.few;have hf:=Fit.pick (ids:=g) (X.Fit.of hc.val);obtain⟨x,e,⟨e0,_,e1,e2,e3⟩|⟨_,e0⟩⟩:=Alg hf
 .refine⟨x.1,?_,e1,e2,e3,Ajb hf e1 e3⟩;unfold Bo;rw[Wp (X.Fit.of hc.val) oo (fun i hi=>GSel.rng hc hg hi),Ac,iP hg.sel];dsimp only;rw[iP rfl,e,Ac,e0]
 .exact absurd hg.apart e0
end
def Dv(l:List Aa)(g:LI):Al:=match Bo l g with
 |some r=>r.1
 |none=>⟨[],[],[]⟩
def gFit(l:List Aa)(r:Af)(g:LI):FitF:=fitV (Dv l g).V (Dv l g).T r
section
variable {l:List Aa}{r:Af}{C:List Aa}(hc:Ctx l r C){g:LI}(hg:GSel l g)
include hc hg
theorem Aaz:Bo l g=some (Dv l g,0)/\(Dv l g).V=vxL (Sj l g)/\(Dv l g).Lines=[]/\Wl (vxL (Sj l g)) (Dv l g).T/\Msh (Dv l g):=by
 obtain⟨m,e,h⟩:=Bbt hc hg;have:Dv l g=m:=by unfold Dv;rw[e]
 rw[this];exact⟨e,h⟩
omit hc hg in
theorem Aoo{C':List Aa}{b:List (Int×Bb)}(h:Aan g (gFit l r g) C' b):b.length<=C'.length:=by
 classical
 have h1:(b.map (·.2.p)).Nodup:=by
  unfold List.Nodup;rw[pairwise_map];refine List.Pairwise.imp_of_mem ?_ h.map;intro q q' hq hq' hne e;have a1:=(h.src q hq).2.2;have a2:=(h.src q' hq').2.2;rw[e,a2] at a1;exact hne (Prod.mk.inj a1).1.symm
 have:=Bn (m:=C') h1 fun x hx=>by
  obtain⟨q,hq,rfl⟩:=mem_map.1 hx;exact (h.src q hq).1
 rwa [length_map] at this
theorem Amv:lfix (Ug C g (Dv l g,0) r) (([]:List (Int×Bb)),0)=some (Ya g (gFit l r g) C):=by
 obtain⟨_,_,_,_,hm⟩:=Aaz hc hg;have hlen:=hc.len;have hgl:=GSel.len hg;have hll:=hc.few;have:=Ax (B:=Ug C g (Dv l g,0) r) (fun s=>C.length-s.2.toNat) (fun s=>∃k:Nat,k<=C.length/\s=((C.take k).foldl (Uq g (gFit l r g)) [],(k:Int))) (fun t=>t=Ya g (gFit l r g) C) (fun s hs=>by
  obtain⟨k,hk,rfl⟩:=hs;have hb:=Aey (g:=g) (F:=gFit l r g) (C:=C) k;have hbl:=Aoo hb;rw[length_take] at hbl;unfold Ug;dsimp only
  by_cases hk2:k<C.length
  .left;refine⟨((C.take (k+1)).foldl (Uq g (gFit l r g)) [],((k+1:Nat):Int)),?_,⟨k+1,hk2,rfl⟩,by dsimp only;omega⟩;rw[take_succ_eq_append_getElem hk2,foldl_append];generalize (C.take k).foldl (Uq g (gFit l r g)) []=b at *;rw[iP oo,jn_d,Aj hk2,Ac,Ahh oo,Ac,As oo];have hp:=hc.fit.ok _ (gM hk2);have hf:=Bbs hm hp hc.rul;have hfr:=Aye (p:=C[k]) (r:=r) hm;show _=some (Sum.inl (Uq g (gFit l r g) b C[k],((k+1:Nat):Int)));unfold Uq
   by_cases c1:C[k].Id∈g
   .rw[iP (sV c1),iP (.inl c1)]
   .rw[iN (sV c1),hf,Ac];unfold gFit;generalize fitV (Dv l g).V (Dv l g).T r C[k]=f at *
    by_cases c2:f.2.1=true
    .rw[iP c2,gd_t oo,Ac,jn_d,iN (show ¬(C[k].Id∈g\/f.2.1=false) by rw[c2];simpa using c1),gd_t oo,gd_t oo];cases e:mget b f.1 with
     |none=>simp
     |some o=>
      simp only[Option.isSome_some,if_true,Option.getD_some]
      by_cases c3:f.2.2<o.far
      .rw[iP c3,iP (.inl c3)];try simp
      .rw[iN c3]
       by_cases c4:f.2.2=o.far
       .rw[iP c4,X.lower_eq,Ac]
        by_cases c5:X.lowB C[k] o.p=true
        .rw[iP c5,iP (.inr ⟨c4,c5⟩)]
        .rw[iN c5,iN (fun h=>h.elim c3 (fun h=>c5 h.2))]
       .rw[iN c4,iN s_,iN (fun h=>h.elim c3 (fun h=>c4 h.1))]
    .rw[iN c2,iP (.inr (sV c2))]
  .right;rw[iN oo];have:k=C.length:=oo;subst this;exact⟨_,rfl,by rw[take_length];rfl⟩) (([]:List (Int×Bb)),0) ⟨0,oo,rfl⟩
 obtain⟨t,ht,rfl⟩:=this;exact ht
theorem Ayg:Ws l g C r=some (Kj g (gFit l r g) C,0):=by
 obtain⟨hs,_⟩:=Aaz hc hg;have hlen:=hc.len;have hgl:=GSel.len hg;have hll:=hc.few;have hbl:=Aoo (Aba g (gFit l r g) C);unfold Ws;rw[hs,Ac];dsimp only;rw[iP rfl,jn_d,Amv hc hg,Ac];dsimp only;unfold Yp;rw[gd_t oo,Ac,jn_d];refine Ary (Aba g (gFit l r g) C).map g (fun q=>[q.2.p.Id]) (fun q=>s_) (fun s=>rfl) (fun s q hq hlt=>?_) (fun w hw=>?_)
 .unfold Xt;rw[gd_t oo]
 .rw[<-map_eq_flatMap] at hw;have:=hw.length_eq;rw[length_map] at this;dsimp only;rw[gd_t (by rw[length_append];omega)];unfold Kj adds;rw[X.sortI_perm (hw.append_left g)]
end
section
variable {l:List Aa}{r:Af}{C:List Aa}(hc:Ctx l r C){g:LI}(hg:GOk C g)
include hc hg
theorem Aop:Bo l g=some (Dv l g,0)/\(Dv l g).V=vxL (Sj l g)/\(Dv l g).Lines=[]/\Wl (vxL (Sj l g)) (Dv l g).T/\Msh (Dv l g):=Aaz hc (GOk.gsel hc hg)
theorem As7:Ws l g C r=some (Kj g (gFit l r g) C,0):=Ayg hc (GOk.gsel hc hg)
theorem Aib:GOk C (Kj g (gFit l r g) C):=⟨App hg.nd hc.fit.id,fun i hi=>Av8 hg.src hi⟩
end
structure Grnd(l:List Aa)(r:Af)(C:List Aa)(g:LI):Prop where
 ok:GOk C g
 srt:g.Pairwise (·<=·)
 seed:∀i∈X.seedL l r,i∈g
 again:Kj g (gFit l r g) C=g
 stop:Ya g (gFit l r g) C=[]
theorem Ayh{l:List Aa}{r:Af}(hl:X.validL l=true)(hr:X.okRules r=true)(hn:l.length<=300):∃C,Bx l r=some C/\Ctx l r C:=by
 obtain⟨C,h1,h2⟩:=X.cand_eq hl hr;exact⟨C,h2,hl,hr,hn,h1⟩
section
variable {l:List Aa}{r:Af}{C:List Aa}(hc:Ctx l r C)
include hc
theorem As8:Su C r=some (X.seedL l r):=by
 rw[X.seeds_eq hc.fit hc.rul];unfold X.seedL;rw[X.sortI_perm ((X.bot_perm (X.nodup_of_ids hc.fit.id) hc.perm).map _)]
theorem Aic:GOk C (X.seedL l r):=by
 have hf:=X.Fit.cand (l:=l) (r:=r) hc.val;have hb:X.Fit (X.bot (X.ceF r.Cell) (X.candL l r)):=hf.filter _;refine⟨(X.perm_sortI _).nodup_iff.2 hb.id,fun i hi=>?_⟩;obtain⟨p,hp,rfl⟩:=mem_map.1 ((X.perm_sortI _).mem_iff.1 hi);exact⟨p,hc.perm.mem_iff.2 (X.mem_bot.1 hp).1,rfl⟩
theorem Ahi(hC:Bx l r=some C):∃g,Fc l r=some g/\Grnd l r C g:=by
 have:=Ax (B:=Jo l C r) (fun g=>C.length-g.length) (fun g=>GOk C g/\g.Pairwise (·<=·)/\∀i∈X.seedL l r,i∈g) (fun g=>Grnd l r C g) (fun g hs=>by
  obtain⟨h1,h2,h3⟩:=hs;have h4:=Aib hc h1;unfold Jo;rw[As7 hc h1,Ac,jn_d];dsimp only;rw[iP rfl]
  by_cases e:(Kj g (gFit l r g) C).length=g.length
  .right;obtain⟨e1,e2⟩:=Arz h2 e;rw[iP (dT oo)];exact⟨g,rfl,h1,h2,h3,e1,e2⟩
  .left;rw[iN (by rw[dQ];omega)];have l1:=GOk.len h4;have l2:=Adm (g:=g) (F:=gFit l r g) (C:=C);exact⟨_,rfl,⟨h4,Afy,fun i hi=>Av9 (h3 i hi)⟩,oo⟩) (X.seedL l r) ⟨Aic hc,X.sorted_sortI _,fun i hi=>hi⟩
 obtain⟨g,e,h⟩:=this;refine⟨g,?_,h⟩;unfold Fc;rw[hC,Ac,As8 hc,Ac,e,Ac]
end
theorem Akr{m:Al}(h1:m.V.length<=1000000)(h2:m.T.length<=100000000)(h3:m.Lines=[]):Kq m m=some true:=by
 have e1:lfix (Eb m m) 0=some (.inl ()):=by
  rw[Uf (β:=Unit) (γ:=Bool) m.V (fun _=>true) (Eb m m) () false (fun j hj=>?_) ?_]
  .simp
  .unfold Eb;rw[iN oo]
  .unfold Eb;rw[iP oo,Aj hj,Ac,Ac,iP s_,iP rfl,w1 hj oo]
 have e2:lfix (Dj m m) 0=some (.inl ()):=by
  rw[Uf (β:=Unit) (γ:=Bool) m.T (fun _=>true) (Dj m m) () false (fun j hj=>?_) ?_]
  .simp
  .unfold Dj;rw[iN oo]
  .unfold Dj;rw[iP oo,Aj hj,Ac,Ac,iP s_,iP rfl,w1 hj oo]
 have e3:lfix (Js m) 0=some ():=by
  rw[Ay];unfold Js;rw[iN (by rw[h3];simp)]
 unfold Kq;rw[jn_d,iP rfl,iP rfl,dT rfl];dsimp only;rw[iN s_,jn_d,e1,Ac];dsimp only;rw[jn_d,e2,Ac];dsimp only;rw[jn_d,e3,Ac]
theorem Alh{v:List Ae}{T:List Ah}(hn:v.length<=1024)(h:Wl v T):T.length<=1048576:=by
 have hsq:=Ahr hn;have:=Ae1 (fun t ht=>(h.mem t).1 ht) h.nd;omega
end
theorem Aq3{α γ:Type}(l:List α)(p:α->Bool)(g:Nat->γ)(B:Int->Option (Sum Int (Sum Unit γ)))(h1:∀ (j:Nat) (h:j<l.length),B j=if p l[j]=true then some (.inr (.inr (g j))) else some (.inl ((j+1:Nat):Int)))(h2:B l.length=some (.inr (.inl ()))):
  lfix B 0=some (match l.findIdx? p with|some i=>.inr (g i)|none=>.inl ()):=by
 have key:∀(m k:Nat),k<=l.length->l.length-k=m->(∀j (hj:j<l.length),j<k->p l[j]=false)->lfix B k=some (match l.findIdx? p with|some i=>.inr (g i)|none=>.inl ()):=by
  intro m
  induction m with
  |zero=>
   intro k hk hm hf;obtain rfl:k=l.length:=oo;rw[Ay,h2];have:l.findIdx? p=none:=by
    rw[List.findIdx?_eq_none_iff];intro x hx;obtain⟨j,hj,rfl⟩:=getElem_of_mem hx;exact hf j hj hj
   rw[this]
  |succ m ih=>
   intro k hk hm hf;have hlt:k<l.length:=oo;rw[Ay,h1 k hlt]
   by_cases hp:p l[k]=true
   ·rw[if_pos hp];have:l.findIdx? p=some k:=by
     rw[List.findIdx?_eq_some_iff_getElem];exact⟨hlt,hp,fun j hj=>by rw[hf j oo hj];simp⟩
    rw[this]
   .rw[iN hp];refine ih (k+1) oo oo fun j hj hjk=>?_
    by_cases e:j=k
    .subst e;exact Bool.eq_false_iff.2 hp
    .exact hf j hj oo
 exact key l.length 0 (Nat.zero_le _) rfl (fun j _ h=>absurd h oo)
structure Adz(m:Al):Prop where
 msh:Msh m
 chk:Li m=some 0
theorem Ajc{L:List Aa}(hL:X.Fit L)(ha:Ho L){m:Al}(hv:m.V=vxL L)(hl:m.Lines=[])(ht:Wl (vxL L) m.T):Adz m:=by
 have hm:=Ajb hL hv ht;refine⟨hm,?_⟩;rcases Agd hL with⟨e,_⟩|⟨_,g⟩
 .obtain⟨T,t1,t2,t3⟩:=Afh e;have hn:=hL.n;have hlen:(vxL L).length<=1024:=by unfold vxL;rw[length_map];exact hn
  have hT:=Alh hlen ht;have em:(⟨vxL L,T,[]⟩:Al)=m:=by
   obtain⟨V,T',Ls⟩:=m;dsimp only at hv hl ht;rw[hv,hl,t3.unique ht]
  unfold Li;rw[hv,hl,t1,Ac,jn_d];dsimp only;rw[iP rfl,em,Akr (by have:=hm.n;omega) oo hl,Ac];rfl
 .exact absurd ha g
section
variable {m:Al}(h:Msh m)
include h
theorem Be3{p:Ab}(hp:okP p){t:Ah}(ht:t∈m.T):Ul m t p=some (covT m.V p t):=by
 obtain⟨h0,h1,h2,_⟩:=h.t _ ht;have q0:=(Gm h.ok h0).1;have q1:=(Gm h.ok h1).1;have q2:=(Gm h.ok h2).1;obtain⟨a,ea,ha⟩:=Gf h0;obtain⟨b,eb,hb⟩:=Gf h1;obtain⟨c,ec,hc⟩:=Gf h2;have pa:∀{k:Nat} (hk:k<m.V.length),At m.V[k]=some (plV m.V (k:Int)):=fun hk=>by rw[Zb hk];rfl
 have sg:∀z:Int,Int.sign z<0↔¬0<=z:=fun z=>by
  rw[Int.sign_neg_iff];omega
 have st:∀ (j:Nat) (u v:Nat),u<m.V.length->v<m.V.length->idx [t.a0,t.a1,t.a2] (j:Int)=some (u:Int)->idx [t.a0,t.a1,t.a2] (Int.tmod (w64 ((j:Int)+1)) 3)=some (v:Int)->j<3->okP (plV m.V (u:Int))->okP (plV m.V (v:Int)) ->
   Da t m p (j:Int)=if 0<=crs (plV m.V (u:Int)) (plV m.V (v:Int)) p then some (.inl ((j+1:Nat):Int)) else some (.inr (.inr false)):=fun j u v hu hv e1 e2 hj o1 o2=>by
  unfold Da;rw[iP oo,e1,Ac,Aj hu,Ac,e2,Ac,Aj hv,Ac,pa hu,Ac,pa hv,Ac,Aa2 o1 o2 hp,Ac,As oo]
  by_cases c:0<=crs (plV m.V (u:Int)) (plV m.V (v:Int)) p
  .rw[iP c,iN (by rw[sg];omega)]
  .rw[iN c,iP ((sg _).2 c)]
 rw[ea] at q0;rw[eb] at q1;rw[ec] at q2;have t3:∀{k:Nat},k<3->∃u v:Nat,idx [t.a0,t.a1,t.a2] (k:Int)=some (u:Int)/\idx [t.a0,t.a1,t.a2] (Int.tmod (w64 ((k:Int)+1)) 3)=some (v:Int)/\((k=0/\u=a/\v=b)\/(k=1/\u=b/\v=c)\/(k=2/\u=c/\v=a)):=fun {k} hk=>by
  rw[ea,eb,ec,As oo];rcases (by omega:k=0\/k=1\/k=2) with rfl|rfl|rfl
  .exact⟨a,b,rfl,rfl,.inl ⟨rfl,rfl,rfl⟩⟩
  .exact⟨b,c,rfl,rfl,.inr (.inl ⟨rfl,rfl,rfl⟩)⟩
  .exact⟨c,a,rfl,rfl,.inr (.inr ⟨rfl,rfl,rfl⟩)⟩
 have s0:Da t m p ((0:Nat):Int)=if 0<=crs (plV m.V (a:Int)) (plV m.V (b:Int)) p then some (.inl ((0+1:Nat):Int)) else some (.inr (.inr false)):=by
  obtain⟨u,v,e1,e2,g⟩:=t3 (oo:0<3);obtain⟨rfl,rfl⟩:u=a/\v=b:=oo;exact st 0 u v ha hb e1 e2 oo q0 q1
 have s1:Da t m p ((0+1:Nat):Int)=if 0<=crs (plV m.V (b:Int)) (plV m.V (c:Int)) p then some (.inl ((0+1+1:Nat):Int)) else some (.inr (.inr false)):=by
  obtain⟨u,v,e1,e2,g⟩:=t3 (oo:0+1<3);obtain⟨rfl,rfl⟩:u=b/\v=c:=oo;exact st _ u v hb hc e1 e2 oo q1 q2
 have s2:Da t m p ((0+1+1:Nat):Int)=if 0<=crs (plV m.V (c:Int)) (plV m.V (a:Int)) p then some (.inl ((0+1+1+1:Nat):Int)) else some (.inr (.inr false)):=by
  obtain⟨u,v,e1,e2,g⟩:=t3 (oo:0+1+1<3);obtain⟨rfl,rfl⟩:u=c/\v=a:=oo;exact st _ u v hc ha e1 e2 oo q2 q0
 have s3:Da t m p ((0+1+1+1:Nat):Int)=some (.inr (.inl ())):=by
  unfold Da;rw[iN oo]
 unfold Ul covT;rw[jn_d,ea,eb,ec];show bnd (lfix (Da t m p) ((0:Nat):Int)) _=_
 by_cases c0:0<=crs (plV m.V (a:Int)) (plV m.V (b:Int)) p
 .by_cases c1:0<=crs (plV m.V (b:Int)) (plV m.V (c:Int)) p
  .by_cases c2:0<=crs (plV m.V (c:Int)) (plV m.V (a:Int)) p
   .rw[iP c0] at s0;rw[iP c1] at s1;rw[iP c2] at s2;rw[Ay,s0];dsimp only;rw[Ay,s1];dsimp only;rw[Ay,s2];dsimp only;rw[Ay,s3];simp[Ac,c0,c1,c2]
   .rw[iP c0] at s0;rw[iP c1] at s1;rw[iN c2] at s2;rw[Ay,s0];dsimp only;rw[Ay,s1];dsimp only;rw[Ay,s2];simp[Ac,c2]
  .rw[iP c0] at s0;rw[iN c1] at s1;rw[Ay,s0];dsimp only;rw[Ay,s1];simp[Ac,c1]
 .rw[iN c0] at s0;rw[Ay,s0];simp[Ac,c0]
end
theorem Amw{m:Al}(h:Adz m){p:Ab}(hp:okP p):Jw m p=some (match locT m.V m.T p with|some i=>((i:Int),0)|none=>(0,65)):=by
 unfold Jw;rw[h.chk,Ac,iP rfl,Atb,Ac,dT hp,iP rfl,jn_d];have hl:=h.msh.len;have e:=Aq3 m.T (covT m.V p) (fun i=>((i:Int),(0:Int))) (Ml m p) (fun j hj=>by
  unfold Ml;rw[iP oo,Aj hj,Ac,Be3 h.msh hp (gM hj),Ac,As oo]) (by
  unfold Ml;rw[iN oo])
 rw[e,Ac];unfold locT;cases m.T.findIdx? (covT m.V p) <;> rfl
theorem Ajd{m:Al}(h:Adz m){p:Ab}(hp:okP p):Gr m p=some (match locT m.V m.T p with|some i=>(match idx m.T (i:Int) with|some t=>(bndT m.V p t,0)|none=>(⟨0,0⟩,0))|none=>(⟨0,0⟩,65)):=by
 unfold Gr Sm;rw[Amw h hp,Ac];cases e:locT m.V m.T p with
 |none=>rfl
 |some i=>
  have e':=e;unfold locT at e';rw[List.findIdx?_eq_some_iff_getElem] at e';obtain⟨hi,hc,_⟩:=e';have ht:=gM hi;obtain⟨h0,h1,h2,hpos⟩:=h.msh.t _ ht;have hb:=Acl h.msh ht hc;dsimp only;rw[iP rfl,Aj hi,Ac,Ac,At_Q hp,Ac,Alf h.msh hp ht false (·.Lo) (fun z=>s_),Ac,Ac,Alf h.msh hp ht true (·.Hi) (fun z=>s_),Ac,Ac];dsimp only;rw[iP rfl];unfold bndT at hb⊢;dsimp only at hb;have hd:∀z:Int,-((z:Rat)/((Ps m.V m.T[i]:Int):Rat))=((-z:Int):Rat)/((Ps m.V m.T[i]:Int):Rat):=fun z=>by
   rw[Rat.div_def,Rat.div_def,<-Rat.neg_mul,Rat.intCast_neg]
  have fl:=fun z=>Au8 (S:=z) hpos
  have hw:wsum m.V p m.T[i] (·.Lo)<=wsum m.V p m.T[i] (·.Hi):=by
   obtain⟨_,z0⟩:=Gm h.msh.ok h0;obtain⟨_,z1⟩:=Gm h.msh.ok h1;obtain⟨_,z2⟩:=Gm h.msh.ok h2;unfold covT at hc;rw[dQ] at hc;unfold wsum;dsimp only;have c0:=Int.mul_le_mul_of_nonneg_left z0.2.1 hc.2.1;have c1:=Int.mul_le_mul_of_nonneg_left z1.2.1 hc.2.2;have c2:=Int.mul_le_mul_of_nonneg_left z2.2.1 hc.1;omega
  have big:∀f:Av->Int,(∀z:Av,-268435456<=z.Lo->z.Lo<=z.Hi->z.Hi<=268435456->-268435456<=f z/\f z<=268435456)->(wsum m.V p m.T[i] f).natAbs<65536^8:=fun f hf=>by
   obtain⟨q0,z0⟩:=Gm h.msh.ok h0;obtain⟨q1,z1⟩:=Gm h.msh.ok h1;obtain⟨q2,z2⟩:=Gm h.msh.ok h2;have f0:=hf _ z0.1 z0.2.1 z0.2.2;have f1:=hf _ z1.1 z1.2.1 z1.2.2;have f2:=hf _ z2.1 z2.2.1 z2.2.2;have b0:=Hp q1 q2 hp;have b1:=Hp q2 q0 hp;have b2:=Hp q0 q1 hp;have m0:=mulB (M:=576460752303423488) (N:=268435456) oo b0.1 b0.2 f0.1 f0.2;have m1:=mulB (M:=576460752303423488) (N:=268435456) oo b1.1 b1.2 f1.1 f1.2;have m2:=mulB (M:=576460752303423488) (N:=268435456) oo b2.1 b2.2 f2.1 f2.2;unfold wsum;rw[pow8];omega
  have hA8:(Ps m.V m.T[i]).natAbs<65536^8:=by
   have:=Hp (Gm h.msh.ok h0).1 (Gm h.msh.ok h1).1 (Gm h.msh.ok h2).1;unfold Ps;rw[pow8];omega
  have hne:((Ps m.V m.T[i]:Int):Rat)≠0:=fun e=>by
   rw[show (0:Rat)=((0:Int):Rat) from rfl,Rat.intCast_inj] at e;omega
  have s1:=big (·.Lo) (fun z a b c=>by constructor <;> omega);have s2:=big (·.Hi) (fun z a b c=>by constructor <;> omega);have x1:Sml 16 (((wsum m.V p m.T[i] (·.Lo):Int):Rat)/((Ps m.V m.T[i]:Int):Rat)):=Sml.div (Sml.int s1 oo) (Sml.int hA8 oo) hne;have x2:Sml 16 (((wsum m.V p m.T[i] (·.Hi):Int):Rat)/((Ps m.V m.T[i]:Int):Rat)):=Sml.div (Sml.int s2 oo) (Sml.int hA8 oo) hne;have hpos':(0:Rat)<((Ps m.V m.T[i]:Int):Rat):=Rat.intCast_pos.2 hpos;have hxy:¬((wsum m.V p m.T[i] (·.Hi):Int):Rat)/((Ps m.V m.T[i]:Int):Rat)<((wsum m.V p m.T[i] (·.Lo):Int):Rat)/((Ps m.V m.T[i]:Int):Rat):=fun hlt=>by
   rw[Rat.div_lt_iff hpos',Rat.div_mul_cancel hne,Rat.intCast_lt_intCast] at hlt;omega
  have e2:(if ((wsum m.V p m.T[i] (·.Lo):Int):Rat)/((Ps m.V m.T[i]:Int):Rat)<((wsum m.V p m.T[i] (·.Hi):Int):Rat)/((Ps m.V m.T[i]:Int):Rat) then ((wsum m.V p m.T[i] (·.Hi):Int):Rat)/((Ps m.V m.T[i]:Int):Rat) else ((wsum m.V p m.T[i] (·.Lo):Int):Rat)/((Ps m.V m.T[i]:Int):Rat))=((wsum m.V p m.T[i] (·.Hi):Int):Rat)/((Ps m.V m.T[i]:Int):Rat):=by
   split
   .rfl
   .rename_i hlt;exact Rat.le_antisymm (Rat.not_lt.1 hxy) (Rat.not_lt.1 hlt)
  have ar:=Ay9 x1 x2 oo (by rw[iN hxy,fl];omega) (by rw[e2,hd,fl];omega);rw[iN hxy,e2,hd,fl,fl] at ar;rw[ar,Ac]
end
end Go.Proofs.YthlkpgdfifnagaaGreat
