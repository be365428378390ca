import Derived.Test.YtlejkgngmjchdaaGreatE3
set_option maxRecDepth 100000
set_option maxHeartbeats 1000000
namespace Go.Proofs.YtlejkgngmjchdaaGreat
open Go Go.RowKit Tryz
noncomputable section
section
section
variable {α:Type}{lt:α->α->Bool}
theorem Avh(htr:∀ x y z,lt y x=false->lt z y=false->lt z x=false)(has:∀ x y,lt x y=true->lt y x=false){B:List α × Int->Option (Sum (List α × Int) (List α))}(hB:∀ (A:List α) (y x:α) (R:List α),A.length<=100000000->B (A++y::x::R,((A.length+1:Nat):Int))=if lt x y=true then some (.inl (A++x::y::R,(A.length:Int))) else some (.inr (A++y::x::R)))(hB0:∀ (x:α) (R:List α),B (x::R,0)=some (.inr (x::R))):
  ∀(n:Nat) (A C D:List α) (x:α),A.length=n->n<=100000000->((A++C).Pairwise fun x y=>lt y x=false)->(∀c∈C,lt x c=true)->∃A' C',A'++C'=A++C/\lfix B (A++x::(C++D),(A.length:Int))=some (A'++x::(C'++D))/\(A'++x::C').Pairwise fun x y=>lt y x=false:=by
 intro n
 induction n with
 |zero=>
  intro A C D x hA _ hs hc;have:A=[]:=List.eq_nil_of_length_eq_zero hA;subst this;refine⟨[],C,rfl,?_,?_⟩
  .rw[List.nil_append,Ax,show ((([]:List α).length:Nat):Int)=0 from rfl,hB0]
  .exact List.pairwise_cons.2 ⟨fun c hc'=>has _ _ (hc c hc'),hs⟩
 |succ n ih=>
  intro A C D x hA hn hs hc;obtain⟨A',y,rfl⟩:∃A' y,A=A'++[y]:=⟨A.dropLast,A.getLast (fun e=>by rw[e] at hA;simp at hA),(List.dropLast_concat_getLast _).symm⟩;have hA':A'.length=n:=by simpa using hA
  have e1:(A'++[y])++x::(C++D)=A'++y::x::(C++D):=s_;have e2:(((A'++[y]).length:Nat):Int)=((A'.length+1:Nat):Int):=s_;rw[e1,e2,Ax,hB _ _ _ _ oo]
  by_cases c:lt x y=true
  .rw[iP c];dsimp only;obtain⟨A2,C2,g1,g2,g3⟩:=ih A' (y::C) D x hA' oo (sV hs) (fun z hz=>by rcases List.mem_cons.1 hz with rfl|hz;exact c;exact hc z hz);exact⟨A2,C2,by rw[g1];simp,g2,g3⟩
  .rw[iN c];have c':lt x y=false:=by simpa using c
   refine⟨A'++[y],C,rfl,s_,?_⟩;rw[List.pairwise_append] at hs⊢;obtain⟨h1,h2,h3⟩:=hs;refine⟨h1,List.pairwise_cons.2 ⟨fun z hz=>has _ _ (hc z hz),h2⟩,fun z hz w hw=>?_⟩;rcases List.mem_cons.1 hw with rfl|hw
   .rw[List.pairwise_append] at h1;rcases List.mem_append.1 hz with hz|hz
    .exact htr _ _ _ (h1.2.2 z hz y s_) c'
    .rw[List.mem_singleton] at hz;subst hz;exact c'
   .exact h3 z hz w hw
theorem All(htr:∀ x y z,lt y x=false->lt z y=false->lt z x=false)(has:∀ x y,lt x y=true->lt y x=false){B:List α × Int->Option (Sum (List α × Int) (List α))}{B2:List α × Int->Option (Sum (List α × Int) (List α))}{p:List α}(hB:∀ (A:List α) (y x:α) (R:List α),A.length<=100000000->B (A++y::x::R,((A.length+1:Nat):Int))=if lt x y=true then some (.inl (A++x::y::R,(A.length:Int))) else some (.inr (A++y::x::R)))(hB0:∀ (x:α) (R:List α),B (x::R,0)=some (.inr (x::R)))(hp:p.length<=100000000)(h2:∀ (l:List α) (k:Nat),k<p.length->B2 (l,(k:Int))=bnd (lfix B (l,(k:Int))) fun t=>some (.inl (t,((k+1:Nat):Int))))(h3:∀ l:List α,B2 (l,(p.length:Int))=some (.inr l)):
  ∃r,lfix B2 (p,0)=some r/\r.Perm p/\r.Pairwise fun x y=>lt y x=false:=by
 refine Bp (B:=B2) (fun s=>p.length-s.2.toNat) (fun s=>∃S D:List α,s=(S++D,(S.length:Int))/\(S++D).Perm p/\S.Pairwise fun x y=>lt y x=false) _ (fun s hs=>?_) _ ⟨[],p,rfl,List.Perm.refl _,List.Pairwise.nil⟩;obtain⟨S,D,rfl,h4,h5⟩:=hs;have hlen:=h4.length_eq;rw[List.length_append] at hlen;rcases D with _|⟨x,D⟩
 .right;have:S.length=p.length:=by simpa using hlen
  rw[this,h3];exact⟨_,rfl,h4,sV h5⟩
 .left;rw[List.length_cons] at hlen;rw[h2 _ _ oo];obtain⟨A',C',g1,g2,g3⟩:=Avh htr has hB hB0 S.length S [] D x rfl oo (sV h5) (fun c hc=>(by cases hc));rw[List.append_nil] at g1;rw[List.nil_append] at g2;rw[g2,Ac];have hl:A'.length+C'.length=S.length:=by rw[<-List.length_append,g1]
  have e:(A'++x::(C'++D))=(A'++x::C')++D:=s_;refine⟨_,rfl,⟨A'++x::C',D,by rw[e,List.length_append,List.length_cons,<-hl];congr 2,?_,g3⟩,by dsimp only;omega⟩;rw[<-e];refine List.Perm.trans ?_ h4;rw[<-g1];have:(A'++x::(C'++D)).Perm (x::(A'++(C'++D))):=List.perm_middle;refine this.trans ?_;have:((A'++C')++x::D).Perm (x::((A'++C')++D)):=List.perm_middle;rw[<-List.append_assoc];exact this.symm
end
theorem Ajl{α:Type}(A:List α)(y x:α)(R:List α):idx (A++y::x::R) (A.length:Int)=some y/\idx (A++y::x::R) ((A.length+1:Nat):Int)=some x:=by
 constructor
 .rw[Az s_];simp
 .rw[Az s_];simp
theorem Ayx(x y:Ah):Pk x y=some (decide (cmp3 x y<0)):=by
 obtain⟨x0,x1,x2⟩:=x;obtain⟨y0,y1,y2⟩:=y;have step:∀(a b c a' b' c':Int) (i:Int) (h:Int),w64 (i+1)=h->∀p q,i<3->idx [a,b,c] i=some p->idx [a',b',c'] i=some q->Iw ⟨a,b,c⟩ ⟨a',b',c'⟩ i=if p=q then some (.inl h) else some (.inr (.inr (decide (p<q)))):=by
  intro a b c a' b' c' i h hh p q hi hp hq;unfold Iw;dsimp only;rw[iP hi,hp,Ac,hq,Ac,Ac,Ac,hh]
 have w1:w64 (0+1)=1:=Av oo oo;have w2:w64 (1+1)=2:=Av oo oo;have w3:w64 (2+1)=3:=Av oo oo;have s0:=step x0 x1 x2 y0 y1 y2 0 1 w1 x0 y0 oo rfl rfl;have s1:=step x0 x1 x2 y0 y1 y2 1 2 w2 x1 y1 oo rfl rfl;have s2:=step x0 x1 x2 y0 y1 y2 2 3 w3 x2 y2 oo rfl rfl;have s3:Iw ⟨x0,x1,x2⟩ ⟨y0,y1,y2⟩ 3=some (.inr (.inl ())):=by unfold Iw;rw[iN oo]
 unfold Pk;rw[jn_d,Ax,s0];have key:∀P:Prop,∀Q:Prop,[Decidable P]->[Decidable Q]->(P↔Q)->some (decide P)=some (decide Q):=fun P Q _ _ h=>by rw[decide_eq_decide.2 h]
 have hc:=Aa7 ⟨x0,x1,x2⟩ ⟨y0,y1,y2⟩;dsimp only at hc
 by_cases h0:x0=y0
 .rw[iP h0];dsimp only;rw[Ax,s1]
  by_cases h1:x1=y1
  .rw[iP h1];dsimp only;rw[Ax,s2]
   by_cases h2:x2=y2
   .rw[iP h2];dsimp only;rw[Ax,s3,Ac];dsimp only;rw[dF (fun g=>by have:=hc.1 g;omega)]
   .rw[iN h2,Ac];dsimp only;exact key _ _ (by rw[hc];omega)
  .rw[iN h1,Ac];dsimp only;exact key _ _ (by rw[hc];omega)
 .rw[iN h0,Ac];dsimp only;exact key _ _ (by rw[hc];omega)
theorem Anv(p:List Ah)(hp:p.length<=100000000):∃r,Nc p=some r/\r.Perm p/\r.Pairwise fun x y=>¬cmp3 y x<0:=by
 have:=All (lt:=fun x y:Ah=>decide (cmp3 x y<0)) (B:=Jj) (B2:=Jk p) (p:=p)
  (fun x y z h1 h2=>by
   simp only[decide_eq_false_iff_not,Aa7] at *;omega)
  (fun x y h=>by
   simp only[decide_eq_false_iff_not,dQ,Aa7] at *;omega)
  (fun A y x R hA=>by
   obtain⟨i0,i1⟩:=Ajl A y x R;have w1:w64 (((A.length+1:Nat):Int)-1)=(A.length:Int):=by rw[Av oo oo];omega
   unfold Jj;dsimp only;rw[jn_d,iP oo,w1,i1,Ac,i0,Ac,Ayx,Ac]
   by_cases c:decide (cmp3 x y<0)=true
   .have e1:(A++y::x::R).set (A.length+1) y=A++y::y::R:=by simp[List.set_append]
    have e2:(A++y::y::R).set A.length x=A++x::y::R:=by simp[List.set_append]
    have j0:∃z,idx (A++y::y::R) (A.length:Int)=some z:=⟨_,(Ajl A y y R).1⟩;obtain⟨z,j0⟩:=j0;dsimp only;rw[iP c,iP c,Ac,Ac,Ac,Vb,e1,j0,Ac,Vb,e2]
   .dsimp only;rw[iN c,iN c])
  (fun x R=>by
   unfold Jj;dsimp only;rw[jn_d,iN oo];dsimp only;rw[iN s_])
  hp
  (fun l k hk=>by
   unfold Jk;dsimp only;rw[iP oo,jn_d,show w64 ((k:Int)+1)=((k+1:Nat):Int) from by rw[Av oo oo];omega])
  (fun l=>by
   unfold Jk;dsimp only;rw[iN oo])
 obtain⟨r,h1,h2,h3⟩:=this;refine⟨r,?_,h2,h3.imp fun h=>by simpa using h⟩;unfold Nc;rw[jn_d,h1,Ac]
variable {v:List Aa}
theorem Bbq{n:Nat}(hn:n<=1024){t:Ah}(h0:inN n t.a0)(h1:inN n t.a1)(h2:inN n t.a2){s:List Ab × (List (Ab × Bool)) × List Ah}{op:List Ab}{dn:List (Ab × Bool)}(hop:op.length<=10000000)(hdn:dn.length<=10000000)(hpl:∀ (m:List (Ab × Bool)) (x:Ab),(mput m x true).length<=m.length+1):
  lfix (De t s) (op,dn,0)=some (op++[⟨t.a1,t.a0⟩,⟨t.a2,t.a1⟩,⟨t.a0,t.a2⟩],mput (mput (mput dn ⟨t.a0,t.a1⟩ true) ⟨t.a1,t.a2⟩ true) ⟨t.a2,t.a0⟩ true,s.2.2++[t]):=by
 unfold inN at h0 h1 h2;have step:∀ (op:List Ab) (dn:List (Ab × Bool)) (i j:Int) (p q:Int),op.length<=20000000->dn.length<=20000000->0<=i->i<3->Int.tmod (w64 (i+1)) 3=j->idx [t.a0,t.a1,t.a2] i=some p->idx [t.a0,t.a1,t.a2] j=some q->(0<=p/\p<1024)->(0<=q/\q<1024) ->
   De t s (op,dn,i)=some (.inl (op++[⟨q,p⟩],mput dn ⟨p,q⟩ true,i+1)):=fun op dn i j p q ho hd hi hi3 hj hp hq hpr hqr=>by
  unfold De;dsimp only;rw[iP hi3,hp,Ac,hj,hq,Ac,gd_t ⟨⟨oo,oo⟩,oo,oo⟩,gd_t oo,gd_t oo,Av oo oo]
 have last:∀(op:List Ab) (dn:List (Ab×Bool)),De t s (op,dn,3)=some (.inr (op,dn,s.2.2++[t])):=fun op dn=>by
  unfold De;dsimp only;rw[iN oo]
 have l1:=hpl dn ⟨t.a0,t.a1⟩;have l2:=hpl (mput dn ⟨t.a0,t.a1⟩ true) ⟨t.a1,t.a2⟩;have m0:Int.tmod (w64 (0+1)) 3=1:=by rw[Av oo oo];rfl
 have m1:Int.tmod (w64 (1+1)) 3=2:=by rw[Av oo oo];rfl
 have m2:Int.tmod (w64 (2+1)) 3=0:=by rw[Av oo oo];rfl
 rw[Ax,step op dn 0 1 t.a0 t.a1 oo oo oo oo m0 rfl rfl oo oo];dsimp only;rw[Ax,show (0:Int)+1=1 from rfl,step _ _ 1 2 t.a1 t.a2 (by simp;omega) oo oo oo m1 rfl rfl oo oo];dsimp only;rw[Ax,show (1:Int)+1=2 from rfl,step _ _ 2 0 t.a2 t.a0 (by simp;omega) oo oo oo m2 rfl rfl oo oo];dsimp only;rw[Ax,show (2:Int)+1=3 from rfl,last];simp
def dnM(m:List (Ab×Bool))(p q:Int):Prop:=(mget m ⟨p,q⟩).getD false=true
theorem Afe{m:List (Ab×Bool)}(hm:Ep m)(x y p q:Int):dnM (mput m ⟨x,y⟩ true) p q↔dnM m p q\/(p=x/\q=y):=by
 unfold dnM;rw[Rl hm]
 by_cases h:(⟨p,q⟩:Ab)=⟨x,y⟩
 .rw[iP h];simp only[Ab.mk.injEq] at h;simp[h]
 .rw[iN h];simp only[Ab.mk.injEq] at h;exact⟨.inl,fun g=>g.elim id fun g=>absurd g h⟩
theorem Zr(m:List (Ab×Bool))(x:Ab):(mput m x true).length<=m.length+1:=by
 unfold mput;have:(mdel m x).length<=m.length:=List.length_filter_le _ _;simp only[List.length_cons,List.length_append,List.length_nil];omega
theorem Avi(hv:Ci v)(hn:v.length<=1024)(h0:0<v.length):∃f,inN v.length f/\∀k,inN v.length k->k=f\/befP (plV v f) (plV v k):=by
 obtain⟨l,hl,hr⟩:=Amq hv hn;have hlen:=hr.len;have g0:0<l.length:=oo;refine⟨l[0],hr.val.1 (gM g0),fun k hk=>?_⟩;obtain⟨j,hj,rfl⟩:=List.getElem_of_mem (hr.val.2 hk)
 by_cases e:j=0
 .subst e;exact .inl rfl
 .exact .inr (hr.lt g0 hj oo)
theorem Alm(hv:Ci v)(h3:3<=v.length):(∀k,2<=k->inN v.length k->crs (plV v 0) (plV v 1) (plV v k)=0)↔Aah v:=by
 have i0:inN v.length 0:=⟨oo,oo⟩;have i1:inN v.length 1:=⟨oo,oo⟩;constructor
 ·intro h i j k hi hj hk;have on:∀ d,inN v.length d->crs (plV v 0) (plV v 1) (plV v d)=0:=fun d hd=>by
   by_cases e0:d=0
   .subst e0;exact Bx _ _
   .by_cases e1:d=1
    .subst e1;exact Bq _ _
    .exact h d (by have:=hd.1;omega) hd
  exact Af6 (Qn hv i0 i1 oo) (on i hi) (on j hj) (on k hk)
 .intro h k _ hk;exact h 0 1 k i0 i1 hk
theorem Avj(v:List Aa)(hn:v.length<=1024):lfix (Ke v) (([]:List Aa),0)=some v:=by
 have:=Bp (B:=Ke v) (fun s=>v.length-s.2.toNat) (fun s=>∃k:Nat,k<=v.length/\s=(v.take k,(k:Int))) (fun t=>t=v) (fun s hs=>by
  obtain⟨k,hk,rfl⟩:=hs;unfold Ke;dsimp only
  by_cases hk2:k<v.length
  .left;rw[iP oo,Az hk2,Ac,gd_t (by rw[List.length_take];omega),show w64 ((k:Int)+1)=((k+1:Nat):Int) from by rw[Av oo oo];omega];exact⟨_,rfl,⟨k+1,hk2,by rw[List.take_succ_eq_append_getElem hk2]⟩,by dsimp only;omega⟩
  .right;rw[iN oo];have:k=v.length:=oo;subst this;exact⟨_,rfl,by rw[List.take_length]⟩) (([]:List Aa),0) ⟨0,oo,s_⟩
 obtain⟨t,ht,rfl⟩:=this;exact ht
theorem Ahr{v:List Aa}(lines:List Ab)(h:Ox v≠0):Bt v lines=some (⟨[],[],[]⟩,Ox v):=by
 unfold Bt Kz;rw[Yz,Ac,iN h,Ac,iN h]
end
section
variable {v:List Aa}{m:Mp}{L l:List Ab}
theorem Mesh.seen_side(hv:Ci v)(h:Mesh v L m){x y z:Int}(hk:apM m x y=some z):Seen v L x y/\Seen v L y x:=by
 obtain⟨vx,vy,_,_⟩:=h.tri.ccw _ _ _ hk;have hf:=Mesh.free hv h.tri hk;have one:Seen v L x y:=fun s hs g=>by
  have hsd:apM m s.a0 s.a1≠none\/apM m s.a1 s.a0≠none:=h.side s hs;rcases g.cr with g|g
  .exact Adw h.tri h.cov vx vy hf (.inl (by rw[hk];simp)) g hsd
  .exact Adw h.tri h.cov vx vy hf (.inl (by rw[hk];simp)) g hsd.symm
 exact⟨one,fun s hs g=>one s hs (Hv.symm (Hv.rev (Hv.symm g)))⟩
theorem Mesh.topS(hv:Ci v)(h:Mesh v L m){a b k:Int}(hk:apM m a b=some k):TopS v (See2 v L a b) a b k:=by
 obtain⟨_,_,vk,T⟩:=h.tri.ccw _ _ _ hk;exact⟨vk,T,⟨(h.seen_side hv (h.tri.rot2 hk)).2,(h.seen_side hv (h.tri.rot _ _ _ hk)).1⟩,fun d hd hp hs hne=>h.best hv hk hd hp hne hs.1 hs.2⟩
theorem Anw(hM:Tri (plV v) (inN v.length) (apM m)){a b c:Int}(h:apM m a b=some c):∃t,Nd ⟨a,b,c⟩=some t/\Abq m t/\Pd t a b/\(∀p q,Pd t p q↔Pd ⟨a,b,c⟩ p q):=by
 have hn:=Ya (P:=plV v) (a:=a) (b:=b) (c:=c) (by have:=(hM.ccw _ _ _ h).2.2.2;omega);have stop:∀x y z:Int,¬y<x->¬z<x->Gs (x,y,z)=some (.inr (x,y,z)):=fun x y z h1 h2=>by
  unfold Gs;dsimp only;rw[jn_d,iN h1,dF h2];dsimp only;rw[iN s_]
 have more:∀x y z:Int,y<x\/z<x->Gs (x,y,z)=some (.inl (y,z,x)):=fun x y z h1=>by
  unfold Gs;dsimp only;rw[jn_d]
  by_cases c:y<x
  .rw[iP c];dsimp only;rw[iP rfl]
  .rw[iN c,dT (h1.resolve_left c)];dsimp only;rw[iP rfl]
 unfold Nd;rw[jn_d];dsimp only
 by_cases h1:b<a\/c<a
 .rw[Ax,more _ _ _ h1];dsimp only
  by_cases h2:c<b\/a<b
  .rw[Ax,more _ _ _ h2];dsimp only;rw[Ax,stop _ _ _ oo oo,Ac];refine⟨_,rfl,⟨by dsimp only;omega,by dsimp only;omega,hM.rot2 h⟩,.inr (.inl ⟨rfl,rfl⟩),fun p q=>?_⟩;unfold Pd;dsimp only;omega
  .rw[Ax,stop _ _ _ oo oo,Ac];refine⟨_,rfl,⟨by dsimp only;omega,by dsimp only;omega,hM.rot _ _ _ h⟩,.inr (.inr ⟨rfl,rfl⟩),fun p q=>?_⟩;unfold Pd;dsimp only;omega
 .rw[Ax,stop _ _ _ oo oo,Ac];exact⟨_,rfl,⟨by dsimp only;omega,by dsimp only;omega,h⟩,.inl ⟨rfl,rfl⟩,fun p q=>Iff.rfl⟩
theorem Ae2(hv:Ci v)(hn:v.length<=1024)(hL:L.length<=1000000)(hLs:Lines v L)(hM:Mesh v L m){p0 q0:Int}(h0:okM v m p0 q0)(hs:∃ e,apM m p0 q0=some e):
  ∃out,lfix (Gt v L) ([⟨p0,q0⟩],([]:List (Ab×Bool)),([]:List Ah))=some out/\out.Nodup/\out.length<=1048576/\∀t,t∈out↔Abq m t:=by
 have hok:∀s∈L,okL v s:=fun s hs=>(hLs.ok s hs).1
 have hsq:=Abg hn;refine Bp (B:=Gt v L) (fun s=>4*(v.length*v.length-s.2.2.length)+s.1.length)
  (fun s=>TrM v m p0 q0 s.1 (dnM s.2.1) s.2.2/\Ep s.2.1/\s.2.1.length+s.1.length<=1+6*s.2.2.length) _ (fun s hst=>?_) _ ⟨TrM.init h0 (fun p q h=>by simp[dnM,Axo] at h),List.Pairwise.nil,s_⟩
 obtain⟨op,dn,out⟩:=s;obtain⟨h1,h2,h3⟩:=hst;dsimp only at h1 h2 h3;have hb:=h1.bound hM.tri;have hl:=h1.len;unfold Gt;dsimp only
 by_cases hop:op=[]
 .right;subst hop;rw[iN s_];exact⟨_,rfl,h1.nd,oo,h1.full hv hM hs⟩
 .left;obtain⟨r,s,rfl⟩:∃r s,op=r++[s]:=⟨op.dropLast,op.getLast hop,(List.dropLast_concat_getLast hop).symm⟩;obtain⟨s1,s2,s3⟩:=h1.opn s s_;have hln:(r++[s]).length=r.length+1:=s_;have w1:w64 ((((r++[s]).length:Nat):Int)-1)=(r.length:Int):=by rw[hln,Av oo oo];omega
  have i1:idx (r++[s]) (r.length:Int)=some s:=by rw[Az s_];simp
  have tk:List.take (Int.toNat (r.length:Int)) (r++[s])=r:=s_;have hr1:=Ok hn s1 s2;rw[iP oo,w1,i1,Ac,gd_t ⟨oo,oo⟩,gd_t hr1,Ac,tk]
  by_cases c1:(mget dn s).getD false=true
  .rw[iP c1];exact⟨_,rfl,⟨h1.skip c1,h2,by dsimp only;omega⟩,by dsimp only;omega⟩
  .rw[iN c1];obtain⟨c,e1,e2⟩:=Axu hv hn hL hok s1 s2;rw[e1,Ac];have hput:=Zr dn s
   by_cases c2:c<0
   ·have hno:noT v s.a0 s.a1:=by
     rcases e2 with⟨_,g⟩|g
     .rcases s3 with g'|⟨e,he⟩
      .exact g'
      .have ht:=hM.topS hv he;have:=g e ht.1 ht.2.2.1;have:=ht.2.1;omega
     .have:=g.1.1;omega
    rw[iP c2,gd_t hr1,gd_t oo];exact⟨_,rfl,⟨h1.none (fun p q=>Afe h2 s.a0 s.a1 p q) hno,h2.put _ _,by dsimp only;omega⟩,by dsimp only;omega⟩
   ·have ht:TopS v (See2 v L s.a0 s.a1) s.a0 s.a1 c:=by
     rcases e2 with⟨g,_⟩|g
     .omega
     .exact g
    have hd:apM m s.a0 s.a1=some c:=by
     rcases s3 with g|⟨e,he⟩
     .have:=g c ht.1;have:=ht.2.1;omega
     .rw[<-(hM.topS hv he).unique ht];exact he
    obtain⟨t,t1,t2,t3,t4⟩:=Anw hM.tri hd;have tin:inN v.length t.a0/\inN v.length t.a1/\inN v.length t.a2:=by
     obtain⟨q1,q2,q3,_⟩:=hM.tri.ccw _ _ _ t2.2.2;exact⟨q1,q2,q3⟩
    have hnew:=h1.more (dn':=dnM (mput (mput (mput dn ⟨t.a0,t.a1⟩ true) ⟨t.a1,t.a2⟩ true) ⟨t.a2,t.a0⟩ true)) c1 t2 t3 (fun p q=>by
      rw[Afe ((h2.put _ _).put _ _),Afe (h2.put _ _),Afe h2];unfold Pd;constructor
      .rintro (((g|g)|g)|g)
       .exact .inl g
       .exact .inr (.inl g)
       .exact .inr (.inr (.inl g))
       .exact .inr (.inr (.inr g))
      .rintro (g|g|g|g)
       .exact .inl (.inl (.inl g))
       .exact .inl (.inl (.inr g))
       .exact .inl (.inr g)
       .exact .inr g) (fun p q hpq=>by
      obtain⟨e,he⟩:=t2.side hM.tri hpq;obtain⟨q1,q2,_⟩:=hM.tri.ccw _ _ _ he;refine⟨q2,q1,?_⟩;rcases hx:apM m q p with _|x
      .refine .inl fun d hd=>?_
       have:=hM.cov _ _ _ he hx d hd;rw[Bb];omega
      .exact .inr ⟨x,rfl⟩)
    have hb2:=hnew.bound hM.tri;rw[List.length_append,List.length_singleton] at hb2;have q1:=Zr dn ⟨t.a0,t.a1⟩;have q2:=Zr (mput dn ⟨t.a0,t.a1⟩ true) ⟨t.a1,t.a2⟩;have q3:=Zr (mput (mput dn ⟨t.a0,t.a1⟩ true) ⟨t.a1,t.a2⟩ true) ⟨t.a2,t.a0⟩;rw[iN c2,t1,Ac,gd_t oo,Bbq hn tin.1 tin.2.1 tin.2.2 oo oo Zr,Ac];refine⟨_,rfl,⟨hnew,((h2.put _ _).put _ _).put _ _,?_⟩,?_⟩
    .dsimp only;simp only[List.length_append,List.length_cons,List.length_nil];rw[hln] at h3;omega
    .dsimp only;simp only[List.length_append,List.length_cons,List.length_nil];omega
theorem Ar3(hv:Ci v)(hM:Mesh v L m){f b:Int}(hf:inN v.length f)(low:∀k,inN v.length k->k=f\/befP (plV v f) (plV v k))(hb:inN v.length b)(hbf:b≠f)(hh:∀k,inN v.length k->k≠f->behind v f b k):∃e,apM m f b=some e:=by
 have left:∀d,inN v.length d->0<=crs (plV v f) (plV v b) (plV v d):=fun d hd=>by
  by_cases e:d=f
  .rw[e,Bx];exact Int.le_refl _
  .rcases hh d hd e with g|g <;> omega
 have hfree:Free v f b:=fun z hz n1 n2 g=>by
  obtain⟨g0,g⟩:=g;have h1:=(low z hz).resolve_left n1;rcases hh z hz n1 with k|⟨_,k⟩
  .omega
  .have h2:=(Lm (Qn hv hz hb n2)).resolve_left k;exact g ⟨fun _=>h2,fun _=>h1⟩
 rcases Ajw hv hM.tri hf hb (fun e=>hbf e.symm) hfree (Agi hv hM.map hM.tri hM.cov hM.ne hf hb) with (g|g)|⟨x,y,g,g1,g2⟩
 .exact Option.ne_none_iff_exists'.1 g
 .exfalso;obtain⟨e,he⟩:=Option.ne_none_iff_exists'.1 g;obtain⟨_,_,ve,T⟩:=hM.tri.ccw _ _ _ he;have:=left e ve;rw[Bb] at T;omega
 .exfalso;obtain⟨vx,_,_,_⟩:=hM.tri.ccw _ _ _ g;have:=left x vx;omega
structure Acp(v:List Aa)(m:Mp)(T:List Ah):Prop where
 ord:T.Pairwise fun x y=>¬cmp3 y x<0
 nd:T.Nodup
 mem:∀t,t∈T↔Abq m t
theorem Acp.unique{T T':List Ah}(h:Acp v m T)(h':Acp v m T'):T=T' :=
 Xb tot3 (fun _ _=>trivial) h.ord h'.ord ((List.perm_ext_iff_of_nodup h.nd h'.nd).2 fun t=>(h.mem t).trans (h'.mem t).symm)
theorem Avk(hm:MapN v.length m):Acp v m (Ba cmp3 (m.flatMap triF)):=by
 have memt:∀t:Ah,t∈m.flatMap triF↔Abq m t:=fun t=>by
  rw[List.mem_flatMap];constructor
  .rintro⟨⟨⟨a,b⟩,c⟩,hq,ht⟩;unfold triF at ht;split at ht
   .rename_i hlt;rw[List.mem_singleton] at ht;subst ht;exact⟨hlt.1,hlt.2,Nv hm.ok hq⟩
   .cases ht
  .rintro⟨h1,h2,h3⟩;refine⟨(⟨t.a0,t.a1⟩,t.a2),Er h3,?_⟩;unfold triF;rw[iP ⟨h1,h2⟩];exact List.mem_singleton.2 rfl
 refine⟨Kq tot3 (fun _ _=>trivial),(Dk _ _).nodup_iff.2 ?_,fun t=>by rw[Hc,memt]⟩;have:∀l:Mp,Ep l->(l.flatMap triF).Nodup:=by
  intro l
  induction l with
  |nil=>intro _;exact List.Pairwise.nil
  |cons q r ih=>
   intro hl;obtain⟨h1,h2⟩:=List.pairwise_cons.1 hl;rw[List.flatMap_cons,List.nodup_append];refine⟨?_,ih h2,fun x hx y hy e=>?_⟩
   .unfold triF;split
    .simp
    .exact List.Pairwise.nil
   ·subst e;obtain⟨q',hq',hy⟩:=List.mem_flatMap.1 hy;have key:∀ q:Ab × Int,x∈triF q->q.1=⟨x.a0,x.a1⟩:=fun q hq=>by
     unfold triF at hq;split at hq
     .rw[List.mem_singleton] at hq;subst hq;rfl
     .cases hq
    exact h1 q' hq' (by rw[key _ hx,key _ hy])
 exact this m hm.ok
theorem Ayy(x y:Ab):Pm x y=some (decide (cmp2 x y<0)):=by
 have h:=Aa6 x y;unfold Pm;rw[jn_d]
 by_cases c:x.a0<y.a0
 .rw[iP c,dT (h.2 (.inl c))]
 .rw[iN c]
  by_cases c2:x.a0=y.a0
  .rw[iP c2];congr 1;exact decide_eq_decide.2 (by rw[h];omega)
  .rw[iN c2,dF (fun g=>by have:=h.1 g;omega)]
theorem Af9(hl:l.length<=1000000)(hs:∀s∈l.map prL,Oe s):Mf l=some (Ba cmp2 (l.map prL)):=by
 obtain⟨t,ht,hR⟩:=Bp (B:=Mj l) (fun s=>l.length-s.2.toNat)
  (fun s=>∃k:Nat,s=((l.take k).map prL,(k:Int))/\k<=l.length)
  (fun t=>t=l.map prL) (by
   rintro s ⟨k,rfl,hk⟩;unfold Mj;dsimp only
   by_cases hlt:k<l.length
   .left;refine⟨((l.take (k+1)).map prL,((k+1:Nat):Int)),?_,⟨k+1,rfl,oo⟩,by simp;omega⟩;rw[iP oo,Az hlt,Ac,Ac,Ac,Ac,gd_t (by simp;omega),Bd oo,Cq hlt,List.map_append];rfl
   .right;obtain rfl:k=l.length:=oo;exact⟨_,by rw[iN oo],s_⟩)
  ([],0) ⟨0,s_,oo⟩
 have hp:(l.map prL).length<=100000000:=by simp;omega
 have:=All (lt:=fun x y:Ab=>decide (cmp2 x y<0)) (B:=Hk) (B2:=If (l.map prL)) (p:=l.map prL)
  (fun x y z h1 h2=>by
   simp only[decide_eq_false_iff_not,Aa6] at *;omega)
  (fun x y h=>by
   simp only[decide_eq_false_iff_not,dQ,Aa6] at *;omega)
  (fun A y x R hA=>by
   obtain⟨i0,i1⟩:=Ajl A y x R;have w1:w64 (((A.length+1:Nat):Int)-1)=(A.length:Int):=by rw[Av oo oo];omega
   unfold Hk;dsimp only;rw[jn_d,iP oo,w1,i1,Ac,i0,Ac,Ayy,Ac]
   by_cases c:decide (cmp2 x y<0)=true
   .have e1:(A++y::x::R).set (A.length+1) y=A++y::y::R:=by simp[List.set_append]
    have e2:(A++y::y::R).set A.length x=A++x::y::R:=by simp[List.set_append]
    have j0:∃z,idx (A++y::y::R) (A.length:Int)=some z:=⟨_,(Ajl A y y R).1⟩;obtain⟨z,j0⟩:=j0;dsimp only;rw[iP c,iP c,Ac,Ac,Ac,Vb,e1,j0,Ac,Vb,e2]
   .dsimp only;rw[iN c,iN c])
  (fun x R=>by
   unfold Hk;dsimp only;rw[jn_d,iN oo];dsimp only;rw[iN s_])
  hp
  (fun l k hk=>by
   unfold If;dsimp only;rw[iP oo,jn_d,show w64 ((k:Int)+1)=((k+1:Nat):Int) from by rw[Av oo oo];omega])
  (fun l=>by
   unfold If;dsimp only;rw[iN oo])
 obtain⟨r,h1,h2,h3⟩:=this;have e:r=Ba cmp2 (l.map prL):=Xb tot2 (fun x hx=>hs x (h2.mem_iff.1 hx)) (h3.imp fun h=>by simpa using h) (Kq tot2 hs) (h2.trans (Dk _ _).symm);unfold Mf;rw[jn_d,ht,Ac,hR];dsimp only;rw[jn_d,h1,Ac,e]
theorem Aga(hv:Ci v)(hn:v.length<=1024)(hL:L.length<=1000000)(hLs:Lines v L)(hfl:¬Aah v)(hM:Mesh v L m):∃T,Da v L=some T/\Acp v m T:=by
 unfold Da;rw[jn_d];have c:¬v.length<3:=fun c=>hfl fun i j k hi hj hk=>by
  unfold inN at hi hj hk;have:i=j\/j=k\/i=k:=oo;rcases this with rfl|rfl|rfl
  .exact Wu _ _
  .exact Bq _ _
  .exact Bx _ _
 rw[iN oo];obtain⟨x,f1,f2⟩:=Aq8 hv hn;rw[f1,Ac];dsimp only;have hx:¬x=true:=fun g=>hfl ((Alm hv oo).1 (f2.1 g))
 rw[iN hx];obtain⟨f,hf,low⟩:=Avi hv hn oo;obtain⟨b,b1,b2,b3,b4⟩:=Atc hv hn hf low oo;obtain⟨e,he⟩:=Ar3 hv hM hf low b2 b3 b4;obtain⟨out,o1,o2,o3,o4⟩:=Ae2 hv hn hL hLs hM ⟨hf,b2,.inr ⟨e,he⟩⟩ ⟨e,he⟩;obtain⟨r,r1,r2,r3⟩:=Anv out oo;rw[Axk hn hf low,Ac,b1,Ac,jn_d,o1,Ac];dsimp only;rw[r1,Ac];exact⟨r,rfl,r3,r2.nodup_iff.2 o2,fun t=>by rw[r2.mem_iff];exact o4 t⟩
theorem Vj(hv:Ci v)(hn:v.length<=1024)(hfl:Aah v):Da v L=some []:=by
 unfold Da;rw[jn_d]
 by_cases c:v.length<3
 .rw[iP oo];dsimp only;rw[iP rfl]
 .rw[iN oo];obtain⟨x,f1,f2⟩:=Aq8 hv hn;rw[f1,Ac];dsimp only;rw[iP (f2.2 ((Alm hv oo).2 hfl))]
theorem Yv(h:Ox v=0)(hl:l.length<=1000000)(h1:Pe v l=0):
  ∃T,Me v l=some (⟨v,T,Ba cmp2 (l.map prL)⟩,0)/\Bt v l=some (⟨v,T,Ba cmp2 (l.map prL)⟩,0)/\Da v (Ba cmp2 (l.map prL))=some T/\((Aah v/\T=[])\/(¬Aah v/\∃m,Mesh v (Ba cmp2 (l.map prL)) m/\Acp v m T)):=by
 obtain⟨hn,_,hv⟩:=Sn h;have hE:Lin1 v l/\Lin2 v l:=by
  unfold Pe at h1
  by_cases c1:Lin1 v l
  .rw[iP c1] at h1
   by_cases c2:Lin2 v l
   .exact⟨c1,c2⟩
   .rw[iN c2] at h1;cases h1
  .rw[iN c1] at h1;cases h1
 have hLs:=Ahp hv hE.1 hE.2;have sm:∀s∈l.map prL,Oe s:=fun s hs=>by
  obtain⟨⟨k1,k2,_⟩,_⟩:=hLs.ok s (Hc.2 hs);exact Aaq hn k1 k2
 have hlen:(Ba cmp2 (l.map prL)).length<=1000000:=by rw[(Dk _ _).length_eq];simp;omega
 obtain⟨T,t1,t2⟩:=Aey h hl hE.1 hE.2;have go:Da v (Ba cmp2 (l.map prL))=some T->Bt v l=some (⟨v,T,Ba cmp2 (l.map prL)⟩,0):=fun g=>by
  unfold Bt;rw[Adg hl,iP h,h1,Ac,iP rfl,jn_d,Avj v hn,Ac,Af9 hl sm];dsimp only;rw[Ac,g,Ac]
 rcases t2 with⟨f,rfl⟩|⟨f,m,hM,rfl⟩
 .exact⟨_,t1,go (Vj hv hn f),Vj hv hn f,.inl ⟨f,rfl⟩⟩
 .obtain⟨T',e1,e2⟩:=Aga hv hn hlen hLs f hM;have hT:=Avk (v:=v) hM.map;rw[e2.unique hT] at e1;exact⟨_,t1,go e1,e1,.inr ⟨f,m,hM,hT⟩⟩
theorem Agb(hl:l.length<=1000000)(h:Ox v=0)(h1:Pe v l≠0):Bt v l=some (⟨[],[],[]⟩,Pe v l):=by
 unfold Bt;rw[Adg hl,iP h,Ac,iN h1]
end
def sqv:List Aa:=[⟨0,0,⟨0,0⟩⟩,⟨2,0,⟨0,0⟩⟩,⟨0,2,⟨0,0⟩⟩,⟨2,2,⟨0,0⟩⟩]
theorem Az9:Ox sqv=0:=by
 unfold Ox sqv Gr Wk Nl okP pP;simp
theorem Apv:∀ a∈([0,1,2,3]:List Int),∀ b∈([0,1,2,3]:List Int),∀ c∈([0,1,2,3]:List Int),
  ((a<b/\a<c/\0<crs (plV sqv a) (plV sqv b) (plV sqv c)/\∀d∈([0,1,2,3]:LI),d≠a->d≠b->d≠c->DH (plV sqv) (hV sqv) a b c d<0)↔((a=0/\b=1/\c=2)\/(a=1/\b=3/\c=2))):=by
 decide +kernel
theorem in4{i:Int}:inN sqv.length i↔i∈([0,1,2,3]:LI):=by
 unfold inN sqv;simp;omega
theorem Avl:Amr sqv [⟨0,1,2⟩,⟨1,3,2⟩]:=by
 refine⟨by simp[cmp3,cmpI],s_,fun t=>?_⟩;obtain⟨a,b,c⟩:=t;have key:∀a b c,Del sqv a b c↔a∈([0,1,2,3]:LI)/\b∈([0,1,2,3]:LI)/\c∈([0,1,2,3]:LI)/\0<crs (plV sqv a) (plV sqv b) (plV sqv c)/\∀d∈([0,1,2,3]:LI),d≠a->d≠b->d≠c->DH (plV sqv) (hV sqv) a b c d<0:=fun a b c=>by
  unfold Del;simp only[in4]
 dsimp only;rw[key];constructor
 .intro h;have e:(a=0/\b=1/\c=2)\/(a=1/\b=3/\c=2):=by simpa using h
  have ha:a∈([0,1,2,3]:LI):=by rcases e with⟨rfl,_,_⟩|⟨rfl,_,_⟩ <;> simp
  have hb:b∈([0,1,2,3]:LI):=by rcases e with⟨_,rfl,_⟩|⟨_,rfl,_⟩ <;> simp
  have hc:c∈([0,1,2,3]:LI):=by rcases e with⟨_,_,rfl⟩|⟨_,_,rfl⟩ <;> simp
  obtain⟨h1,h2,h3,h4⟩:=(Apv a ha b hb c hc).2 e;exact⟨h1,h2,ha,hb,hc,h3,h4⟩
 .rintro⟨h1,h2,ha,hb,hc,h3,h4⟩;have e:=(Apv a ha b hb c hc).1 ⟨h1,h2,h3,h4⟩;simpa using e
section
variable {P:Program}{n:Nat}{Q:Exit->AW}{fr:lF}{L:LE}{N:AW}
def wrOk(A:OA)(m c:Nat)(t:TypeId)(sz:Nat)(xs:LV)(cur:Array Value)(w:World):Prop :=
 xs.length=m*sz/\m<=c/\c<=maxLen/\∃g o,A=some ⟨g,o,none⟩/\o+c*sz<=cur.size/\w.heap[g]? = some (.cells (Ct cur o xs) t (0,0))
def wr(A:OA)(m c:Nat)(t:TypeId)(sz:Nat)(xs:LV)(cur:Array Value):Ent:=.f (winB A) (wrOk A m c t sz xs cur)
theorem Aic{A m c t sz xs cur}{w:World}:Ent.ok w (wr A m c t sz xs cur)↔wrOk A m c t sz xs cur w:=by
 constructor
 .exact fun h=>h.2.1
 .intro h;refine⟨fun g hg=>?_,h,fun w1 w2 h1 he=>?_⟩
  .obtain⟨_,_,_,g',o,rfl,_,hh⟩:=h;simp[winB] at hg;subst hg;exact Ec hh
  .obtain⟨e1,e2,e3,g',o,rfl,h2,hh⟩:=h1;exact⟨e1,e2,e3,g',o,rfl,h2,by rw[he g' (by simp[winB])];exact hh⟩
theorem Anx{A m c t sz xs cur g}:(wr A m c t sz xs cur).own g↔(Value.slice A m c).ownBlock=some g:=by
 cases A with
 |none=>simp[wr,Ent.own,winB,Value.ownBlock]
 |some a=>simp[wr,Ent.own,winB,Value.ownBlock,eq_comm]
theorem wrOk.win{A m c t sz xs cur}{w:World}(h:wrOk A m c t sz xs cur w):Ac2 A m c t sz xs w:=by
 obtain⟨h1,h2,h3,g,o,rfl,h4,hh⟩:=h;have hs:o+xs.length<=cur.size:=by
  have:=Nat.mul_le_mul_right sz h2;omega
 refine⟨h1,h2,h3,.inr ⟨g,o,_,rfl,hh,by rw[Mx];exact h4,fun j v hj=>?_⟩⟩;have hjl:j<xs.length:=(List.getElem?_eq_some_iff.1 hj).1;rw[Qm _ _ _ _ hs,iP oo,show o+j-o=j by omega];exact hj
theorem Has.ofW{α:Type}{enc:α->List Value}{A m c t sz cur}{l:List α}(hz:0<sz)(he:∀ x,(enc x).length=sz){w:World}(hok:Ent.ok w (wr A m c t sz (l.flatMap enc) cur)):
  Has [wr A m c t sz (l.flatMap enc) cur] A m c sz enc l:=by
 have h:=(Aic.1 hok).win;have h0:=Has.ofQ (t:=t) hz he (Ac3.2 h);refine⟨h0.len,h0.nc,h0.cap,h0.esz,fun hn=>?_⟩;obtain⟨g,o,hA,hr⟩:=h0.at_ hn;refine⟨g,o,hA,fun i hi w' hw' j u hu=>?_⟩;exact hr i hi w' (fun e he'=>by rw[List.mem_singleton.1 he'];exact Ac3.2 (Aic.1 (hw' _ (List.mem_singleton.2 rfl))).win) j u hu
theorem Vk{α:Type}{enc:α->LV}{l:List α}{k A m c t sz cur}{i:Int}{x:α}(hk:nthE L k=some (wr A m c t sz (l.flatMap enc) cur))(hz:0<sz)(he:∀x,(enc x).length=sz)(hi:idx l i=some x)(kk:∀(g o j:Nat),A=some ⟨g,o,none⟩->i=(j:Int)->j<m->m=l.length->Pt [wr A m c t sz (l.flatMap enc) cur] g (o+j*sz) (enc x)->T n N fr L):T n N fr L:=by
 intro a w ha hw;have hs:=Has.ofW hz he (hw.ok _ (Ee hk));obtain⟨g,o,j,hA,hj,hl,hp⟩:=Has.at_idx hs hi;exact kk g o j hA hj hl hs.len.symm hp a w ha hw
theorem Ajm{vs xs:LV}{cur:Array Value}{o j:Nat}(hx:o+xs.length<=cur.size)(hj:j+vs.length<=xs.length):Ct (Ct cur o xs) (o+j) vs=Ct cur o (xs.take j++vs++xs.drop (j+vs.length)):=by
 have hl:(xs.take j++vs++xs.drop (j+vs.length)).length=xs.length:=by
  rw[List.length_append,List.length_append,List.length_take,List.length_drop];omega
 apply Array.ext_getElem?;intro k;rw[Qm _ _ _ _ (by rw[Mx];omega),Qm _ _ _ _ hx,Qm _ _ _ _ (by rw[hl];exact hx),hl]
 by_cases c1:o<=k/\k<o+xs.length
 .rw[iP c1,iP c1]
  by_cases c2:o+j<=k/\k<o+j+vs.length
  .rw[iP c2,List.append_assoc,List.getElem?_append_right (by rw[List.length_take];omega),List.length_take,List.getElem?_append_left oo];congr 1;omega
  .rw[iN c2]
   by_cases c3:k-o<j
   .rw[List.append_assoc,List.getElem?_append_left (by rw[List.length_take];omega),List.getElem?_take,iP c3]
   .rw[List.getElem?_append_right (by rw[List.length_append,List.length_take];omega),List.length_append,List.length_take,List.getElem?_drop];congr 1;omega
 .rw[iN c1,iN c1,iN oo]
theorem Avm{α:Type}{enc:α->LV}{sz:Nat}(he:∀x,(enc x).length=sz)(l:List α)(u:α){j:Nat}(hj:j<l.length):(l.set j u).flatMap enc=(l.flatMap enc).take (j*sz)++enc u++(l.flatMap enc).drop (j*sz+(enc u).length):=by
 rw[List.set_eq_take_append_cons_drop,iP hj,List.flatMap_append,List.flatMap_cons,he u,<-Nat.succ_mul,<-Uw he];have:(l.take j).flatMap enc=(l.flatMap enc).take (j*sz):=by
  have h0:l.flatMap enc=(l.take j).flatMap enc++(l.drop j).flatMap enc:=by rw[<-List.flatMap_append,List.take_append_drop]
  have hlt:((l.take j).flatMap enc).length=j*sz:=by rw[Ga he,List.length_take,Nat.min_eq_left oo]
  rw[h0,<-hlt,List.take_left]
 rw[this];simp[List.append_assoc]
theorem Aat{α:Type}(enc:α->LV)(l:List α)(ix:Int)(u:α){j sz m:Nat}{x y g o o0 A c t v ty' i L' cur}{ty:TypeId}{pos:String}{after:AE}{guard:ON}(hx:evo fr x=some (.pointer (some ⟨g,o,none⟩)))(hy:evo fr y=some v)(hv:v.cells=(enc u).toArray)(hL:SetE L i (wr A m c t sz (l.flatMap enc) cur) (wr A m c t sz ((setI l ix u).flatMap enc) cur) L')(hA:A=some ⟨g,o0,none⟩)(ho:o=o0+j*sz)(hix:ix=(j:Int))(hj:j<m)(he:∀x,(enc x).length=sz)(hz:0<sz)(h1:Lx (enc u)=true)(hsz:∀w,(sizeOf ty').run P w=.ok sz w)(k:T n N fr L'):Wh P Q n ⟨none,.store ty' x y,ty,pos,after,guard⟩ fr L N:=by
 intro a w ha hw;have hok:=hw.ok _ hL.mem;have hm:m=l.length:=(Has.ofW hz he hok).len.symm;subst hm;subst hix;subst hA;subst ho;rw[Vb] at hL;obtain⟨e1,e2,e3,g',o',hA,h4,hh⟩:=Aic.1 hok;injection hA with hA
 injection hA with hg ho _
 subst hg;subst ho;have hne:enc u≠[]:=by intro h;have:=he u;rw[h] at this;simp at this;omega
 have hle:l.length*sz<=c*sz:=Nat.mul_le_mul_right _ e2;have hjl:j*sz+sz<=l.length*sz:=by rw[<-Nat.succ_mul];exact Nat.mul_le_mul_right _ hj
 have hst:=Io P g t (enc u) 0 (o0+j*sz) _ w hh (by rw[he u,Mx];omega) (Ou h1);rw[iN hne] at hst;have hrun:(execOp a.eval ⟨none,.store ty' x y,ty,pos,after,guard⟩).run P w=.ok .skip (Pw w g (.cells (Ct (Ct cur o0 (l.flatMap enc)) (o0+j*sz+0) (enc u)) t (0,0))):=by
  simp[execOp,ha.eval hx,ha.eval hy,Instr.storeAt,Instr.sureAddr,storeVar,hv,he u,hsz w,hst]
 simp only[Oper.wp,hrun,Oper.upon_skip];rw[Nat.add_zero,Ajm (by rw[e1];omega) (by rw[he u,e1];exact hjl),<-Avm he l u hj];refine k _ _ ha (Heap.turnO (e:=wr (some ⟨g,o0,none⟩) l.length c t sz (l.flatMap enc) cur) (e':=wr (some ⟨g,o0,none⟩) l.length c t sz ((l.set j u).flatMap enc) cur) (Ta w g _) (fun g' hg'=>?_) (Aic.2 ⟨?_,e2,e3,g,o0,rfl,h4,Ux w g _ (Ec hh)⟩) (nL _) (fun g' hg'=>.inl hg') hL hw)
 .injection hg' with hg'
  subst hg';exact Anx.2 rfl
 .rw[Ga he,List.length_set]
def putl{α:Type}(l:List α)(i j:Int)(l':List α):List α:=l.take i.toNat++l'++l.drop j.toNat
def Back{α:Type}(enc:α->LV)(A:OA)(n c:Nat)(t:TypeId)(sz:Nat)(l:List α)(i j:Int)(cur:Array Value):Prop :=
 ∀l' w,l'.length=j.toNat-i.toNat->wrOk (slA A c i.toNat sz) (j.toNat-i.toNat) (c-i.toNat) t sz (l'.flatMap enc) cur w->w.ownsRow 0 t sz (.slice A n c) n ((putl l i j l').flatMap enc)
theorem Aid{α:Type}{enc:α->LV}{sz:Nat}(he:∀x,(enc x).length=sz)(l:List α)(q:Nat):(l.take q).flatMap enc=(l.flatMap enc).take (q*sz):=by
 have h0:l.flatMap enc=(l.take q).flatMap enc++(l.drop q).flatMap enc:=by rw[<-List.flatMap_append,List.take_append_drop]
 by_cases h:q<=l.length
 .have hlt:((l.take q).flatMap enc).length=q*sz:=by rw[Ga he,List.length_take,Nat.min_eq_left h]
  rw[h0,<-hlt,List.take_left]
 .rw[List.take_of_length_le oo,List.take_of_length_le];rw[Ga he];exact Nat.mul_le_mul_right _ oo
theorem Bdh{α:Type}{enc:α->LV}{l:List α}{k A m c t sz}{i j:Int}{L':Ent->LE}(hL:∀e',SetE L k (.r A m c t sz (l.flatMap enc)) e' (L' e'))(h0:0<=i)(h1:i<j)(h2:j<=(m:Int))(hz:0<sz)(he:∀x,(enc x).length=sz)(kk:∀cur,Back enc A m c t sz l i j cur->T n N fr (L' (wr (slA A c i.toNat sz) (j.toNat-i.toNat) (c-i.toNat) t sz ((subl l i j).flatMap enc) cur))):T n N fr L:=by
 intro a w ha hw;have hok:=hw.ok _ (hL (.old w)).mem;have hm:m=l.length:=(Has.ofRow hz he hok).len.symm;subst hm;obtain⟨i,rfl⟩:=Int.eq_ofNat_of_zero_le h0;obtain⟨j,rfl⟩:=Int.eq_ofNat_of_zero_le (oo:0<=j);simp only[Int.toNat_natCast] at *;obtain⟨hl,h3⟩:=hok;rcases h3 with⟨hv,h4⟩|⟨g,cap,cur,hv,_,hh,h3,h4,h5,h6⟩
 .omega
 .injection hv with e1 _ e3
  subst e1;subst e3;have hsl:slA (some ⟨g,0,none⟩) c i sz=some ⟨g,i*sz,none⟩:=by
   unfold slA;rw[iN oo];simp[Addr.add_lit]
  have hls:(subl l (i:Int) (j:Int)).length=j-i:=by unfold subl;simp;omega
  have hfl:=Ga he l;have hmul:∀{x y:Nat},x<=y->x*sz<=y*sz:=fun h=>Nat.mul_le_mul_right sz h
  have hic:i*sz+(c-i)*sz=c*sz:=by rw[<-Nat.add_mul];congr 1;omega
  have hij:i*sz+(j-i)*sz=j*sz:=by rw[<-Nat.add_mul];congr 1;omega
  have hjl:j*sz<=l.length*sz:=hmul oo;have hlc:l.length*sz<=c*sz:=hmul h3;have hcur:∀k,k<l.length*sz->cur[k]? = (l.flatMap enc)[k]?:=fun k hk=>by
   rw[<-h6,List.getElem?_take,iP hk,Array.getElem?_toList]
  have hsub:(subl l (i:Int) (j:Int)).flatMap enc=((l.flatMap enc).take (j*sz)).drop (i*sz):=by
   unfold subl;simp only[Int.toNat_natCast];rw[Uw he,Aid he]
  have hxl:((subl l (i:Int) (j:Int)).flatMap enc).length=(j-i)*sz:=by rw[Ga he,hls]
  have hid:Ct cur (i*sz) ((subl l (i:Int) (j:Int)).flatMap enc)=cur:=by
   apply Array.ext_getElem?;intro k;rw[Qm _ _ _ _ (by rw[hxl];omega),hxl];split
   .rename_i hk;rw[hcur k oo,hsub,List.getElem?_drop,List.getElem?_take,iP oo];congr 1;omega
   .rfl
  refine kk cur ?_ a w ha (Heap.turnO (e:=.r (some ⟨g,0,none⟩) l.length c t sz (l.flatMap enc)) (row:=none) (w:=w) (w':=w) ⟨rfl,rfl,rfl,nL _,fun _ _ _=>rfl⟩ (fun _ hg=>by cases hg) (Aic.2 ?_) (nL _) (fun g' hg'=>.inl ?_) (hL _) hw)
  .intro l' w' hl' hw';simp only[Int.toNat_natCast] at hl' hw';obtain⟨x1,x2,x3,g',o',hA,x4,xh⟩:=hw';rw[hsl] at hA;injection hA with hA
   injection hA with hA1 hA2 _
   subst hA1;subst hA2;have hpl:(putl l (i:Int) (j:Int) l').length=l.length:=by unfold putl;simp;omega
   refine⟨by rw[Ga he,hpl],.inr ⟨g,c,_,rfl,Nat.zero_le _,xh,h3,h4,by rw[Mx];exact h5,?_⟩⟩;apply List.ext_getElem?;intro k;have hp:(putl l (i:Int) (j:Int) l').flatMap enc=(l.flatMap enc).take (i*sz)++l'.flatMap enc++(l.flatMap enc).drop (j*sz):=by
    unfold putl;simp only[Int.toNat_natCast];rw[List.flatMap_append,List.flatMap_append,Aid he,Uw he]
   rw[hp,List.getElem?_take]
   by_cases hk:k<l.length*sz
   .rw[iP hk,Array.getElem?_toList,Qm _ _ _ _ (by rw[x1];omega),x1]
    by_cases c1:i*sz<=k/\k<i*sz+(j-i)*sz
    .rw[iP c1,List.append_assoc,List.getElem?_append_right (by rw[List.length_take];omega),List.length_take,List.getElem?_append_left oo];congr 1;omega
    .rw[iN c1,hcur k hk]
     by_cases c2:k<i*sz
     .rw[List.append_assoc,List.getElem?_append_left (by rw[List.length_take];omega),List.getElem?_take,iP c2]
     .rw[List.getElem?_append_right (by rw[List.length_append,List.length_take];omega),List.length_append,List.length_take,List.getElem?_drop];congr 1;omega
   .rw[iN hk,List.getElem?_eq_none];rw[List.length_append,List.length_append,List.length_take,List.length_drop];omega
  .rw[hsl];exact⟨hxl,oo,oo,g,i*sz,rfl,oo,by rw[hid];exact hh⟩
  .rw[Anx,hsl] at hg';rw[Ent.own_r];exact hg'
theorem Ayz{α:Type}{enc:α->LV}{l l':List α}{k A m c t sz cur}{i j:Int}{L'}(hb:Back enc A m c t sz l i j cur)(hL:SetE L k (wr (slA A c i.toNat sz) (j.toNat-i.toNat) (c-i.toNat) t sz (l'.flatMap enc) cur) (.r A m c t sz ((putl l i j l').flatMap enc)) L')(hz:0<sz)(he:∀x,(enc x).length=sz)(kk:m=(putl l i j l').length->T n N fr L'):T n N fr L:=by
 intro a w ha hw;have hok:=Aic.1 (hw.ok _ hL.mem);have hl:l'.length=j.toNat-i.toNat:=(Has.ofW hz he (hw.ok _ hL.mem)).len;have hr:=hb _ _ hl hok;refine kk (Has.ofRow hz he hr).len.symm a w ha (Heap.turnO (e:=wr (slA A c i.toNat sz) (j.toNat-i.toNat) (c-i.toNat) t sz (l'.flatMap enc) cur) (e':=.r A m c t sz ((putl l i j l').flatMap enc)) (row:=none) (w:=w) (w':=w) ⟨rfl,rfl,rfl,nL _,fun _ _ _=>rfl⟩ (fun _ hg=>by cases hg) hr (nL _) (fun g' hg'=>.inl ?_) hL hw);obtain⟨_,_,_,g,o,hA,_⟩:=hok;rw[Ent.own_r] at hg';rw[Anx,hA];unfold slA at hA;cases A with
 |none=>split at hA <;> simp at hA
 |some a0=>
  simp only[Value.ownBlock,Option.some.injEq] at hg' ⊢;rw[<-hg'];split at hA
  .injection hA with hA;rw[hA]
  .simp only[Option.map_some,Option.some.injEq] at hA;rw[Addr.add] at hA;cases a0
   simp at hA
   first|exact hA.1.symm|(split at hA <;> (simp at hA;exact hA.1.symm))
theorem Bbr{α:Type}{enc:α->LV}{l:List α}{k A m c t sz}{i j:Int}{L':Ent->LE}(hs:(subl l i j).length=j.toNat-i.toNat)(hL:∀e',SetE L k (.r A m c t sz (l.flatMap enc)) e' (L' e'))(h0:0<=i)(h1:i<j)(h2:j<=(m:Int))(hz:0<sz)(he:∀x,(enc x).length=sz)(kk:∀cur,Back enc A m c t sz l i j cur->T n N fr (L' (wr (slA A c i.toNat sz) (subl l i j).length (c-i.toNat) t sz ((subl l i j).flatMap enc) cur))):T n N fr L :=
 Bdh hL h0 h1 h2 hz he fun cur hb=>hs▸kk cur hb
theorem Avn{α:Type}{enc:α->LV}{l l':List α}{k A m m' c t sz cur}{i j:Int}{L'}(hs:m'=j.toNat-i.toNat)(hb:Back enc A m c t sz l i j cur)(hL:SetE L k (wr (slA A c i.toNat sz) m' (c-i.toNat) t sz (l'.flatMap enc) cur) (.r A m c t sz ((putl l i j l').flatMap enc)) L')(hz:0<sz)(he:∀x,(enc x).length=sz)(kk:m=(putl l i j l').length->T n N fr L'):T n N fr L:=by
 subst hs;exact Ayz hb hL hz he kk
end
instance:Sd prog 266 [iq 0,iq 0,iq 0,iq 0,iq 0,iq 0]:=⟨⟨_,zeroValue266,rfl⟩⟩
instance:ArrI prog 266 3 2:=⟨.mk underlying266 (kr:prog.info? 44=some t44) kr⟩
instance:AggI prog 266 6:=⟨.arr underlying266 (kr:prog.info? 266=some t266) kr⟩
instance:OneI prog 9:=⟨.mk underlying9 rfl (kr:prog.info? 9=some Tryz.t9) kr⟩
instance:Dz prog 321 1 1:=⟨.mk underlying321 rfl rfl (kr:prog.info? 242=some t242) (kr:t242.size=1) rfl⟩
instance:OneI prog 242:=⟨.mk underlying242 rfl (kr:prog.info? 242=some t242) kr⟩
instance:Dz prog 321 0 0:=⟨.mk underlying321 rfl rfl (kr:prog.info? 242=some t242) (kr:t242.size=1) rfl⟩
instance:AggI prog 321 2:=⟨.mk underlying321 rfl (kr:prog.info? 321=some t321) kr⟩
instance:Sd prog 28 [iq 0,iq 0]:=⟨⟨_,zeroValue28,rfl⟩⟩
instance(x0:Int)(x1:Int):Jg prog 28 [(0,iq x0),(1,iq x1)] [iq x0,iq x1]:=⟨fun w=>kr⟩
instance:Jg prog 28 [] [iq 0,iq 0]:=⟨fun w=>kr⟩
structure S_arr3_api_XY where
 a0:Ad
 a1:Ad
 a2:Ad
instance:UndI prog 5 (.int .u8):=⟨underlying5⟩
def Pp:LI:=[0,1,2,2,3,3,3,3,4,4,4,4,4,4,4,4,5,5,5,5,5,5,5,5,5,5,5,5,5,5,5,5,6,6,6,6,6,6,6,6,6,6,6,6,6,6,6,6,6,6,6,6,6,6,6,6,6,6,6,6,6,6,6,6,7,7,7,7,7,7,7,7,7,7,7,7,7,7,7,7,7,7,7,7,7,7,7,7,7,7,7,7,7,7,7,7,7,7,7,7,7,7,7,7,7,7,7,7,7,7,7,7,7,7,7,7,7,7,7,7,7,7,7,7,7,7,7,7,8,8,8,8,8,8,8,8,8,8,8,8,8,8,8,8,8,8,8,8,8,8,8,8,8,8,8,8,8,8,8,8,8,8,8,8,8,8,8,8,8,8,8,8,8,8,8,8,8,8,8,8,8,8,8,8,8,8,8,8,8,8,8,8,8,8,8,8,8,8,8,8,8,8,8,8,8,8,8,8,8,8,8,8,8,8,8,8,8,8,8,8,8,8,8,8,8,8,8,8,8,8,8,8,8,8,8,8,8,8,8,8,8,8,8,8,8,8,8,8,8,8,8,8,8,8,8,8]
instance:UndI prog 254 (.int .u64):=⟨underlying254⟩
structure Agc where
 hi:Int
 lo:Int
theorem Ar4{x y c:Int}(h:(((0:Int)<=x/\(0:Int)<=y)/\(0:Int)<=c/\c<=(1:Int)))(w:World):(callFunc 322 #[.int .u64 x,.int .u64 y,.int .u64 c]).run prog w=.ok (.value (.tuple #[.int .u64 ((x+y+c)%18446744073709551616),.int .u64 ((x+y+c)/18446744073709551616)])) w:=by
 rw[run_callFunc_extern func322 kr kr kr (e:=add64Entry) kr,run_add64 x y c h.1.1 h.1.2 h.2.1 h.2.2];rfl
instance{x y c:Int}:ExtI prog 322 [.int .u64 x,.int .u64 y,.int .u64 c] (((0:Int)<=x/\(0:Int)<=y)/\(0:Int)<=c/\c<=(1:Int)) (.tuple [.int .u64 ((x+y+c)%18446744073709551616),.int .u64 ((x+y+c)/18446744073709551616)].toArray):=⟨fun h w=>Ar4 h w⟩
instance:Sd prog 60 [.bool false,.slice none 0 0]:=⟨⟨_,zeroValue60,rfl⟩⟩
instance(x0:Bool)(x1:OA)(x2:Nat)(x3:Nat):Jg prog 60 [(0,.bool x0),(1,.slice x1 x2 x3)] [.bool x0,.slice x1 x2 x3]:=⟨fun w=>kr⟩
instance:AggI prog 60 2:=⟨.mk underlying60 rfl (kr:prog.info? 60=some t60) kr⟩
instance(x0:Bool)(x1:OA)(x2:Nat)(x3:Nat):Aje prog 60 [.bool x0,.slice x1 x2 x3] 1 (.slice x1 x2 x3):=⟨fun w=>kr⟩
instance:Kg prog 58 0 [] 3 []:=⟨fun w=>kr⟩
def Jv  : (Int×LI)->Option (Sum (Int×LI) LI):=fun s0=>
 if 0<s0.1 then (gd ((s0.2.length+1)*8<=140737488355328)<|
 some (.inl (wu64 (Int.tdiv s0.1 65536),s0.2++[w64 (Int.tmod s0.1 65536)])))
 else (some (.inr s0.2))
def Kx(p0:Int):Option Ae :=
 jn (fun (s3:Int)=>
 jn (fun (s6:LI)=>
 some (⟨decide (p0<0),s6⟩:Ae))
 (fun j6=>bnd (lfix Jv (s3,([]:LI))) fun t0=>
 j6 t0))
 (fun j3=>if p0<0 then (j3 (wu64 (-(wu64 p0))))
 else (j3 (wu64 p0)))
def Om(p0:LI):Int->Option (Sum Int Int):=fun s0=>
 jn (fun (s7:Bool)=>
 if s7=true then (some (.inl (w64 (s0-1))))
 else (some (.inr s0)))
 (fun j7=>if 0<s0 then (bnd (idx p0 (w64 (s0-1))) fun x0=>
 j7 (decide (x0=0)))
 else (j7 false))
def Br(p0:LI):Option LI:=
 jn (fun (s3:Int)=>
 gd (0<=s3/\s3<=(p0.length:Int))<|
 some (subl p0 0 s3))
 (fun j3=>bnd (lfix (Om p0) (p0.length:Int)) fun t0=>
 j3 t0)
theorem Agd{l r:LI}(h:Br l=some r):∃k,r=l.take k:=by
 unfold Br at h;simp only[jn] at h;obtain⟨n,_,h⟩:=Aq h;obtain⟨_,h⟩:=Dv h;obtain rfl:=oI h;exact⟨_,Ak5 _ _⟩
def Mh(p0:LI)(p1:LI):Int->Option (Sum Int (Sum Unit Int)):=fun s0=>
 if 0<=s0 then (bnd (idx p0 s0) fun x0=>
 bnd (idx p1 s0) fun x1=>
 if x0=x1 then (some (.inl (w64 (s0-1))))
 else (bnd (idx p0 s0) fun x2=>
 bnd (idx p1 s0) fun x3=>
 if x2<x3 then (some (.inr (.inr (-1))))
 else (some (.inr (.inr 1)))))
 else (some (.inr (.inl ())))
def Gd(p0:LI)(p1:LI):Option Int :=
 if (p0.length:Int)=(p1.length:Int) then (jn (fun (s8:Unit)=>
 some 0)
 (fun j8=>bnd (lfix (Mh p0 p1) (w64 ((p0.length:Int)-1))) fun t0=>
 (match t0 with
 |(.inl z0)=>j8 z0
 |(.inr z0)=>some z0
 )))
 else (if (p0.length:Int)<(p1.length:Int) then (some (-1))
 else (some 1))
def Im(p1:LI)(p0:LI):(LI×Int×Int)->Option (Sum (LI×Int×Int) LI):=fun s0=>
 jn (fun (s1:Bool)=>
 if s1=true then (jn (fun (s2:Int)=>
 jn (fun (s3:Int)=>
 gd ((s0.1.length+1)*8<=140737488355328)<|
 some (.inl (s0.1++[Int.tmod s3 65536],w64 (Int.tdiv s3 65536),w64 (s0.2.2+1))))
 (fun j0=>if s0.2.2<(p1.length:Int) then (bnd (idx p1 s0.2.2) fun x0=>
 j0 (w64 (s2+x0)))
 else (j0 s2)))
 (fun j1=>if s0.2.2<(p0.length:Int) then (bnd (idx p0 s0.2.2) fun x1=>
 j1 (w64 (s0.2.1+x1)))
 else (j1 s0.2.1)))
 else (some (.inr s0.1)))
 (fun j2=>if s0.2.2<(p0.length:Int) then (j2 true)
 else (if s0.2.2<(p1.length:Int) then (j2 true)
 else (j2 (decide (0<s0.2.1)))))
def Jp(p0:LI)(p1:LI):Option LI:=
 jn (fun (s4:LI)=>
 bnd (Br s4) fun r0=>
 some r0)
 (fun j4=>bnd (lfix (Im p1 p0) (([]:LI),0,0)) fun t0=>
 j4 t0)
def Ge(p0:LI)(p1:LI):(LI×Int×Int)->Option (Sum (LI×Int×Int) LI):=fun s0=>
 if s0.2.2<(p0.length:Int) then (bnd (idx p0 s0.2.2) fun x0=>
 jn (fun (s1:Int)=>
 jn (fun (s2:Int×Int)=>
 gd ((s0.1.length+1)*8<=140737488355328)<|
 some (.inl (s0.1++[s2.2],s2.1,w64 (s0.2.2+1))))
 (fun j0=>if s1<0 then (j0 (1,w64 (s1+65536)))
 else (j0 (0,s1))))
 (fun j1=>if s0.2.2<(p1.length:Int) then (bnd (idx p1 s0.2.2) fun x1=>
 j1 (w64 ((w64 (x0-s0.2.1))-x1)))
 else (j1 (w64 (x0-s0.2.1)))))
 else (some (.inr s0.1))
def Gb(p0:LI)(p1:LI):Option LI:=
 jn (fun (s4:LI)=>
 bnd (Br s4) fun r0=>
 some r0)
 (fun j4=>bnd (lfix (Ge p0 p1) (([]:LI),0,0)) fun t0=>
 j4 t0)
instance:MkI prog 58 3 1 8 Ao 0:=⟨Tryz.t3,iq 0,underlying58,kr,kr,rfl,kr,kr⟩
def Hn(p1:LI)(p0:LI)(s0:LI×Int):(LI×Int×Int)->Option (Sum (LI×Int×Int) (LI×Int)):=fun s1=>
 if s1.2.2<(p1.length:Int) then (bnd (idx p0 s0.2) fun x0=>
 bnd (idx p1 s1.2.2) fun x1=>
 bnd (idx s1.1 (w64 (s0.2+s1.2.2))) fun x2=>
 bnd (idx s1.1 (w64 (s0.2+s1.2.2))) fun x3=>
 some (.inl (setI s1.1 (w64 (s0.2+s1.2.2)) (Int.tmod (w64 ((w64 ((w64 (x0*x1))+x2))+s1.2.1)) 65536),w64 (Int.tdiv (w64 ((w64 ((w64 (x0*x1))+x2))+s1.2.1)) 65536),w64 (s1.2.2+1))))
 else (some (.inr (s1.1,s1.2.1)))
def Ho(p0:LI)(p1:LI):(LI×Int)->Option (Sum (LI×Int) LI):=fun s0=>
 if s0.2<(p0.length:Int) then (jn (fun (s1:LI×Int)=>
 bnd (idx s1.1 (w64 (s0.2+(p1.length:Int)))) fun x0=>
 some (.inl (setI s1.1 (w64 (s0.2+(p1.length:Int))) s1.2,w64 (s0.2+1))))
 (fun j0=>bnd (lfix (Hn p1 p0 s0) (s0.1,0,0)) fun t0=>
 j0 t0))
 else (some (.inr s0.1))
def Dh(p0:LI)(p1:LI):Option LI:=
 gd ((0:Int)<=(w64 ((p0.length:Int)+(p1.length:Int)))/\8*Int.toNat (w64 ((p0.length:Int)+(p1.length:Int)))<=140737488355328)<|
 jn (fun (s3:LI)=>
 bnd (Br s3) fun r0=>
 some r0)
 (fun j3=>bnd (lfix (Ho p0 p1) (List.replicate (Int.toNat (w64 ((p0.length:Int)+(p1.length:Int)))) (0:Int),0)) fun t0=>
 j3 t0)
def Nn(p0:LI)(p1:Int):(LI×Int×Int)->Option (Sum (LI×Int×Int) (LI×Int)):=fun s0=>
 if 0<=s0.2.2 then (bnd (idx p0 s0.2.2) fun x0=>
 gd (p1≠0)<|
 bnd (idx s0.1 s0.2.2) fun x1=>
 gd (p1≠0)<|
 some (.inl (setI s0.1 s0.2.2 (w64 (Int.tdiv (w64 ((w64 (s0.2.1*65536))+x0)) p1)),Int.tmod (w64 ((w64 (s0.2.1*65536))+x0)) p1,w64 (s0.2.2-1))))
 else (some (.inr (s0.1,s0.2.1)))
def Gk(p0:LI)(p1:Int):Option (LI×Int):=
 gd ((0:Int)<=(p0.length:Int)/\8*Int.toNat (p0.length:Int)<=140737488355328)<|
 jn (fun (s4:LI×Int)=>
 bnd (Br s4.1) fun r0=>
 some (r0,s4.2))
 (fun j4=>bnd (lfix (Nn p0 p1) (List.replicate (Int.toNat (p0.length:Int)) (0:Int),0,w64 ((p0.length:Int)-1))) fun t0=>
 j4 t0)
def Hz(r0:LI)(r1:LI):(Int×LI)->Option (Sum (Int×LI) (Int×LI)):=fun s0=>
 bnd (Gd s0.2 r0) fun r2=>
 if 0<r2 then (bnd (Gb s0.2 r1) fun r3=>
 some (.inl (w64 (s0.1-1),r3)))
 else (some (.inr (s0.1,s0.2)))
def Eb(r0:LI)(r1:LI):(LI×LI×Int)->Option (Sum (LI×LI×Int) (LI×LI)):=fun s0=>
 if 0<=s0.2.2 then (bnd (idx r0 s0.2.2) fun x0=>
 gd ((([x0]).length+s0.2.1.length)*8<=140737488355328)<|
 bnd (Br (([x0])++s0.2.1)) fun r2=>
 jn (fun (s1:Int)=>
 bnd (Br ([s1])) fun r3=>
 bnd (Dh r1 r3) fun r4=>
 jn (fun (s2:Int×LI)=>
 bnd (Gb r2 s2.2) fun r5=>
 bnd (idx s0.1 s0.2.2) fun x1=>
 some (.inl (setI s0.1 s0.2.2 s2.1,r5,w64 (s0.2.2-1))))
 (fun j0=>bnd (lfix (Hz r2 r1) (s1,r4)) fun t0=>
 j0 t0))
 (fun j1=>if (r1.length:Int)<=(r2.length:Int) then (bnd (idx r2 (w64 ((r2.length:Int)-1))) fun x2=>
 jn (fun (s3:Int)=>
 bnd (idx r1 (w64 ((r1.length:Int)-1))) fun x3=>
 gd (x3≠0)<|
 if 65536<=(w64 (Int.tdiv s3 x3)) then (j1 65535)
 else (j1 (w64 (Int.tdiv s3 x3))))
 (fun j2=>if (r1.length:Int)<(r2.length:Int) then (bnd (idx r2 (w64 ((r2.length:Int)-2))) fun x4=>
 j2 (w64 ((w64 (x2*65536))+x4)))
 else (j2 x2)))
 else (j1 0)))
 else (some (.inr (s0.1,s0.2.1)))
def Ed(p0:LI)(p1:LI):Option (LI×LI):=
 bnd (Gd p0 p1) fun r1=>
 if r1<0 then (some (([]:LI),p0))
 else (if (p1.length:Int)=1 then (bnd (idx p1 0) fun x9=>
 bnd (Gk p0 x9) fun r0=>
 bnd (Kx r0.2) fun r2=>
 some (r0.1,r2.L))
 else (bnd (idx p1 (w64 ((p1.length:Int)-1))) fun x0=>
 gd ((w64 (x0+1))≠0)<|
 bnd (Dh p0 ([w64 (Int.tdiv 65536 (w64 (x0+1)))])) fun r3=>
 bnd (Dh p1 ([w64 (Int.tdiv 65536 (w64 (x0+1)))])) fun r4=>
 gd ((0:Int)<=(w64 ((w64 ((r3.length:Int)-(r4.length:Int)))+1))/\8*Int.toNat (w64 ((w64 ((r3.length:Int)-(r4.length:Int)))+1))<=140737488355328)<|
 gd (0<=(w64 ((w64 ((r3.length:Int)-(r4.length:Int)))+1))/\(w64 ((w64 ((r3.length:Int)-(r4.length:Int)))+1))<=(r3.length:Int))<|
 gd (((([]:LI)).length+(subl r3 (w64 ((w64 ((r3.length:Int)-(r4.length:Int)))+1)) (r3.length:Int)).length)*8<=140737488355328)<|
 bnd (Br ((([]:LI))++(subl r3 (w64 ((w64 ((r3.length:Int)-(r4.length:Int)))+1)) (r3.length:Int)))) fun r5=>
 jn (fun (s0:LI×LI)=>
 bnd (idx ([w64 (Int.tdiv 65536 (w64 (x0+1)))]) 0) fun x1=>
 bnd (Gk s0.2 x1) fun r6=>
 bnd (Br s0.1) fun r7=>
 some (r7,r6.1))
 (fun j0=>bnd (lfix (Eb r3 r4) (List.replicate (Int.toNat (w64 ((w64 ((r3.length:Int)-(r4.length:Int)))+1))) (0:Int),r5,w64 ((r3.length:Int)-(r4.length:Int)))) fun t0=>
 j0 t0)))
def Qa  : (LI×LI)->Option (Sum (LI×LI) LI):=fun s0=>
 if 0<(s0.2.length:Int) then (bnd (Ed s0.1 s0.2) fun r0=>
 some (.inl (s0.2,r0.2)))
 else (some (.inr s0.1))
def Ns(p0:LI)(p1:LI):Option LI:=
 jn (fun (s2:LI)=>
 some s2)
 (fun j2=>bnd (lfix Qa (p0,p1)) fun t0=>
 j2 t0)
instance(p0:Int):Con (Kx p0) prog 83 (fun _ vs=>vs=[iq p0]) (fun _ r v Ln=>∃A0 c0,v=.agg #[.bool r.Neg,.slice A0 r.L.length c0]/\Ln=[.r A0 r.L.length c0 3 1 (r.L.flatMap Ao)]/\True):=⟨by
 rintro _ _ r rfl hx w hK;unfold Kx at hx;refine CtS ntmps83 results83 ?_;refine pq ?_;intros;rename_i hx
 refine pA ?_;intros;rename_i hx
 refine pA ?_;intros;rename_i hx
 apply Jr (γ:=Unit) hx [0,2] (fun s3 y3 f=>(3,.int .u64 s3)::f) [0,999] (fun s3 y3 l=>l);exact kk
 .intro s3 y3 hx;refine pq ?_;intros;rename_i hx
  refine pA ?_;intros;rename_i hx
  apply Jr (γ:=OA×Nat) hx [0,2] (fun s6 y6 f=>(4,.slice y6.1 s6.length y6.2)::f) [0,999] (fun s6 y6 l=>.r y6.1 s6.length y6.2 3 1 (s6.flatMap Ao)::l);exact kk
  .exact aI
  .refine pI ?_;intros;rename_i hx
   refine Bf 3 1 ?_;apply Lr (γ:=OA×Nat) hx [0,2] (fun s0 y0 f=>(3,.int .u64 s0.1)::(4,.slice y0.1 s0.2.length y0.2)::f) [1,999] (fun s0 y0 l=>.r y0.1 s0.2.length y0.2 3 1 (s0.2.flatMap Ao)::l) (_,_);exact kk;exact sk;intro s0 y0 x0 hx _;unfold Jv at hx;exact au
 .exact aI⟩
theorem Ry(p0:LI){K:LE}{E0:OA}{G0:Nat}(ha0:Has K E0 p0.length G0 1 Ao p0){r:LI}(hx:Br p0=some r)(w:World)(hK:∀e∈K,Ent.ok w e):CtL prog 179 [.slice E0 p0.length G0] w fun v Ln=>v=.slice E0 r.length G0/\Ln=[]/\Has K E0 r.length G0 1 Ao r/\True:=by
 have ha0':=Has.up0 ha0;refine CtL.mk 21 func179 rfl ntmps179 kr rfl ?_;show T 21 _ [(0,.slice E0 p0.length G0)] _;unfold Br at hx;refine Y8 ?_;refine Ay (Gf rfl 3 underlying58) rfl ?_;refine Y3 ?_;refine Tj (γ:=Unit) hx (fun s3 y3=>[(0,.slice E0 p0.length G0),(3,iq s3)]) (fun s3 y3=>[]++[.old w]) (fun s3 y3=>True) (fun s3 y3 hx0 hG0=>?_) (fun j3 hx=>?_)
 .refine Y4 ?_;obtain⟨h0,hx1⟩:=Dv hx0;have hs0:=Has.subH ha0' h0.1 h0.2;refine Ay (Ai7 rfl rfl Avg h0.1 (by have:=Has.nc ha0';omega)) rfl ?_;refine Y4 ?_;refine Ze (s:=2) (v':=.slice E0 ((subl p0 0 s3).length) G0) rfl (by have hn0:(Int.toNat s3)=(subl p0 0 s3).length:=(Has.len hs0).symm;first|(rw[<-hn0];done)|rfl) ?_;obtain rfl:=oI hx1;exact Kf (rs:=[.tmp 2]) results179 (.tmp rfl (.nil)) (Ln:=[]) ⟨rfl,rfl,Has.len' (Has.dn0 hs0),trivial⟩ Iz (by exact .refl)
 .refine Y ?_;obtain⟨t0,hl0,ho0⟩:=Aq hx;refine Lp (σ:=Int) (γ:=Unit) hl0 (fun s0 y0=>[(0,.slice E0 p0.length G0),(3,iq s0)]) (fun s0 y0=>[]++[.old w]) (fun s0 y0=>True) () trivial (by exact .refl) ?_;intro s0 y0 hG1 x0 hx2 ht0;unfold Om at hx2;refine Y ?_;refine Tj (γ:=Unit) hx2 (fun s7 y7=>[(0,.slice E0 p0.length G0),(3,iq s0),(15,.bool s7)]) (fun s7 y7=>[]++[.old w]) (fun s7 y7=>True) (fun s7 y7 hx3 hG2=>?_) (fun j7 hx2=>?_)
  .refine Nm (s:=15) rfl (fun h1=>?_) (fun h1=>?_)
   .have hx4:=Qc h1 hx3;refine Y10 ?_;exact Rp (w64 (s0-1)) () hx4 trivial (by exact .refl)
   .have hx5:=Sq h1 hx3;refine Y3 ?_;obtain rfl:=Mg ht0 hx5;refine Y2 ?_;exact Mt s0 () ho0 trivial (by exact .refl)
  .refine Y4 ?_;refine Ti hx2 (s:=8) rfl (fun h2 hx6=>?_) (fun h2 hx7=>?_)
   .refine Y3 ?_;obtain⟨x1,h3,hx8⟩:=Aq hx6;have hw0:=Has.low (E:=[]) ha0' hK;obtain⟨b0,o0,j0,hA0,hj0,hl1,hp0⟩:=Has.at_idx hw0 h3;refine Pv rfl rfl rfl (By rfl rfl hA0 (j:=j0) hj0 hl1 Avg) rfl ?_;refine Pv rfl rfl rfl (Cd rfl hp0 (sb 0) rfl one3) rfl ?_;refine Y3 ?_;exact Mt (decide (x1=0)) () hx8 trivial (by exact .refl)
   .refine Y8 ?_;exact Mt false () hx7 trivial (by exact .refl)
instance(p0:LI):ConB (Br p0) prog 179 (fun K vs=>∃E0 G0,vs=[.slice E0 p0.length G0]/\Has K E0 p0.length G0 1 Ao p0/\True) (fun K r v Ln=>∃A0 c0 e,v=.slice A0 r.length c0/\Ln=[e]/\Has (K++[e]) A0 r.length c0 1 Ao r/\True):=⟨by
 rintro K _ r ⟨E0,G0,rfl,ha0,-⟩ hx w hK;exact CtL.bunB (Ry p0 ha0 hx w hK) (by
  rintro _ _ w1 hw ⟨rfl,rfl,_,-⟩;exact⟨_,_,_,rfl,rfl,hZ hw,trivial⟩)⟩
instance(p0:LI):TrI (Br p0) prog 179 Ao 1 p0:=⟨fun _ h=>⟨Agd h,fun _ _ _ hs w hK=>Ry p0 hs h w hK⟩⟩
instance(p0:LI)(p1:LI):Con (Gd p0 p1) prog 182 (fun K vs=>∃E0 G0 E1 G1,vs=[.slice E0 p0.length G0,.slice E1 p1.length G1]/\Has K E0 p0.length G0 1 Ao p0/\Has K E1 p1.length G1 1 Ao p1/\True) (fun _ r v Ln=>v=iq r/\Ln=[]/\True):=⟨by
 rintro K _ r ⟨E0,G0,E1,G1,rfl,ha0,ha1,-⟩ hx w hK;replace ha0:=ha0.lo hK;replace ha1:=ha1.lo hK;unfold Gd at hx;have:=dl 8 [0,0,0,1,0,0,0,1,0] [0,1,2,3,4,5,6,7,8];have:=dl 9 [0,0,0,1,0,0,0,1,0] [0,1,2,3,4,5,6,7,8];refine CtS ntmps182 results182 ?_;refine pq ?_;intros;rename_i hx
 refine Cq2 (s:=10) hx rfl ?_ ?_
 .exact aI
 .refine pI ?_;intros;rename_i hx
  apply Jr (γ:=Unit) hx [] (fun s8 y8 f=>f) [999] (fun s8 y8 l=>l);exact kk
  .exact aI
  .refine pI ?_;intros;rename_i hx
   apply Lr (γ:=Unit) hx [0,1] (fun s61 y61 f=>(5,iq s61)::f) [999] (fun s61 y61 l=>l) ();exact kk;exact sk;intro s61 y61 x61 hx _;unfold Mh at hx;exact au⟩
instance(p0:LI)(p1:LI):Con (Jp p0 p1) prog 181 (fun K vs=>∃E0 G0 E1 G1,vs=[.slice E0 p0.length G0,.slice E1 p1.length G1]/\Has K E0 p0.length G0 1 Ao p0/\Has K E1 p1.length G1 1 Ao p1/\True) (fun _ r v Ln=>∃A0 c0,v=.slice A0 r.length c0/\Ln=[.r A0 r.length c0 3 1 (r.flatMap Ao)]/\True):=⟨by
 rintro K _ r ⟨E0,G0,E1,G1,rfl,ha0,ha1,-⟩ hx w hK;replace ha0:=ha0.lo hK;replace ha1:=ha1.lo hK;unfold Jp at hx;refine CtS ntmps181 results181 ?_;refine pq ?_;intros;rename_i hx
 refine pA ?_;intros;rename_i hx
 refine pA ?_;intros;rename_i hx
 refine pA ?_;intros;rename_i hx
 apply Jr (γ:=OA×Nat) hx [] (fun s4 y4 f=>(5,.slice y4.1 s4.length y4.2)::f) [999] (fun s4 y4 l=>.r y4.1 s4.length y4.2 3 1 (s4.flatMap Ao)::l);exact kk
 .exact aI
 .refine pI ?_;intros;rename_i hx
  refine Bf 3 1 ?_;apply Lr (γ:=OA×Nat) hx [0,1] (fun s0 y0 f=>(5,.slice y0.1 s0.1.length y0.2)::(6,iq s0.2.1)::(7,iq s0.2.2)::f) [999] (fun s0 y0 l=>.r y0.1 s0.1.length y0.2 3 1 (s0.1.flatMap Ao)::l) (_,_);exact kk;exact sk;intro s0 y0 x0 hx _;unfold Im at hx;refine pq ?_;intros;rename_i hx
  refine pA ?_;intros;rename_i hx
  apply Jr (γ:=Unit) hx [0,1,5,6,7] (fun s1 y1 f=>(22,.bool s1)::f) [0,999] (fun s1 y1 l=>l);exact kk
  .intro s1 y1 hx;refine Cq3 (s:=22) hx rfl ?_ ?_
   .refine pI ?_;intros;rename_i hx
    refine pA ?_;intros;rename_i hx
    refine pA ?_;intros;rename_i hx
    apply Jr (γ:=Unit) hx [0,1,5,7] (fun s2 y2 f=>(8,iq s2)::f) [0,999] (fun s2 y2 l=>l);exact kk
    .exact aI
    .exact aI
   .exact aI
  .exact aI⟩
instance(p0:LI)(p1:LI):Con (Gb p0 p1) prog 183 (fun K vs=>∃E0 G0 E1 G1,vs=[.slice E0 p0.length G0,.slice E1 p1.length G1]/\Has K E0 p0.length G0 1 Ao p0/\Has K E1 p1.length G1 1 Ao p1/\True) (fun _ r v Ln=>∃A0 c0,v=.slice A0 r.length c0/\Ln=[.r A0 r.length c0 3 1 (r.flatMap Ao)]/\True):=⟨by
 rintro K _ r ⟨E0,G0,E1,G1,rfl,ha0,ha1,-⟩ hx w hK;replace ha0:=ha0.lo hK;replace ha1:=ha1.lo hK;unfold Gb at hx;refine CtS ntmps183 results183 ?_;refine pq ?_;intros;rename_i hx
 refine pA ?_;intros;rename_i hx
 refine pA ?_;intros;rename_i hx
 refine pA ?_;intros;rename_i hx
 apply Jr (γ:=OA×Nat) hx [] (fun s4 y4 f=>(5,.slice y4.1 s4.length y4.2)::f) [999] (fun s4 y4 l=>.r y4.1 s4.length y4.2 3 1 (s4.flatMap Ao)::l);exact kk
 .exact aI
 .refine pI ?_;intros;rename_i hx
  refine Bf 3 1 ?_;apply Lr (γ:=OA×Nat) hx [0,1] (fun s0 y0 f=>(5,.slice y0.1 s0.1.length y0.2)::(6,iq s0.2.1)::(7,iq s0.2.2)::f) [999] (fun s0 y0 l=>.r y0.1 s0.1.length y0.2 3 1 (s0.1.flatMap Ao)::l) (_,_);exact kk;exact sk;intro s0 y0 x0 hx _;unfold Ge at hx;refine pq ?_;intros;rename_i hx
  refine Cq1 (s:=12) hx rfl ?_ ?_
  .refine pI ?_;intros;rename_i hx
   apply Jr (γ:=Unit) hx [0,1,5,7] (fun s1 y1 f=>(8,iq s1)::f) [0,999] (fun s1 y1 l=>l);exact kk
   .exact aI
   .exact aI
  .exact aI⟩
instance(p0:LI)(p1:LI):Con (Dh p0 p1) prog 90 (fun K vs=>∃E0 G0 E1 G1,vs=[.slice E0 p0.length G0,.slice E1 p1.length G1]/\Has K E0 p0.length G0 1 Ao p0/\Has K E1 p1.length G1 1 Ao p1/\True) (fun _ r v Ln=>∃A0 c0,v=.slice A0 r.length c0/\Ln=[.r A0 r.length c0 3 1 (r.flatMap Ao)]/\True):=⟨by
 rintro K _ r ⟨E0,G0,E1,G1,rfl,ha0,ha1,-⟩ hx w hK;replace ha0:=ha0.lo hK;replace ha1:=ha1.lo hK;unfold Dh at hx;have:=dl 9 [0,0,0,1,0,0,0,1,0,0,0,0,0,0,1,0,0,0,2] [0,1,2,3,4,5,6,7,8,9,10,11,12,13,14,15,16,17,18];refine CtS ntmps90 results90 ?_;refine pq ?_;intros;rename_i hx
 apply Jr (γ:=OA×Nat) hx [] (fun s3 y3 f=>(5,.slice y3.1 s3.length y3.2)::f) [999] (fun s3 y3 l=>.r y3.1 s3.length y3.2 3 1 (s3.flatMap Ao)::l);exact kk
 .exact aI
 .refine pI ?_;intros;rename_i hx
  apply Lr (γ:=OA×Nat) hx [0,1] (fun s0 y0 f=>(5,.slice y0.1 s0.1.length y0.2)::(6,iq s0.2)::f) [999] (fun s0 y0 l=>.r y0.1 s0.1.length y0.2 3 1 (s0.1.flatMap Ao)::l) (_,_);exact kk;exact sk;intro s0 y0 x0 hx _;unfold Ho at hx;refine pq ?_;intros;rename_i hx
  refine Cq1 (s:=19) hx rfl ?_ ?_
  .refine pI ?_;intros;rename_i hx
   refine pA ?_;intros;rename_i hx
   refine pA ?_;intros;rename_i hx
   apply Jr (γ:=OA×Nat) hx [0,1,6] (fun s1 y1 f=>(5,.slice y1.1 s1.1.length y1.2)::(7,iq s1.2)::f) [999] (fun s1 y1 l=>.r y1.1 s1.1.length y1.2 3 1 (s1.1.flatMap Ao)::l);exact kk
   .exact aI
   .refine pI ?_;intros;rename_i hx
    apply Lr (γ:=OA×Nat) hx [0,1,6] (fun s2 y2 f=>(5,.slice y2.1 s2.1.length y2.2)::(7,iq s2.2.1)::(8,iq s2.2.2)::f) [999] (fun s2 y2 l=>.r y2.1 s2.1.length y2.2 3 1 (s2.1.flatMap Ao)::l) (_,_);exact kk;exact sk;intro s2 y2 x1 hx _;unfold Hn at hx;exact au
  .exact aI⟩
instance(p0:LI)(p1:Int):Con (Gk p0 p1) prog 250 (fun K vs=>∃E0 G0,vs=[.slice E0 p0.length G0,iq p1]/\Has K E0 p0.length G0 1 Ao p0/\True) (fun _ r v Ln=>∃A0 c0,v=.tuple #[.slice A0 r.1.length c0,iq r.2]/\Ln=[.r A0 r.1.length c0 3 1 (r.1.flatMap Ao)]/\True):=⟨by
 rintro K _ r ⟨E0,G0,rfl,ha0,-⟩ hx w hK;replace ha0:=ha0.lo hK;unfold Gk at hx;refine CtS ntmps250 results250 ?_;refine pq ?_;intros;rename_i hx
 refine pA ?_;intros;rename_i hx
 apply Jr (γ:=OA×Nat) hx [] (fun s4 y4 f=>(6,.slice y4.1 s4.1.length y4.2)::(7,iq s4.2)::f) [999] (fun s4 y4 l=>.r y4.1 s4.1.length y4.2 3 1 (s4.1.flatMap Ao)::l);exact kk
 .exact aI
 .refine pI ?_;intros;rename_i hx
  apply Lr (γ:=OA×Nat) hx [0,1] (fun s0 y0 f=>(6,.slice y0.1 s0.1.length y0.2)::(7,iq s0.2.1)::(8,iq s0.2.2)::f) [999] (fun s0 y0 l=>.r y0.1 s0.1.length y0.2 3 1 (s0.1.flatMap Ao)::l) (_,_);exact kk;exact sk;intro s0 y0 x0 hx _;unfold Nn at hx;exact au⟩
instance Aba(p0:LI)(p1:LI):ConB (Ed p0 p1) prog 178 (fun K vs=>∃E0 G0 E1 G1,vs=[.slice E0 p0.length G0,.slice E1 p1.length G1]/\Has K E0 p0.length G0 1 Ao p0/\Has K E1 p1.length G1 1 Ao p1/\True) (fun K r v Ln=>∃A0 c0 A2 c2 e,v=.tuple #[.slice A0 r.1.length c0,.slice A2 r.2.length c2]/\Ln=[.r A0 r.1.length c0 3 1 (r.1.flatMap Ao),e]/\Has (K++[e]) A2 r.2.length c2 1 Ao r.2/\True):=⟨by
 rintro K _ r ⟨E0,G0,E1,G1,rfl,ha0,ha1,-⟩ hx w hK;unfold Ed at hx;refine CtS ntmps178 results178 ?_;refine pq ?_;intros;rename_i hx
 refine Cq1e (s:=22) hx rfl cQ ?_ ?_
 .exact aI
 .refine pI ?_;intros;rename_i hx
  refine Cq1e (s:=26) hx rfl cQ ?_ ?_
  .exact aI
  .refine pI ?_;intros;rename_i hx
   (with_reducible apply Ack 61 (sz:=1));exact rfl;exact aT;exact iI;exact dL;exact (fun _=>rfl);exact rfl;exact rfl;exact sA
   refine pq ?_;intros;rename_i hx
   rename Int=>x0
   apply Jr (γ:=OA×Nat×OA×Nat×Nat) hx [] (fun s0 y0 f=>(8,.slice (some ⟨y0.2.2.2.2,0,none⟩) 1 1)::(11,.slice y0.1 s0.1.length y0.2.1)::(12,.slice y0.2.2.1 s0.2.length y0.2.2.2.1)::f) [999] (fun s0 y0 l=>.r y0.2.2.1 s0.2.length y0.2.2.2.1 3 1 (s0.2.flatMap Ao) :: .r y0.1 s0.1.length y0.2.1 3 1 (s0.1.flatMap Ao) :: .r (some ⟨y0.2.2.2.2,0,none⟩) 1 1 3 1 (([w64 (Int.tdiv 65536 (w64 (x0+1)))]).flatMap Ao)::l);exact kk
   .exact aI
   .refine pI ?_;intros;rename_i hx
    (with_reducible apply Ack 47 (sz:=1));exact rfl;exact aT;exact iI;exact dL;exact (fun _=>rfl);exact rfl;exact rfl;exact sA
    apply Lr (γ:=OA×Nat×OA×Nat) hx [8,9,10] (fun s1 y1 f=>(11,.slice y1.1 s1.1.length y1.2.1)::(12,.slice y1.2.2.1 s1.2.1.length y1.2.2.2)::(13,iq s1.2.2)::f) [2,3,4,999] (fun s1 y1 l=>.r y1.2.2.1 s1.2.1.length y1.2.2.2 3 1 (s1.2.1.flatMap Ao) :: .r y1.1 s1.1.length y1.2.1 3 1 (s1.1.flatMap Ao)::l) (_,_,_,_);exact kk;exact sk;intro s1 y1 x1 hx _;unfold Eb at hx;refine pq ?_;intros;rename_i hx
    refine Cq1e (s:=78) hx rfl cQ ?_ ?_
    .refine pI ?_;intros;rename_i hx
     (with_reducible apply Ack 85 (sz:=1));exact rfl;exact aT;exact iI;exact dL;exact (fun _=>rfl);exact rfl;exact rfl;exact sA
     refine pq ?_;intros;rename_i hx
     refine pA ?_;intros;rename_i hx
     apply Jr (γ:=Unit) hx [8,9,10,11,12,13] (fun s2 y2 f=>(14,iq s2)::f) [0,2,3,4,5,999] (fun s2 y2 l=>l);exact kk
     .intro s2 y2 hx;refine pq ?_;intros;rename_i hx
      apply Jr (γ:=OA×Nat) hx [8,9,10,11,12,13] (fun s3 y3 f=>(14,iq s3.1)::(16,.slice y3.1 s3.2.length y3.2)::f) [3,4,5,6,7,999] (fun s3 y3 l=>.r y3.1 s3.2.length y3.2 3 1 (s3.2.flatMap Ao)::l);exact kk
      .exact aI
      .refine pI ?_;intros;rename_i hx
       apply Lr (γ:=OA×Nat) hx [8,9,10,11,12,13] (fun s4 y4 f=>(14,iq s4.1)::(16,.slice y4.1 s4.2.length y4.2)::f) [3,4,5,6,7,999] (fun s4 y4 l=>.r y4.1 s4.2.length y4.2 3 1 (s4.2.flatMap Ao)::l) (_,_);exact kk;exact sk;intro s4 y4 x2 hx _;unfold Hz at hx;exact au
     .exact aI
    .exact aI⟩
theorem Zs(p0:LI)(p1:LI){K:LE}{E0:OA}{G0:Nat}{E1:OA}{G1:Nat}(ha0:Has K E0 p0.length G0 1 Ao p0)(ha1:Has K E1 p1.length G1 1 Ao p1){r:LI×LI}(hx:Ed p0 p1=some r)(w:World)(hK:∀e∈K,Ent.ok w e):CtL prog 178 [.slice E0 p0.length G0,.slice E1 p1.length G1] w fun v Ln=>∃(A0:OA) (c0:Nat) (A2:OA) (c2:Nat) (e0:Ent),v=.tuple #[.slice A0 r.1.length c0,.slice A2 r.2.length c2]/\Ln=[.r A0 r.1.length c0 3 1 (r.1.flatMap Ao),e0]/\Has (K++[e0]) A2 r.2.length c2 1 Ao r.2/\True:=(Aba p0 p1).h K _ _ ⟨_,_,_,_,rfl,ha0,ha1,trivial⟩ hx w hK
theorem Acq(p0:LI)(p1:LI){K:LE}{E0:OA}{G0:Nat}{E1:OA}{G1:Nat}(ha0:Has K E0 p0.length G0 1 Ao p0)(ha1:Has K E1 p1.length G1 1 Ao p1){r:LI}(hx:Ns p0 p1=some r)(w:World)(hK:∀e∈K,Ent.ok w e):CtL prog 177 [.slice E0 p0.length G0,.slice E1 p1.length G1] w fun v Ln=>∃(A0:OA) (c0:Nat) (e0:Ent),v=.slice A0 r.length c0/\Ln=[e0]/\Has (K++[e0]) A0 r.length c0 1 Ao r/\True:=by
 have ha0':=Has.up0 ha0;have ha1':=Has.up0 ha1;refine CtL.mk 19 func177 rfl ntmps177 kr rfl ?_;show T 19 _ [(0,.slice E0 p0.length G0),(1,.slice E1 p1.length G1)] _;unfold Ns at hx;refine Y5 ?_;obtain⟨j2,hj2,hx⟩:=Aal hx;refine Xw (τ:=LI) (γ:=OA×Nat×Ent) (J:=j2) (out:=r) (fun s2 y2=>[(0,.slice y2.1 s2.length y2.2.1)]) (fun s2 y2=>[y2.2.2]++[.old w]) (fun s2 y2=>y2.2.2.low=0/\Has (K++[y2.2.2]) y2.1 s2.length y2.2.1 1 Ao s2/\True) ?_ ?_
 .intro s2 y2 hx0 hG0;obtain⟨lo57,hs0,-⟩:=hG0;subst hj2;refine Y7 ?_;obtain rfl:=oI hx0;exact Kf (rs:=[.tmp 4]) results177 (.tmp rfl (.nil)) (Ln:=[y2.2.2]) ⟨y2.1,y2.2.1,y2.2.2,rfl,rfl,Has.len' hs0,trivial⟩ (Cj lo57 Iz) (by exact .pick 0 rfl (.refl))
 .skip;refine Y ?_;obtain⟨t0,hl0,ho0⟩:=Aq hx;refine Bf 0 1 ?_;refine Lp (σ:=LI×LI) (γ:=OA×Nat×Ent×OA×Nat) hl0 (fun s0 y0=>[(0,.slice y0.1 s0.1.length y0.2.1),(1,.slice y0.2.2.2.1 s0.2.length y0.2.2.2.2)]) (fun s0 y0=>[y0.2.2.1]++[.old w]) (fun s0 y0=>y0.2.2.1.low=0/\Has (K++[y0.2.2.1]) y0.1 s0.1.length y0.2.1 1 Ao s0.1/\Has (K++[y0.2.2.1]) y0.2.2.2.1 s0.2.length y0.2.2.2.2 1 Ao s0.2/\True) (E0,G0,.r none 0 0 0 1 [],E1,G1) ((by exact⟨rfl,Has.len' ((Has.up (L:=(K++[.r none 0 0 0 1 []])) ha0' (SubE.app2 SubE.nil))),Has.len' ((Has.up (L:=(K++[.r none 0 0 0 1 []])) ha1' (SubE.app2 SubE.nil))),trivial⟩)) (by exact .pick 0 rfl (.refl)) ?_;intro s0 y0 hG1 x0 hx1 ht0;unfold Qa at hx1;obtain⟨lo38,hs1,hs2,-⟩:=hG1;refine Y4 ?_;refine Ay (Gf rfl 3 underlying58) rfl ?_;refine Y3 ?_;refine Ti hx1 (s:=9) rfl (fun h0 hx2=>?_) (fun h0 hx3=>?_)
  .refine Y8 ?_;obtain⟨r0,h1,hx4⟩:=Aq hx2;refine T_x (Gl rfl (fun w1 hw1=>Zs s0.1 s0.2 (Has.len' hs1) (Has.len' hs2) h1 w1 (Zf (K:=K) (K2:=[y0.2.2.1]) hK (by exact (sb 1)) (by exact (sb 0)) hw1)) rfl ?_);rintro _ _ hlo ⟨A1,c1,A2,c2,e1,rfl,rfl,hs3,-⟩;have lo53:=hlo e1 s_;refine Abs ?_;have hs4:Has (K++[y0.2.2.1,e1]) _ _ _ _ _ _:=Has.assoc hs3;(iterate 14 refine Y ?_);refine Ahj (es:=[y0.2.2.1,e1]) (by exact .pick 2 rfl (.pick 1 rfl (.refl))) (Cj lo38 (Cj lo53 Iz)) ?_;exact Rp (s0.2,r0.2) (y0.2.2.2.1,y0.2.2.2.2,bun [y0.2.2.1,e1],A2,c2) hx4 ((by exact⟨rfl,Has.len' ((Has.up (L:=(K++[(bun [y0.2.2.1,e1])])) hs2 (SubE.app2 (SubE.consB (i:=0) (j:=0) rfl rfl SubE.nil)))),Has.len' ((Has.up (L:=(K++[(bun [y0.2.2.1,e1])])) hs4 (SubE.app2 (SubE.consB (i:=0) (j:=0) rfl rfl (SubE.consB (i:=0) (j:=1) rfl rfl SubE.nil))))),trivial⟩)) (by exact .pick 0 rfl (.drop 0 rfl (.refl)))
  .refine Y3 ?_;obtain rfl:=Mg ht0 hx3;refine Y2 ?_;exact Mt s0.1 (y0.1,y0.2.1,y0.2.2.1) ho0 ((by exact⟨lo38,Has.len' hs1,trivial⟩)) (by exact .pick 0 rfl (.refl))
instance(p0:LI)(p1:LI):ConB (Ns p0 p1) prog 177 (fun K vs=>∃E0 G0 E1 G1,vs=[.slice E0 p0.length G0,.slice E1 p1.length G1]/\Has K E0 p0.length G0 1 Ao p0/\Has K E1 p1.length G1 1 Ao p1/\True) (fun K r v Ln=>∃A0 c0 e,v=.slice A0 r.length c0/\Ln=[e]/\Has (K++[e]) A0 r.length c0 1 Ao r/\True):=⟨by
 rintro K _ r ⟨E0,G0,E1,G1,rfl,ha0,ha1,-⟩ hx w hK;exact CtL.bunB (Acq p0 p1 ha0 ha1 hx w hK) (by
  rintro _ _ w1 hw ⟨_,_,_,rfl,rfl,_,-⟩;exact⟨_,_,_,rfl,rfl,hZ hw,trivial⟩)⟩
end
end Go.Proofs.YtlejkgngmjchdaaGreat
