import Derived.Test.YthlkpgdfifnagaaGreatE3
set_option maxRecDepth 100000
set_option maxHeartbeats 1000000
namespace Go.Proofs.YthlkpgdfifnagaaGreat
open Go Go.RowKit Tryz
section
variable {α:Type} {lt:α->α->Bool}
theorem Auf(htr:∀ x y z,lt y x=false->lt z y=false->lt z x=false)(has:∀ x y,lt x y=true->lt y x=false){B:List α × Int->Option (Sum (List α × Int) (List α))}(hB:∀ (A:List α) (y x:α) (R:List α),A.length<=100000000->B (A++y::x::R,((A.length+1:Nat):Int))=if lt x y=true then some (.inl (A++x::y::R,(A.length:Int))) else some (.inr (A++y::x::R)))(hB0:∀ (x:α) (R:List α),B (x::R,0)=some (.inr (x::R))):
  ∀ (n:Nat) (A C D:List α) (x:α),A.length=n->n<=100000000->((A++C).Pairwise fun x y=>lt y x=false)->(∀ c∈C,lt x c=true)->∃ A' C',A' ++ C'=A++C/\lfix B (A++x::(C++D),(A.length:Int))=some (A' ++ x::(C' ++ D))/\(A' ++ x::C').Pairwise fun x y=>lt y x=false:=by
 intro n
 induction n with
 | zero=>
  intro A C D x hA _ hs hc;have:A=[]:=List.eq_nil_of_length_eq_zero hA;subst this;refine⟨[],C,rfl,?_,?_⟩
  ·rw[List.nil_append,Bg,show ((([]:List α).length:Nat):Int)=0 from rfl,hB0]
  ·exact List.pairwise_cons.2 ⟨fun c hc'=>has _ _ (hc c hc'),hs⟩
 | succ n ih=>
  intro A C D x hA hn hs hc;obtain⟨A',y,rfl⟩:∃ A' y,A=A' ++ [y]:=⟨A.dropLast,A.getLast (fun e=>by rw[e] at hA;simp at hA),(List.dropLast_concat_getLast _).symm⟩;have hA':A'.length=n:=by simpa using hA
  have e1:(A' ++ [y])++x::(C++D)=A' ++ y::x::(C++D):=s_;have e2:(((A' ++ [y]).length:Nat):Int)=((A'.length+1:Nat):Int):=s_;rw[e1,e2,Bg,hB _ _ _ _ oo]
  by_cases c:lt x y=true
  ·rw[if_pos c];dsimp only;obtain⟨A2,C2,g1,g2,g3⟩:=ih A' (y::C) D x hA' oo (by simpa using hs) (fun z hz=>by rcases List.mem_cons.1 hz with rfl | hz;exact c;exact hc z hz);exact⟨A2,C2,by rw[g1];simp,g2,g3⟩
  ·rw[if_neg c];have c':lt x y=false:=by simpa using c
   refine⟨A' ++ [y],C,rfl,s_,?_⟩;rw[List.pairwise_append] at hs ⊢;obtain⟨h1,h2,h3⟩:=hs;refine⟨h1,List.pairwise_cons.2 ⟨fun z hz=>has _ _ (hc z hz),h2⟩,fun z hz w hw=>?_⟩;rcases List.mem_cons.1 hw with rfl | hw
   ·rw[List.pairwise_append] at h1;rcases List.mem_append.1 hz with hz | hz
    ·exact htr _ _ _ (h1.2.2 z hz y s_) c'
    ·rw[List.mem_singleton] at hz;subst hz;exact c'
   ·exact h3 z hz w hw
theorem Al6(htr:∀ x y z,lt y x=false->lt z y=false->lt z x=false)(has:∀ x y,lt x y=true->lt y x=false){B:List α × Int->Option (Sum (List α × Int) (List α))}{B2:List α × Int->Option (Sum (List α × Int) (List α))}{p:List α}(hB:∀ (A:List α) (y x:α) (R:List α),A.length<=100000000->B (A++y::x::R,((A.length+1:Nat):Int))=if lt x y=true then some (.inl (A++x::y::R,(A.length:Int))) else some (.inr (A++y::x::R)))(hB0:∀ (x:α) (R:List α),B (x::R,0)=some (.inr (x::R)))(hp:p.length<=100000000)(h2:∀ (l:List α) (k:Nat),k<p.length->B2 (l,(k:Int))=bnd (lfix B (l,(k:Int))) fun t=>some (.inl (t,((k+1:Nat):Int))))(h3:∀ l:List α,B2 (l,(p.length:Int))=some (.inr l)):
  ∃ r,lfix B2 (p,0)=some r/\r.Perm p/\r.Pairwise fun x y=>lt y x=false:=by
 refine Bn (B:=B2) (fun s=>p.length-s.2.toNat) (fun s=>∃ S D:List α,s=(S++D,(S.length:Int))/\(S++D).Perm p/\S.Pairwise fun x y=>lt y x=false) _ (fun s hs=>?_) _ ⟨[],p,rfl,List.Perm.refl _,List.Pairwise.nil⟩;obtain⟨S,D,rfl,h4,h5⟩:=hs;have hlen:=h4.length_eq;rw[List.length_append] at hlen;rcases D with _ | ⟨x,D⟩
 ·right;have:S.length=p.length:=by simpa using hlen
  rw[this,h3];exact⟨_,rfl,h4,by simpa using h5⟩
 ·left;rw[List.length_cons] at hlen;rw[h2 _ _ oo];obtain⟨A',C',g1,g2,g3⟩:=Auf htr has hB hB0 S.length S [] D x rfl oo (by simpa using h5) (fun c hc=>(by cases hc));rw[List.append_nil] at g1;rw[List.nil_append] at g2;rw[g2,Ad];have hl:A'.length+C'.length=S.length:=by rw[<- List.length_append,g1]
  have e:(A' ++ x::(C' ++ D))=(A' ++ x::C')++D:=s_;refine⟨_,rfl,⟨A' ++ x::C',D,by rw[e,List.length_append,List.length_cons,<- hl];congr 2,?_,g3⟩,by dsimp only;omega⟩;rw[<- e];refine List.Perm.trans ?_ h4;rw[<- g1];have:(A' ++ x::(C' ++ D)).Perm (x::(A' ++ (C' ++ D))):=List.perm_middle;refine this.trans ?_;have:((A' ++ C')++x::D).Perm (x::((A' ++ C')++D)):=List.perm_middle;rw[<- List.append_assoc];exact this.symm
end
theorem Akd{α:Type}(A:List α)(y x:α)(R:List α):idx (A++y::x::R) (A.length:Int)=some y/\idx (A++y::x::R) ((A.length+1:Nat):Int)=some x:=by
 constructor
 ·rw[At s_];simp
 ·rw[At s_];simp
theorem Ayi(x y:Ag):Pk x y=some (decide (cmp3 x y<0)):=by
 obtain⟨x0,x1,x2⟩:=x;obtain⟨y0,y1,y2⟩:=y;have step:∀ (a b c a' b' c':Int) (i:Int) (h:Int),w64 (i+1)=h->∀ p q,i<3->idx [a,b,c] i=some p->idx [a',b',c'] i=some q->Hy ⟨a,b,c⟩ ⟨a',b',c'⟩ i=if p=q then some (.inl h) else some (.inr (.inr (decide (p<q)))):=by
  intro a b c a' b' c' i h hh p q hi hp hq;unfold Hy;dsimp only;rw[if_pos hi,hp,Ad,hq,Ad,Ad,Ad,hh]
 have w1:w64 (0+1)=1:=As oo oo;have w2:w64 (1+1)=2:=As oo oo;have w3:w64 (2+1)=3:=As oo oo;have s0:=step x0 x1 x2 y0 y1 y2 0 1 w1 x0 y0 oo rfl rfl;have s1:=step x0 x1 x2 y0 y1 y2 1 2 w2 x1 y1 oo rfl rfl;have s2:=step x0 x1 x2 y0 y1 y2 2 3 w3 x2 y2 oo rfl rfl;have s3:Hy ⟨x0,x1,x2⟩ ⟨y0,y1,y2⟩ 3=some (.inr (.inl ())):=by unfold Hy;rw[if_neg oo]
 unfold Pk;rw[jn_d,Bg,s0];have key:∀ P:Prop,∀ Q:Prop,[Decidable P]->[Decidable Q]->(P↔Q)->some (decide P)=some (decide Q):=fun P Q _ _ h=>by rw[decide_eq_decide.2 h]
 have hc:=Abs ⟨x0,x1,x2⟩ ⟨y0,y1,y2⟩;dsimp only at hc
 by_cases h0:x0=y0
 ·rw[if_pos h0];dsimp only;rw[Bg,s1]
  by_cases h1:x1=y1
  ·rw[if_pos h1];dsimp only;rw[Bg,s2]
   by_cases h2:x2=y2
   ·rw[if_pos h2];dsimp only;rw[Bg,s3,Ad];dsimp only;rw[decide_eq_false (fun g=>by have:=hc.1 g;omega)]
   ·rw[if_neg h2,Ad];dsimp only;exact key _ _ (by rw[hc];omega)
  ·rw[if_neg h1,Ad];dsimp only;exact key _ _ (by rw[hc];omega)
 ·rw[if_neg h0,Ad];dsimp only;exact key _ _ (by rw[hc];omega)
theorem Aoa(p:List Ag)(hp:p.length<=100000000):∃ r,Ml p=some r/\r.Perm p/\r.Pairwise fun x y=>¬ cmp3 y x<0:=by
 have:=Al6 (lt:=fun x y:Ag=>decide (cmp3 x y<0)) (B:=Ir) (B2:=Is p) (p:=p)
  (fun x y z h1 h2=>by
   simp only[decide_eq_false_iff_not,Abs] at *;omega)
  (fun x y h=>by
   simp only[decide_eq_false_iff_not,decide_eq_true_eq,Abs] at *;omega)
  (fun A y x R hA=>by
   obtain⟨i0,i1⟩:=Akd A y x R;have w1:w64 (((A.length+1:Nat):Int)-1)=(A.length:Int):=by rw[As oo oo];omega
   unfold Ir;dsimp only;rw[jn_d,if_pos oo,w1,i1,Ad,i0,Ad,Ayi,Ad]
   by_cases c:decide (cmp3 x y<0)=true
   ·have e1:(A++y::x::R).set (A.length+1) y=A++y::y::R:=by simp[List.set_append]
    have e2:(A++y::y::R).set A.length x=A++x::y::R:=by simp[List.set_append]
    have j0:∃ z,idx (A++y::y::R) (A.length:Int)=some z:=⟨_,(Akd A y y R).1⟩;obtain⟨z,j0⟩:=j0;dsimp only;rw[if_pos c,if_pos c,Ad,Ad,Ad,Xs,e1,j0,Ad,Xs,e2]
   ·dsimp only;rw[if_neg c,if_neg c])
  (fun x R=>by
   unfold Ir;dsimp only;rw[jn_d,if_neg oo];dsimp only;rw[if_neg s_])
  hp
  (fun l k hk=>by
   unfold Is;dsimp only;rw[if_pos oo,jn_d,show w64 ((k:Int)+1)=((k+1:Nat):Int) from by rw[As oo oo];omega])
  (fun l=>by
   unfold Is;dsimp only;rw[if_neg oo])
 obtain⟨r,h1,h2,h3⟩:=this;refine⟨r,?_,h2,h3.imp fun h=>by simpa using h⟩;unfold Ml;rw[jn_d,h1,Ad]
variable {v:List Ac}
theorem Bbo{n:Nat}(hn:n<=1024){t:Ag}(h0:inN n t.a0)(h1:inN n t.a1)(h2:inN n t.a2){s:List Ab × (List (Ab × Bool)) × List Ag}{op:List Ab}{dn:List (Ab × Bool)}(hop:op.length<=10000000)(hdn:dn.length<=10000000)(hpl:∀ (m:List (Ab × Bool)) (x:Ab),(mput m x true).length<=m.length+1):
  lfix (Cz t s) (op,dn,0)=some (op++[⟨t.a1,t.a0⟩,⟨t.a2,t.a1⟩,⟨t.a0,t.a2⟩],mput (mput (mput dn ⟨t.a0,t.a1⟩ true) ⟨t.a1,t.a2⟩ true) ⟨t.a2,t.a0⟩ true,s.2.2++[t]):=by
 unfold inN at h0 h1 h2;have step:∀ (op:List Ab) (dn:List (Ab × Bool)) (i j:Int) (p q:Int),op.length<=20000000->dn.length<=20000000->0<=i->i<3->Int.tmod (w64 (i+1)) 3=j->idx [t.a0,t.a1,t.a2] i=some p->idx [t.a0,t.a1,t.a2] j=some q->(0<=p/\p<1024)->(0<=q/\q<1024) ->
   Cz t s (op,dn,i)=some (.inl (op++[⟨q,p⟩],mput dn ⟨p,q⟩ true,i+1)):=fun op dn i j p q ho hd hi hi3 hj hp hq hpr hqr=>by
  unfold Cz;dsimp only;rw[if_pos hi3,hp,Ad,hj,hq,Ad,gd_t ⟨⟨oo,oo⟩,oo,oo⟩,gd_t oo,gd_t oo,As oo oo]
 have last:∀ (op:List Ab) (dn:List (Ab × Bool)),Cz t s (op,dn,3)=some (.inr (op,dn,s.2.2++[t])):=fun op dn=>by
  unfold Cz;dsimp only;rw[if_neg oo]
 have l1:=hpl dn ⟨t.a0,t.a1⟩;have l2:=hpl (mput dn ⟨t.a0,t.a1⟩ true) ⟨t.a1,t.a2⟩;have m0:Int.tmod (w64 (0+1)) 3=1:=by rw[As oo oo];rfl
 have m1:Int.tmod (w64 (1+1)) 3=2:=by rw[As oo oo];rfl
 have m2:Int.tmod (w64 (2+1)) 3=0:=by rw[As oo oo];rfl
 rw[Bg,step op dn 0 1 t.a0 t.a1 oo oo oo oo m0 rfl rfl oo oo];dsimp only;rw[Bg,show (0:Int)+1=1 from rfl,step _ _ 1 2 t.a1 t.a2 (by simp;omega) oo oo oo m1 rfl rfl oo oo];dsimp only;rw[Bg,show (1:Int)+1=2 from rfl,step _ _ 2 0 t.a2 t.a0 (by simp;omega) oo oo oo m2 rfl rfl oo oo];dsimp only;rw[Bg,show (2:Int)+1=3 from rfl,last];simp
def dnM(m:List (Ab × Bool))(p q:Int):Prop:=(mget m ⟨p,q⟩).getD false=true
theorem Af3{m:List (Ab × Bool)}(hm:Ek m)(x y p q:Int):dnM (mput m ⟨x,y⟩ true) p q↔dnM m p q\/(p=x/\q=y):=by
 unfold dnM;rw[Pd hm]
 by_cases h:(⟨p,q⟩:Ab)=⟨x,y⟩
 ·rw[if_pos h];simp only[Ab.mk.injEq] at h;simp[h]
 ·rw[if_neg h];simp only[Ab.mk.injEq] at h;exact⟨.inl,fun g=>g.elim id fun g=>absurd g h⟩
theorem Zx(m:List (Ab × Bool))(x:Ab):(mput m x true).length<=m.length+1:=by
 unfold mput;have:(mdel m x).length<=m.length:=List.length_filter_le _ _;simp only[List.length_cons,List.length_append,List.length_nil];omega
theorem Aug(hv:Cc v)(hn:v.length<=1024)(h0:0<v.length):∃ f,inN v.length f/\∀ k,inN v.length k->k=f\/befP (plV v f) (plV v k):=by
 obtain⟨l,hl,hr⟩:=Am1 hv hn;have hlen:=hr.len;have g0:0<l.length:=oo;refine⟨l[0],hr.val.1 (List.getElem_mem g0),fun k hk=>?_⟩;obtain⟨j,hj,rfl⟩:=List.getElem_of_mem (hr.val.2 hk)
 by_cases e:j=0
 ·subst e;exact .inl rfl
 ·exact .inr (hr.lt g0 hj oo)
theorem Al7(hv:Cc v)(h3:3<=v.length):(∀ k,2<=k->inN v.length k->crs (plV v 0) (plV v 1) (plV v k)=0)↔Aao v:=by
 have i0:inN v.length 0:=⟨oo,oo⟩;have i1:inN v.length 1:=⟨oo,oo⟩;constructor
 ·intro h i j k hi hj hk;have on:∀ d,inN v.length d->crs (plV v 0) (plV v 1) (plV v d)=0:=fun d hd=>by
   by_cases e0:d=0
   ·subst e0;exact Bv _ _
   ·by_cases e1:d=1
    ·subst e1;exact Bo _ _
    ·exact h d (by have:=hd.1;omega) hd
  exact Ah4 (Qv hv i0 i1 oo) (on i hi) (on j hj) (on k hk)
 ·intro h k _ hk;exact h 0 1 k i0 i1 hk
theorem Auh(v:List Ac)(hn:v.length<=1024):lfix (Jl v) (([]:List Ac),0)=some v:=by
 have:=Bn (B:=Jl v) (fun s=>v.length-s.2.toNat) (fun s=>∃ k:Nat,k<=v.length/\s=(v.take k,(k:Int))) (fun t=>t=v) (fun s hs=>by
  obtain⟨k,hk,rfl⟩:=hs;unfold Jl;dsimp only
  by_cases hk2:k<v.length
  ·left;rw[if_pos oo,At hk2,Ad,gd_t (by rw[List.length_take];omega),show w64 ((k:Int)+1)=((k+1:Nat):Int) from by rw[As oo oo];omega];exact⟨_,rfl,⟨k+1,hk2,by rw[List.take_succ_eq_append_getElem hk2]⟩,by dsimp only;omega⟩
  ·right;rw[if_neg oo];have:k=v.length:=oo;subst this;exact⟨_,rfl,by rw[List.take_length]⟩) (([]:List Ac),0) ⟨0,oo,s_⟩
 obtain⟨t,ht,rfl⟩:=this;exact ht
theorem Aiu{v:List Ac}(lines:List Ab)(h:Ny v≠0):Cd v lines=some (⟨[],[],[]⟩,Ny v):=by
 unfold Cd Kq;rw[Zn,Ad,if_neg h,Ad,if_neg h]
end Go.Proofs.YthlkpgdfifnagaaGreat
namespace Go.Proofs.YthlkpgdfifnagaaGreat
open Go Go.RowKit Tryz
section
variable {v:List Ac} {m:Mp} {L l:List Ab}
theorem Mesh.seen_side(hv:Cc v)(h:Mesh v L m){x y z:Int}(hk:apM m x y=some z):Seen v L x y/\Seen v L y x:=by
 obtain⟨vx,vy,_,_⟩:=h.tri.ccw _ _ _ hk;have hf:=Mesh.free hv h.tri hk;have one:Seen v L x y:=fun s hs g=>by
  have hsd:apM m s.a0 s.a1≠none\/apM m s.a1 s.a0≠none:=h.side s hs;rcases g.cr with g | g
  ·exact Aeo h.tri h.cov vx vy hf (.inl (by rw[hk];simp)) g hsd
  ·exact Aeo h.tri h.cov vx vy hf (.inl (by rw[hk];simp)) g hsd.symm
 exact⟨one,fun s hs g=>one s hs (Hf.symm (Hf.rev (Hf.symm g)))⟩
theorem Mesh.topS(hv:Cc v)(h:Mesh v L m){a b k:Int}(hk:apM m a b=some k):TopS v (See2 v L a b) a b k:=by
 obtain⟨_,_,vk,T⟩:=h.tri.ccw _ _ _ hk;exact⟨vk,T,⟨(h.seen_side hv (h.tri.rot2 hk)).2,(h.seen_side hv (h.tri.rot _ _ _ hk)).1⟩,fun d hd hp hs hne=>h.best hv hk hd hp hne hs.1 hs.2⟩
theorem Aob(hM:Tri (plV v) (inN v.length) (apM m)){a b c:Int}(h:apM m a b=some c):∃ t,Mm ⟨a,b,c⟩=some t/\Acc m t/\Om t a b/\(∀ p q,Om t p q↔Om ⟨a,b,c⟩ p q):=by
 have hn:=Aey (P:=plV v) (a:=a) (b:=b) (c:=c) (by have:=(hM.ccw _ _ _ h).2.2.2;omega);have stop:∀ x y z:Int,¬ y<x->¬ z<x->Ga (x,y,z)=some (.inr (x,y,z)):=fun x y z h1 h2=>by
  unfold Ga;dsimp only;rw[jn_d,if_neg h1,decide_eq_false h2];dsimp only;rw[if_neg s_]
 have more:∀ x y z:Int,y<x\/z<x->Ga (x,y,z)=some (.inl (y,z,x)):=fun x y z h1=>by
  unfold Ga;dsimp only;rw[jn_d]
  by_cases c:y<x
  ·rw[if_pos c];dsimp only;rw[if_pos rfl]
  ·rw[if_neg c,decide_eq_true (h1.resolve_left c)];dsimp only;rw[if_pos rfl]
 unfold Mm;rw[jn_d];dsimp only
 by_cases h1:b<a\/c<a
 ·rw[Bg,more _ _ _ h1];dsimp only
  by_cases h2:c<b\/a<b
  ·rw[Bg,more _ _ _ h2];dsimp only;rw[Bg,stop _ _ _ oo oo,Ad];refine⟨_,rfl,⟨by dsimp only;omega,by dsimp only;omega,hM.rot2 h⟩,.inr (.inl ⟨rfl,rfl⟩),fun p q=>?_⟩;unfold Om;dsimp only;omega
  ·rw[Bg,stop _ _ _ oo oo,Ad];refine⟨_,rfl,⟨by dsimp only;omega,by dsimp only;omega,hM.rot _ _ _ h⟩,.inr (.inr ⟨rfl,rfl⟩),fun p q=>?_⟩;unfold Om;dsimp only;omega
 ·rw[Bg,stop _ _ _ oo oo,Ad];exact⟨_,rfl,⟨by dsimp only;omega,by dsimp only;omega,h⟩,.inl ⟨rfl,rfl⟩,fun p q=>Iff.rfl⟩
theorem Afv(hv:Cc v)(hn:v.length<=1024)(hL:L.length<=1000000)(hLs:Lines v L)(hM:Mesh v L m){p0 q0:Int}(h0:okM v m p0 q0)(hs:∃ e,apM m p0 q0=some e):
  ∃ out,lfix (Gb v L) ([⟨p0,q0⟩],([]:List (Ab × Bool)),([]:List Ag))=some out/\out.Nodup/\out.length<=1048576/\∀ t,t∈out↔Acc m t:=by
 have hok:∀ s∈L,okL v s:=fun s hs=>(hLs.ok s hs).1
 have hsq:=Ace hn;refine Bn (B:=Gb v L) (fun s=>4*(v.length*v.length-s.2.2.length)+s.1.length)
  (fun s=>TrM v m p0 q0 s.1 (dnM s.2.1) s.2.2/\Ek s.2.1/\s.2.1.length+s.1.length<=1+6*s.2.2.length) _ (fun s hst=>?_) _ ⟨TrM.init h0 (fun p q h=>by simp[dnM,Aur] at h),List.Pairwise.nil,s_⟩
 obtain⟨op,dn,out⟩:=s;obtain⟨h1,h2,h3⟩:=hst;dsimp only at h1 h2 h3;have hb:=h1.bound hM.tri;have hl:=h1.len;unfold Gb;dsimp only
 by_cases hop:op=[]
 ·right;subst hop;rw[if_neg s_];exact⟨_,rfl,h1.nd,oo,h1.full hv hM hs⟩
 ·left;obtain⟨r,s,rfl⟩:∃ r s,op=r++[s]:=⟨op.dropLast,op.getLast hop,(List.dropLast_concat_getLast hop).symm⟩;obtain⟨s1,s2,s3⟩:=h1.opn s s_;have hln:(r++[s]).length=r.length+1:=s_;have w1:w64 ((((r++[s]).length:Nat):Int)-1)=(r.length:Int):=by rw[hln,As oo oo];omega
  have i1:idx (r++[s]) (r.length:Int)=some s:=by rw[At s_];simp
  have tk:List.take (Int.toNat (r.length:Int)) (r++[s])=r:=s_;have hr1:=Oq hn s1 s2;rw[if_pos oo,w1,i1,Ad,gd_t ⟨oo,oo⟩,gd_t hr1,Ad,tk]
  by_cases c1:(mget dn s).getD false=true
  ·rw[if_pos c1];exact⟨_,rfl,⟨h1.skip c1,h2,by dsimp only;omega⟩,by dsimp only;omega⟩
  ·rw[if_neg c1];obtain⟨c,e1,e2⟩:=Awm hv hn hL hok s1 s2;rw[e1,Ad];have hput:=Zx dn s
   by_cases c2:c<0
   ·have hno:noT v s.a0 s.a1:=by
     rcases e2 with⟨_,g⟩ | g
     ·rcases s3 with g' | ⟨e,he⟩
      ·exact g'
      ·have ht:=hM.topS hv he;have:=g e ht.1 ht.2.2.1;have:=ht.2.1;omega
     ·have:=g.1.1;omega
    rw[if_pos c2,gd_t hr1,gd_t oo];exact⟨_,rfl,⟨h1.none (fun p q=>Af3 h2 s.a0 s.a1 p q) hno,h2.put _ _,by dsimp only;omega⟩,by dsimp only;omega⟩
   ·have ht:TopS v (See2 v L s.a0 s.a1) s.a0 s.a1 c:=by
     rcases e2 with⟨g,_⟩ | g
     ·omega
     ·exact g
    have hd:apM m s.a0 s.a1=some c:=by
     rcases s3 with g | ⟨e,he⟩
     ·have:=g c ht.1;have:=ht.2.1;omega
     ·rw[<- (hM.topS hv he).unique ht];exact he
    obtain⟨t,t1,t2,t3,t4⟩:=Aob hM.tri hd;have tin:inN v.length t.a0/\inN v.length t.a1/\inN v.length t.a2:=by
     obtain⟨q1,q2,q3,_⟩:=hM.tri.ccw _ _ _ t2.2.2;exact⟨q1,q2,q3⟩
    have hnew:=h1.more (dn':=dnM (mput (mput (mput dn ⟨t.a0,t.a1⟩ true) ⟨t.a1,t.a2⟩ true) ⟨t.a2,t.a0⟩ true)) c1 t2 t3 (fun p q=>by
      rw[Af3 ((h2.put _ _).put _ _),Af3 (h2.put _ _),Af3 h2];unfold Om;constructor
      ·rintro (((g | g) | g) | g)
       ·exact .inl g
       ·exact .inr (.inl g)
       ·exact .inr (.inr (.inl g))
       ·exact .inr (.inr (.inr g))
      ·rintro (g | g | g | g)
       ·exact .inl (.inl (.inl g))
       ·exact .inl (.inl (.inr g))
       ·exact .inl (.inr g)
       ·exact .inr g) (fun p q hpq=>by
      obtain⟨e,he⟩:=t2.side hM.tri hpq;obtain⟨q1,q2,_⟩:=hM.tri.ccw _ _ _ he;refine⟨q2,q1,?_⟩;rcases hx:apM m q p with _ | x
      ·refine .inl fun d hd=>?_
       have:=hM.cov _ _ _ he hx d hd;rw[Bb];omega
      ·exact .inr ⟨x,rfl⟩)
    have hb2:=hnew.bound hM.tri;rw[List.length_append,List.length_singleton] at hb2;have q1:=Zx dn ⟨t.a0,t.a1⟩;have q2:=Zx (mput dn ⟨t.a0,t.a1⟩ true) ⟨t.a1,t.a2⟩;have q3:=Zx (mput (mput dn ⟨t.a0,t.a1⟩ true) ⟨t.a1,t.a2⟩ true) ⟨t.a2,t.a0⟩;rw[if_neg c2,t1,Ad,gd_t oo,Bbo hn tin.1 tin.2.1 tin.2.2 oo oo Zx,Ad];refine⟨_,rfl,⟨hnew,((h2.put _ _).put _ _).put _ _,?_⟩,?_⟩
    ·dsimp only;simp only[List.length_append,List.length_cons,List.length_nil];rw[hln] at h3;omega
    ·dsimp only;simp only[List.length_append,List.length_cons,List.length_nil];omega
theorem Asb(hv:Cc v)(hM:Mesh v L m){f b:Int}(hf:inN v.length f)(low:∀ k,inN v.length k->k=f\/befP (plV v f) (plV v k))(hb:inN v.length b)(hbf:b≠f)(hh:∀ k,inN v.length k->k≠f->behind v f b k):∃ e,apM m f b=some e:=by
 have left:∀ d,inN v.length d->0<=crs (plV v f) (plV v b) (plV v d):=fun d hd=>by
  by_cases e:d=f
  ·rw[e,Bv];exact Int.le_refl _
  ·rcases hh d hd e with g | g <;> omega
 have hfree:Free v f b:=fun z hz n1 n2 g=>by
  obtain⟨g0,g⟩:=g;have h1:=(low z hz).resolve_left n1;rcases hh z hz n1 with k | ⟨_,k⟩
  ·omega
  ·have h2:=(Lb (Qv hv hz hb n2)).resolve_left k;exact g ⟨fun _=>h2,fun _=>h1⟩
 rcases Akt hv hM.tri hf hb (fun e=>hbf e.symm) hfree (Ahh hv hM.map hM.tri hM.cov hM.ne hf hb) with (g | g) | ⟨x,y,g,g1,g2⟩
 ·exact Option.ne_none_iff_exists'.1 g
 ·exfalso;obtain⟨e,he⟩:=Option.ne_none_iff_exists'.1 g;obtain⟨_,_,ve,T⟩:=hM.tri.ccw _ _ _ he;have:=left e ve;rw[Bb] at T;omega
 ·exfalso;obtain⟨vx,_,_,_⟩:=hM.tri.ccw _ _ _ g;have:=left x vx;omega
structure Add(v:List Ac)(m:Mp)(T:List Ag):Prop where
 ord:T.Pairwise fun x y=>¬ cmp3 y x<0
 nd:T.Nodup
 mem:∀ t,t∈T↔Acc m t
theorem Add.unique{T T':List Ag}(h:Add v m T)(h':Add v m T'):T=T' :=
 Abp tot3 (fun _ _=>trivial) h.ord h'.ord ((List.perm_ext_iff_of_nodup h.nd h'.nd).2 fun t=>(h.mem t).trans (h'.mem t).symm)
theorem Aui(hm:MapN v.length m):Add v m (Az cmp3 (m.flatMap triF)):=by
 have memt:∀ t:Ag,t∈m.flatMap triF↔Acc m t:=fun t=>by
  rw[List.mem_flatMap];constructor
  ·rintro⟨⟨⟨a,b⟩,c⟩,hq,ht⟩;unfold triF at ht;split at ht
   ·rename_i hlt;rw[List.mem_singleton] at ht;subst ht;exact⟨hlt.1,hlt.2,Qg hm.ok hq⟩
   ·cases ht
  ·rintro⟨h1,h2,h3⟩;refine⟨(⟨t.a0,t.a1⟩,t.a2),Fw h3,?_⟩;unfold triF;rw[if_pos ⟨h1,h2⟩];exact List.mem_singleton.2 rfl
 refine⟨Na tot3 (fun _ _=>trivial),(Du _ _).nodup_iff.2 ?_,fun t=>by rw[Ia,memt]⟩;have:∀ l:Mp,Ek l->(l.flatMap triF).Nodup:=by
  intro l
  induction l with
  | nil=>intro _;exact List.Pairwise.nil
  | cons q r ih=>
   intro hl;obtain⟨h1,h2⟩:=List.pairwise_cons.1 hl;rw[List.flatMap_cons,List.nodup_append];refine⟨?_,ih h2,fun x hx y hy e=>?_⟩
   ·unfold triF;split
    ·simp
    ·exact List.Pairwise.nil
   ·subst e;obtain⟨q',hq',hy⟩:=List.mem_flatMap.1 hy;have key:∀ q:Ab × Int,x∈triF q->q.1=⟨x.a0,x.a1⟩:=fun q hq=>by
     unfold triF at hq;split at hq
     ·rw[List.mem_singleton] at hq;subst hq;rfl
     ·cases hq
    exact h1 q' hq' (by rw[key _ hx,key _ hy])
 exact this m hm.ok
theorem Ayj(x y:Ab):Pm x y=some (decide (cmp2 x y<0)):=by
 have h:=Abr x y;unfold Pm;rw[jn_d]
 by_cases c:x.a0<y.a0
 ·rw[if_pos c,decide_eq_true (h.2 (.inl c))]
 ·rw[if_neg c]
  by_cases c2:x.a0=y.a0
  ·rw[if_pos c2];congr 1;exact decide_eq_decide.2 (by rw[h];omega)
  ·rw[if_neg c2,decide_eq_false (fun g=>by have:=h.1 g;omega)]
theorem Ags(hl:l.length<=1000000)(hs:∀ s∈l.map prL,Ob s):La l=some (Az cmp2 (l.map prL)):=by
 obtain⟨t,ht,hR⟩:=Bn (B:=Ll l) (fun s=>l.length-s.2.toNat)
  (fun s=>∃ k:Nat,s=((l.take k).map prL,(k:Int))/\k<=l.length)
  (fun t=>t=l.map prL) (by
   rintro s ⟨k,rfl,hk⟩;unfold Ll;dsimp only
   by_cases hlt:k<l.length
   ·left;refine⟨((l.take (k+1)).map prL,((k+1:Nat):Int)),?_,⟨k+1,rfl,oo⟩,by simp;omega⟩;rw[if_pos oo,At hlt,Ad,Ad,Ad,Ad,gd_t (by simp;omega),Bd oo,By hlt,List.map_append];rfl
   ·right;obtain rfl:k=l.length:=oo;exact⟨_,by rw[if_neg oo],s_⟩)
  ([],0) ⟨0,s_,oo⟩
 have hp:(l.map prL).length<=100000000:=by simp;omega
 have:=Al6 (lt:=fun x y:Ab=>decide (cmp2 x y<0)) (B:=Gl) (B2:=Hl (l.map prL)) (p:=l.map prL)
  (fun x y z h1 h2=>by
   simp only[decide_eq_false_iff_not,Abr] at *;omega)
  (fun x y h=>by
   simp only[decide_eq_false_iff_not,decide_eq_true_eq,Abr] at *;omega)
  (fun A y x R hA=>by
   obtain⟨i0,i1⟩:=Akd A y x R;have w1:w64 (((A.length+1:Nat):Int)-1)=(A.length:Int):=by rw[As oo oo];omega
   unfold Gl;dsimp only;rw[jn_d,if_pos oo,w1,i1,Ad,i0,Ad,Ayj,Ad]
   by_cases c:decide (cmp2 x y<0)=true
   ·have e1:(A++y::x::R).set (A.length+1) y=A++y::y::R:=by simp[List.set_append]
    have e2:(A++y::y::R).set A.length x=A++x::y::R:=by simp[List.set_append]
    have j0:∃ z,idx (A++y::y::R) (A.length:Int)=some z:=⟨_,(Akd A y y R).1⟩;obtain⟨z,j0⟩:=j0;dsimp only;rw[if_pos c,if_pos c,Ad,Ad,Ad,Xs,e1,j0,Ad,Xs,e2]
   ·dsimp only;rw[if_neg c,if_neg c])
  (fun x R=>by
   unfold Gl;dsimp only;rw[jn_d,if_neg oo];dsimp only;rw[if_neg s_])
  hp
  (fun l k hk=>by
   unfold Hl;dsimp only;rw[if_pos oo,jn_d,show w64 ((k:Int)+1)=((k+1:Nat):Int) from by rw[As oo oo];omega])
  (fun l=>by
   unfold Hl;dsimp only;rw[if_neg oo])
 obtain⟨r,h1,h2,h3⟩:=this;have e:r=Az cmp2 (l.map prL):=Abp tot2 (fun x hx=>hs x (h2.mem_iff.1 hx)) (h3.imp fun h=>by simpa using h) (Na tot2 hs) (h2.trans (Du _ _).symm);unfold La;rw[jn_d,ht,Ad,hR];dsimp only;rw[jn_d,h1,Ad,e]
theorem Agt(hv:Cc v)(hn:v.length<=1024)(hL:L.length<=1000000)(hLs:Lines v L)(hfl:¬ Aao v)(hM:Mesh v L m):∃ T,Cv v L=some T/\Add v m T:=by
 unfold Cv;rw[jn_d];have c:¬ v.length<3:=fun c=>hfl fun i j k hi hj hk=>by
  unfold inN at hi hj hk;have:i=j\/j=k\/i=k:=oo;rcases this with rfl | rfl | rfl
  ·exact Yh _ _
  ·exact Bo _ _
  ·exact Bv _ _
 rw[if_neg oo];obtain⟨x,f1,f2⟩:=Ar6 hv hn;rw[f1,Ad];dsimp only;have hx:¬ x=true:=fun g=>hfl ((Al7 hv oo).1 (f2.1 g))
 rw[if_neg hx];obtain⟨f,hf,low⟩:=Aug hv hn oo;obtain⟨b,b1,b2,b3,b4⟩:=As5 hv hn hf low oo;obtain⟨e,he⟩:=Asb hv hM hf low b2 b3 b4;obtain⟨out,o1,o2,o3,o4⟩:=Afv hv hn hL hLs hM ⟨hf,b2,.inr ⟨e,he⟩⟩ ⟨e,he⟩;obtain⟨r,r1,r2,r3⟩:=Aoa out oo;rw[first_eq hn hf low,Ad,b1,Ad,jn_d,o1,Ad];dsimp only;rw[r1,Ad];exact⟨r,rfl,r3,r2.nodup_iff.2 o2,fun t=>by rw[r2.mem_iff];exact o4 t⟩
theorem Vi(hv:Cc v)(hn:v.length<=1024)(hfl:Aao v):Cv v L=some []:=by
 unfold Cv;rw[jn_d]
 by_cases c:v.length<3
 ·rw[if_pos oo];dsimp only;rw[if_pos rfl]
 ·rw[if_neg oo];obtain⟨x,f1,f2⟩:=Ar6 hv hn;rw[f1,Ad];dsimp only;rw[if_pos (f2.2 ((Al7 hv oo).2 hfl))]
theorem Zi(h:Ny v=0)(hl:l.length<=1000000)(h1:Oa v l=0):
  ∃ T,Ic v l=some (⟨v,T,Az cmp2 (l.map prL)⟩,0)/\Cd v l=some (⟨v,T,Az cmp2 (l.map prL)⟩,0)/\Cv v (Az cmp2 (l.map prL))=some T/\((Aao v/\T=[])\/(¬ Aao v/\∃ m,Mesh v (Az cmp2 (l.map prL)) m/\Add v m T)):=by
 obtain⟨hn,_,hv⟩:=Sg h;have hE:Lin1 v l/\Lin2 v l:=by
  unfold Oa at h1
  by_cases c1:Lin1 v l
  ·rw[if_pos c1] at h1
   by_cases c2:Lin2 v l
   ·exact⟨c1,c2⟩
   ·rw[if_neg c2] at h1;cases h1
  ·rw[if_neg c1] at h1;cases h1
 have hLs:=Ahz hv hE.1 hE.2;have sm:∀ s∈l.map prL,Ob s:=fun s hs=>by
  obtain⟨⟨k1,k2,_⟩,_⟩:=hLs.ok s (Ia.2 hs);exact Abq hn k1 k2
 have hlen:(Az cmp2 (l.map prL)).length<=1000000:=by rw[(Du _ _).length_eq];simp;omega
 obtain⟨T,t1,t2⟩:=Anj h hl hE.1 hE.2;have go:Cv v (Az cmp2 (l.map prL))=some T->Cd v l=some (⟨v,T,Az cmp2 (l.map prL)⟩,0):=fun g=>by
  unfold Cd;rw[Adz hl,if_pos h,h1,Ad,if_pos rfl,jn_d,Auh v hn,Ad,Ags hl sm];dsimp only;rw[Ad,g,Ad]
 rcases t2 with⟨f,rfl⟩|⟨f,m,hM,rfl⟩
 ·exact⟨_,t1,go (Vi hv hn f),Vi hv hn f,.inl ⟨f,rfl⟩⟩
 ·obtain⟨T',e1,e2⟩:=Agt hv hn hlen hLs f hM;have hT:=Aui (v:=v) hM.map;rw[e2.unique hT] at e1;exact⟨_,t1,go e1,e1,.inr ⟨f,m,hM,hT⟩⟩
theorem Agu(hl:l.length<=1000000)(h:Ny v=0)(h1:Oa v l≠0):Cd v l=some (⟨[],[],[]⟩,Oa v l):=by
 unfold Cd;rw[Adz hl,if_pos h,Ad,if_neg h1]
end
section
variable {v:List Ac} {l:List Ab} {m:Mp} {T:List Ag}
theorem Ae2:Oa v l=0↔Lin1 v l/\Lin2 v l:=by
 unfold Oa
 by_cases c1:Lin1 v l
 ·rw[if_pos c1]
  by_cases c2:Lin2 v l
  ·rw[if_pos c2];exact⟨fun _=>⟨c1,c2⟩,fun _=>rfl⟩
  ·rw[if_neg c2];exact⟨fun h=>(by cases h),fun h=>absurd h.2 c2⟩
 ·rw[if_neg c1];exact⟨fun h=>(by cases h),fun h=>absurd h.1 c1⟩
theorem Bbp{s:Ab}(h:s.a0<=s.a1):prL s=s:=by
 obtain⟨x,y⟩:=s;unfold prL pr2;dsimp only at h ⊢;rw[Int.min_eq_left h,Int.max_eq_right h]
theorem Ayk{L:List Ab}(h:∀ s∈L,s.a0<=s.a1):L.map prL=L:=by
 induction L with
 | nil=>rfl
 | cons x r ih=>rw[List.map_cons,Bbp (h x s_),ih (fun s hs=>h s (by simp[hs]))]
theorem Al8(hv:Cc v)(hn:v.length<=1024)(h:Oa v l=0):Oa v (Az cmp2 (l.map prL))=0/\Az cmp2 ((Az cmp2 (l.map prL)).map prL)=Az cmp2 (l.map prL)/\(Az cmp2 (l.map prL)).length=l.length:=by
 obtain⟨h1,h2⟩:=Ae2.1 h;have hL:=Ahz hv h1 h2;have hm:=Ayk (fun s hs=>(hL.ok s hs).2);have sm:∀ s∈Az cmp2 (l.map prL),Ob s:=fun s hs=>by
  obtain⟨⟨k1,k2,_⟩,_⟩:=hL.ok s hs;exact Abq hn k1 k2
 have sm':∀ s∈l.map prL,Ob s:=fun s hs=>sm s (Ia.2 hs)
 refine⟨Ae2.2 ⟨⟨fun s hs=>(hL.ok s hs).1,by rw[hm];exact hL.nd⟩,fun s hs k hk g=>?_,?_⟩,?_,by rw[(Du _ _).length_eq,List.length_map]⟩
 ·exact hL.free s hs k hk (fun e=>g.2.1 (by rw[e];exact⟨rfl,rfl⟩)) (fun e=>g.2.2 (by rw[e];exact⟨rfl,rfl⟩)) g.1
 ·exact List.Pairwise.imp_of_mem (fun {a b} ha hb hne=>hL.apart a ha b hb hne) hL.nd
 ·rw[hm];exact Abp tot2 (fun s hs=>sm s (Ia.1 hs)) (Na tot2 sm) (Na tot2 sm') (Du _ _)
theorem Asc{T:List Ag}(h:T.length<=100000000):Bz T T=some true:=by
 have e:lfix (Bi T T) 0=some (.inl ()):=by
  rw[Aaq (β:=Unit) (γ:=Bool) T (fun _=>true) (Bi T T) () false (fun j hj=>?_) ?_]
  ·simp
  ·unfold Bi;rw[if_neg oo]
  ·unfold Bi;rw[if_pos oo,At hj,Ad,Ad,if_pos s_,if_pos rfl,Bd oo]
 unfold Bz;rw[if_pos rfl,jn_d,e,Ad]
theorem Asd{L:List Ab}(h:L.length<=100000000):Ca L L=some true:=by
 have e:lfix (Bj L L) 0=some (.inl ()):=by
  rw[Aaq (β:=Unit) (γ:=Bool) L (fun _=>true) (Bj L L) () false (fun j hj=>?_) ?_]
  ·simp
  ·unfold Bj;rw[if_neg oo]
  ·unfold Bj;rw[if_pos oo,At hj,Ad,Ad,if_pos s_,if_pos rfl,Bd oo]
 unfold Ca;rw[if_pos rfl,jn_d,e,Ad]
theorem Add.len(hn:v.length<=1024){L:List Ab}(hM:Mesh v L m)(h:Add v m T):T.length<=1048576:=by
 have hsq:=Ace hn;have:=Afn hM.tri (fun t ht=>(h.mem t).1 ht) h.nd;omega
theorem Ae3(h:Ny v=0)(hl:l.length<=1000000)(h1:Oa v l=0):
  ∃ T,Ic v l=some (⟨v,T,Az cmp2 (l.map prL)⟩,0)/\Cd v l=some (⟨v,T,Az cmp2 (l.map prL)⟩,0)/\T.length<=1048576/\Ig ⟨v,T,Az cmp2 (l.map prL)⟩=some 0/\Ic v (Az cmp2 (l.map prL))=some (⟨v,T,Az cmp2 (l.map prL)⟩,0)/\Cd v (Az cmp2 (l.map prL))=some (⟨v,T,Az cmp2 (l.map prL)⟩,0)/\((Aao v/\T=[])\/(¬ Aao v/\∃ m,Mesh v (Az cmp2 (l.map prL)) m/\Add v m T)):=by
 obtain⟨hn,_,hv⟩:=Sg h;obtain⟨g1,g2,g3⟩:=Al8 hv hn h1;obtain⟨T,e1,e2,e3,e4⟩:=Zi h hl h1;obtain⟨T',f1,f2,f3,_⟩:=Zi (l:=Az cmp2 (l.map prL)) h oo g1;rw[g2] at f1 f2 f3;have:T'=T:=Option.some.inj (f3.symm.trans e3);subst this;have hT:T'.length<=1048576:=by
  rcases e4 with⟨_,rfl⟩|⟨_,m,hM,hT⟩
  ·simp
  ·exact hT.len hn hM
 refine⟨T',e1,e2,hT,?_,f1,f2,e4⟩;unfold Ig;dsimp only;rw[f1,Ad,jn_d];dsimp only;rw[if_pos rfl,Asc oo,Ad,if_pos rfl,Asd oo,Ad];rfl
theorem Agv(h:Ny v≠0):Ic v l=some (⟨[],[],[]⟩,Ny v):=by
 unfold Ic;rw[Aap,Ad,if_neg h]
end
instance:Te prog 162 [iq 0,iq 0,iq 0,iq 0,iq 0,iq 0]:=⟨⟨_,zeroValue162,rfl⟩⟩
instance:ArrI prog 162 3 2:=⟨.mk underlying162 (show prog.info? 57=some t57 from by kernel_rfl) kr⟩
instance:AggI prog 162 6:=⟨.arr underlying162 (show prog.info? 162=some t162 from by kernel_rfl) kr⟩
instance:OneI prog 9:=⟨.mk underlying9 rfl (show prog.info? 9=some Tryz.t9 from by kernel_rfl) kr⟩
theorem Auj:Rj prog 219 [.int .u64 0,.int .u64 0]:=⟨_,zeroValue219,rfl⟩
instance:Te prog 219 [.int .u64 0,.int .u64 0]:=⟨Auj⟩
theorem Al9:Mo prog 219 1 1:=.mk underlying219 rfl rfl (show prog.info? 167=some t167 from by kernel_rfl) (show t167.size=1 from by kernel_rfl) rfl
instance:Cm prog 219 1 1:=⟨Al9⟩
theorem Aoc:Tl prog 167:=.mk underlying167 rfl (show prog.info? 167=some t167 from by kernel_rfl) kr
instance:OneI prog 167:=⟨Aoc⟩
theorem Ama:Mo prog 219 0 0:=.mk underlying219 rfl rfl (show prog.info? 167=some t167 from by kernel_rfl) (show t167.size=1 from by kernel_rfl) rfl
instance:Cm prog 219 0 0:=⟨Ama⟩
theorem Afw(x0:Int)(x1:Int):Wv prog 219 [(0,.int .u64 x0),(1,.int .u64 x1)] [.int .u64 x0,.int .u64 x1]:=fun w=>kr
theorem Aod:Rw prog 219 2:=.mk underlying219 rfl (show prog.info? 219=some t219 from by kernel_rfl) kr
instance:AggI prog 219 2:=⟨Aod⟩
theorem Bav:Rj prog 28 [iq 0,iq 0]:=⟨_,zeroValue28,rfl⟩
instance:Te prog 28 [iq 0,iq 0]:=⟨Bav⟩
instance(x0:Int)(x1:Int):Le prog 28 [(0,iq x0),(1,iq x1)] [iq x0,iq x1]:=⟨fun w=>kr⟩
theorem Auk  : Wv prog 28 [] [iq 0,iq 0]:=fun w=>kr
instance:Le prog 28 [] [iq 0,iq 0]:=⟨Auk⟩
noncomputable def Gg(p0:Aa)(p1:Aa)(p2:Aa):Option Int :=
 some (w64 ((w64 ((w64 (p1.X-p0.X))*(w64 (p2.Y-p0.Y))))-(w64 ((w64 (p1.Y-p0.Y))*(w64 (p2.X-p0.X))))))
noncomputable def Jx(p0:Ac):Option Aa :=
 some (⟨p0.X,p0.Y⟩:Aa)
structure Ab4 where
 a0:Aa
 a1:Aa
 a2:Aa
theorem Aul(x0:Int)(x1:Int)(x2:Int):Akg prog 101 [iq x0,iq x1,iq x2]:=by
 intro j h k w;have h':j<3:=h
 match j,h,h' with
 | 0,_,_=>exact (show (Instr.index 101 (.agg ([.int .i64 x0,.int .i64 x1,.int .i64 x2]:List Value).toArray) (.int k ((0:Nat):Int))).run prog w = .ok (.int .i64 x0) w by kernel_rfl)
 | 1,_,_=>exact (show (Instr.index 101 (.agg ([.int .i64 x0,.int .i64 x1,.int .i64 x2]:List Value).toArray) (.int k ((1:Nat):Int))).run prog w = .ok (.int .i64 x1) w by kernel_rfl)
 | 2,_,_=>exact (show (Instr.index 101 (.agg ([.int .i64 x0,.int .i64 x1,.int .i64 x2]:List Value).toArray) (.int k ((2:Nat):Int))).run prog w = .ok (.int .i64 x2) w by kernel_rfl)
instance(x0:Int)(x1:Int)(x2:Int):Aw4 prog 101 [iq x0,iq x1,iq x2]:=⟨Aul _ _ _⟩
instance(x0:Int)(x1:Int)(x2:Int):Arj prog 101 [iq x0,iq x1,iq x2] (Value.int .i64) [x0,x1,x2]:=⟨Aul _ _ _⟩
noncomputable def Lu(p0:Ao)(p1:Int):Option Ab4 :=
 bnd (idx p0.T p1) fun x4=>
 bnd (idx p0.V x4.a0) fun x0=>
 bnd (Jx x0) fun r0=>
 bnd (idx p0.V x4.a1) fun x1=>
 bnd (Jx x1) fun r1=>
 bnd (idx p0.V x4.a2) fun x2=>
 bnd (Jx x2) fun r2=>
 some (⟨r0,r1,r2⟩:Ab4)
noncomputable def Mh(p0:Ao)(p1:Aa):Int->Option (Sum Int (Sum Unit Int)):=fun s0=>
 if s0<(p0.T.length:Int) then (bnd (Lu p0 s0) fun r0=>
 jn (fun (s1:Bool)=>
 if s1=true then (some (.inr (.inr s0)))
 else (some (.inl (w64 (s0+1)))))
 (fun j0=>bnd (Gg (⟨r0.a0.X,r0.a0.Y⟩:Aa) (⟨r0.a1.X,r0.a1.Y⟩:Aa) p1) fun r1=>
 if 0<=r1 then (bnd (Gg (⟨r0.a1.X,r0.a1.Y⟩:Aa) (⟨r0.a2.X,r0.a2.Y⟩:Aa) p1) fun r2=>
 if 0<=r2 then (bnd (Gg (⟨r0.a2.X,r0.a2.Y⟩:Aa) (⟨r0.a0.X,r0.a0.Y⟩:Aa) p1) fun r3=>
 j0 (decide (0<=r3)))
 else (j0 false))
 else (j0 false)))
 else (some (.inr (.inl ())))
noncomputable def Nk(p0:Ao)(p1:Aa):Option Int :=
 jn (fun (s2:Unit)=>
 some (-1))
 (fun j2=>bnd (lfix (Mh p0 p1) 0) fun t0=>
 (match t0 with
 | (.inl z0)=>j2 z0
 | (.inr z0)=>some z0
 ))
noncomputable def Hb(p0:Int)(p1:Int):Option (Int × Int):=
 some (wu64 ((wu64 ((wu64 ((shr_ .u64 p0 32)*(shr_ .u64 p1 32)))+(shr_ .u64 (wu64 ((wu64 ((shr_ .u64 p0 32)*(Dx .u64 p1 4294967295)))+(shr_ .u64 (wu64 ((Dx .u64 p0 4294967295)*(Dx .u64 p1 4294967295))) 32))) 32)))+(shr_ .u64 (wu64 ((Dx .u64 (wu64 ((wu64 ((shr_ .u64 p0 32)*(Dx .u64 p1 4294967295)))+(shr_ .u64 (wu64 ((Dx .u64 p0 4294967295)*(Dx .u64 p1 4294967295))) 32))) 4294967295)+(wu64 ((Dx .u64 p0 4294967295)*(shr_ .u64 p1 32))))) 32)),wu64 (p0*p1))
instance:UndI prog 5 (.int .u8):=⟨underlying5⟩
def Mu:List Int:=[0,1,2,2,3,3,3,3,4,4,4,4,4,4,4,4,5,5,5,5,5,5,5,5,5,5,5,5,5,5,5,5,6,6,6,6,6,6,6,6,6,6,6,6,6,6,6,6,6,6,6,6,6,6,6,6,6,6,6,6,6,6,6,6,7,7,7,7,7,7,7,7,7,7,7,7,7,7,7,7,7,7,7,7,7,7,7,7,7,7,7,7,7,7,7,7,7,7,7,7,7,7,7,7,7,7,7,7,7,7,7,7,7,7,7,7,7,7,7,7,7,7,7,7,7,7,7,7,8,8,8,8,8,8,8,8,8,8,8,8,8,8,8,8,8,8,8,8,8,8,8,8,8,8,8,8,8,8,8,8,8,8,8,8,8,8,8,8,8,8,8,8,8,8,8,8,8,8,8,8,8,8,8,8,8,8,8,8,8,8,8,8,8,8,8,8,8,8,8,8,8,8,8,8,8,8,8,8,8,8,8,8,8,8,8,8,8,8,8,8,8,8,8,8,8,8,8,8,8,8,8,8,8,8,8,8,8,8,8,8,8,8,8,8,8,8,8,8,8,8,8,8,8,8,8,8]
noncomputable def Lv(p0:Int):Option Int :=
 jn (fun (s2:Int × Int)=>
 jn (fun (s5:Int × Int)=>
 jn (fun (s8:Int × Int)=>
 bnd (idx Mu (wu8 s8.1)) fun x0=>
 some (w64 (s8.2+(w64 x0))))
 (fun j8=>if 256<=s5.1 then (j8 (shr_ .u64 s5.1 8,w64 (s5.2+8)))
 else (j8 (s5.1,s5.2))))
 (fun j5=>if 65536<=s2.1 then (j5 (shr_ .u64 s2.1 16,w64 (s2.2+16)))
 else (j5 (s2.1,s2.2))))
 (fun j2=>if 4294967296<=p0 then (j2 (shr_ .u64 p0 32,32))
 else (j2 (p0,0)))
noncomputable def Fj(p0:Int):Option Int :=
 bnd (Lv p0) fun r1=>
 some (w64 (64-r1))
instance:UndI prog 144 (.int .u64):=⟨underlying144⟩
noncomputable def Nd(p2:Int)(r0:Int)(p1:Int):(Int × Int)->Option (Sum (Int × Int) Int):=fun s0=>
 jn (fun (s1:Bool)=>
 if s1=true then (if 4294967296<=(wu64 (s0.2+(shr_ .u64 (shl_ .u64 p2 (wu64 r0)) 32))) then (some (.inr (wu64 (s0.1-1))))
 else (some (.inl (wu64 (s0.1-1),wu64 (s0.2+(shr_ .u64 (shl_ .u64 p2 (wu64 r0)) 32))))))
 else (some (.inr s0.1)))
 (fun j0=>if 4294967296<=s0.1 then (j0 true)
 else (j0 (decide ((wu64 ((wu64 (4294967296*s0.2))+(shr_ .u64 (shl_ .u64 p1 (wu64 r0)) 32)))<(wu64 (s0.1*(Dx .u64 (shl_ .u64 p2 (wu64 r0)) 4294967295)))))))
noncomputable def Nf(p2:Int)(r0:Int)(p1:Int):(Int × Int)->Option (Sum (Int × Int) Int):=fun s0=>
 jn (fun (s1:Bool)=>
 if s1=true then (if 4294967296<=(wu64 (s0.1+(shr_ .u64 (shl_ .u64 p2 (wu64 r0)) 32))) then (some (.inr (wu64 (s0.2-1))))
 else (some (.inl (wu64 (s0.1+(shr_ .u64 (shl_ .u64 p2 (wu64 r0)) 32)),wu64 (s0.2-1)))))
 else (some (.inr s0.2)))
 (fun j0=>if 4294967296<=s0.2 then (j0 true)
 else (j0 (decide ((wu64 ((wu64 (4294967296*s0.1))+(Dx .u64 (shl_ .u64 p1 (wu64 r0)) 4294967295)))<(wu64 (s0.2*(Dx .u64 (shl_ .u64 p2 (wu64 r0)) 4294967295)))))))
noncomputable def Pe(p0:Int)(p1:Int)(p2:Int):Option (Int × Int):=
 if p2=0 then none
 else (if p2<=p0 then none
 else (if p0=0 then (gd (p2≠0)<|
 gd (p2≠0)<|
 some (wu64 (Int.tdiv p1 p2),Int.tmod p1 p2))
 else (bnd (Fj p2) fun r0=>
 gd (0<=(wu64 r0))<|
 gd (0<=(wu64 r0))<|
 gd (0<=(wu64 (64-(wu64 r0))))<|
 gd (0<=(wu64 r0))<|
 gd ((shr_ .u64 (shl_ .u64 p2 (wu64 r0)) 32)≠0)<|
 jn (fun (s0:Int)=>
 gd ((shr_ .u64 (shl_ .u64 p2 (wu64 r0)) 32)≠0)<|
 jn (fun (s1:Int)=>
 gd (0<=(wu64 r0))<|
 some (wu64 ((wu64 (s0*4294967296))+s1),shr_ .u64 (wu64 ((wu64 ((wu64 ((wu64 ((wu64 ((wu64 ((Uk .u64 (shl_ .u64 p0 (wu64 r0)) (shr_ .u64 p1 (wu64 (64-(wu64 r0)))))*4294967296))+(shr_ .u64 (shl_ .u64 p1 (wu64 r0)) 32)))-(wu64 (s0*(shl_ .u64 p2 (wu64 r0))))))*4294967296))+(Dx .u64 (shl_ .u64 p1 (wu64 r0)) 4294967295)))-(wu64 (s1*(shl_ .u64 p2 (wu64 r0)))))) (wu64 r0)))
 (fun j0=>bnd (lfix (Nf p2 r0 p1) (wu64 ((wu64 ((wu64 ((wu64 ((Uk .u64 (shl_ .u64 p0 (wu64 r0)) (shr_ .u64 p1 (wu64 (64-(wu64 r0)))))*4294967296))+(shr_ .u64 (shl_ .u64 p1 (wu64 r0)) 32)))-(wu64 (s0*(shl_ .u64 p2 (wu64 r0))))))-(wu64 ((wu64 (Int.tdiv (wu64 ((wu64 ((wu64 ((Uk .u64 (shl_ .u64 p0 (wu64 r0)) (shr_ .u64 p1 (wu64 (64-(wu64 r0)))))*4294967296))+(shr_ .u64 (shl_ .u64 p1 (wu64 r0)) 32)))-(wu64 (s0*(shl_ .u64 p2 (wu64 r0)))))) (shr_ .u64 (shl_ .u64 p2 (wu64 r0)) 32)))*(shr_ .u64 (shl_ .u64 p2 (wu64 r0)) 32)))),wu64 (Int.tdiv (wu64 ((wu64 ((wu64 ((Uk .u64 (shl_ .u64 p0 (wu64 r0)) (shr_ .u64 p1 (wu64 (64-(wu64 r0)))))*4294967296))+(shr_ .u64 (shl_ .u64 p1 (wu64 r0)) 32)))-(wu64 (s0*(shl_ .u64 p2 (wu64 r0)))))) (shr_ .u64 (shl_ .u64 p2 (wu64 r0)) 32)))) fun t0=>
 j0 t0))
 (fun j1=>bnd (lfix (Nd p2 r0 p1) (wu64 (Int.tdiv (Uk .u64 (shl_ .u64 p0 (wu64 r0)) (shr_ .u64 p1 (wu64 (64-(wu64 r0))))) (shr_ .u64 (shl_ .u64 p2 (wu64 r0)) 32)),wu64 ((Uk .u64 (shl_ .u64 p0 (wu64 r0)) (shr_ .u64 p1 (wu64 (64-(wu64 r0)))))-(wu64 ((wu64 (Int.tdiv (Uk .u64 (shl_ .u64 p0 (wu64 r0)) (shr_ .u64 p1 (wu64 (64-(wu64 r0))))) (shr_ .u64 (shl_ .u64 p2 (wu64 r0)) 32)))*(shr_ .u64 (shl_ .u64 p2 (wu64 r0)) 32)))))) fun t1=>
 j1 t1))))
structure Gh where
 hi:Int
 lo:Int
theorem Aeb{x y c:Int}(h:(((0:Int)<=x/\(0:Int)<=y)/\(0:Int)<=c/\c<=(1:Int)))(w:World):(callFunc 239 #[.int .u64 x,.int .u64 y,.int .u64 c]).run prog w = .ok (.value (.tuple #[.int .u64 ((x+y+c) % 18446744073709551616),.int .u64 ((x+y+c) / 18446744073709551616)])) w:=by
 rw[run_callFunc_extern func239 kr kr kr (e:=add64Entry) kr,run_add64 x y c h.1.1 h.1.2 h.2.1 h.2.2];rfl
instance{x y c:Int}:ExtI prog 239 [.int .u64 x,.int .u64 y,.int .u64 c] (((0:Int)<=x/\(0:Int)<=y)/\(0:Int)<=c/\c<=(1:Int)) (.tuple [.int .u64 ((x+y+c) % 18446744073709551616),.int .u64 ((x+y+c) / 18446744073709551616)].toArray):=⟨fun h w=>Aeb h w⟩
noncomputable def Fc(p0:Gh)(p1:Int)(p2:Int):Option Gh :=
 bnd (Hb (wu64 p1) (wu64 p2)) fun r3=>
 gd ((((0:Int)<=p0.lo/\(0:Int)<=r3.2)/\(0:Int)<=0/\0<=(1:Int)))<|
 gd ((((0:Int)<=p0.hi/\(0:Int)<=r3.1)/\(0:Int)<=((p0.lo+r3.2+0) / 18446744073709551616)/\((p0.lo+r3.2+0) / 18446744073709551616)<=(1:Int)))<|
 some (⟨(p0.hi+r3.1+((p0.lo+r3.2+0) / 18446744073709551616)) % 18446744073709551616,(p0.lo+r3.2+0) % 18446744073709551616⟩:Gh)
noncomputable def Mv(p0:Ag)(p1:Ag):Option (Int × Int):=
 bnd (Fc (⟨0,0⟩:Gh) p0.a0 (w64 (p1.a0-(min (min p1.a0 p1.a1) p1.a2)))) fun r4=>
 bnd (Fc r4 p0.a1 (w64 (p1.a1-(min (min p1.a0 p1.a1) p1.a2)))) fun r7=>
 bnd (Fc r7 p0.a2 (w64 (p1.a2-(min (min p1.a0 p1.a1) p1.a2)))) fun r0=>
 bnd (Pe r0.hi r0.lo (wu64 (w64 ((w64 (p0.a0+p0.a1))+p0.a2)))) fun r1=>
 if 0<r1.2 then (some (w64 ((min (min p1.a0 p1.a1) p1.a2)+(w64 r1.1)),w64 ((w64 ((min (min p1.a0 p1.a1) p1.a2)+(w64 r1.1)))+1)))
 else (some (w64 ((min (min p1.a0 p1.a1) p1.a2)+(w64 r1.1)),w64 ((min (min p1.a0 p1.a1) p1.a2)+(w64 r1.1))))
noncomputable def Nl(p0:Ao)(p1:Int)(p2:Aa):Option Av :=
 bnd (Lu p0 p1) fun r4=>
 bnd (Gg (⟨r4.a1.X,r4.a1.Y⟩:Aa) (⟨r4.a2.X,r4.a2.Y⟩:Aa) p2) fun r8=>
 bnd (Gg (⟨r4.a2.X,r4.a2.Y⟩:Aa) (⟨r4.a0.X,r4.a0.Y⟩:Aa) p2) fun r0=>
 bnd (Gg (⟨r4.a0.X,r4.a0.Y⟩:Aa) (⟨r4.a1.X,r4.a1.Y⟩:Aa) p2) fun r1=>
 bnd (idx p0.T p1) fun x0=>
 jn (fun (s9:Int × Int)=>
 jn (fun (s0:Int × Int)=>
 jn (fun (s1:Int × Int)=>
 bnd (Mv (⟨r8,r0,r1⟩:Ag) (⟨s9.1,s0.1,s1.1⟩:Ag)) fun r2=>
 bnd (Mv (⟨r8,r0,r1⟩:Ag) (⟨s9.2,s0.2,s1.2⟩:Ag)) fun r3=>
 some (⟨r2.1,r3.2⟩:Av))
 (fun j0=>bnd (idx p0.V x0.a2) fun x1=>
 bnd (idx p0.V x0.a2) fun x2=>
 j0 (x1.Z.Lo,x2.Z.Hi)))
 (fun j1=>bnd (idx p0.V x0.a1) fun x3=>
 bnd (idx p0.V x0.a1) fun x4=>
 j1 (x3.Z.Lo,x4.Z.Hi)))
 (fun j9=>bnd (idx p0.V x0.a0) fun x5=>
 bnd (idx p0.V x0.a0) fun x6=>
 j9 (x5.Z.Lo,x6.Z.Hi))
noncomputable def Uz(p0:Av)(p1:Av):Option Int :=
 some (max (max 0 (w64 (p0.Lo-p1.Hi))) (w64 (p1.Lo-p0.Hi)))
noncomputable def Qw(p0:Int)(p1:Int)(p2:Int):Option Bool :=
 bnd (Hb (wu64 ((wu64 p0)*(wu64 p0))) 1000000) fun r1=>
 bnd (Hb (wu64 ((wu64 p2)*(wu64 p2))) (wu64 p1)) fun r4=>
 jn (fun (s4:Bool)=>
 some s4)
 (fun j4=>if r1.1<r4.1 then (j4 true)
 else (if r1.1=r4.1 then (j4 (decide (r1.2<=r4.2)))
 else (j4 false)))
noncomputable def Pu(x0:Ag)(p0:Ao)(p1:Ae)(p2:Am)(r7:Int):Int->Option (Sum Int (Sum Unit (Int × Bool × Int))):=fun s0=>
 if s0<3 then (bnd (idx [x0.a0,x0.a1,x0.a2] s0) fun x1=>
 bnd (idx p0.V x1) fun x2=>
 bnd (Uz p1.Z x2.Z) fun r0=>
 bnd (Cu p1) fun r1=>
 bnd (Jx x2) fun r2=>
 bnd (Kt r1 r2) fun r3=>
 bnd (Qw r0 r3 p2.Slope) fun r4=>
 if r4=true then (some (.inl (w64 (s0+1))))
 else (some (.inr (.inr (r7,false,0)))))
 else (some (.inr (.inl ())))
noncomputable def Vj(p0:Ao)(p1:Ae)(p2:Am):Option (Int × Bool × Int):=
 bnd (Cu p1) fun r4=>
 bnd (Nk p0 r4) fun r7=>
 if r7<0 then (some (r7,false,0))
 else (bnd (Cu p1) fun r0=>
 bnd (Nl p0 r7 r0) fun r1=>
 bnd (Uz p1.Z r1) fun r2=>
 if p2.Reach<r2 then (some (r7,false,0))
 else (jn (fun (s0:Unit)=>
 some (r7,true,r2))
 (fun j0=>bnd (idx p0.T r7) fun x0=>
 bnd (lfix (Pu x0 p0 p1 p2 r7) 0) fun t0=>
 (match t0 with
 | (.inl z0)=>j0 z0
 | (.inr z0)=>some z0
 ))))
noncomputable def Vk(p0:Ao)(p1:Ae)(p2:Am):Option (Bool × Int × Int):=
 bnd (Kc p2) fun r4=>
 if r4=true then (bnd (Hq p1) fun r0=>
 if r0=true then (bnd (Ig p0) fun r1=>
 if r1=0 then (bnd (Vj p0 p1 p2) fun r2=>
 some (r2.2.1,r2.2.2,0))
 else (some (false,0,64)))
 else (some (false,0,70)))
 else (some (false,0,71))
noncomputable def Vl(p0:Ao)(p1:Ae):Option (Av × Bool):=
 bnd (Cu p1) fun r4=>
 bnd (Nk p0 r4) fun r7=>
 if r7<0 then (some ((⟨0,0⟩:Av),false))
 else (bnd (Cu p1) fun r0=>
 bnd (Nl p0 r7 r0) fun r1=>
 some ((⟨w64 (p1.Z.Lo-r1.Hi),w64 (p1.Z.Hi-r1.Lo)⟩:Av),true))
noncomputable def Vm(p0:Ao)(p1:Ae):Option (Av × Bool × Int):=
 bnd (Hq p1) fun r4=>
 if r4=true then (bnd (Ig p0) fun r0=>
 if r0=0 then (bnd (Vl p0 p1) fun r1=>
 some (r1.1,r1.2,0))
 else (some ((⟨0,0⟩:Av),false,64)))
 else (some ((⟨0,0⟩:Av),false,70))
instance(p0:Aa)(p1:Aa)(p2:Aa):Con (Gg p0 p1 p2) prog 133 (fun _ vs=>vs=[.agg #[iq p0.X,iq p0.Y],.agg #[iq p1.X,iq p1.Y],.agg #[iq p2.X,iq p2.Y]]) (fun _ r=>fun v Ln=>v = iq r/\Ln=[]/\True):=⟨by
 rintro _ _ r rfl hx w hK;unfold Gg at hx;refine CtS ntmps133 results133 ?_;exact au⟩
instance(p0:Ac):Con (Jx p0) prog 79 (fun _ vs=>vs=[.agg #[iq p0.X,iq p0.Y,iq p0.Z.Lo,iq p0.Z.Hi]]) (fun _ r=>fun v Ln=>v = .agg #[iq r.X,iq r.Y]/\Ln=[]/\True):=⟨by
 rintro _ _ r rfl hx w hK;unfold Jx at hx;refine CtS ntmps79 results79 ?_;exact au⟩
instance(p0:Ao)(p1:Int):Con (Lu p0 p1) prog 132 (fun K vs=>∃ U0 E0 U1 E1 U2 E2,vs=[.agg #[.slice U0 p0.V.length E0,.slice U1 p0.T.length E1,.slice U2 p0.Lines.length E2],iq p1]/\Has K U0 p0.V.length E0 4 Ai p0.V/\Has K U1 p0.T.length E1 3 Ax p0.T/\Has K U2 p0.Lines.length E2 2 Aq p0.Lines/\True) (fun _ r=>fun v Ln=>v = .agg #[iq r.a0.X,iq r.a0.Y,iq r.a1.X,iq r.a1.Y,iq r.a2.X,iq r.a2.Y]/\Ln=[]/\True):=⟨by
 rintro K _ r ⟨U0,E0,U1,E1,U2,E2,rfl,ha0,ha1,ha2,-⟩ hx w hK;replace ha0:=Has.lo ha0 hK;replace ha1:=Has.lo ha1 hK;replace ha2:=Has.lo ha2 hK;unfold Lu at hx;refine CtS ntmps132 results132 ?_;exact au⟩
instance(p0:Ao)(p1:Aa):Con (Nk p0 p1) prog 74 (fun K vs=>∃ U0 E0 U1 E1 U2 E2,vs=[.agg #[.slice U0 p0.V.length E0,.slice U1 p0.T.length E1,.slice U2 p0.Lines.length E2],.agg #[iq p1.X,iq p1.Y]]/\Has K U0 p0.V.length E0 4 Ai p0.V/\Has K U1 p0.T.length E1 3 Ax p0.T/\Has K U2 p0.Lines.length E2 2 Aq p0.Lines/\True) (fun _ r=>fun v Ln=>v = iq r/\Ln=[]/\True):=⟨by
 rintro K _ r ⟨U0,E0,U1,E1,U2,E2,rfl,ha0,ha1,ha2,-⟩ hx w hK;replace ha0:=Has.lo ha0 hK;replace ha1:=Has.lo ha1 hK;replace ha2:=Has.lo ha2 hK;unfold Nk at hx;refine CtS ntmps74 results74 ?_;try (refine pre ?_;intros;rename_i hx)
 refine Bf ?_;try (refine pre ?_;intros;rename_i hx)
 apply Jr (γ:=Unit) hx [] (fun s2 y2 f=>f) [999] (fun s2 y2 l=>l);exact kk
 ·intro s2 y2 hx;exact au
 ·intro _ hx;try (refine pre ?_;intros;rename_i hx)
  apply Lr (γ:=Unit) hx [2,3,9] (fun s0 y0 f=>(10,iq s0)::f) [0,1,999] (fun s0 y0 l=>l) ();exact kk;exact sk;intro s0 y0 x0 hx _;unfold Mh at hx;try (refine pre ?_;intros;rename_i hx)
  refine Cq1 (s:=11) hx rfl (fun _ hx=>?_) (fun _ hx=>?_)
  ·try (refine pre ?_;intros;rename_i hx)
   apply Jr (γ:=Unit) hx [2,3,5,9,10] (fun s1 y1 f=>(40,.bool s1)::f) [1,2,999] (fun s1 y1 l=>l);exact kk
   ·intro s1 y1 hx;exact au
   ·intro _ hx;exact au
  ·exact au⟩
instance Ade(p0:Int)(p1:Int):Con (Hb p0 p1) prog 135 (fun _ vs=>vs=[.int .u64 p0,.int .u64 p1]) (fun _ r=>fun v Ln=>v = .tuple #[.int .u64 r.1,.int .u64 r.2]/\Ln=[]/\True):=⟨by
 rintro _ _ r rfl hx w hK;unfold Hb at hx;refine CtS ntmps135 results135 ?_;exact au⟩
theorem Ack(p0:Int)(p1:Int){r:Int × Int}(hx:Hb p0 p1=some r)(w:World):CtL prog 135 [.int .u64 p0,.int .u64 p1] w fun v Ln=>v = .tuple #[.int .u64 r.1,.int .u64 r.2]/\Ln=[]/\True:=(Ade p0 p1).h [] _ _ rfl hx w (fun _ h=>absurd h List.not_mem_nil)
theorem Acl(p0:Int){r:Int}(hx:Lv p0=some r)(w:World):CtL prog 167 [.int .u64 p0] w fun v Ln=>v = iq r/\Ln=[]/\True:=by
 refine CtL.mk 25 func167 rfl ntmps167 kr rfl ?_;show T 25 _ [(0,.int .u64 p0)] _;unfold Lv at hx;refine Y5 ?_;refine Tj (γ:=Unit) hx (fun s2 y2=>[(0,.int .u64 s2.1),(2,iq s2.2)]) (fun s2 y2=>[]++[.old w]) (fun s2 y2=>True) (fun s2 y2 hx4 hG5=>?_) (fun j2 hx=>?_)
 ·refine Tj (γ:=Unit) hx4 (fun s5 y5=>[(0,.int .u64 s5.1),(2,iq s5.2)]) (fun s5 y5=>[]++[.old w]) (fun s5 y5=>True) (fun s5 y5 hx9 hG0=>?_) (fun j5 hx4=>?_)
  ·refine Tj (γ:=Unit) hx9 (fun s8 y8=>[(0,.int .u64 s8.1),(2,iq s8.2)]) (fun s8 y8=>[]++[.old w]) (fun s8 y8=>True) (fun s8 y8 hx0 hG1=>?_) (fun j8 hx9=>?_)
   ·refine Y4 ?_;refine Ay (Amd rfl kr underlying5) rfl ?_;obtain⟨x0,h0,hx1⟩:=Au hx0;refine Ay (Al5 (ys:=Mu) rfl rfl underlying9 kr h0) rfl ?_;refine Ay (Ae4 rfl kr underlying3) rfl ?_;refine Y5 ?_;obtain rfl:=Option.some.inj hx1;exact Jc (rs:=[.tmp 2]) results167 (.tmp rfl (.nil)) (Ln:=[]) ⟨rfl,rfl,trivial⟩ Fg (by exact .refl)
   ·refine Y6 ?_;refine Ti hx9 (s:=14) rfl (fun h2 hx5=>?_) (fun h2 hx6=>?_)
    ·refine Y4 ?_;refine Ay (Af9 rfl rfl dD) rfl ?_;refine Y8 ?_;exact Mt (shr_ .u64 s5.1 8,w64 (s5.2+8)) () hx5 trivial (by exact .refl)
    ·refine Y2 ?_;exact Mt (s5.1,s5.2) () hx6 trivial (by exact .refl)
  ·refine Y6 ?_;refine Ti hx4 (s:=8) rfl (fun h6 hx7=>?_) (fun h6 hx8=>?_)
   ·refine Y4 ?_;refine Ay (Af9 rfl rfl dD) rfl ?_;refine Y8 ?_;exact Mt (shr_ .u64 s2.1 16,w64 (s2.2+16)) () hx7 trivial (by exact .refl)
   ·refine Y2 ?_;exact Mt (s2.1,s2.2) () hx8 trivial (by exact .refl)
 ·refine Y6 ?_;refine Ti hx (s:=4) rfl (fun h1 hx2=>?_) (fun h1 hx3=>?_)
  ·refine Y4 ?_;refine Ay (Af9 rfl rfl dD) rfl ?_;refine Y6 ?_;exact Mt (shr_ .u64 p0 32,32) () hx2 trivial (by exact .refl)
  ·refine Y2 ?_;exact Mt (p0,0) () hx3 trivial (by exact .refl)
instance(p0:Int):Con (Lv p0) prog 167 (fun _ vs=>vs=[.int .u64 p0]) (fun _ r=>fun v Ln=>v = iq r/\Ln=[]/\True):=⟨by
 rintro _ _ r rfl hx w hK;exact Acl p0 hx w⟩
instance(p0:Int):Con (Fj p0) prog 240 (fun _ vs=>vs=[.int .u64 p0]) (fun _ r=>fun v Ln=>v = iq r/\Ln=[]/\True):=⟨by
 rintro _ _ r rfl hx w hK;unfold Fj at hx;refine CtS ntmps240 results240 ?_;exact au⟩
instance(p0:Int)(p1:Int)(p2:Int):Con (Pe p0 p1 p2) prog 192 (fun _ vs=>vs=[.int .u64 p0,.int .u64 p1,.int .u64 p2]) (fun _ r=>fun v Ln=>v = .tuple #[.int .u64 r.1,.int .u64 r.2]/\Ln=[]/\True):=⟨by
 rintro _ _ r rfl hx w hK;unfold Pe at hx;have:=dl 6 [0,0,0,0,0,0,2,2] [0,1,2,3,4,5,6,7];refine CtS ntmps192 results192 ?_;try (refine pre ?_;intros;rename_i hx)
 refine Cq1 (s:=20) hx rfl (fun _ hx=>?_) (fun _ hx=>?_)
 ·exact au
 ·try (refine pre ?_;intros;rename_i hx)
  refine Cq1 (s:=24) hx rfl (fun _ hx=>?_) (fun _ hx=>?_)
  ·exact au
  ·try (refine pre ?_;intros;rename_i hx)
   refine Cq1 (s:=27) hx rfl (fun _ hx=>?_) (fun _ hx=>?_)
   ·exact au
   ·try (refine pre ?_;intros;rename_i hx)
    refine Bf ?_;try (refine pre ?_;intros;rename_i hx)
    apply Jr (γ:=Unit) hx [2,8,9,10,11,13,14] (fun s0 y0 f=>(15,.int .u64 s0)::f) [999] (fun s0 y0 l=>l);exact kk
    ·intro s0 y0 hx;try (refine pre ?_;intros;rename_i hx)
     refine Bf ?_;try (refine pre ?_;intros;rename_i hx)
     refine Bf ?_;try (refine pre ?_;intros;rename_i hx)
     refine Bf ?_;try (refine pre ?_;intros;rename_i hx)
     apply Jr (γ:=Unit) hx [2,8,14,15,17] (fun s1 y1 f=>(18,.int .u64 s1)::f) [999] (fun s1 y1 l=>l);exact kk
     ·intro s1 y1 hx;exact au
     ·intro _ hx;try (refine pre ?_;intros;rename_i hx)
      apply Lr (γ:=Unit) hx [2,8,9,10,14,15,17] (fun s2 y2 f=>(16,.int .u64 s2.1)::(18,.int .u64 s2.2)::f) [999] (fun s2 y2 l=>l) ();exact kk;exact sk;intro s2 y2 x0 hx _;unfold Nf at hx;exact au
    ·intro _ hx;try (refine pre ?_;intros;rename_i hx)
     apply Lr (γ:=Unit) hx [2,8,9,10,11,13,14] (fun s3 y3 f=>(15,.int .u64 s3.1)::(16,.int .u64 s3.2)::f) [999] (fun s3 y3 l=>l) ();exact kk;exact sk;intro s3 y3 x1 hx _;unfold Nd at hx;exact au⟩
theorem Zy(p0:Gh)(p1:Int)(p2:Int){r:Gh}(hx:Fc p0 p1 p2=some r)(w:World):CtL prog 191 [.agg #[.int .u64 p0.hi,.int .u64 p0.lo],iq p1,iq p2] w fun v Ln=>v = .agg #[.int .u64 r.hi,.int .u64 r.lo]/\Ln=[]/\True:=by
 refine CtL.mk 39 func191 rfl ntmps191 kr rfl ?_;show T 39 _ [(0,.agg #[.int .u64 p0.hi,.int .u64 p0.lo]),(1,iq p1),(2,iq p2)] _;unfold Fc at hx;refine Y2 ?_;refine T_x (Qt rfl rfl rfl (fun g1=>?_));refine T_x (Gq Auj rfl (fun g2=>?_));refine Y5 ?_;refine Ay (Ym rfl kr underlying167) rfl ?_;refine Y ?_;refine Ay (Ym rfl kr underlying167) rfl ?_;obtain⟨r3,h4,hx5⟩:=Au hx;refine Tc (fun w1 hw1=>Ack (wu64 p1) (wu64 p2)  h4 w1) ?_;refine Y9 ?_;refine Ay (Ee rfl Al9 rfl) rfl ?_;refine Ay (Cg rfl (i:=1) rfl rfl Aoc) rfl ?_;refine Y ?_;obtain⟨h6,hx7⟩:=De hx5;refine Ay (Aud rfl (fun w=>Aeb h6 w)) rfl ?_;refine Y9 ?_;refine Ay (Ee rfl Ama rfl) rfl ?_;refine Ay (Cg rfl (i:=1) rfl rfl Aoc) rfl ?_;refine Y2 ?_;obtain⟨h8,hx9⟩:=De hx7;refine Ay (Aud rfl (fun w=>Aeb h8 w)) rfl ?_;refine Y11 ?_;refine Ay (Qs rfl (Afw _ _)) rfl ?_;refine T_h (Ef rfl rfl rfl (.here) (.put (.put (.done))) rfl (List.cons_ne_nil _ _) Aod.2 ?_);refine Y3 ?_;obtain rfl:=Option.some.inj hx9;exact Jc (rs:=[.cell 6 219]) results191 (.cell rfl (i:=0) rfl rfl Aod (.nil)) (Ln:=[]) ⟨rfl,rfl,trivial⟩ Fg (by exact .drop 0 rfl (.drop 0 rfl (.refl)))
instance(p0:Gh)(p1:Int)(p2:Int):Con (Fc p0 p1 p2) prog 191 (fun _ vs=>vs=[.agg #[.int .u64 p0.hi,.int .u64 p0.lo],iq p1,iq p2]) (fun _ r=>fun v Ln=>v = .agg #[.int .u64 r.hi,.int .u64 r.lo]/\Ln=[]/\True):=⟨by
 rintro _ _ r rfl hx w hK;exact Zy p0 p1 p2 hx w⟩
instance(p0:Ag)(p1:Ag):Con (Mv p0 p1) prog 134 (fun _ vs=>vs=[.agg #[iq p0.a0,iq p0.a1,iq p0.a2],.agg #[iq p1.a0,iq p1.a1,iq p1.a2]]) (fun _ r=>fun v Ln=>v = .tuple #[iq r.1,iq r.2]/\Ln=[]/\True):=⟨by
 rintro _ _ r rfl hx w hK;unfold Mv at hx;have:=dl 6 [1,0,0,1,0,0,1,0,0,2,3] [0,1,2,3,4,5,6,7,8,9,10];refine CtS ntmps134 results134 ?_;try (refine pre ?_;intros;rename_i hx)
 refine Cq1 (s:=57) hx rfl (fun _ hx=>?_) (fun _ hx=>?_)
 ·exact au
 ·exact au⟩
instance(p0:Ao)(p1:Int)(p2:Aa):Con (Nl p0 p1 p2) prog 76 (fun K vs=>∃ U0 E0 U1 E1 U2 E2,vs=[.agg #[.slice U0 p0.V.length E0,.slice U1 p0.T.length E1,.slice U2 p0.Lines.length E2],iq p1,.agg #[iq p2.X,iq p2.Y]]/\Has K U0 p0.V.length E0 4 Ai p0.V/\Has K U1 p0.T.length E1 3 Ax p0.T/\Has K U2 p0.Lines.length E2 2 Aq p0.Lines/\True) (fun _ r=>fun v Ln=>v = .agg #[iq r.Lo,iq r.Hi]/\Ln=[]/\True):=⟨by
 rintro K _ r ⟨U0,E0,U1,E1,U2,E2,rfl,ha0,ha1,ha2,-⟩ hx w hK;replace ha0:=Has.lo ha0 hK;replace ha1:=Has.lo ha1 hK;replace ha2:=Has.lo ha2 hK;unfold Nl at hx;have:=dl 2 [0,1,0,1,1,2,0,1,0,1,1,2,0,1,0,1,1,2,0,4,3] [0,1,2,3,4,6,7,8,9,10,12,13,14,15,16,5,11,17,18,19,20] [19];have:=dp 7 [0,0,0,1,0,0,0,0,1,0,2,0,0,0,0,2,0,3,0,3] (.q 0 (.q 1 (.q 2 (.q 3 (.q 4 (.q 5 (.q 6 (.q 7 (.q 8 (.q 9 (.q 11 (.q 16 (.e 10 (.q 12 (.q 13 (.q 14 (.e 15 (.e 17 (.q 18 (.e 19 (.done) (.stop))) (.stop)) (.e 17 (.e 15 (.q 18 (.e 19 (.done) (.stop))) (.stop)) (.stop)))))) (.e 17 (.e 10 (.q 12 (.q 13 (.q 14 (.e 15 (.q 18 (.e 19 (.done) (.stop))) (.stop))))) (.stop)) (.stop)))))))))))))));refine CtS ntmps76 results76 ?_;try (refine pre ?_;intros;rename_i hx)
 refine Bf ?_;try (refine pre ?_;intros;rename_i hx)
 refine Bf ?_;try (refine pre ?_;intros;rename_i hx)
 apply Jr (γ:=Nat × Nat) hx [3,6,8,43,44] (fun s9 y9 f=>(9,.pointer (some ⟨y9.2,0,none⟩))::(10,.pointer (some ⟨y9.1,0,none⟩))::f) [2,4,6,999] (fun s9 y9 l=>.m y9.1 101 [iq s9.2,iq 0,iq 0] :: .m y9.2 101 [iq s9.1,iq 0,iq 0]::l);exact kk
 ·intro s9 y9 hx;try (refine pre ?_;intros;rename_i hx)
  refine Bf ?_;try (refine pre ?_;intros;rename_i hx)
  refine Bf ?_;try (refine pre ?_;intros;rename_i hx)
  apply Jr (γ:=Nat × Nat) hx [3,6,8,43,44] (fun s0 y0 f=>(9,.pointer (some ⟨y0.2,0,none⟩))::(10,.pointer (some ⟨y0.1,0,none⟩))::f) [2,3,4,999] (fun s0 y0 l=>.m y0.1 101 [iq s9.2,iq s0.2,iq 0] :: .m y0.2 101 [iq s9.1,iq s0.1,iq 0]::l);exact kk
  ·intro s0 y0 hx;try (refine pre ?_;intros;rename_i hx)
   refine Bf ?_;try (refine pre ?_;intros;rename_i hx)
   refine Bf ?_;try (refine pre ?_;intros;rename_i hx)
   apply Jr (γ:=Nat × Nat) hx [3,6,8,43,44] (fun s1 y1 f=>(9,.pointer (some ⟨y1.2,0,none⟩))::(10,.pointer (some ⟨y1.1,0,none⟩))::f) [2,3,4,999] (fun s1 y1 l=>.m y1.1 101 [iq s9.2,iq s0.2,iq s1.2] :: .m y1.2 101 [iq s9.1,iq s0.1,iq s1.1]::l);exact kk
   ·intro s1 y1 hx;exact au
   ·intro _ hx;exact au
  ·intro _ hx;exact au
 ·intro _ hx;exact au⟩
instance(p0:Av)(p1:Av):Con (Uz p0 p1) prog 75 (fun _ vs=>vs=[.agg #[iq p0.Lo,iq p0.Hi],.agg #[iq p1.Lo,iq p1.Hi]]) (fun _ r=>fun v Ln=>v = iq r/\Ln=[]/\True):=⟨by
 rintro _ _ r rfl hx w hK;unfold Uz at hx;refine CtS ntmps75 results75 ?_;exact au⟩
instance(p0:Int)(p1:Int)(p2:Int):Con (Qw p0 p1 p2) prog 77 (fun _ vs=>vs=[iq p0,iq p1,iq p2]) (fun _ r=>fun v Ln=>v = .bool r/\Ln=[]/\True):=⟨by
 rintro _ _ r rfl hx w hK;unfold Qw at hx;refine CtS ntmps77 results77 ?_;exact au⟩
instance(p0:Ao)(p1:Ae)(p2:Am):Con (Vj p0 p1 p2) prog 34 (fun K vs=>∃ U0 E0 U1 E1 U2 E2,vs=[.agg #[.slice U0 p0.V.length E0,.slice U1 p0.T.length E1,.slice U2 p0.Lines.length E2],.agg #[iq p1.Id,iq p1.X,iq p1.Y,iq p1.Z.Lo,iq p1.Z.Hi,iq p1.Wide,iq p1.Num,iq p1.Of,iq p1.Class],.agg #[iq p2.Cell,iq p2.Reach,iq p2.Slope,iq p2.Link,iq p2.Flat,iq p2.Tall,iq p2.High,iq p2.Low,iq p2.Brush,iq p2.Few]]/\Has K U0 p0.V.length E0 4 Ai p0.V/\Has K U1 p0.T.length E1 3 Ax p0.T/\Has K U2 p0.Lines.length E2 2 Aq p0.Lines/\True) (fun _ r=>fun v Ln=>v = .tuple #[iq r.1,.bool r.2.1,iq r.2.2]/\Ln=[]/\True):=⟨by
 rintro K _ r ⟨U0,E0,U1,E1,U2,E2,rfl,ha0,ha1,ha2,-⟩ hx w hK;replace ha0:=Has.lo ha0 hK;replace ha1:=Has.lo ha1 hK;replace ha2:=Has.lo ha2 hK;unfold Vj at hx;have:=dl 1 [1,1,2,2,2] [0,1,2,3,4];have:=dl 4 [0,1,1,0,1,2,2,2,2] [0,1,2,3,4,5,6,7,8];have:=dl 11 [0,1,0,1,2,1,2,1,2,2,0,1,2,0] [0,1,2,3,5,7,10,11,4,6,8,9,12,13];refine CtS ntmps34 results34 ?_;try (refine pre ?_;intros;rename_i hx)
 refine Cq1 (s:=19) hx rfl (fun _ hx=>?_) (fun _ hx=>?_)
 ·exact au
 ·try (refine pre ?_;intros;rename_i hx)
  refine Cq1 (s:=32) hx rfl (fun _ hx=>?_) (fun _ hx=>?_)
  ·exact au
  ·try (refine pre ?_;intros;rename_i hx)
   apply Jr (γ:=Unit) hx [9,10] (fun s10 y10 f=>f) [999] (fun s10 y10 l=>l);exact kk
   ·intro s10 y10 hx;exact au
   ·intro _ hx;try (refine pre ?_;intros;rename_i hx)
    apply Lr (γ:=Unit) hx [3,4,5,9,10,38] (fun s73 y73 f=>(39,iq s73)::f) [0,1,2,999] (fun s73 y73 l=>l) ();exact kk;exact sk;intro s73 y73 x73 hx _;unfold Pu at hx;exact au⟩
instance(p0:Ao)(p1:Ae)(p2:Am):Con (Vk p0 p1 p2) prog 11 (fun K vs=>∃ U0 E0 U1 E1 U2 E2,vs=[.agg #[.slice U0 p0.V.length E0,.slice U1 p0.T.length E1,.slice U2 p0.Lines.length E2],.agg #[iq p1.Id,iq p1.X,iq p1.Y,iq p1.Z.Lo,iq p1.Z.Hi,iq p1.Wide,iq p1.Num,iq p1.Of,iq p1.Class],.agg #[iq p2.Cell,iq p2.Reach,iq p2.Slope,iq p2.Link,iq p2.Flat,iq p2.Tall,iq p2.High,iq p2.Low,iq p2.Brush,iq p2.Few]]/\Has K U0 p0.V.length E0 4 Ai p0.V/\Has K U1 p0.T.length E1 3 Ax p0.T/\Has K U2 p0.Lines.length E2 2 Aq p0.Lines/\True) (fun _ r=>fun v Ln=>v = .tuple #[.bool r.1,iq r.2.1,iq r.2.2]/\Ln=[]/\True):=⟨by
 rintro K _ r ⟨U0,E0,U1,E1,U2,E2,rfl,ha0,ha1,ha2,-⟩ hx w hK;replace ha0:=Has.lo ha0 hK;replace ha1:=Has.lo ha1 hK;replace ha2:=Has.lo ha2 hK;unfold Vk at hx;refine CtS ntmps11 results11 ?_;exact au⟩
instance(p0:Ao)(p1:Ae):Con (Vl p0 p1) prog 39 (fun K vs=>∃ U0 E0 U1 E1 U2 E2,vs=[.agg #[.slice U0 p0.V.length E0,.slice U1 p0.T.length E1,.slice U2 p0.Lines.length E2],.agg #[iq p1.Id,iq p1.X,iq p1.Y,iq p1.Z.Lo,iq p1.Z.Hi,iq p1.Wide,iq p1.Num,iq p1.Of,iq p1.Class]]/\Has K U0 p0.V.length E0 4 Ai p0.V/\Has K U1 p0.T.length E1 3 Ax p0.T/\Has K U2 p0.Lines.length E2 2 Aq p0.Lines/\True) (fun _ r=>fun v Ln=>v = .tuple #[.agg #[iq r.1.Lo,iq r.1.Hi],.bool r.2]/\Ln=[]/\True):=⟨by
 rintro K _ r ⟨U0,E0,U1,E1,U2,E2,rfl,ha0,ha1,ha2,-⟩ hx w hK;replace ha0:=Has.lo ha0 hK;replace ha1:=Has.lo ha1 hK;replace ha2:=Has.lo ha2 hK;unfold Vl at hx;have:=dl 1 [1,1,2,2,2] [0,1,2,3,4];have:=dl 4 [1,0,1,2,2,4,3] [0,1,2,3,4,5,6] [5];refine CtS ntmps39 results39 ?_;exact au⟩
instance(p0:Ao)(p1:Ae):Con (Vm p0 p1) prog 13 (fun K vs=>∃ U0 E0 U1 E1 U2 E2,vs=[.agg #[.slice U0 p0.V.length E0,.slice U1 p0.T.length E1,.slice U2 p0.Lines.length E2],.agg #[iq p1.Id,iq p1.X,iq p1.Y,iq p1.Z.Lo,iq p1.Z.Hi,iq p1.Wide,iq p1.Num,iq p1.Of,iq p1.Class]]/\Has K U0 p0.V.length E0 4 Ai p0.V/\Has K U1 p0.T.length E1 3 Ax p0.T/\Has K U2 p0.Lines.length E2 2 Aq p0.Lines/\True) (fun _ r=>fun v Ln=>v = .tuple #[.agg #[iq r.1.Lo,iq r.1.Hi],.bool r.2.1,iq r.2.2]/\Ln=[]/\True):=⟨by
 rintro K _ r ⟨U0,E0,U1,E1,U2,E2,rfl,ha0,ha1,ha2,-⟩ hx w hK;replace ha0:=Has.lo ha0 hK;replace ha1:=Has.lo ha1 hK;replace ha2:=Has.lo ha2 hK;unfold Vm at hx;refine CtS ntmps13 results13 ?_;exact au⟩
end Go.Proofs.YthlkpgdfifnagaaGreat
