import Derived.Test.YthlkpgdfifnagaaGreatH9
set_option maxRecDepth 100000
set_option maxHeartbeats 1000000
namespace Go.Proofs.YthlkpgdfifnagaaGreat
open Go Go.RowKit Go.Sort Tryz
inductive Cnx(E:Nat->Nat->Prop):Nat->Nat->Prop
 | refl (i:Nat):Cnx E i i
 | base {i j:Nat}:E i j->Cnx E i j
 | symm {i j:Nat}:Cnx E i j->Cnx E j i
 | trans {i j k:Nat}:Cnx E i j->Cnx E j k->Cnx E i k
theorem Cnx.mono{E E':Nat->Nat->Prop}(h:∀ x y,E x y->E' x y\/E' y x){i j:Nat}(c:Cnx E i j):Cnx E' i j:=by
 induction c with
 | refl i=>exact .refl i
 | base e=>exact (h _ _ e).elim .base fun g=>.symm (.base g)
 | symm _ ih=>exact .symm ih
 | trans _ _ h g=>exact .trans h g
theorem Cnx.add{E:Nat->Nat->Prop}{a b i j:Nat}:Cnx (fun x y=>E x y\/(x=a/\y=b)) i j↔Cnx E i j\/(Cnx E i a/\Cnx E b j)\/(Cnx E i b/\Cnx E a j):=by
 constructor
 ·intro h
  induction h with
  | refl i=>exact .inl (.refl i)
  | base h=>
   rcases h with h | ⟨rfl,rfl⟩
   ·exact .inl (.base h)
   ·exact .inr (.inl ⟨.refl _,.refl _⟩)
  | symm _ ih=>
   rcases ih with h | ⟨h,g⟩|⟨h,g⟩
   ·exact .inl h.symm
   ·exact .inr (.inr ⟨g.symm,h.symm⟩)
   ·exact .inr (.inl ⟨g.symm,h.symm⟩)
  | trans _ _ h g=>
   rcases h with h | ⟨h,h'⟩|⟨h,h'⟩
   ·rcases g with g | ⟨g,g'⟩|⟨g,g'⟩
    ·exact .inl (h.trans g)
    ·exact .inr (.inl ⟨h.trans g,g'⟩)
    ·exact .inr (.inr ⟨h.trans g,g'⟩)
   ·rcases g with g | ⟨_,g'⟩|⟨_,g'⟩
    ·exact .inr (.inl ⟨h,h'.trans g⟩)
    ·exact .inr (.inl ⟨h,g'⟩)
    ·exact .inl (h.trans g')
   ·rcases g with g | ⟨_,g'⟩|⟨_,g'⟩
    ·exact .inr (.inr ⟨h,h'.trans g⟩)
    ·exact .inl (h.trans g')
    ·exact .inr (.inr ⟨h,g'⟩)
 ·have m:∀ {x y:Nat},Cnx E x y->Cnx (fun x y=>E x y\/(x=a/\y=b)) x y:=fun c=>c.mono fun x y e=>.inl (.inl e)
  have ab:Cnx (fun x y=>E x y\/(x=a/\y=b)) a b:=.base (.inr ⟨rfl,rfl⟩);rintro (h | ⟨h,g⟩|⟨h,g⟩)
  ·exact m h
  ·exact ((m h).trans ab).trans (m g)
  ·exact ((m h).trans ab.symm).trans (m g)
theorem Alp{n:Nat}{G G':Nat->Int}{E:Nat->Nat->Prop}{a b:Nat}(ha:a<n)(hb:b<n)(h:∀ i j,i<n->j<n->(G i=G j↔Cnx E i j)){u w:Int}(hm:(u=G a/\w=G b)\/(u=G b/\w=G a))(hG:∀ i,i<n->G' i=if G i=u then w else G i){i j:Nat}(hi:i<n)(hj:j<n):
  G' i=G' j↔Cnx (fun x y=>E x y\/(x=a/\y=b)) i j:=by
 rw[Cnx.add,<- h i j hi hj,<- h i a hi ha,<- h b j hb hj,<- h i b hi hb,<- h a j ha hj,hG i hi,hG j hj];grind
inductive Rt(s:List Int):Nat->Nat->Prop
 | root {i:Nat}:s[i]? = some (i:Int)->Rt s i i
 | step {i k j:Nat}:s[i]? = some (k:Int)->k<i->Rt s k j->Rt s i j
theorem Rt.le{s:List Int}{i j:Nat}(h:Rt s i j):j<=i:=by
 induction h with
 | root _=>exact Nat.le_refl _
 | step _ h _ ih=>omega
theorem Rt.top{s:List Int}{i j:Nat}(h:Rt s i j):s[j]? = some (j:Int):=by
 induction h with
 | root h=>exact h
 | step _ _ _ ih=>exact ih
theorem Rt.uniq{s:List Int}{i j:Nat}(h:Rt s i j):∀ {k:Nat},Rt s i k->j=k:=by
 induction h with
 | root h=>
  intro k g;cases g with
  | root _=>rfl
  | step e l _=>rw[h] at e;have:=Option.some.inj e;omega
 | step e l _ ih=>
  intro k g;cases g with
  | root h=>rw[h] at e;have:=Option.some.inj e;omega
  | step e' l' g=>rw[e] at e';have:=Option.some.inj e';have:=Int.ofNat.inj this;subst this;exact ih g
theorem Rt.ex{s:List Int}(hu:UF s):∀ (i:Nat),i<s.length->∃ j,Rt s i j:=by
 intro i
 induction i using Nat.strongRecOn with
 | ind i ih=>
  intro hi;have h1:=hu i hi;obtain⟨k,hk⟩:∃ k:Nat,s[i]=(k:Int):=⟨s[i].toNat,oo⟩;have e:s[i]? = some (k:Int):=by rw[List.getElem?_eq_getElem hi,hk]
  by_cases c:k=i
  ·subst c;exact⟨_,.root e⟩
  ·obtain⟨j,hj⟩:=ih k oo oo;exact⟨j,.step e oo hj⟩
theorem Rt.run{s:List Int}{i j:Nat}(h:Rt s i j):Tt s (i:Int)=some (j:Int):=by
 unfold Tt;rw[jn_d];have:lfix (Td s) (i:Int)=some (j:Int):=by
  induction h with
  | @root i h=>
   obtain⟨hi,e⟩:=List.getElem?_eq_some_iff.1 h;rw[Ba];unfold Td;rw[As hi,Ae,Ae,if_pos e]
  | @step i k j h l _ ih=>
   obtain⟨hi,e⟩:=List.getElem?_eq_some_iff.1 h;rw[Ba];unfold Td;rw[As hi,Ae,Ae,if_neg oo,e];exact ih
 rw[this,Ae]
theorem Rt.put{s:List Int}{m c i j:Nat}(hm:s[m]? = some (m:Int))(hc:s[c]? = some (c:Int))(hle:c<=m)(h:Rt s i j):Rt (setI s (m:Int) (c:Int)) i (if j=m then c else j):=by
 have hl:m<s.length:=(List.getElem?_eq_some_iff.1 hm).1;rw[Mv]
 induction h with
 | @root i h=>
  by_cases e:i=m
  ·subst e;rw[if_pos rfl]
   by_cases e2:c=i
   ·subst e2;exact .root (List.getElem?_set_self hl)
   ·exact .step (List.getElem?_set_self hl) oo (.root (by rw[List.getElem?_set_ne oo];exact hc))
  ·rw[if_neg e];exact .root (by rw[List.getElem?_set_ne oo];exact h)
 | @step i k j h l _ ih=>
  have:i≠m:=fun e=>by subst e;rw[hm] at h;have:=Option.some.inj h;omega
  exact .step (by rw[List.getElem?_set_ne oo];exact h) l ih
theorem Rt.flat{s:List Int}{i0 r0 i j:Nat}(h0:Rt s i0 r0)(h:Rt s i j):Rt (setI s (i0:Int) (r0:Int)) i j:=by
 have hl:i0<s.length:=by
  cases h0 with
  | root h=>exact (List.getElem?_eq_some_iff.1 h).1
  | step h _ _=>exact (List.getElem?_eq_some_iff.1 h).1
 rw[Mv]
 induction h with
 | @root i h=>
  by_cases e:i=i0
  ·subst e;obtain rfl:=h0.uniq (.root h);exact .root (List.getElem?_set_self hl)
  ·exact .root (by rw[List.getElem?_set_ne oo];exact h)
 | @step i k j h l g ih=>
  by_cases e:i=i0
  ·subst e;obtain rfl:=h0.uniq (.step h l g);have:=g.le;exact .step (List.getElem?_set_self hl) oo (.root (by rw[List.getElem?_set_ne oo];exact g.top))
  ·exact .step (by rw[List.getElem?_set_ne oo];exact h) l ih
structure Nms(s:List Int)(n:Nat)(E:Nat->Nat->Prop):Prop where
 uf:UF s
 len:s.length=n
 ex:∃ G:Nat->Nat,(∀ i,i<n->Rt s i (G i))/\∀ i j,i<n->j<n->((G i:Int)=(G j:Int)↔Cnx E i j)
theorem Nms.congr{s:List Int}{n:Nat}{E E':Nat->Nat->Prop}(h:Nms s n E)(e:∀ x y,E x y↔E' x y):Nms s n E':=by
 obtain rfl:E=E':=funext fun x=>funext fun y=>propext (e x y)
 exact h
theorem Nms.add{s:List Int}{n:Nat}{E:Nat->Nat->Prop}(h:Nms s n E){a b x y:Nat}(ha:a<n)(hb:b<n)(hx:Rt s a x)(hy:Rt s b y):Nms (setI s ((max x y:Nat):Int) ((min x y:Nat):Int)) n (fun i j=>E i j\/(i=a/\j=b)):=by
 obtain⟨G,g1,g2⟩:=h.ex;obtain rfl:=(g1 a ha).uniq hx;obtain rfl:=(g1 b hb).uniq hy;have tx:=hx.top;have ty:=hy.top;have hm:s[max (G a) (G b)]? = some ((max (G a) (G b):Nat):Int):=by
  rcases Nat.le_total (G a) (G b) with c | c
  ·rw[Nat.max_eq_right c];exact ty
  ·rw[Nat.max_eq_left c];exact tx
 have hc:s[min (G a) (G b)]? = some ((min (G a) (G b):Nat):Int):=by
  rcases Nat.le_total (G a) (G b) with c | c
  ·rw[Nat.min_eq_left c];exact tx
  ·rw[Nat.min_eq_right c];exact ty
 refine⟨h.uf.set oo,by rw[Dr];exact h.len,fun i=>if G i=max (G a) (G b) then min (G a) (G b) else G i,fun i hi=>(g1 i hi).put hm hc oo,fun i j hi hj=>?_⟩;refine Alp (G:=fun i=>(G i:Int)) (u:=((max (G a) (G b):Nat):Int)) (w:=((min (G a) (G b):Nat):Int)) (G':=fun i=>(((if G i=max (G a) (G b) then min (G a) (G b) else G i:Nat)):Int)) ha hb g2 ?_ (fun i _=>?_) hi hj
 ·rcases Nat.le_total (G a) (G b) with c | c
  ·rw[Nat.max_eq_right c,Nat.min_eq_left c];exact .inr ⟨rfl,rfl⟩
  ·rw[Nat.max_eq_left c,Nat.min_eq_right c];exact .inl ⟨rfl,rfl⟩
 ·by_cases c:G i=max (G a) (G b)
  ·rw[if_pos c,if_pos oo]
  ·rw[if_neg c,if_neg oo]
def edT(t:Ah)(k:Nat):Int × Int:=if k=0 then (t.a0,t.a1) else if k=1 then (t.a1,t.a2) else (t.a2,t.a0)
def okE(L:List Aa)(r:Ag)(x y:Nat):Prop:=∃ p q,L[x]? = some p/\L[y]? = some q/\X.sq p q<=r.Link*r.Link/\¬ r.Flat<gapI p.Z q.Z
def EdP(L:List Aa)(r:Ag)(T:List Ah)(x y:Nat):Prop:=(∃ t∈T,∃ k,k<3/\edT t k=((x:Int),(y:Int)))/\okE L r x y
theorem Axo{n:Nat}{t:Ah}(h0:inN n t.a0)(h1:inN n t.a1)(h2:inN n t.a2){k:Nat}(hk:k<3):
  ∃ a b:Nat,idx [t.a0,t.a1,t.a2] (k:Int)=some (a:Int)/\idx [t.a0,t.a1,t.a2] (Int.tmod (w64 ((k:Int)+1)) 3)=some (b:Int)/\a<n/\b<n/\edT t k=((a:Int),(b:Int)):=by
 obtain⟨a,ea,ha⟩:=Jw h0;obtain⟨b,eb,hb⟩:=Jw h1;obtain⟨c,ec,hc⟩:=Jw h2;unfold edT;rw[ea,eb,ec,Az oo];rcases (by omega:k=0\/k=1\/k=2) with rfl | rfl | rfl
 ·exact⟨a,b,rfl,rfl,ha,hb,rfl⟩
 ·exact⟨b,c,rfl,rfl,hb,hc,rfl⟩
 ·exact⟨c,a,rfl,rfl,hc,ha,rfl⟩
section
variable {L:List Aa} {r:Ag} (hL:X.Fit L) (hr:X.okRules r=true)
include hL hr
theorem Aox{t:Ah}(h0:inN L.length t.a0)(h1:inN L.length t.a1)(h2:inN L.length t.a2){s:List Int}{E:Nat->Nat->Prop}(hs:Nms s L.length E):
  ∃ s',lfix (Oj t L r) (s,0)=some s'/\Nms s' L.length (fun x y=>E x y\/(∃ k,k<3/\edT t k=((x:Int),(y:Int)))/\okE L r x y):=by
 have hrr:=X.okRules_rng hr;have:=Be (B:=Oj t L r) (fun x=>3-x.2.toNat) (fun x=>∃ k:Nat,k<=3/\x.2=(k:Int)/\Nms x.1 L.length (fun x y=>E x y\/(∃ k',k'<k/\edT t k'=((x:Int),(y:Int)))/\okE L r x y)) (fun s'=>Nms s' L.length (fun x y=>E x y\/(∃ k,k<3/\edT t k=((x:Int),(y:Int)))/\okE L r x y)) (fun x hx=>by
  obtain⟨s,i⟩:=x;obtain⟨k,hk,hi,hs⟩:=hx;dsimp only at hi hs;subst hi;unfold Oj;dsimp only
  by_cases hk2:k<3
  ·left;obtain⟨a,b,ea,eb,ha,hb,ed⟩:=Axo h0 h1 h2 hk2;have pa:=hL.ok _ (List.getElem_mem ha);have pb:=hL.ok _ (List.getElem_mem hb);have ra:=X.okPt_rng pa;have rb:=X.okPt_rng pb;have oe:okE L r a b↔X.sq L[a] L[b]<=r.Link*r.Link/\¬ r.Flat<gapI L[a].Z L[b].Z:=by
    unfold okE;rw[List.getElem?_eq_getElem ha,List.getElem?_eq_getElem hb];exact⟨fun ⟨p,q,e1,e2,h⟩=>by cases e1;cases e2;exact h,fun h=>⟨_,_,rfl,rfl,h⟩⟩
   have nx:∀ x y:Nat,(∃ k',k'<k+1/\edT t k'=((x:Int),(y:Int)))↔(∃ k',k'<k/\edT t k'=((x:Int),(y:Int)))\/(x=a/\y=b):=fun x y=>by
    constructor
    ·rintro⟨k',h1,h2⟩
     by_cases e:k'=k
     ·subst e;rw[ed] at h2;have e1:=congrArg Prod.fst h2;have e2:=congrArg Prod.snd h2;dsimp only at e1 e2;exact .inr oo
     ·exact .inl ⟨k',oo,h2⟩
    ·rintro (⟨k',h1,h2⟩|⟨rfl,rfl⟩)
     ·exact⟨k',oo,h2⟩
     ·exact⟨k,oo,ed⟩
   have no:¬ okE L r a b->Nms s L.length (fun x y=>E x y\/(∃ k',k'<k+1/\edT t k'=((x:Int),(y:Int)))/\okE L r x y):=fun h=>hs.congr fun x y=>by
    rw[nx];constructor
    ·rintro (g | ⟨g,g'⟩)
     ·exact .inl g
     ·exact .inr ⟨.inl g,g'⟩
    ·rintro (g | ⟨g | ⟨rfl,rfl⟩,g'⟩)
     ·exact .inl g
     ·exact .inr ⟨g,g'⟩
     ·exact absurd g' h
   rw[if_pos oo,jn_d,ea,Ae,eb,Ae,jn_d,As ha,Ae,As hb,Ae,X.near_eq pa pb oo oo,Ae,Az oo]
   by_cases c:X.sq L[a] L[b]<=r.Link*r.Link
   ·rw[if_pos (decide_eq_true c),Ae,Ae,(Bd5 (a:=L[a].Z) (b:=L[b].Z) oo oo).1,Ae];dsimp only
    by_cases c2:r.Flat<gapI L[a].Z L[b].Z
    ·rw[if_pos (decide_eq_true c2)];exact⟨_,rfl,⟨k+1,hk2,rfl,no (by rw[oe];exact fun h=>h.2 c2)⟩,by dsimp only;omega⟩
    ·have hl:=hs.len;obtain⟨x,ex⟩:=Rt.ex hs.uf a oo;obtain⟨y,ey⟩:=Rt.ex hs.uf b oo;have hx:=ex.le;have hy:=ey.le;have em:max (x:Int) (y:Int)=((max x y:Nat):Int):=oo;have en:min (x:Int) (y:Int)=((min x y:Nat):Int):=oo;have hm:max x y<s.length:=oo;rw[if_neg (by simpa using c2),ex.run,Ae,ey.run,Ae,em,en,As hm,Ae];refine⟨_,rfl,⟨k+1,hk2,rfl,(hs.add ha hb ex ey).congr fun x y=>?_⟩,by dsimp only;omega⟩;rw[nx];constructor
     ·rintro ((g | ⟨g,g'⟩) | ⟨rfl,rfl⟩)
      ·exact .inl g
      ·exact .inr ⟨.inl g,g'⟩
      ·exact .inr ⟨.inr ⟨rfl,rfl⟩,oe.2 ⟨c,c2⟩⟩
     ·rintro (g | ⟨g | ⟨rfl,rfl⟩,g'⟩)
      ·exact .inl (.inl g)
      ·exact .inl (.inr ⟨g,g'⟩)
      ·exact .inr ⟨rfl,rfl⟩
   ·rw[if_neg (by simpa using c)];dsimp only;rw[if_pos rfl];exact⟨_,rfl,⟨k+1,hk2,rfl,no (by rw[oe];exact fun h=>c h.1)⟩,by dsimp only;omega⟩
  ·right;obtain rfl:k=3:=oo;rw[if_neg oo];exact⟨_,rfl,hs⟩) (s,0) ⟨0,oo,rfl,hs.congr fun x y=>s_⟩
 exact this
theorem Aoy{x:Aq × Int}(e:Rz L=some x)(e0:x.2=0)(e1:x.1.V=vxL L)(e3:Yx (vxL L) x.1.T):
  ∃ G,Sj L r=some G/\G.length=L.length/\(∀ x∈G,∃ k:Nat,x=(k:Int)/\k<L.length)/\∀ i j (hi:i<G.length) (hj:j<G.length),G[i]=G[j]↔Cnx (EdP L r x.1.T) i j:=by
 have hn:=hL.n;have hm:=Aq5 hL e1 e3;have hvl:x.1.V.length=L.length:=by rw[e1];unfold vxL;rw[List.length_map]
 have i1:∃ s,lfix (Qc L) (List.replicate (Int.toNat (L.length:Int)) (0:Int),0)=some s/\s.length=L.length/\∀ i,i<L.length->s[i]? = some (i:Int):=by
  have:=Be (B:=Qc L) (fun s=>L.length-s.2.toNat) (fun s=>∃ k:Nat,k<=L.length/\s.2=(k:Int)/\s.1.length=L.length/\∀ i,i<k->s.1[i]? = some (i:Int)) (fun s=>s.length=L.length/\∀ i,i<L.length->s[i]? = some (i:Int)) (fun s hs=>by
   obtain⟨s,i⟩:=s;obtain⟨k,hk,hi,hs,hu⟩:=hs;dsimp only at hi hu hs;subst hi;unfold Qc;dsimp only;rw[List.length_replicate]
   by_cases hk2:k<L.length
   ·left;rw[if_pos oo,As (show k<s.length by omega),Ae,Az oo];refine⟨_,rfl,⟨k+1,hk2,rfl,by rw[Dr];exact hs,fun i hi=>?_⟩,by dsimp only;omega⟩;dsimp only;rw[Mv]
    by_cases c:k=i
    ·subst c;exact List.getElem?_set_self oo
    ·rw[List.getElem?_set_ne c];exact hu i oo
   ·right;obtain rfl:k=L.length:=oo;rw[if_neg oo];exact⟨_,rfl,hs,hu⟩) (List.replicate (Int.toNat (L.length:Int)) (0:Int),0) ⟨0,oo,rfl,by dsimp only;rw[List.length_replicate];omega,fun i hi=>absurd hi oo⟩
  exact this
 obtain⟨s1,l1,n1,u1⟩:=i1;have g1:Nms s1 L.length (EdP L r []):=by
  refine⟨fun k hk=>?_,n1,id,fun i hi=>.root (u1 i hi),fun i j hi hj=>?_⟩
  ·have:=u1 k oo;rw[List.getElem?_eq_getElem hk] at this;have:=Option.some.inj this;omega
  ·constructor
   ·intro h;dsimp only[id] at h;obtain rfl:i=j:=oo;exact .refl _
   ·intro h;dsimp only[id];clear hi hj
    induction h with
    | refl i=>rfl
    | base h=>obtain⟨⟨t,ht,_⟩,_⟩:=h;cases ht
    | symm _ ih=>exact ih.symm
    | trans _ _ h g=>exact h.trans g
 have i2:∃ s,lfix (Ok x L r) (s1,0)=some s/\Nms s L.length (EdP L r x.1.T):=by
  have hTl:=hm.len;have:=Be (B:=Ok x L r) (fun s=>x.1.T.length-s.2.toNat) (fun s=>∃ k:Nat,k<=x.1.T.length/\s.2=(k:Int)/\Nms s.1 L.length (EdP L r (x.1.T.take k))) (fun s=>Nms s L.length (EdP L r x.1.T)) (fun s hs=>by
   obtain⟨s,i⟩:=s;obtain⟨k,hk,hi,hs⟩:=hs;dsimp only at hi hs;subst hi;unfold Ok;dsimp only
   by_cases hk2:k<x.1.T.length
   ·left;obtain⟨t0,t1,t2,_⟩:=hm.t _ (List.getElem_mem hk2);rw[hvl] at t0 t1 t2;obtain⟨s',g1,g2⟩:=Aox hL hr t0 t1 t2 hs;rw[if_pos oo,jn_d,As hk2,Ae,g1,Ae,Az oo];refine⟨_,rfl,⟨k+1,hk2,rfl,g2.congr fun a b=>?_⟩,by dsimp only;omega⟩;unfold EdP;rw[List.take_succ_eq_append_getElem hk2];constructor
    ·rintro (⟨⟨t,ht,h⟩,o⟩|⟨h,o⟩)
     ·exact⟨⟨t,List.mem_append_left _ ht,h⟩,o⟩
     ·exact⟨⟨_,List.mem_append_right _ (List.mem_singleton.2 rfl),h⟩,o⟩
    ·rintro⟨⟨t,ht,h⟩,o⟩;rcases List.mem_append.1 ht with ht | ht
     ·exact .inl ⟨⟨t,ht,h⟩,o⟩
     ·obtain rfl:=List.mem_singleton.1 ht;exact .inr ⟨h,o⟩
   ·right;obtain rfl:k=x.1.T.length:=oo;rw[List.take_length] at hs;rw[if_neg oo];exact⟨_,rfl,hs⟩) (s1,0) ⟨0,oo,rfl,g1⟩
  exact this
 obtain⟨s2,l2,hs2⟩:=i2;obtain⟨G,hG,hE⟩:=hs2.ex;have n2:=hs2.len;have i3:∃ s,lfix (Ol s2) (s2,0)=some s/\s.length=L.length/\∀ i,i<L.length->s[i]? = some (G i:Int):=by
  have:=Be (B:=Ol s2) (fun s=>s2.length-s.2.toNat) (fun s=>∃ k:Nat,k<=s2.length/\s.2=(k:Int)/\s.1.length=L.length/\(∀ i,i<L.length->Rt s.1 i (G i))/\∀ i,i<k->s.1[i]? = some (G i:Int)) (fun s=>s.length=L.length/\∀ i,i<L.length->s[i]? = some (G i:Int)) (fun s hs=>by
   obtain⟨s,i⟩:=s;obtain⟨k,hk,hi,hs,ho,hu⟩:=hs;dsimp only at hi hu ho hs;subst hi;unfold Ol;dsimp only
   by_cases hk2:k<s2.length
   ·left;have hk3:k<s.length:=oo;have ho':=ho k oo;rw[if_pos oo,ho'.run,Ae,As hk3,Ae,Az oo];refine⟨_,rfl,⟨k+1,hk2,rfl,by rw[Dr];exact hs,fun i hi=>ho'.flat (ho i hi),fun i hi=>?_⟩,by dsimp only;omega⟩;dsimp only;rw[Mv]
    by_cases c:k=i
    ·subst c;exact List.getElem?_set_self oo
    ·rw[List.getElem?_set_ne c];exact hu i oo
   ·right;obtain rfl:k=s2.length:=oo;rw[if_neg oo];exact⟨_,rfl,hs,fun i hi=>hu i oo⟩) (s2,0) ⟨0,oo,rfl,n2,hG,fun i hi=>absurd hi oo⟩
  exact this
 obtain⟨s3,l3,n3,u3⟩:=i3;have at3:∀ i (hi:i<s3.length),s3[i]=(G i:Int):=fun i hi=>by
  have:=u3 i oo;rw[List.getElem?_eq_getElem hi] at this;exact Option.some.inj this
 refine⟨s3,?_,n3,fun z hz=>?_,fun i j hi hj=>?_⟩
 ·unfold Sj;rw[gd_t oo,jn_d,l1,Ae];dsimp only;rw[e,Ae,if_pos e0,jn_d,l2,Ae];dsimp only;rw[jn_d,l3,Ae]
 ·obtain⟨k,hk,rfl⟩:=List.getElem_of_mem hz;have h:=(hG k oo).le;exact⟨G k,at3 k hk,oo⟩
 ·rw[at3 i hi,at3 j hj];exact hE i j oo oo
end
theorem Aqs{G:List Int}{n:Nat}(hn:G.length<=1000000)(hg:∀ x∈G,∃ k:Nat,x=(k:Int)/\k<n):∃ S,lfix (Om G) (List.replicate n (0:Int),0)=some S/\S.length=n/\∀ i (hi:i<S.length),S[i]=((G.count (i:Int):Nat):Int):=by
 have:=Be (B:=Om G) (fun s=>G.length-s.2.toNat) (fun s=>∃ k:Nat,k<=G.length/\s.2=(k:Int)/\s.1.length=n/\∀ i (hi:i<s.1.length),s.1[i]=(((G.take k).count (i:Int):Nat):Int)) (fun s=>s.length=n/\∀ i (hi:i<s.length),s[i]=((G.count (i:Int):Nat):Int)) (fun s hs=>by
  obtain⟨s,i⟩:=s;obtain⟨k,hk,hi,hs,hc⟩:=hs;dsimp only at hi hs hc;subst hi;unfold Om;dsimp only
  by_cases hk2:k<G.length
  ·left;obtain⟨x,hx,hx2⟩:=hg _ (List.getElem_mem hk2);have hx3:x<s.length:=oo;have hb:(G.take k).count (x:Int)<=k:=Nat.le_trans List.count_le_length (by rw[List.length_take];omega);rw[if_pos oo,As hk2,Ae,hx,As hx3,Ae,Ae,Az oo,hc x hx3,Az oo];refine⟨_,rfl,⟨k+1,hk2,rfl,by rw[Dr];exact hs,fun i hi=>?_⟩,by dsimp only;omega⟩;dsimp only at hi ⊢;simp only[Mv] at hi ⊢;rw[List.length_set] at hi;rw[List.getElem_set,List.take_succ_eq_append_getElem hk2,List.count_append,hx,List.count_singleton]
   by_cases c:x=i
   ·subst c;rw[if_pos rfl,if_pos s_]
   ·rw[if_neg c,if_neg (by simp;omega),hc i hi];simp
  ·right;obtain rfl:k=G.length:=oo;rw[List.take_length] at hc;rw[if_neg oo];exact⟨_,rfl,hs,hc⟩) (List.replicate n (0:Int),0) ⟨0,oo,rfl,List.length_replicate,fun i hi=>s_⟩
 exact this
theorem Aqt{G G':List Int}(hn:G.length=G'.length)(h:∀ i j (hi:i<G.length) (hj:j<G.length),G[i]=G[j]↔G'[i]=G'[j]){i:Nat}(hi:i<G.length):G.count G[i]=G'.count G'[i]:=by
 have key:∀ k,k<=G.length->(G.take k).count G[i]=(G'.take k).count G'[i]:=by
  intro k
  induction k with
  | zero=>intro _;simp
  | succ k ih=>
   intro hk;rw[List.take_succ_eq_append_getElem (show k<G.length by omega),List.take_succ_eq_append_getElem (show k<G'.length by omega),List.count_append,List.count_append,ih oo,List.count_singleton,List.count_singleton];have:=h k i oo hi
   by_cases c:G[k]=G[i]
   ·rw[if_pos (by simpa using c),if_pos (by simpa using this.1 c)]
   ·rw[if_neg (by simpa using c),if_neg (by simpa using fun g=>c (this.2 g))]
 have:=key G.length (Nat.le_refl _);rw[List.take_length,hn,List.take_length] at this;exact this
end Go.Proofs.YthlkpgdfifnagaaGreat
namespace Go.Proofs.YthlkpgdfifnagaaGreat
open Go Go.RowKit Tryz
instance(x0:Int)(x1:Int):Je prog 30 [(1,iq x0),(2,iq x1)] [iq 0,iq x0,iq x1,iq 0,iq 0,iq 0,iq 0,iq 0,iq 0]:=⟨fun w=>kr⟩
noncomputable def Rq(p0:Aw)(p1:Aw):Option Int :=
 bnd (Vd p0 p1) fun r3=>
 some r3.1
instance(p0:Aw)(p1:Aw):Con (Rq p0 p1) prog 86 (fun _ vs=>vs=[.agg #[iq p0.Lo,iq p0.Hi],.agg #[iq p1.Lo,iq p1.Hi]]) (fun _ r=>fun v Ln=>v = iq r/\Ln=[]/\True):=⟨by
 rintro _ _ r rfl hx w hK;unfold Rq at hx;refine CtS ntmps86 results86 ?_;exact au⟩
section
variable {P:Program} {n:Nat} {N:Act->World->Prop} {Q:Exit->Act->World->Prop} {fr:List (Nat × Value)} {L:List Ent}
variable {dst:Option Tmp} {ty:TypeId} {pos:String} {after:Array Edge} {guard:Option (Nat × Bool)}
end
theorem Pt.atX{K:List Ent}{b o:Nat}{kd:IntKind}{ys:List Int}{z v:Int}(h:Pt K b o (ys.map (Value.int kd)))(hz:idx ys z=some v):Pt K b (o+z.toNat*1) [.int kd v]:=fun w hw j u hj=>by
 have h0:=Aaq hz;obtain⟨k,rfl⟩:∃ k:Nat,z=(k:Int):=⟨z.toNat,oo⟩;have hk:k<ys.length:=oo;rw[As hk] at hz;cases hz
 match j,hj with
 | 0,hj=>
  cases hj
  have:=h w hw k (.int kd ys[k]) (by rw[List.getElem?_map,List.getElem?_eq_getElem hk];rfl);rw[Int.toNat_natCast,Nat.mul_one,Nat.add_zero];exact this
noncomputable def Er(p0:List Ah)(s0:List Ab × (List (Ab × Bool)) × Int):(List Ab × (List (Ab × Bool)) × Int)->Option (Sum (List Ab × (List (Ab × Bool)) × Int) (List Ab × (List (Ab × Bool)))):=fun s1=>
 if s1.2.2<3 then (jn (fun (s2:List Ab × (List (Ab × Bool)))=>
 some (.inl (s2.1,s2.2,w64 (s1.2.2+1))))
 (fun j0=>bnd (idx p0 s0.2.2) fun x0=>
 bnd (idx [x0.a0,x0.a1,x0.a2] s1.2.2) fun x1=>
 bnd (idx p0 s0.2.2) fun x2=>
 bnd (idx [x2.a0,x2.a1,x2.a2] (Int.tmod (w64 (s1.2.2+1)) 3)) fun x3=>
 gd ((-9223372036854775808<=(min x1 x3)/\(min x1 x3)<=9223372036854775807)/\(-9223372036854775808<=(max x1 x3)/\(max x1 x3)<=9223372036854775807))<|
 bnd (some ((mget s1.2.1 ((⟨min x1 x3,max x1 x3⟩:Ab))).getD false)) fun x4=>
 if x4=true then (j0 (s1.1,s1.2.1))
 else (gd ((-9223372036854775808<=(min x1 x3)/\(min x1 x3)<=9223372036854775807)/\(-9223372036854775808<=(max x1 x3)/\(max x1 x3)<=9223372036854775807))<|
 gd (s1.2.1.length<9223372036854775807)<|
 gd ((s1.1.length+1)*16<=140737488355328)<|
 j0 (s1.1++[(⟨min x1 x3,max x1 x3⟩:Ab)],mput s1.2.1 ((⟨min x1 x3,max x1 x3⟩:Ab)) true))))
 else (some (.inr (s1.1,s1.2.1)))
noncomputable def Jk(p0:List Ah):(List Ab × (List (Ab × Bool)) × Int)->Option (Sum (List Ab × (List (Ab × Bool)) × Int) (List Ab)):=fun s0=>
 if s0.2.2<(p0.length:Int) then (jn (fun (s1:List Ab × (List (Ab × Bool)))=>
 some (.inl (s1.1,s1.2,w64 (s0.2.2+1))))
 (fun j0=>bnd (lfix (Er p0 s0) (s0.1,s0.2.1,0)) fun t0=>
 j0 t0))
 else (some (.inr s0.1))
noncomputable def Ki(p0:List Ah):Option (List Ab):=
 jn (fun (s4:List Ab)=>
 bnd (Di s4) fun r0=>
 some r0)
 (fun j4=>bnd (lfix (Jk p0) (([]:List Ab),([]:List (Ab × Bool)),0)) fun t0=>
 j4 t0)
noncomputable def Si(p0:Aq):Option (List Ab × Int):=
 bnd (Kk p0) fun r2=>
 if r2=0 then (bnd (Ki p0.T) fun r8=>
 some (r8,0))
 else (some (([]:List Ab),64))
noncomputable def Pw(p0:Aq)(p1:Aa):Option (Aw × Bool):=
 bnd (Ja p0 (⟨p1.X,p1.Y⟩:Ac)) fun r4=>
 if r4.2=0 then (some ((⟨w64 (p1.Z.Lo-r4.1.Hi),w64 (p1.Z.Hi-r4.1.Lo)⟩:Aw),true))
 else (some ((⟨0,0⟩:Aw),false))
noncomputable def Gq(p0:List Aa)(p2:Aq)(p3:Ag)(p1:List Int):(List Aa × Int)->Option (Sum (List Aa × Int) (List Aa)):=fun s0=>
 if s0.2<(p0.length:Int) then (jn (fun (s1:List Aa)=>
 some (.inl (s1,w64 (s0.2+1))))
 (fun j0=>bnd (idx p0 s0.2) fun x0=>
 bnd (Pw p2 x0) fun r0=>
 jn (fun (s2:Bool)=>
 if s2=true then (bnd (idx p0 s0.2) fun x1=>
 gd ((s0.1.length+1)*72<=140737488355328)<|
 j0 (s0.1++[x1]))
 else (j0 s0.1))
 (fun j1=>if r0.2=true then (bnd (idx p0 s0.2) fun x2=>
 if x2.Of=1 then (if p3.Tall<=r0.1.Lo then (if r0.1.Lo<=p3.High then (bnd (idx p0 s0.2) fun x3=>
 bnd (La p1 x3.Id) fun r1=>
 if r1=true then (j1 false)
 else (bnd (idx p0 s0.2) fun x4=>
 bnd (Pz p0 x4 p3) fun r2=>
 j1 (!(r2))))
 else (j1 false))
 else (j1 false))
 else (j1 false))
 else (j1 false))))
 else (some (.inr s0.1))
noncomputable def Ft(r0:List Aa):(List Int × Int)->Option (Sum (List Int × Int) (List Int)):=fun s0=>
 if s0.2<(r0.length:Int) then (bnd (idx s0.1 s0.2) fun x0=>
 some (.inl (setI s0.1 s0.2 s0.2,w64 (s0.2+1))))
 else (some (.inr s0.1))
noncomputable def Ip(x0:Int)(x1:Int):(List Int × Int)->Option (Sum (List Int × Int) (List Int)):=fun s0=>
 if s0.2<(s0.1.length:Int) then (jn (fun (s1:List Int)=>
 some (.inl (s1,w64 (s0.2+1))))
 (fun j0=>bnd (idx s0.1 s0.2) fun x2=>
 if x2=x0 then (bnd (idx s0.1 s0.2) fun x3=>
 j0 (setI s0.1 s0.2 x1))
 else (j0 s0.1)))
 else (some (.inr s0.1))
noncomputable def Fu(r0:List Ab × Int)(r1:List Aa)(p3:Ag):(List Int × Int)->Option (Sum (List Int × Int) (List Int)):=fun s0=>
 if s0.2<(r0.1.length:Int) then (jn (fun (s1:List Int)=>
 some (.inl (s1,w64 (s0.2+1))))
 (fun j0=>bnd (idx r0.1 s0.2) fun x0=>
 bnd (idx r0.1 s0.2) fun x1=>
 jn (fun (s2:Bool)=>
 if s2=true then (j0 s0.1)
 else (bnd (idx s0.1 x1.a1) fun x2=>
 bnd (idx s0.1 x0.a0) fun x3=>
 bnd (lfix (Ip x2 x3) (s0.1,0)) fun t0=>
 j0 t0))
 (fun j1=>bnd (idx r1 x0.a0) fun x4=>
 bnd (idx r1 x1.a1) fun x5=>
 bnd (Fw x4 x5) fun r2=>
 if (w64 (p3.Link*p3.Link))<r2 then (j1 true)
 else (bnd (idx r1 x0.a0) fun x6=>
 bnd (idx r1 x1.a1) fun x7=>
 bnd (Rq x6.Z x7.Z) fun r3=>
 j1 (decide (p3.Flat<r3))))))
 else (some (.inr s0.1))
noncomputable def Iq(r0:List Aa)(s0:List Int)(s1:List Aa × Int):(Int × Int)->Option (Sum (Int × Int) Int):=fun s2=>
 if s2.2<(r0.length:Int) then (jn (fun (s3:Int)=>
 some (.inl (s3,w64 (s2.2+1))))
 (fun j0=>bnd (idx s0 s2.2) fun x0=>
 bnd (idx s0 s1.2) fun x1=>
 if x0=x1 then (j0 (w64 (s2.1+1)))
 else (j0 s2.1)))
 else (some (.inr s2.1))
noncomputable def Fv(r0:List Aa)(p3:Ag)(s0:List Int):(List Aa × Int)->Option (Sum (List Aa × Int) (List Aa)):=fun s1=>
 if s1.2<(r0.length:Int) then (jn (fun (s2:List Aa)=>
 some (.inl (s2,w64 (s1.2+1))))
 (fun j0=>jn (fun (s3:Int)=>
 if p3.Few<=s3 then (bnd (idx r0 s1.2) fun x0=>
 gd ((s1.1.length+1)*72<=140737488355328)<|
 j0 (s1.1++[x0]))
 else (j0 s1.1))
 (fun j1=>bnd (lfix (Iq r0 s0 s1) (0,0)) fun t0=>
 j1 t0)))
 else (some (.inr s1.1))
noncomputable def Oe(p0:List Aa)(p1:List Int)(p2:Aq)(p3:Ag):Option (List Aa):=
 jn (fun (s3:List Aa)=>
 bnd (Lg s3) fun r0=>
 bnd (Iy r0) fun r1=>
 bnd (Jf r1) fun r2=>
 bnd (Si r2.1) fun r3=>
 gd ((0:Int)<=(r1.length:Int)/\8*Int.toNat (r1.length:Int)<=140737488355328)<|
 jn (fun (s0:List Int)=>
 jn (fun (s1:List Int)=>
 jn (fun (s2:List Aa)=>
 some s2)
 (fun j0=>bnd (lfix (Fv r1 p3 s1) (([]:List Aa),0)) fun t0=>
 j0 t0))
 (fun j1=>bnd (lfix (Fu r3 r1 p3) (s0,0)) fun t1=>
 j1 t1))
 (fun j2=>bnd (lfix (Ft r1) (List.replicate (Int.toNat (r1.length:Int)) (0:Int),0)) fun t2=>
 j2 t2))
 (fun j3=>bnd (lfix (Gq p0 p2 p3 p1) (([]:List Aa),0)) fun t3=>
 j3 t3)
noncomputable def Og(p0:List Aa)(p1:List Int)(p2:Ag):Option (List Int × Int):=
 bnd (Ld p0 p2) fun r2=>
 if r2=0 then (bnd (Lc p0 p1) fun r8=>
 if r8.2=0 then (bnd (Oe p0 p1 r8.1 p2) fun r0=>
 bnd (Kz r0) fun r1=>
 some (r1,0))
 else (some (([]:List Int),r8.2)))
 else (some (([]:List Int),r2))
noncomputable def Hd(p0:List Aa)(p1:List Int)(p2:Ag):Option Bool :=
 jn (fun (s3:Bool)=>
 if s3=true then (bnd Hu fun r0=>
 some r0)
 else (bnd (Wf p0 p1 p2) fun r1=>
 bnd (Og p0 p1 p2) fun r3=>
 jn (fun (s7:Bool)=>
 some s7)
 (fun j7=>bnd (Jl r1.1 r3.1) fun r4=>
 if r4=true then (if r1.2=r3.2 then (bnd Hu fun r5=>
 j7 r5)
 else (j7 false))
 else (j7 false))))
 (fun j3=>bnd (Py p0 16) fun r2=>
 if r2=true then (j3 true)
 else (j3 (decide (300<(p1.length:Int)))))
theorem Adg(p0:List Ah){K:List Ent}{E0:Option Addr}{G0:Nat}(ha0:Has K E0 p0.length G0 3 Ax p0){r:List Ab}(hx:Ki p0=some r)(w:World)(hK:∀ e∈K,Ent.ok w e):CtL prog 157 [.slice E0 p0.length G0] w fun v Ln=>∃ (A0:Option Addr) (c0:Nat),v = .slice A0 r.length c0/\Ln=[.r A0 r.length c0 103 2 (r.flatMap Ar)]/\True:=by
 have ha0':=Has.up0 ha0;refine CtL.mk 54 func157 rfl ntmps157 kr rfl ?_;show T 54 _ [(0,.slice E0 p0.length G0)] _;unfold Ki at hx;refine Y12 ?_;refine T_x (Abt prog 103 An Bu rfl (fun g1=>?_));refine Y3 ?_;refine Tj (γ:=Option Addr × Nat) hx (fun s4 y4=>[(3,.slice y4.1 s4.length y4.2)]) (fun s4 y4=>[.r y4.1 s4.length y4.2 103 2 (s4.flatMap Ar)]++[.old w]) (fun s4 y4=>True) (fun s4 y4 hx0 hG0=>?_) (fun j4 hx=>?_)
 ·refine Y3 ?_;refine Gb (k:=0) rfl dD (fun _=>rfl) (fun hn0 hs0=>?_);obtain⟨r0,h0,hx1⟩:=Ao hx0;refine T_x (Br rfl (fun w1 hw1=>Abn s4 (Has.len' hs0) h0 w1 (Wd (K:=([.r y4.1 s4.length y4.2 103 2 (s4.flatMap Ar)]:List Ent)) (by exact (sb 0)) hw1)) rfl ?_);rintro _ _ hlo ⟨A1,c1,rfl,rfl,-⟩;refine Lz ?_;refine Y4 ?_;obtain rfl:=Option.some.inj hx1;exact Df (rs:=[.tmp 2]) results157 (.tmp rfl (.nil)) (Ln:=[.r A1 r0.length c1 103 2 (r0.flatMap Ar)]) ⟨A1,c1,rfl,rfl,trivial⟩ (Bj rfl Cr) (by exact .pick 0 rfl (.drop 0 rfl (.refl)))
 ·refine Y3 ?_;refine At (Dn rfl 101 underlying23) rfl ?_;refine Y4 ?_;obtain⟨t0,hl0,ho0⟩:=Ao hx;refine Bi 103 2 ?_;have hn1:0=(([]:List Ab)).length:=by simp[Dr,Tm,List.length_append] <;> omega
  refine Wc (.here) (e':=.r none ((([]:List Ab)).length) 0 103 2 ((([]:List Ab)).flatMap Ar)) (by first | (rw[<- hn1];done) | rfl) ?_;refine Lp (σ:=List Ab × (List (Ab × Bool)) × Int) (γ:=Option Addr × Nat) hl0 (fun s0 y0=>[(0,.slice E0 p0.length G0),(3,.slice y0.1 s0.1.length y0.2),(4,.map (some g1)),(12,iq (p0.length:Int)),(13,iq s0.2.2)]) (fun s0 y0=>[.r y0.1 s0.1.length y0.2 103 2 (s0.1.flatMap Ar),Bb prog 103 An Bu g1 s0.2.1]++[.old w]) (fun s0 y0=>True) (none,0) trivial (by exact .pick 0 rfl (.pick 0 rfl (.refl))) ?_;intro s0 y0 hG1 x0 hx2 ht0;unfold Jk at hx2;refine Y6 ?_;refine Ti hx2 (s:=14) rfl (fun h1 hx3=>?_) (fun h1 hx4=>?_)
  ·refine Y3 ?_;refine Tj (γ:=Option Addr × Nat) hx3 (fun s1 y1=>[(0,.slice E0 p0.length G0),(3,.slice y1.1 s1.1.length y1.2),(4,.map (some g1)),(12,iq (p0.length:Int)),(13,iq s0.2.2)]) (fun s1 y1=>[.r y1.1 s1.1.length y1.2 103 2 (s1.1.flatMap Ar),Bb prog 103 An Bu g1 s1.2]++[.old w]) (fun s1 y1=>True) (fun s1 y1 hx5 hG2=>?_) (fun j0 hx3=>?_)
   ·refine Y4 ?_;exact Rp (s1.1,s1.2,w64 (s0.2.2+1)) (y1.1,y1.2) hx5 trivial (by exact .pick 0 rfl (.pick 0 rfl (.refl)))
   ·(iterate 13 refine Y ?_);obtain⟨t1,hl1,ho1⟩:=Ao hx3;refine Lp (σ:=List Ab × (List (Ab × Bool)) × Int) (γ:=Option Addr × Nat) hl1 (fun s2 y2=>[(0,.slice E0 p0.length G0),(3,.slice y2.1 s2.1.length y2.2),(4,.map (some g1)),(5,iq s0.2.2),(12,iq (p0.length:Int)),(13,iq s0.2.2),(16,iq s2.2.2)]) (fun s2 y2=>[.r y2.1 s2.1.length y2.2 103 2 (s2.1.flatMap Ar),Bb prog 103 An Bu g1 s2.2.1]++[.old w]) (fun s2 y2=>True) (y0.1,y0.2) trivial (by exact .pick 0 rfl (.pick 0 rfl (.refl))) ?_;intro s2 y2 hG3 x1 hx6 ht1;unfold Er at hx6;refine Y6 ?_;refine Ti hx6 (s:=17) rfl (fun h2 hx7=>?_) (fun h2 hx8=>?_)
    ·refine Y3 ?_;refine Tj (γ:=Option Addr × Nat) hx7 (fun s3 y3=>[(0,.slice E0 p0.length G0),(3,.slice y3.1 s3.1.length y3.2),(4,.map (some g1)),(5,iq s0.2.2),(12,iq (p0.length:Int)),(13,iq s0.2.2),(16,iq s2.2.2)]) (fun s3 y3=>[.r y3.1 s3.1.length y3.2 103 2 (s3.1.flatMap Ar),Bb prog 103 An Bu g1 s3.2]++[.old w]) (fun s3 y3=>True) (fun s3 y3 hx9 hG4=>?_) (fun j1 hx7=>?_)
     ·refine Y4 ?_;exact Rp (s3.1,s3.2,w64 (s2.2.2+1)) (y3.1,y3.2) hx9 trivial (by exact .pick 0 rfl (.pick 0 rfl (.refl)))
     ·refine Y8 ?_;refine T_dr [0,0,0,0,0,1,0,0,0,0,0,0,0,1,2,2] (.q 0 (.q 1 (.q 2 (.q 3 (.q 4 (.q 5 (.q 6 (.q 7 (.q 8 (.q 9 (.q 10 (.q 11 (.q 12 (.q 13 (.e 14 (.e 15 (.done) (.stop)) (.stop)))))))))))))))) mixed kr kr ?_;refine Y3 ?_;obtain⟨x2,h3,hx10⟩:=Ao hx7;have hw0:=Has.low (E:=[]) ha0' hK;obtain⟨b0,o0,j2,hA0,hj0,hl2,hp0⟩:=Has.at_idx hw0 h3;refine P_p rfl rfl (Bl rfl rfl hA0 (j:=j2) hj0 hl2 As6) rfl ?_;obtain⟨x3,h4,hx11⟩:=Ao hx10;have hp1:=Pt.atX (kd:=.i64) (ys:=[x2.a0,x2.a1,x2.a2]) hp0 h4;refine P_p rfl rfl (Bn rfl rfl Tx (Aaq h4).1 (Aaq h4).2 rfl) rfl ?_;refine P_q rfl rfl (Ch rfl hp1 (sb 2) rfl one3) rfl ?_;refine Y4 ?_;refine P_p rfl rfl (Amg rfl rfl dD) rfl ?_;obtain⟨x4,h5,hx12⟩:=Ao hx11;have hw2:=Has.low (E:=[]) ha0' hK;obtain⟨b1,o1,j3,hA1,hj1,hl3,hp2⟩:=Has.at_idx hw2 h5;refine P_p rfl rfl (Bl rfl rfl hA1 (j:=j3) hj1 hl3 As6) rfl ?_;obtain⟨x5,h6,hx13⟩:=Ao hx12;have hp3:=Pt.atX (kd:=.i64) (ys:=[x4.a0,x4.a1,x4.a2]) hp2 h6;refine P_p rfl rfl (Bn rfl rfl Tx (Aaq h6).1 (Aaq h6).2 rfl) rfl ?_;refine P_q rfl rfl (Ch rfl hp3 (sb 2) rfl one3) rfl ?_;refine P_x rfl (Dx (Ee rfl) rfl ?_) ?_;rotate_left;exact Bg;refine P_x rfl (Dx (Ee rfl) rfl ?_) ?_
      rotate_left;exact Bg;refine Y6 ?_;refine At (Amh rfl rfl) rfl ?_;refine Y2 ?_;refine At (Ami rfl rfl) rfl ?_;refine At (En rfl (Qp _ _)) rfl ?_;refine T_x (Bt Aki rfl (fun g0=>?_));refine T_h (Ay rfl rfl rfl (.here) (.put (.put (.done))) rfl (List.cons_ne_nil _ _) Acs.2 ?_);refine Y5 ?_;refine At (Bo rfl (i:=0) rfl rfl Acs) rfl ?_;obtain⟨h7,hx14⟩:=Bv hx13;obtain⟨x6,h8,hx15⟩:=Ao hx14;refine At (Aip (x:=(⟨min x3 x5,max x3 x5⟩:Ab)) (i:=2) (vv:=.bool x6) Ye underlying154 (fun w=>kr) Dk rfl rfl rfl rfl Rl (Akg ((⟨min x3 x5,max x3 x5⟩:Ab)) h7) h8 rfl) rfl ?_;refine Y3 ?_;refine Xw (s:=43) rfl (fun h9=>?_) (fun h9=>?_)
      ·have hx16:=Nn h9 hx15;refine Y4 ?_;refine At (Bo rfl (i:=0) rfl rfl Acs) rfl ?_;obtain⟨h10,hx17⟩:=Bv hx16;obtain⟨h11,hx18⟩:=Bv hx17;refine T_h (Ad0 (x:=(⟨min x3 x5,max x3 x5⟩:Ab)) (y:=true) Ye Dk underlying154 rfl rfl rfl rfl rfl (.there (.there (.here))) (Akg ((⟨min x3 x5,max x3 x5⟩:Ab)) h10) h11 ?_);refine Y4 ?_;refine At (Bo rfl (i:=0) rfl rfl Acs) rfl ?_;refine T_x (Bs rfl (Sn _ _) rfl (fun g2=>?_));obtain⟨h12,hx19⟩:=Bv hx18;refine T_h (Ho Ar s2.1 [(⟨min x3 x5,max x3 x5⟩:Ab)] rfl rfl rfl Atm (fun _=>rfl) (i':=0) rfl rfl rfl rfl h12 rfl (fun _ _=>.there (.there (.here))) (fun _ _=>.drop .refl) dD (fun A2 c2=>?_));refine Y3 ?_;exact Mt (s2.1++[(⟨min x3 x5,max x3 x5⟩:Ab)],mput s2.2.1 ((⟨min x3 x5,max x3 x5⟩:Ab)) true) (A2,c2) hx19 trivial (by exact .pick 1 rfl (.pick 1 rfl (.drop 0 rfl (.refl))))
      ·have hx20:=Io h9 hx15;refine Y3 ?_;exact Mt (s2.1,s2.2.1) (y2.1,y2.2) hx20 trivial (by exact .pick 1 rfl (.pick 1 rfl (.drop 0 rfl (.refl))))
    ·refine Y3 ?_;obtain rfl:=Ii ht1 hx8;refine Y3 ?_;exact Mt (s2.1,s2.2.1) (y2.1,y2.2) ho1 trivial (by exact .pick 0 rfl (.pick 0 rfl (.refl)))
  ·refine Y3 ?_;obtain rfl:=Ii ht0 hx4;refine Y2 ?_;exact Mt s0.1 (y0.1,y0.2) ho0 trivial (by exact .pick 0 rfl (.drop 0 rfl (.refl)))
instance(p0:List Ah):Con (Ki p0) prog 157 (fun K vs=>∃ E0 G0,vs=[.slice E0 p0.length G0]/\Has K E0 p0.length G0 3 Ax p0/\True) (fun _ r=>fun v Ln=>∃ A0 c0,v = .slice A0 r.length c0/\Ln=[.r A0 r.length c0 103 2 (r.flatMap Ar)]/\True):=⟨by
 rintro K _ r ⟨E0,G0,rfl,ha0,-⟩ hx w hK;exact Adg p0 ha0 hx w hK⟩
instance(p0:Aq):Con (Si p0) prog 108 (fun K vs=>∃ E0 G0 E1 G1 E2 G2,vs=[.agg #[.slice E0 p0.V.length G0,.slice E1 p0.T.length G1,.slice E2 p0.Lines.length G2]]/\Has K E0 p0.V.length G0 4 Ak p0.V/\Has K E1 p0.T.length G1 3 Ax p0.T/\Has K E2 p0.Lines.length G2 2 Ar p0.Lines/\True) (fun _ r=>fun v Ln=>∃ A0 c0,v = .tuple #[.slice A0 r.1.length c0,iq r.2]/\Ln=[.r A0 r.1.length c0 103 2 (r.1.flatMap Ar)]/\True):=⟨by
 rintro K _ r ⟨E0,G0,E1,G1,E2,G2,rfl,ha0,ha1,ha2,-⟩ hx w hK;replace ha0:=Has.lo ha0 hK;replace ha1:=Has.lo ha1 hK;replace ha2:=Has.lo ha2 hK;unfold Si at hx;refine CtS ntmps108 results108 ?_;exact au⟩
instance(p0:Aq)(p1:Aa):Con (Pw p0 p1) prog 40 (fun K vs=>∃ E0 G0 E1 G1 E2 G2,vs=[.agg #[.slice E0 p0.V.length G0,.slice E1 p0.T.length G1,.slice E2 p0.Lines.length G2],.agg #[iq p1.Id,iq p1.X,iq p1.Y,iq p1.Z.Lo,iq p1.Z.Hi,iq p1.Wide,iq p1.Num,iq p1.Of,iq p1.Class]]/\Has K E0 p0.V.length G0 4 Ak p0.V/\Has K E1 p0.T.length G1 3 Ax p0.T/\Has K E2 p0.Lines.length G2 2 Ar p0.Lines/\True) (fun _ r=>fun v Ln=>v = .tuple #[.agg #[iq r.1.Lo,iq r.1.Hi],.bool r.2]/\Ln=[]/\True):=⟨by
 rintro K _ r ⟨E0,G0,E1,G1,E2,G2,rfl,ha0,ha1,ha2,-⟩ hx w hK;replace ha0:=Has.lo ha0 hK;replace ha1:=Has.lo ha1 hK;replace ha2:=Has.lo ha2 hK;unfold Pw at hx;refine CtS ntmps40 results40 ?_;exact au⟩
instance(p0:List Aa)(p1:List Int)(p2:Aq)(p3:Ag):Con (Oe p0 p1 p2 p3) prog 54 (fun K vs=>∃ E0 G0 E1 G1 E2 G2 E3 G3 E4 G4,vs=[.slice E0 p0.length G0,.slice E1 p1.length G1,.agg #[.slice E2 p2.V.length G2,.slice E3 p2.T.length G3,.slice E4 p2.Lines.length G4],.agg #[iq p3.Cell,iq p3.Reach,iq p3.Slope,iq p3.Link,iq p3.Flat,iq p3.Tall,iq p3.High,iq p3.Low,iq p3.Brush,iq p3.Few]]/\Has K E0 p0.length G0 9 Ai p0/\Has K E1 p1.length G1 1 Af p1/\Has K E2 p2.V.length G2 4 Ak p2.V/\Has K E3 p2.T.length G3 3 Ax p2.T/\Has K E4 p2.Lines.length G4 2 Ar p2.Lines/\True) (fun _ r=>fun v Ln=>∃ A0 c0,v = .slice A0 r.length c0/\Ln=[.r A0 r.length c0 30 9 (r.flatMap Ai)]/\True):=⟨by
 rintro K _ r ⟨E0,G0,E1,G1,E2,G2,E3,G3,E4,G4,rfl,ha0,ha1,ha2,ha3,ha4,-⟩ hx w hK;replace ha0:=Has.lo ha0 hK;replace ha1:=Has.lo ha1 hK;replace ha2:=Has.lo ha2 hK;replace ha3:=Has.lo ha3 hK;replace ha4:=Has.lo ha4 hK;unfold Oe at hx;have:=dl 5 [1,0,0,0,1,2,0,0,0,4,3,2] [0,1,2,3,4,5,6,7,8,9,10,11] [9];have:=dl 6 [0,0,0,0,0,0,1,0,0,0,0,1,0,1,0,0,0,0,1,0,1,0,0,0,0,0,0,0,0,1,2,0,0,0,0,0,0,0,1,1,2,0,0] [0,1,2,3,4,5,6,7,8,9,10,11,12,13,14,15,16,17,18,19,20,21,22,23,24,25,26,27,28,29,30,31,32,33,34,35,36,37,38,39,40,41,42];have:=dl 19 [0,0,0,0,1,0,0,0,0,1,2,2] [0,1,2,3,4,5,6,7,8,9,10,11];have:=dl 20 [0,0,0,1,0,0,0,1,2,0,1,0,1,0,0,0,0,0,0,0,1,0,0,0,0,1,2,0,1,0,0] [0,1,2,3,4,5,6,7,9,10,11,12,13,8,14,15,16,17,18,19,20,21,22,23,24,25,27,28,26,29,30];have:=dl 21 [0,0,0,1,0,0,0,1,2,2] [0,1,2,3,4,5,6,7,8,9];have:=dl 35 [0,0,0,1,0,0,0,1,0] [0,1,2,3,4,5,6,7,8];refine CtS ntmps54 results54 ?_;try (refine pre ?_;intros;rename_i hx)
 refine Bh ?_;try (refine pre ?_;intros;rename_i hx)
 refine Bh ?_;try (refine pre ?_;intros;rename_i hx)
 apply Jr (γ:=Option Addr × Nat) hx [7] (fun s3 y3 f=>(9,.slice y3.1 s3.length y3.2)::f) [0,999] (fun s3 y3 l=>.r y3.1 s3.length y3.2 30 9 (s3.flatMap Ai)::l);exact kk
 ·intro s3 y3 hx;try (refine pre ?_;intros;rename_i hx)
  apply Jr (γ:=Option Addr × Nat) hx [7,13,16] (fun s0 y0 f=>(18,.slice y0.1 s0.length y0.2)::f) [1,6,9,999] (fun s0 y0 l=>.r y0.1 s0.length y0.2 3 1 (s0.flatMap Af)::l);exact kk
  ·intro s0 y0 hx;apply Jr (γ:=Option Addr × Nat) hx [7,13] (fun s1 y1 f=>(18,.slice y1.1 s1.length y1.2)::f) [2,3,999] (fun s1 y1 l=>.r y1.1 s1.length y1.2 3 1 (s1.flatMap Af)::l);exact kk
   ·intro s1 y1 hx;try (refine pre ?_;intros;rename_i hx)
    refine Bh ?_;try (refine pre ?_;intros;rename_i hx)
    apply Jr (γ:=Option Addr × Nat) hx [] (fun s2 y2 f=>(26,.slice y2.1 s2.length y2.2)::f) [999] (fun s2 y2 l=>.r y2.1 s2.length y2.2 30 9 (s2.flatMap Ai)::l);exact kk
    ·intro s2 y2 hx;exact au
    ·intro _ hx;try (refine pre ?_;intros;rename_i hx)
     refine Bi 30 9 ?_;apply Lr (γ:=Option Addr × Nat) hx [7,13,18] (fun s4 y4 f=>(26,.slice y4.1 s4.1.length y4.2)::(27,iq s4.2)::f) [1,2,3,999] (fun s4 y4 l=>.r y4.1 s4.1.length y4.2 30 9 (s4.1.flatMap Ai)::l) (_,_);exact kk;exact sk;intro s4 y4 x0 hx _;unfold Fv at hx;try (refine pre ?_;intros;rename_i hx)
     refine Cq1 (s:=195) hx rfl (fun _ hx=>?_) (fun _ hx=>?_)
     ·try (refine pre ?_;intros;rename_i hx)
      apply Jr (γ:=Option Addr × Nat) hx [7,13,18,27] (fun s5 y5 f=>(26,.slice y5.1 s5.length y5.2)::f) [1,2,3,999] (fun s5 y5 l=>.r y5.1 s5.length y5.2 30 9 (s5.flatMap Ai)::l);exact kk
      ·intro s5 y5 hx;exact au
      ·intro _ hx;try (refine pre ?_;intros;rename_i hx)
       refine Bh ?_;try (refine pre ?_;intros;rename_i hx)
       apply Jr (γ:=Unit) hx [7,13,18,26,27] (fun s6 y6 f=>(28,iq s6)::f) [0,1,2,3,999] (fun s6 y6 l=>l);exact kk
       ·intro s6 y6 hx;exact au
       ·intro _ hx;try (refine pre ?_;intros;rename_i hx)
        apply Lr (γ:=Unit) hx [7,13,18,26,27] (fun s7 y7 f=>(28,iq s7.1)::(29,iq s7.2)::f) [0,1,2,3,999] (fun s7 y7 l=>l) ();exact kk;exact sk;intro s7 y7 x1 hx _;unfold Iq at hx;exact au
     ·exact au
   ·intro _ hx;try (refine pre ?_;intros;rename_i hx)
    apply Lr (γ:=Option Addr × Nat) hx [7,13,16] (fun s8 y8 f=>(18,.slice y8.1 s8.1.length y8.2)::(20,iq s8.2)::f) [1,2,3,999] (fun s8 y8 l=>.r y8.1 s8.1.length y8.2 3 1 (s8.1.flatMap Af)::l) (_,_);exact kk;exact sk;intro s8 y8 x2 hx _;unfold Fu at hx;try (refine pre ?_;intros;rename_i hx)
    refine Cq1 (s:=124) hx rfl (fun _ hx=>?_) (fun _ hx=>?_)
    ·try (refine pre ?_;intros;rename_i hx)
     apply Jr (γ:=Option Addr × Nat) hx [7,13,16,20] (fun s9 y9 f=>(18,.slice y9.1 s9.length y9.2)::f) [1,2,3,999] (fun s9 y9 l=>.r y9.1 s9.length y9.2 3 1 (s9.flatMap Af)::l);exact kk
     ·intro s9 y9 hx;exact au
     ·intro _ hx;refine Aqj hx ?_;clear hx;intro _ hq_ hx;replace hx:=Asq hx hq_;try (refine pre ?_;intros;rename_i hx)
      refine Bh ?_;try (refine pre ?_;intros;rename_i hx)
      refine Bh ?_;try (refine pre ?_;intros;rename_i hx)
      apply Jr (γ:=Unit) hx [7,13,16,18,20,21,22] (fun s50 y50 f=>(167,.bool s50)::f) [0,1,2,3,999] (fun s50 y50 l=>l);exact kk
      ·intro s50 y50 hx;refine Cq3 (s:=167) hx rfl (fun _ hx=>?_) (fun _ hx=>?_)
       ·exact au
       ·try (refine pre ?_;intros;rename_i hx)
        apply Lr (γ:=Option Addr × Nat) hx [7,13,16,20,23,24] (fun s10 y10 f=>(18,.slice y10.1 s10.1.length y10.2)::(25,iq s10.2)::f) [1,2,3,999] (fun s10 y10 l=>.r y10.1 s10.1.length y10.2 3 1 (s10.1.flatMap Af)::l) (_,_);exact kk;exact sk;intro s10 y10 x3 hx _;unfold Ip at hx;exact au
      ·intro _ hx;exact au
    ·exact au
  ·intro _ hx;try (refine pre ?_;intros;rename_i hx)
   apply Lr (γ:=Option Addr × Nat) hx [7,13,16] (fun s11 y11 f=>(18,.slice y11.1 s11.1.length y11.2)::(19,iq s11.2)::f) [1,6,9,999] (fun s11 y11 l=>.r y11.1 s11.1.length y11.2 3 1 (s11.1.flatMap Af)::l) (_,_);exact kk;exact sk;intro s11 y11 x4 hx _;unfold Ft at hx;exact au
 ·intro _ hx;try (refine pre ?_;intros;rename_i hx)
  refine Bi 30 9 ?_;apply Lr (γ:=Option Addr × Nat) hx [0,1,6,7] (fun s13 y13 f=>(9,.slice y13.1 s13.1.length y13.2)::(10,iq s13.2)::f) [1,2,999] (fun s13 y13 l=>.r y13.1 s13.1.length y13.2 30 9 (s13.1.flatMap Ai)::l) (_,_);exact kk;exact sk;intro s13 y13 x5 hx _;unfold Gq at hx;try (refine pre ?_;intros;rename_i hx)
  refine Cq1 (s:=33) hx rfl (fun _ hx=>?_) (fun _ hx=>?_)
  ·try (refine pre ?_;intros;rename_i hx)
   apply Jr (γ:=Option Addr × Nat) hx [0,1,6,7,10] (fun s12 y12 f=>(9,.slice y12.1 s12.length y12.2)::f) [1,2,999] (fun s12 y12 l=>.r y12.1 s12.length y12.2 30 9 (s12.flatMap Ai)::l);exact kk
   ·intro s12 y12 hx;exact au
   ·intro _ hx;try (refine pre ?_;intros;rename_i hx)
    apply Jr (γ:=Unit) hx [0,1,6,7,9,10] (fun s14 y14 f=>(87,.bool s14)::f) [1,2,3,999] (fun s14 y14 l=>l);exact kk
    ·intro s14 y14 hx;exact au
    ·intro _ hx;try (refine pre ?_;intros;rename_i hx)
     refine (Cb3 (s:=46) hx rfl (fun _ hx=>?_) (fun _ hx=>?_)) ⟨_,_,rfl,rfl⟩
     ·try (refine pre ?_;intros;rename_i hx)
      refine (Cb1 (s:=54) hx rfl (fun _ hx=>?_) (fun _ hx=>?_)) ⟨_,_,rfl,rfl⟩
      ·exact au
      ·exact au
     ·exact au
  ·exact au⟩
instance(p0:List Aa)(p1:List Int)(p2:Ag):Con (Og p0 p1 p2) prog 22 (fun K vs=>∃ E0 G0 E1 G1,vs=[.slice E0 p0.length G0,.slice E1 p1.length G1,.agg #[iq p2.Cell,iq p2.Reach,iq p2.Slope,iq p2.Link,iq p2.Flat,iq p2.Tall,iq p2.High,iq p2.Low,iq p2.Brush,iq p2.Few]]/\Has K E0 p0.length G0 9 Ai p0/\Has K E1 p1.length G1 1 Af p1/\True) (fun _ r=>fun v Ln=>∃ A0 c0,v = .tuple #[.slice A0 r.1.length c0,iq r.2]/\Ln=[.r A0 r.1.length c0 3 1 (r.1.flatMap Af)]/\True):=⟨by
 rintro K _ r ⟨E0,G0,E1,G1,rfl,ha0,ha1,-⟩ hx w hK;replace ha0:=Has.lo ha0 hK;replace ha1:=Has.lo ha1 hK;unfold Og at hx;refine CtS ntmps22 results22 ?_;exact au⟩
instance Zv(p0:List Aa)(p1:List Int)(p2:Ag):Con (Hd p0 p1 p2) prog 6 (fun K vs=>∃ E0 G0 E1 G1,vs=[.slice E0 p0.length G0,.slice E1 p1.length G1,.agg #[iq p2.Cell,iq p2.Reach,iq p2.Slope,iq p2.Link,iq p2.Flat,iq p2.Tall,iq p2.High,iq p2.Low,iq p2.Brush,iq p2.Few]]/\Has K E0 p0.length G0 9 Ai p0/\Has K E1 p1.length G1 1 Af p1/\True) (fun _ r=>fun v Ln=>v = .bool r/\Ln=[]/\True):=⟨by
 rintro K _ r ⟨E0,G0,E1,G1,rfl,ha0,ha1,-⟩ hx w hK;replace ha0:=Has.lo ha0 hK;replace ha1:=Has.lo ha1 hK;unfold Hd at hx;refine CtS ntmps6 results6 ?_;try (refine pre ?_;intros;rename_i hx)
 refine Bh ?_;try (refine pre ?_;intros;rename_i hx)
 refine Bh ?_;try (refine pre ?_;intros;rename_i hx)
 apply Jr (γ:=Unit) hx [0,1,5] (fun s3 y3 f=>(17,.bool s3)::f) [0,999] (fun s3 y3 l=>l);exact kk
 ·intro s3 y3 hx;exact au
 ·intro _ hx;exact au⟩
theorem Zd(p0:List Aa)(p1:List Int)(p2:Ag){K:List Ent}{E0:Option Addr}{G0:Nat}{E1:Option Addr}{G1:Nat}(ha0:Has K E0 p0.length G0 9 Ai p0)(ha1:Has K E1 p1.length G1 1 Af p1){r:Bool}(hx:Hd p0 p1 p2=some r)(w:World)(hK:∀ e∈K,Ent.ok w e):CtL prog 6 [.slice E0 p0.length G0,.slice E1 p1.length G1,.agg #[iq p2.Cell,iq p2.Reach,iq p2.Slope,iq p2.Link,iq p2.Flat,iq p2.Tall,iq p2.High,iq p2.Low,iq p2.Brush,iq p2.Few]] w fun v Ln=>v = .bool r/\Ln=[]/\True:=(Zv p0 p1 p2).h K _ _ ⟨_,_,_,_,rfl,ha0,ha1,trivial⟩ hx w hK
end Go.Proofs.YthlkpgdfifnagaaGreat
