/- The sides of a mesh: the program's list and the reference's. -/
import Derived.Test.YtjfndjmabhbicaaGreatU22
import Derived.Test.YtjfndjmabhbicaaGreatS4
import Derived.Test.YtjfndjmabhbicaaGreatU24
namespace Go.Proofs.YtjfndjmabhbicaaGreat
open Go Go.RowKit
section
variable {v:List Ab} {L:List Aa} {T:List Ae} {m:Mp}
abbrev Q2:=List (Aa × Bool) × List Aa
noncomputable def add2 (q:Q2) (s:Aa):Q2:=if (mget q.1 s).getD false=true then q else (mput q.1 s true,q.2++[s])
structure Took (q:Q2) (P:Aa->Prop):Prop where
 ok:Dj q.1
 same:∀ s,(mget q.1 s).getD false=true↔s∈q.2
 nd:q.2.Nodup
 mem:∀ s,s∈q.2↔P s
 len:q.1.length<=q.2.length
theorem Took.nil:Took ([],[]) (fun _=>False):=⟨List.Pairwise.nil,fun s=>by simp [mget],List.nodup_nil,fun s=>by simp,Nat.le_refl _⟩
theorem Took.add {q:Q2} {P:Aa->Prop} (h:Took q P) (s:Aa):Took (add2 q s) (fun x=>P x\/x=s)/\(add2 q s).2.length<=q.2.length+1:=by
 unfold add2
 by_cases c:(mget q.1 s).getD false=true
 ·rw [if_pos c]
  have hs:=(h.mem s).1 ((h.same s).1 c)
  refine ⟨⟨h.ok,h.same,h.nd,fun x=>(h.mem x).trans ⟨.inl,fun g=>g.elim id fun e=>by rw [e];exact hs⟩,h.len⟩,by omega⟩
 ·rw [if_neg c]
  have hn:s ∉ q.2:=fun g=>c ((h.same s).2 g)
  refine ⟨⟨h.ok.put _ _,fun x=>?_,?_,fun x=>?_,?_⟩,by simp⟩
  ·dsimp only
   rw [Mz h.ok]
   by_cases e:x=s
   ·rw [if_pos e,e];simp
   ·rw [if_neg e,h.same x];simp [e]
  ·dsimp only
   rw [Qc];exact ⟨h.nd,hn⟩
  ·dsimp only
   rw [List.mem_append,List.mem_singleton,h.mem x]
  ·dsimp only
   have:=Tb q.1 s
   rw [List.length_append,List.length_singleton]
   have:=h.len
   omega
def cn3 (t:Ae) (k:Nat):Aa:=if k=0 then pr2 t.a0 t.a1 else if k=1 then pr2 t.a1 t.a2 else pr2 t.a2 t.a0
theorem Al0 (t:Ae) {k:Nat} (hk:k < 3):∃ x y,idx [t.a0,t.a1,t.a2] (k:Int)=some x/\idx [t.a0,t.a1,t.a2] (Int.tmod (w64 ((k:Int)+1)) 3)=some y/\pr2 x y=cn3 t k:=by
 have:k=0\/k=1\/k=2:=by omega
 rcases this with rfl | rfl | rfl
 ·exact ⟨t.a0,t.a1,rfl,by rw [Ay (by omega) (by omega)];rfl,rfl⟩
 ·exact ⟨t.a1,t.a2,rfl,by rw [Ay (by omega) (by omega)];rfl,rfl⟩
 ·exact ⟨t.a2,t.a0,rfl,by rw [Ay (by omega) (by omega)];rfl,rfl⟩
def mod3 (t:Ae):Prop:=(0<=t.a0/\t.a0<=1000000)/\(0<=t.a1/\t.a1<=1000000)/\(0<=t.a2/\t.a2<=1000000)
theorem Aa1 {t:Ae} (h:mod3 t) (k:Nat):(0<=(cn3 t k).a0/\(cn3 t k).a0<=1000000)/\0<=(cn3 t k).a1/\(cn3 t k).a1<=1000000:=by
 unfold mod3 at h
 unfold cn3 pr2
 split
 ·dsimp only;omega
 ·split
  ·dsimp only;omega
  ·dsimp only;omega
theorem Aa2 {t:Ae} (ht:mod3 t) {q:Q2} (h1:q.1.length<=1000000000) (h2:q.2.length<=1000000000) {k:Nat} (hk:k < 3):Hn t (q.1,q.2,(k:Int))=some (.inl ((add2 q (cn3 t k)).1,(add2 q (cn3 t k)).2,((k+1:Nat):Int))):=by
 obtain ⟨x,y,e1,e2,e3⟩:=Al0 t hk
 obtain ⟨⟨b1,b2⟩,b3,b4⟩:=Aa1 ht k
 unfold Hn
 dsimp only
 rw [if_pos (by omega),jn_d,e1,Ad,e2,Ad,show Dn x y=some (pr2 x y) from rfl,Ad,e3]
 dsimp only
 rw [gd_t ⟨⟨by omega,by omega⟩,by omega,by omega⟩,Ad]
 unfold add2
 by_cases c:(mget q.1 (cn3 t k)).getD false=true
 ·rw [if_pos c,if_pos c,Au (by omega)]
 ·rw [if_neg c,if_neg c,gd_t ⟨⟨by omega,by omega⟩,by omega,by omega⟩,gd_t (by omega),gd_t (by omega),Au (by omega)]
theorem Yk {n:Nat} {q0:List Aa × List (Aa × Bool)} {t:Ae} (hn:n < T.length) (e0:T[n]=t) (ht:mod3 t) {q:Q2} (h1:q.1.length<=1000000000) (h2:q.2.length<=1000000000) {k:Nat} (hk:k < 3):Ee T (q0.1,q0.2,(n:Int)) (q.2,q.1,(k:Int))=some (.inl ((add2 q (cn3 t k)).2,(add2 q (cn3 t k)).1,((k+1:Nat):Int))):=by
 obtain ⟨x,y,e1,e2,e3⟩:=Al0 t hk
 obtain ⟨⟨b1,b2⟩,b3,b4⟩:=Aa1 ht k
 unfold Ee
 dsimp only
 have e4:(⟨min x y,max x y⟩:Aa)=cn3 t k:=e3
 have e5:min x y=(cn3 t k).a0:=by rw [<- e3];rfl
 have e6:max x y=(cn3 t k).a1:=by rw [<- e3];rfl
 rw [if_pos (by omega),jn_d,As hn,Ad,e0,e1,Ad,Ad,e2,Ad,gd_t ⟨⟨by omega,by omega⟩,by omega,by omega⟩,e4,Ad]
 unfold add2
 by_cases c:(mget q.1 (cn3 t k)).getD false=true
 ·rw [if_pos c,if_pos c,Au (by omega)]
 ·rw [if_neg c,if_neg c,gd_t ⟨⟨by omega,by omega⟩,by omega,by omega⟩,gd_t (by omega),gd_t (by omega),Au (by omega)]
noncomputable def add3 (q:Q2) (t:Ae):Q2:=add2 (add2 (add2 q (cn3 t 0)) (cn3 t 1)) (cn3 t 2)
theorem Took.addt {q:Q2} {P:Aa->Prop} (h:Took q P) (t:Ae):Took (add3 q t) (fun x=>P x\/∃ k,k < 3/\x=cn3 t k)/\(add3 q t).2.length<=q.2.length+3:=by
 obtain ⟨h1,l1⟩:=h.add (cn3 t 0)
 obtain ⟨h2,l2⟩:=h1.add (cn3 t 1)
 obtain ⟨h3,l3⟩:=h2.add (cn3 t 2)
 refine ⟨⟨h3.ok,h3.same,h3.nd,fun x=>(h3.mem x).trans ?_,h3.len⟩,by show (add2 (add2 (add2 q (cn3 t 0)) (cn3 t 1)) (cn3 t 2)).2.length<=_;omega⟩
 constructor
 ·rintro (((g | g) | g) | g)
  ·exact .inl g
  ·exact .inr ⟨0,by omega,g⟩
  ·exact .inr ⟨1,by omega,g⟩
  ·exact .inr ⟨2,by omega,g⟩
 ·rintro (g | ⟨k,hk,g⟩)
  ·exact .inl (.inl (.inl g))
  ·have:k=0\/k=1\/k=2:=by omega
   rcases this with rfl | rfl | rfl
   ·exact .inl (.inl (.inr g))
   ·exact .inl (.inr g)
   ·exact .inr g
theorem Aka {t:Ae} (ht:mod3 t) {q:Q2} {P:Aa->Prop} (h:Took q P) (h2:q.2.length<=100000000):lfix (Hn t) (q.1,q.2,0)=some ((add3 q t).1,(add3 q t).2):=by
 obtain ⟨g1,l1⟩:=h.add (cn3 t 0)
 obtain ⟨g2,l2⟩:=g1.add (cn3 t 1)
 obtain ⟨g3,l3⟩:=g2.add (cn3 t 2)
 have n0:=h.len
 have n1:=g1.len
 have n2:=g2.len
 rw [Bf,show ((0:Int))=((0:Nat):Int) from rfl,Aa2 ht (by omega) (by omega) (by omega)]
 simp only [Nat.reduceAdd]
 rw [Bf,Aa2 ht (by omega) (by omega) (by omega)]
 simp only [Nat.reduceAdd]
 rw [Bf,Aa2 ht (by omega) (by omega) (by omega)]
 simp only [Nat.reduceAdd]
 rw [Bf]
 have:Hn t ((add2 (add2 (add2 q (cn3 t 0)) (cn3 t 1)) (cn3 t 2)).1,(add2 (add2 (add2 q (cn3 t 0)) (cn3 t 1)) (cn3 t 2)).2,((3:Nat):Int))=some (.inr ((add3 q t).1,(add3 q t).2)):=by
  unfold Hn
  dsimp only
  rw [if_neg (by omega)]
  rfl
 rw [this]
theorem Anu {n:Nat} {q0:List Aa × List (Aa × Bool)} {t:Ae} (hn:n < T.length) (e0:T[n]=t) (ht:mod3 t) {q:Q2} {P:Aa->Prop} (h:Took q P) (h2:q.2.length<=100000000):lfix (Ee T (q0.1,q0.2,(n:Int))) (q.2,q.1,0)=some ((add3 q t).2,(add3 q t).1):=by
 obtain ⟨g1,l1⟩:=h.add (cn3 t 0)
 obtain ⟨g2,l2⟩:=g1.add (cn3 t 1)
 obtain ⟨g3,l3⟩:=g2.add (cn3 t 2)
 have n0:=h.len
 have n1:=g1.len
 have n2:=g2.len
 rw [Bf,show ((0:Int))=((0:Nat):Int) from rfl,Yk hn e0 ht (by omega) (by omega) (by omega)]
 simp only [Nat.reduceAdd]
 rw [Bf,Yk hn e0 ht (by omega) (by omega) (by omega)]
 simp only [Nat.reduceAdd]
 rw [Bf,Yk hn e0 ht (by omega) (by omega) (by omega)]
 simp only [Nat.reduceAdd]
 rw [Bf]
 have:Ee T (q0.1,q0.2,(n:Int)) ((add2 (add2 (add2 q (cn3 t 0)) (cn3 t 1)) (cn3 t 2)).2,(add2 (add2 (add2 q (cn3 t 0)) (cn3 t 1)) (cn3 t 2)).1,((3:Nat):Int))=some (.inr ((add3 q t).2,(add3 q t).1)):=by
  unfold Ee
  dsimp only
  rw [if_neg (by omega)]
  rfl
 rw [this]
def Tl (T:List Ae) (s:Aa):Prop:=∃ t∈T,∃ k,k < 3/\s=cn3 t k
theorem Tl.snoc {t:Ae} {s:Aa}:Tl (T++[t]) s↔Tl T s\/∃ k,k < 3/\s=cn3 t k:=by
 unfold Tl
 simp only [List.mem_append,List.mem_singleton,or_and_right,exists_or,exists_eq_left]
noncomputable def addT (T:List Ae):Q2:=T.foldl add3 ([],[])
theorem Aa3 (t:Ae):addT (T++[t])=add3 (addT T) t:=by unfold addT;rw [List.foldl_append];rfl
theorem Ago:∀ (n:Nat) (T:List Ae),T.length=n->Took (addT T) (Tl T)/\(addT T).2.length<=3*T.length
 | 0,T,h=>by
  obtain rfl:=List.length_eq_zero_iff.1 h
  refine ⟨⟨Took.nil.ok,Took.nil.same,Took.nil.nd,fun s=>?_,Nat.le_refl _⟩,by simp [addT]⟩
  simp [addT,Tl]
 | n+1,T,h=>by
  obtain ⟨r,t,rfl⟩:∃ r t,T=r++[t]:=by
   have hne:T≠[]:=fun e=>by rw [e] at h;simp at h
   exact ⟨T.dropLast,T.getLast hne,(List.dropLast_concat_getLast hne).symm⟩
  obtain ⟨h1,h2⟩:=Ago n r (by simpa using h)
  obtain ⟨h3,h4⟩:=h1.addt t
  rw [Aa3]
  refine ⟨⟨h3.ok,h3.same,h3.nd,fun s=>(h3.mem s).trans Tl.snoc.symm,h3.len⟩,?_⟩
  rw [List.length_append,List.length_singleton]
  omega
theorem Ack (p:Aw) (hT:p.T.length<=2000000) (hm:∀ t∈p.T,mod3 t):lfix (Mc p) ([],[],0)=some (addT p.T).2:=by
 obtain ⟨t,t1,t2⟩:=Bk (B:=Mc p) (fun s=>p.T.length-s.2.2.toNat)
  (fun s=>∃ k:Nat,k<=p.T.length/\s=((addT (p.T.take k)).1,(addT (p.T.take k)).2,(k:Int))) (fun t=>t=(addT p.T).2) (by
   rintro s ⟨k,hk,rfl⟩
   unfold Mc
   dsimp only
   by_cases hlt:k < p.T.length
   ·left
    obtain ⟨h1,h2⟩:=Ago _ (p.T.take k) rfl
    have hl:(p.T.take k).length=k:=by rw [List.length_take];omega
    rw [if_pos (by omega),jn_d,As hlt,Ad,Aka (hm _ (List.getElem_mem hlt)) h1 (by omega),Ad]
    dsimp only
    rw [Au (by omega)]
    exact ⟨_,rfl,⟨k+1,by omega,by rw [Bl hlt,Aa3]⟩,by dsimp only;omega⟩
   ·right
    obtain rfl:k=p.T.length:=by omega
    rw [if_neg (by omega)]
    exact ⟨_,rfl,by rw [List.take_length]⟩)
  ([],[],0) ⟨0,by omega,rfl⟩
 rw [t1,t2]
theorem Adn (hT:T.length<=2000000) (hm:∀ t∈T,mod3 t):lfix (Hy T) ([],[],0)=some (addT T).2:=by
 obtain ⟨t,t1,t2⟩:=Bk (B:=Hy T) (fun s=>T.length-s.2.2.toNat)
  (fun s=>∃ k:Nat,k<=T.length/\s=((addT (T.take k)).2,(addT (T.take k)).1,(k:Int))) (fun t=>t=(addT T).2) (by
   rintro s ⟨k,hk,rfl⟩
   unfold Hy
   dsimp only
   by_cases hlt:k < T.length
   ·left
    obtain ⟨h1,h2⟩:=Ago _ (T.take k) rfl
    have hl:(T.take k).length=k:=by rw [List.length_take];omega
    rw [if_pos (by omega),jn_d,Anu (q0:=((addT (T.take k)).2,(addT (T.take k)).1)) hlt rfl (hm _ (List.getElem_mem hlt)) h1 (by omega),Ad]
    dsimp only
    rw [Au (by omega)]
    exact ⟨_,rfl,⟨k+1,by omega,by rw [Bl hlt,Aa3]⟩,by dsimp only;omega⟩
   ·right
    obtain rfl:k=T.length:=by omega
    rw [if_neg (by omega)]
    exact ⟨_,rfl,by rw [List.take_length]⟩)
  ([],[],0) ⟨0,by omega,rfl⟩
 rw [t1,t2]
theorem Akb (v:List Ab) (L:List Aa) (hT:T.length<=300000) (hm:∀ t∈T,mod3 t):∃ S,Ke ⟨v,T,L⟩=some S/\Fe T=some S/\S.Nodup/\(∀ s,s∈S↔Tl T s)/\S.length<=3*T.length/\S.Pairwise (fun x y=>¬ cmp2 y x < 0):=by
 obtain ⟨h1,h2⟩:=Ago _ T rfl
 have sm:∀ s∈(addT T).2,Ia s:=fun s hs=>by
  obtain ⟨t,ht,k,_,rfl⟩:=(h1.mem s).1 hs
  obtain ⟨⟨b1,b2⟩,b3,b4⟩:=Aa1 (hm t ht) k
  exact ⟨⟨by omega,by omega⟩,by omega,by omega⟩
 have pl:(addT T).2.map prL=(addT T).2:=Al9 fun s hs=>by
  obtain ⟨t,ht,k,_,rfl⟩:=(h1.mem s).1 hs
  unfold cn3 pr2
  split
  ·dsimp only;omega
  ·split
   ·dsimp only;omega
   ·dsimp only;omega
 refine ⟨An cmp2 (addT T).2,?_,?_,((Cg _ _).nodup_iff).2 h1.nd,fun s=>Et.trans (h1.mem s),by rw [(Cg _ _).length_eq];exact h2,Gz tot2 sm⟩
 ·unfold Ke
  rw [jn_d,Ack ⟨v,T,L⟩ (by dsimp only;omega) hm,Ad]
  dsimp only
  rw [gd_t ⟨by omega,sm⟩]
 ·unfold Fe
  rw [jn_d,Adn (by omega) hm,Ad]
  dsimp only
  rw [Vj (by omega) (by rw [pl];exact sm),pl,Ad]
end
section
variable {v:List Ab} {m:Mp} {L:List Aa} {T:List Ae} {α β:Int}
theorem Afn {P:Int->Ac} {p:Int}:∀ {N:List Int},N≠[]->(∀ z∈N,ph α β (P p) < ph α β (P z))->∃ x∈N,∀ z∈N,crs (P p) (P x) (P z)<=0
 | [],h,_=>absurd rfl h
 | [x],_,_=>⟨x,by simp,fun z hz=>by rw [List.mem_singleton] at hz;subst hz;rw [Mk];omega⟩
 | y::w::r,_,ha=>by
  obtain ⟨x,hx,hm⟩:=Afn (N:=w::r) (by simp) (fun z hz=>ha z (List.mem_cons_of_mem _ hz))
  have ax:=ha x (List.mem_cons_of_mem _ hx)
  have ay:=ha y (by simp)
  by_cases c:crs (P p) (P x) (P y)<=0
  ·refine ⟨x,List.mem_cons_of_mem _ hx,fun z hz=>?_⟩
   rcases List.mem_cons.1 hz with rfl | hz
   ·exact c
   ·exact hm z hz
  ·refine ⟨y,by simp,fun z hz=>?_⟩
   rcases List.mem_cons.1 hz with rfl | hz
   ·rw [Mk];omega
   ·have az:=ha z (List.mem_cons_of_mem _ hz)
    have id:=Tq α β (P p) (P x) (P y) (P z)
    have e:crs (P p) (P z) (P x) = -crs (P p) (P x) (P z):=Av _ _ _
    have h1:=hm z hz
    rw [e] at id
    have t2:=Int.mul_nonneg (show 0<=ph α β (P y)-ph α β (P p) by omega) (show 0<=-crs (P p) (P x) (P z) by omega)
    have t3:=Int.mul_pos (show 0 < ph α β (P z)-ph α β (P p) by omega) (show 0 < crs (P p) (P x) (P y) by omega)
    refine Classical.byContradiction fun n=>?_
    have:=Int.mul_nonneg (show 0<=ph α β (P x)-ph α β (P p) by omega) (show 0<=crs (P p) (P y) (P z) by omega)
    omega
def upS (v:List Ab) (m:Mp) (α β:Int) (p:Int) (s:Int × Int):Prop:=s.1=p/\ph α β (plV v p) < ph α β (plV v s.2)/\∃ y,apM m p s.2=some y/\ph α β (plV v y) < ph α β (plV v p)
def inS (v:List Ab) (α β:Int) (p:Int) (s:Int × Int):Prop:=s.2=p/\ph α β (plV v p) < ph α β (plV v s.1)
noncomputable instance (p:Int) (s:Int × Int):Decidable (upS v m α β p s):=Classical.propDecidable _
noncomputable instance (p:Int) (s:Int × Int):Decidable (inS v α β p s):=Classical.propDecidable _
theorem Akc (hv:Be v) (hM:Mesh v L m) (hT:Ix v m T) (inj:∀ a b,inN v.length a->inN v.length b->ph α β (plV v a)=ph α β (plV v b)->a=b)
  (free:∀ {p q},(p,q)∈bds m T->∀ k,inN v.length k->crs (plV v p) (plV v q) (plV v k)=0->¬ (ph α β (plV v q) < ph α β (plV v k)/\ph α β (plV v k) < ph α β (plV v p)))
  {p d:Int} (hp:inN v.length p) (hd:inN v.length d) (hpd:ph α β (plV v p) < ph α β (plV v d)) :
  tot (fun s=>if upS v m α β p s then (1:Int) else 0) (T.flatMap Cm)+tot (fun s=>if inS v α β p s then (1:Int) else 0) (bds m T)=1:=by
 have hnS:=Aau hM.tri hT
 have hnB:(bds m T).Nodup:=hnS.filter _
 have vs:∀ {p q},(p,q)∈bds m T->inN v.length p/\inN v.length q/\∀ k,inN v.length k->0<=crs (plV v p) (plV v q) (plV v k):=fun h=>by
  obtain ⟨⟨e,he⟩,h2⟩:=(Lg hM.tri hT).1 h
  obtain ⟨q1,q2,_⟩:=hM.tri.ccw _ _ _ he
  exact ⟨q1,q2,fun k hk=>hM.cov _ _ _ he h2 k hk⟩
 have both:∀ {x x' y'},(x,p)∈bds m T->ph α β (plV v p) < ph α β (plV v x)->apM m p x'=some y'->ph α β (plV v p) < ph α β (plV v x')->ph α β (plV v y') < ph α β (plV v p)->False:=fun {x x' y'} hx ax h' ax' ay'=>by
  obtain ⟨_,vx',vy',A⟩:=hM.tri.ccw _ _ _ h'
  obtain ⟨_,_,hb⟩:=vs hx
  have b1:=hb x' vx'
  have b2:=hb y' vy'
  have id:=Tq α β (plV v p) (plV v x') (plV v y') (plV v x)
  have e1:crs (plV v p) (plV v y') (plV v x)=crs (plV v x) (plV v p) (plV v y'):=by unfold crs;grind
  have e2:crs (plV v p) (plV v x) (plV v x') = -crs (plV v x) (plV v p) (plV v x'):=Ar _ _ _
  rw [e1,e2] at id
  have t1:=Int.mul_nonneg (show 0<=ph α β (plV v x')-ph α β (plV v p) by omega) b2
  have t2:=Int.mul_nonneg (show 0<=ph α β (plV v p)-ph α β (plV v y') by omega) b1
  have t3:=Int.mul_pos (show 0 < ph α β (plV v x)-ph α β (plV v p) by omega) A
  have e3:(ph α β (plV v y')-ph α β (plV v p)) * -crs (plV v x) (plV v p) (plV v x')=(ph α β (plV v p)-ph α β (plV v y'))*crs (plV v x) (plV v p) (plV v x'):=by grind
  omega
 let N:=(inds v.length).filter fun z=>decide (ph α β (plV v p) < ph α β (plV v z)) && ((apM m p z).isSome || (apM m z p).isSome)
 have memN:∀ z,z∈N↔inN v.length z/\ph α β (plV v p) < ph α β (plV v z)/\((∃ e,apM m p z=some e)\/∃ e,apM m z p=some e):=fun z=>by
  simp only [N,List.mem_filter,Gm,Bool.and_eq_true,decide_eq_true_eq,Bool.or_eq_true,Option.isSome_iff_exists]
 have hN:N≠[]:=by
  obtain ⟨x,y,h,g1,g2⟩:=Vo hv hM.map hM.tri hM.cov hM.ne hp hd
  obtain ⟨_,vx,vy,A⟩:=hM.tri.ccw _ _ _ h
  by_cases cx:ph α β (plV v p) < ph α β (plV v x)
  ·exact List.ne_nil_of_mem ((memN x).2 ⟨vx,cx,.inl ⟨y,h⟩⟩)
  ·by_cases cy:ph α β (plV v p) < ph α β (plV v y)
   ·exact List.ne_nil_of_mem ((memN y).2 ⟨vy,cy,.inr ⟨x,hM.tri.rot2 h⟩⟩)
   ·exfalso
    have id:=Tq α β (plV v p) (plV v x) (plV v y) (plV v d)
    have e1:crs (plV v p) (plV v y) (plV v d) = -crs (plV v p) (plV v d) (plV v y):=Av _ _ _
    have e2:crs (plV v p) (plV v d) (plV v x) = -crs (plV v p) (plV v x) (plV v d):=Av _ _ _
    rw [e1,e2] at id
    have t1:=Int.mul_nonneg (show 0<=ph α β (plV v p)-ph α β (plV v x) by omega) g2
    have t2:=Int.mul_nonneg (show 0<=ph α β (plV v p)-ph α β (plV v y) by omega) g1
    have t3:=Int.mul_pos (show 0 < ph α β (plV v d)-ph α β (plV v p) by omega) A
    have e3:(ph α β (plV v x)-ph α β (plV v p)) * -crs (plV v p) (plV v d) (plV v y)=(ph α β (plV v p)-ph α β (plV v x))*crs (plV v p) (plV v d) (plV v y):=by grind
    have e4:(ph α β (plV v y)-ph α β (plV v p)) * -crs (plV v p) (plV v x) (plV v d)=(ph α β (plV v p)-ph α β (plV v y))*crs (plV v p) (plV v x) (plV v d):=by grind
    omega
 obtain ⟨x,hx,most⟩:=Afn (P:=plV v) (α:=α) (β:=β) (p:=p) hN (fun z hz=>((memN z).1 hz).2.1)
 obtain ⟨vx,ax,hside⟩:=(memN x).1 hx
 rcases e:apM m p x with _ | y
 ·-- on the border
  have hxp:(x,p)∈bds m T:=by
   refine (Lg hM.tri hT).2 ⟨?_,e⟩
   rcases hside with ⟨z,hz⟩ | h
   ·rw [e] at hz;cases hz
   ·exact h
  have h1:tot (fun s=>if upS v m α β p s then (1:Int) else 0) (T.flatMap Cm)=0:=Ow fun s _ g=>by
   obtain ⟨_,g2,y',g3,g4⟩:=g
   exact both hxp ax g3 g2 g4
  have h2:tot (fun s=>if inS v α β p s then (1:Int) else 0) (bds m T)=1:=by
   refine Ud (p:=fun s=>inS v α β p s) (x:=(x,p)) hnB hxp fun s hs=>?_
   obtain ⟨x',p'⟩:=s
   constructor
   ·rintro ⟨g1,g2⟩
    dsimp only at g1 g2
    subst g1
    obtain ⟨_,_,hb⟩:=vs hxp
    obtain ⟨vx',_,hb'⟩:=vs hs
    have b1:=hb x' vx'
    have b2:=hb' x vx
    have e1:crs (plV v x') (plV v p') (plV v x) = -crs (plV v x) (plV v p') (plV v x'):=by unfold crs;grind
    have z1:crs (plV v x) (plV v p') (plV v x')=0:=by omega
    have z2:crs (plV v x') (plV v p') (plV v x)=0:=by omega
    rcases Int.lt_trichotomy (ph α β (plV v x)) (ph α β (plV v x')) with c | c | c
    ·exact absurd ⟨ax,c⟩ (free hs x vx z2)
    ·rw [inj x x' vx vx' c]
    ·exact absurd ⟨g2,c⟩ (free hxp x' vx' z1)
   ·intro g;cases g;exact ⟨rfl,ax⟩
  omega
 ·obtain ⟨_,_,vy,A⟩:=hM.tri.ccw _ _ _ e
  have ay:ph α β (plV v y) < ph α β (plV v p):=by
   rcases Int.lt_trichotomy (ph α β (plV v y)) (ph α β (plV v p)) with c | c | c
   ·exact c
   ·exact absurd (inj y p vy hp c).symm (fun w=>(hM.tri.ne e).2.2 w.symm)
   ·have:=most y ((memN y).2 ⟨vy,c,.inr ⟨x,hM.tri.rot2 e⟩⟩)
    omega
  have h2:tot (fun s=>if inS v α β p s then (1:Int) else 0) (bds m T)=0:=Ow fun s hs g=>by
   obtain ⟨x',p'⟩:=s
   obtain ⟨g1,g2⟩:=g
   dsimp only at g1 g2
   subst g1
   exact both hs g2 e ax ay
  have h1:tot (fun s=>if upS v m α β p s then (1:Int) else 0) (T.flatMap Cm)=1:=by
   refine Ud (p:=fun s=>upS v m α β p s) (x:=(p,x)) hnS ((memS hM.tri hT).2 ⟨y,e⟩) fun s hs=>?_
   obtain ⟨p',x'⟩:=s
   constructor
   ·rintro ⟨g1,g2,y',g3,g4⟩
    dsimp only at g1 g2 g3
    subst g1
    have cr:∀ z,crs (plV v p') (plV v z) ⟨(plV v p').X-β,(plV v p').Y+α⟩=ph α β (plV v z)-ph α β (plV v p'):=fun z=>by unfold crs ph;grind
    have cl:∀ z,crs (plV v p') ⟨(plV v p').X-β,(plV v p').Y+α⟩ (plV v z)=ph α β (plV v p')-ph α β (plV v z):=fun z=>by unfold crs ph;grind
    have:=hM.tri.cones (l:=⟨(plV v p').X-β,(plV v p').Y+α⟩) e g3 (by rw [cr];omega) (by rw [cl];omega) (by rw [cr];omega) (by rw [cl];omega)
    rw [this]
   ·intro g;cases g;exact ⟨rfl,ax,y,e,ay⟩
  omega
theorem Aif (hM:Mesh v L m) (hT:Ix v m T) {p:Int} (hl:∀ d,inN v.length d->ph α β (plV v d)<=ph α β (plV v p)) :
  tot (fun s=>if upS v m α β p s then (1:Int) else 0) (T.flatMap Cm)+tot (fun s=>if inS v α β p s then (1:Int) else 0) (bds m T)=0:=by
 have h1:tot (fun s=>if upS v m α β p s then (1:Int) else 0) (T.flatMap Cm)=0:=Ow fun s _ g=>by
  obtain ⟨_,g2,y',g3,g4⟩:=g
  have:=hl _ (hM.tri.ccw _ _ _ g3).2.1
  omega
 have h2:tot (fun s=>if inS v α β p s then (1:Int) else 0) (bds m T)=0:=Ow fun s hs g=>by
  obtain ⟨x',p'⟩:=s
  obtain ⟨⟨e,he⟩,_⟩:=(Lg hM.tri hT).1 hs
  obtain ⟨g1,g2⟩:=g
  have:=hl _ (hM.tri.ccw _ _ _ he).1
  dsimp only at g2
  omega
 omega
theorem Ado {γ δ:Type} (f:γ->δ->Int):∀ (A:List γ) (B:List δ),tot (fun a=>tot (fun b=>f a b) B) A=tot (fun b=>tot (fun a=>f a b) A) B
 | [],B=>by
  have:∀ B:List δ,tot (fun _:δ=>(0:Int)) B=0:=fun B=>by induction B with
   | nil=>rfl
   | cons x r ih=>simp only [tot,ih];rfl
  simp only [tot,this]
 | a::A,B=>by
  simp only [tot]
  rw [Ado f A B,<- Ws]
end
end Go.Proofs.YtjfndjmabhbicaaGreat
