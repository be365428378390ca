/- Sorting by insertion, the stack's sides, the copy of the vertices: what the reference's mesh needs with lines and without. -/
import Derived.Test.YtgfiafnelibjgaaGreatV5
import Derived.Test.YtgfiafnelibjgaaGreatE3
namespace Go.Proofs.YtgfiafnelibjgaaGreat
open Go Go.RowKit
/-! ### sorting by insertion -/
section
variable {α:Type} {lt:α→α→Bool}
theorem Apa (htr:∀ x y z,lt y x=false→lt z y=false→lt z x=false) (has:∀ x y,lt x y=true→lt y x=false) {B:List α × Int→Option (Sum (List α × Int) (List α))}
  (hB:∀ (A:List α) (y x:α) (R:List α),A.length≤100000000→B (A++y::x::R,((A.length+1:Nat):Int))=if lt x y=true then some (.inl (A++x::y::R,((A.length:Nat):Int))) else some (.inr (A++y::x::R)))
  (hB0:∀ (x:α) (R:List α),B (x::R,0)=some (.inr (x::R))) :
  ∀ (n:Nat) (A C D:List α) (x:α),A.length=n→n≤100000000→((A++C).Pairwise fun x y=>lt y x=false)→(∀ c∈C,lt x c=true)→∃ A' C',A' ++ C'=A++C∧lfix B (A++x::(C++D),(A.length:Int))=some (A' ++ x::(C' ++ D))∧(A' ++ x::C').Pairwise fun x y=>lt y x=false:=by
 intro n
 induction n with
 | zero =>
  intro A C D x hA _ hs hc
  have:A=[]:=List.eq_nil_of_length_eq_zero hA
  subst this
  refine ⟨[],C,rfl,?_,?_⟩
  ·rw [List.nil_append,Cb,show ((([]:List α).length:Nat):Int)=0 from rfl,hB0]
  ·exact List.pairwise_cons.2 ⟨fun c hc'=>has _ _ (hc c hc'),hs⟩
 | succ n ih =>
  intro A C D x hA hn hs hc
  obtain ⟨A',y,rfl⟩:∃ A' y,A=A' ++ [y]:=⟨A.dropLast,A.getLast (fun e=>by rw [e] at hA;simp at hA),(List.dropLast_concat_getLast _).symm⟩
  have hA':A'.length=n:=by simpa using hA
  have e1:(A' ++ [y])++x::(C++D)=A' ++ y::x::(C++D):=by simp
  have e2:(((A' ++ [y]).length:Nat):Int)=((A'.length+1:Nat):Int):=by simp
  rw [e1,e2,Cb,hB _ _ _ _ (by omega)]
  by_cases c:lt x y=true
  ·rw [if_pos c]
   dsimp only
   obtain ⟨A2,C2,g1,g2,g3⟩:=ih A' (y::C) D x hA' (by omega) (by simpa using hs) (fun z hz=>by rcases List.mem_cons.1 hz with rfl | hz;exact c;exact hc z hz)
   exact ⟨A2,C2,by rw [g1];simp,g2,g3⟩
  ·rw [if_neg c]
   have c':lt x y=false:=by simpa using c
   refine ⟨A' ++ [y],C,rfl,by simp,?_⟩
   rw [List.pairwise_append] at hs ⊢
   obtain ⟨h1,h2,h3⟩:=hs
   refine ⟨h1,List.pairwise_cons.2 ⟨fun z hz=>has _ _ (hc z hz),h2⟩,fun z hz w hw=>?_⟩
   rcases List.mem_cons.1 hw with rfl | hw
   ·rw [List.pairwise_append] at h1
    rcases List.mem_append.1 hz with hz | hz
    ·exact htr _ _ _ (h1.2.2 z hz y (by simp)) c'
    ·rw [List.mem_singleton] at hz
     subst hz
     exact c'
   ·exact h3 z hz w hw
theorem Ah8 (htr:∀ x y z,lt y x=false→lt z y=false→lt z x=false) (has:∀ x y,lt x y=true→lt y x=false) {B:List α × Int→Option (Sum (List α × Int) (List α))} {B2:List α × Int→Option (Sum (List α × Int) (List α))} {p:List α}
  (hB:∀ (A:List α) (y x:α) (R:List α),A.length≤100000000→B (A++y::x::R,((A.length+1:Nat):Int))=if lt x y=true then some (.inl (A++x::y::R,((A.length:Nat):Int))) else some (.inr (A++y::x::R)))
  (hB0:∀ (x:α) (R:List α),B (x::R,0)=some (.inr (x::R))) (hp:p.length≤100000000)
  (h2:∀ (l:List α) (k:Nat),k < p.length→B2 (l,(k:Int))=bnd (lfix B (l,(k:Int))) fun t=>some (.inl (t,((k+1:Nat):Int)))) (h3:∀ l:List α,B2 (l,(p.length:Int))=some (.inr l)) :
  ∃ r,lfix B2 (p,0)=some r∧r.Perm p∧r.Pairwise fun x y=>lt y x=false:=by
 refine Ct (B:=B2) (fun s=>p.length-s.2.toNat) (fun s=>∃ S D:List α,s=(S++D,(S.length:Int))∧(S++D).Perm p∧S.Pairwise fun x y=>lt y x=false) _ (fun s hs=>?_) _ ⟨[],p,rfl,List.Perm.refl _,List.Pairwise.nil⟩
 obtain ⟨S,D,rfl,h4,h5⟩:=hs
 have hlen:=h4.length_eq
 rw [List.length_append] at hlen
 rcases D with _ | ⟨x,D⟩
 ·right
  have:S.length=p.length:=by simpa using hlen
  rw [this,h3]
  exact ⟨_,rfl,h4,by simpa using h5⟩
 ·left
  rw [List.length_cons] at hlen
  rw [h2 _ _ (by omega)]
  obtain ⟨A',C',g1,g2,g3⟩:=Apa htr has hB hB0 S.length S [] D x rfl (by omega) (by simpa using h5) (fun c hc=>(by cases hc))
  rw [List.append_nil] at g1
  rw [List.nil_append] at g2
  rw [g2,Af]
  have hl:A'.length+C'.length=S.length:=by rw [← List.length_append,g1]
  have e:(A' ++ x::(C' ++ D))=(A' ++ x::C')++D:=by simp
  refine ⟨_,rfl,⟨A' ++ x::C',D,by rw [e,List.length_append,List.length_cons,← hl];congr 2,?_,g3⟩,by dsimp only;omega⟩
  rw [← e]
  refine List.Perm.trans ?_ h4
  rw [← g1]
  have:(A' ++ x::(C' ++ D)).Perm (x::(A' ++ (C' ++ D))):=List.perm_middle
  refine this.trans ?_
  have:((A' ++ C')++x::D).Perm (x::((A' ++ C')++D)):=List.perm_middle
  rw [← List.append_assoc]
  exact this.symm
end
theorem Agr {α:Type} (A:List α) (y x:α) (R:List α):idx (A++y::x::R) ((A.length:Nat):Int)=some y∧idx (A++y::x::R) ((A.length+1:Nat):Int)=some x:=by
 constructor
 ·rw [Bh (by simp)];simp
 ·rw [Bh (by simp)];simp
theorem Ar3 (x y:Aj):Kk x y=some (decide (cmp3 x y < 0)):=by
 obtain ⟨x0,x1,x2⟩:=x
 obtain ⟨y0,y1,y2⟩:=y
 have step:∀ (a b c a' b' c':Int) (i:Int) (h:Int),w64 (i+1)=h→∀ p q,i < 3→idx [a,b,c] i=some p→idx [a',b',c'] i=some q→Hg ⟨a,b,c⟩ ⟨a',b',c'⟩ i=if p=q then some (.inl h) else some (.inr (.inr (decide (p < q)))):=by
  intro a b c a' b' c' i h hh p q hi hp hq
  unfold Hg
  dsimp only
  rw [if_pos hi,hp,Af,hq,Af,Af,Af,hh]
 have w1:w64 (0+1)=1:=Bo (by omega) (by omega)
 have w2:w64 (1+1)=2:=Bo (by omega) (by omega)
 have w3:w64 (2+1)=3:=Bo (by omega) (by omega)
 have s0:=step x0 x1 x2 y0 y1 y2 0 1 w1 x0 y0 (by omega) rfl rfl
 have s1:=step x0 x1 x2 y0 y1 y2 1 2 w2 x1 y1 (by omega) rfl rfl
 have s2:=step x0 x1 x2 y0 y1 y2 2 3 w3 x2 y2 (by omega) rfl rfl
 have s3:Hg ⟨x0,x1,x2⟩ ⟨y0,y1,y2⟩ 3=some (.inr (.inl ())):=by unfold Hg;rw [if_neg (by omega)]
 unfold Kk
 rw [jn_d,Cb,s0]
 have key:∀ P:Prop,∀ Q:Prop,[Decidable P]→[Decidable Q]→(P↔Q)→some (decide P)=some (decide Q):=fun P Q _ _ h=>by rw [decide_eq_decide.2 h]
 have hc:=Xv ⟨x0,x1,x2⟩ ⟨y0,y1,y2⟩
 dsimp only at hc
 by_cases h0:x0=y0
 ·rw [if_pos h0]
  dsimp only
  rw [Cb,s1]
  by_cases h1:x1=y1
  ·rw [if_pos h1]
   dsimp only
   rw [Cb,s2]
   by_cases h2:x2=y2
   ·rw [if_pos h2]
    dsimp only
    rw [Cb,s3,Af]
    dsimp only
    rw [decide_eq_false (fun g=>by have:=hc.1 g;omega)]
   ·rw [if_neg h2,Af]
    dsimp only
    exact key _ _ (by rw [hc];omega)
  ·rw [if_neg h1,Af]
   dsimp only
   exact key _ _ (by rw [hc];omega)
 ·rw [if_neg h0,Af]
  dsimp only
  exact key _ _ (by rw [hc];omega)
theorem Ajl (p:List Aj) (hp:p.length≤100000000):∃ r,Kx p=some r∧r.Perm p∧r.Pairwise fun x y=>¬ cmp3 y x < 0:=by
 have:=Ah8 (lt:=fun x y:Aj=>decide (cmp3 x y < 0)) (B:=Hu) (B2:=Hv p) (p:=p)
  (fun x y z h1 h2=>by
   simp only [decide_eq_false_iff_not,Xv] at *
   omega)
  (fun x y h=>by
   simp only [decide_eq_false_iff_not,decide_eq_true_eq,Xv] at *
   omega)
  (fun A y x R hA=>by
   obtain ⟨i0,i1⟩:=Agr A y x R
   have w1:w64 (((A.length+1:Nat):Int)-1)=((A.length:Nat):Int):=by rw [Bo (by omega) (by omega)];omega
   unfold Hu
   dsimp only
   rw [jn_d,if_pos (by omega),w1,i1,Af,i0,Af,Ar3,Af]
   by_cases c:decide (cmp3 x y < 0)=true
   ·have e1:(A++y::x::R).set (A.length+1) y=A++y::y::R:=by simp [List.set_append]
    have e2:(A++y::y::R).set A.length x=A++x::y::R:=by simp [List.set_append]
    have j0:∃ z,idx (A++y::y::R) ((A.length:Nat):Int)=some z:=⟨_,(Agr A y y R).1⟩
    obtain ⟨z,j0⟩:=j0
    dsimp only
    rw [if_pos c,if_pos c,Af,Af,Af,Tx,e1,j0,Af,Tx,e2]
   ·dsimp only
    rw [if_neg c,if_neg c])
  (fun x R=>by
   unfold Hu
   dsimp only
   rw [jn_d,if_neg (by omega)]
   dsimp only
   rw [if_neg (by simp)])
  hp
  (fun l k hk=>by
   unfold Hv
   dsimp only
   rw [if_pos (by omega),jn_d,show w64 ((k:Int)+1)=((k+1:Nat):Int) from by rw [Bo (by omega) (by omega)];omega])
  (fun l=>by
   unfold Hv
   dsimp only
   rw [if_neg (by omega)])
 obtain ⟨r,h1,h2,h3⟩:=this
 refine ⟨r,?_,h2,h3.imp fun h=>by simpa using h⟩
 unfold Kx
 rw [jn_d,h1,Af]
variable {v:List Ab}
theorem Aug {n:Nat} (hn:n≤1024) {t:Aj} (h0:inN n t.a0) (h1:inN n t.a1) (h2:inN n t.a2) {s:(List Aa) × (List (Aa × Bool)) × (List Aj)} {op:List Aa} {dn:List (Aa × Bool)} (hop:op.length≤10000000) (hdn:dn.length≤10000000) (hpl:∀ (m:List (Aa × Bool)) (x:Aa),(mput m x true).length≤m.length+1) :
  lfix (Dl t s) (op,dn,0)=some (op++[⟨t.a1,t.a0⟩,⟨t.a2,t.a1⟩,⟨t.a0,t.a2⟩],mput (mput (mput dn ⟨t.a0,t.a1⟩ true) ⟨t.a1,t.a2⟩ true) ⟨t.a2,t.a0⟩ true,s.2.2++[t]):=by
 unfold inN at h0 h1 h2
 have step:∀ (op:List Aa) (dn:List (Aa × Bool)) (i j:Int) (p q:Int),op.length≤20000000→dn.length≤20000000→0≤i→i < 3→Int.tmod (w64 (i+1)) 3=j→idx [t.a0,t.a1,t.a2] i=some p→idx [t.a0,t.a1,t.a2] j=some q→(0≤p∧p < 1024)→(0≤q∧q < 1024) →
   Dl t s (op,dn,i)=some (.inl (op++[⟨q,p⟩],mput dn ⟨p,q⟩ true,i+1)):=fun op dn i j p q ho hd hi hi3 hj hp hq hpr hqr=>by
  unfold Dl
  dsimp only
  rw [if_pos hi3,hp,Af,hj,hq,Af,gd_t ⟨⟨by omega,by omega⟩,by omega,by omega⟩,gd_t (by omega),gd_t (by omega),Bo (by omega) (by omega)]
 have last:∀ (op:List Aa) (dn:List (Aa × Bool)),Dl t s (op,dn,3)=some (.inr (op,dn,s.2.2++[t])):=fun op dn=>by
  unfold Dl
  dsimp only
  rw [if_neg (by omega)]
 have l1:=hpl dn ⟨t.a0,t.a1⟩
 have l2:=hpl (mput dn ⟨t.a0,t.a1⟩ true) ⟨t.a1,t.a2⟩
 have m0:Int.tmod (w64 (0+1)) 3=1:=by rw [Bo (by omega) (by omega)];rfl
 have m1:Int.tmod (w64 (1+1)) 3=2:=by rw [Bo (by omega) (by omega)];rfl
 have m2:Int.tmod (w64 (2+1)) 3=0:=by rw [Bo (by omega) (by omega)];rfl
 rw [Cb,step op dn 0 1 t.a0 t.a1 (by omega) (by omega) (by omega) (by omega) m0 rfl rfl (by omega) (by omega)]
 dsimp only
 rw [Cb,show (0:Int)+1=1 from rfl,step _ _ 1 2 t.a1 t.a2 (by simp;omega) (by omega) (by omega) (by omega) m1 rfl rfl (by omega) (by omega)]
 dsimp only
 rw [Cb,show (1:Int)+1=2 from rfl,step _ _ 2 0 t.a2 t.a0 (by simp;omega) (by omega) (by omega) (by omega) m2 rfl rfl (by omega) (by omega)]
 dsimp only
 rw [Cb,show (2:Int)+1=3 from rfl,last]
 simp
/-- The sides that are done. -/
def dnM (m:List (Aa × Bool)) (p q:Int):Prop:=(mget m ⟨p,q⟩).getD false=true
theorem Ac2 {m:List (Aa × Bool)} (hm:Es m) (x y p q:Int):dnM (mput m ⟨x,y⟩ true) p q↔dnM m p q∨(p=x∧q=y):=by
 unfold dnM
 rw [Oh hm]
 by_cases h:(⟨p,q⟩:Aa)=⟨x,y⟩
 ·rw [if_pos h]
  simp only [Aa.mk.injEq] at h
  simp [h]
 ·rw [if_neg h]
  simp only [Aa.mk.injEq] at h
  exact ⟨.inl,fun g=>g.elim id fun g=>absurd g h⟩
theorem Wu (m:List (Aa × Bool)) (x:Aa):(mput m x true).length≤m.length+1:=by
 unfold mput
 have:(mdel m x).length≤m.length:=List.length_filter_le _ _
 simp only [List.length_cons,List.length_append,List.length_nil]
 omega
theorem Apb (hv:Cs v) (hn:v.length≤1024) (h0:0 < v.length):∃ f,inN v.length f∧∀ k,inN v.length k→k=f∨befP (plV v f) (plV v k):=by
 obtain ⟨l,hl,hr⟩:=Aiy hv hn
 have hlen:=hr.len
 have g0:0 < l.length:=by omega
 refine ⟨l[0],hr.val.1 (List.getElem_mem g0),fun k hk=>?_⟩
 obtain ⟨j,hj,rfl⟩:=List.getElem_of_mem (hr.val.2 hk)
 by_cases e:j=0
 ·subst e;exact .inl rfl
 ·exact .inr (hr.lt g0 hj (by omega))
theorem Ah9 (hv:Cs v) (h3:3≤v.length):(∀ k,2≤k→inN v.length k→crs (plV v 0) (plV v 1) (plV v k)=0)↔Xf v:=by
 have i0:inN v.length 0:=⟨by omega,by omega⟩
 have i1:inN v.length 1:=⟨by omega,by omega⟩
 constructor
 ·intro h i j k hi hj hk
  have on:∀ d,inN v.length d→crs (plV v 0) (plV v 1) (plV v d)=0:=fun d hd=>by
   by_cases e0:d=0
   ·subst e0;exact Cd _ _
   ·by_cases e1:d=1
    ·subst e1;exact Br _ _
    ·exact h d (by have:=hd.1;omega) hd
  exact Ad6 (Ng hv i0 i1 (by omega)) (on i hi) (on j hj) (on k hk)
 ·intro h k _ hk
  exact h 0 1 k i0 i1 hk
theorem Apc (v:List Ab) (hn:v.length≤1024):lfix (Io v) (([]:List Ab),0)=some v:=by
 have:=Ct (B:=Io v) (fun s=>v.length-s.2.toNat) (fun s=>∃ k:Nat,k≤v.length∧s=(v.take k,(k:Int))) (fun t=>t=v) (fun s hs=>by
  obtain ⟨k,hk,rfl⟩:=hs
  unfold Io
  dsimp only
  by_cases hk2:k < v.length
  ·left
   rw [if_pos (by omega),Bh hk2,Af,gd_t (by rw [List.length_take];omega),show w64 ((k:Int)+1)=((k+1:Nat):Int) from by rw [Bo (by omega) (by omega)];omega]
   exact ⟨_,rfl,⟨k+1,hk2,by rw [List.take_succ_eq_append_getElem hk2]⟩,by dsimp only;omega⟩
  ·right
   rw [if_neg (by omega)]
   have:k=v.length:=by omega
   subst this
   exact ⟨_,rfl,by rw [List.take_length]⟩) (([]:List Ab),0) ⟨0,by omega,by simp⟩
 obtain ⟨t,ht,rfl⟩:=this
 exact ht
theorem Ae8 {v:List Ab} (lines:List Aa) (h:Iz v≠0):Bd v lines=some (⟨[],[],[]⟩,Iz v):=by
 unfold Bd Jn
 rw [Vo,Af,if_neg h,Af,if_neg h]
end Go.Proofs.YtgfiafnelibjgaaGreat
