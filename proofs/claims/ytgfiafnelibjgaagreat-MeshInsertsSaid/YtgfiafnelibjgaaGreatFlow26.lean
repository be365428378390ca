/- The reference's mesh with lines is the program's. -/
import Derived.Test.YtgfiafnelibjgaaGreatU20
import Derived.Test.YtgfiafnelibjgaaGreatV6a
import Derived.Test.YtgfiafnelibjgaaGreatE1b
import Derived.Test.YtgfiafnelibjgaaGreatFlow19
namespace Go.Proofs.YtgfiafnelibjgaaGreat
open Go Go.RowKit
section
variable {v:List Ab} {m:Mp} {L l:List Aa}
theorem Mesh.seen_side (hv:Cs v) (h:Mesh v L m) {x y z:Int} (hk:apM m x y=some z):Seen v L x y∧Seen v L y x:=by
 obtain ⟨vx,vy,_,_⟩:=h.tri.ccw _ _ _ hk
 have hf:=Mesh.free hv h.tri hk
 have one:Seen v L x y:=fun s hs g=>by
  have hsd:apM m s.a0 s.a1≠none∨apM m s.a1 s.a0≠none:=h.side s hs
  rcases g.cr with g | g
  ·exact Abc h.tri h.cov vx vy hf (.inl (by rw [hk];simp)) g hsd
  ·exact Abc h.tri h.cov vx vy hf (.inl (by rw [hk];simp)) g hsd.symm
 exact ⟨one,fun s hs g=>one s hs (Gv.symm (Gv.rev (Gv.symm g)))⟩
theorem Mesh.topS (hv:Cs v) (h:Mesh v L m) {a b k:Int} (hk:apM m a b=some k):TopS v (See2 v L a b) a b k:=by
 obtain ⟨_,_,vk,T⟩:=h.tri.ccw _ _ _ hk
 exact ⟨vk,T,⟨(h.seen_side hv (h.tri.rot2 hk)).2,(h.seen_side hv (h.tri.rot _ _ _ hk)).1⟩,fun d hd hp hs hne=>h.best hv hk hd hp hne hs.1 hs.2⟩
theorem Akg (hM:Tri (plV v) (inN v.length) (apM m)) {a b c:Int} (h:apM m a b=some c):∃ t,Ic ⟨a,b,c⟩=some t∧Yq m t∧Ik t a b∧(∀ p q,Ik t p q↔Ik ⟨a,b,c⟩ p q):=by
 have hn:=Uo (P:=plV v) (a:=a) (b:=b) (c:=c) (by have:=(hM.ccw _ _ _ h).2.2.2;omega)
 have stop:∀ x y z:Int,¬ y < x→¬ z < x→Fw (x,y,z)=some (.inr (x,y,z)):=fun x y z h1 h2=>by
  unfold Fw
  dsimp only
  rw [jn_d,if_neg h1,decide_eq_false h2]
  dsimp only
  rw [if_neg (by simp)]
 have more:∀ x y z:Int,y < x∨z < x→Fw (x,y,z)=some (.inl (y,z,x)):=fun x y z h1=>by
  unfold Fw
  dsimp only
  rw [jn_d]
  by_cases c:y < x
  ·rw [if_pos c]
   dsimp only
   rw [if_pos rfl]
  ·rw [if_neg c,decide_eq_true (h1.resolve_left c)]
   dsimp only
   rw [if_pos rfl]
 unfold Ic
 rw [jn_d]
 dsimp only
 by_cases h1:b < a∨c < a
 ·rw [Cb,more _ _ _ h1]
  dsimp only
  by_cases h2:c < b∨a < b
  ·rw [Cb,more _ _ _ h2]
   dsimp only
   rw [Cb,stop _ _ _ (by omega) (by omega),Af]
   refine ⟨_,rfl,⟨by dsimp only;omega,by dsimp only;omega,hM.rot2 h⟩,.inr (.inl ⟨rfl,rfl⟩),fun p q=>?_⟩
   unfold Ik
   dsimp only
   omega
  ·rw [Cb,stop _ _ _ (by omega) (by omega),Af]
   refine ⟨_,rfl,⟨by dsimp only;omega,by dsimp only;omega,hM.rot _ _ _ h⟩,.inr (.inr ⟨rfl,rfl⟩),fun p q=>?_⟩
   unfold Ik
   dsimp only
   omega
 ·rw [Cb,stop _ _ _ (by omega) (by omega),Af]
  exact ⟨_,rfl,⟨by dsimp only;omega,by dsimp only;omega,h⟩,.inl ⟨rfl,rfl⟩,fun p q=>Iff.rfl⟩
theorem Acw (hv:Cs v) (hn:v.length≤1024) (hL:L.length≤1000000) (hLs:Lines v L) (hM:Mesh v L m) {p0 q0:Int} (h0:okM v m p0 q0) (hs:∃ e,apM m p0 q0=some e) :
  ∃ out,lfix (Fy v L) ([⟨p0,q0⟩],([]:List (Aa × Bool)),([]:List Aj))=some out∧out.Nodup∧out.length≤1048576∧∀ t,t∈out↔Yq m t:=by
 have hok:∀ s∈L,okL v s:=fun s hs=>(hLs.ok s hs).1
 have hsq:=Yl hn
 refine Ct (B:=Fy v L) (fun s=>4*(v.length*v.length-s.2.2.length)+s.1.length)
  (fun s=>TrM v m p0 q0 s.1 (dnM s.2.1) s.2.2∧Es s.2.1∧s.2.1.length+s.1.length≤1+6*s.2.2.length) _ (fun s hst=>?_) _ ⟨TrM.init h0 (fun p q h=>by simp [dnM,Aov] at h),List.Pairwise.nil,by simp⟩
 obtain ⟨op,dn,out⟩:=s
 obtain ⟨h1,h2,h3⟩:=hst
 dsimp only at h1 h2 h3
 have hb:=h1.bound hM.tri
 have hl:=h1.len
 unfold Fy
 dsimp only
 by_cases hop:op=[]
 ·right
  subst hop
  rw [if_neg (by simp)]
  exact ⟨_,rfl,h1.nd,by omega,h1.full hv hM hs⟩
 ·left
  obtain ⟨r,s,rfl⟩:∃ r s,op=r++[s]:=⟨op.dropLast,op.getLast hop,(List.dropLast_concat_getLast hop).symm⟩
  obtain ⟨s1,s2,s3⟩:=h1.opn s (by simp)
  have hln:(r++[s]).length=r.length+1:=by simp
  have w1:w64 ((((r++[s]).length:Nat):Int)-1)=((r.length:Nat):Int):=by rw [hln,Bo (by omega) (by omega)];omega
  have i1:idx (r++[s]) ((r.length:Nat):Int)=some s:=by rw [Bh (by simp)];simp
  have tk:List.take (Int.toNat ((r.length:Nat):Int)) (r++[s])=r:=by simp
  have hr1:=Mj hn s1 s2
  rw [if_pos (by omega),w1,i1,Af,gd_t ⟨by omega,by omega⟩,gd_t hr1,Af,tk]
  by_cases c1:(mget dn s).getD false=true
  ·rw [if_pos c1]
   exact ⟨_,rfl,⟨h1.skip c1,h2,by dsimp only;omega⟩,by dsimp only;omega⟩
  ·rw [if_neg c1]
   obtain ⟨c,e1,e2⟩:=Aqi hv hn hL hok s1 s2
   rw [e1,Af]
   have hput:=Wu dn s
   by_cases c2:c < 0
   ·have hno:noT v s.a0 s.a1:=by
     rcases e2 with ⟨_,g⟩ | g
     ·rcases s3 with g' | ⟨e,he⟩
      ·exact g'
      ·have ht:=hM.topS hv he
       have:=g e ht.1 ht.2.2.1
       have:=ht.2.1
       omega
     ·have:=g.1.1;omega
    rw [if_pos c2,gd_t hr1,gd_t (by omega)]
    exact ⟨_,rfl,⟨h1.none (fun p q=>Ac2 h2 s.a0 s.a1 p q) hno,h2.put _ _,by dsimp only;omega⟩,by dsimp only;omega⟩
   ·have ht:TopS v (See2 v L s.a0 s.a1) s.a0 s.a1 c:=by
     rcases e2 with ⟨g,_⟩ | g
     ·omega
     ·exact g
    have hd:apM m s.a0 s.a1=some c:=by
     rcases s3 with g | ⟨e,he⟩
     ·have:=g c ht.1;have:=ht.2.1;omega
     ·rw [← (hM.topS hv he).unique ht];exact he
    obtain ⟨t,t1,t2,t3,t4⟩:=Akg hM.tri hd
    have tin:inN v.length t.a0∧inN v.length t.a1∧inN v.length t.a2:=by
     obtain ⟨q1,q2,q3,_⟩:=hM.tri.ccw _ _ _ t2.2.2
     exact ⟨q1,q2,q3⟩
    have hnew:=h1.more (dn':=dnM (mput (mput (mput dn ⟨t.a0,t.a1⟩ true) ⟨t.a1,t.a2⟩ true) ⟨t.a2,t.a0⟩ true)) c1 t2 t3 (fun p q=>by
      rw [Ac2 ((h2.put _ _).put _ _),Ac2 (h2.put _ _),Ac2 h2]
      unfold Ik
      constructor
      ·rintro (((g | g) | g) | g)
       ·exact .inl g
       ·exact .inr (.inl g)
       ·exact .inr (.inr (.inl g))
       ·exact .inr (.inr (.inr g))
      ·rintro (g | g | g | g)
       ·exact .inl (.inl (.inl g))
       ·exact .inl (.inl (.inr g))
       ·exact .inl (.inr g)
       ·exact .inr g) (fun p q hpq=>by
      obtain ⟨e,he⟩:=t2.side hM.tri hpq
      obtain ⟨q1,q2,_⟩:=hM.tri.ccw _ _ _ he
      refine ⟨q2,q1,?_⟩
      rcases hx:apM m q p with _ | x
      ·refine .inl fun d hd=>?_
       have:=hM.cov _ _ _ he hx d hd
       rw [Ba];omega
      ·exact .inr ⟨x,rfl⟩)
    have hb2:=hnew.bound hM.tri
    rw [List.length_append,List.length_singleton] at hb2
    have q1:=Wu dn ⟨t.a0,t.a1⟩
    have q2:=Wu (mput dn ⟨t.a0,t.a1⟩ true) ⟨t.a1,t.a2⟩
    have q3:=Wu (mput (mput dn ⟨t.a0,t.a1⟩ true) ⟨t.a1,t.a2⟩ true) ⟨t.a2,t.a0⟩
    rw [if_neg c2,t1,Af,gd_t (by omega),Aug hn tin.1 tin.2.1 tin.2.2 (by omega) (by omega) Wu,Af]
    refine ⟨_,rfl,⟨hnew,((h2.put _ _).put _ _).put _ _,?_⟩,?_⟩
    ·dsimp only
     simp only [List.length_append,List.length_cons,List.length_nil]
     rw [hln] at h3
     omega
    ·dsimp only
     simp only [List.length_append,List.length_cons,List.length_nil]
     omega
/-- The first side has a triangle. -/
theorem Ang (hv:Cs v) (hM:Mesh v L m) {f b:Int} (hf:inN v.length f) (low:∀ k,inN v.length k→k=f∨befP (plV v f) (plV v k)) (hb:inN v.length b) (hbf:b≠f) (hh:∀ k,inN v.length k→k≠f→behind v f b k):∃ e,apM m f b=some e:=by
 have left:∀ d,inN v.length d→0≤crs (plV v f) (plV v b) (plV v d):=fun d hd=>by
  by_cases e:d=f
  ·rw [e,Cd];exact Int.le_refl _
  ·rcases hh d hd e with g | g <;> omega
 have hfree:Free v f b:=fun z hz n1 n2 g=>by
  obtain ⟨g0,g⟩:=g
  have h1:=(low z hz).resolve_left n1
  rcases hh z hz n1 with k | ⟨_,k⟩
  ·omega
  ·have h2:=(Jt (Ng hv hz hb n2)).resolve_left k
   exact g ⟨fun _=>h2,fun _=>h1⟩
 rcases Agk hv hM.tri hf hb (fun e=>hbf e.symm) hfree (Aea hv hM.map hM.tri hM.cov hM.ne hf hb) with (g | g) | ⟨x,y,g,g1,g2⟩
 ·exact Option.ne_none_iff_exists'.1 g
 ·exfalso
  obtain ⟨e,he⟩:=Option.ne_none_iff_exists'.1 g
  obtain ⟨_,_,ve,T⟩:=hM.tri.ccw _ _ _ he
  have:=left e ve
  rw [Ba] at T;omega
 ·exfalso
  obtain ⟨vx,_,_,_⟩:=hM.tri.ccw _ _ _ g
  have:=left x vx
  omega
/-- The triangles are those of a mesh, each once, in order. -/
structure Aa2 (v:List Ab) (m:Mp) (T:List Aj):Prop where
 ord:T.Pairwise fun x y=>¬ cmp3 y x < 0
 nd:T.Nodup
 mem:∀ t,t∈T↔Yq m t
theorem Aa2.unique {T T':List Aj} (h:Aa2 v m T) (h':Aa2 v m T'):T=T' :=
 Ty tot3 (fun _ _=>trivial) h.ord h'.ord ((List.perm_ext_iff_of_nodup h.nd h'.nd).2 fun t=>(h.mem t).trans (h'.mem t).symm)
theorem Aqv (hm:MapN v.length m):Aa2 v m (Aw cmp3 (m.flatMap triF)):=by
 have memt:∀ t:Aj,t∈m.flatMap triF↔Yq m t:=fun t=>by
  rw [List.mem_flatMap]
  constructor
  ·rintro ⟨⟨⟨a,b⟩,c⟩,hq,ht⟩
   unfold triF at ht
   split at ht
   ·rename_i hlt
    rw [List.mem_singleton] at ht
    subst ht
    exact ⟨hlt.1,hlt.2,Lq hm.ok hq⟩
   ·cases ht
  ·rintro ⟨h1,h2,h3⟩
   refine ⟨(⟨t.a0,t.a1⟩,t.a2),Ex h3,?_⟩
   unfold triF
   rw [if_pos ⟨h1,h2⟩]
   exact List.mem_singleton.2 rfl
 refine ⟨Jc tot3 (fun _ _=>trivial),(Dy _ _).nodup_iff.2 ?_,fun t=>by rw [Gn,memt]⟩
 have:∀ l:Mp,Es l→(l.flatMap triF).Nodup:=by
  intro l
  induction l with
  | nil=>intro _;exact List.Pairwise.nil
  | cons q r ih =>
   intro hl
   obtain ⟨h1,h2⟩:=List.pairwise_cons.1 hl
   rw [List.flatMap_cons,List.nodup_append]
   refine ⟨?_,ih h2,fun x hx y hy e=>?_⟩
   ·unfold triF
    split
    ·simp
    ·exact List.Pairwise.nil
   ·subst e
    obtain ⟨q',hq',hy⟩:=List.mem_flatMap.1 hy
    have key:∀ q:Aa × Int,x∈triF q→q.1=⟨x.a0,x.a1⟩:=fun q hq=>by
     unfold triF at hq
     split at hq
     ·rw [List.mem_singleton] at hq
      subst hq
      rfl
     ·cases hq
    exact h1 q' hq' (by rw [key _ hx,key _ hy])
 exact this m hm.ok
theorem Asy (x y:Aa):Km x y=some (decide (cmp2 x y < 0)):=by
 have h:=Xu x y
 unfold Km
 rw [jn_d]
 by_cases c:x.a0 < y.a0
 ·rw [if_pos c,decide_eq_true (h.2 (.inl c))]
 ·rw [if_neg c]
  by_cases c2:x.a0=y.a0
  ·rw [if_pos c2]
   congr 1
   exact decide_eq_decide.2 (by rw [h];omega)
  ·rw [if_neg c2,decide_eq_false (fun g=>by have:=h.1 g;omega)]
theorem Ae2 (hl:l.length≤1000000) (hs:∀ s∈l.map prL,Ki s):Hh l=some (Aw cmp2 (l.map prL)):=by
 obtain ⟨t,ht,hR⟩:=Ct (B:=Kf l) (fun s=>l.length-s.2.toNat)
  (fun s=>∃ k:Nat,s=((l.take k).map prL,(k:Int))∧k≤l.length)
  (fun t=>t=l.map prL) (by
   rintro s ⟨k,rfl,hk⟩
   unfold Kf
   dsimp only
   by_cases hlt:k < l.length
   ·left
    refine ⟨((l.take (k+1)).map prL,((k+1:Nat):Int)),?_,⟨k+1,rfl,by omega⟩,by simp;omega⟩
    rw [if_pos (by omega),Bh hlt,Af,Af,Af,Af,gd_t (by simp;omega),Bw (by omega),Cc hlt,List.map_append]
    rfl
   ·right
    obtain rfl:k=l.length:=by omega
    exact ⟨_,by rw [if_neg (by omega)],by simp⟩)
  ([],0) ⟨0,by simp,by omega⟩
 have hp:(l.map prL).length≤100000000:=by simp;omega
 have:=Ah8 (lt:=fun x y:Aa=>decide (cmp2 x y < 0)) (B:=Gg) (B2:=Gy (l.map prL)) (p:=l.map prL)
  (fun x y z h1 h2=>by
   simp only [decide_eq_false_iff_not,Xu] at *
   omega)
  (fun x y h=>by
   simp only [decide_eq_false_iff_not,decide_eq_true_eq,Xu] at *
   omega)
  (fun A y x R hA=>by
   obtain ⟨i0,i1⟩:=Agr A y x R
   have w1:w64 (((A.length+1:Nat):Int)-1)=((A.length:Nat):Int):=by rw [Bo (by omega) (by omega)];omega
   unfold Gg
   dsimp only
   rw [jn_d,if_pos (by omega),w1,i1,Af,i0,Af,Asy,Af]
   by_cases c:decide (cmp2 x y < 0)=true
   ·have e1:(A++y::x::R).set (A.length+1) y=A++y::y::R:=by simp [List.set_append]
    have e2:(A++y::y::R).set A.length x=A++x::y::R:=by simp [List.set_append]
    have j0:∃ z,idx (A++y::y::R) ((A.length:Nat):Int)=some z:=⟨_,(Agr A y y R).1⟩
    obtain ⟨z,j0⟩:=j0
    dsimp only
    rw [if_pos c,if_pos c,Af,Af,Af,Tx,e1,j0,Af,Tx,e2]
   ·dsimp only
    rw [if_neg c,if_neg c])
  (fun x R=>by
   unfold Gg
   dsimp only
   rw [jn_d,if_neg (by omega)]
   dsimp only
   rw [if_neg (by simp)])
  hp
  (fun l k hk=>by
   unfold Gy
   dsimp only
   rw [if_pos (by omega),jn_d,show w64 ((k:Int)+1)=((k+1:Nat):Int) from by rw [Bo (by omega) (by omega)];omega])
  (fun l=>by
   unfold Gy
   dsimp only
   rw [if_neg (by omega)])
 obtain ⟨r,h1,h2,h3⟩:=this
 have e:r=Aw cmp2 (l.map prL):=Ty tot2 (fun x hx=>hs x (h2.mem_iff.1 hx)) (h3.imp fun h=>by simpa using h) (Jc tot2 hs) (h2.trans (Dy _ _).symm)
 unfold Hh
 rw [jn_d,ht,Af,hR]
 dsimp only
 rw [jn_d,h1,Af,e]
theorem Ae3 (hv:Cs v) (hn:v.length≤1024) (hL:L.length≤1000000) (hLs:Lines v L) (hfl:¬ Xf v) (hM:Mesh v L m):∃ T,Cw v L=some T∧Aa2 v m T:=by
 unfold Cw
 rw [jn_d]
 have c:¬ v.length < 3:=fun c=>hfl fun i j k hi hj hk=>by
  unfold inN at hi hj hk
  have:i=j∨j=k∨i=k:=by omega
  rcases this with rfl | rfl | rfl
  ·exact Ua _ _
  ·exact Br _ _
  ·exact Cd _ _
 rw [if_neg (by omega)]
 obtain ⟨x,f1,f2⟩:=Akp hv hn
 rw [f1,Af]
 dsimp only
 have hx:¬ x=true:=fun g=>hfl ((Ah9 hv (by omega)).1 (f2.1 g))
 rw [if_neg hx]
 obtain ⟨f,hf,low⟩:=Apb hv hn (by omega)
 obtain ⟨b,b1,b2,b3,b4⟩:=Ame hv hn hf low (by omega)
 obtain ⟨e,he⟩:=Ang hv hM hf low b2 b3 b4
 obtain ⟨out,o1,o2,o3,o4⟩:=Acw hv hn hL hLs hM ⟨hf,b2,.inr ⟨e,he⟩⟩ ⟨e,he⟩
 obtain ⟨r,r1,r2,r3⟩:=Ajl out (by omega)
 rw [An1 hn hf low,Af,b1,Af,jn_d,o1,Af]
 dsimp only
 rw [r1,Af]
 exact ⟨r,rfl,r3,(r2.nodup_iff).2 o2,fun t=>by rw [r2.mem_iff];exact o4 t⟩
theorem Sm (hv:Cs v) (hn:v.length≤1024) (hfl:Xf v):Cw v L=some []:=by
 unfold Cw
 rw [jn_d]
 by_cases c:v.length < 3
 ·rw [if_pos (by omega)]
  dsimp only
  rw [if_pos rfl]
 ·rw [if_neg (by omega)]
  obtain ⟨x,f1,f2⟩:=Akp hv hn
  rw [f1,Af]
  dsimp only
  rw [if_pos (f2.2 ((Ah9 hv (by omega)).2 hfl))]
/-- The program and the document's answer are one. -/
theorem Vs (h:Iz v=0) (hl:l.length≤1000000) (h1:Ke v l=0) :
  ∃ T,Cv v l=some (⟨v,T,Aw cmp2 (l.map prL)⟩,0)∧Bd v l=some (⟨v,T,Aw cmp2 (l.map prL)⟩,0)∧Cw v (Aw cmp2 (l.map prL))=some T∧((Xf v∧T=[])∨(¬ Xf v∧∃ m,Mesh v (Aw cmp2 (l.map prL)) m∧Aa2 v m T)):=by
 obtain ⟨hn,_,hv⟩:=Ff h
 have hE:Lin1 v l∧Lin2 v l:=by
  unfold Ke at h1
  by_cases c1:Lin1 v l
  ·rw [if_pos c1] at h1
   by_cases c2:Lin2 v l
   ·exact ⟨c1,c2⟩
   ·rw [if_neg c2] at h1;cases h1
  ·rw [if_neg c1] at h1;cases h1
 have hLs:=Xd hv hE.1 hE.2
 have sm:∀ s∈l.map prL,Ki s:=fun s hs=>by
  obtain ⟨⟨k1,k2,_⟩,_⟩:=hLs.ok s (Gn.2 hs)
  exact Xr hn k1 k2
 have hlen:(Aw cmp2 (l.map prL)).length≤1000000:=by rw [(Dy _ _).length_eq];simp;omega
 obtain ⟨T,t1,t2⟩:=Acn h hl hE.1 hE.2
 have go:Cw v (Aw cmp2 (l.map prL))=some T→Bd v l=some (⟨v,T,Aw cmp2 (l.map prL)⟩,0):=fun g=>by
  unfold Bd
  rw [Aa1 hl,if_pos h,h1,Af,if_pos rfl,jn_d,Apc v hn,Af,Ae2 hl sm]
  dsimp only
  rw [Af,g,Af]
 rcases t2 with ⟨f,rfl⟩ | ⟨f,m,hM,rfl⟩
 ·exact ⟨_,t1,go (Sm hv hn f),Sm hv hn f,.inl ⟨f,rfl⟩⟩
 ·obtain ⟨T',e1,e2⟩:=Ae3 hv hn hlen hLs f hM
  have hT:=Aqv (v:=v) hM.map
  rw [e2.unique hT] at e1
  exact ⟨_,t1,go e1,e1,.inr ⟨f,m,hM,hT⟩⟩
theorem Ae4 (hl:l.length≤1000000) (h:Iz v=0) (h1:Ke v l≠0):Bd v l=some (⟨[],[],[]⟩,Ke v l):=by
 unfold Bd
 rw [Aa1 hl,if_pos h,Af,if_neg h1]
end
end Go.Proofs.YtgfiafnelibjgaaGreat
/- The mesh of the square, for the layouts with lines. -/
namespace Go.Proofs.YtgfiafnelibjgaaGreat
open Go Go.RowKit
def sqv:List Ab:=[⟨0,0,⟨0,0⟩⟩,⟨2,0,⟨0,0⟩⟩,⟨0,2,⟨0,0⟩⟩,⟨2,2,⟨0,0⟩⟩]
theorem Atf:Iz sqv=0:=by
 unfold Iz sqv Gd Sy Lw okP pP
 simp
theorem Aly:∀ a∈([0,1,2,3]:List Int),∀ b∈([0,1,2,3]:List Int),∀ c∈([0,1,2,3]:List Int),
  ((a < b∧a < c∧0 < crs (plV sqv a) (plV sqv b) (plV sqv c)∧∀ d∈([0,1,2,3]:List Int),d≠a→d≠b→d≠c→DH (plV sqv) (hV sqv) a b c d < 0)↔((a=0∧b=1∧c=2)∨(a=1∧b=3∧c=2))):=by
 decide +kernel
theorem in4 {i:Int}:inN sqv.length i↔i∈([0,1,2,3]:List Int):=by
 unfold inN sqv
 simp
 omega
theorem Aqw:Ahs sqv [⟨0,1,2⟩,⟨1,3,2⟩]:=by
 refine ⟨by simp [cmp3,cmpI],by simp,fun t=>?_⟩
 obtain ⟨a,b,c⟩:=t
 have key:∀ a b c,Del sqv a b c↔a∈([0,1,2,3]:List Int)∧b∈([0,1,2,3]:List Int)∧c∈([0,1,2,3]:List Int)∧0 < crs (plV sqv a) (plV sqv b) (plV sqv c)∧∀ d∈([0,1,2,3]:List Int),d≠a→d≠b→d≠c→DH (plV sqv) (hV sqv) a b c d < 0:=fun a b c=>by
  unfold Del
  simp only [in4]
 dsimp only
 rw [key]
 constructor
 ·intro h
  have e:(a=0∧b=1∧c=2)∨(a=1∧b=3∧c=2):=by simpa using h
  have ha:a∈([0,1,2,3]:List Int):=by rcases e with ⟨rfl,_,_⟩ | ⟨rfl,_,_⟩ <;> simp
  have hb:b∈([0,1,2,3]:List Int):=by rcases e with ⟨_,rfl,_⟩ | ⟨_,rfl,_⟩ <;> simp
  have hc:c∈([0,1,2,3]:List Int):=by rcases e with ⟨_,_,rfl⟩ | ⟨_,_,rfl⟩ <;> simp
  obtain ⟨h1,h2,h3,h4⟩:=(Aly a ha b hb c hc).2 e
  exact ⟨h1,h2,ha,hb,hc,h3,h4⟩
 ·rintro ⟨h1,h2,ha,hb,hc,h3,h4⟩
  have e:=(Aly a ha b hb c hc).1 ⟨h1,h2,h3,h4⟩
  simpa using e
end Go.Proofs.YtgfiafnelibjgaaGreat
/- Maps that are only read, through a pointer: known wherever the entries K stand. -/
namespace Go.Proofs.YtgfiafnelibjgaaGreat
open Go Go.RowKit
open Go.Maps (Keyed)
section
variable {κ υ:Type}
def MapK (K:List Ent) (P:Program) (k:TypeId) (ke:κ→Value) (ve:υ→Value) (g:Nat) (m:List (κ × υ)):Prop:=∀ w,(∀ e∈K,Ent.ok w e)→Vc P k ke ve g m w
variable {P:Program} {k:TypeId} {ke:κ→Value} {ve:υ→Value} {g:Nat} {m:List (κ × υ)} {K E:List Ent} {w:World}
theorem MapK.m0 (h:Ax P k ke ve g m∈K):MapK K P k ke ve g m:=fun w hw=>Fg w (hw _ h)
theorem MapK.up0 (h:MapK K P k ke ve g m):MapK (K++[]) P k ke ve g m:=by rw [List.append_nil];exact h
theorem MapK.low (h:MapK (K++E) P k ke ve g m) (hK:∀ e∈K,Ent.ok w e):MapK (.old w::E) P k ke ve g m:=fun w' hw'=>h w' (fun e he=>by
 rcases List.mem_append.1 he with he | he
 ·exact Ent.ext (hK e he) (hw' (.old w) List.mem_cons_self)
 ·exact hw' e (List.mem_cons_of_mem _ he))
variable {n:Nat} {fr:List (Nat × Value)} {L:List Ent} {dst:Option Tmp} {ty:TypeId} {pos:String} {after:Array Edge} {guard:Option (Nat × Bool)} {K':List Ent}
end
section
variable {P:Program} {n:Nat} {N:Act→World→Prop} {Q:Exit→Act→World→Prop} {fr:List (Nat × Value)} {L:List Ent}
theorem RowN.one {α:Type} {sz:Nat} {K:List Ent} {R:List Ent→α→List Value→Prop} {hs:List (Vec sz)} {l:List α} (h:RowN K R hs l) (h1:∀ {x:α} {ys:List Value},R K x ys→Ls ys=true):∀ x∈hs,Ls (Aud x)=true:=fun x hx=>by
 obtain ⟨i,hi,rfl⟩:=List.getElem_of_mem hx
 exact h1 (h.2 i (by rw [← h.1];exact hi) hi)
end
end Go.Proofs.YtgfiafnelibjgaaGreat
/- Stores into an array at an index that is computed; slices.Delete of one element of an own row. -/
namespace Go.Proofs.YtgfiafnelibjgaaGreat
open Go Go.RowKit
/-- A store at an index that is computed. -/
def ifx (z k v a:Int):Int:=if z=k then v else a
theorem Aqx {kd:IntKind} {a b z x v:Int} (h:idx [a,b] z=some x):Spl [.int kd a,.int kd b] (0+z.toNat*1) [.int kd v] [.int kd (ifx z 0 v a),.int kd (ifx z 1 v b)]:=by
 obtain ⟨h1,h2⟩:=Eh h
 have:z=0∨z=1:=by simp at h2;omega
 rcases this with rfl | rfl
 ·exact .put .done
 ·exact .skip (.put .done)
section
variable {P:Program} {n:Nat} {N:Act→World→Prop} {Q:Exit→Act→World→Prop} {fr:List (Nat × Value)} {L:List Ent}
variable {dst:Option Tmp} {ty:TypeId} {pos:String} {after:Array Edge} {guard:Option (Nat × Bool)}
theorem Aa3 (w:World) (g:Nat) (X:Array Value):w.grownBy (w.setRow g X) (some g):=⟨rfl,rfl,rfl,by simp,fun k _ hk=>setRow_other w g k _ (fun e=>hk (by rw [e]))⟩
theorem Asz {t x lo hi mx A m c e sz k1 k2 k3} {i j q:Nat} (hx:evo fr x=some (.slice A m c)) (hl:evo fr lo=some (.int k1 (i:Int))) (hh:evo fr hi=some (.int k2 (j:Int))) (hm:evo fr mx=some (.int k3 (q:Int))) (ht:Ja P t e sz) (h0:i≤j) (h1:j≤q) (h2:q≤c) :
  Ev P n ⟨dst,.slice t x (some lo) (some hi) (some mx),ty,pos,after,guard⟩ fr L (.slice (if q=i then A else A.map (·.add (i*sz))) (j-i) (q-i)):=fun a w ha _=>by
 simp [execOp,ha.eval hx,ha.eval hl,ha.eval hh,ha.eval hm,Instr.sliceAt,Instr.slice,run_underlying ht.1,Instr.sliceBounds,Instr.sliceBound,asIntOf,h0,h1,h2,ht.2 w,Addr.add]
/-- append(s[:i], s[j:]...): a part of an own row is moved within the row. -/
theorem Aqy {α:Type} (enc:α→List Value) (l:List α) {d:Nat} {s x:Operand} {t e:TypeId} {sz bytes c q q' k:Nat} {A:Option Addr} {i j:Nat} {ty':TypeId} {L':List Ent}
  (hs:evo fr s=some (.slice A i c)) (hx:evo fr x=some (.slice (slA A c j sz) q q')) (ht:Se P t e sz bytes) (he:∀ x,(enc x).length=sz) (h1:∀ x,Ls (enc x)=true) (hij:i < j) (hj:j+q=l.length) (hd:Nat.blt d n=true)
  (hL:SetE L k (.r A l.length c e sz (l.flatMap enc)) (.r A (i+q) c e sz ((l.take i++l.drop j).flatMap enc)) L')
  (kk:T n N ((d,.slice A (i+q) c)::fr) L') :
  Wh P Q n ⟨some d,.call ⟨.builtin .append,#[s,x],#[t,t]⟩,ty',pos,after,guard⟩ fr L N:=by
 intro a w ha hw
 obtain ⟨i0,z,e1,e2,e3,e4,e5⟩:=ht.ex
 have hown:w.ownsRow 0 e sz (.slice A l.length c) l.length (l.flatMap enc):=hw.ok _ hL.mem
 have hcl:=fun g=>hown.cells (g:=g)
 obtain ⟨_,h2⟩:=hown
 rcases h2 with ⟨_,h3⟩ | ⟨g,cap,cur,hv,_,hb,h3,h4,h5,h6⟩
 ·omega
 injection hv with hg _ hcap
 subst hg;subst hcap;subst e3
 have hsp:l.flatMap enc=(l.take j).flatMap enc++(l.drop j).flatMap enc:=by rw [← List.flatMap_append,List.take_append_drop]
 have hlj:((l.take j).flatMap enc).length=j*i0.size:=by rw [Hf he,List.length_take,Nat.min_eq_left (by omega)]
 have hln:((l.drop j).flatMap enc).length=q*i0.size:=by rw [Hf he,List.length_drop];congr 1;omega
 obtain ⟨b,hb1,hb2⟩:∃ b:Addr,slA (some ⟨g,0,none⟩) c j i0.size=some b∧∀ jj u,((l.drop j).flatMap enc)[jj]? = some u→w.cell? (b.add jj)=some u:=by
  unfold slA
  by_cases hc:c=j
  ·refine ⟨_,by rw [if_pos hc],fun jj u hu=>?_⟩
   have:q=0:=by omega
   subst this
   rw [Nat.zero_mul] at hln
   rw [List.length_eq_zero_iff.1 hln] at hu
   simp at hu
  ·refine ⟨⟨g,j*i0.size,none⟩,by rw [if_neg hc];simp [Addr.add_lit],fun jj u hu=>?_⟩
   have:=hcl g rfl (j*i0.size+jj) u (by rw [hsp,← hlj,List.getElem?_append_right (by omega)];simpa using hu)
   rw [Addr.add_lit] at this ⊢
   simpa using this
 have hone:∀ u∈(l.drop j).flatMap enc,u.oneCell'=true:=by
  intro u hu
  obtain ⟨x,_,hu⟩:=List.mem_flatMap.1 hu
  exact Ml (h1 x) u hu
 have hroom:i+q≤c:=by omega
 have hfit:i*i0.size+((l.drop j).flatMap enc).length≤cur.size:=by rw [hln,h5,← Nat.add_mul];exact Nat.mul_le_mul_right _ hroom
 have hr:=run_append_room (P:=P) w t ty' e i0 ht.sl e1 g i c cur hb b q q' _ hln hb2 hone hroom hfit
 rw [hb1] at hx
 have hrun:(execOp a.eval ⟨some d,.call ⟨.builtin .append,#[s,x],#[t,t]⟩,ty',pos,after,guard⟩).run P w = .ok (.value (.slice (some ⟨g,0,none⟩) (i+q) c)) (w.setRow g (cur.toList.take (i*i0.size)++(l.drop j).flatMap enc++cur.toList.drop (i*i0.size+((l.drop j).flatMap enc).length)).toArray):=by
  simp only [execOp,resolve,invoke,builtin,ha.eval hs,ha.eval hx]
  simp [hr,ha.eval hs,ha.eval hx]
 simp only [Oper.wp,hrun,Oper.upon_value]
 have hti:(l.take i).flatMap enc=cur.toList.take (i*i0.size):=by
  have e0:(l.take i).flatMap enc=(l.flatMap enc).take (i*i0.size):=by
   conv=>rhs;rw [← List.take_append_drop i l,List.flatMap_append]
   rw [List.take_left' (by rw [Hf he,List.length_take,Nat.min_eq_left (by omega)])]
  rw [e0,← h6,List.take_take,Nat.min_eq_left (Nat.mul_le_mul_right _ (by omega))]
 have hsz:(i*i0.size)≤cur.toList.length:=by rw [Array.length_toList,h5];exact Nat.mul_le_mul_right _ (by omega)
 refine kk _ _ (ha.put hd) (Heap.turn (e:=.r (some ⟨g,0,none⟩) l.length c e i0.size (l.flatMap enc)) (e':=.r (some ⟨g,0,none⟩) (i+q) c e i0.size ((l.take i++l.drop j).flatMap enc)) (Aa3 w g _) ?_ (Nat.le_refl _) (fun _ hg=>.inl hg) hL hw)
 refine ⟨by rw [List.flatMap_append,List.length_append,hln,hti,List.length_take,Nat.min_eq_left hsz,Nat.add_mul],.inr ⟨g,c,_,rfl,Nat.zero_le _,setRow_heap w g cur _ e _ hb,hroom,h4,?_,?_⟩⟩
 ·simp only [List.size_toArray,List.length_append,List.length_take,List.length_drop,Array.length_toList]
  rw [Array.length_toList] at hsz
  omega
 ·rw [List.flatMap_append,hti]
  have:(i+q)*i0.size=(cur.toList.take (i*i0.size)++(l.drop j).flatMap enc).length:=by rw [List.length_append,List.length_take,Nat.min_eq_left hsz,hln,Nat.add_mul]
  show List.take _ (_++_++_)=_
  rw [this]
  exact List.take_left
theorem Afd (cs:List Value):(Builtin.zeroCells cs.toArray 1).toList=cs:=by
 unfold Builtin.zeroCells
 apply List.ext_getElem
 ·simp
 ·intro i h1 h2
  simp [Nat.mod_eq_of_lt h2,h2]
/-- clear of a cell behind the elements of an own row. -/
theorem Anh {x:Operand} {t e:TypeId} {sz bytes c q q' k m m':Nat} {A:Option Addr} {ty':TypeId} {xs:List Value} {L':List Ent}
  (hx:evo fr x=some (.slice (slA A c m' sz) q q')) (hm':m'=m) (hq:q=1) (ht:Se P t e sz bytes) {z:Value} (hz:∀ w,(zeroValue e).run P w = .ok z w) {cs:List Value} (hzc:z.cells=cs.toArray) (hzs:cs.length=sz) (h1:Ls cs=true) (hm:m+1≤c) (hA:A≠none)
  (hL:SetE L k (.r A m c e sz xs) (.r A m c e sz xs) L')
  (kk:T n N fr L') :
  Wh P Q n ⟨none,.call ⟨.builtin .clear,#[x],#[t]⟩,ty',pos,after,guard⟩ fr L N:=by
 subst hq
 obtain rfl:=hm'.symm
 intro a w ha hw
 have hzo:=Afd cs
 have hown:w.ownsRow 0 e sz (.slice A m c) m xs:=hw.ok _ hL.mem
 obtain ⟨h0,h2⟩:=hown
 rcases h2 with ⟨hv,_⟩ | ⟨g,cap,cur,hv,_,hb,h3,h4,h5,h6⟩
 ·injection hv with hv _ _;exact absurd hv hA
 injection hv with hg _ hcap
 subst hg;subst hcap
 have hsl:slA (some (⟨g,0,none⟩:Addr)) c m sz=some ⟨g,m*sz,none⟩:=by
  unfold slA
  rw [if_neg (by omega)]
  simp [Addr.add_lit]
 rw [hsl] at hx
 have hfit:m*sz+0+cs.length≤cur.size:=by
  rw [hzs,h5]
  have:=Nat.mul_le_mul_right sz hm
  rw [Nat.add_mul,Nat.one_mul] at this
  omega
 have hst:=run_storeCells_at P g (m*sz) e cs 0 cur w hb hfit (Ml h1)
 have hrun:(execOp a.eval ⟨none,.call ⟨.builtin .clear,#[x],#[t]⟩,ty',pos,after,guard⟩).run P w = .ok (.value (.tuple #[])) (w.setRow g (cur.toList.take (m*sz+0)++cs++cur.toList.drop (m*sz+0+cs.length)).toArray):=by
  simp [execOp,resolve,invoke,builtin,ha.eval hx,Builtin.clear_,run_underlying ht.sl,hz,hzc,hzo,hst,Result.andThen]
 simp only [Oper.wp,hrun,Oper.upon_value]
 have hsz:m*sz≤cur.toList.length:=by rw [Array.length_toList];omega
 refine kk _ _ ha (Heap.turn (e:=.r (some ⟨g,0,none⟩) m c e sz xs) (e':=.r (some ⟨g,0,none⟩) m c e sz xs) (Aa3 w g _) ?_ (Nat.le_refl _) (fun _ hg=>.inl hg) hL hw)
 refine ⟨h0,.inr ⟨g,c,_,rfl,Nat.zero_le _,setRow_heap w g cur _ e _ hb,h3,h4,?_,?_⟩⟩
 ·simp only [List.size_toArray,List.length_append,List.length_take,List.length_drop,Array.length_toList]
  rw [Array.length_toList] at hsz
  rw [Nat.min_eq_left (by omega)]
  omega
 ·show List.take _ (_++_++_)=_
  rw [Nat.add_zero,List.append_assoc,List.take_append_of_le_length (by rw [List.length_take,Nat.min_eq_left hsz];exact Nat.le_refl _),List.take_take,Nat.min_self]
  exact h6
end
/-- A list without its element at i. -/
def delI {α:Type} (l:List α) (i:Int):List α:=l.take i.toNat++l.drop (i.toNat+1)
theorem Aiz {α:Type} {l:List α} {i:Int} (h0:0≤i) (h:i+1≤(l.length:Int)):(delI l i).length=l.length-1:=by
 unfold delI
 rw [List.length_append,List.length_take,List.length_drop]
 omega
end Go.Proofs.YtgfiafnelibjgaaGreat
