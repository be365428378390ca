/- Forcing a line ends, and makes the line a side. -/
import Derived.Test.YtebkcipolijfmaaGreatL4
import Derived.Test.YtebkcipolijfmaaGreatL9
namespace Go.Proofs.YtebkcipolijfmaaGreat
open Go Go.RowKit
/-! ### one flip, the side seen from its lesser end -/
theorem Aoz (i j k l:Ac):crs i l k+crs j k l=crs i j k+crs j i l:=by unfold crs;grind
theorem Yg {i j k l:Ac} (h1:0 < crs i j k) (h2:0 < crs j i l):(Int.sign (crs k l i)*Int.sign (crs k l j) = -1)↔(0 < crs i l k∧0 < crs j k l):=by
 have e1:crs k l i = -crs i l k:=by unfold crs;grind
 have e2:crs k l j=crs j k l:=by unfold crs;grind
 have ha:=Aoz i j k l
 rw [e1,e2]
 generalize crs i l k=x at *
 generalize crs j k l=y at *
 rcases Int.lt_trichotomy x 0 with h | h | h <;> rcases Int.lt_trichotomy y 0 with k' | k' | k'
 all_goals first
  | omega
  | (subst h;simp;try omega)
  | (subst k';simp;try omega)
  | (rw [Int.sign_eq_one_of_pos (by omega),Int.sign_eq_neg_one_of_neg k'];omega)
  | (rw [Int.sign_eq_one_of_pos (show 0 < -x by omega),Int.sign_eq_one_of_pos k'];omega)
  | (rw [Int.sign_eq_neg_one_of_neg (show -x < 0 by omega),Int.sign_eq_neg_one_of_neg k'];omega)
  | (rw [Int.sign_eq_neg_one_of_neg (show -x < 0 by omega),Int.sign_eq_one_of_pos k'];omega)
section
variable {v:List Ab} {F:List (Aa × Bool)} {m:Mp} {i j k l:Int}
theorem At1 (hv:Hj v) (hn:v.length≤1024) (hm:MapN v.length m) (ht:Tri (plV v) (inN v.length) (apM m)) (hk:apM m i j=some k) (hl:apM m j i=some l) :
  (¬ (0 < crs (plV v i) (plV v l) (plV v k)∧0 < crs (plV v j) (plV v k) (plV v l))∧Df ⟨v,m,F⟩ (pr2 i j).a0 (pr2 i j).a1=some (⟨v,m,F⟩,false)) ∨
  ∃ m',Quad (plV v) (inN v.length) (apM m) i j k l∧Df ⟨v,m,F⟩ (pr2 i j).a0 (pr2 i j).a1=some (⟨v,m',F⟩,true)∧MapN v.length m'∧apM m'=Dx (apM m) i j k l:=by
 obtain ⟨vi,vj,vk,c1⟩:=ht.ccw _ _ _ hk
 obtain ⟨_,_,vl,c2⟩:=ht.ccw _ _ _ hl
 have hij:=(ht.ne hk).1
 by_cases c:i≤j
 ·have e0:(pr2 i j).a0=i:=by unfold pr2;simp only;omega
  have e1:(pr2 i j).a1=j:=by unfold pr2;simp only;omega
  rw [e0,e1,Ah1 (b:=⟨v,m,F⟩) hv hn hm hk hl]
  by_cases s:0 < crs (plV v i) (plV v l) (plV v k)∧0 < crs (plV v j) (plV v k) (plV v l)
  ·right
   have q:Quad (plV v) (inN v.length) (apM m) i j k l:=⟨ht,hk,hl,s.1,s.2⟩
   obtain ⟨n1,n2,n3,n4,n5,n6⟩:=q.ne
   exact ⟨flipM m i j k l,q,by rw [if_pos ((Yg c1 c2).2 s)],hm.flipM vi vj vk vl,Us hm.ok n1 n2 n3 n4 n5 n6⟩
  ·left
   exact ⟨s,by rw [if_neg fun g=>s ((Yg c1 c2).1 g)]⟩
 ·have e0:(pr2 i j).a0=j:=by unfold pr2;simp only;omega
  have e1:(pr2 i j).a1=i:=by unfold pr2;simp only;omega
  rw [e0,e1,Ah1 (b:=⟨v,m,F⟩) hv hn hm hl hk]
  by_cases s:0 < crs (plV v i) (plV v l) (plV v k)∧0 < crs (plV v j) (plV v k) (plV v l)
  ·right
   have q:Quad (plV v) (inN v.length) (apM m) i j k l:=⟨ht,hk,hl,s.1,s.2⟩
   obtain ⟨n1,n2,n3,n4,n5,n6⟩:=q.ne
   exact ⟨flipM m j i l k,q,by rw [if_pos ((Yg c2 c1).2 ⟨s.2,s.1⟩)],hm.flipM vj vi vl vk,by
    rw [Us hm.ok (fun e=>n1 e.symm) (fun e=>n2 e.symm) n6 n5 n4 n3]
    exact Ao7 _ _ _ _ _ n1 n2 n3 n4 n5 n6⟩
  ·left
   exact ⟨s,by rw [if_neg fun g=>s (by have:=(Yg c2 c1).1 g;exact ⟨this.2,this.1⟩)]⟩
theorem Vs (h1:inN v.length i) (h2:inN v.length j):inN v.length (pr2 i j).a0∧inN v.length (pr2 i j).a1:=by
 unfold pr2 inN at *
 simp only
 omega
theorem At2 (hk:apM m i j=some k) (hl:apM m j i=some l):∃ x y,mget m (pr2 i j)=some x∧mget m ⟨(pr2 i j).a1,(pr2 i j).a0⟩=some y∧pr2 x y=pr2 k l:=by
 by_cases c:i≤j
 ·have e:pr2 i j=⟨i,j⟩:=by unfold pr2;rw [Hl];omega
  rw [e]
  exact ⟨k,l,hk,hl,rfl⟩
 ·have e:pr2 i j=⟨j,i⟩:=by unfold pr2;rw [Hl];omega
  rw [e]
  exact ⟨l,k,hl,hk,Nh _ _⟩
end
/-! ### the sides that cross -/
section
variable {v:List Ab} {ap:Ap} {a b:Int}
theorem Cr.ends {x y:Int} (h:Cr v a b x y):x≠a∧x≠b∧y≠a∧y≠b:=by
 obtain ⟨h1,h2,_,_⟩:=h
 refine ⟨fun e=>?_,fun e=>?_,fun e=>?_,fun e=>?_⟩
 ·rw [e,Eq] at h1;omega
 ·rw [e,De] at h1;omega
 ·rw [e,Eq] at h2;omega
 ·rw [e,De] at h2;omega
/-- A crossing side has a triangle on each side. -/
theorem Cr.both (ht:Tri (plV v) (inN v.length) ap) (hc:Cov (plV v) (inN v.length) ap) (ha:inN v.length a) (hb:inN v.length b) {x y:Int} (h:Cr v a b x y) (hs:ap x y≠none∨ap y x≠none):(∃ k,ap x y=some k)∧∃ l,ap y x=some l:=by
 have r1:=h.ra
 have r2:=h.rb
 have e1:crs (plV v y) (plV v x) (plV v b) = -crs (plV v x) (plV v y) (plV v b):=Bv _ _ _
 rcases hs with hs | hs <;> obtain ⟨k,hk⟩:=Option.ne_none_iff_exists'.1 hs
 ·refine ⟨⟨k,hk⟩,?_⟩
  rcases e:ap y x with _ | l
  ·have:=hc _ _ _ hk e a ha
   omega
  ·exact ⟨l,rfl⟩
 ·refine ⟨?_,⟨k,hk⟩⟩
  rcases e:ap x y with _ | l
  ·have:=hc _ _ _ hk e b hb
   omega
  ·exact ⟨l,rfl⟩
/-- If the line is a side, no side crosses it. -/
theorem Ao0 (ht:Tri (plV v) (inN v.length) ap) (hc:Cov (plV v) (inN v.length) ap) (ha:inN v.length a) (hb:inN v.length b) (hf:Free v a b) (hs:ap a b≠none∨ap b a≠none) {x y:Int} (h:Cr v a b x y):¬ (ap x y≠none∨ap y x≠none):=fun g=>by
 obtain ⟨⟨k,hk⟩,_⟩:=h.both ht hc ha hb g
 obtain ⟨M,U,W,hM,_,_,hr⟩:=Alp ht hc ha hb hf h hk
 have hl:=hr.last (M-1) (by omega)
 have cr:=hr.cr (M-1) (by omega)
 have h1:=ht.rot2 hl
 refine ht.cone b (U (M-1)) (W (M-1)) a h1 (hs.symm) ⟨?_,?_⟩
 ·have:=cr.up
  rw [← Ar] at this
  rw [← Ar] at this
  have e:crs (plV v b) (plV v (U (M-1))) (plV v a)=crs (plV v a) (plV v b) (plV v (U (M-1))):=by unfold crs;grind
  rw [e];exact cr.up
 ·have e:crs (plV v b) (plV v a) (plV v (W (M-1))) = -crs (plV v a) (plV v b) (plV v (W (M-1))):=by unfold crs;grind
  have:=cr.lo
  rw [e];omega
/-- The strip of the crossing sides. -/
theorem Ar1 (hv:Hj v) (ht:Tri (plV v) (inN v.length) ap) (hc:Cov (plV v) (inN v.length) ap) (ha:inN v.length a) (hb:inN v.length b) (hab:a≠b) (hf:Free v a b) (hcone:Vt (plV v) ap a b) :
  ∃ M u w,Eb (plV v) ap a b M u w∧(M=0→ap a b≠none∨ap b a≠none)∧∀ x y,Cr v a b x y→(ap x y≠none∨ap y x≠none)→∃ i,i < M∧x=u i∧y=w i:=by
 rcases Auh hv ht ha hb hab hf hcone with hs | ⟨x,y,h0,h1,h2⟩
 ·exact ⟨0,fun _=>0,fun _=>0,⟨fun i hi=>by omega,fun i hi=>by omega,fun hi=>by omega,fun i hi=>by omega,fun i hi=>by omega⟩,fun _=>hs,fun x y h g=>absurd g (Ao0 ht hc ha hb hf hs h)⟩
 ·obtain ⟨vx,vy,_,T⟩:=ht.ccw _ _ _ h0
  have nbx:b≠x:=fun e=>by rw [← e,De] at h1;omega
  have nby:b≠y:=fun e=>by rw [← e,De] at h2;omega
  have em:=ht.emp _ _ _ h0 b hb nbx nby (fun e=>hab e.symm)
  have k1:crs (plV v y) (plV v a) (plV v b)=crs (plV v a) (plV v b) (plV v y):=by unfold crs;grind
  have k2:crs (plV v a) (plV v x) (plV v b) = -crs (plV v a) (plV v b) (plV v x):=by unfold crs;grind
  have k3:crs (plV v y) (plV v x) (plV v b) = -crs (plV v x) (plV v y) (plV v b):=Bv _ _ _
  have k4:crs (plV v y) (plV v x) (plV v a) = -crs (plV v x) (plV v y) (plV v a):=Bv _ _ _
  have cr:Cr v a b y x:=⟨h2,h1,by omega,by omega⟩
  obtain ⟨⟨k,hk⟩,_⟩:=cr.both ht hc ha hb (.inr (by rw [h0];simp))
  obtain ⟨M,U,W,hM,e1,e2,hr⟩:=Alp ht hc ha hb hf cr hk
  have h00:ap (W 0) (U 0)=some a:=by rw [e1,e2];exact h0
  refine ⟨M,U,W,hr.strip h00,fun h=>by omega,fun x' y' hcr hs=>?_⟩
  obtain ⟨⟨k',hk'⟩,_⟩:=hcr.both ht hc ha hb hs
  obtain ⟨M',U',W',hM',e1',e2',hr'⟩:=Alp ht hc ha hb hf hcr hk'
  obtain ⟨i,hi,g1,g2⟩:=hr.has ht h00 hM hr' hM'
  exact ⟨i,hi,by rw [g1,e1'],by rw [g2,e2']⟩
theorem Eb.pr_inj {M:Nat} {u w:Nat→Int} (h:Eb (plV v) ap a b M u w) {i j:Nat} (hi:i < M) (hj:j < M) (e:pr2 (u i) (w i)=pr2 (u j) (w j)):i=j:=by
 rcases Ah4 e with ⟨e1,e2⟩ | ⟨e1,e2⟩
 ·rcases Nat.lt_trichotomy i j with g | g | g
  ·exact absurd ⟨e1,e2⟩ (h.inj i j g hj)
  ·exact g
  ·exact absurd ⟨e1.symm,e2.symm⟩ (h.inj j i g hi)
 ·have k1:=h.up i hi
  have k2:=h.lo j hj
  rw [e1] at k1;omega
end
end Go.Proofs.YtebkcipolijfmaaGreat
/- Forcing a line: one round of the loop. -/
namespace Go.Proofs.YtebkcipolijfmaaGreat
open Go Go.RowKit
def Nv (ap:Ap) (x y:Int):Prop:=ap x y≠none∨ap y x≠none
/-- What the loop keeps: m0 is the map it began with; the crossing sides in their order, and the queue as their places. -/
structure Np (v:List Ab) (a b:Int) (m0 m:Mp) (q:List Aa) (M:Nat) (u w:Nat→Int) (π:List Nat):Prop where
 map:MapN v.length m
 tri:Tri (plV v) (inN v.length) (apM m)
 cov:Cov (plV v) (inN v.length) (apM m)
 ne:m≠[]
 strip:Eb (plV v) (apM m) a b M u w
 nd:π.Nodup
 all:∀ i,i∈π↔i < M
 que:q=π.map fun i=>pr2 (u i) (w i)
 fin:M=0→Nv (apM m) a b
 keep:∀ x y,¬ Cr v a b x y→¬ Cr v a b y x→Nv (apM m0) x y→Nv (apM m) x y
 len:π.length≤1048576
section
variable {v:List Ab} {a b:Int}
theorem Afc {ap:Ap} (ht:Tri (plV v) (inN v.length) ap) (ha:inN v.length a) (hb:inN v.length b) (hf:Free v a b) {k l:Int} (hs:ap k l≠none∨ap l k≠none) :
  Hc v a b (pr2 k l).a0 (pr2 k l).a1↔Cr v a b k l∨Cr v a b l k:=by
 by_cases c:k≤l
 ·have e0:(pr2 k l).a0=k:=by unfold pr2;simp only;omega
  have e1:(pr2 k l).a1=l:=by unfold pr2;simp only;omega
  rw [e0,e1]
  exact Ael ht ha hb hf hs
 ·have e0:(pr2 k l).a0=l:=by unfold pr2;simp only;omega
  have e1:(pr2 k l).a1=k:=by unfold pr2;simp only;omega
  rw [e0,e1,Ael ht ha hb hf hs.symm]
  exact Or.comm
theorem Ao1 {ap:Ap} {i j k l x y:Int} (h:Nv ap x y) (h1:¬ (x=i∧y=j)) (h2:¬ (x=j∧y=i)):Nv (Dx ap i j k l) x y:=by
 unfold Nv at *
 rcases h with h | h
 ·left
  intro g
  rcases Ug g with g | g | g
  ·exact h g
  ·exact h1 g
  ·exact h2 g
 ·right
  intro g
  rcases Ug g with g | g | g
  ·exact h g
  ·exact h2 ⟨g.2,g.1⟩
  ·exact h1 ⟨g.2,g.1⟩
def Afd (i j:Nat):Nat:=if j < i then j else j-1
theorem Agm (i:Nat) (f:Nat→Int) {j:Nat} (hj:j≠i):cutF i f (Afd i j)=f j:=by
 unfold cutF Afd
 by_cases c:j < i
 ·rw [if_pos c,if_pos c]
 ·rw [if_neg c,if_neg (by omega),show j-1+1=j by omega]
/-- One round. -/
theorem Np.round (hv:Hj v) (hn:v.length≤1024) (ha:inN v.length a) (hb:inN v.length b) (hf:Free v a b) {F:List (Aa × Bool)} {m0 m:Mp} {q:List Aa} {M i:Nat} {u w:Nat→Int} {π:List Nat} (h:Np v a b m0 m q M u w (i::π)) :
  ∃ m' q' M' u' w' π',Cp ⟨a,b⟩ (v,m,F,q)=some (.inl (v,m',F,q'))∧Np v a b m0 m' q' M' u' w' π' ∧
   (M' < M∨(M'=M∧π'=π++[i]∧((Vc (plV v) (apM m) u w i∧apM m'=apM m∧u'=u∧w'=w)∨Wo (plV v) (inN v.length) M (apM m) u w i (apM m') u' w'))):=by
 have hi:i < M:=(h.all i).1 List.mem_cons_self
 obtain ⟨k,hk⟩:=h.strip.someR hi
 obtain ⟨l,hl⟩:=h.strip.someL h.tri hi
 obtain ⟨vu,vw,vk,_⟩:=h.tri.ccw _ _ _ hk
 obtain ⟨_,_,vl,_⟩:=h.tri.ccw _ _ _ hl
 obtain ⟨x,y,hx,hy,hxy⟩:=At2 hk hl
 obtain ⟨nd1,nd2⟩:=List.nodup_cons.1 h.nd
 have hlen:=h.len
 rw [List.length_cons] at hlen
 have hq:q=pr2 (u i) (w i)::π.map fun i=>pr2 (u i) (w i):=by rw [h.que,List.map_cons]
 have hr:=Vs vu vw
 have hne:∀ j∈π,j≠i:=fun j hj e=>nd1 (e ▸ hj)
 have inp:∀ j,j < M→j≠i→j∈π:=fun j h1 h2=>(List.mem_cons.1 ((h.all j).2 h1)).resolve_left h2
 have hlt:∀ j∈π,j < M:=fun j hj=>(h.all j).1 (List.mem_cons_of_mem _ hj)
 -- what the program does
 have pre:∀ (fl:Ae × Bool),Df ⟨v,m,F⟩ (pr2 (u i) (w i)).a0 (pr2 (u i) (w i)).a1=some fl→Cp ⟨a,b⟩ (v,m,F,q) =
   if fl.2=true then (bnd (Gz fl.1.v ⟨a,b⟩ (pr2 k l)) fun r189=>if r189=true then (gd (((π.map fun i=>pr2 (u i) (w i)).length+1)*16≤140737488355328) <| some (.inl (fl.1.v,fl.1.apex,fl.1.fixed,(π.map fun i=>pr2 (u i) (w i))++[pr2 k l]))) else (some (.inl (fl.1.v,fl.1.apex,fl.1.fixed,π.map fun i=>pr2 (u i) (w i)))))
   else (gd (((π.map fun i=>pr2 (u i) (w i)).length+1)*16≤140737488355328) <| some (.inl (fl.1.v,fl.1.apex,fl.1.fixed,(π.map fun i=>pr2 (u i) (w i))++[pr2 (u i) (w i)]))):=fun fl hfl=>by
  unfold Cp
  dsimp only
  rw [hq,if_pos (by simp),show idx (pr2 (u i) (w i)::π.map fun i=>pr2 (u i) (w i)) 0=some (pr2 (u i) (w i)) from rfl,Ah,gd_t ⟨by omega,by simp;omega⟩,gd_t (Mh hn hr.1 hr.2),hx,Ah,gd_t (Mh hn hr.2 hr.1),hy,Ah,hfl,Ah]
  rw [show Fd ((some x).getD 0) ((some y).getD 0)=some (pr2 k l) from by rw [← hxy];rfl,Ah]
  rfl
 have okl:((π.map fun i=>pr2 (u i) (w i)).length+1)*16≤140737488355328:=by rw [List.length_map];omega
 rcases At1 (F:=F) hv hn h.map h.tri hk hl with ⟨s,e⟩ | ⟨m',Q,e,hm',ha'⟩
 ·-- it stands
  refine ⟨m,_,M,u,w,π++[i],by rw [pre _ e,if_neg (by simp),gd_t okl],⟨h.map,h.tri,h.cov,h.ne,h.strip,?_,fun j=>?_,by rw [List.map_append];rfl,h.fin,h.keep,by simp;omega⟩,.inr ⟨rfl,rfl,.inl ⟨fun k' l' hk' hl'=>?_,rfl,rfl,rfl⟩⟩⟩
  ·exact (List.perm_append_comm (l₁:=[i]) (l₂:=π)).nodup_iff.1 h.nd
  ·rw [← h.all j]
   simp only [List.mem_append,List.mem_cons,List.not_mem_nil,or_false]
   exact Or.comm
  ·rw [hk] at hk';rw [hl] at hl'
   obtain rfl:=Option.some.inj hk'
   obtain rfl:=Option.some.inj hl'
   exact s
 ·have tri':Tri (plV v) (inN v.length) (apM m'):=by rw [ha'];exact Q.flip
  have cov':Cov (plV v) (inN v.length) (apM m'):=by rw [ha'];exact Q.cov h.cov
  have vals:=Xy Q
  have ne':m'≠[]:=fun e=>by
   have:=vals.1
   rw [← ha',e] at this
   cases this
  have hs':apM m' k l≠none∨apM m' l k≠none:=.inr (by rw [ha',vals.2.1];simp)
  have cr0:=h.strip.cr h.tri i hi
  have keep':∀ x y,¬ Cr v a b x y→¬ Cr v a b y x→Nv (apM m0) x y→Nv (apM m') x y:=fun x y n1 n2 hs=>by
   rw [ha']
   exact Ao1 (h.keep x y n1 n2 hs) (fun e=>n1 (by rw [e.1,e.2];exact cr0)) (fun e=>n2 (by rw [e.1,e.2];exact cr0))
  have hcr:=Ww hv (k:=⟨a,b⟩) (l:=pr2 k l) ha hb (Vs vk vl).1 (Vs vk vl).2
  have hcp:=Afc tri' ha hb hf hs'
  -- the side goes away
  have cut:((i=0∨i+1=M)∨(0 < i∧i+1 < M∧((u i=u (i-1)∧u (i+1)=u i)∨(w i=w (i-1)∧w (i+1)=w i))))→¬ (Cr v a b k l∨Cr v a b l k)→(M=1→k=b∧l=a) →
    ∃ m' q' M' u' w' π',Cp ⟨a,b⟩ (v,m,F,q)=some (.inl (v,m',F,q'))∧Np v a b m0 m' q' M' u' w' π' ∧
   (M' < M∨(M'=M∧π'=π++[i]∧((Vc (plV v) (apM m) u w i∧apM m'=apM m∧u'=u∧w'=w)∨Wo (plV v) (inN v.length) M (apM m) u w i (apM m') u' w'))):=fun hc hnc hone=>by
   refine ⟨m',_,M-1,cutF i u,cutF i w,π.map (Afd i),by rw [pre _ e,if_pos rfl,hcr,Ah,if_neg (by rw [decide_eq_true_eq];exact fun g=>hnc (hcp.1 g))],⟨hm',tri',cov',ne',?_,?_,fun j=>?_,?_,fun h0=>?_,keep',by simp;omega⟩,.inl (by omega)⟩
   ·rw [ha'];exact h.strip.cut hi Q hc
   ·unfold List.Nodup
    rw [List.pairwise_map]
    refine List.Pairwise.imp_of_mem (fun {p r} hp hr' hpr e=>?_) nd2
    have:=hne p hp
    have:=hne r hr'
    unfold Afd at e
    split at e <;> split at e <;> omega
   ·rw [List.mem_map]
    constructor
    ·rintro ⟨t,ht',rfl⟩
     have:=hlt t ht'
     have:=hne t ht'
     unfold Afd
     split <;> omega
    ·intro hj
     by_cases c:j < i
     ·exact ⟨j,inp j (by omega) (by omega),by unfold Afd;rw [if_pos c]⟩
     ·exact ⟨j+1,inp (j+1) (by omega) (by omega),by unfold Afd;rw [if_neg (by omega)];omega⟩
   ·rw [List.map_map]
    refine List.map_congr_left fun j hj=>?_
    simp only [Function.comp]
    rw [Agm i u (hne j hj),Agm i w (hne j hj)]
   ·obtain ⟨e1,e2⟩:=hone (by omega)
    unfold Nv
    rw [ha',← e1,← e2]
    exact .inl (by rw [vals.2.1];simp)
  -- it turns
  have turn:∀ u' w',Eb (plV v) (apM m') a b M u' w'→(∀ j,j≠i→u' j=u j)→(∀ j,j≠i→w' j=w j)→pr2 (u' i) (w' i)=pr2 k l→(Cr v a b k l∨Cr v a b l k)→Wo (plV v) (inN v.length) M (apM m) u w i (apM m') u' w' →
    ∃ m' q' M' u' w' π',Cp ⟨a,b⟩ (v,m,F,q)=some (.inl (v,m',F,q'))∧Np v a b m0 m' q' M' u' w' π' ∧
   (M' < M∨(M'=M∧π'=π++[i]∧((Vc (plV v) (apM m) u w i∧apM m'=apM m∧u'=u∧w'=w)∨Wo (plV v) (inN v.length) M (apM m) u w i (apM m') u' w'))):=fun u' w' hst hu hw he hc ht=>by
   refine ⟨m',_,M,u',w',π++[i],by rw [pre _ e,if_pos rfl,hcr,Ah,if_pos (by rw [decide_eq_true_eq];exact hcp.2 hc),gd_t okl],⟨hm',tri',cov',ne',hst,?_,fun j=>?_,?_,fun h0=>by omega,keep',by simp;omega⟩,.inr ⟨rfl,rfl,.inr ht⟩⟩
   ·exact (List.perm_append_comm (l₁:=[i]) (l₂:=π)).nodup_iff.1 h.nd
   ·rw [← h.all j]
    simp only [List.mem_append,List.mem_cons,List.not_mem_nil,or_false]
    exact Or.comm
   ·have e2:(π.map fun i=>pr2 (u i) (w i))=π.map fun i=>pr2 (u' i) (w' i):=List.map_congr_left fun j hj=>by rw [hu j (hne j hj),hw j (hne j hj)]
    rw [List.map_append,List.map_singleton,he,e2]
  have up:=h.strip.up
  have lo:=h.strip.lo
  rcases h.strip.left h.tri hi hl with ⟨g1,g2⟩ | ⟨g0,g1,g2⟩ | ⟨g0,g1,g2⟩ <;> rcases h.strip.right hi hk with ⟨k1,k2⟩ | ⟨k0,k1,k2⟩ | ⟨k0,k1,k2⟩
  ·exact cut (.inl (.inl g1)) (fun g=>g.elim (fun g=>g.ends.2.2.1 g2) (fun g=>g.ends.1 g2)) (fun _=>⟨k2,g2⟩)
  ·exact cut (.inl (.inl g1)) (fun g=>g.elim (fun g=>g.ends.2.2.1 g2) (fun g=>g.ends.1 g2)) (fun _=>by omega)
  ·exact cut (.inl (.inl g1)) (fun g=>g.elim (fun g=>g.ends.2.2.1 g2) (fun g=>g.ends.1 g2)) (fun _=>by omega)
  ·exact cut (.inl (.inr k1)) (fun g=>g.elim (fun g=>g.ends.2.1 k2) (fun g=>g.ends.2.2.2 k2)) (fun _=>by omega)
  ·refine cut (.inr ⟨g0,k0,.inl ⟨g1,k1⟩⟩) (fun g=>?_) (fun _=>by omega)
   have p1:=lo (i-1) (by omega)
   have p2:=lo (i+1) (by omega)
   rcases g with g | g
   ·have:=g.up;rw [k2] at this;omega
   ·have:=g.up;rw [g2] at this;omega
  ·obtain ⟨e1,e2,hst⟩:=h.strip.turnU hi Q g0 k0 g1 k1
   have hcr':=(Eb.cr (ap:=apM m') (by rw [ha'];exact hst) tri' i hi)
   have s1:setF i k u i=k:=if_pos rfl
   have s2:setF i l w i=l:=if_pos rfl
   rw [s1,s2] at hcr'
   exact turn (setF i k u) (setF i l w) (by rw [ha'];exact hst) (fun j hj=>if_neg hj) (fun j hj=>if_neg hj) (by rw [s1,s2]) (.inl hcr') ⟨k,l,Q,ha',g0,k0,.inl ⟨g1,k1,rfl,rfl⟩⟩
  ·exact cut (.inl (.inr k1)) (fun g=>g.elim (fun g=>g.ends.2.1 k2) (fun g=>g.ends.2.2.2 k2)) (fun _=>by omega)
  ·obtain ⟨e1,e2,hst⟩:=h.strip.turnL hi Q g0 k0 g1 k1
   have hcr':=(Eb.cr (ap:=apM m') (by rw [ha'];exact hst) tri' i hi)
   have s1:setF i l u i=l:=if_pos rfl
   have s2:setF i k w i=k:=if_pos rfl
   rw [s1,s2] at hcr'
   exact turn (setF i l u) (setF i k w) (by rw [ha'];exact hst) (fun j hj=>if_neg hj) (fun j hj=>if_neg hj) (by rw [s1,s2];exact Nh _ _) (.inr hcr') ⟨k,l,Q,ha',g0,k0,.inr ⟨g1,k1,rfl,rfl⟩⟩
  ·refine cut (.inr ⟨g0,k0,.inr ⟨g1,k1⟩⟩) (fun g=>?_) (fun _=>by omega)
   have p1:=up (i-1) (by omega)
   have p2:=up (i+1) (by omega)
   rcases g with g | g
   ·have:=g.lo;rw [g2] at this;omega
   ·have:=g.lo;rw [k2] at this;omega
end
end Go.Proofs.YtebkcipolijfmaaGreat
/- Forcing a line: the whole loop. -/
namespace Go.Proofs.YtebkcipolijfmaaGreat
open Go Go.RowKit
/-- A triangulation in which the line a-b is a side; the sides that do not cross it are those there were. -/
structure Alg (v:List Ab) (a b:Int) (m0 m:Mp):Prop where
 map:MapN v.length m
 tri:Tri (plV v) (inN v.length) (apM m)
 cov:Cov (plV v) (inN v.length) (apM m)
 ne:m≠[]
 side:Nv (apM m) a b
 keep:∀ x y,¬ Cr v a b x y→¬ Cr v a b y x→Nv (apM m0) x y→Nv (apM m) x y
section
variable {v:List Ab} {a b:Int} {F:List (Aa × Bool)} {m0:Mp}
abbrev FS:=(List Ab) × Mp × (List (Aa × Bool)) × (List Aa)
abbrev FG:=Nat × (Nat→Int) × (Nat→Int) × List Nat
theorem Alh (hv:Hj v) (hn:v.length≤1024) (ha:inN v.length a) (hb:inN v.length b) (hf:Free v a b) {m:Mp} {q:List Aa} {M:Nat} {u w:Nat→Int} {π:List Nat} (h:Np v a b m0 m q M u w π) :
  ∃ m',lfix (Cp ⟨a,b⟩) (v,m,F,q)=some (v,m',F)∧Alg v a b m0 m':=by
 have key:=Akn (B:=Cp ⟨a,b⟩) (γ:=FG)
  (fun (s:FS) g=>s.1=v∧s.2.2.1=F∧Np v a b m0 s.2.1 s.2.2.2 g.1 g.2.1 g.2.2.1 g.2.2.2)
  (fun s g s' g'=>g'.1 < g.1∨(g'.1=g.1∧∃ i l,g.2.2.2=i::l∧g'.2.2.2=l++[i]∧((Vc (plV v) (apM s.2.1) g.2.1 g.2.2.1 i∧apM s'.2.1=apM s.2.1∧g'.2.1=g.2.1∧g'.2.2.1=g.2.2.1)∨Wo (plV v) (inN v.length) g.1 (apM s.2.1) g.2.1 g.2.2.1 i (apM s'.2.1) g'.2.1 g'.2.2.1)))
  (fun t=>∃ m',t=(v,m',F)∧Alg v a b m0 m')
  (by
   rintro ⟨v',m,F',q⟩ ⟨M,u,w,π⟩ ⟨e1,e2,h⟩
   dsimp only at e1 e2 h
   subst e1 e2
   cases π with
   | nil =>
    left
    have h0:M=0:=by
     rcases Nat.eq_zero_or_pos M with g | g
     ·exact g
     ·have:=(h.all 0).2 g
      cases this
    refine ⟨(v',m,F'),?_,m,rfl,⟨h.map,h.tri,h.cov,h.ne,h.fin h0,h.keep⟩⟩
    have hq:=h.que
    rw [List.map_nil] at hq
    unfold Cp
    rw [hq,if_neg (by simp)]
   | cons i π =>
    right
    obtain ⟨m',q',M',u',w',π',g1,g2,g3⟩:=h.round hv hn ha hb hf (F:=F')
    refine ⟨(v',m',F',q'),(M',u',w',π'),g1,⟨rfl,rfl,g2⟩,?_⟩
    dsimp only
    rcases g3 with g3 | ⟨k1,k2,k3⟩
    ·exact .inl g3
    ·exact .inr ⟨k1,i,π,rfl,k2,k3⟩)
  (by
   intro f hI hR
   obtain ⟨T,hT⟩:=Aem (m:=fun n=>(f n).2.1) (fun n=>by
    rcases hR n with g | ⟨g,_⟩
    ·exact Nat.le_of_lt g
    ·exact Nat.le_of_eq g)
   have hM:∀ t,(f (T+t)).2.1=(f T).2.1:=fun t=>hT (T+t) (by omega)
   have hst:∀ t,∃ i l,(f (T+t)).2.2.2.2=i::l∧(f (T+(t+1))).2.2.2.2=l++[i]∧((Vc (plV v) (apM (f (T+t)).1.2.1) (f (T+t)).2.2.1 (f (T+t)).2.2.2.1 i∧apM (f (T+(t+1))).1.2.1=apM (f (T+t)).1.2.1∧(f (T+(t+1))).2.2.1=(f (T+t)).2.2.1∧(f (T+(t+1))).2.2.2.1=(f (T+t)).2.2.2.1)∨Wo (plV v) (inN v.length) (f (T+t)).2.1 (apM (f (T+t)).1.2.1) (f (T+t)).2.2.1 (f (T+t)).2.2.2.1 i (apM (f (T+(t+1))).1.2.1) (f (T+(t+1))).2.2.1 (f (T+(t+1))).2.2.2.1):=fun t=>by
    have h1:=hM t
    have h2:=hM (t+1)
    have:=hR (T+t)
    rw [show T+t+1=T+(t+1) by omega] at this
    rcases this with g | ⟨_,g⟩
    ·omega
    ·exact g
   have hm:∀ t i,i∈(f (T+t)).2.2.2.2↔i < (f T).2.1:=fun t i=>by rw [← hM t];exact (hI (T+t)).2.2.all i
   obtain ⟨w1,w2,w3⟩:=Aoc (π:=fun t=>(f (T+t)).2.2.2.2) (m:=(f T).2.1) (fun t=>by
    obtain ⟨i,l,g1,g2,_⟩:=hst t
    exact ⟨i,l,g1,g2⟩) (fun t=>(hI (T+t)).2.2.nd) hm
   have h0:0 < (f T).2.1:=by
    have:=w3 0
    omega
   refine Aqj (V:=inN v.length) (P:=plV v) (a:=a) (b:=b) (m:=(f T).2.1) (apt:=fun t=>apM (f (T+t)).1.2.1) (ut:=fun t=>(f (T+t)).2.2.1) (wt:=fun t=>(f (T+t)).2.2.2.1) (s:=fun t=>((f (T+t)).2.2.2.2).headD 0) h0 (hI (T+0)).2.2.tri (hI (T+0)).2.2.strip w1 w2 w3 (fun t=>?_)
   obtain ⟨i,l,g1,g2,g3⟩:=hst t
   rw [g1,List.headD_cons]
   rw [hM t] at g3
   exact g3)
  (v,m,F,q) (M,u,w,π) ⟨rfl,rfl,h⟩
 obtain ⟨t,h1,m',rfl,h2⟩:=key
 exact ⟨m',h1,h2⟩
end
/-! ### the queue at the beginning -/
section
variable {v:List Ab} {m:Mp}
theorem Agn (hm:MapN v.length m) (ht:Tri (plV v) (inN v.length) (apM m)) {s:Aa}:s∈m.flatMap (Gv m)↔∃ x y,Nv (apM m) x y∧s=pr2 x y:=by
 rw [List.mem_flatMap]
 constructor
 ·rintro ⟨⟨⟨x,y⟩,z⟩,hq,hs⟩
  unfold Gv at hs
  split at hs
  ·rw [List.mem_singleton] at hs
   refine ⟨x,y,.inl ?_,hs⟩
   have:apM m x y=some z:=Ob hm.ok hq
   rw [this];simp
  ·cases hs
 ·have one:∀ x y z,apM m x y=some z→∃ a∈m,pr2 x y∈Gv m a:=fun x y z h=>by
   by_cases c:x < y∨(mget m ⟨y,x⟩).isSome=false
   ·refine ⟨(⟨x,y⟩,z),Is h,?_⟩
    unfold Gv rev2
    rw [if_pos c]
    exact List.mem_singleton.2 rfl
   ·have c2:(mget m ⟨y,x⟩).isSome=true:=by
     cases e:(mget m ⟨y,x⟩).isSome with
     | true=>rfl
     | false=>exact absurd (.inr e) c
    obtain ⟨z',hz'⟩:=Option.isSome_iff_exists.1 c2
    refine ⟨(⟨y,x⟩,z'),Is hz',?_⟩
    unfold Gv rev2
    have hne:=(ht.ne h).1
    have hxy:¬ x < y:=fun g=>c (.inl g)
    rw [if_pos (.inl (show y < x by omega)),Nh]
    exact List.mem_singleton.2 rfl
  rintro ⟨x,y,h | h,rfl⟩
  ·obtain ⟨z,hz⟩:=Option.ne_none_iff_exists'.1 h
   exact one x y z hz
  ·obtain ⟨z,hz⟩:=Option.ne_none_iff_exists'.1 h
   rw [Nh]
   exact one y x z hz
theorem Ajy (ht:Tri (plV v) (inN v.length) (apM m)):∀ l:Mp,Fc l→(∀ q∈l,q∈m)→(∀ q∈l,apM m q.1.a0 q.1.a1=some q.2)→(l.flatMap (Gv m)).Nodup:=by
 intro l
 induction l with
 | nil=>intro _ _ _;exact List.Pairwise.nil
 | cons q r ih =>
  intro hl hsub hval
  obtain ⟨h1,h2⟩:=List.pairwise_cons.1 hl
  rw [List.flatMap_cons,List.nodup_append]
  refine ⟨?_,ih h2 (fun q hq=>hsub q (List.mem_cons_of_mem _ hq)) (fun q hq=>hval q (List.mem_cons_of_mem _ hq)),fun x hx y hy e=>?_⟩
  ·unfold Gv
   split
   ·simp
   ·exact List.Pairwise.nil
  ·subst e
   obtain ⟨q',hq',hy⟩:=List.mem_flatMap.1 hy
   have n1:=h1 q' hq'
   have v1:=hval q List.mem_cons_self
   have v2:=hval q' (List.mem_cons_of_mem _ hq')
   obtain ⟨⟨x0,x1⟩,z⟩:=q
   obtain ⟨⟨y0,y1⟩,z'⟩:=q'
   have e1:=(ht.ne v1).1
   have e2:=(ht.ne v2).1
   unfold Gv rev2 at hx hy
   dsimp only at *
   split at hx
   ·rename_i c1
    split at hy
    ·rename_i c2
     rw [List.mem_singleton] at hx hy
     rw [hx] at hy
     rcases Ah4 (i:=x0) (j:=x1) (a:=y0) (b:=y1) hy with ⟨k1,k2⟩ | ⟨k1,k2⟩
     ·subst k1 k2;exact n1 rfl
     ·subst k1 k2
      rcases c1 with c1 | c1
      ·rcases c2 with c2 | c2
       ·omega
       ·have:mget m ⟨x0,x1⟩=some z:=v1
        rw [this] at c2
        cases c2
      ·have:mget m ⟨x1,x0⟩=some z':=v2
       rw [this] at c1
       cases c1
    ·cases hy
   ·cases hx
end
end Go.Proofs.YtebkcipolijfmaaGreat
/- Forcing a line: what the program's force returns. -/
namespace Go.Proofs.YtebkcipolijfmaaGreat
open Go Go.RowKit
section
variable {v:List Ab} {a b:Int} {F:List (Aa × Bool)} {m:Mp}
noncomputable def crB (v:List Ab) (a b:Int) (s:Aa):Bool:=decide (Hc v a b s.a0 s.a1)
theorem Ali (hv:Hj v) (ha:inN v.length a) (hb:inN v.length b) (l:List Aa) (hl:l.length≤1048576) (hin:∀ s∈l,inN v.length s.a0∧inN v.length s.a1) :
  lfix (Gj (⟨v,m,F⟩,l) ⟨a,b⟩) ([],0)=some (v,m,F,l.filter (crB v a b)):=by
 obtain ⟨t,ht,hR⟩:=He (B:=Gj (⟨v,m,F⟩,l) ⟨a,b⟩) (fun s=>l.length-s.2.toNat)
  (fun s=>∃ k:Nat,s=((l.take k).filter (crB v a b),(k:Int))∧k≤l.length)
  (fun t=>t=(v,m,F,l.filter (crB v a b))) (by
   rintro s ⟨k,rfl,hk⟩
   unfold Gj
   dsimp only
   by_cases hlt:k < l.length
   ·left
    obtain ⟨h1,h2⟩:=hin _ (List.getElem_mem hlt)
    have hle:((l.take k).filter (crB v a b)).length≤1048576:=Nat.le_trans (List.length_filter_le _ _) (by simp;omega)
    refine ⟨((l.take (k+1)).filter (crB v a b),((k+1:Nat):Int)),?_,⟨k+1,rfl,by omega⟩,by simp;omega⟩
    rw [if_pos (by omega),jn_d,Cf hlt,Ah,Ww hv (k:=⟨a,b⟩) (l:=l[k]) ha hb h1 h2,Ah,Cq (by omega),List.take_add_one,List.getElem?_eq_getElem hlt,Option.toList_some,List.filter_append]
    by_cases c:Hc v a b l[k].a0 l[k].a1
    ·rw [if_pos (decide_eq_true c),gd_t (by omega)]
     have:crB v a b l[k]=true:=decide_eq_true c
     rw [List.filter_cons_of_pos this,List.filter_nil]
    ·rw [if_neg (by rw [decide_eq_true_eq];exact c)]
     have:¬ crB v a b l[k]=true:=by unfold crB;rw [decide_eq_true_eq];exact c
     rw [List.filter_cons_of_neg this,List.filter_nil,List.append_nil]
   ·right
    obtain rfl:k=l.length:=by omega
    exact ⟨_,by rw [if_neg (by omega)],by simp⟩)
  ([],0) ⟨0,by simp,by omega⟩
 rw [ht,hR]
theorem Ajz (hv:Hj v) (hn:v.length≤1024) (hm:MapN v.length m) (ht:Tri (plV v) (inN v.length) (apM m)) (hc:Cov (plV v) (inN v.length) (apM m)) (hne:m≠[]) (ha:inN v.length a) (hb:inN v.length b) (hab:a≠b) (hf:Free v a b) :
  ∃ M u w π,Np v a b m m ((Bg cmp2 (m.flatMap (Gv m))).filter (crB v a b)) M u w π:=by
 obtain ⟨M,u,w,hs,hfin,hall⟩:=Ar1 hv ht hc ha hb hab hf (Ar7 hv hm ht hc hne ha hb)
 have pm:=Ff cmp2 (m.flatMap (Gv m))
 have nds:(m.flatMap (Gv m)).Nodup:=Ajy ht m hm.ok (fun q h=>h) (fun q hq=>Ob hm.ok hq)
 have hf1:∀ q,(Gv m q).length≤1:=fun q=>by unfold Gv;split <;> simp
 have hl1:=Ew hf1 m
 have hl2:=hm.len
 have hl3:=Ys hn
 have hq:∀ s,s∈(Bg cmp2 (m.flatMap (Gv m))).filter (crB v a b)↔∃ i,i < M∧pr2 (u i) (w i)=s:=fun s=>by
  rw [List.mem_filter,Ki,Agn hm ht]
  constructor
  ·rintro ⟨⟨x,y,h1,rfl⟩,h2⟩
   unfold crB at h2
   rw [decide_eq_true_eq,Afc ht ha hb hf h1] at h2
   rcases h2 with h2 | h2
   ·obtain ⟨i,hi,rfl,rfl⟩:=hall x y h2 h1
    exact ⟨i,hi,rfl⟩
   ·obtain ⟨i,hi,rfl,rfl⟩:=hall y x h2 h1.symm
    exact ⟨i,hi,Nh _ _⟩
  ·rintro ⟨i,hi,rfl⟩
   obtain ⟨k,hk⟩:=hs.someR hi
   have h1:Nv (apM m) (u i) (w i):=.inl (by rw [hk];simp)
   refine ⟨⟨u i,w i,h1,rfl⟩,?_⟩
   unfold crB
   rw [decide_eq_true_eq,Afc ht ha hb hf h1]
   exact .inl (hs.cr ht i hi)
 haveI:∀ s,Decidable (∃ i,i < M∧pr2 (u i) (w i)=s):=fun _=>Classical.propDecidable _
 let ix:Aa→Nat:=fun s=>if h:∃ i,i < M∧pr2 (u i) (w i)=s then Classical.choose h else 0
 have hix:∀ s∈(Bg cmp2 (m.flatMap (Gv m))).filter (crB v a b),ix s < M∧pr2 (u (ix s)) (w (ix s))=s:=fun s h=>by
  have h':=(hq s).1 h
  have e:ix s=Classical.choose h':=dif_pos h'
  rw [e]
  exact Classical.choose_spec h'
 have ndq:((Bg cmp2 (m.flatMap (Gv m))).filter (crB v a b)).Nodup:=(pm.nodup_iff.2 nds).filter _
 refine ⟨M,u,w,((Bg cmp2 (m.flatMap (Gv m))).filter (crB v a b)).map ix,hm,ht,hc,hne,hs,?_,fun i=>?_,?_,hfin,fun _ _ _ _ h=>h,?_⟩
 ·exact Ri (fun x hx y hy e=>by rw [← (hix x hx).2,← (hix y hy).2,e]) ndq
 ·rw [List.mem_map]
  constructor
  ·rintro ⟨s,h,rfl⟩;exact (hix s h).1
  ·intro hi
   have hmem:=(hq _).2 ⟨i,hi,rfl⟩
   exact ⟨_,hmem,hs.pr_inj (hix _ hmem).1 hi (hix _ hmem).2⟩
 ·rw [List.map_map]
  have:((Bg cmp2 (m.flatMap (Gv m))).filter (crB v a b)).map ((fun i=>pr2 (u i) (w i)) ∘ ix)=((Bg cmp2 (m.flatMap (Gv m))).filter (crB v a b)).map id:=List.map_congr_left fun s h=>(hix s h).2
  rw [this,List.map_id]
 ·rw [List.length_map]
  refine Nat.le_trans (List.length_filter_le _ _) ?_
  rw [pm.length_eq]
  omega
theorem Ar2 (hv:Hj v) (hn:v.length≤1024) (hm:MapN v.length m) (ht:Tri (plV v) (inN v.length) (apM m)) (hc:Cov (plV v) (inN v.length) (apM m)) (hne:m≠[]) (ha:inN v.length a) (hb:inN v.length b) (hab:a≠b) (hf:Free v a b) (hF:F.length≤1000000000) :
  ∃ m',Jd ⟨v,m,F⟩ ⟨a,b⟩=some ⟨v,m',mput F ⟨a,b⟩ true⟩∧Alg v a b m m':=by
 obtain ⟨M,u,w,π,h⟩:=Ajz hv hn hm ht hc hne ha hb hab hf
 obtain ⟨m',h1,h2⟩:=Alh (F:=F) hv hn ha hb hf h
 have hf1:∀ q,(Gv m q).length≤1:=fun q=>by unfold Gv;split <;> simp
 have hl1:=Ew hf1 m
 have hl2:=hm.len
 have hl3:=Ys hn
 refine ⟨m',?_,h2⟩
 unfold Jd
 rw [jn_d,Ajk (b:=⟨v,m,F⟩) hn hm,Ah,Ali hv ha hb _ (by rw [(Ff _ _).length_eq];dsimp only;omega) (fun s hs=>?_),Ah]
 ·dsimp only
  rw [jn_d,h1,Ah]
  dsimp only
  rw [gd_t (Mh hn ha hb),gd_t (by omega)]
 ·rw [Ki,Agn hm ht] at hs
  obtain ⟨x,y,hs,rfl⟩:=hs
  rcases hs with hs | hs <;> obtain ⟨z,hz⟩:=Option.ne_none_iff_exists'.1 hs <;> obtain ⟨p,q,_⟩:=ht.ccw _ _ _ hz
  ·exact Vs p q
  ·exact Vs q p
end
end Go.Proofs.YtebkcipolijfmaaGreat
