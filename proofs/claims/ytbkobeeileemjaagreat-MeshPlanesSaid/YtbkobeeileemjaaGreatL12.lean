/- Which vertices are valid: the reference. -/
import Derived.Test.YtbkobeeileemjaaGreatL9
import Derived.Test.YtbkobeeileemjaaGreatE1
import Derived.Test.YtbkobeeileemjaaGreatWE
namespace Go.Proofs.YtbkobeeileemjaaGreat
open Go Go.RowKit
theorem Zz (x:Ab):Ez x=some (decide (Jd x)):=by
 unfold Ez Hj
 rw [jn_d,Ah,Aog,Ah]
 by_cases h:okP (⟨x.X,x.Y⟩:Ac)
 ·rw [decide_eq_true h,if_pos rfl]
  by_cases h1:-268435456≤x.Z.Lo
  ·rw [if_pos h1]
   by_cases h2:x.Z.Lo≤x.Z.Hi
   ·rw [if_pos h2]
    congr 1
    rw [Bool.eq_iff_iff,decide_eq_true_eq,decide_eq_true_eq]
    exact ⟨fun g=>⟨h,h1,h2,g⟩,fun g=>g.2.2.2⟩
   ·rw [if_neg h2,decide_eq_false (fun g:Jd x=>h2 g.2.2.1)]
  ·rw [if_neg h1,decide_eq_false (fun g:Jd x=>h1 g.2.1)]
 ·rw [decide_eq_false h,if_neg (by simp),decide_eq_false (fun g:Jd x=>h g.1)]
theorem Aoe {v:List Ab} (c:v.length≤1024):lfix (Dn v) 0=some (if ((List.range v.length).any fun k=>!decide (Jd (v.getD k ⟨0,0,⟨0,0⟩⟩)))=true then .inr 60 else .inl ()):=by
 refine Xe v.length (by omega) (fun k=>!decide (Jd (v.getD k ⟨0,0,⟨0,0⟩⟩))) (Dn v) () 60 (fun k hk=>?_) ?_
 ·unfold Dn
  rw [if_pos (by omega),Cm hk,Ah,Zz,Ah,Cz (by omega)]
  have e:v.getD k ⟨0,0,⟨0,0⟩⟩=v[k]:=by simp [hk]
  rw [e]
  by_cases g:Jd v[k]
  ·simp [g]
  ·simp [g]
 ·unfold Dn
  rw [if_neg (by omega)]
theorem Aaa (v:List Ab):Gq v=some (Lq v):=by
 unfold Gq Lq
 by_cases c:1024 < v.length
 ·rw [if_pos (by omega),if_pos c]
 ·rw [if_neg (by omega),if_neg c,jn_d]
  rw [Aoe (by omega),Ah]
  ·by_cases h:∀ x∈v,Jd x
   ·rw [if_neg (fun g=>Aaj.1 g h),if_neg (not_not_intro h)]
    dsimp only
    rw [jn_d]
    have hin:∀ i (hi:i < v.length),lfix (Em (i:Int) v) 0=some (if (List.range i).any (fun j=>decide (Qj v[i] (v.getD j ⟨0,0,⟨0,0⟩⟩))) then .inr 61 else .inl ()):=fun i hi=>by
     refine Xe i (by omega) _ _ () 61 (fun k hk=>?_) ?_
     ·unfold Em
      have e:v.getD k ⟨0,0,⟨0,0⟩⟩=v[k]'(by omega):=by simp [show k < v.length by omega]
      rw [if_pos (by omega),jn_d,Cm hi,Ah,Cm (show k < v.length by omega),Ah,Cz (by omega),e]
      unfold Qj
      by_cases g1:v[i].X=v[k].X
      ·rw [if_pos g1,Ah,Ah]
       by_cases g2:v[i].Y=v[k].Y
       ·simp [g1,g2]
       ·simp [g2]
      ·rw [if_neg g1]
       simp [g1]
     ·unfold Em
      rw [if_neg (by omega)]
    have hout:lfix (Dg v) 0=some (if ((List.range v.length).any fun i=>(List.range i).any fun j=>decide (Qj (v.getD i ⟨0,0,⟨0,0⟩⟩) (v.getD j ⟨0,0,⟨0,0⟩⟩)))=true then .inr 61 else .inl ()):=by
     refine Xe v.length (by omega) (fun i=>(List.range i).any fun j=>decide (Qj (v.getD i ⟨0,0,⟨0,0⟩⟩) (v.getD j ⟨0,0,⟨0,0⟩⟩))) (Dg v) () 61 (fun i hi=>?_) ?_
     ·unfold Dg
      have e:v.getD i ⟨0,0,⟨0,0⟩⟩=v[i]:=by simp [hi]
      rw [if_pos (by omega),jn_d,hin i hi,Ah,Cz (by omega),e]
      by_cases g:((List.range i).any fun j=>decide (Qj v[i] (v.getD j ⟨0,0,⟨0,0⟩⟩)))=true
      ·rw [if_pos g,if_pos g]
      ·rw [if_neg g,if_neg g]
     ·unfold Dg
      rw [if_neg (by omega)]
    rw [hout,Ah]
    ·have hd:((List.range v.length).any fun i=>(List.range i).any fun j=>decide (Qj (v.getD i ⟨0,0,⟨0,0⟩⟩) (v.getD j ⟨0,0,⟨0,0⟩⟩)))=true↔¬ Dr v:=by
      rw [← Aek,List.any_eq_true]
      constructor
      ·rintro ⟨i,hi,hj⟩
       rw [List.any_eq_true] at hj
       obtain ⟨j,hj,hs⟩:=hj
       rw [List.mem_range] at hi hj
       rw [decide_eq_true_eq] at hs
       refine ⟨i,j,hi,by omega,hj,?_⟩
       simpa [hi,show j < v.length by omega] using hs
      ·rintro ⟨i,j,hi,hj,hji,hs⟩
       refine ⟨i,List.mem_range.2 hi,?_⟩
       rw [List.any_eq_true]
       exact ⟨j,List.mem_range.2 hji,by simpa [hi,hj] using hs⟩
     by_cases g:Dr v
     ·rw [if_neg (fun q=>hd.1 q g),if_neg (not_not_intro g)]
     ·rw [if_pos (hd.2 g),if_pos g]
   ·rw [if_pos (Aaj.2 h),if_pos h]
end Go.Proofs.YtbkobeeileemjaaGreat
/- A mesh without lines covers its vertices, and no triangle has a vertex in it but its corners; its triangles depend on the places alone. -/
namespace Go.Proofs.YtbkobeeileemjaaGreat
open Go Go.RowKit
theorem Aof {v:List Ab} {m:Mp} (hm:MapN v.length m) (ht:Tri (plV v) (inN v.length) (apM m)) (hc:Cov (plV v) (inN v.length) (apM m)) (hl:∀ i j k l,apM m i j=some k→apM m j i=some l→DH (plV v) (hV v) i j k l < 0) (hne:m≠[])
  {p:Int} (hp:inN v.length p):∃ a b c,apM m a b=some c∧0≤crs (plV v a) (plV v b) (plV v p)∧0≤crs (plV v b) (plV v c) (plV v p)∧0≤crs (plV v c) (plV v a) (plV v p):=by
 have mem:∀ a b c:Int,(a,b,c)∈(m.map fun q=>(q.1.a0,q.1.a1,q.2))↔apM m a b=some c:=fun a b c=>by
  rw [List.mem_map]
  constructor
  ·rintro ⟨⟨⟨x,y⟩,z⟩,hq,e⟩
   cases e
   exact My hm.ok hq
  ·intro h
   exact ⟨(⟨a,b⟩,c),Hk h,rfl⟩
 have hX:Ab8 (plV v) (m.map fun q=>(q.1.a0,q.1.a1,q.2)):=⟨fun a b c h=>(mem _ _ _).2 (ht.rot _ _ _ ((mem _ _ _).1 h)),fun a b c h=>(ht.ccw _ _ _ ((mem _ _ _).1 h)).2.2.2⟩
 have c3d:∀ x y,c3 x y (plV v p) (plV v p) (plV v p)=3*crs x y (plV v p):=fun x y=>by unfold c3;omega
 obtain ⟨t,hmt⟩:=List.exists_mem_of_ne_nil _ hne
 obtain ⟨⟨x,y,z⟩,hs,g1,g2,g3,_⟩:=walk (H:=hV v) hX (plV v p) (plV v p) (plV v p) (fun x y z hmem hlt=>by
  rw [c3d] at hlt
  have h1:=(mem _ _ _).1 hmem
  have:∃ e,apM m y x=some e:=by
   rcases e:apM m y x with _ | w
   ·have k1:=hc _ _ _ h1 e p hp
    omega
   ·exact ⟨w,rfl⟩
  obtain ⟨e,he⟩:=this
  exact ⟨e,(mem _ _ _).2 he,hl _ _ _ _ h1 he⟩) (t.1.a0,t.1.a1,t.2) (List.mem_map.2 ⟨t,hmt,rfl⟩)
 simp only [c3d] at g1 g2 g3
 exact ⟨x,y,z,(mem _ _ _).1 hs,by omega,by omega,by omega⟩
/-- What a mesh without lines is. -/
structure Fine (v:List Ab) (T:List Aq):Prop where
 mesh:Tx v T
 cov:T≠[]→∀ p,inN v.length p→∃ t∈T,covT v (plV v p) t=true
 emp:∀ t∈T,∀ p,inN v.length p→covT v (plV v p) t=true→p=t.a0∨p=t.a1∨p=t.a2
theorem Ab1 {v:List Ab} (h:Lq v=0):∃ T,Fb v []=some (⟨v,T,[]⟩,0)∧Fine v T:=by
 obtain ⟨hn,_,hv⟩:=Tz h
 obtain ⟨l,hl,hr⟩:=Aft hv hn
 obtain ⟨m,h1,h2⟩:=Af6 hv hn hr []
 unfold Fb
 rw [Zf,h,Ah,if_pos rfl,Tb,Ah,if_pos rfl,Aap,Ah,hl,Ah,h1,Ah,jn_d]
 dsimp only
 have hcl:Hn v=some v:=by
  unfold Hn
  rw [gd_t (by omega)]
 rcases h2 with ⟨h3,rfl⟩ | ⟨h3,h4,h5,h6,h7⟩
 ·rw [if_neg (by simp)]
  have ht:=Ou (n:=v.length) hn (b:=⟨v,[],[]⟩) ⟨List.Pairwise.nil,by simp⟩
  rw [hcl,Ah,ht,Ah]
  have e:Bd cmp3 (([]:Mp).flatMap triF)=[]:=by simp [Bd]
  refine ⟨_,rfl,?_⟩
  show Fine v (Bd cmp3 (([]:Mp).flatMap triF))
  rw [e]
  exact ⟨Aaq h3,fun h=>absurd rfl h,fun t ht=>by cases ht⟩
 ·have hpos:0 < m.length:=List.length_pos_iff.2 h7
  rw [if_pos (by omega),jn_d,Vb,Ah]
  obtain ⟨m',g1,g2,g3⟩:=Acp (b:=⟨v,m,[]⟩) hv hn h4 h5
  rw [g1,Ah]
  dsimp only at g1 g2 g3 ⊢
  have ht:=Ou (n:=v.length) hn (b:=⟨v,m',[]⟩) g2.map
  rw [hcl,Ah,ht,Ah]
  have leg:∀ i j k l,apM m' i j=some k→apM m' j i=some l→DH (plV v) (hV v) i j k l < 0:=fun i j k l hk hl=>by
   rcases g2.pend i j k l hk hl with q | q | q
   ·cases q
   ·unfold Fx mget at q;simp at q
   ·exact q
  have sd:=Ze hv g2.map g2.tri (g3.cov _ h6) leg (g3.ne h7)
  have mt:=Aip g2.map sd
  refine ⟨_,rfl,mt,fun _ p hp=>?_,fun t ht' p hp hcv=>?_⟩
  ·obtain ⟨a,b,c,hab,k1,k2,k3⟩:=Aof g2.map g2.tri (g3.cov _ h6) leg (g3.ne h7) hp
   have hd:=(sd a b c).1 hab
   have ne:=g2.tri.ne hab
   by_cases c1:a < b∧a < c
   ·exact ⟨⟨a,b,c⟩,(mt.mem _).2 ⟨c1.1,c1.2,hd⟩,by unfold covT;exact decide_eq_true ⟨k1,k2,k3⟩⟩
   ·by_cases c2:b < c∧b < a
    ·exact ⟨⟨b,c,a⟩,(mt.mem _).2 ⟨c2.1,c2.2,hd.rot⟩,by unfold covT;exact decide_eq_true ⟨k2,k3,k1⟩⟩
    ·exact ⟨⟨c,a,b⟩,(mt.mem _).2 ⟨by dsimp only;omega,by dsimp only;omega,hd.rot.rot⟩,by unfold covT;exact decide_eq_true ⟨k3,k1,k2⟩⟩
  ·have hab:=(sd _ _ _).2 ((mt.mem t).1 ht').2.2
   unfold covT at hcv
   rw [decide_eq_true_eq] at hcv
   refine Classical.byContradiction fun g=>?_
   have:=g2.tri.emp _ _ _ hab p hp (by omega) (by omega) (by omega)
   omega
/-- The triangles depend on the places alone. -/
theorem Tx.same {v w:List Ab} (hl:w.length=v.length) (hp:plV w=plV v) {T:List Aq} (h:Tx w T):Tx v T:=by
 have hh:hV w=hV v:=by
  funext i
  unfold hV aft
  rw [hl,hp]
 refine ⟨h.ord,h.nd,fun t=>(h.mem t).trans ?_⟩
 unfold Del
 rw [hl,hp,hh]
theorem Ab2 (v:List Ab):Fn v []=some 0:=by
 have e1:lfix (Fw []) 0=some ():=by
  rw [Ck]
  unfold Fw
  rw [if_neg (by simp)]
 have e2:lfix (Fk []) 0=some ():=by
  rw [Ck]
  unfold Fk
  rw [if_neg (by simp)]
 unfold Fn
 rw [jn_d,e1,Ah,jn_d,e2,Ah]
theorem Amc (v:List Ab):Jf v []=some (Lq v):=by
 unfold Jf
 rw [Aaa,Ah]
 by_cases h:Lq v=0
 ·rw [if_pos h,Ab2,Ah,h]
 ·rw [if_neg h]
theorem Ael {α β:Type} {f:α→List β} {N:Nat} (h:∀ x,(f x).length≤N):∀ l:List α,(l.flatMap f).length≤l.length*N
 | []=>by simp
 | a::l=>by
  rw [List.flatMap_cons,List.length_append,List.length_cons,Nat.succ_mul]
  have:=Ael h l
  have:=h a
  omega
theorem Ab3 {v:List Ab} {T:List Aq} (hb:Fb v []=some (⟨v,T,[]⟩,0)) (hn:v.length≤16) (hf:Fine v T) (hnear:∀ x∈v,Oc x):Aor ⟨v,T,[]⟩:=by
 refine ⟨hb,by dsimp only;omega,?_,hnear,rfl,fun t ht=>?_⟩
 ·-- no more triangles than triples
  have sub:∀ t∈T,t∈(inds v.length).flatMap fun i=>(inds v.length).flatMap fun j=>(inds v.length).map fun k=>(⟨i,j,k⟩:Aq):=fun t ht=>by
   obtain ⟨_,_,h0,h1,h2,_⟩:=(hf.mesh.mem t).1 ht
   rw [List.mem_flatMap]
   refine ⟨t.a0,Lx.2 h0,?_⟩
   rw [List.mem_flatMap]
   refine ⟨t.a1,Lx.2 h1,?_⟩
   rw [List.mem_map]
   exact ⟨t.a2,Lx.2 h2,rfl⟩
  haveI:DecidableEq Aq:=fun _ _=>Classical.propDecidable _
  have h1:=Jb hf.mesh.nd sub
  have e:=Ael (f:=fun i=>(inds v.length).flatMap fun j=>(inds v.length).map fun k=>(⟨i,j,k⟩:Aq)) (N:=v.length*v.length) (fun i=>by
   have:=Ael (f:=fun j=>(inds v.length).map fun k=>(⟨i,j,k⟩:Aq)) (N:=v.length) (fun j=>by simp [Oi]) (inds v.length)
   rwa [Oi] at this) (inds v.length)
  rw [Oi] at e
  have h2:v.length*(v.length*v.length)≤16*(16*16):=Nat.mul_le_mul hn (Nat.mul_le_mul hn hn)
  show T.length≤1000000000
  omega
 ·obtain ⟨_,_,h0,h1,h2,h3,_⟩:=(hf.mesh.mem t).1 ht
  exact ⟨h0,h1,h2,h3⟩
end Go.Proofs.YtbkobeeileemjaaGreat
/- The mesh of the square. -/
namespace Go.Proofs.YtbkobeeileemjaaGreat
open Go Go.RowKit
def sqv:List Ab:=[⟨0,0,⟨0,0⟩⟩,⟨2,0,⟨0,0⟩⟩,⟨0,2,⟨0,0⟩⟩,⟨2,2,⟨0,0⟩⟩]
theorem Aro:Lq sqv=0:=by
 unfold Lq sqv Dr Qj Jd okP pP
 simp
theorem Air:∀ a∈([0,1,2,3]:List Int),∀ b∈([0,1,2,3]:List Int),∀ c∈([0,1,2,3]:List Int),
  ((a < b∧a < c∧0 < crs (plV sqv a) (plV sqv b) (plV sqv c)∧∀ d∈([0,1,2,3]:List Int),d≠a→d≠b→d≠c→DH (plV sqv) (hV sqv) a b c d < 0)↔((a=0∧b=1∧c=2)∨(a=1∧b=3∧c=2))):=by
 decide +kernel
theorem in4 {i:Int}:inN sqv.length i↔i∈([0,1,2,3]:List Int):=by
 unfold inN sqv
 simp
 omega
theorem Amd:Tx sqv [⟨0,1,2⟩,⟨1,3,2⟩]:=by
 refine ⟨by simp [cmp3,cmpI],by simp,fun t=>?_⟩
 obtain ⟨a,b,c⟩:=t
 have key:∀ a b c,Del sqv a b c↔a∈([0,1,2,3]:List Int)∧b∈([0,1,2,3]:List Int)∧c∈([0,1,2,3]:List Int)∧0 < crs (plV sqv a) (plV sqv b) (plV sqv c)∧∀ d∈([0,1,2,3]:List Int),d≠a→d≠b→d≠c→DH (plV sqv) (hV sqv) a b c d < 0:=fun a b c=>by
  unfold Del
  simp only [in4]
 dsimp only
 rw [key]
 constructor
 ·intro h
  have e:(a=0∧b=1∧c=2)∨(a=1∧b=3∧c=2):=by simpa using h
  have ha:a∈([0,1,2,3]:List Int):=by rcases e with ⟨rfl,_,_⟩ | ⟨rfl,_,_⟩ <;> simp
  have hb:b∈([0,1,2,3]:List Int):=by rcases e with ⟨_,rfl,_⟩ | ⟨_,rfl,_⟩ <;> simp
  have hc:c∈([0,1,2,3]:List Int):=by rcases e with ⟨_,_,rfl⟩ | ⟨_,_,rfl⟩ <;> simp
  obtain ⟨h1,h2,h3,h4⟩:=(Air a ha b hb c hc).2 e
  exact ⟨h1,h2,ha,hb,hc,h3,h4⟩
 ·rintro ⟨h1,h2,ha,hb,hc,h3,h4⟩
  have e:=(Air a ha b hb c hc).1 ⟨h1,h2,h3,h4⟩
  simpa using e
theorem Ajx:Fb sqv []=some (⟨sqv,[⟨0,1,2⟩,⟨1,3,2⟩],[]⟩,0):=by
 obtain ⟨T,h1,h2⟩:=Akk Aro
 rw [h1,h2.unique Amd]
end Go.Proofs.YtbkobeeileemjaaGreat
/- The laws' own check of the square. -/
namespace Go.Proofs.YtbkobeeileemjaaGreat
open Go Go.RowKit
theorem Xi:En=some true:=by
 unfold En
 refine Eq.trans (congrArg (fun z=>bnd z _) Ajx) ?_
 show bnd (some _) _=_
 rw [Ah,jn_d]
 rfl
end Go.Proofs.YtbkobeeileemjaaGreat
