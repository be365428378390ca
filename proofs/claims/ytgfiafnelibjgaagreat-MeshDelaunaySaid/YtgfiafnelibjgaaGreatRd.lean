/- MeshDelaunay. -/
import Derived.Test.YtgfiafnelibjgaaGreatU22
import Derived.Test.YtgfiafnelibjgaaGreatFlow2
import Derived.Test.YtgfiafnelibjgaaGreatRows
import Derived.ProofKit
import Derived.OpenShut
import Derived.ShutString
import Derived.ChangeOld
import Derived.Below
import Derived.Carry
import Derived.ChangeArms
import Derived.Deep.Slices
namespace Go.Proofs.YtgfiafnelibjgaaGreat
open Go Go.RowKit
section
variable {v:List Ab} {m:Mp} {L l:List Aa} {T:List Ai}
/-! ### across -/
theorem tm1:Int.tmod (w64 (0+1)) 3=1:=by rw [Bl (by omega) (by omega)];rfl
theorem tm2:Int.tmod (w64 (1+1)) 3=2:=by rw [Bl (by omega) (by omega)];rfl
theorem tm3:Int.tmod (w64 (2+1)) 3=0:=by rw [Bl (by omega) (by omega)];rfl
theorem tn1:Int.tmod (w64 (0+2)) 3=2:=by rw [Bl (by omega) (by omega)];rfl
theorem tn2:Int.tmod (w64 (1+2)) 3=0:=by rw [Bl (by omega) (by omega)];rfl
theorem tn3:Int.tmod (w64 (2+2)) 3=1:=by rw [Bl (by omega) (by omega)];rfl
theorem Ak6 {t:Ai} (h1:t.a0≠t.a1) (h2:t.a1≠t.a2) (h3:t.a2≠t.a0) (a n p q:Int) (hn:0≤n∧n≤1000000):lfix (Dr t p q) (a,n,0)=some (if p=t.a0∧q=t.a1 then (t.a2,n+1) else if p=t.a1∧q=t.a2 then (t.a0,n+1) else if p=t.a2∧q=t.a0 then (t.a1,n+1) else (a,n)):=by
 have wn:w64 (n+1)=n+1:=Bl (by omega) (by omega)
 have step:∀ (a n i j k x y z:Int),0≤i→i < 3→Int.tmod (w64 (i+1)) 3=j→Int.tmod (w64 (i+2)) 3=k→idx [t.a0,t.a1,t.a2] i=some x→idx [t.a0,t.a1,t.a2] j=some y→idx [t.a0,t.a1,t.a2] k=some z →
   Dr t p q (a,n,i)=some (.inl (if p=x∧q=y then (z,w64 (n+1),i+1) else (a,n,i+1))):=by
  intro a n i j k x y z hi hi3 hj hk hx hy hz
  have wi:w64 (i+1)=i+1:=Bl (by omega) (by omega)
  unfold Dr
  dsimp only
  rw [if_pos hi3,jn_d,jn_d,hx,Ae]
  by_cases c:x=p
  ·rw [if_pos c,hj,hy,Ae]
   by_cases c2:y=q
   ·rw [decide_eq_true c2]
    dsimp only
    rw [if_pos rfl,hk,hz,Ae,if_pos ⟨c.symm,c2.symm⟩,wi]
   ·rw [decide_eq_false c2]
    dsimp only
    rw [if_neg (show ¬ (false=true) by simp),if_neg (fun g=>c2 g.2.symm),wi]
  ·rw [if_neg c]
   dsimp only
   rw [if_neg (show ¬ (false=true) by simp),if_neg (fun g=>c g.1.symm),wi]
 have last:∀ a n:Int,Dr t p q (a,n,3)=some (.inr (a,n)):=fun a n=>by
  unfold Dr
  dsimp only
  rw [if_neg (by omega)]
 have s0:=fun a n=>step a n 0 1 2 t.a0 t.a1 t.a2 (by omega) (by omega) tm1 tn1 rfl rfl rfl
 have s1:=fun a n=>step a n 1 2 0 t.a1 t.a2 t.a0 (by omega) (by omega) tm2 tn2 rfl rfl rfl
 have s2:=fun a n=>step a n 2 0 1 t.a2 t.a0 t.a1 (by omega) (by omega) tm3 tn3 rfl rfl rfl
 rw [By,s0]
 by_cases c0:p=t.a0∧q=t.a1
 ·rw [if_pos c0,if_pos c0,wn]
  dsimp only
  rw [By,show (0:Int)+1=1 from rfl,s1,if_neg (by omega)]
  dsimp only
  rw [By,show (1:Int)+1=2 from rfl,s2,if_neg (by omega)]
  dsimp only
  rw [By,show (2:Int)+1=3 from rfl,last]
 ·rw [if_neg c0,if_neg c0]
  dsimp only
  rw [By,show (0:Int)+1=1 from rfl,s1]
  by_cases c1:p=t.a1∧q=t.a2
  ·rw [if_pos c1,if_pos c1,wn]
   dsimp only
   rw [By,show (1:Int)+1=2 from rfl,s2,if_neg (by omega)]
   dsimp only
   rw [By,show (2:Int)+1=3 from rfl,last]
  ·rw [if_neg c1,if_neg c1]
   dsimp only
   rw [By,show (1:Int)+1=2 from rfl,s2]
   by_cases c2:p=t.a2∧q=t.a0
   ·rw [if_pos c2,if_pos c2,wn]
    dsimp only
    rw [By,show (2:Int)+1=3 from rfl,last]
   ·rw [if_neg c2,if_neg c2]
    dsimp only
    rw [By,show (2:Int)+1=3 from rfl,last]
def acr:Option Int→Int × Int
 | some e=>(e,1)
 | none=>(-1,0)
theorem Vf (hM:Tri (plV v) (inN v.length) (apM m)) (hT:Ni v m T) (hl:T.length≤1048576) (p q:Int):Cw T p q=some (acr (apM m p q)):=by
 haveI:∀ l:List Ai,Decidable (∃ t∈l,Fk t p q):=fun _=>Classical.propDecidable _
 obtain ⟨t,h1,h2⟩:=Cx (B:=He T p q) (fun s=>T.length-s.2.2.toNat)
  (fun s=>∃ k:Nat,k≤T.length∧s.2.2=(k:Int)∧(s.1,s.2.1)=if ∃ t∈T.take k,Fk t p q then acr (apM m p q) else (-1,0))
  (fun t=>t=acr (apM m p q)) (by
   rintro ⟨a,n,i⟩ ⟨k,hk,e,hs⟩
   dsimp only at e hs
   subst e
   unfold He
   dsimp only
   by_cases hlt:k < T.length
   ·left
    have hg:=(hT.mem _).1 (List.getElem_mem hlt)
    obtain ⟨n1,n2,n3⟩:=hM.ne hg.2.2
    have hn:0≤n∧n≤1000000:=by
     have:=congrArg Prod.snd hs
     dsimp only at this
     rw [this]
     split
     ·unfold acr;split <;> simp
     ·simp
    rw [if_pos (by omega),jn_d,Bm hlt,Ae,Ak6 n1 n2 n3 a n p q hn,Ae,Bh (by omega)]
    have hnd:T[k] ∉ T.take k:=fun g=>by
     have:=hT.nd.sublist (List.take_sublist (k+1) T)
     rw [Bv hlt,Ov] at this
     exact this.2 g
    refine ⟨_,rfl,⟨k+1,by omega,rfl,?_⟩,by dsimp only;omega⟩
    dsimp only
    rw [Bv hlt]
    by_cases c:Fk T[k] p q
    ·have old:¬ ∃ t∈T.take k,Fk t p q:=fun ⟨t,ht,hs⟩=>by
      have:=Agj hM ((hT.mem _).1 (List.mem_of_mem_take ht)) hg hs c
      exact hnd (this ▸ ht)
     rw [if_neg old] at hs
     have hn0:n=0:=congrArg Prod.snd hs
     obtain ⟨_,_,g3⟩:=hg
     have r3:=hM.rot _ _ _ g3
     have q3:=hM.rot2 g3
     have hin:(if p=T[k].a0∧q=T[k].a1 then (T[k].a2,n+1) else if p=T[k].a1∧q=T[k].a2 then (T[k].a0,n+1) else if p=T[k].a2∧q=T[k].a0 then (T[k].a1,n+1) else (a,n))=acr (apM m p q):=by
      have c:=c
      unfold Fk at c
      rcases c with ⟨c1,c2⟩ | ⟨c1,c2⟩ | ⟨c1,c2⟩
      ·rw [if_pos ⟨c1,c2⟩,c1,c2,g3,hn0];rfl
      ·rw [if_neg (by omega),if_pos ⟨c1,c2⟩,c1,c2,r3,hn0];rfl
      ·rw [if_neg (by omega),if_neg (by omega),if_pos ⟨c1,c2⟩,c1,c2,q3,hn0];rfl
     have ex:∃ t∈T.take k++[T[k]],Fk t p q:=⟨T[k],List.mem_append.2 (.inr (List.mem_singleton.2 rfl)),c⟩
     rw [hin,if_pos ex]
    ·have c':=c
     unfold Fk at c'
     have hin:(if p=T[k].a0∧q=T[k].a1 then (T[k].a2,n+1) else if p=T[k].a1∧q=T[k].a2 then (T[k].a0,n+1) else if p=T[k].a2∧q=T[k].a0 then (T[k].a1,n+1) else (a,n))=(a,n):=by rw [if_neg (by omega),if_neg (by omega),if_neg (by omega)]
     rw [hin]
     dsimp only
     have iff:(∃ t∈T.take k++[T[k]],Fk t p q)↔∃ t∈T.take k,Fk t p q:=by
      constructor
      ·rintro ⟨t,ht,hs⟩
       rcases List.mem_append.1 ht with ht | ht
       ·exact ⟨t,ht,hs⟩
       ·rw [List.mem_singleton] at ht;subst ht;exact absurd hs c
      ·rintro ⟨t,ht,hs⟩;exact ⟨t,List.mem_append.2 (.inl ht),hs⟩
     by_cases w:∃ t∈T.take k,Fk t p q
     ·rw [if_pos w] at hs;rw [if_pos (iff.2 w)];exact hs
     ·rw [if_neg w] at hs;rw [if_neg (fun g=>w (iff.1 g))];exact hs
   ·right
    obtain rfl:k=T.length:=by omega
    rw [if_neg (by omega)]
    refine ⟨_,rfl,?_⟩
    rw [hs,List.take_length]
    by_cases w:∃ t∈T,Fk t p q
    ·rw [if_pos w]
    ·rw [if_neg w]
     rcases e:apM m p q with _ | x
     ·rfl
     ·obtain ⟨t,ht,hs⟩:=List.mem_flatMap.1 ((memS hM hT).2 ⟨x,e⟩)
      exact absurd ⟨t,ht,Mz.1 hs⟩ w)
  (-1,0,0) ⟨0,by omega,rfl,by simp⟩
 unfold Cw
 rw [jn_d,h1,Ae,h2]
/-! ### proper -/
theorem Ak7 (hv:Ci v) (hn:v.length≤1024) (hM:Tri (plV v) (inN v.length) (apM m)) {t:Ai} (h:Ut m t):Ji v t=some true:=by
 obtain ⟨_,_,h3⟩:=h
 obtain ⟨v0,v1,v2,A⟩:=hM.ccw _ _ _ h3
 have e1:lfix (Fi t v) 0=some (.inl ()):=by
  have st:∀ i x:Int,0≤i→i < 3→idx [t.a0,t.a1,t.a2] i=some x→inN v.length x→Fi t v i=some (.inl (i+1)):=fun i x h0 hi hx hin=>by
   unfold inN at hin
   unfold Fi
   rw [if_pos hi,hx,Ae,jn_d,if_neg (by omega),decide_eq_false (by omega)]
   dsimp only
   rw [if_neg (show ¬ (false=true) by simp),Bl (by omega) (by omega)]
  rw [By,st 0 t.a0 (by omega) (by omega) rfl v0]
  dsimp only
  rw [By,show (0:Int)+1=1 from rfl,st 1 t.a1 (by omega) (by omega) rfl v1]
  dsimp only
  rw [By,show (1:Int)+1=2 from rfl,st 2 t.a2 (by omega) (by omega) rfl v2]
  dsimp only
  rw [By,show (2:Int)+1=3 from rfl]
  unfold Fi
  rw [if_neg (by omega)]
 have e2:=Jw (β:=Unit) (γ:=Bool) v.length (by omega) (fun _=>false) (Gm v t (plV v t.a0) (plV v t.a1) (plV v t.a2)) () false (fun k hk=>by
  have hkn:inN v.length (k:Int):=⟨by omega,by omega⟩
  have hp:(⟨v[k].X,v[k].Y⟩:Ac)=plV v (k:Int):=(Ur hk).symm
  have fin:(some (.inl (w64 ((k:Int)+1))):Option (Sum Int (Sum Unit Bool)))=if (fun _:Nat=>false) k=true then some (.inr (.inr false)) else some (.inl ((k+1:Nat):Int)):=by
   rw [if_neg (by simp),Bh (by omega)]
  unfold Gm Aj
  rw [if_pos (by omega),Bm hk,Ae,Ae,jn_d]
  dsimp only
  rw [hp]
  by_cases n0:(k:Int)=t.a0
  ·rw [if_pos n0,if_neg (show ¬ (false=true) by simp)];exact fin
  rw [if_neg n0]
  by_cases n1:(k:Int)=t.a1
  ·rw [if_pos n1,if_neg (show ¬ (false=true) by simp)];exact fin
  rw [if_neg n1]
  by_cases n2:(k:Int)=t.a2
  ·rw [if_pos n2,if_neg (show ¬ (false=true) by simp)];exact fin
  rw [if_neg n2]
  have em:=hM.emp _ _ _ h3 k hkn n0 n1 n2
  have sg:∀ x:Int,0≤Int.sign x↔0≤x:=fun x=>by
   have:=@Int.sign_eq_neg_one_iff_neg x
   have:=Int.sign_trichotomy x
   omega
  rw [Jg (hv.ok _ v0) (hv.ok _ v1) (hv.ok _ hkn),Ae,Jg (hv.ok _ v1) (hv.ok _ v2) (hv.ok _ hkn),Jg (hv.ok _ v2) (hv.ok _ v0) (hv.ok _ hkn)]
  by_cases g1:0≤crs (plV v t.a0) (plV v t.a1) (plV v (k:Int))
  ·rw [if_pos ((sg _).2 g1),Ae]
   by_cases g2:0≤crs (plV v t.a1) (plV v t.a2) (plV v (k:Int))
   ·rw [if_pos ((sg _).2 g2),Ae,decide_eq_false (fun g=>by have:=(sg _).1 g;omega)]
    rw [if_neg (show ¬ (false=true) by simp)];exact fin
   ·rw [if_neg (fun g=>g2 ((sg _).1 g)),if_neg (show ¬ (false=true) by simp)];exact fin
  ·rw [if_neg (fun g=>g1 ((sg _).1 g)),if_neg (show ¬ (false=true) by simp)];exact fin) (by
  unfold Gm
  rw [if_neg (by omega)])
 have hany:(List.range v.length).any (fun _=>false)=false:=by simp
 rw [hany,if_neg (show ¬ (false=true) by simp)] at e2
 obtain ⟨x0,i0,p0⟩:=Hc v0
 obtain ⟨x1,i1,p1⟩:=Hc v1
 obtain ⟨x2,i2,p2⟩:=Hc v2
 unfold Ji
 rw [jn_d,e1,Ae]
 dsimp only
 rw [i0,Ae,i1,Ae,i2,Ae]
 unfold Aj
 rw [Ae,Ae,Ae]
 dsimp only
 rw [p0,p1,p2,Jg (hv.ok _ v0) (hv.ok _ v1) (hv.ok _ v2),Ae,if_pos (Int.sign_eq_one_of_pos A),jn_d,e2,Ae]
end
end Go.Proofs.YtgfiafnelibjgaaGreat
/- MeshDelaunay: shared sides, circles, lines, the whole. -/
namespace Go.Proofs.YtgfiafnelibjgaaGreat
open Go Go.RowKit
section
variable {v:List Ab} {m:Mp} {L l:List Aa} {T:List Ai}
theorem nt:¬ (false=true):=by simp
theorem anyF (n:Nat):(List.range n).any (fun _=>false)=false:=by simp
/-- A side of two triangles. -/
theorem Ak8 (hv:Ci v) (hl:l.length≤1000000) (hM:Mesh v (Av cmp2 (l.map prL)) m) (hT:Ni v m T) (hn:v.length≤1024) {p q c:Int} (hk:apM m p q=some c):Jj ⟨v,l⟩ T p q c=some true:=by
 haveI:∀ a b:Aa,Decidable (a=b):=fun _ _=>Classical.propDecidable _
 have hTl:=hT.len hn hM
 obtain ⟨vp,vq,vc,A⟩:=hM.tri.ccw _ _ _ hk
 unfold Jj
 rw [Vf hM.tri hT hTl,Ae,Vf hM.tri hT hTl,Ae,hk,jn_d]
 have e1:(acr (some c)).2=1:=rfl
 have e2:decide (1 < (acr (apM m q p)).2)=false:=by
  rcases apM m q p with _ | d
  ·rfl
  ·rfl
 rw [if_pos e1,e2]
 dsimp only
 rw [if_neg nt,jn_d]
 have lp:=Jw (β:=Unit) (γ:=Bool) l.length (by omega) (fun n=>decide (prL (l.getD n ⟨0,0⟩)=pr2 p q)) (Hf ⟨v,l⟩ p q) () true (fun n hn=>by
  have e:l.getD n ⟨0,0⟩=l[n]:=by simp [hn]
  have hi:=Yx (x:=l[n]) (y:=⟨p,q⟩)
  have e':prL ⟨p,q⟩=pr2 p q:=rfl
  rw [e'] at hi
  dsimp only at hi
  unfold Hf
  dsimp only
  rw [if_pos (by omega),Bm hn,Ae,jn_d,e,Bh (by omega)]
  by_cases c1:l[n].a0=p
  ·rw [if_pos c1]
   by_cases c2:l[n].a1=q
   ·rw [if_pos c2]
    dsimp only
    rw [if_pos rfl,if_pos (decide_eq_true (hi.2 (.inl ⟨c1,c2⟩)))]
   ·rw [if_neg c2]
    by_cases c3:l[n].a0=q
    ·rw [if_pos c3]
     dsimp only
     by_cases c4:l[n].a1=p
     ·rw [if_pos (decide_eq_true c4),if_pos (decide_eq_true (hi.2 (.inr ⟨c3,c4⟩)))]
     ·rw [if_neg (by simpa using c4),if_neg (by rw [decide_eq_true_eq,hi];omega)]
    ·rw [if_neg c3]
     dsimp only
     rw [if_neg nt,if_neg (by rw [decide_eq_true_eq,hi];omega)]
  ·rw [if_neg c1]
   by_cases c3:l[n].a0=q
   ·rw [if_pos c3]
    dsimp only
    by_cases c4:l[n].a1=p
    ·rw [if_pos (decide_eq_true c4),if_pos (decide_eq_true (hi.2 (.inr ⟨c3,c4⟩)))]
    ·rw [if_neg (by simpa using c4),if_neg (by rw [decide_eq_true_eq,hi];omega)]
   ·rw [if_neg c3]
    dsimp only
    rw [if_neg nt,if_neg (by rw [decide_eq_true_eq,hi];omega)]) (by
  unfold Hf
  dsimp only
  rw [if_neg (by omega)])
 rw [lp,Ae]
 by_cases cc:((List.range l.length).any fun n=>decide (prL (l.getD n ⟨0,0⟩)=pr2 p q))=true
 ·rw [if_pos cc]
 ·rw [if_neg cc]
  dsimp only
  have hno:pr2 p q ∉ Av cmp2 (l.map prL):=fun g=>by
   rw [Gu,List.mem_map] at g
   obtain ⟨x,hx,e⟩:=g
   obtain ⟨n,hn,rfl⟩:=List.getElem_of_mem hx
   refine cc (List.any_eq_true.2 ⟨n,List.mem_range.2 hn,?_⟩)
   rw [decide_eq_true_eq,show l.getD n ⟨0,0⟩=l[n] by simp [hn],e]
  rcases e:apM m q p with _ | d
  ·rfl
  ·obtain ⟨_,_,vd,B⟩:=hM.tri.ccw _ _ _ e
   have hD:=(hM.leg _ _ _ _ hk e).resolve_left hno
   have hB:crs (plV v p) (plV v q) (plV v d) < 0:=by rw [Aw] at B;omega
   have hleg:=((Vh hv vp vq vc vd A hB).1).2 hD
   obtain ⟨x0,i0,e0⟩:=Hc vp
   obtain ⟨x1,i1,e1⟩:=Hc vq
   obtain ⟨x2,i2,e2⟩:=Hc vc
   obtain ⟨x3,i3,e3⟩:=Hc vd
   have n1:¬ (acr (some d)).2=0:=by unfold acr;simp
   have d1:(acr (some d)).1=d:=rfl
   rw [if_neg n1,d1,i0,Ae,i1,Ae,i2,Ae,i3,Ae]
   unfold Aj
   rw [Ae,Ae,Ae,Ae]
   dsimp only
   rw [e0,e1,e2,e3,Amk,Ae]
   have hs:Int.sign (crs (plV v p) (plV v q) (plV v c))*Int.sign (crs (plV v p) (plV v q) (plV v d)) = -1:=by
    rw [Int.sign_eq_one_of_pos A,Int.sign_eq_neg_one_of_neg hB];rfl
   have lr:Aeu (plV v p) (plV v q) (plV v c) (plV v d)=(true,0):=by
    unfold Aeu
    rw [if_pos ⟨hv.ok _ vp,hv.ok _ vq,hv.ok _ vc,hv.ok _ vd⟩,if_pos hs,decide_eq_true hleg]
   rw [lr,jn_d]
   rfl
/-- No place lies within the circle of a triangle, where there are no lines. -/
theorem Ahu (hv:Ci v) (hn:v.length≤1024) (hM:Mesh v (Av cmp2 (l.map prL)) m) {a b c:Int} (hk:apM m a b=some c):lfix (Ct ⟨v,l⟩ (plV v a) (plV v b) (plV v c)) 0=some (.inl ()):=by
 obtain ⟨va,vb,vc,A⟩:=hM.tri.ccw _ _ _ hk
 have lp:=Jw (β:=Unit) (γ:=Bool) v.length (by omega) (fun _=>false) (Ct ⟨v,l⟩ (plV v a) (plV v b) (plV v c)) () false (fun k hk'=>by
  have hkn:inN v.length (k:Int):=⟨by omega,by omega⟩
  have hp:(⟨v[k].X,v[k].Y⟩:Ac)=plV v (k:Int):=(Ur hk').symm
  have fin:(some (.inl (w64 ((k:Int)+1))):Option (Sum Int (Sum Unit Bool)))=if (fun _:Nat=>false) k=true then some (.inr (.inr false)) else some (.inl ((k+1:Nat):Int)):=by
   rw [if_neg (by simp),Bh (by omega)]
  unfold Ct Aj
  dsimp only
  rw [if_pos (by omega),jn_d]
  by_cases c0:((l.length:Nat):Int)=0
  ·rw [if_pos c0,Bm hk',Ae,Ae]
   dsimp only
   rw [hp,Ab4 (hv.ok _ va) (hv.ok _ vb) (hv.ok _ vc) (hv.ok _ hkn),Ae]
   have le:inC (plV v a) (plV v b) (plV v c) (plV v (k:Int))≤0:=by
    refine Classical.byContradiction fun n=>?_
    have hl0:l=[]:=List.length_eq_zero_iff.1 (by omega)
    subst hl0
    have hd:=(Aam hv hM.map hM.tri hM.cov (fun i j k l hk hl=>(hM.leg i j k l hk hl).resolve_left (by simp [Av])) hM.ne a b c).1 hk
    have hin:=Asb hv va vb vc hkn (show 0 < inC (plV v a) (plV v b) (plV v c) (plV v (k:Int)) by omega)
    by_cases n0:(k:Int)=a
    ·rw [n0,DH_a] at hin;omega
    by_cases n1:(k:Int)=b
    ·rw [n1,DH_b] at hin;omega
    by_cases n2:(k:Int)=c
    ·rw [n2,DH_c] at hin;omega
    have:=hd.2.2.2.2 (k:Int) hkn n0 n1 n2
    omega
   rw [decide_eq_false (fun g=>by have:=Int.sign_eq_one_iff_pos.1 g;omega)]
   rw [if_neg nt];exact fin
  ·rw [if_neg c0,if_neg nt];exact fin) (by
  unfold Ct
  dsimp only
  rw [if_neg (by omega)])
 rw [lp,anyF,if_neg nt]
theorem Ahv (hv:Ci v) (hl:l.length≤1000000) (hn:v.length≤1024) (hM:Mesh v (Av cmp2 (l.map prL)) m) (hT:Ni v m T) {t:Ai} (h:Ut m t) {r:Gp × Int} (hr:r.1.T=T) (s:Int × Int) (x:Int) :
  lfix (Cu t ⟨v,l⟩ r s x) 0=some (.inl (w64 (s.1+x))):=by
 have h3:=h.2.2
 have st:∀ i j k a b c:Int,0≤i→i < 3→Int.tmod (w64 (i+1)) 3=j→Int.tmod (w64 (i+2)) 3=k→idx [t.a0,t.a1,t.a2] i=some a→idx [t.a0,t.a1,t.a2] j=some b→idx [t.a0,t.a1,t.a2] k=some c→apM m a b=some c→Cu t ⟨v,l⟩ r s x i=some (.inl (i+1)):=fun i j k a b c hi hi3 hj hk ha hb hc hap=>by
  unfold Cu
  rw [if_pos hi3,ha,Ae,hj,hb,Ae,hk,hc,Ae,hr,Ak8 hv hl hM hT hn hap,Ae,if_pos rfl,Bl (by omega) (by omega)]
 rw [By,st 0 1 2 _ _ _ (by omega) (by omega) tm1 tn1 rfl rfl rfl h3]
 dsimp only
 rw [By,show (0:Int)+1=1 from rfl,st 1 2 0 _ _ _ (by omega) (by omega) tm2 tn2 rfl rfl rfl (hM.tri.rot _ _ _ h3)]
 dsimp only
 rw [By,show (1:Int)+1=2 from rfl,st 2 0 1 _ _ _ (by omega) (by omega) tm3 tn3 rfl rfl rfl (hM.tri.rot2 h3)]
 dsimp only
 rw [By,show (2:Int)+1=3 from rfl]
 unfold Cu
 rw [if_neg (by omega)]
theorem Ana {α:Type} (f:α→Int) (l:List α) (x:α):tot f (l++[x])=tot f l+f x:=by
 rw [Xf];simp [tot]
theorem Adq (hv:Ci v) (hl:l.length≤1000000) (hn:v.length≤1024) (hM:Mesh v (Av cmp2 (l.map prL)) m) (hT:Ni v m T) {r:Gp × Int} (hr:r.1.T=T) :
  lfix (Ce r ⟨v,l⟩) (0,0)=some (.inl (w64 (tot (fun t:Ai=>crs (plV v t.a0) (plV v t.a1) (plV v t.a2)) T))):=by
 have hTl:=hT.len hn hM
 obtain ⟨t,h1,h2⟩:=Cx (B:=Ce r ⟨v,l⟩) (fun s=>T.length-s.2.toNat)
  (fun s=>∃ k:Nat,k≤T.length∧s=(w64 (tot (fun t:Ai=>crs (plV v t.a0) (plV v t.a1) (plV v t.a2)) (T.take k)),(k:Int)))
  (fun t=>t = .inl (w64 (tot (fun t:Ai=>crs (plV v t.a0) (plV v t.a1) (plV v t.a2)) T))) (by
   rintro s ⟨k,hk,rfl⟩
   unfold Ce
   dsimp only
   rw [hr]
   by_cases hlt:k < T.length
   ·left
    have hg:=(hT.mem _).1 (List.getElem_mem hlt)
    obtain ⟨v0,v1,v2,_⟩:=hM.tri.ccw _ _ _ hg.2.2
    obtain ⟨x0,i0,e0⟩:=Hc v0
    obtain ⟨x1,i1,e1⟩:=Hc v1
    obtain ⟨x2,i2,e2⟩:=Hc v2
    refine ⟨(w64 (tot (fun t:Ai=>crs (plV v t.a0) (plV v t.a1) (plV v t.a2)) (T.take (k+1))),((k+1:Nat):Int)),?_,⟨k+1,by omega,rfl⟩,by dsimp only;omega⟩
    rw [if_pos (by omega),jn_d,Bm hlt,Ae,Ak7 hv hn hM.tri hg,Ae,if_pos rfl,i0,Ae,i1,Ae,i2,Ae]
    unfold Aj
    rw [Ae,Ae,Ae]
    dsimp only
    rw [e0,e1,e2,Zg (hv.ok _ v0) (hv.ok _ v1) (hv.ok _ v2),Ae,jn_d,Ahu hv hn hM hg.2.2,Ae]
    dsimp only
    rw [Ahv hv hl hn hM hT hg hr,Ae]
    dsimp only
    rw [Aoh,Bh (by omega),Bv hlt,Ana]
   ·right
    obtain rfl:k=T.length:=by omega
    rw [if_neg (by omega)]
    exact ⟨_,rfl,by rw [List.take_length]⟩)
  (0,0) ⟨0,by omega,by simp [tot,Bl]⟩
 rw [h1,h2]
theorem Ak9 (hl:l.length≤1000000) (hn:v.length≤1024) (hM:Mesh v (Av cmp2 (l.map prL)) m) (hT:Ni v m T) {r:Gp × Int} (hr:r.1.T=T) :
  lfix (Be ⟨v,l⟩ r) 0=some (.inl ()):=by
 have hTl:=hT.len hn hM
 have lp:=Jw (β:=Unit) (γ:=Bool) l.length (by omega) (fun _=>false) (Be ⟨v,l⟩ r) () false (fun k hk=>by
  unfold Be
  dsimp only
  rw [hr,if_pos (by omega),Bm hk,Ae,Vf hM.tri hT hTl,Ae,Vf hM.tri hT hTl,Ae,jn_d]
  have hs:Og (apM m) l[k].a0 l[k].a1:=by
   have:=hM.side (prL l[k]) (Gu.2 (List.mem_map.2 ⟨_,List.getElem_mem hk,rfl⟩))
   unfold prL pr2 at this
   dsimp only at this
   by_cases c:l[k].a0≤l[k].a1
   ·rw [Int.min_eq_left c,Int.max_eq_right c] at this;exact this
   ·rw [Int.min_eq_right (by omega),Int.max_eq_left (by omega)] at this;exact this.symm
  have n0:¬ w64 ((acr (apM m l[k].a0 l[k].a1)).2+(acr (apM m l[k].a1 l[k].a0)).2)=0:=by
   unfold Og at hs
   rcases e:apM m l[k].a0 l[k].a1 with _ | x
   ·rcases e':apM m l[k].a1 l[k].a0 with _ | y
    ·rw [e,e'] at hs;simp at hs
    ·unfold acr;dsimp only;rw [Bl (by omega) (by omega)];omega
   ·rcases e':apM m l[k].a1 l[k].a0 with _ | y
    ·unfold acr;dsimp only;rw [Bl (by omega) (by omega)];omega
    ·unfold acr;dsimp only;rw [Bl (by omega) (by omega)];omega
  rw [decide_eq_false n0]
  dsimp only
  split <;> (rw [if_neg nt,if_neg nt,Bh (by omega)])) (by
  unfold Be
  dsimp only
  rw [if_neg (by omega)])
 rw [lp,anyF,if_neg nt]
end
end Go.Proofs.YtgfiafnelibjgaaGreat
/- MeshDelaunay: places on one line, and the whole. -/
namespace Go.Proofs.YtgfiafnelibjgaaGreat
open Go Go.RowKit
section
variable {v:List Ab} {m:Mp} {L l:List Aa} {T:List Ai}
theorem Ala (hn:v.length≤1024) {f g:Int} (hf:inN v.length f) (hg:inN v.length g) (high:∀ k,inN v.length k→k=g∨befP (plV v k) (plV v g)):lfix (Gk v) (f,0)=some g:=by
 have irr:∀ p:Ac,¬ befP p p:=fun p=>by unfold befP;omega
 have asym:∀ {p q:Ac},befP p q→¬ befP q p:=fun {p q} h=>by unfold befP at *;omega
 obtain ⟨t,h1,h2⟩:=Cx (B:=Gk v) (fun s=>v.length-s.2.toNat)
  (fun s=>∃ k:Nat,k≤v.length∧s.2=(k:Int)∧inN v.length s.1∧(g < (k:Int)→s.1=g))
  (fun t=>t=g) (by
   rintro ⟨x,i⟩ ⟨k,hk,e,hx,hs⟩
   dsimp only at e hx hs
   subst e
   unfold Gk
   dsimp only
   by_cases hlt:k < v.length
   ·left
    have hkn:inN v.length (k:Int):=⟨by omega,by omega⟩
    have hp:(⟨v[k].X,v[k].Y⟩:Ac)=plV v (k:Int):=(Ur hlt).symm
    obtain ⟨x0,i0,e0⟩:=Hc hx
    rw [if_pos (by omega),jn_d,i0,Ae,Bm hlt,Ae]
    unfold Aj
    rw [Ae,Ae]
    dsimp only
    rw [hp,e0,Acm,Ae,Bh (by omega)]
    by_cases c:befP (plV v x) (plV v (k:Int))
    ·rw [if_pos (decide_eq_true c)]
     refine ⟨_,rfl,⟨k+1,by omega,rfl,hkn,fun w=>?_⟩,by dsimp only;omega⟩
     dsimp only
     by_cases e:g < (k:Int)
     ·have:=hs e
      subst this
      rcases high _ hkn with w | w
      ·exact w
      ·exact absurd c (asym w)
     ·omega
    ·rw [if_neg (by simpa using c)]
     refine ⟨_,rfl,⟨k+1,by omega,rfl,hx,fun w=>?_⟩,by dsimp only;omega⟩
     dsimp only
     by_cases e:g < (k:Int)
     ·exact hs e
     ·have e:(k:Int)=g:=by omega
      rw [e] at c
      exact (high x hx).resolve_right c
   ·right
    obtain rfl:k=v.length:=by omega
    rw [if_neg (by omega)]
    exact ⟨_,rfl,hs hg.2⟩)
  (f,0) ⟨0,by omega,rfl,hf,fun w=>by unfold inN at hg;omega⟩
 rw [h1,h2]
theorem Adr (h:Mg v=0) (hfl:Zb v):Eg v=some 0:=by
 obtain ⟨hn,_,hv⟩:=Lt h
 have short:∀ (L:List Int) (e:Int),L.length≤2→lfix (Db (L,e) v) (0,2)=some 0:=fun L e hL=>by
  rw [By]
  unfold Db
  dsimp only
  rw [if_neg (by omega)]
 have bord:∃ L:List Int,Ek v=some (L,0)∧L.length≤2:=by
  unfold Ek
  rw [Pj,h,Ae,if_pos rfl]
  by_cases c0:((v.length:Nat):Int)=0
  ·rw [if_pos c0];exact ⟨[],rfl,by simp⟩
  ·rw [if_neg c0]
   obtain ⟨l,hl,hr⟩:=Adm hv hn
   have hlen:=hr.len
   have g0:0 < l.length:=by omega
   have g1:l.length-1 < l.length:=by omega
   have hf:=hr.val.1 (List.getElem_mem g0)
   have hg:=hr.val.1 (List.getElem_mem g1)
   have low:∀ k,inN v.length k→k=l[0]∨befP (plV v l[0]) (plV v k):=fun k hk=>by
    obtain ⟨j,hj,rfl⟩:=List.getElem_of_mem (hr.val.2 hk)
    by_cases e:j=0
    ·subst e;exact .inl rfl
    ·exact .inr (hr.lt g0 hj (by omega))
   have high:∀ k,inN v.length k→k=l[l.length-1]∨befP (plV v k) (plV v l[l.length-1]):=fun k hk=>by
    obtain ⟨j,hj,rfl⟩:=List.getElem_of_mem (hr.val.2 hk)
    by_cases e:j=l.length-1
    ·subst e;exact .inl rfl
    ·exact .inr (hr.lt hj g1 (by omega))
   obtain ⟨b,hb,hb2⟩:=Ajy hv hn
   have hbt:b=true:=hb2.2 fun k k1 k2=>by
    unfold inN at k2
    exact hfl 0 1 k ⟨by omega,by omega⟩ ⟨by omega,by omega⟩ k2
   rw [Agi hn hf low,Ae,hb,Ae,if_pos hbt,jn_d,Ala hn hf hg high,Ae]
   dsimp only
   split
   ·exact ⟨_,rfl,by simp⟩
   ·exact ⟨_,rfl,by simp⟩
 obtain ⟨L,h1,h2⟩:=bord
 unfold Eg
 rw [h1,Ae,jn_d,short L 0 h2,Ae]
theorem Ab0 (p q:Int):Cw [] p q=some (-1,0):=by
 unfold Cw
 rw [jn_d,By]
 unfold He
 dsimp only
 rw [if_neg (by simp)]
 rfl
theorem Ahw (hl:l.length≤1000000) {r:Gp × Int} (hr:r.1.T=[]):lfix (Be ⟨v,l⟩ r) 0=some (.inl ()):=by
 have lp:=Jw (β:=Unit) (γ:=Bool) l.length (by omega) (fun _=>false) (Be ⟨v,l⟩ r) () false (fun k hk=>by
  unfold Be
  dsimp only
  rw [hr,if_pos (by omega),Bm hk,Ae,Ab0,Ae,Ab0,Ae,jn_d,if_neg (by simp),if_neg nt]
  dsimp only
  rw [if_neg nt,Bh (by omega)]) (by
  unfold Be
  dsimp only
  rw [if_neg (by omega)])
 rw [lp,anyF,if_neg nt]
theorem Ab1 {r:Gp × Int} (hr:r.1.T=[]):lfix (Ce r ⟨v,l⟩) (0,0)=some (.inl 0):=by
 rw [By]
 unfold Ce
 dsimp only
 rw [hr,if_neg (by simp)]
theorem Abb (p:Bi):Fj p=some true:=by
 obtain ⟨v,l⟩:=p
 unfold Fj Mu
 dsimp only
 rw [jn_d,jn_d]
 by_cases c:30 < ((v.length:Nat):Int)
 ·rw [if_pos c,Ae,if_pos rfl]
  dsimp only
  rw [if_pos rfl,Zm,Ae]
 ·rw [if_neg c,Ae]
  by_cases c2:12 < ((l.length:Nat):Int)
  ·rw [decide_eq_true c2,if_pos rfl]
   dsimp only
   rw [if_pos rfl,Zm,Ae]
  ·have hl:l.length≤1000000:=by omega
   rw [decide_eq_false c2,if_neg nt,Af0 hl,Ae]
   dsimp only
   by_cases h:Mg v=0
   ·rw [if_pos h]
    by_cases h1:Qs v l=0
    ·obtain ⟨hn,_,hv⟩:=Lt h
     have hE:=Uq.1 h1
     obtain ⟨T,e1,e4⟩:=Aa9 h hl hE.1 hE.2
     rw [decide_eq_true h1,show (!true)=false from rfl,if_neg nt,e1,Ae,if_pos rfl,jn_d]
     rcases e4 with ⟨f,rfl⟩ | ⟨f,m,hM,eT⟩
     ·rw [Ab1 rfl,Ae]
      dsimp only
      rw [Adr h f,Ae,if_pos rfl,jn_d,Ahw hl rfl,Ae]
      dsimp only
      rw [Zm,Ae]
     ·have hT:Ni v m T:=eT ▸ Aow hM.map
      rw [Adq hv hl hn hM hT rfl,Ae]
      dsimp only
      rw [Agm h f hM hT,Ae,if_pos rfl,jn_d,Ak9 hl hn hM hT rfl,Ae]
      dsimp only
      rw [Zm,Ae]
    ·rw [decide_eq_false h1,show (!false)=true from rfl,if_pos rfl,Zm,Ae]
   ·rw [if_neg h,decide_eq_false h,show (!false)=true from rfl,if_pos rfl,Zm,Ae]
end
end Go.Proofs.YtgfiafnelibjgaaGreat
/- What the arguments of a law are, read off the way a law's claim is told of them: lists, structs. -/
namespace Go.Proofs.YtgfiafnelibjgaaGreat
open Go.ChangeShapes Go.WideShapes Go.ChangeAt Go.RowKit

theorem own2:ownKnob Tryz.prog.godebug=none:=by kernel_rfl
theorem Anb:laidOutB Tryz.prog=true:=by kernel_rfl
def rI64 (z:Int):Prop:=-9223372036854775808≤z∧z≤9223372036854775807
theorem Aes {cs:List Value} {o:Nat} (h:cs.length=o):cs.drop o=[]:=by rw [← h,List.drop_length]
theorem Pr {cs X R:List Value} {o k o':Nat} (h1:(cs.drop o).take k=X) (h2:cs.drop o'=R) (ho:o'=o+k):cs.drop o=X++R:=by
 subst ho;rw [← h1,← h2,← List.drop_drop,List.take_append_drop]
section
variable {H:Type} {enc:TypeId × Value→H} {w:World} {base:Nat} {spare:Nat→Bool} {held:Bool} {P:Program}
theorem As0 {t:TypeId} (ht:P.underlying t=some (.int .i64)) {fuel:Nat} {cs:List Value} {x:DataW H × List MemPlace} (h:DataW.trod enc P w base spare held fuel t cs=some x):∃ z:Int,cs=[.int .i64 z]∧rI64 z:=by
 obtain ⟨n,hc,_,hw⟩:=DataW.trod_int ht h
 refine ⟨n,hc,?_⟩
 have h1:IntKind.i64.min = -9223372036854775808:=rfl
 have h2:IntKind.i64.max=9223372036854775807:=rfl
 simp only [Lit.wf,Bool.and_eq_true,decide_eq_true_eq] at hw
 unfold rI64;omega
theorem Agb {α:Type} {en:α→List Value} {okα:α→Prop} {t e:TypeId} {sz:Nat} (ht:P.underlying t=some (.slice e)) (hsz:P.cellsOf e=sz) (hp:0 < sz)
  (hel:∀ {fuel:Nat} {cs:List Value} {x:DataW H × List MemPlace},DataW.trod enc P w base spare held fuel e cs=some x→∃ v,cs=en v∧okα v)
  {fuel:Nat} {cs:List Value} {x:DataW H × List MemPlace} (h:DataW.trod enc P w base spare held fuel t cs=some x) :
  ∃ (v:List α) (A:Option Addr) (c:Nat),cs=[.slice A v.length c]∧Has [.old w] A v.length c sz en v∧∀ z∈v,okα z:=by
 rcases Go.Deep.open_slice ht h with ⟨rfl,_⟩ | ⟨a,len,cap,m,n,D,Pl,rfl,hb,hl,hm,hmm,_,hx⟩
 ·exact ⟨[],none,0,rfl,Has.nil,fun z hz=>by simp at hz⟩
 ·have hle:len≤m:=by rw [hmm];split <;> omega
  have key:∀ k,k≤len→∃ v:List α,v.length=k∧(∀ z∈v,okα z)∧∀ i (hi:i < v.length),w.cells? base (a.add (i*sz)) sz=some (en v[i]):=by
   intro k
   induction k with
   | zero=>intro _;exact ⟨[],rfl,fun z hz=>by simp at hz,fun i hi=>by simp at hi⟩
   | succ k ih =>
    intro hk
    obtain ⟨v,h1,h2,h3⟩:=ih (by omega)
    obtain ⟨cs',h4,h5⟩:=hx k (by omega)
    obtain ⟨z,rfl,hz⟩:=hel h5
    rw [hsz] at h4
    refine ⟨v++[z],by simp [h1],fun y hy=>?_,fun i hi=>?_⟩
    ·rcases List.mem_append.1 hy with hy | hy
     ·exact h2 y hy
     ·simp at hy;subst hy;exact hz
    ·simp at hi
     rcases Nat.lt_or_ge i v.length with hlt | hge
     ·rw [List.getElem_append_left hlt];exact h3 i hlt
     ·have:i=k:=by omega
      subst this
      rw [List.getElem_append_right hge]
      simp [h1];exact h4
  obtain ⟨v,h1,h2,h3⟩:=key len (Nat.le_refl _)
  subst h1
  have hesz:∀ z∈v,(en z).length=sz:=by
   intro z hz
   obtain ⟨i,hi,rfl⟩:=List.getElem_of_mem hz
   exact (World.cells?_some (h3 i hi)).2.1
  have hsl:Sl w (some a) v.length cap sz en v:=by
   refine ⟨rfl,hl,hm,hesz,fun hn=>?_⟩
   have hsp:a.spot=none:=by
    have h4:=(World.cells?_some (h3 0 hn)).2.2 0 hp
    have h5:(en v[0])[0]? = some ((en v[0])[0]'(by rw [hesz _ (List.getElem_mem hn)];exact hp)):=List.getElem?_eq_getElem _
    rw [h5] at h4
    simp only [Nat.zero_mul,Addr.add,if_true] at h4
    unfold World.cell? at h4
    split at h4
    ·split at h4
     ·cases h4
     ·rename_i hs;simpa using hs
    ·cases h4
   obtain ⟨b,o,sp⟩:=a
   have hsp:sp=none:=hsp
   subst hsp
   refine ⟨b,o,rfl,fun i hi j u hu=>?_⟩
   have hj:j < sz:=by rw [← hesz _ (List.getElem_mem hi)];exact (List.getElem?_eq_some_iff.1 hu).1
   have h4:=(World.cells?_some (h3 i hi)).2.2 j hj
   rw [hu,Addr.add_lit,Addr.add_lit] at h4
   exact h4
  exact ⟨v,some a,cap,rfl,hsl.has,h2⟩
end
theorem Aua (w:World):∀ e∈[Ent.old w],Ent.ok w e:=fun e he=>by simp at he;subst he;exact ⟨Below.refl _ _,Nat.le_refl _⟩
end Go.Proofs.YtgfiafnelibjgaaGreat
