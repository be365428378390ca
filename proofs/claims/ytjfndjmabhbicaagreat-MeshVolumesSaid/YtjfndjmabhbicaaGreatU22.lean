/- The corners of the hull in their order: chains and what the reference walks (of M2 to M5). -/
import Derived.Test.YtjfndjmabhbicaaGreatU1
import Derived.Test.YtjfndjmabhbicaaGreatU21
import Derived.Test.YtjfndjmabhbicaaGreatZ1
import Derived.Test.YtjfndjmabhbicaaGreatX5
namespace Go.Proofs.YtjfndjmabhbicaaGreat
open Go Go.RowKit
section
variable {v:List Ab}
end
section
section
variable {P:Int->Ac} {α β:Int}
theorem Sup.congr {D D':List Int} (h:∀ x,x∈D'->x∈D) {a b:Int} (s:Sup P α β D a b):Sup P α β D' a b:=⟨s.1,fun k hk=>s.2 k (h k hk)⟩
theorem Akp.imp {Q R:Int->Int->Prop} (h:∀ a b,Q a b->R a b):∀ {s:List Int},Akp Q s->Akp R s:=by
 intro s
 induction s with
 | nil=>intro _;trivial
 | cons t s ih=>
  cases s with
  | nil=>intro _;trivial
  | cons a r=>exact fun g=>⟨h _ _ g.1,ih g.2⟩
end
end
section
variable {v:List Ab}
structure Nx (v:List Ab) (a b:Int):Prop where
 ina:inN v.length a
 inb:inN v.length b
 ne:a≠b
 left:∀ k,inN v.length k->0 < crs (plV v a) (plV v b) (plV v k)\/(crs (plV v a) (plV v b) (plV v k)=0/\Box (plV v a) (plV v b) (plV v k))
 far:∀ k,inN v.length k->k≠a->k≠b->crs (plV v a) (plV v b) (plV v k)=0->¬ Box (plV v a) (plV v k) (plV v b)
end
section
variable {v:List Ab}
end
section
variable {α γ:Type}
def tot (f:α->Int):List α->Int
 | []=>0
 | x::r=>f x+tot f r
theorem Aaa (f:α->Int):∀ l l':List α,tot f (l++l')=tot f l+tot f l'
 | [],l'=>by simp[tot]
 | x::r,l'=>by simp only[List.cons_append,tot,Aaa f r l'];omega
theorem Asj {f:α->Int} {l l':List α} (h:l.Perm l'):tot f l=tot f l':=by
 induction h with
 | nil=>rfl
 | cons x _ ih=>simp only[tot,ih]
 | swap x y l=>simp only[tot];omega
 | trans _ _ h1 h2=>rw[h1,h2]
theorem Ano (f:γ->Int) (g:α->γ):∀ l:List α,tot f (l.map g)=tot (fun x=>f (g x)) l
 | []=>rfl
 | x::r=>by simp only[List.map_cons,tot,Ano f g r]
theorem Xq (f:γ->Int) (g:α->List γ):∀ l:List α,tot f (l.flatMap g)=tot (fun x=>tot f (g x)) l
 | []=>rfl
 | x::r=>by rw[List.flatMap_cons,Aaa];simp only[tot,Xq f g r]
theorem Qi {f g:α->Int}:∀ {l:List α},(∀ x∈l,f x=g x)->tot f l=tot g l
 | [],_=>rfl
 | x::r,h=>by simp only[tot];rw[h x (by simp),Qi (fun y hy=>h y (by simp[hy]))]
theorem Aba (f g:α->Int):∀ l:List α,tot (fun x=>f x+g x) l=tot f l+tot g l
 | []=>rfl
 | x::r=>by simp only[tot,Aba f g r];omega
theorem Anp (f g:α->Int):∀ l:List α,tot (fun x=>f x-g x) l=tot f l-tot g l
 | []=>rfl
 | x::r=>by simp only[tot,Anp f g r];omega
theorem Anq (f:α->Int):∀ l:List α,tot (fun x=>-f x) l = -tot f l
 | []=>rfl
 | x::r=>by simp only[tot,Anq f r];omega
theorem Agy (f:α->Int) (p:α->Bool):∀ l:List α,tot f l=tot f (l.filter p)+tot f (l.filter fun x=>!p x)
 | []=>rfl
 | x::r=>by
  have ih:=Agy f p r
  by_cases c:p x=true
  ·rw[List.filter_cons_of_pos c,List.filter_cons_of_neg (by simp[c])]
   simp only[tot];omega
  ·rw[List.filter_cons_of_neg c,List.filter_cons_of_pos (by simp[c])]
   simp only[tot];omega
theorem Ru {p:α->Prop} [DecidablePred p]:∀ {l:List α},(∀ x∈l,¬ p x)->tot (fun x=>if p x then (1:Int) else 0) l=0
 | [],_=>rfl
 | x::r,h=>by simp only[tot];rw[if_neg (h x (by simp)),Ru (fun y hy=>h y (by simp[hy]))];rfl
theorem Yq {p:α->Prop} [DecidablePred p] {x:α}:∀ {l:List α},l.Nodup->x∈l->(∀ y∈l,p y↔y=x)->tot (fun x=>if p x then (1:Int) else 0) l=1
 | [],_,h,_=>by cases h
 | y::r,hn,hx,h=>by
  obtain ⟨n1,n2⟩:=List.nodup_cons.1 hn
  simp only[tot]
  by_cases e:y=x
  ·subst e
   rw[if_pos ((h y (by simp)).2 rfl),Ru (l:=r) (fun z hz g=>n1 ((h z (List.mem_cons_of_mem _ hz)).1 g ▸ hz))]
   rfl
  ·have hx':x∈r:=by
    rcases List.mem_cons.1 hx with e' | e'
    ·exact absurd e'.symm e
    ·exact e'
   rw[if_neg (fun g=>e ((h y (by simp)).1 g)),Yq n2 hx' (fun z hz=>h z (List.mem_cons_of_mem _ hz))]
   rfl
end
def xp (a b:Ac):Int:=a.X*b.Y-a.Y*b.X
theorem Ayf (a b c:Ac):crs a b c=xp a b+xp b c+xp c a:=by unfold crs xp;grind
theorem Avh (a b:Ac):xp b a = -xp a b:=by unfold xp;grind
section
variable {P:Int->Ac} {V:Int->Prop} {α β:Int}
end
section
variable {v:List Ab} {m:Mp} {L:List Aa} {T:List Ae}
def Iy (t:Ae):List (Int × Int):=[(t.a0,t.a1),(t.a1,t.a2),(t.a2,t.a0)]
theorem Rj {t:Ae} {p q:Int}:(p,q)∈Iy t↔Ft t p q:=by
 unfold Iy Ft
 simp
theorem memS (hM:Tri (plV v) (inN v.length) (apM m)) (hT:Qo v m T) {p q:Int}:(p,q)∈T.flatMap Iy↔∃ e,apM m p q=some e:=by
 rw[List.mem_flatMap]
 constructor
 ·rintro ⟨t,ht,hs⟩
  exact ((hT.mem t).1 ht).side hM (Rj.1 hs)
 ·rintro ⟨e,he⟩
  obtain ⟨n1,n2,n3⟩:=hM.ne he
  by_cases c1:p < q/\p < e
  ·exact ⟨⟨p,q,e⟩,(hT.mem _).2 ⟨c1.1,c1.2,he⟩,Rj.2 (.inl ⟨rfl,rfl⟩)⟩
  ·by_cases c2:q < p/\q < e
   ·exact ⟨⟨q,e,p⟩,(hT.mem _).2 ⟨c2.2,c2.1,hM.rot _ _ _ he⟩,Rj.2 (.inr (.inr ⟨rfl,rfl⟩))⟩
   ·exact ⟨⟨e,p,q⟩,(hT.mem _).2 ⟨by dsimp only;omega,by dsimp only;omega,hM.rot2 he⟩,Rj.2 (.inr (.inl ⟨rfl,rfl⟩))⟩
theorem Asl (hM:Tri (plV v) (inN v.length) (apM m)) {t t':Ae} (h:Wp m t) (h':Wp m t') {p q:Int} (hs:Ft t p q) (hs':Ft t' p q):t=t':=by
 obtain ⟨a,b,c⟩:=t
 obtain ⟨a',b',c'⟩:=t'
 obtain ⟨h1,h2,h3⟩:=h
 obtain ⟨h1',h2',h3'⟩:=h'
 have r3:=hM.rot _ _ _ h3
 have q3:=hM.rot2 h3
 have r3':=hM.rot _ _ _ h3'
 have q3':=hM.rot2 h3'
 unfold Ft at hs hs'
 dsimp only at *
 rcases hs with ⟨rfl,rfl⟩ | ⟨rfl,rfl⟩ | ⟨rfl,rfl⟩ <;> rcases hs' with ⟨rfl,rfl⟩ | ⟨rfl,rfl⟩ | ⟨rfl,rfl⟩
 ·rw[h3] at h3';cases h3';rfl
 ·rw[h3] at r3';cases r3';omega
 ·rw[h3] at q3';cases q3';omega
 ·rw[r3] at h3';cases h3';omega
 ·rw[r3] at r3';cases r3';rfl
 ·rw[r3] at q3';cases q3';omega
 ·rw[q3] at h3';cases h3';omega
 ·rw[q3] at r3';cases r3';omega
 ·rw[q3] at q3';cases q3';rfl
theorem Asm (hM:Tri (plV v) (inN v.length) (apM m)) (hT:Qo v m T):(T.flatMap Iy).Nodup:=by
 unfold List.Nodup
 rw[List.pairwise_flatMap]
 refine ⟨fun t ht=>?_,?_⟩
 ·obtain ⟨n1,n2,n3⟩:=hM.ne ((hT.mem t).1 ht).2.2
  unfold Iy
  simp
  omega
 ·refine List.Pairwise.imp_of_mem (fun {t t'} ht ht' hne x hx y hy e=>?_) hT.nd
  subst e
  obtain ⟨p,q⟩:=x
  exact hne (Asl hM ((hT.mem t).1 ht) ((hT.mem t').1 ht') (Rj.1 hx) (Rj.1 hy))
noncomputable def bds (m:Mp) (T:List Ae):List (Int × Int):=(T.flatMap Iy).filter fun s=>(apM m s.2 s.1).isNone
theorem Vy (hM:Tri (plV v) (inN v.length) (apM m)) (hT:Qo v m T) {p q:Int}:(p,q)∈bds m T↔(∃ e,apM m p q=some e)/\apM m q p=none:=by
 unfold bds
 rw[List.mem_filter,memS hM hT]
 simp
theorem Asn (hM:Tri (plV v) (inN v.length) (apM m)) (hT:Qo v m T) (f:Int × Int->Int):tot f ((T.flatMap Iy).filter fun s=>!(apM m s.2 s.1).isNone)=tot (fun s=>f (s.2,s.1)) ((T.flatMap Iy).filter fun s=>!(apM m s.2 s.1).isNone):=by
 have hnd:=(Asm hM hT).filter (fun s=>!(apM m s.2 s.1).isNone)
 have mem:∀ p q,(p,q)∈((T.flatMap Iy).filter fun s=>!(apM m s.2 s.1).isNone)↔(∃ e,apM m p q=some e)/\∃ e,apM m q p=some e:=fun p q=>by
  rw[List.mem_filter,memS hM hT]
  simp only[Bool.not_eq_true',Option.isNone_eq_false_iff,Option.isSome_iff_exists]
 rw[<- Ano f (fun s:Int × Int=>(s.2,s.1))]
 refine Asj ((List.perm_ext_iff_of_nodup hnd (Qn (fun x _ y _ e=>?_) hnd)).2 fun s=>?_)
 ·obtain ⟨x1,x2⟩:=x
  obtain ⟨y1,y2⟩:=y
  simp only[Prod.mk.injEq] at e
  rw[e.1,e.2]
 ·obtain ⟨p,q⟩:=s
  rw[mem,List.mem_map]
  constructor
  ·rintro ⟨h1,h2⟩
   exact ⟨(q,p),(mem q p).2 ⟨h2,h1⟩,rfl⟩
  ·rintro ⟨⟨x,y⟩,h,e⟩
   cases e
   have:=(mem _ _).1 h
   exact ⟨this.2,this.1⟩
theorem Aso (hM:Tri (plV v) (inN v.length) (apM m)) (hT:Qo v m T):tot (fun t:Ae=>crs (plV v t.a0) (plV v t.a1) (plV v t.a2)) T=tot (fun s:Int × Int=>xp (plV v s.1) (plV v s.2)) (bds m T):=by
 have h1:=Agy (fun s:Int × Int=>xp (plV v s.1) (plV v s.2)) (fun s=>(apM m s.2 s.1).isNone) (T.flatMap Iy)
 have h2:=Asn hM hT (fun s:Int × Int=>xp (plV v s.1) (plV v s.2))
 dsimp only at h2
 have h3:∀ l:List (Int × Int),tot (fun s:Int × Int=>xp (plV v s.2) (plV v s.1)) l = -tot (fun s:Int × Int=>xp (plV v s.1) (plV v s.2)) l:=fun l=>by
  rw[<- Anq]
  exact Qi fun s _=>Avh _ _
 rw[h3] at h2
 have h4:tot (fun t:Ae=>crs (plV v t.a0) (plV v t.a1) (plV v t.a2)) T=tot (fun s:Int × Int=>xp (plV v s.1) (plV v s.2)) (T.flatMap Iy):=by
  rw[Xq]
  refine Qi fun t _=>?_
  simp only[Iy,tot]
  rw[Ayf]
  omega
 unfold bds
 omega
end
section
variable {v:List Ab} {m:Mp} {L:List Aa} {T:List Ae} {α β:Int}
theorem Agz {P:Int->Ac} {p:Int}:∀ {N:List Int},N≠[]->(∀ z∈N,ph α β (P p) < ph α β (P z))->∃ x∈N,∀ z∈N,crs (P p) (P x) (P z)<=0
 | [],h,_=>absurd rfl h
 | [x],_,_=>⟨x,by simp,fun z hz=>by rw[List.mem_singleton] at hz;subst hz;rw[Ns];omega⟩
 | y::w::r,_,ha=>by
  obtain ⟨x,hx,hm⟩:=Agz (N:=w::r) (by simp) (fun z hz=>ha z (List.mem_cons_of_mem _ hz))
  have ax:=ha x (List.mem_cons_of_mem _ hx)
  have ay:=ha y (by simp)
  by_cases c:crs (P p) (P x) (P y)<=0
  ·refine ⟨x,List.mem_cons_of_mem _ hx,fun z hz=>?_⟩
   rcases List.mem_cons.1 hz with rfl | hz
   ·exact c
   ·exact hm z hz
  ·refine ⟨y,by simp,fun z hz=>?_⟩
   rcases List.mem_cons.1 hz with rfl | hz
   ·rw[Ns];omega
   ·have az:=ha z (List.mem_cons_of_mem _ hz)
    have id:=Aoh α β (P p) (P x) (P y) (P z)
    have e:crs (P p) (P z) (P x) = -crs (P p) (P x) (P z):=Bd _ _ _
    have h1:=hm z hz
    rw[e] at id
    have t2:=Int.mul_nonneg (show 0<=ph α β (P y)-ph α β (P p) by omega) (show 0<=-crs (P p) (P x) (P z) by omega)
    have t3:=Int.mul_pos (show 0 < ph α β (P z)-ph α β (P p) by omega) (show 0 < crs (P p) (P x) (P y) by omega)
    refine Classical.byContradiction fun n=>?_
    have:=Int.mul_nonneg (show 0<=ph α β (P x)-ph α β (P p) by omega) (show 0<=crs (P p) (P y) (P z) by omega)
    omega
def upS (v:List Ab) (m:Mp) (α β:Int) (p:Int) (s:Int × Int):Prop:=s.1=p/\ph α β (plV v p) < ph α β (plV v s.2)/\∃ y,apM m p s.2=some y/\ph α β (plV v y) < ph α β (plV v p)
def inS (v:List Ab) (α β:Int) (p:Int) (s:Int × Int):Prop:=s.2=p/\ph α β (plV v p) < ph α β (plV v s.1)
noncomputable instance (p:Int) (s:Int × Int):Decidable (upS v m α β p s):=Classical.propDecidable _
noncomputable instance (p:Int) (s:Int × Int):Decidable (inS v α β p s):=Classical.propDecidable _
theorem Alu (hv:Bu v) (hM:Mesh v L m) (hT:Qo v m T) (inj:∀ a b,inN v.length a->inN v.length b->ph α β (plV v a)=ph α β (plV v b)->a=b)
  (free:∀ {p q},(p,q)∈bds m T->∀ k,inN v.length k->crs (plV v p) (plV v q) (plV v k)=0->¬ (ph α β (plV v q) < ph α β (plV v k)/\ph α β (plV v k) < ph α β (plV v p)))
  {p d:Int} (hp:inN v.length p) (hd:inN v.length d) (hpd:ph α β (plV v p) < ph α β (plV v d)) :
  tot (fun s=>if upS v m α β p s then (1:Int) else 0) (T.flatMap Iy)+tot (fun s=>if inS v α β p s then (1:Int) else 0) (bds m T)=1:=by
 have hnS:=Asm hM.tri hT
 have hnB:(bds m T).Nodup:=hnS.filter _
 have vs:∀ {p q},(p,q)∈bds m T->inN v.length p/\inN v.length q/\∀ k,inN v.length k->0<=crs (plV v p) (plV v q) (plV v k):=fun h=>by
  obtain ⟨⟨e,he⟩,h2⟩:=(Vy hM.tri hT).1 h
  obtain ⟨q1,q2,_⟩:=hM.tri.ccw _ _ _ he
  exact ⟨q1,q2,fun k hk=>hM.cov _ _ _ he h2 k hk⟩
 have both:∀ {x x' y'},(x,p)∈bds m T->ph α β (plV v p) < ph α β (plV v x)->apM m p x'=some y'->ph α β (plV v p) < ph α β (plV v x')->ph α β (plV v y') < ph α β (plV v p)->False:=fun {x x' y'} hx ax h' ax' ay'=>by
  obtain ⟨_,vx',vy',A⟩:=hM.tri.ccw _ _ _ h'
  obtain ⟨_,_,hb⟩:=vs hx
  have b1:=hb x' vx'
  have b2:=hb y' vy'
  have id:=Aoh α β (plV v p) (plV v x') (plV v y') (plV v x)
  have e1:crs (plV v p) (plV v y') (plV v x)=crs (plV v x) (plV v p) (plV v y'):=by unfold crs;grind
  have e2:crs (plV v p) (plV v x) (plV v x') = -crs (plV v x) (plV v p) (plV v x'):=Ax _ _ _
  rw[e1,e2] at id
  have t1:=Int.mul_nonneg (show 0<=ph α β (plV v x')-ph α β (plV v p) by omega) b2
  have t2:=Int.mul_nonneg (show 0<=ph α β (plV v p)-ph α β (plV v y') by omega) b1
  have t3:=Int.mul_pos (show 0 < ph α β (plV v x)-ph α β (plV v p) by omega) A
  have e3:(ph α β (plV v y')-ph α β (plV v p)) * -crs (plV v x) (plV v p) (plV v x')=(ph α β (plV v p)-ph α β (plV v y'))*crs (plV v x) (plV v p) (plV v x'):=by grind
  omega
 let N:=(inds v.length).filter fun z=>decide (ph α β (plV v p) < ph α β (plV v z)) && ((apM m p z).isSome || (apM m z p).isSome)
 have memN:∀ z,z∈N↔inN v.length z/\ph α β (plV v p) < ph α β (plV v z)/\((∃ e,apM m p z=some e)\/∃ e,apM m z p=some e):=fun z=>by
  simp only[N,List.mem_filter,Le,Bool.and_eq_true,decide_eq_true_eq,Bool.or_eq_true,Option.isSome_iff_exists]
 have hN:N≠[]:=by
  obtain ⟨x,y,h,g1,g2⟩:=Aa2 hv hM.map hM.tri hM.cov hM.ne hp hd
  obtain ⟨_,vx,vy,A⟩:=hM.tri.ccw _ _ _ h
  by_cases cx:ph α β (plV v p) < ph α β (plV v x)
  ·exact List.ne_nil_of_mem ((memN x).2 ⟨vx,cx,.inl ⟨y,h⟩⟩)
  ·by_cases cy:ph α β (plV v p) < ph α β (plV v y)
   ·exact List.ne_nil_of_mem ((memN y).2 ⟨vy,cy,.inr ⟨x,hM.tri.rot2 h⟩⟩)
   ·exfalso
    have id:=Aoh α β (plV v p) (plV v x) (plV v y) (plV v d)
    have e1:crs (plV v p) (plV v y) (plV v d) = -crs (plV v p) (plV v d) (plV v y):=Bd _ _ _
    have e2:crs (plV v p) (plV v d) (plV v x) = -crs (plV v p) (plV v x) (plV v d):=Bd _ _ _
    rw[e1,e2] at id
    have t1:=Int.mul_nonneg (show 0<=ph α β (plV v p)-ph α β (plV v x) by omega) g2
    have t2:=Int.mul_nonneg (show 0<=ph α β (plV v p)-ph α β (plV v y) by omega) g1
    have t3:=Int.mul_pos (show 0 < ph α β (plV v d)-ph α β (plV v p) by omega) A
    have e3:(ph α β (plV v x)-ph α β (plV v p)) * -crs (plV v p) (plV v d) (plV v y)=(ph α β (plV v p)-ph α β (plV v x))*crs (plV v p) (plV v d) (plV v y):=by grind
    have e4:(ph α β (plV v y)-ph α β (plV v p)) * -crs (plV v p) (plV v x) (plV v d)=(ph α β (plV v p)-ph α β (plV v y))*crs (plV v p) (plV v x) (plV v d):=by grind
    omega
 obtain ⟨x,hx,most⟩:=Agz (P:=plV v) (α:=α) (β:=β) (p:=p) hN (fun z hz=>((memN z).1 hz).2.1)
 obtain ⟨vx,ax,hside⟩:=(memN x).1 hx
 rcases e:apM m p x with _ | y
 ·-- on the border
  have hxp:(x,p)∈bds m T:=by
   refine (Vy hM.tri hT).2 ⟨?_,e⟩
   rcases hside with ⟨z,hz⟩ | h
   ·rw[e] at hz;cases hz
   ·exact h
  have h1:tot (fun s=>if upS v m α β p s then (1:Int) else 0) (T.flatMap Iy)=0:=Ru fun s _ g=>by
   obtain ⟨_,g2,y',g3,g4⟩:=g
   exact both hxp ax g3 g2 g4
  have h2:tot (fun s=>if inS v α β p s then (1:Int) else 0) (bds m T)=1:=by
   refine Yq (p:=fun s=>inS v α β p s) (x:=(x,p)) hnB hxp fun s hs=>?_
   obtain ⟨x',p'⟩:=s
   constructor
   ·rintro ⟨g1,g2⟩
    dsimp only at g1 g2
    subst g1
    obtain ⟨_,_,hb⟩:=vs hxp
    obtain ⟨vx',_,hb'⟩:=vs hs
    have b1:=hb x' vx'
    have b2:=hb' x vx
    have e1:crs (plV v x') (plV v p') (plV v x) = -crs (plV v x) (plV v p') (plV v x'):=by unfold crs;grind
    have z1:crs (plV v x) (plV v p') (plV v x')=0:=by omega
    have z2:crs (plV v x') (plV v p') (plV v x)=0:=by omega
    rcases Int.lt_trichotomy (ph α β (plV v x)) (ph α β (plV v x')) with c | c | c
    ·exact absurd ⟨ax,c⟩ (free hs x vx z2)
    ·rw[inj x x' vx vx' c]
    ·exact absurd ⟨g2,c⟩ (free hxp x' vx' z1)
   ·intro g;cases g;exact ⟨rfl,ax⟩
  omega
 ·obtain ⟨_,_,vy,A⟩:=hM.tri.ccw _ _ _ e
  have ay:ph α β (plV v y) < ph α β (plV v p):=by
   rcases Int.lt_trichotomy (ph α β (plV v y)) (ph α β (plV v p)) with c | c | c
   ·exact c
   ·exact absurd (inj y p vy hp c).symm (fun w=>(hM.tri.ne e).2.2 w.symm)
   ·have:=most y ((memN y).2 ⟨vy,c,.inr ⟨x,hM.tri.rot2 e⟩⟩)
    omega
  have h2:tot (fun s=>if inS v α β p s then (1:Int) else 0) (bds m T)=0:=Ru fun s hs g=>by
   obtain ⟨x',p'⟩:=s
   obtain ⟨g1,g2⟩:=g
   dsimp only at g1 g2
   subst g1
   exact both hs g2 e ax ay
  have h1:tot (fun s=>if upS v m α β p s then (1:Int) else 0) (T.flatMap Iy)=1:=by
   refine Yq (p:=fun s=>upS v m α β p s) (x:=(p,x)) hnS ((memS hM.tri hT).2 ⟨y,e⟩) fun s hs=>?_
   obtain ⟨p',x'⟩:=s
   constructor
   ·rintro ⟨g1,g2,y',g3,g4⟩
    dsimp only at g1 g2 g3
    subst g1
    have cr:∀ z,crs (plV v p') (plV v z) ⟨(plV v p').X-β,(plV v p').Y+α⟩=ph α β (plV v z)-ph α β (plV v p'):=fun z=>by unfold crs ph;grind
    have cl:∀ z,crs (plV v p') ⟨(plV v p').X-β,(plV v p').Y+α⟩ (plV v z)=ph α β (plV v p')-ph α β (plV v z):=fun z=>by unfold crs ph;grind
    have:=hM.tri.cones (l:=⟨(plV v p').X-β,(plV v p').Y+α⟩) e g3 (by rw[cr];omega) (by rw[cl];omega) (by rw[cr];omega) (by rw[cl];omega)
    rw[this]
   ·intro g;cases g;exact ⟨rfl,ax,y,e,ay⟩
  omega
theorem Aj4 (hM:Mesh v L m) (hT:Qo v m T) {p:Int} (hl:∀ d,inN v.length d->ph α β (plV v d)<=ph α β (plV v p)) :
  tot (fun s=>if upS v m α β p s then (1:Int) else 0) (T.flatMap Iy)+tot (fun s=>if inS v α β p s then (1:Int) else 0) (bds m T)=0:=by
 have h1:tot (fun s=>if upS v m α β p s then (1:Int) else 0) (T.flatMap Iy)=0:=Ru fun s _ g=>by
  obtain ⟨_,g2,y',g3,g4⟩:=g
  have:=hl _ (hM.tri.ccw _ _ _ g3).2.1
  omega
 have h2:tot (fun s=>if inS v α β p s then (1:Int) else 0) (bds m T)=0:=Ru fun s hs g=>by
  obtain ⟨x',p'⟩:=s
  obtain ⟨⟨e,he⟩,_⟩:=(Vy hM.tri hT).1 hs
  obtain ⟨g1,g2⟩:=g
  have:=hl _ (hM.tri.ccw _ _ _ he).1
  dsimp only at g2
  omega
 omega
theorem Aez {γ δ:Type} (f:γ->δ->Int):∀ (A:List γ) (B:List δ),tot (fun a=>tot (fun b=>f a b) B) A=tot (fun b=>tot (fun a=>f a b) A) B
 | [],B=>by
  have:∀ B:List δ,tot (fun _:δ=>(0:Int)) B=0:=fun B=>by induction B with
   | nil=>rfl
   | cons x r ih=>simp only[tot,ih];rfl
  simp only[tot,this]
 | a::A,B=>by
  simp only[tot]
  rw[Aez f A B,<- Aba]
end
section
variable {v:List Ab} {m:Mp} {L:List Aa} {T:List Ae}
theorem Adr {γ:Type}:∀ l:List γ,tot (fun _=>(1:Int)) l=l.length
 | []=>rfl
 | x::r=>by simp only[tot,Adr r,List.length_cons];omega
theorem Ayg {α β:Int} {s:Int × Int} (h:inN v.length s.1):tot (fun p=>if upS v m α β p s then (1:Int) else 0) (inds v.length)=if upS v m α β s.1 s then (1:Int) else 0:=by
 by_cases c:upS v m α β s.1 s
 ·rw[if_pos c]
  exact Yq (p:=fun p=>upS v m α β p s) Ok (Le.2 h) fun y _=>⟨fun g=>g.1.symm,fun g=>by rw[g];exact c⟩
 ·rw[if_neg c]
  exact Ru fun y _ g=>c (by have:=g.1;rw[<- this] at g;exact g)
theorem Ayh {α β:Int} {s:Int × Int} (h:inN v.length s.2):tot (fun p=>if inS v α β p s then (1:Int) else 0) (inds v.length)=if inS v α β s.2 s then (1:Int) else 0:=by
 by_cases c:inS v α β s.2 s
 ·rw[if_pos c]
  exact Yq (p:=fun p=>inS v α β p s) Ok (Le.2 h) fun y _=>⟨fun g=>g.1.symm,fun g=>by rw[g];exact c⟩
 ·rw[if_neg c]
  exact Ru fun y _ g=>c (by have:=g.1;rw[<- this] at g;exact g)
theorem Ag0 {α β:Int} (hv:Bu v) (hM:Mesh v L m) (hT:Qo v m T) (inj:∀ a b,inN v.length a->inN v.length b->ph α β (plV v a)=ph α β (plV v b)->a=b)
  (free:∀ {p q},(p,q)∈bds m T->∀ k,inN v.length k->crs (plV v p) (plV v q) (plV v k)=0->¬ (ph α β (plV v q) < ph α β (plV v k)/\ph α β (plV v k) < ph α β (plV v p)))
  {g:Int} (hg:inN v.length g) (high:∀ k,inN v.length k->k≠g->ph α β (plV v k) < ph α β (plV v g)) :
  tot (fun s:Int × Int=>if upS v m α β s.1 s then (1:Int) else 0) (T.flatMap Iy)+tot (fun s:Int × Int=>if inS v α β s.2 s then (1:Int) else 0) (bds m T)=v.length-1:=by
 have h1:tot (fun s:Int × Int=>if upS v m α β s.1 s then (1:Int) else 0) (T.flatMap Iy)=tot (fun p=>tot (fun s=>if upS v m α β p s then (1:Int) else 0) (T.flatMap Iy)) (inds v.length):=by
  rw[Aez]
  refine Qi fun s hs=>?_
  obtain ⟨e,he⟩:=(memS hM.tri hT).1 hs
  exact (Ayg (hM.tri.ccw _ _ _ he).1).symm
 have h2:tot (fun s:Int × Int=>if inS v α β s.2 s then (1:Int) else 0) (bds m T)=tot (fun p=>tot (fun s=>if inS v α β p s then (1:Int) else 0) (bds m T)) (inds v.length):=by
  rw[Aez]
  refine Qi fun s hs=>?_
  obtain ⟨⟨e,he⟩,_⟩:=(Vy hM.tri hT).1 hs
  exact (Ayh (hM.tri.ccw _ _ _ he).2.1).symm
 have h3:∀ p∈inds v.length,tot (fun s=>if upS v m α β p s then (1:Int) else 0) (T.flatMap Iy)+tot (fun s=>if inS v α β p s then (1:Int) else 0) (bds m T)=1-if p=g then (1:Int) else 0:=fun p hp=>by
  have hp:=Le.1 hp
  by_cases c:p=g
  ·rw[if_pos c]
   have:=Aj4 (α:=α) (β:=β) hM hT (p:=p) (fun d hd=>by
    rw[c]
    by_cases e:d=g
    ·rw[e];omega
    ·have:=high d hd e;omega)
   omega
  ·rw[if_neg c]
   have:=Alu hv hM hT inj free hp hg (high p hp c)
   omega
 have h4:tot (fun p=>if p=g then (1:Int) else 0) (inds v.length)=1:=Yq (p:=fun p=>p=g) Ok (Le.2 hg) fun y _=>Iff.rfl
 rw[h1,h2,<- Aba,Qi h3,Anp,Adr,h4,Tk]
theorem Asp (hv:Bu v) (hn:v.length<=1024) (hM:Mesh v L m) (hT:Qo v m T):(T.length:Int)+(bds m T).length=2*v.length-2:=by
 obtain ⟨l,hl,hr⟩:=Ad8 hv hn
 have hlen:=hr.len
 have hpos:0 < l.length:=by
  obtain ⟨q,hq⟩:=List.exists_mem_of_ne_nil m hM.ne
  have:=hM.map.key q hq
  unfold inN at this
  omega
 have g1:l.length-1 < l.length:=by omega
 have hf:=hr.val.1 (List.getElem_mem hpos)
 have hg:=hr.val.1 (List.getElem_mem g1)
 have bef:∀ {p q},inN v.length p->inN v.length q->(ph lexA 1 (plV v p) < ph lexA 1 (plV v q)↔befP (plV v p) (plV v q)):=fun hp hq=>Ash (hv.ok _ hp) (hv.ok _ hq)
 have neg:∀ p,ph (-lexA) (-1) p = -ph lexA 1 p:=fun p=>by unfold ph;grind
 have low:∀ k,inN v.length k->k≠l[0]->ph lexA 1 (plV v l[0]) < ph lexA 1 (plV v k):=fun k hk hne=>by
  obtain ⟨j,hj,rfl⟩:=List.getElem_of_mem (hr.val.2 hk)
  by_cases e:j=0
  ·subst e;exact absurd rfl hne
  ·exact (bef hf hk).2 (hr.lt hpos hj (by omega))
 have high:∀ k,inN v.length k->k≠l[l.length-1]->ph lexA 1 (plV v k) < ph lexA 1 (plV v l[l.length-1]):=fun k hk hne=>by
  obtain ⟨j,hj,rfl⟩:=List.getElem_of_mem (hr.val.2 hk)
  by_cases e:j=l.length-1
  ·subst e;exact absurd rfl hne
  ·exact (bef hk hg).2 (hr.lt hj g1 (by omega))
 have inj:∀ a b,inN v.length a->inN v.length b->ph lexA 1 (plV v a)=ph lexA 1 (plV v b)->a=b:=fun a b ha hb e=>by
  refine Classical.byContradiction fun n=>?_
  rcases Ii (Lb hv ha hb n) with g | g
  ·have:=(bef ha hb).2 g;omega
  ·have:=(bef hb ha).2 g;omega
 have free:∀ {p q},(p,q)∈bds m T->∀ k,inN v.length k->crs (plV v p) (plV v q) (plV v k)=0->¬ ((ph lexA 1 (plV v p) < ph lexA 1 (plV v k)/\ph lexA 1 (plV v k) < ph lexA 1 (plV v q))\/(ph lexA 1 (plV v q) < ph lexA 1 (plV v k)/\ph lexA 1 (plV v k) < ph lexA 1 (plV v p))):=fun {p q} h k hk h0 g=>by
  obtain ⟨⟨e,he⟩,_⟩:=(Vy hM.tri hT).1 h
  obtain ⟨vp,vq,_,_⟩:=hM.tri.ccw _ _ _ he
  have b1:=bef vp hk
  have b2:=bef hk vq
  have b3:=bef vq hk
  have b4:=bef hk vp
  have n1:k≠p:=fun e=>by subst e;omega
  have n2:k≠q:=fun e=>by subst e;omega
  refine Yo hM.tri he hk n1 n2 ⟨⟨h0,fun w=>?_⟩,Lb hv hk vp n1,Lb hv hk vq n2⟩
  rw[<- b1,<- b3] at w
  omega
 have U:=Ag0 hv hM hT inj (fun h k hk h0 g=>free h k hk h0 (.inr g)) hg high
 have D:=Ag0 (α:=-lexA) (β:=-1) hv hM hT (fun a b ha hb e=>inj a b ha hb (by rw[neg,neg] at e;omega)) (fun h k hk h0 g=>free h k hk h0 (.inl (by rw[neg,neg,neg] at g;omega))) hf (fun k hk hne=>by rw[neg,neg];have:=low k hk hne;omega)
 have S1:tot (fun s:Int × Int=>if upS v m lexA 1 s.1 s then (1:Int) else 0) (T.flatMap Iy)+tot (fun s:Int × Int=>if upS v m (-lexA) (-1) s.1 s then (1:Int) else 0) (T.flatMap Iy)=T.length:=by
  rw[<- Aba,Xq,<- Adr]
  refine Qi fun t ht=>?_
  have h:=((hT.mem t).1 ht).2.2
  have r:=hM.tri.rot _ _ _ h
  have q:=hM.tri.rot2 h
  obtain ⟨v0,v1,v2,_⟩:=hM.tri.ccw _ _ _ h
  obtain ⟨n1,n2,n3⟩:=hM.tri.ne h
  have d1:ph lexA 1 (plV v t.a0)≠ph lexA 1 (plV v t.a1):=fun e=>n1 (inj _ _ v0 v1 e)
  have d2:ph lexA 1 (plV v t.a1)≠ph lexA 1 (plV v t.a2):=fun e=>n2 (inj _ _ v1 v2 e)
  have d3:ph lexA 1 (plV v t.a2)≠ph lexA 1 (plV v t.a0):=fun e=>n3 (inj _ _ v2 v0 e)
  have up:∀ {a b c:Int},apM m a b=some c->(upS v m lexA 1 a (a,b)↔ph lexA 1 (plV v a) < ph lexA 1 (plV v b)/\ph lexA 1 (plV v c) < ph lexA 1 (plV v a)):=fun {a b c} e=>by
   constructor
   ·rintro ⟨_,g2,y,g3,g4⟩
    rw[e] at g3;cases g3
    exact ⟨g2,g4⟩
   ·rintro ⟨g1,g2⟩
    exact ⟨rfl,g1,c,e,g2⟩
  have dn:∀ {a b c:Int},apM m a b=some c->(upS v m (-lexA) (-1) a (a,b)↔ph lexA 1 (plV v b) < ph lexA 1 (plV v a)/\ph lexA 1 (plV v a) < ph lexA 1 (plV v c)):=fun {a b c} e=>by
   unfold upS
   simp only[neg]
   constructor
   ·rintro ⟨_,g2,y,g3,g4⟩
    rw[e] at g3;cases g3
    omega
   ·rintro ⟨g1,g2⟩
    exact ⟨trivial,by omega,c,e,by omega⟩
  have ite:∀ (P Q:Prop) [Decidable P] [Decidable Q],(P↔Q)->(if P then (1:Int) else 0)=if Q then (1:Int) else 0:=fun P Q _ _ h=>by
   by_cases c:P
   ·rw[if_pos c,if_pos (h.1 c)]
   ·rw[if_neg c,if_neg (fun g=>c (h.2 g))]
  simp only[Iy,tot]
  rw[ite _ _ (up h),ite _ _ (up r),ite _ _ (up q),ite _ _ (dn h),ite _ _ (dn r),ite _ _ (dn q)]
  split <;> split <;> split <;> split <;> split <;> split <;> omega
 have S2:tot (fun s:Int × Int=>if inS v lexA 1 s.2 s then (1:Int) else 0) (bds m T)+tot (fun s:Int × Int=>if inS v (-lexA) (-1) s.2 s then (1:Int) else 0) (bds m T)=(bds m T).length:=by
  rw[<- Aba,<- Adr]
  refine Qi fun s hs=>?_
  obtain ⟨p,q⟩:=s
  obtain ⟨⟨e,he⟩,_⟩:=(Vy hM.tri hT).1 hs
  obtain ⟨vp,vq,_,_⟩:=hM.tri.ccw _ _ _ he
  have d:ph lexA 1 (plV v p)≠ph lexA 1 (plV v q):=fun w=>(hM.tri.ne he).1 (inj _ _ vp vq w)
  have i1:inS v lexA 1 q (p,q)↔ph lexA 1 (plV v q) < ph lexA 1 (plV v p):=⟨fun g=>g.2,fun g=>⟨rfl,g⟩⟩
  have i2:inS v (-lexA) (-1) q (p,q)↔ph lexA 1 (plV v p) < ph lexA 1 (plV v q):=by
   unfold inS
   simp only[neg]
   exact ⟨fun g=>by have:=g.2;omega,fun g=>⟨trivial,by omega⟩⟩
  dsimp only
  by_cases c:ph lexA 1 (plV v q) < ph lexA 1 (plV v p)
  ·rw[if_pos (i1.2 c),if_neg (fun g=>by have:=i2.1 g;omega)];rfl
  ·rw[if_neg (fun g=>c (i1.1 g)),if_pos (i2.2 (by omega))];rfl
 omega
end
def sqv:List Ab:=[⟨0,0,⟨0,0⟩⟩,⟨2,0,⟨0,0⟩⟩,⟨0,2,⟨0,0⟩⟩,⟨2,2,⟨0,0⟩⟩]
theorem Axb:Nw sqv=0:=by
 unfold Nw sqv Fj Tt La okP pP
 simp
theorem Anr:∀ a∈([0,1,2,3]:List Int),∀ b∈([0,1,2,3]:List Int),∀ c∈([0,1,2,3]:List Int),
  ((a < b/\a < c/\0 < crs (plV sqv a) (plV sqv b) (plV sqv c)/\∀ d∈([0,1,2,3]:List Int),d≠a->d≠b->d≠c->DH (plV sqv) (hV sqv) a b c d < 0)↔((a=0/\b=1/\c=2)\/(a=1/\b=3/\c=2))):=by
 decide +kernel
theorem in4 {i:Int}:inN sqv.length i↔i∈([0,1,2,3]:List Int):=by
 unfold inN sqv
 simp
 omega
theorem Asq:Aj0 sqv [⟨0,1,2⟩,⟨1,3,2⟩]:=by
 refine ⟨by simp[cmp3,cmpI],by simp,fun t=>?_⟩
 obtain ⟨a,b,c⟩:=t
 have key:∀ a b c,Del sqv a b c↔a∈([0,1,2,3]:List Int)/\b∈([0,1,2,3]:List Int)/\c∈([0,1,2,3]:List Int)/\0 < crs (plV sqv a) (plV sqv b) (plV sqv c)/\∀ d∈([0,1,2,3]:List Int),d≠a->d≠b->d≠c->DH (plV sqv) (hV sqv) a b c d < 0:=fun a b c=>by
  unfold Del
  simp only[in4]
 dsimp only
 rw[key]
 constructor
 ·intro h
  have e:(a=0/\b=1/\c=2)\/(a=1/\b=3/\c=2):=by simpa using h
  have ha:a∈([0,1,2,3]:List Int):=by rcases e with ⟨rfl,_,_⟩ | ⟨rfl,_,_⟩ <;> simp
  have hb:b∈([0,1,2,3]:List Int):=by rcases e with ⟨_,rfl,_⟩ | ⟨_,rfl,_⟩ <;> simp
  have hc:c∈([0,1,2,3]:List Int):=by rcases e with ⟨_,_,rfl⟩ | ⟨_,_,rfl⟩ <;> simp
  obtain ⟨h1,h2,h3,h4⟩:=(Anr a ha b hb c hc).2 e
  exact ⟨h1,h2,ha,hb,hc,h3,h4⟩
 ·rintro ⟨h1,h2,ha,hb,hc,h3,h4⟩
  have e:=(Anr a ha b hb c hc).1 ⟨h1,h2,h3,h4⟩
  simpa using e
section
variable {v:List Ab} {l:List Aa} {m:Mp} {T:List Ae}
theorem Tv:Nz v l=0↔Lin1 v l/\Lin2 v l:=by
 unfold Nz
 by_cases c1:Lin1 v l
 ·rw[if_pos c1]
  by_cases c2:Lin2 v l
  ·rw[if_pos c2];exact ⟨fun _=>⟨c1,c2⟩,fun _=>rfl⟩
  ·rw[if_neg c2];exact ⟨fun h=>(by cases h),fun h=>absurd h.2 c2⟩
 ·rw[if_neg c1];exact ⟨fun h=>(by cases h),fun h=>absurd h.1 c1⟩
theorem Ayi {s:Aa} (h:s.a0<=s.a1):prL s=s:=by
 obtain ⟨x,y⟩:=s
 unfold prL pr2
 dsimp only at h ⊢
 rw[Int.min_eq_left h,Int.max_eq_right h]
theorem Avi {L:List Aa} (h:∀ s∈L,s.a0<=s.a1):L.map prL=L:=by
 induction L with
 | nil=>rfl
 | cons x r ih=>rw[List.map_cons,Ayi (h x (by simp)),ih (fun s hs=>h s (by simp[hs]))]
theorem Aj5 (hv:Bu v) (hn:v.length<=1024) (h:Nz v l=0):Nz v (Au cmp2 (l.map prL))=0/\Au cmp2 ((Au cmp2 (l.map prL)).map prL)=Au cmp2 (l.map prL)/\(Au cmp2 (l.map prL)).length=l.length:=by
 obtain ⟨h1,h2⟩:=Tv.1 h
 have hL:=Afz hv h1 h2
 have hm:=Avi (fun s hs=>(hL.ok s hs).2)
 have sm:∀ s∈Au cmp2 (l.map prL),Km s:=fun s hs=>by
  obtain ⟨⟨k1,k2,_⟩,_⟩:=hL.ok s hs
  exact Ym hn k1 k2
 have sm':∀ s∈l.map prL,Km s:=fun s hs=>sm s (Ga.2 hs)
 refine ⟨Tv.2 ⟨⟨fun s hs=>(hL.ok s hs).1,by rw[hm];exact hL.nd⟩,fun s hs k hk g=>?_,?_⟩,?_,by rw[(Cz _ _).length_eq,List.length_map]⟩
 ·exact hL.free s hs k hk (fun e=>g.2.1 (by rw[e];exact ⟨rfl,rfl⟩)) (fun e=>g.2.2 (by rw[e];exact ⟨rfl,rfl⟩)) g.1
 ·exact List.Pairwise.imp_of_mem (fun {a b} ha hb hne=>hL.apart a ha b hb hne) hL.nd
 ·rw[hm]
  exact Ut tot2 (fun s hs=>sm s (Ga.1 hs)) (Jb tot2 sm) (Jb tot2 sm') (Cz _ _)
theorem Apu {T:List Ae} (h:T.length<=100000000):Cx T T=some true:=by
 have e:lfix (Bv T T) 0=some (.inl ()):=by
  rw[Xd (β:=Unit) (γ:=Bool) T (fun _=>true) (Bv T T) () false (fun j hj=>?_) ?_]
  ·simp
  ·unfold Bv
   rw[if_neg (by omega)]
  ·unfold Bv
   rw[if_pos (by omega),Bb hj,Ad,Ad,if_pos (by simp),if_pos rfl,Be (by omega)]
 unfold Cx
 rw[if_pos rfl,jn_d,e,Ad]
theorem Apv {L:List Aa} (h:L.length<=100000000):Cy L L=some true:=by
 have e:lfix (Bw L L) 0=some (.inl ()):=by
  rw[Xd (β:=Unit) (γ:=Bool) L (fun _=>true) (Bw L L) () false (fun j hj=>?_) ?_]
  ·simp
  ·unfold Bw
   rw[if_neg (by omega)]
  ·unfold Bw
   rw[if_pos (by omega),Bb hj,Ad,Ad,if_pos (by simp),if_pos rfl,Be (by omega)]
 unfold Cy
 rw[if_pos rfl,jn_d,e,Ad]
theorem Aj6 {m:Bj} (h1:m.V.length<=100000000) (h2:m.T.length<=100000000) (h3:m.Lines.length<=100000000):Im m m=some true:=by
 have e1:lfix (Ec m m) 0=some (.inl ()):=by
  rw[Xd (β:=Unit) (γ:=Bool) m.V (fun _=>true) (Ec m m) () false (fun j hj=>?_) ?_]
  ·simp
  ·unfold Ec
   rw[if_neg (by omega)]
  ·unfold Ec
   rw[if_pos (by omega),Bb hj,Ad,Ad,if_pos (by simp),if_pos rfl,Be (by omega)]
 have e2:lfix (Dn m m) 0=some (.inl ()):=by
  rw[Xd (β:=Unit) (γ:=Bool) m.T (fun _=>true) (Dn m m) () false (fun j hj=>?_) ?_]
  ·simp
  ·unfold Dn
   rw[if_neg (by omega)]
  ·unfold Dn
   rw[if_pos (by omega),Bb hj,Ad,Ad,if_pos (by simp),if_pos rfl,Be (by omega)]
 have e3:lfix (Do m m) 0=some (.inl ()):=by
  rw[Xd (β:=Unit) (γ:=Bool) m.Lines (fun _=>true) (Do m m) () false (fun j hj=>?_) ?_]
  ·simp
  ·unfold Do
   rw[if_neg (by omega)]
  ·unfold Do
   rw[if_pos (by omega),Bb hj,Ad,Ad,if_pos (by simp),if_pos rfl,Be (by omega)]
 unfold Im
 rw[jn_d,if_pos rfl,if_pos rfl,decide_eq_true rfl]
 dsimp only
 rw[if_neg (by simp),jn_d,e1,Ad]
 dsimp only
 rw[jn_d,e2,Ad]
 dsimp only
 rw[jn_d,e3,Ad]
theorem Qo.len (hn:v.length<=1024) {L:List Aa} (hM:Mesh v L m) (h:Qo v m T):T.length<=1048576:=by
 have hsq:=Zi hn
 have:=Acj hM.tri (fun t ht=>(h.mem t).1 ht) h.nd
 omega
theorem Aj7 (h:Nw v=0) (hl:l.length<=1000000) (h1:Nz v l=0) :
  ∃ T,Lm v l=some (⟨v,T,Au cmp2 (l.map prL)⟩,0)/\Cb v l=some (⟨v,T,Au cmp2 (l.map prL)⟩,0)/\T.length<=1048576/\Mr ⟨v,T,Au cmp2 (l.map prL)⟩=some 0/\Lm v (Au cmp2 (l.map prL))=some (⟨v,T,Au cmp2 (l.map prL)⟩,0)/\Cb v (Au cmp2 (l.map prL))=some (⟨v,T,Au cmp2 (l.map prL)⟩,0)/\((Xf v/\T=[])\/(¬ Xf v/\∃ m,Mesh v (Au cmp2 (l.map prL)) m/\Qo v m T)):=by
 obtain ⟨hn,_,hv⟩:=Qh h
 obtain ⟨g1,g2,g3⟩:=Aj5 hv hn h1
 obtain ⟨T,e1,e2,e3,e4⟩:=Wq h hl h1
 obtain ⟨T',f1,f2,f3,_⟩:=Wq (l:=Au cmp2 (l.map prL)) h (by omega) g1
 rw[g2] at f1 f2 f3
 have:T'=T:=Option.some.inj (f3.symm.trans e3)
 subst this
 have hT:T'.length<=1048576:=by
  rcases e4 with ⟨_,rfl⟩ | ⟨_,m,hM,hT⟩
  ·simp
  ·exact hT.len hn hM
 refine ⟨T',e1,e2,hT,?_,f1,f2,e4⟩
 unfold Mr
 dsimp only
 rw[f1,Ad,jn_d]
 dsimp only
 rw[if_pos rfl,Apu (by omega),Ad,if_pos rfl,Apv (by omega),Ad]
 rfl
theorem Alv:Nz v []=0:=Tv.2 ⟨⟨fun s hs=>(by cases hs),List.Pairwise.nil⟩,fun s hs=>(by cases hs),List.Pairwise.nil⟩
theorem Alw:Lm sqv []=some (⟨sqv,[⟨0,1,2⟩,⟨1,3,2⟩],[]⟩,0):=by
 obtain ⟨_,_,hv⟩:=Qh Axb
 have hE:=Tv.1 (Alv (v:=sqv))
 obtain ⟨T,h1,h2⟩:=Adb Axb (l:=[]) (by simp) hE.1 hE.2
 have e:Au cmp2 (([]:List Aa).map prL)=[]:=by simp[Au]
 rw[e] at h1 h2
 rcases h2 with ⟨f,_⟩ | ⟨_,m,hM,rfl⟩
 ·have:=f 0 1 2 (in4.2 (by simp)) (in4.2 (by simp)) (in4.2 (by simp))
  exact absurd this (by decide)
 ·have hd:=Aj1 hv hM.map hM.tri hM.cov (fun i j k l hk hl=>(hM.leg i j k l hk hl).resolve_left (by simp)) hM.ne
  rw[h1,(Avf hM.map hd).unique Asq]
theorem Aab:Eh=some true:=by
 unfold Eh
 refine Eq.trans (congrArg (fun z=>bnd z _) Alw) ?_
 show bnd (some _) _=_
 rw[Ad,jn_d]
 rfl
end
end Go.Proofs.YtjfndjmabhbicaaGreat
