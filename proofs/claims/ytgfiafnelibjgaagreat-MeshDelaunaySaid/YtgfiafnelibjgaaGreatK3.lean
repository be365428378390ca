/- The legal side: the reference's answer, and that it does not matter from where a side is seen. -/
import Derived.Test.YtgfiafnelibjgaaGreatZ4
namespace Go.Proofs.YtgfiafnelibjgaaGreat
open Go Go.RowKit
theorem Amk (a b c d:Ac):Ia a b c d=some (Aeu a b c d):=by
 unfold Ia
 rw [jn_d]
 simp only [Ajg,Ae]
 unfold Aeu
 by_cases ha:okP a
 ·rw [decide_eq_true ha,if_pos rfl]
  by_cases hb:okP b
  ·rw [decide_eq_true hb,if_pos rfl]
   by_cases hc:okP c
   ·rw [decide_eq_true hc,if_pos rfl]
    by_cases hd:okP d
    ·rw [decide_eq_true hd,if_neg (by simp),if_pos ⟨ha,hb,hc,hd⟩]
     rw [Jg ha hb hc,Ae,Jg ha hb hd,Ae,Oz]
     by_cases h:Int.sign (crs a b c)*Int.sign (crs a b d) = -1
     ·obtain ⟨h1,h2,h3,h4⟩:=Yb h
      rw [if_pos h,if_pos h,jn_d,Ae]
      -- of the corners in the order that turns counterclockwise
      have key:∀ p q:Ac,okP p→okP q→0 < crs p q c→¬ Bj p c→¬ Bj p d→¬ Bj q c→¬ Bj q d→(bnd (Ei p q c d) fun r48 =>
        if r48=1 then some (false,0) else if r48 = -1 then some (true,0) else
        jn (fun (s17:Int × Int)=>jn (fun (s29:Bool)=>some (s29,(0:Int))) (fun j29=>if ((((s17.1) == (c.X)) && (((s17.2) == (c.Y)) && true)))=true then (j29 true)
         else (j29 (((s17.1) == (d.X)) && (((s17.2) == (d.Y)) && true)))))
        (fun j17=>bnd (lfix (Je (p.X,p.Y,q.X,q.Y) c d) (p.X,p.Y,0)) fun t83=>j17 t83))=some (decide (legP p q c d),0):=by
       intro p q hp hq hpos g1 g2 g3 g4
       rw [Ab4 hp hq hc hd,Ae]
       have hs:Int.sign (crs p q c)=1:=Int.sign_eq_one_of_pos hpos
       rcases Int.sign_trichotomy (inC p q c d) with e | e | e
       ·rw [e,if_pos rfl,decide_eq_false]
        unfold legP
        rw [hs,e]
        omega
       ·rw [e,if_neg (by omega),if_neg (by omega),jn_d,Ab6 _ q c d (fun x y i=>?_),Ae]
        ·dsimp only
         rw [jn_d]
         have hl:=Ad3 g1 g2 g3 g4
         have h0:Int.sign (crs p q c)*Int.sign (inC p q c d)=0:=by rw [e];simp
         by_cases hcc:Bj (Hk (Hk (Hk p q) c) d) c
         ·have:legP p q c d:=.inr ⟨h0,hl.1 (.inl hcc)⟩
          rw [if_pos (by simpa [Bj] using hcc),decide_eq_true this]
         ·rw [if_neg (by simpa [Bj] using hcc)]
          congr 2
          rw [Bool.eq_iff_iff]
          simp only [Bool.and_true,Bool.and_eq_true,beq_iff_eq,decide_eq_true_eq]
          unfold legP
          constructor
          ·intro h;exact .inr ⟨h0,hl.1 (.inr h)⟩
          ·rintro (h | ⟨_,h⟩)
           ·omega
           ·exact (hl.2 h).resolve_left hcc
        ·unfold Je
         rw [show (((3:Nat)):Int)=3 from rfl]
         dsimp only
         split
         ·refine congrArg (bnd _) (funext fun z=>?_)
          rw [Anf,Ae]
          unfold Hk
          by_cases hb:befP z ⟨x,y⟩
          ·rw [if_pos (by simpa using hb),if_pos hb]
          ·rw [if_neg (by simpa using hb),if_neg hb]
         ·rfl
       ·rw [e,if_neg (by omega),if_pos rfl,decide_eq_true]
        unfold legP
        rw [hs,e]
        omega
      by_cases hneg:Int.sign (crs a b c) < 0
      ·rw [if_pos hneg]
       have hn:crs a b c < 0:=by
        rcases Int.lt_trichotomy (crs a b c) 0 with g | g | g
        ·exact g
        ·rw [g] at hneg;simp at hneg
        ·rw [Int.sign_eq_one_of_pos g] at hneg;omega
       have hk:=key b a hb ha (by rw [Aw];omega) h3 h4 h1 h2
       refine hk.trans ?_
       congr 2
       have:legP b a c d↔legP a b c d:=by
        unfold legP
        rw [Aw,Ang,Int.sign_neg,Int.sign_neg,Int.neg_mul_neg]
        constructor
        ·rintro (h | ⟨h,h'⟩)
         ·exact .inl h
         ·exact .inr ⟨h,h'.imp And.symm And.symm⟩
        ·rintro (h | ⟨h,h'⟩)
         ·exact .inl h
         ·exact .inr ⟨h,h'.imp And.symm And.symm⟩
       simp only [this]
      ·rw [if_neg hneg]
       have hp:0 < crs a b c:=by
        rw [Vg] at h
        rcases h with ⟨g,_⟩ | ⟨g,_⟩
        ·rw [Int.sign_eq_neg_one_of_neg g] at hneg;omega
        ·exact g
       exact key a b ha hb hp h1 h2 h3 h4
     ·rw [if_neg h,if_neg h]
    ·rw [decide_eq_false hd];simp [hd]
   ·rw [decide_eq_false hc];simp [hc]
  ·rw [decide_eq_false hb];simp [hb]
 ·rw [decide_eq_false ha];simp [ha]
end Go.Proofs.YtgfiafnelibjgaaGreat
/- Plane geometry: identities of areas, planes over triangles. -/
namespace Go.Proofs.YtgfiafnelibjgaaGreat
open Go Go.RowKit
/-- How far the plane through a, b, c (with heights ha, hb, hc) lies above the height hd at d, times twice the area of the triangle. -/
def Dt (ha hb hc hd:Int) (a b c d:Ac):Int:=ha*crs b c d+hb*crs c a d+hc*crs a b d-hd*crs a b c
/-- The height at x of the plane through a, b, c, times twice the area of the triangle. -/
def plt (ha hb hc:Int) (a b c x:Ac):Int:=ha*crs b c x+hb*crs c a x+hc*crs a b x
def sq (p:Ac):Int:=p.X*p.X+p.Y*p.Y
theorem At3 (a b c d:Ac):inC a b c d=Dt (sq a) (sq b) (sq c) (sq d) a b c d:=by unfold inC Dt lft sq crs;grind
theorem Xp (ha hb hc hd:Int) (a b c d:Ac):Dt ha hb hc hd a b c d=plt ha hb hc a b c d-hd*crs a b c:=rfl
theorem Lz (a b c d:Ac):crs a b c=crs b c d+crs c a d+crs a b d:=by unfold crs;grind
theorem Af1 (a b c q r u:Ac):crs b c u*crs q r a+crs c a u*crs q r b+crs a b u*crs q r c=crs a b c*crs q r u:=by unfold crs;grind
theorem Xq (hp hq hr:Int) (a b c p q r u:Ac):crs b c u*plt hp hq hr p q r a+crs c a u*plt hp hq hr p q r b+crs a b u*plt hp hq hr p q r c=crs a b c*plt hp hq hr p q r u:=by
 have h1:=Af1 a b c q r u
 have h2:=Af1 a b c r p u
 have h3:=Af1 a b c p q u
 unfold plt
 grind
/-- Across a side, the planes differ by how far they differ at the far corner. -/
theorem Nd (ha hb hc hd:Int) (a b c d x:Ac):plt hb ha hd b a d x*crs a b c-plt ha hb hc a b c x*crs b a d=Dt ha hb hc hd a b c d*crs a b x:=by
 unfold plt Dt crs;grind
theorem Ar2 (ha hb hc hd:Int) (a b c d:Ac):Dt hb ha hc hd b a c d = -Dt ha hb hc hd a b c d:=by unfold Dt crs;grind
theorem At4 (ha hb hc hd:Int) (a b c d:Ac):Dt hb hc ha hd b c a d=Dt ha hb hc hd a b c d:=by unfold Dt crs;grind
theorem Ahk (ha hb hc hd:Int) (a b c d:Ac):Dt ha hb hd hc a b d c = -Dt ha hb hc hd a b c d:=by unfold Dt crs;grind
theorem Yz (ha hb hc:Int) (a b c x:Ac):plt hb hc ha b c a x=plt ha hb hc a b c x:=by unfold plt;grind
theorem Akw (ha hb hc:Int) (a b c:Ac):plt ha hb hc a b c a=ha*crs a b c:=by unfold plt crs;grind
theorem Akx (ha hb hc:Int) (a b c:Ac):plt ha hb hc a b c b=hb*crs a b c:=by unfold plt crs;grind
theorem Aky (ha hb hc:Int) (a b c:Ac):plt ha hb hc a b c c=hc*crs a b c:=by unfold plt crs;grind
/-- The circle's test, seen from b. -/
theorem At5 (a b c d:Ac):inC a b c d=lft a b*crs b c d+lft c b*crs a b d-lft d b*crs a b c:=by unfold inC lft crs;grind
theorem Akz {p q:Ac} (h:¬ Bj p q):0 < lft p q:=by
 unfold lft
 have h1:0≤(p.X-q.X)*(p.X-q.X):=by rw [← Int.natAbs_mul_self];omega
 have h2:0≤(p.Y-q.Y)*(p.Y-q.Y):=by rw [← Int.natAbs_mul_self];omega
 by_cases hx:p.X=q.X
 ·have hy:p.Y-q.Y≠0:=fun e=>h ⟨hx,by omega⟩
  have:0 < (p.Y-q.Y)*(p.Y-q.Y):=by
   rcases Int.lt_or_gt_of_ne hy with g | g
   ·exact Int.mul_pos_of_neg_of_neg g g
   ·exact Int.mul_pos g g
  omega
 ·have hx':p.X-q.X≠0:=by omega
  have:0 < (p.X-q.X)*(p.X-q.X):=by
   rcases Int.lt_or_gt_of_ne hx' with g | g
   ·exact Int.mul_pos_of_neg_of_neg g g
   ·exact Int.mul_pos g g
  omega
theorem Tl (p q:Ac):0≤lft p q:=by
 unfold lft
 have h1:0≤(p.X-q.X)*(p.X-q.X):=by rw [← Int.natAbs_mul_self];omega
 have h2:0≤(p.Y-q.Y)*(p.Y-q.Y):=by rw [← Int.natAbs_mul_self];omega
 omega
/-- Where the quadrangle is not convex at b, the circle leaves d out. -/
theorem Adk {a b c d:Ac} (h1:0 < crs a b c) (h2:crs a b d < 0) (h3:crs b c d≤0):inC a b c d < 0:=by
 have hd:¬ Bj d b:=fun e=>by
  have:=Ab5 e
  subst this
  simp only [Bk] at h2
  omega
 rw [At5]
 have e1:lft a b*crs b c d≤0:=Int.mul_nonpos_of_nonneg_of_nonpos (Tl a b) h3
 have e2:lft c b*crs a b d≤0:=Int.mul_nonpos_of_nonneg_of_nonpos (Tl c b) (by omega)
 have e3:0 < lft d b*crs a b c:=Int.mul_pos (Akz hd) h1
 omega
/-- .. nor where it is not convex at a. -/
theorem Aa8 {a b c d:Ac} (h1:0 < crs a b c) (h2:crs a b d < 0) (h3:crs c a d≤0):inC a b c d < 0:=by
 have e:inC a b c d=lft b a*crs c a d+lft c a*crs a b d-lft d a*crs a b c:=by unfold inC lft crs;grind
 have hd:¬ Bj d a:=fun e=>by
  have:=Ab5 e
  subst this
  simp only [Cc] at h2
  omega
 rw [e]
 have e1:lft b a*crs c a d≤0:=Int.mul_nonpos_of_nonneg_of_nonpos (Tl b a) h3
 have e2:lft c a*crs a b d≤0:=Int.mul_nonpos_of_nonneg_of_nonpos (Tl c a) (by omega)
 have e3:0 < lft d a*crs a b c:=Int.mul_pos (Akz hd) h1
 omega
end Go.Proofs.YtgfiafnelibjgaaGreat
/- Convex chains along a direction. -/
namespace Go.Proofs.YtgfiafnelibjgaaGreat
open Go Go.RowKit
def ph (α β:Int) (p:Ac):Int:=α*p.X+β*p.Y
theorem Za (α β:Int) (a b c d:Ac):(ph α β b-ph α β a)*crs a c d+(ph α β c-ph α β a)*crs a d b+(ph α β d-ph α β a)*crs a b c=0:=by unfold ph crs;grind
section
variable {α β:Int}
theorem Tm {x y:Int} (hx:0 < x) (h:0 < x*y):0 < y:=by
 rcases Int.lt_trichotomy y 0 with g | g | g
 ·have:=Int.mul_neg_of_pos_of_neg hx g;omega
 ·subst g;simp at h
 ·exact g
theorem Ky {x y:Int} (hx:0 < x) (h:0≤x*y):0≤y:=by
 rcases Int.lt_or_le y 0 with g | g
 ·have:=Int.mul_neg_of_pos_of_neg hx g;omega
 ·exact g
/-- Under the chord: a place before the top. -/
theorem Apx {t s i k:Ac} (h1:ph α β t < ph α β s) (h2:ph α β t < ph α β i) (h3:ph α β t < ph α β k) (h4:0≤crs t s k) (h5:crs t s i≤0):0≤crs t i k:=by
 have e:=Za α β t s i k
 have c1:crs t k s = -crs t s k:=by unfold crs;grind
 rw [c1] at e
 have p1:=Int.mul_nonneg (show 0≤ph α β i-ph α β t by omega) h4
 have p2:=Int.mul_nonneg (show 0≤ph α β k-ph α β t by omega) (show 0≤-crs t s i by omega)
 refine Ky (x:=ph α β s-ph α β t) (by omega) ?_
 rw [Int.mul_neg] at e p2
 omega
/-- Under the chord: a place behind the top. -/
theorem At6 {t s i k:Ac} (h1:ph α β t < ph α β s) (h2:ph α β s < ph α β i) (h3:ph α β k≤ph α β i) (h4:0≤crs s i k) (h5:crs t s i≤0):0≤crs t i k:=by
 have e:=Za α β i s t k
 have c1:crs i t k = -crs t i k:=by unfold crs;grind
 have c2:crs i k s=crs s i k:=by unfold crs;grind
 have c3:crs i s t = -crs t s i:=by unfold crs;grind
 rw [c1,c2,c3] at e
 have p1:=Int.mul_nonneg (show 0≤ph α β i-ph α β t by omega) h4
 have p2:=Int.mul_nonneg (show 0≤ph α β i-ph α β k by omega) (show 0≤-crs t s i by omega)
 refine Ky (x:=ph α β i-ph α β s) (by omega) ?_
 simp only [Int.sub_mul,Int.mul_neg] at e p1 p2 ⊢
 omega
/-- Before the top, behind a left turn. -/
theorem Au3 {a t i k:Ac} (h1:ph α β a < ph α β t) (h2:ph α β t < ph α β i) (h3:ph α β k < ph α β t) (h4:0≤crs a t k) (h5:0 < crs a t i):0 < crs t i k:=by
 have e:=Za α β t a i k
 have c1:crs t k a=crs a t k:=by unfold crs;grind
 have c2:crs t a i = -crs a t i:=by unfold crs;grind
 rw [c1,c2] at e
 have p1:=Int.mul_nonneg (show 0≤ph α β i-ph α β t by omega) h4
 have p2:=Int.mul_pos (show 0 < ph α β t-ph α β k by omega) h5
 refine Tm (x:=ph α β t-ph α β a) (by omega) ?_
 simp only [Int.sub_mul,Int.mul_neg] at e p1 p2 ⊢
 omega
/-- Two left turns. -/
theorem Au4 {a b t i:Ac} (h1:ph α β a < ph α β b) (h2:ph α β b < ph α β t) (h3:ph α β b < ph α β i) (h4:0 < crs a b t) (h5:0 < crs b t i):0 < crs a b i:=by
 have e:=Za α β b a t i
 have c1:crs b i a=crs a b i:=by unfold crs;grind
 have c2:crs b a t = -crs a b t:=by unfold crs;grind
 rw [c1,c2] at e
 have p1:=Int.mul_pos (show 0 < ph α β b-ph α β a by omega) h5
 have p2:=Int.mul_pos (show 0 < ph α β i-ph α β b by omega) h4
 refine Tm (x:=ph α β t-ph α β b) (by omega) ?_
 simp only [Int.sub_mul,Int.mul_neg] at e p1 p2 ⊢
 omega
end
section
variable (P:Int→Ac) (α β:Int)
/-- All places of the list lie left of the edge or on it. -/
def Sup (D:List Int) (a b:Int):Prop:=ph α β (P a) < ph α β (P b)∧∀ k∈D,0 < crs (P a) (P b) (P k)∨(crs (P a) (P b) (P k)=0∧ph α β (P a)≤ph α β (P k)∧ph α β (P k)≤ph α β (P b))
/-- The chain (the top first) has edges of that kind alone. -/
def Wq (Q:Int→Int→Prop):List Int→Prop
 | b::a::r=>Q a b∧Wq Q (a::r)
 | _=>True
def popC (i:Int):List Int→List Int
 | t::a::r=>if crs (P a) (P t) (P i)≤0 then popC i (a::r) else t::a::r
 | s=>s
/-- A chain over the places that came so far. -/
structure Aag (f:Int) (D s:List Int):Prop where
 sub:∀ x∈s,x∈D
 edge:Wq (Sup P α β D) s
 bot:∃ r,s=r++[f]
 low:∀ k∈D,k=f∨ph α β (P f) < ph α β (P k)
variable {P α β}
theorem Ar3 {f i:Int} {D:List Int}:∀ {s:List Int},Aag P α β f D s→(∀ k∈D,ph α β (P k) < ph α β (P i))→(∀ t r,s=t::r→∀ k∈D,ph α β (P t) < ph α β (P k)→0≤crs (P t) (P i) (P k)) →
  ∃ t r,popC P i s=t::r∧Aag P α β f D (t::r)∧(∀ k∈D,ph α β (P t) < ph α β (P k)→0≤crs (P t) (P i) (P k))∧(∀ a r',r=a::r'→0 < crs (P a) (P t) (P i))∧∃ q,s=q++t::r:=by
 intro s
 induction s with
 | nil=>intro h;obtain ⟨r,hr⟩:=h.bot;simp at hr
 | cons t s ih =>
  intro h hi hk
  cases s with
  | nil=>exact ⟨t,[],rfl,h,hk t [] rfl,fun a r' e=>(by cases e),[],rfl⟩
  | cons a r =>
   obtain ⟨he,hr⟩:=h.edge
   unfold popC
   by_cases c:crs (P a) (P t) (P i)≤0
   ·rw [if_pos c]
    have hb:Aag P α β f D (a::r):=⟨fun x hx=>h.sub x (List.mem_cons_of_mem _ hx),hr,by
     obtain ⟨q,hq⟩:=h.bot
     cases q with
     | nil=>simp at hq
     | cons y q=>exact ⟨q,by simp at hq;exact hq.2⟩,h.low⟩
    obtain ⟨t',r',g1,g2,g3,g4,q,g5⟩:=ih hb hi (fun t2 r2 e k hkD hlt=>by
     cases e
     have hti:=hi t (h.sub t (by simp))
     rcases he.2 k hkD with g | g
     ·by_cases hkt:ph α β (P k)≤ph α β (P t)
      ·exact Apx he.1 (by omega) hlt (by omega) c
      ·exact At6 (k:=P k) he.1 hti (by have:=hi k hkD;omega) (hk t _ rfl k hkD (by omega)) c
     ·exact Apx he.1 (by omega) hlt (by omega) c)
    exact ⟨t',r',g1,g2,g3,g4,t::q,by rw [g5];rfl⟩
   ·rw [if_neg c]
    exact ⟨t,a::r,rfl,h,hk t _ rfl,fun a' r' e=>(by cases e;omega),[],rfl⟩
theorem Ai4 {i:Int} {D:List Int}:∀ {r:List Int} {t:Int},Wq (Sup P α β D) (t::r)→(∀ k∈D,ph α β (P k) < ph α β (P i))→(∀ x∈t::r,x∈D)→(∀ a r',r=a::r'→0 < crs (P a) (P t) (P i))→Wq (Sup P α β (i::D)) (t::r):=by
 intro r
 induction r with
 | nil=>intro t _ _ _ _;trivial
 | cons a r ih =>
  intro t h hi hs hc
  obtain ⟨h1,h2⟩:=h
  have hpos:=hc a r rfl
  refine ⟨⟨h1.1,fun k hk=>?_⟩,ih h2 hi (fun x hx=>hs x (List.mem_cons_of_mem _ hx)) (fun b r' e=>?_)⟩
  ·rcases List.mem_cons.1 hk with rfl | hk
   ·exact .inl hpos
   ·exact h1.2 k hk
  ·subst e
   obtain ⟨h3,h4⟩:=h2
   have ht:=hs t (by simp)
   refine Au4 (t:=P t) h3.1 h1.1 (hi a (hs a (by simp))) ?_ hpos
   rcases h3.2 t ht with g | g
   ·exact g
   ·have:=h1.1;omega
/-- One more place. -/
theorem Ai5 {f i:Int} {D s:List Int} (h:Aag P α β f D s) (inj:∀ a∈D,∀ b∈D,ph α β (P a)=ph α β (P b)→a=b) (hi:∀ k∈D,ph α β (P k) < ph α β (P i)) (htop:∀ t r,s=t::r→∀ k∈D,ph α β (P k)≤ph α β (P t)):Aag P α β f (i::D) (i::popC P i s):=by
 obtain ⟨t,r,h1,h2,h3,h4,q,h5⟩:=Ar3 h hi (fun t r e k hk hlt=>by have:=htop t r e k hk;omega)
 rw [h1]
 have ht:t∈D:=h2.sub t (by simp)
 refine ⟨fun x hx=>?_,⟨⟨hi t ht,fun k hk=>?_⟩,Ai4 h2.edge hi h2.sub h4⟩,?_,fun k hk=>?_⟩
 ·rcases List.mem_cons.1 hx with rfl | hx
  ·simp
  ·exact List.mem_cons_of_mem _ (h2.sub x hx)
 ·rcases List.mem_cons.1 hk with rfl | hk
  ·right
   refine ⟨by unfold crs;grind,by have:=hi t ht;omega,by omega⟩
  ·have hki:=hi k hk
   rcases Int.lt_trichotomy (ph α β (P k)) (ph α β (P t)) with g | g | g
   ·cases r with
    | nil =>
     obtain ⟨q',hq'⟩:=h2.bot
     have:t=f:=by
      cases q' with
      | nil=>simp at hq';exact hq'
      | cons y q'=>simp at hq'
     subst this
     rcases h2.low k hk with e | e
     ·subst e;omega
     ·omega
    | cons a r =>
     obtain ⟨he,_⟩:=h2.edge
     left
     refine Au3 he.1 (hi t ht) g ?_ (h4 a r rfl)
     rcases he.2 k hk with e | e <;> omega
   ·obtain rfl:=inj k hk t ht g
    exact .inr ⟨by unfold crs;grind,by omega,by omega⟩
   ·have:=h3 k hk g
    rcases Int.lt_or_eq_of_le this with e | e
    ·exact .inl e
    ·exact .inr ⟨e.symm,by omega,by omega⟩
 ·obtain ⟨r',hr'⟩:=h2.bot
  exact ⟨i::r',by rw [hr'];rfl⟩
 ·rcases List.mem_cons.1 hk with rfl | hk
  ·right
   obtain ⟨r',hr'⟩:=h2.bot
   exact hi f (h2.sub f (by rw [hr'];simp))
  ·exact h2.low k hk
end
end Go.Proofs.YtgfiafnelibjgaaGreat
/- Triangles whose surface is convex: walks over them, and that a closed set of triangles whose circles are empty has all of them. -/
namespace Go.Proofs.YtgfiafnelibjgaaGreat
open Go Go.RowKit
theorem Tn {a b c x y z:Int} (hx:0 < x) (hy:0 < y) (hz:0 < z) (h1:a*y < b*x) (h2:b*z < c*y):a*z < c*x:=by
 have h3:=Int.mul_lt_mul_of_pos_right h1 hz
 have h4:=Int.mul_lt_mul_of_pos_right h2 hx
 have h5:y*(a*z) < y*(c*x):=by
  have e1:y*(a*z)=a*y*z:=by grind
  have e2:b*x*z=b*z*x:=by grind
  have e3:y*(c*x)=c*y*x:=by grind
  rw [e1,e3]
  rw [e2] at h3
  exact Int.lt_trans h3 h4
 exact Int.lt_of_mul_lt_mul_left h5 (Int.le_of_lt hy)
theorem Si {α:Type} {p q:α→Bool} {x:α}:∀ {l:List α},(∀ y∈l,p y=true→q y=true)→x∈l→q x=true→p x=false→l.countP p < l.countP q
 | [],_,hx,_,_=>by cases hx
 | y::r,h',hx,hq,hp=>by
  have h:=h' y List.mem_cons_self
  have h2:∀ z∈r,p z=true→q z=true:=fun z hz=>h' z (List.mem_cons_of_mem _ hz)
  have hle:r.countP p≤r.countP q:=List.countP_mono_left h2
  rw [List.countP_cons,List.countP_cons]
  rcases List.mem_cons.1 hx with rfl | hx
  ·rw [hq,hp];simp;omega
  ·have:=Si h2 hx hq hp
   by_cases c:p y=true
   ·rw [if_pos c,if_pos (h c)];omega
   ·rw [if_neg c];split <;> omega
def c3 (a b p q r:Ac):Int:=crs a b p+crs a b q+crs a b r
def p3 (ha hb hc:Int) (a b c p q r:Ac):Int:=plt ha hb hc a b c p+plt ha hb hc a b c q+plt ha hb hc a b c r
theorem Aml (ha hb hc hd:Int) (a b c d p q r:Ac):p3 hb ha hd b a d p q r*crs a b c-p3 ha hb hc a b c p q r*crs b a d=Dt ha hb hc hd a b c d*c3 a b p q r:=by
 have h1:=Nd ha hb hc hd a b c d p
 have h2:=Nd ha hb hc hd a b c d q
 have h3:=Nd ha hb hc hd a b c d r
 unfold p3 c3
 grind
theorem Apy (ha hb hc:Int) (a b c p q r:Ac):p3 hb hc ha b c a p q r=p3 ha hb hc a b c p q r:=by unfold p3;rw [Yz ha hb hc a b c p,Yz ha hb hc a b c q,Yz ha hb hc a b c r]
abbrev T3:=Int × Int × Int
variable {P:Int→Ac} {H:Int→Int}
def Sj (P:Int→Ac) (t:T3):Int:=crs (P t.1) (P t.2.1) (P t.2.2)
def hgt3 (P:Int→Ac) (H:Int→Int) (t:T3) (p q r:Ac):Int:=p3 (H t.1) (H t.2.1) (H t.2.2) (P t.1) (P t.2.1) (P t.2.2) p q r
/-- The plane of t lies below that of s at the place. -/
def Mb (P:Int→Ac) (H:Int→Int) (p q r:Ac) (t s:T3):Prop:=hgt3 P H t p q r*Sj P s < hgt3 P H s p q r*Sj P t
instance (p q r:Ac) (t s:T3):Decidable (Mb P H p q r t s):=by unfold Mb;infer_instance
def DH (P:Int→Ac) (H:Int→Int) (a b c d:Int):Int:=Dt (H a) (H b) (H c) (H d) (P a) (P b) (P c) (P d)
/-- A set of triangles, each in its three turns. -/
structure Aah (P:Int→Ac) (X:List T3):Prop where
 rot:∀ a b c,(a,b,c)∈X→(b,c,a)∈X
 ccw:∀ a b c,(a,b,c)∈X→0 < crs (P a) (P b) (P c)
/-- From each triangle, one comes to a triangle that has the place, and each step leads to a higher plane. -/
theorem walk {X:List T3} (hX:Aah P X) (p q r:Ac) (step:∀ a b c,(a,b,c)∈X→c3 (P a) (P b) p q r < 0→∃ d,(b,a,d)∈X∧DH P H a b c d < 0) :
  ∀ t∈X,∃ s∈X,0≤c3 (P s.1) (P s.2.1) p q r∧0≤c3 (P s.2.1) (P s.2.2) p q r∧0≤c3 (P s.2.2) (P s.1) p q r∧(s=t∨Mb P H p q r t s):=by
 have key:∀ (n:Nat) (t:T3),t∈X→X.countP (fun s=>decide (Mb P H p q r t s))=n→∃ s∈X,0≤c3 (P s.1) (P s.2.1) p q r∧0≤c3 (P s.2.1) (P s.2.2) p q r∧0≤c3 (P s.2.2) (P s.1) p q r∧(s=t∨Mb P H p q r t s):=by
  intro n
  induction n using Nat.strongRecOn with
  | ind n ih =>
   intro t ht hn
   -- a step over the first side of a turn t' of t
   have go:∀ t':T3,t'∈X→hgt3 P H t' p q r=hgt3 P H t p q r→Sj P t'=Sj P t→c3 (P t'.1) (P t'.2.1) p q r < 0 →
     ∃ s∈X,0≤c3 (P s.1) (P s.2.1) p q r∧0≤c3 (P s.2.1) (P s.2.2) p q r∧0≤c3 (P s.2.2) (P s.1) p q r∧(s=t∨Mb P H p q r t s):=by
    rintro ⟨a,b,c⟩ h1 h2 h3 h4
    obtain ⟨d,h5,h6⟩:=step a b c h1 h4
    have hb:Mb P H p q r t (b,a,d):=by
     unfold Mb
     rw [← h2,← h3]
     have e:=Aml (H a) (H b) (H c) (H d) (P a) (P b) (P c) (P d) p q r
     have:0 < Dt (H a) (H b) (H c) (H d) (P a) (P b) (P c) (P d)*c3 (P a) (P b) p q r:=Int.mul_pos_of_neg_of_neg h6 h4
     show p3 _ _ _ _ _ _ p q r*crs _ _ _ < p3 _ _ _ _ _ _ p q r*crs _ _ _
     simp only
     omega
    have hpos:∀ u∈X,0 < Sj P u:=fun u hu=>hX.ccw u.1 u.2.1 u.2.2 hu
    have hlt:X.countP (fun s=>decide (Mb P H p q r (b,a,d) s)) < n:=by
     rw [← hn]
     refine Si (x:=(b,a,d)) (fun y hy hb2=>?_) h5 (by simpa using hb) (by simp [Mb])
     rw [decide_eq_true_eq] at hb2 ⊢
     exact Tn (hpos t ht) (hpos _ h5) (hpos y hy) hb hb2
    obtain ⟨s,k1,k2,k3,k4,k5⟩:=ih _ hlt (b,a,d) h5 rfl
    refine ⟨s,k1,k2,k3,k4,.inr ?_⟩
    rcases k5 with rfl | k5
    ·exact hb
    ·exact Tn (hpos t ht) (hpos _ h5) (hpos s k1) hb k5
   obtain ⟨a,b,c⟩:=t
   by_cases g1:c3 (P a) (P b) p q r < 0
   ·exact go (a,b,c) ht rfl rfl g1
   ·by_cases g2:c3 (P b) (P c) p q r < 0
    ·exact go (b,c,a) (hX.rot _ _ _ ht) (Apy _ _ _ _ _ _ _ _ _) (Am _ _ _) g2
    ·by_cases g3:c3 (P c) (P a) p q r < 0
     ·exact go (c,a,b) (hX.rot _ _ _ (hX.rot _ _ _ ht)) (by unfold hgt3;rw [← Apy]) (by unfold Sj;rw [← Am]) g3
     ·exact ⟨(a,b,c),ht,by simp only;omega,by simp only;omega,by simp only;omega,.inl rfl⟩
 exact fun t ht=>key _ t ht rfl
end Go.Proofs.YtgfiafnelibjgaaGreat
/- A triangulation whose sides are legal has empty circles; a closed set of triangles with empty circles has all of them. -/
namespace Go.Proofs.YtgfiafnelibjgaaGreat
open Go Go.RowKit
variable {P:Int→Ac} {H:Int→Int} {V:Int→Prop}
theorem Xr {a b c d:Int} (hd:d≠a→d≠b→d≠c→DH P H a b c d < 0):plt (H a) (H b) (H c) (P a) (P b) (P c) (P d)≤H d*crs (P a) (P b) (P c)∧(d≠a→d≠b→d≠c→plt (H a) (H b) (H c) (P a) (P b) (P c) (P d) < H d*crs (P a) (P b) (P c)):=by
 have key:d≠a→d≠b→d≠c→plt (H a) (H b) (H c) (P a) (P b) (P c) (P d) < H d*crs (P a) (P b) (P c):=fun h1 h2 h3=>by
  have:=hd h1 h2 h3
  unfold DH at this
  rw [Xp] at this
  omega
 refine ⟨?_,key⟩
 by_cases h1:d=a
 ·subst h1;rw [Akw];exact Int.le_refl _
 ·by_cases h2:d=b
  ·subst h2;rw [Akx];exact Int.le_refl _
  ·by_cases h3:d=c
   ·subst h3;rw [Aky];exact Int.le_refl _
   ·exact Int.le_of_lt (key h1 h2 h3)
/-- Legal sides: empty circles. -/
theorem global {X:List T3} (hX:Aah P X) (emp:∀ a b c,(a,b,c)∈X→∀ d,V d→d≠a→d≠b→d≠c→crs (P a) (P b) (P d) < 0∨crs (P b) (P c) (P d) < 0∨crs (P c) (P a) (P d) < 0)
  (leg:∀ a b c,(a,b,c)∈X→∀ d,V d→crs (P a) (P b) (P d) < 0→∃ e,(b,a,e)∈X∧DH P H a b c e < 0) :
  ∀ a b c,(a,b,c)∈X→∀ d,V d→d≠a→d≠b→d≠c→DH P H a b c d < 0:=by
 intro a b c ht d hd h1 h2 h3
 have c3d:∀ x y,c3 x y (P d) (P d) (P d)=3*crs x y (P d):=fun x y=>by unfold c3;omega
 obtain ⟨⟨x,y,z⟩,hs,g1,g2,g3,g4⟩:=walk (H:=H) hX (P d) (P d) (P d) (fun a b c h hc=>leg a b c h d hd (by rw [c3d] at hc;omega)) (a,b,c) ht
 simp only [c3d] at g1 g2 g3
 rcases g4 with e | hb
 ·cases e
  rcases emp a b c ht d hd h1 h2 h3 with h | h | h <;> omega
 ·have hτ:=hX.ccw _ _ _ ht
  have hσ:=hX.ccw _ _ _ hs
  have hp:plt (H x) (H y) (H z) (P x) (P y) (P z) (P d)=H d*crs (P x) (P y) (P z):=by
   by_cases k1:d=x
   ·subst k1;rw [Akw]
   ·by_cases k2:d=y
    ·subst k2;rw [Akx]
    ·by_cases k3:d=z
     ·subst k3;rw [Aky]
     ·rcases emp x y z hs d hd k1 k2 k3 with h | h | h <;> omega
  unfold Mb hgt3 Sj p3 at hb
  simp only [hp] at hb
  have h4:(plt (H a) (H b) (H c) (P a) (P b) (P c) (P d)*3)*crs (P x) (P y) (P z) < (H d*crs (P a) (P b) (P c)*3)*crs (P x) (P y) (P z):=by
   have e1:(plt (H a) (H b) (H c) (P a) (P b) (P c) (P d)*3)*crs (P x) (P y) (P z)=(plt (H a) (H b) (H c) (P a) (P b) (P c) (P d)+plt (H a) (H b) (H c) (P a) (P b) (P c) (P d)+plt (H a) (H b) (H c) (P a) (P b) (P c) (P d))*crs (P x) (P y) (P z):=by grind
   have e2:(H d*crs (P a) (P b) (P c)*3)*crs (P x) (P y) (P z)=(H d*crs (P x) (P y) (P z)+H d*crs (P x) (P y) (P z)+H d*crs (P x) (P y) (P z))*crs (P a) (P b) (P c):=by grind
   rw [e1,e2]
   exact hb
  have h5:=Int.lt_of_mul_lt_mul_right h4 (Int.le_of_lt hσ)
  unfold DH
  rw [Xp]
  omega
theorem Vb {a b c:Int} (h:crs (P a) (P b) (P c)≠0):a≠b∧b≠c∧c≠a:=by
 refine ⟨fun e=>?_,fun e=>?_,fun e=>?_⟩
 ·subst e;exact h (Zh _ _)
 ·subst e;exact h (Bk _ _)
 ·subst e;exact h (Cc _ _)
/-- All triangles with empty circles are in a closed set of such ones. -/
theorem Ai6 {X:List T3} (hX:Aah P X) (hV:∀ a b c,(a,b,c)∈X→V a∧V b∧V c) (empX:∀ a b c,(a,b,c)∈X→∀ d,V d→d≠a→d≠b→d≠c→DH P H a b c d < 0)
  (step:∀ a b c,(a,b,c)∈X→∀ d,V d→crs (P a) (P b) (P d) < 0→∃ e,(b,a,e)∈X) (hne:X≠[])
  {p q r:Int} (hp:V p) (hq:V q) (hr:V r) (hs:0 < crs (P p) (P q) (P r)) (hemp:∀ d,V d→d≠p→d≠q→d≠r→DH P H p q r d < 0):(p,q,r)∈X:=by
 obtain ⟨t0,ht0⟩:=List.exists_mem_of_ne_nil X hne
 obtain ⟨⟨a,b,c⟩,ht,g1,g2,g3,_⟩:=walk (H:=H) hX (P p) (P q) (P r) (fun a b c h hc=>by
  have hτ:=hX.ccw _ _ _ h
  obtain ⟨e,he⟩:∃ e,(b,a,e)∈X:=by
   unfold c3 at hc
   by_cases k1:crs (P a) (P b) (P p) < 0
   ·exact step a b c h p hp k1
   ·by_cases k2:crs (P a) (P b) (P q) < 0
    ·exact step a b c h q hq k2
    ·exact step a b c h r hr (by omega)
  refine ⟨e,he,empX a b c h e (hV _ _ _ he).2.2 ?_ ?_ ?_⟩
  ·exact (Vb (P:=P) (a:=b) (b:=a) (c:=e) (by have:=hX.ccw _ _ _ he;omega)).2.1.symm
  ·exact (Vb (P:=P) (a:=b) (b:=a) (c:=e) (by have:=hX.ccw _ _ _ he;omega)).2.2
  ·intro k
   subst k
   have h1:=hX.ccw _ _ _ he
   rw [Aw] at h1
   omega) t0 ht0
 simp only at g1 g2 g3
 have hτ:=hX.ccw _ _ _ ht
 obtain ⟨va,vb,vc⟩:=hV _ _ _ ht
 have P1:=Xr (P:=P) (H:=H) (empX a b c ht p hp)
 have P2:=Xr (P:=P) (H:=H) (empX a b c ht q hq)
 have P3:=Xr (P:=P) (H:=H) (empX a b c ht r hr)
 have Q1:=(Xr (P:=P) (H:=H) (hemp a va)).1
 have Q2:=(Xr (P:=P) (H:=H) (hemp b vb)).1
 have Q3:=(Xr (P:=P) (H:=H) (hemp c vc)).1
 -- the surface of s at the corners of t,weighed
 have e1:c3 (P b) (P c) (P p) (P q) (P r)*plt (H p) (H q) (H r) (P p) (P q) (P r) (P a)+c3 (P c) (P a) (P p) (P q) (P r)*plt (H p) (H q) (H r) (P p) (P q) (P r) (P b)+c3 (P a) (P b) (P p) (P q) (P r)*plt (H p) (H q) (H r) (P p) (P q) (P r) (P c)
   = crs (P a) (P b) (P c)*((H p+H q+H r)*crs (P p) (P q) (P r)):=by
  have i1:=Xq (H p) (H q) (H r) (P a) (P b) (P c) (P p) (P q) (P r) (P p)
  have i2:=Xq (H p) (H q) (H r) (P a) (P b) (P c) (P p) (P q) (P r) (P q)
  have i3:=Xq (H p) (H q) (H r) (P a) (P b) (P c) (P p) (P q) (P r) (P r)
  rw [Akw] at i1
  rw [Akx] at i2
  rw [Aky] at i3
  unfold c3
  grind
 have e2:plt (H a) (H b) (H c) (P a) (P b) (P c) (P p)+plt (H a) (H b) (H c) (P a) (P b) (P c) (P q)+plt (H a) (H b) (H c) (P a) (P b) (P c) (P r)=H a*c3 (P b) (P c) (P p) (P q) (P r)+H b*c3 (P c) (P a) (P p) (P q) (P r)+H c*c3 (P a) (P b) (P p) (P q) (P r):=by unfold plt c3;grind
 have m1:=Int.mul_le_mul_of_nonneg_left Q1 g2
 have m2:=Int.mul_le_mul_of_nonneg_left Q2 g3
 have m3:=Int.mul_le_mul_of_nonneg_left Q3 g1
 generalize hF:plt (H a) (H b) (H c) (P a) (P b) (P c) (P p)+plt (H a) (H b) (H c) (P a) (P b) (P c) (P q)+plt (H a) (H b) (H c) (P a) (P b) (P c) (P r)=F at *
 have hge:(H p+H q+H r)*crs (P a) (P b) (P c)≤F:=by
  have:crs (P p) (P q) (P r)*((H p+H q+H r)*crs (P a) (P b) (P c))≤crs (P p) (P q) (P r)*F:=by
   have e3:crs (P p) (P q) (P r)*F=c3 (P b) (P c) (P p) (P q) (P r)*(H a*crs (P p) (P q) (P r))+c3 (P c) (P a) (P p) (P q) (P r)*(H b*crs (P p) (P q) (P r))+c3 (P a) (P b) (P p) (P q) (P r)*(H c*crs (P p) (P q) (P r)):=by rw [e2];grind
   have e4:crs (P p) (P q) (P r)*((H p+H q+H r)*crs (P a) (P b) (P c))=crs (P a) (P b) (P c)*((H p+H q+H r)*crs (P p) (P q) (P r)):=by grind
   rw [e3,e4]
   omega
  exact Int.le_of_mul_le_mul_left this hs
 have hsum:(H p+H q+H r)*crs (P a) (P b) (P c)=H p*crs (P a) (P b) (P c)+H q*crs (P a) (P b) (P c)+H r*crs (P a) (P b) (P c):=by grind
 have in1:p=a∨p=b∨p=c:=by
  by_cases k1:p=a
  ·exact .inl k1
  ·by_cases k2:p=b
   ·exact .inr (.inl k2)
   ·by_cases k3:p=c
    ·exact .inr (.inr k3)
    ·have:=P1.2 k1 k2 k3;omega
 have in2:q=a∨q=b∨q=c:=by
  by_cases k1:q=a
  ·exact .inl k1
  ·by_cases k2:q=b
   ·exact .inr (.inl k2)
   ·by_cases k3:q=c
    ·exact .inr (.inr k3)
    ·have:=P2.2 k1 k2 k3;omega
 have in3:r=a∨r=b∨r=c:=by
  by_cases k1:r=a
  ·exact .inl k1
  ·by_cases k2:r=b
   ·exact .inr (.inl k2)
   ·by_cases k3:r=c
    ·exact .inr (.inr k3)
    ·have:=P3.2 k1 k2 k3;omega
 obtain ⟨d1,d2,d3⟩:=Vb (P:=P) (a:=p) (b:=q) (c:=r) (by omega)
 have o1:crs (P b) (P a) (P c) = -crs (P a) (P b) (P c):=Aw _ _ _
 have o2:crs (P a) (P c) (P b) = -crs (P a) (P b) (P c):=by unfold crs;grind
 have o3:crs (P c) (P b) (P a) = -crs (P a) (P b) (P c):=by rw [Aw,Am]
 rcases in1 with rfl | rfl | rfl <;> rcases in2 with rfl | rfl | rfl <;> rcases in3 with rfl | rfl | rfl
 all_goals first
  | exact absurd rfl d1
  | exact absurd rfl d2
  | exact absurd rfl d3
  | exact ht
  | exact hX.rot _ _ _ ht
  | exact hX.rot _ _ _ (hX.rot _ _ _ ht)
  | omega
end Go.Proofs.YtgfiafnelibjgaaGreat
