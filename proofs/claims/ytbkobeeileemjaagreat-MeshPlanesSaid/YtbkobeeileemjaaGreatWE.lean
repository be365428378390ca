/- The height of a surface over a place: what mesh.plane returns. -/
import Derived.Test.YtbkobeeileemjaaGreatWC
import Derived.Test.YtbkobeeileemjaaGreatL9
namespace Go.Proofs.YtbkobeeileemjaaGreat
open Go Go.RowKit
def lv (x:Ab) (h:Bool):Int:=if h=true then x.Z.Hi else x.Z.Lo
/-- A vertex near the middle. -/
def Oc (x:Ab):Prop:=(-1000≤x.X∧x.X≤1000∧-1000≤x.Y∧x.Y≤1000)∧-4000000≤x.Z.Lo∧x.Z.Lo≤x.Z.Hi∧x.Z.Hi≤4000000
theorem Acq {z c:Int} {d e:Nat} (h:Red z d c e) (hd:d < 4294967296) (hz:z.natAbs < 100000000000000000):Sm c e:=⟨h.co,h.pos,by have:=h.le;omega,by have:=h.le;omega⟩
theorem Red.val {z c:Int} {d e:Nat} (h:Red z d c e):c*(d:Int)=z*(e:Int):=by
 obtain ⟨⟨g,_,h1,h2⟩,_,_⟩:=h
 rw [h1,h2,Int.natCast_mul]
 grind
theorem Ajb (x:Ab) (h:Bool):Mk x h=some (lv x h):=by
 unfold Mk lv
 cases h <;> rfl
theorem Akj {W z0 S c z e0 f:Int} (he:0 < e0) (h1:c*W=S*e0) (h2:z*e0=(z0*e0+c)*f):z*W=(z0*W+S)*f:=by
 have:e0*(z*W)=e0*((z0*W+S)*f):=by
  have e1:e0*(z*W)=(z*e0)*W:=by grind
  rw [e1,h2]
  have e2:(z0*e0+c)*f*W=(z0*e0*W+c*W)*f:=by grind
  rw [e2,h1]
  grind
 exact Int.eq_of_mul_eq_mul_left (by omega) this
theorem Ae9 {A B D:Ab} {x y:Int} {h:Bool} (hA:Oc A) (hB:Oc B) (hD:Oc D) (hx:-1000≤x∧x≤1000) (hy:-1000≤y∧y≤1000) (hW:0 < crs (pP A) (pP B) (pP D)) :
  ∃ c e,Jv ⟨A,B,D⟩ (CR x 1) (CR y 1) h=some (CR c e)∧Sm c e ∧
   c*crs (pP A) (pP B) (pP D)=(crs (pP B) (pP D) ⟨x,y⟩ * lv A h+crs (pP D) (pP A) ⟨x,y⟩ * lv B h+crs (pP A) (pP B) ⟨x,y⟩ * lv D h)*(e:Int):=by
 obtain ⟨⟨a1,a2,a3,a4⟩,a5,a6,a7⟩:=hA
 obtain ⟨⟨b1,b2,b3,b4⟩,b5,b6,b7⟩:=hB
 obtain ⟨⟨d1,d2,d3,d4⟩,d5,d6,d7⟩:=hD
 have lA:-4000000≤lv A h∧lv A h≤4000000:=by unfold lv;split <;> omega
 have lB:-4000000≤lv B h∧lv B h≤4000000:=by unfold lv;split <;> omega
 have lD:-4000000≤lv D h∧lv D h≤4000000:=by unfold lv;split <;> omega
 -- products
 have m1:=mulB (x:=x-A.X) (y:=D.Y-A.Y) (M:=2000) (N:=2000) (by omega) (by omega) (by omega) (by omega) (by omega)
 have m2:=mulB (x:=y-A.Y) (y:=D.X-A.X) (M:=2000) (N:=2000) (by omega) (by omega) (by omega) (by omega) (by omega)
 have m3:=mulB (x:=B.X-A.X) (y:=y-A.Y) (M:=2000) (N:=2000) (by omega) (by omega) (by omega) (by omega) (by omega)
 have m4:=mulB (x:=B.Y-A.Y) (y:=x-A.X) (M:=2000) (N:=2000) (by omega) (by omega) (by omega) (by omega) (by omega)
 have m5:=mulB (x:=B.X-A.X) (y:=D.Y-A.Y) (M:=2000) (N:=2000) (by omega) (by omega) (by omega) (by omega) (by omega)
 have m6:=mulB (x:=B.Y-A.Y) (y:=D.X-A.X) (M:=2000) (N:=2000) (by omega) (by omega) (by omega) (by omega) (by omega)
 have hu:(x-A.X)*(D.Y-A.Y)-(y-A.Y)*(D.X-A.X)=crs (pP D) (pP A) ⟨x,y⟩:=by unfold crs pP;grind
 have hv:(B.X-A.X)*(y-A.Y)-(B.Y-A.Y)*(x-A.X)=crs (pP A) (pP B) ⟨x,y⟩:=by unfold crs pP;grind
 have hw:(B.X-A.X)*(D.Y-A.Y)-(B.Y-A.Y)*(D.X-A.X)=crs (pP A) (pP B) (pP D):=by unfold crs pP;grind
 have hs:crs (pP B) (pP D) ⟨x,y⟩=crs (pP A) (pP B) (pP D)-crs (pP D) (pP A) ⟨x,y⟩ - crs (pP A) (pP B) ⟨x,y⟩:=by unfold crs;grind
 have uB:-8000000≤crs (pP D) (pP A) ⟨x,y⟩∧crs (pP D) (pP A) ⟨x,y⟩≤8000000:=by rw [← hu];omega
 have vB:-8000000≤crs (pP A) (pP B) ⟨x,y⟩∧crs (pP A) (pP B) ⟨x,y⟩≤8000000:=by rw [← hv];omega
 have wB:crs (pP A) (pP B) (pP D)≤8000000:=by rw [← hw];omega
 unfold Jv
 simp only [Ej,Ah,Ajb]
 unfold Up
 dsimp only
 rw [Bu (x:=B.X-A.X) (by omega) (by omega),Bu (x:=D.Y-A.Y) (by omega) (by omega),Bu (x:=B.Y-A.Y) (by omega) (by omega),Bu (x:=D.X-A.X) (by omega) (by omega),
  Bu (x:=(B.X-A.X)*(D.Y-A.Y)) (by omega) (by omega),Bu (x:=(B.Y-A.Y)*(D.X-A.X)) (by omega) (by omega),Bu (by omega) (by omega),Ah,hw]
 rw [Qp _ (by omega) (by omega),Ah,Qp _ (by omega) (by omega),Ah,Xa _ (by omega) (by omega),Ah,Qp _ (by omega) (by omega),Ah,Xa _ (by omega) (by omega),Ah,
  Qp _ (by omega) (by omega),Ah,Ri _ (by omega) (by omega),Ah,Qp _ (by omega) (by omega),Ah,Ri _ (by omega) (by omega),Ah,Xa _ (by omega) (by omega),Ah,
  Qp _ (by omega) (by omega),Ah,Ri _ (by omega) (by omega),Ah,Qp _ (by omega) (by omega),Ah,Ri _ (by omega) (by omega),Ah,Xa _ (by omega) (by omega),Ah,hu,hv]
 rw [Bu (x:=lv B h-lv A h) (by omega) (by omega),Bu (x:=lv D h-lv A h) (by omega) (by omega)]
 rw [hs]
 generalize crs (pP D) (pP A) ⟨x,y⟩=u at *
 generalize crs (pP A) (pP B) ⟨x,y⟩=v at *
 generalize crs (pP A) (pP B) (pP D)=W at *
 generalize lv A h=z0 at *
 generalize lv B h=z1 at *
 generalize lv D h=z2 at *
 have p1:=mulB (x:=u) (y:=z1-z0) (M:=8000000) (N:=8000000) (by omega) (by omega) (by omega) (by omega) (by omega)
 have p2:=mulB (x:=v) (y:=z2-z0) (M:=8000000) (N:=8000000) (by omega) (by omega) (by omega) (by omega) (by omega)
 have p3:=mulB (x:=z0) (y:=W) (M:=4000000) (N:=8000000) (by omega) (by omega) (by omega) (by omega) (by omega)
 rw [Qp _ (by omega) (by omega),Ah,Ri _ (by omega) (by omega),Ah,Qp _ (by omega) (by omega),Ah,Ri _ (by omega) (by omega),Ah,Alt _ (by omega) (by omega),Ah,Qp _ (by omega) (by omega),Ah]
 obtain ⟨w,rfl⟩:=Int.eq_ofNat_of_zero_le (show 0≤W by omega)
 obtain ⟨c,e,hr⟩:=Amj (u*(z1-z0)+v*(z2-z0)) (d:=w) (by omega)
 rw [Alu _ (by omega) (by omega) (by omega) hr,Ah]
 have sm:=Acq hr (by omega) (by omega)
 have he:=hr.le
 have h1:=hr.val
 have he0:=hr.pos
 have hb:(z0*(e:Int)).natAbs≤4000000*8000000:=by rw [Int.natAbs_mul,Int.natAbs_natCast];exact Nat.mul_le_mul (by omega) (by omega)
 obtain ⟨c',e',hr'⟩:=Amj (z0*(e:Int)+c*((1:Nat):Int)) (d:=1*e) (by omega)
 rw [Aid _ (Sm.one (by omega)) sm (by omega) hr',Ah]
 have h2:=hr'.val
 refine ⟨c',e',rfl,Acq hr' (by omega) (by omega),?_⟩
 have:=Akj (W:=(w:Int)) (z0:=z0) (S:=u*(z1-z0)+v*(z2-z0)) (c:=c) (z:=c') (e0:=(e:Int)) (f:=(e':Int)) (by omega) h1 (by
  rw [Nat.one_mul] at h2
  rw [h2]
  simp)
 rw [this]
 grind
end Go.Proofs.YtbkobeeileemjaaGreat
/- Build without lines, and with wrong vertices. -/
namespace Go.Proofs.YtbkobeeileemjaaGreat
open Go Go.RowKit
theorem Tb (v:List Ab):Ic v []=some 0:=by
 unfold Ic
 rw [jn_d,Ck]
 unfold Me
 try dsimp only
 rw [if_neg (by simp)]
 try dsimp only
 rw [Ah]
 try dsimp only
 rw [jn_d,Ck]
 unfold Li
 try dsimp only
 rw [if_neg (by simp)]
 rfl
theorem Aap:Mr []=some []:=by
 unfold Mr
 rw [jn_d,Ck]
 unfold Pi
 try dsimp only
 rw [if_neg (by simp)]
 try dsimp only
 rw [Ah]
 try dsimp only
 rw [gd_t (by simp)]
 rw [show Bd cmp2 []=[] from by simp [Bd]]
theorem Vb:lfix (Ne []) ()=some ():=by
 rw [Ck]
 unfold Ne
 rw [if_neg (by simp)]
theorem Aaq {v:List Ab} (h:Alp v):Tx v [] :=
 ⟨List.Pairwise.nil,List.nodup_nil,fun t=>⟨fun h=>(by cases h),fun g=>(by have:=h _ _ _ g.2.2.1 g.2.2.2.1 g.2.2.2.2.1;have:=g.2.2.2.2.2.1;omega)⟩⟩
theorem Akk {v:List Ab} (h:Lq v=0):∃ T,Fb v []=some (⟨v,T,[]⟩,0)∧Tx v T:=by
 obtain ⟨hn,_,hv⟩:=Tz h
 obtain ⟨l,hl,hr⟩:=Aft hv hn
 obtain ⟨m,h1,h2⟩:=Af6 hv hn hr []
 unfold Fb
 rw [Zf,h,Ah,if_pos rfl,Tb,Ah,if_pos rfl,Aap,Ah,hl,Ah,h1,Ah,jn_d]
 dsimp only
 have hcl:Hn v=some v:=by
  unfold Hn
  rw [gd_t (by omega)]
 rcases h2 with ⟨h3,rfl⟩ | ⟨h3,h4,h5,h6,h7⟩
 ·rw [if_neg (by simp)]
  have ht:=Ou (n:=v.length) hn (b:=⟨v,[],[]⟩) ⟨List.Pairwise.nil,by simp⟩
  rw [hcl,Ah,ht,Ah]
  exact ⟨_,rfl,by simpa [Bd] using Aaq h3⟩
 ·have hpos:0 < m.length:=List.length_pos_iff.2 h7
  rw [if_pos (by omega),jn_d,Vb,Ah]
  obtain ⟨m',g1,g2,g3⟩:=Acp (b:=⟨v,m,[]⟩) hv hn h4 h5
  rw [g1,Ah]
  dsimp only at g1 g2 g3 ⊢
  have ht:=Ou (n:=v.length) hn (b:=⟨v,m',[]⟩) g2.map
  rw [hcl,Ah,ht,Ah]
  refine ⟨_,rfl,Aip g2.map (Ze hv g2.map g2.tri (g3.cov _ h6) (fun i j k l hk hl=>?_) ?_)⟩
  ·rcases g2.pend i j k l hk hl with q | q | q
   ·cases q
   ·unfold Fx mget at q;simp at q
   ·exact q
  ·exact g3.ne h7
end Go.Proofs.YtbkobeeileemjaaGreat
/- Where a place lies in a mesh, and the span of the heights there: what mesh.Find and mesh.Bounds return. -/
namespace Go.Proofs.YtbkobeeileemjaaGreat
open Go Go.RowKit
def zV (v:List Ab) (i:Int):Be:=match idx v i with
 | some x=>x.Z
 | none=>⟨0,0⟩
def covT (v:List Ab) (at_:Ac) (t:Aq):Bool:=decide (0≤crs (plV v t.a0) (plV v t.a1) at_∧0≤crs (plV v t.a1) (plV v t.a2) at_∧0≤crs (plV v t.a2) (plV v t.a0) at_)
def Nl (v:List Ab) (t:Aq):Int:=crs (plV v t.a0) (plV v t.a1) (plV v t.a2)
/-- The sum of the heights of the corners by their weights. -/
def wsum (v:List Ab) (at_:Ac) (t:Aq) (f:Be→Int):Int :=
 crs (plV v t.a1) (plV v t.a2) at_*f (zV v t.a0)+crs (plV v t.a2) (plV v t.a0) at_*f (zV v t.a1)+crs (plV v t.a0) (plV v t.a1) at_*f (zV v t.a2)
def bndT (v:List Ab) (at_:Ac) (t:Aq):Be:=⟨wsum v at_ t (·.Lo) / Nl v t,-((-(wsum v at_ t (·.Hi))) / Nl v t)⟩
/-- The first triangle in which a place lies. -/
def locT (v:List Ab) (T:List Aq) (at_:Ac):Option Nat:=T.findIdx? (covT v at_)
theorem Ug {n:Nat} {i:Int} (h:inN n i):∃ k:Nat,i=(k:Int)∧k < n:=⟨i.toNat,by unfold inN at h;omega,by unfold inN at h;omega⟩
theorem Acr {v:List Ab} {k:Nat} (hk:k < v.length):zV v (k:Int)=v[k].Z:=by unfold zV;rw [Cm hk]
/-- A loop that stops at the first place where a test holds. -/
theorem Ajc {α:Type} (l:List α) (p:α→Bool) (B:Int→Option (Sum Int (Sum Unit Int)))
  (h1:∀ (j:Nat) (h:j < l.length),B j=if p l[j]=true then some (.inr (.inr (j:Int))) else some (.inl ((j+1:Nat):Int))) (h2:B l.length=some (.inr (.inl ()))) :
  lfix B 0=some (match l.findIdx? p with | some i=>.inr (i:Int) | none=>.inl ()):=by
 have key:∀ (m k:Nat),k≤l.length→l.length-k=m→(∀ j (hj:j < l.length),j < k→p l[j]=false)→lfix B k=some (match l.findIdx? p with | some i=>.inr (i:Int) | none=>.inl ()):=by
  intro m
  induction m with
  | zero =>
   intro k hk hm hf
   obtain rfl:k=l.length:=by omega
   rw [Ck,h2]
   have:l.findIdx? p=none:=by
    rw [List.findIdx?_eq_none_iff]
    intro x hx
    obtain ⟨j,hj,rfl⟩:=List.getElem_of_mem hx
    exact hf j hj hj
   rw [this]
  | succ m ih =>
   intro k hk hm hf
   have hlt:k < l.length:=by omega
   rw [Ck,h1 k hlt]
   by_cases hp:p l[k]=true
   ·rw [if_pos hp]
    have:l.findIdx? p=some k:=by
     rw [List.findIdx?_eq_some_iff_getElem]
     exact ⟨hlt,hp,fun j hj=>by rw [hf j (by omega) hj];simp⟩
    rw [this]
   ·rw [if_neg hp]
    refine ih (k+1) (by omega) (by omega) fun j hj hjk=>?_
    by_cases e:j=k
    ·subst e;exact Bool.eq_false_iff.2 hp
    ·exact hf j hj (by omega)
 exact key l.length 0 (Nat.zero_le _) rfl (fun j _ h=>absurd h (by omega))
theorem Ajd {A B D:Ab} {p:Ac} (hA:okP (pP A)) (hB:okP (pP B)) (hD:okP (pP D)) (hp:okP p) :
  Ky ⟨A,B,D⟩ p=some (decide (0≤crs (pP A) (pP B) p∧0≤crs (pP B) (pP D) p∧0≤crs (pP D) (pP A) p)):=by
 have sg:∀ z:Int,Int.sign z < 0↔¬ 0≤z:=fun z=>by rw [Int.sign_neg_iff];omega
 have s0:Ed ⟨A,B,D⟩ p 0=if 0≤crs (pP A) (pP B) p then some (.inl 1) else some (.inr (.inr false)):=by
  unfold Ed Ej
  dsimp only
  rw [if_pos (by omega),show idx [A,B,D] 0=some A from rfl,Ah,show Int.tmod (w64 (0+1)) 3=1 from by decide,show idx [A,B,D] 1=some B from rfl,Ah,Ah,Ah,show Gk ⟨A.X,A.Y⟩ ⟨B.X,B.Y⟩ p=_ from Qf hA hB hp,Ah]
  by_cases c:0≤crs (pP A) (pP B) p
  ·rw [if_neg (by rw [sg];exact fun h=>h c),if_pos c];rfl
  ·rw [if_pos (by rw [sg];exact c),if_neg c]
 have s1:Ed ⟨A,B,D⟩ p 1=if 0≤crs (pP B) (pP D) p then some (.inl 2) else some (.inr (.inr false)):=by
  unfold Ed Ej
  dsimp only
  rw [if_pos (by omega),show idx [A,B,D] 1=some B from rfl,Ah,show Int.tmod (w64 (1+1)) 3=2 from by decide,show idx [A,B,D] 2=some D from rfl,Ah,Ah,Ah,show Gk ⟨B.X,B.Y⟩ ⟨D.X,D.Y⟩ p=_ from Qf hB hD hp,Ah]
  by_cases c:0≤crs (pP B) (pP D) p
  ·rw [if_neg (by rw [sg];exact fun h=>h c),if_pos c];rfl
  ·rw [if_pos (by rw [sg];exact c),if_neg c]
 have s2:Ed ⟨A,B,D⟩ p 2=if 0≤crs (pP D) (pP A) p then some (.inl 3) else some (.inr (.inr false)):=by
  unfold Ed Ej
  dsimp only
  rw [if_pos (by omega),show idx [A,B,D] 2=some D from rfl,Ah,show Int.tmod (w64 (2+1)) 3=0 from by decide,show idx [A,B,D] 0=some A from rfl,Ah,Ah,Ah,show Gk ⟨D.X,D.Y⟩ ⟨A.X,A.Y⟩ p=_ from Qf hD hA hp,Ah]
  by_cases c:0≤crs (pP D) (pP A) p
  ·rw [if_neg (by rw [sg];exact fun h=>h c),if_pos c];rfl
  ·rw [if_pos (by rw [sg];exact c),if_neg c]
 have s3:Ed ⟨A,B,D⟩ p 3=some (.inr (.inl ())):=by
  unfold Ed
  rw [if_neg (by omega)]
 unfold Ky
 rw [jn_d,Ck,s0]
 by_cases c0:0≤crs (pP A) (pP B) p
 ·rw [if_pos c0]
  dsimp only
  rw [Ck,s1]
  by_cases c1:0≤crs (pP B) (pP D) p
  ·rw [if_pos c1]
   dsimp only
   rw [Ck,s2]
   by_cases c2:0≤crs (pP D) (pP A) p
   ·rw [if_pos c2]
    dsimp only
    rw [Ck,s3]
    simp [c0,c1,c2,Ah]
   ·rw [if_neg c2]
    simp [c0,c1,c2,Ah]
  ·rw [if_neg c1]
   simp [c0,c1,Ah]
 ·rw [if_neg c0]
  simp [c0,Ah]
/-- A mesh that mesh.Build returns. -/
structure Aor (m:Ci):Prop where
 b:Fb m.V m.Lines=some (m,0)
 n:m.V.length≤1024
 len:m.T.length≤1000000000
 ok:∀ x∈m.V,Oc x
 lines:m.Lines=[]
 t:∀ t∈m.T,inN m.V.length t.a0∧inN m.V.length t.a1∧inN m.V.length t.a2∧0 < Nl m.V t
theorem Oc.okP {x:Ab} (h:Oc x):okP (pP x):=by
 obtain ⟨h,_⟩:=h
 unfold Go.Proofs.YtbkobeeileemjaaGreat.okP pP
 dsimp only
 omega
theorem Afa (l:List Aq) (hl:l.length≤1000000000):Ct l l=some true:=by
 unfold Ct
 rw [if_pos rfl,jn_d,Abk l (fun _=>true) (Cp l l) () false (fun j hj=>?_) ?_,Ah]
 ·simp
 ·unfold Cp
  rw [if_neg (by omega)]
 ·unfold Cp
  rw [if_pos (by omega),Cm hj,Ah,Ah,if_pos (by simp),Cz (by omega),if_pos rfl]
theorem Agk:Cu [] []=some true:=by
 unfold Cu
 rw [if_pos rfl,jn_d,Abk ([]:List Aa) (fun _=>true) (De [] []) () false (fun j hj=>by simp at hj) ?_,Ah]
 ·simp
 ·unfold De
  rw [if_neg (by simp)]
theorem Aar {c e N W:Int} (he:0 < e) (hW:0 < W) (h:c*W=N*e):c / e=N / W:=by
 rw [← Int.mul_ediv_mul_of_pos c e hW,← Int.mul_ediv_mul_of_pos N W he,Int.mul_comm W c,h,Int.mul_comm N e,Int.mul_comm W e]
section
variable {m:Ci} (h:Aor m)
include h
theorem Akl:Pq m=some 0:=by
 unfold Pq
 rw [h.b,Ah,jn_d,if_pos rfl]
 dsimp only
 rw [Afa _ h.len,Ah,if_pos rfl,h.lines,Agk,Ah]
 rfl
theorem Aas {t:Aq} (ht:t∈m.T):∃ A B D,Ju m t=some ⟨A,B,D⟩∧(Oc A∧Oc B∧Oc D)∧(pP A=plV m.V t.a0∧pP B=plV m.V t.a1∧pP D=plV m.V t.a2)∧A.Z=zV m.V t.a0∧B.Z=zV m.V t.a1∧D.Z=zV m.V t.a2:=by
 obtain ⟨h0,h1,h2,_⟩:=h.t _ ht
 obtain ⟨a,ea,ha⟩:=Ug h0
 obtain ⟨b,eb,hb⟩:=Ug h1
 obtain ⟨c,ec,hc⟩:=Ug h2
 refine ⟨m.V[a],m.V[b],m.V[c],?_,⟨h.ok _ (List.getElem_mem ha),h.ok _ (List.getElem_mem hb),h.ok _ (List.getElem_mem hc)⟩,⟨?_,?_,?_⟩,?_,?_,?_⟩
 ·unfold Ju
  rw [ea,Cm ha,Ah,eb,Cm hb,Ah,ec,Cm hc,Ah]
 ·rw [ea,Ty ha]
 ·rw [eb,Ty hb]
 ·rw [ec,Ty hc]
 ·rw [ea,Acr ha]
 ·rw [eb,Acr hb]
 ·rw [ec,Acr hc]
theorem Akm {p:Ac} (hp:okP p):Rj m p=some (match locT m.V m.T p with | some i=>(i:Int) | none=>-1):=by
 unfold Rj
 have hl:=h.len
 rw [jn_d,Ajc m.T (covT m.V p) (Nf m p) (fun j hj=>?_) ?_,Ah]
 ·unfold locT
  cases m.T.findIdx? (covT m.V p) <;> rfl
 ·unfold Nf
  rw [if_neg (by omega)]
 ·obtain ⟨A,B,D,e,⟨n0,n1,n2⟩,⟨e0,e1,e2⟩,_⟩:=Aas h (List.getElem_mem hj)
  unfold Nf
  rw [if_pos (by omega),Cm hj,Ah,e,Ah,show Ky ⟨⟨A.X,A.Y,A.Z⟩,⟨B.X,B.Y,B.Z⟩,⟨D.X,D.Y,D.Z⟩⟩ p=_ from Ajd n0.okP n1.okP n2.okP hp,Ah,Cz (by omega)]
  unfold covT
  rw [e0,e1,e2]
theorem Anb {p:Ac} (hp:okP p):Pb m p=some (match locT m.V m.T p with | some i=>((i:Int),0) | none=>(0,65)):=by
 unfold Pb
 rw [Akl h,Ah,if_pos rfl,Aef,if_pos ⟨hp,hp,hp⟩,Ah]
 dsimp only
 rw [if_pos rfl,Akm h hp,Ah]
 cases locT m.V m.T p with
 | none=>dsimp only;rw [if_pos (by omega)]
 | some i =>
  have h0:¬ ((i:Nat):Int) < 0:=by omega
  dsimp only
  rw [if_neg h0]
theorem Uh {p:Ac} (hp:-1000≤p.X∧p.X≤1000∧-1000≤p.Y∧p.Y≤1000) :
  (locT m.V m.T p=none∧Jn m p=some (⟨0,0⟩,65))∨∃ t∈m.T,covT m.V p t=true∧Jn m p=some (bndT m.V p t,0)∧∃ i,locT m.V m.T p=some i∧idx m.T (i:Int)=some t:=by
 have okp:okP p:=by unfold okP;omega
 have F:=Anb h okp
 unfold Jn Og
 rw [F,Ah]
 cases hl:locT m.V m.T p with
 | none =>
  left
  refine ⟨rfl,?_⟩
  dsimp only
  rw [if_neg (by omega),Ah]
  dsimp only
  rw [if_neg (by omega)]
 | some i =>
  right
  have hl':=hl
  unfold locT at hl'
  obtain ⟨hi,hc,_⟩:=List.findIdx?_eq_some_iff_getElem.1 hl'
  refine ⟨m.T[i],List.getElem_mem hi,hc,?_,i,rfl,Cm hi⟩
  obtain ⟨A,B,D,e,⟨n0,n1,n2⟩,⟨e0,e1,e2⟩,z0,z1,z2⟩:=Aas h (List.getElem_mem hi)
  have hpos:=(h.t _ (List.getElem_mem hi)).2.2.2
  unfold Nl at hpos
  rw [← e0,← e1,← e2] at hpos
  have cv:0≤crs (pP A) (pP B) p∧0≤crs (pP B) (pP D) p∧0≤crs (pP D) (pP A) p:=by
   unfold covT at hc
   rw [decide_eq_true_eq] at hc
   rw [e0,e1,e2];exact hc
  obtain ⟨c1,d1,q1,s1,r1⟩:=Ae9 (h:=false) n0 n1 n2 ⟨hp.1,hp.2.1⟩ ⟨hp.2.2.1,hp.2.2.2⟩ hpos
  obtain ⟨c2,d2,q2,s2,r2⟩:=Ae9 (h:=true) n0 n1 n2 ⟨hp.1,hp.2.1⟩ ⟨hp.2.2.1,hp.2.2.2⟩ hpos
  replace r1:c1*crs (pP A) (pP B) (pP D)=(crs (pP B) (pP D) p*lv A false+crs (pP D) (pP A) p*lv B false+crs (pP A) (pP B) p*lv D false)*(d1:Int):=r1
  replace r2:c2*crs (pP A) (pP B) (pP D)=(crs (pP B) (pP D) p*lv A true+crs (pP D) (pP A) p*lv B true+crs (pP A) (pP B) p*lv D true)*(d2:Int):=r2
  have k1:=s1.pos
  have k2:=s2.pos
  have hN:crs (pP B) (pP D) p*lv A false+crs (pP D) (pP A) p*lv B false+crs (pP A) (pP B) p*lv D false≤crs (pP B) (pP D) p*lv A true+crs (pP D) (pP A) p*lv B true+crs (pP A) (pP B) p*lv D true:=by
   have t0:=Int.mul_le_mul_of_nonneg_left (show lv A false≤lv A true from n0.2.2.1) cv.2.1
   have t1:=Int.mul_le_mul_of_nonneg_left (show lv B false≤lv B true from n1.2.2.1) cv.2.2
   have t2:=Int.mul_le_mul_of_nonneg_left (show lv D false≤lv D true from n2.2.2.1) cv.1
   omega
  have hle:c1*(d2:Int)≤c2*(d1:Int):=by
   refine Int.le_of_mul_le_mul_right (a:=crs (pP A) (pP B) (pP D)) ?_ hpos
   have e3:c1*(d2:Int)*crs (pP A) (pP B) (pP D)=(crs (pP B) (pP D) p*lv A false+crs (pP D) (pP A) p*lv B false+crs (pP A) (pP B) p*lv D false)*((d1:Int)*(d2:Int)):=by
    have:c1*(d2:Int)*crs (pP A) (pP B) (pP D)=(c1*crs (pP A) (pP B) (pP D))*(d2:Int):=by grind
    rw [this,r1];grind
   have e4:c2*(d1:Int)*crs (pP A) (pP B) (pP D)=(crs (pP B) (pP D) p*lv A true+crs (pP D) (pP A) p*lv B true+crs (pP A) (pP B) p*lv D true)*((d1:Int)*(d2:Int)):=by
    have:c2*(d1:Int)*crs (pP A) (pP B) (pP D)=(c2*crs (pP A) (pP B) (pP D))*(d1:Int):=by grind
    rw [this,r2];grind
   rw [e3,e4]
   exact Int.mul_le_mul_of_nonneg_right hN (Int.mul_nonneg (by omega) (by omega))
  dsimp only
  rw [if_pos rfl]
  try simp only [jn_d]
  rw [Cm hi,Ah,e,Ah,Vq (by omega) (by omega),Ah,Vq (by omega) (by omega),Ah]
  show bnd (bnd (Jv ⟨A,B,D⟩ (CR p.X 1) (CR p.Y 1) false) fun r50=>bnd (Jv ⟨A,B,D⟩ (CR p.X 1) (CR p.Y 1) true) fun r65=>some (r50,r65,(0:Int))) _=_
  rw [q1,Ah,q2,Ah,Ah]
  dsimp only
  rw [if_pos rfl,Als s1 s2 hle,Ah,Aar (by omega) hpos r1,Aar (c:=-c2) (N:=-(crs (pP B) (pP D) p*lv A true+crs (pP D) (pP A) p*lv B true+crs (pP A) (pP B) p*lv D true)) (by omega) hpos (by rw [Int.neg_mul,Int.neg_mul,← r2])]
  unfold bndT wsum Nl
  rw [← e0,← e1,← e2,← z0,← z1,← z2]
  rfl
end
end Go.Proofs.YtbkobeeileemjaaGreat
