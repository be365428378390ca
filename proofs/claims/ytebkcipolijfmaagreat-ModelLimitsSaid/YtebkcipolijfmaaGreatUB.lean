/- Plain laws: math/bits.Div64. -/
import Derived.Test.YtebkcipolijfmaaGreatI11
import Derived.Test.YtebkcipolijfmaaGreatU16
namespace Go.Proofs.YtebkcipolijfmaaGreat
open Go Go.RowKit
theorem Atw {lo s:Nat} (hs:s≤63):lo*2 ^ s=lo / 2 ^ (64-s)*18446744073709551616+lo*2 ^ s % 18446744073709551616:=by
 have e:(18446744073709551616:Nat)=2 ^ (64-s)*2 ^ s:=by rw [← Nat.pow_add,show 64-s+s=64 by omega]
 have k:lo*2 ^ s / 18446744073709551616=lo / 2 ^ (64-s):=by rw [e,Nat.mul_div_mul_right _ _ (Nat.two_pow_pos s)]
 have:=Nat.div_add_mod (lo*2 ^ s) 18446744073709551616
 rw [k] at this
 omega
theorem Aa7 {U v1:Nat} (h1:0 < v1) (hU:U < 18446744073709551616):wu64 (Int.tdiv (U:Int) (v1:Int))=((U / v1:Nat):Int)∧wu64 ((U:Int)-wu64 (((U / v1:Nat):Int)*(v1:Int)))=((U % v1:Nat):Int):=by
 have a:U / v1≤U:=Nat.div_le_self _ _
 have b:=Nat.div_add_mod U v1
 have c:((U / v1:Nat):Int)*(v1:Int)=((v1*(U / v1):Nat):Int):=by rw [Nat.mul_comm];norm_cast
 constructor
 ·rw [← Int.ofNat_tdiv];exact Uf (by omega)
 ·rw [c]
  generalize v1*(U / v1)=m at *
  rw [Aqe _ _ (by omega) (by omega)];omega
theorem Aju {U u Y:Nat} (hU:U < Y) (hu:u < 4294967296) (hY:Y < 18446744073709551616) :
  wu64 (wu64 (wu64 ((U:Int)*4294967296)+(u:Int))-wu64 ((((U*4294967296+u) / Y:Nat):Int)*(Y:Int)))=(((U*4294967296+u) % Y:Nat):Int):=by
 have b:=Nat.div_add_mod (U*4294967296+u) Y
 have d:=Nat.mod_lt (U*4294967296+u) (show 0 < Y by omega)
 have c:(((U*4294967296+u) / Y:Nat):Int)*(Y:Int)=((Y*((U*4294967296+u) / Y):Nat):Int):=by rw [Nat.mul_comm Y];norm_cast
 rw [c]
 generalize Y*((U*4294967296+u) / Y)=m at *
 generalize (U*4294967296+u) % Y=r at *
 rw [Akf _ _ _ (by omega) (by omega)];omega
theorem Atx {U w Y r1 g1 g0 R s:Nat} (x1:Y*g1+r1=U*4294967296+w / 4294967296) (x2:Y*g0+R=r1*4294967296+w % 4294967296) (x3:R < Y) (a1:g1 < 4294967296) (a2:g0 < 4294967296) :
  some (wu64 (wu64 ((g1:Int)*4294967296)+(g0:Int)),((R / 2 ^ s:Nat):Int))=some ((((U*18446744073709551616+w) / Y:Nat):Int),(((U*18446744073709551616+w) % Y / 2 ^ s:Nat):Int)):=by
 have tot:U*18446744073709551616+w=Y*(g1*4294967296+g0)+R:=by
  rw [Nat.mul_add,show Y*(g1*4294967296)=Y*g1*4294967296 by grind]
  omega
 rw [tot,Nat.mul_add_div (by omega),Nat.mul_add_mod,Nat.div_eq_of_lt x3,Nat.mod_eq_of_lt x3]
 have fin:wu64 (wu64 ((g1:Int)*4294967296)+(g0:Int))=((g1*4294967296+g0+0:Nat):Int):=by
  simp only [Vb];omega
 rw [fin]
theorem Axh {hi lo y:Nat} (hy:y < 18446744073709551616) (h:hi < y) (hl:lo < 18446744073709551616) :
  Ju (hi:Int) (lo:Int) (y:Int)=some ((((hi*18446744073709551616+lo) / y:Nat):Int),(((hi*18446744073709551616+lo) % y:Nat):Int)):=by
 unfold Ju
 rw [if_neg (by omega),if_neg (by omega)]
 by_cases h0:hi=0
 ·subst h0
  rw [if_pos (by omega),gd_t (by omega),gd_t (by omega),(Aa7 (by omega) hl).1,← Int.ofNat_tmod]
  simp
 rw [if_neg (by omega)]
 obtain ⟨s,hs,e,n1,n2⟩:=Avj (y:=y) (by omega) hy
 rw [e,Ah]
 have es:wu64 (s:Int)=(s:Int):=Uf (by omega)
 have hp:0 < 2 ^ s:=Nat.two_pow_pos s
 have m1:hi*2 ^ s < y*2 ^ s:=Nat.mul_lt_mul_of_pos_right h hp
 have m2:=Atw (lo:=lo) hs
 have m3:lo / 2 ^ (64-s) < 2 ^ s:=by
  rw [Nat.div_lt_iff_lt_mul (Nat.two_pow_pos _),← Nat.pow_add,show s+(64-s)=64 by omega];exact hl
 have m4:(hi*18446744073709551616+lo)*2 ^ s=(hi*2 ^ s+lo / 2 ^ (64-s))*18446744073709551616+lo*2 ^ s % 18446744073709551616:=by
  rw [Nat.add_mul,m2];grind
 have m5:hi*2 ^ s+lo / 2 ^ (64-s) < y*2 ^ s:=by
  have:=Nat.mul_le_mul_right (2 ^ s) (show hi+1≤y from h)
  rw [Nat.add_mul,Nat.one_mul] at this
  omega
 have ey:shl_ .u64 (y:Int) (s:Int)=((y*2 ^ s:Nat):Int):=by rw [shlN _ _ (by omega),Nat.mod_eq_of_lt n2]
 have eh:shl_ .u64 (hi:Int) (s:Int)=((hi*2 ^ s:Nat):Int):=by rw [shlN _ _ (by omega),Nat.mod_eq_of_lt (by omega)]
 have el:=shlN lo s (by omega)
 have ec:wu64 (64-(s:Int))=((64-s:Nat):Int):=by rw [Sg (by omega) (by omega)];omega
 have ed:=shrN lo (64-s) (by omega)
 have ef:=orN (a:=hi) m3 (by omega)
 have q1:(hi*18446744073709551616+lo) / y=(hi*18446744073709551616+lo)*2 ^ s / (y*2 ^ s):=by rw [Nat.mul_div_mul_right _ _ hp]
 have q2:(hi*18446744073709551616+lo) % y=(hi*18446744073709551616+lo)*2 ^ s % (y*2 ^ s) / 2 ^ s:=by rw [Nat.mul_mod_mul_right,Nat.mul_div_cancel _ hp]
 rw [q1,q2,m4]
 simp only [es,ey,eh,ec,ed,ef,jn_d]
 have esr:∀ n:Nat,shr_ .u64 (n:Int) (s:Int)=((n / 2 ^ s:Nat):Int):=fun n=>shrN n s (by omega)
 have d1:=@Ath y lo s
 have d0:=@Ati y lo s
 rw [ey,el] at d1 d0
 rw [el]
 have ew:lo*2 ^ s % 18446744073709551616 < 18446744073709551616:=Nat.mod_lt _ (by omega)
 generalize lo*2 ^ s % 18446744073709551616=w at *
 generalize hi*2 ^ s+lo / 2 ^ (64-s)=U at *
 generalize y*2 ^ s=Y at *
 clear m1 m2 m3 m4 ef eh ed el ey e q1 q2 ec
 rw [gd_t (by omega),gd_t (by omega),gd_t (by omega),gd_t (by omega)]
 have t1:Y=Y / 4294967296*4294967296+Y % 4294967296:=by omega
 have t2:w=w / 4294967296*4294967296+w % 4294967296:=by omega
 have d1':=d1 (v1:=Y / 4294967296) (v0:=Y % 4294967296) (U:=U) (u1:=w / 4294967296) (by omega) (by omega) (by omega) (by omega) (by omega) es (by rw [← t1]) (Zj w)
 rw [← t1] at d1'
 rw [Zj,Zj,andN,gd_t (by omega),(Aa7 (by omega) (by omega)).1,(Aa7 (by omega) (by omega)).2,d1',Ah,gd_t (by omega),Aju m5 (by omega) n2]
 have hM:=Nat.mod_lt (U*4294967296+w / 4294967296) (show 0 < Y by omega)
 have d0':=d0 (v1:=Y / 4294967296) (v0:=Y % 4294967296) (U:=(U*4294967296+w / 4294967296) % Y) (u0:=w % 4294967296) (by omega) (by omega) (by omega) (by omega) (by omega) es (by rw [← t1]) (andN w)
 rw [← t1] at d0'
 rw [(Aa7 (by omega) (by omega)).1,(Aa7 (by omega) (by omega)).2,d0',Ah,Aju hM (by omega) n2,gd_t (by omega),esr]
 have x1:=Nat.div_add_mod (U*4294967296+w / 4294967296) Y
 have x2:=Nat.div_add_mod ((U*4294967296+w / 4294967296) % Y*4294967296+w % 4294967296) Y
 have x3:=Nat.mod_lt ((U*4294967296+w / 4294967296) % Y*4294967296+w % 4294967296) (show 0 < Y by omega)
 have a1:(U*4294967296+w / 4294967296) / Y < 4294967296:=by
  rw [Nat.div_lt_iff_lt_mul (by omega)];omega
 have a2:((U*4294967296+w / 4294967296) % Y*4294967296+w % 4294967296) / Y < 4294967296:=by
  rw [Nat.div_lt_iff_lt_mul (by omega)];omega
 exact Atx x1 x2 x3 a1 a2
end Go.Proofs.YtebkcipolijfmaaGreat
/- Plain laws: the mean of three heights by weights. -/
namespace Go.Proofs.YtebkcipolijfmaaGreat
open Go Go.RowKit
theorem Aty {m0 m1 m2 d0 d1 d2:Nat} {b:Int} {p:Aq} (hA:m0+m1+m2≤2305843009213693952) (h0:0 < m0+m1+m2) (k0:d0≤2199023255552) (k1:d1≤2199023255552) (k2:d2≤2199023255552)
  (b1:-2199023255552≤b) (b2:b≤2199023255552) (hb:min (min p.a0 p.a1) p.a2=b) (e0:p.a0=b+d0) (e1:p.a1=b+d1) (e2:p.a2=b+d2) :
  Il ⟨(m0:Int),(m1:Int),(m2:Int)⟩ p=some (b+(((m0*d0+m1*d1+m2*d2) / (m0+m1+m2):Nat):Int),
   b+(((m0*d0+m1*d1+m2*d2) / (m0+m1+m2):Nat):Int)+if 0 < (m0*d0+m1*d1+m2*d2) % (m0+m1+m2) then 1 else 0):=by
 have l0:m0*d0≤m0*2199023255552:=Nat.mul_le_mul_left _ k0
 have l1:m1*d1≤m1*2199023255552:=Nat.mul_le_mul_left _ k1
 have l2:m2*d2≤m2*2199023255552:=Nat.mul_le_mul_left _ k2
 have w0:w64 (p.a0-b)=(d0:Int):=by rw [Bs (by omega) (by omega)];omega
 have w1:w64 (p.a1-b)=(d1:Int):=by rw [Bs (by omega) (by omega)];omega
 have w2:w64 (p.a2-b)=(d2:Int):=by rw [Bs (by omega) (by omega)];omega
 have z:(⟨0,0⟩:Fu)=W2 0:=rfl
 have s1:wu64 (w64 (w64 ((m0:Int)+(m1:Int))+(m2:Int)))=((m0+m1+m2:Nat):Int):=by
  rw [Bs (x:=(m0:Int)+(m1:Int)) (by omega) (by omega),Bs (by omega) (by omega),Sg (by omega) (by omega)];norm_cast
 unfold Il
 simp only [hb,w0,w1,w2,s1]
 have p0:=Abn (n:=0) (a:=m0) (b:=d0) (by omega) (by omega) (by omega)
 have p1:=Abn (n:=0+m0*d0) (a:=m1) (b:=d1) (by omega) (by omega) (by omega)
 have p2:=Abn (n:=0+m0*d0+m1*d1) (a:=m2) (b:=d2) (by omega) (by omega) (by omega)
 rw [z,p0,Ah,p1,Ah,p2,Ah]
 have hn:0+m0*d0+m1*d1+m2*d2=m0*d0+m1*d1+m2*d2:=by omega
 rw [hn]
 have hm:m0*d0+m1*d1+m2*d2≤(m0+m1+m2)*2199023255552:=by omega
 clear p0 p1 p2 hn l0 l1 l2 z s1 w0 w1 w2
 generalize m0*d0+m1*d1+m2*d2=n at *
 generalize m0+m1+m2=A at *
 have q:=Axh (hi:=n / 18446744073709551616) (lo:=n % 18446744073709551616) (y:=A) (by omega) (by omega) (by omega)
 have en:n / 18446744073709551616*18446744073709551616+n % 18446744073709551616=n:=by omega
 rw [en] at q
 have qb:n / A≤2199023255552:=by
  rw [Nat.div_le_iff_le_mul_add_pred h0,Nat.mul_comm A] ;rw [Nat.mul_comm] at hm;omega
 refine (congrArg (fun o=>bnd o _) q).trans ?_
 rw [Ah]
 dsimp only
 generalize n / A=g at *
 generalize n % A=r at *
 have f1:w64 (b+w64 (g:Int))=b+(g:Int):=by rw [Am4 (by omega),Bs (by omega) (by omega)]
 have f2:w64 (b+(g:Int)+1)=b+(g:Int)+1:=by rw [Bs (by omega) (by omega)]
 rw [f1,f2]
 by_cases hr:0 < r
 ·rw [if_pos (show (0:Int) < (r:Int) by omega),if_pos hr]
 ·rw [if_neg (show ¬ (0:Int) < (r:Int) by omega),if_neg hr,Int.add_zero]
end Go.Proofs.YtebkcipolijfmaaGreat
/- Surfaces: what surface.Locate and surface.Bounds return. -/
namespace Go.Proofs.YtebkcipolijfmaaGreat
open Go Go.RowKit
theorem Ahs {n c k r:Int} (hc:0 < c) (h:n=c*k+r) (h0:0≤r) (h1:r < c):n / c=k:=by
 rw [h,Int.add_comm,Int.add_mul_ediv_left r k (by omega),Int.ediv_eq_zero_of_lt h0 h1,Int.zero_add]
theorem Axi {a:Int} {m:Int} (h1:-m≤a) (h2:a≤m):0≤a*a∧a*a≤m*m:=by
 refine ⟨?_,?_⟩
 ·rcases Int.le_total 0 a with h | h
  ·exact Int.mul_nonneg h h
  ·exact Int.mul_nonneg_of_nonpos_of_nonpos h h
 ·rcases Int.le_total 0 a with h | h
  ·exact Int.mul_le_mul h2 h2 h (by omega)
  ·have:(-a)*(-a)≤m*m:=Int.mul_le_mul (by omega) (by omega) (by omega) (by omega)
   rwa [Int.neg_mul_neg] at this
theorem sq_w {a b:Int} (ha:-268435456≤a∧a≤268435456) (hb:-268435456≤b∧b≤268435456):w64 (a-b)=a-b∧w64 ((a-b)*(a-b))=(a-b)*(a-b)∧0≤(a-b)*(a-b)∧(a-b)*(a-b)≤288230376151711744:=by
 have h:=Axi (a:=a-b) (m:=536870912) (by omega) (by omega)
 refine ⟨Bs (by omega) (by omega),Bs (by omega) (by omega),h.1,by omega⟩
theorem Am9 {w0 w1 w2:Int} (n0:0≤w0) (n1:0≤w1) (n2:0≤w2) (hA:w0+w1+w2≤2305843009213693952) (h0:0 < w0+w1+w2) {p:Aq}
  (k0:-1099511627776≤p.a0∧p.a0≤1099511627776) (k1:-1099511627776≤p.a1∧p.a1≤1099511627776) (k2:-1099511627776≤p.a2∧p.a2≤1099511627776) :
  Il ⟨w0,w1,w2⟩ p=some ((w0*p.a0+w1*p.a1+w2*p.a2) / (w0+w1+w2),-((-(w0*p.a0+w1*p.a1+w2*p.a2)) / (w0+w1+w2))):=by
 obtain ⟨m0,rfl⟩:=Int.eq_ofNat_of_zero_le n0
 obtain ⟨m1,rfl⟩:=Int.eq_ofNat_of_zero_le n1
 obtain ⟨m2,rfl⟩:=Int.eq_ofNat_of_zero_le n2
 obtain ⟨b,hb⟩:∃ b,min (min p.a0 p.a1) p.a2=b:=⟨_,rfl⟩
 obtain ⟨d0,e0⟩:∃ d:Nat,p.a0=b+d:=⟨(p.a0-b).toNat,by omega⟩
 obtain ⟨d1,e1⟩:∃ d:Nat,p.a1=b+d:=⟨(p.a1-b).toNat,by omega⟩
 obtain ⟨d2,e2⟩:∃ d:Nat,p.a2=b+d:=⟨(p.a2-b).toNat,by omega⟩
 have h:=Aty (m0:=m0) (m1:=m1) (m2:=m2) (d0:=d0) (d1:=d1) (d2:=d2) (b:=b) (p:=p) (by omega) (by omega) (by omega) (by omega) (by omega) (by omega) (by omega) hb e0 e1 e2
 rw [h]
 have hS:(m0:Int)*p.a0+(m1:Int)*p.a1+(m2:Int)*p.a2=((m0*d0+m1*d1+m2*d2:Nat):Int)+b*((m0+m1+m2:Nat):Int):=by
  rw [e0,e1,e2];push_cast;grind
 have hA2:(m0:Int)+(m1:Int)+(m2:Int)=((m0+m1+m2:Nat):Int):=by push_cast;rfl
 rw [hS,hA2]
 have hpos:0 < m0+m1+m2:=by omega
 clear hS hA2 h e0 e1 e2 hb n0 n1 n2 hA h0 k0 k1 k2
 generalize m0*d0+m1*d1+m2*d2=N at *
 generalize m0+m1+m2=A at *
 have q1:=Nat.div_add_mod N A
 have q2:=Nat.mod_lt N hpos
 generalize N / A=q at *
 generalize N % A=r at *
 have q3:(N:Int)=(A:Int)*(q:Int)+(r:Int):=by rw [← q1];push_cast;rfl
 have l1:((N:Int)+b*(A:Int)) / (A:Int)=b+(q:Int):=Ahs (r:=(r:Int)) (by omega) (by rw [q3];grind) (by omega) (by omega)
 by_cases hr:0 < r
 ·have l2:(-((N:Int)+b*(A:Int))) / (A:Int) = -(b+(q:Int)+1):=Ahs (r:=(A:Int)-(r:Int)) (by omega) (by rw [q3];grind) (by omega) (by omega)
  rw [l1,l2,if_pos hr,Int.neg_neg]
 ·have l2:(-((N:Int)+b*(A:Int))) / (A:Int) = -(b+(q:Int)):=Ahs (r:=0) (by omega) (by rw [q3,show r=0 by omega];grind) (by omega) (by omega)
  rw [l1,l2,if_neg hr,Int.neg_neg,Int.add_zero]
/-- The height of a vertex. -/
def zV (v:List Ab) (i:Int):Av:=match idx v i with
 | some x=>x.Z
 | none=>⟨0,0⟩
def covT (v:List Ab) (at_:Ac) (t:Aq):Bool:=decide (0≤crs (plV v t.a0) (plV v t.a1) at_∧0≤crs (plV v t.a1) (plV v t.a2) at_∧0≤crs (plV v t.a2) (plV v t.a0) at_)
def Ajv (v:List Ab) (t:Aq):Int:=crs (plV v t.a0) (plV v t.a1) (plV v t.a2)
/-- The sum of the heights of the corners by their weights. -/
def wsum (v:List Ab) (at_:Ac) (t:Aq) (f:Av→Int):Int :=
 crs (plV v t.a1) (plV v t.a2) at_*f (zV v t.a0)+crs (plV v t.a2) (plV v t.a0) at_*f (zV v t.a1)+crs (plV v t.a0) (plV v t.a1) at_*f (zV v t.a2)
def bndT (v:List Ab) (at_:Ac) (t:Aq):Av:=⟨wsum v at_ t (·.Lo) / Ajv v t,-((-(wsum v at_ t (·.Hi))) / Ajv v t)⟩
/-- The first triangle in which a place lies. -/
def locT (v:List Ab) (T:List Aq) (at_:Ac):Option Nat:=T.findIdx? (covT v at_)
/-- A loop that stops at the first place where a test holds. -/
theorem Aot {α:Type} (l:List α) (p:α→Bool) (B:Int→Option (Sum Int (Sum Unit Int)))
  (h1:∀ (j:Nat) (h:j < l.length),B j=if p l[j]=true then some (.inr (.inr (j:Int))) else some (.inl ((j+1:Nat):Int))) (h2:B l.length=some (.inr (.inl ()))) :
  lfix B 0=some (match l.findIdx? p with | some i=>.inr (i:Int) | none=>.inl ()):=by
 have key:∀ (m k:Nat),k≤l.length→l.length-k=m→(∀ j (hj:j < l.length),j < k→p l[j]=false)→lfix B k=some (match l.findIdx? p with | some i=>.inr (i:Int) | none=>.inl ()):=by
  intro m
  induction m with
  | zero =>
   intro k hk hm hf
   obtain rfl:k=l.length:=by omega
   rw [Ci,h2]
   have:l.findIdx? p=none:=by
    rw [List.findIdx?_eq_none_iff]
    intro x hx
    obtain ⟨j,hj,rfl⟩:=List.getElem_of_mem hx
    exact hf j hj hj
   rw [this]
  | succ m ih =>
   intro k hk hm hf
   have hlt:k < l.length:=by omega
   rw [Ci,h1 k hlt]
   by_cases hp:p l[k]=true
   ·rw [if_pos hp]
    have:l.findIdx? p=some k:=by
     rw [List.findIdx?_eq_some_iff_getElem]
     exact ⟨hlt,hp,fun j hj=>by rw [hf j (by omega) hj];simp⟩
    rw [this]
   ·rw [if_neg hp]
    refine ih (k+1) (by omega) (by omega) fun j hj hjk=>?_
    by_cases e:j=k
    ·subst e;exact Bool.eq_false_iff.2 hp
    ·exact hf j hj (by omega)
 exact key l.length 0 (Nat.zero_le _) rfl (fun j _ h=>absurd h (by omega))
/-- A mesh whose vertices are valid and whose triangles turn to the left. -/
structure Msh (m:Bu):Prop where
 n:m.V.length≤1024
 ok:∀ x∈m.V,Oy x
 len:m.T.length≤1152921504606846976
 t:∀ t∈m.T,inN m.V.length t.a0∧inN m.V.length t.a1∧inN m.V.length t.a2∧0 < Ajv m.V t
theorem Vq {n:Nat} {i:Int} (h:inN n i):∃ k:Nat,i=(k:Int)∧k < n:=⟨i.toNat,by unfold inN at h;omega,by unfold inN at h;omega⟩
theorem Ana {v:List Ab} {k:Nat} (hk:k < v.length):zV v (k:Int)=v[k].Z:=by unfold zV;rw [Cf hk]
theorem Vr {v:List Ab} (h:∀ x∈v,Oy x) {i:Int} (hi:inN v.length i):okP (plV v i)∧-268435456≤(zV v i).Lo∧(zV v i).Lo≤(zV v i).Hi∧(zV v i).Hi≤268435456:=by
 obtain ⟨k,rfl,hk⟩:=Vq hi
 rw [Xo hk,Ana hk]
 exact h _ (List.getElem_mem hk)
theorem Rw {a b c:Ac} (ha:okP a) (hb:okP b) (hc:okP c):Ez a b c=some (crs a b c):=by
 have h0:=Mi ha hb hc
 unfold okP at ha hb hc
 have h1:=mulB (x:=b.X-a.X) (y:=c.Y-a.Y) (M:=536870912) (N:=536870912) (by omega) (by omega) (by omega) (by omega) (by omega)
 have h2:=mulB (x:=b.Y-a.Y) (y:=c.X-a.X) (M:=536870912) (N:=536870912) (by omega) (by omega) (by omega) (by omega) (by omega)
 unfold Ez
 unfold crs at h0 ⊢
 rw [Bs (x:=b.X-a.X) (by omega) (by omega),Bs (x:=c.Y-a.Y) (by omega) (by omega),Bs (x:=b.Y-a.Y) (by omega) (by omega),Bs (x:=c.X-a.X) (by omega) (by omega),
  Bs (x:=(b.X-a.X)*(c.Y-a.Y)) (by omega) (by omega),Bs (x:=(b.Y-a.Y)*(c.X-a.X)) (by omega) (by omega),Bs (by omega) (by omega)]
theorem Ab2 {a b:Ac} (ha:okP a) (hb:okP b):Fa a b=some ((a.X-b.X)*(a.X-b.X)+(a.Y-b.Y)*(a.Y-b.Y))∧0≤(a.X-b.X)*(a.X-b.X)+(a.Y-b.Y)*(a.Y-b.Y)∧(a.X-b.X)*(a.X-b.X)+(a.Y-b.Y)*(a.Y-b.Y)≤576460752303423488:=by
 unfold okP at ha hb
 obtain ⟨a1,a2,a3,a4⟩:=sq_w (a:=a.X) (b:=b.X) (by omega) (by omega)
 obtain ⟨b1,b2,b3,b4⟩:=sq_w (a:=a.Y) (b:=b.Y) (by omega) (by omega)
 refine ⟨?_,by omega,by omega⟩
 unfold Fa
 rw [a1,b1,a2,b2,Bs (by omega) (by omega)]
theorem Atz (a b c p:Ac):crs b c p+crs c a p+crs a b p=crs a b c:=by unfold crs;grind
section
variable {m:Bu} (h:Msh m)
include h
theorem Zy {i:Nat} (hi:i < m.T.length):Gc m (i:Int)=some ⟨plV m.V m.T[i].a0,plV m.V m.T[i].a1,plV m.V m.T[i].a2⟩:=by
 obtain ⟨h0,h1,h2,_⟩:=h.t _ (List.getElem_mem hi)
 obtain ⟨a,ea,ha⟩:=Vq h0
 obtain ⟨b,eb,hb⟩:=Vq h1
 obtain ⟨c,ec,hc⟩:=Vq h2
 unfold Gc Lz
 rw [Cf hi,Ah,ea,eb,ec,Cf ha,Ah,Ah,Cf hb,Ah,Ah,Cf hc,Ah,Ah,Xo ha,Xo hb,Xo hc]
 rfl
theorem Aou {p:Ac} (hp:okP p):Je m p=some (match locT m.V m.T p with | some i=>(i:Int) | none=>-1):=by
 unfold Je
 have hl:=h.len
 rw [jn_d,Aot m.T (covT m.V p) (Kb m p) (fun j hj=>?_) ?_,Ah]
 ·unfold locT
  cases m.T.findIdx? (covT m.V p) <;> rfl
 ·unfold Kb
  rw [if_neg (by omega)]
 ·obtain ⟨h0,h1,h2,_⟩:=h.t _ (List.getElem_mem hj)
  have q0:=(Vr h.ok h0).1
  have q1:=(Vr h.ok h1).1
  have q2:=(Vr h.ok h2).1
  unfold Kb
  rw [if_pos (by omega),Zy h hj,Ah,jn_d,Cq (by omega)]
  dsimp only
  rw [Rw q0 q1 hp,Ah]
  unfold covT
  by_cases c1:0≤crs (plV m.V m.T[j].a0) (plV m.V m.T[j].a1) p
  ·rw [if_pos c1,Rw q1 q2 hp,Ah]
   by_cases c2:0≤crs (plV m.V m.T[j].a1) (plV m.V m.T[j].a2) p
   ·rw [if_pos c2,Rw q2 q0 hp,Ah]
    by_cases c3:0≤crs (plV m.V m.T[j].a2) (plV m.V m.T[j].a0) p
    ·simp [c1,c2,c3]
    ·simp [c1,c2,c3]
   ·rw [if_neg c2,if_neg (by simp),if_neg (by simp [c2])]
  ·rw [if_neg c1,if_neg (by simp),if_neg (by simp [c1])]
theorem Aov {p:Ac} (hp:okP p) {i:Nat} (hi:i < m.T.length) (hc:covT m.V p m.T[i]=true):Jf m (i:Int) p=some (bndT m.V p m.T[i]):=by
 obtain ⟨h0,h1,h2,hpos⟩:=h.t _ (List.getElem_mem hi)
 obtain ⟨q0,z0⟩:=Vr h.ok h0
 obtain ⟨q1,z1⟩:=Vr h.ok h1
 obtain ⟨q2,z2⟩:=Vr h.ok h2
 have hs:=Atz (plV m.V m.T[i].a0) (plV m.V m.T[i].a1) (plV m.V m.T[i].a2) p
 have hb:=Mi q0 q1 q2
 unfold Ajv at hpos
 unfold covT at hc
 rw [decide_eq_true_eq] at hc
 obtain ⟨a,ea,ha⟩:=Vq h0
 obtain ⟨b,eb,hb'⟩:=Vq h1
 obtain ⟨c,ec,hc'⟩:=Vq h2
 unfold Jf
 rw [Zy h hi,Ah,jn_d]
 dsimp only
 rw [Rw q1 q2 hp,Ah,Rw q2 q0 hp,Ah,Rw q0 q1 hp,Ah,Cf hi,Ah,jn_d,ea,Cf ha,Ah,Ah]
 dsimp only
 rw [jn_d,eb,Cf hb',Ah,Ah]
 dsimp only
 rw [jn_d,ec,Cf hc',Ah,Ah]
 dsimp only
 rw [← ea,← eb,← ec]
 have ga:zV m.V m.T[i].a0=m.V[a].Z:=by rw [ea,Ana ha]
 have gb:zV m.V m.T[i].a1=m.V[b].Z:=by rw [eb,Ana hb']
 have gc:zV m.V m.T[i].a2=m.V[c].Z:=by rw [ec,Ana hc']
 rw [ga] at z0
 rw [gb] at z1
 rw [gc] at z2
 rw [Am9 (by omega) (by omega) (by omega) (by omega) (by omega) (by dsimp only;omega) (by dsimp only;omega) (by dsimp only;omega),Ah,
  Am9 (by omega) (by omega) (by omega) (by omega) (by omega) (by dsimp only;omega) (by dsimp only;omega) (by dsimp only;omega),Ah]
 unfold bndT wsum Ajv
 rw [ga,gb,gc,hs]
end
end Go.Proofs.YtebkcipolijfmaaGreat
