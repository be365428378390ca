/- Plain laws on the reference's numbers: quotients and remainders, greatest common divisors. -/
import Derived.Test.YtjfndjmabhbicaaGreatI0
import Derived.Test.YtjfndjmabhbicaaGreatZ1
import Derived.Test.YtjfndjmabhbicaaGreatX5
namespace Go.Proofs.YtjfndjmabhbicaaGreat
open Go Go.RowKit
theorem Ba7 (a b:Nat):Int.tdiv (a:Int) (b:Int)=((a / b:Nat):Int):=(Int.ofNat_tdiv a b).symm
theorem Ba8 (a b:Nat):Int.tmod (a:Int) (b:Int)=((a % b:Nat):Int):=(Int.ofNat_tmod a b).symm
theorem Ag3 {b:Nat} (l:List Nat) (k:Nat) (h:k < l.length):val b (l.drop k)=l[k] + b*val b (l.drop (k+1)):=by
 rw[List.drop_eq_getElem_cons h];rfl
theorem Asz {B x H V:Nat} (hV:0 < V):(x+B*H) / V=(H % V*B+x) / V+B*(H / V)/\(x+B*H) % V=(H % V*B+x) % V:=by
 have e:x+B*H=(H % V*B+x)+V*(B*(H / V)):=by
  have:=Nat.div_add_mod H V
  calc x+B*H=x+B*(V*(H / V)+H % V):=by rw[this]
   _=_:=by rw[Nat.mul_add,<- Nat.mul_assoc,Nat.mul_comm B V,Nat.mul_assoc,Nat.mul_comm B (H % V)];omega
 rw[e]
 exact ⟨by rw[Nat.add_mul_div_left _ _ hV],by rw[Nat.add_mul_mod_self_left]⟩
theorem Avp {B x r V:Nat} (hx:x < B) (hr:r < V):r*B+x < V*B:=by
 have:(r+1)*B<=V*B:=Nat.mul_le_mul_right _ hr
 rw[Nat.succ_mul] at this;omega
theorem Avq {r x:Nat} (hr:r < 65536) (hx:x < 65536):w64 (w64 ((r:Int)*65536)+(x:Int))=((r*65536+x:Nat):Int):=by
 rw[show ((r:Nat):Int)*65536=((r*65536:Nat):Int) by omega,Pw (by omega),<- Int.natCast_add,Pw (by omega)]
theorem Avr (l:List Nat) (d:Nat) (hl:∀ x∈l,x < 65536) (hd:0 < d) (hd2:d<=65536) (h1:l.length<=1000000) :
  Hf (nI l) (d:Int)=some (L16 (val 65536 l / d),((val 65536 l % d:Nat):Int)):=by
 obtain ⟨t,ht,o,rfl,ho1,ho3,ho2⟩:=Bl (B:=Lu (nI l) (d:Int)) (fun s=>(s.2.2+1).toNat)
  (fun s=>∃ (o:List Nat) (k:Nat),s=(nI o,((val 65536 (l.drop k) % d:Nat):Int),(k:Int)-1)/\o.length=l.length/\k<=l.length/\(∀ x∈o,x < 65536)/\val 65536 (o.drop k)=val 65536 (l.drop k) / d)
  (fun t=>∃ o:List Nat,t=(nI o,((val 65536 l % d:Nat):Int))/\(∀ x∈o,x < 65536)/\o.length<=1000000/\val 65536 o=val 65536 l / d) (by
   rintro s ⟨o,k,rfl,hC1,hC2,hC3,hC4⟩
   unfold Lu
   by_cases hk:k=0
   ·right
    subst hk
    exact ⟨_,by simp only[];rw[if_neg (by omega)],o,by rw[List.drop_zero],hC3,by omega,by simpa using hC4⟩
   ·left
    have h1':k-1 < l.length:=by omega
    have h2':k-1 < o.length:=by omega
    have hx:=hl _ (List.getElem_mem h1')
    have hr:val 65536 (l.drop k) % d < d:=Nat.mod_lt _ hd
    have e:val 65536 (l.drop (k-1))=l[k-1] + 65536*val 65536 (l.drop k):=by rw[Ag3 l (k-1) h1',show k-1+1=k by omega]
    obtain ⟨e1,e2⟩:=Asz (B:=65536) (x:=l[k-1]) (H:=val 65536 (l.drop k)) hd
    have hlt:=Avp hx hr
    have hq:(val 65536 (l.drop k) % d*65536+l[k-1]) / d < 65536:=Nat.div_lt_of_lt_mul (by omega)
    refine ⟨(nI (o.set (k-1) ((val 65536 (l.drop k) % d*65536+l[k-1]) / d)),((val 65536 (l.drop (k-1)) % d:Nat):Int),((k-1:Nat):Int)-1),?_,⟨_,k-1,rfl,by simp[hC1],by omega,?_,?_⟩,by simp;omega⟩
    ·simp only[]
     rw[if_pos (by omega),show ((k:Int)-1)=((k-1:Nat):Int) from by omega,Ey h1',Ad,gd_t (by omega),Ey h2',Ad,gd_t (by omega)]
     have e3:=Avq (r:=val 65536 (l.drop k) % d) (x:=l[k-1]) (Nat.lt_of_lt_of_le hr hd2) hx
     have e4:w64 (((k-1:Nat):Int)-1)=((k-1:Nat):Int)-1:=by
      clear e e1 e2 e3 hlt hq hr hx hC4 hC3
      exact Ay (by omega) (by omega)
     rw[e3,Ba7,Ba8,Pw (Nat.le_trans (Nat.le_of_lt hq) (by decide)),Sg,e,e2,e4]
    ·intro x hx'
     rcases List.mem_or_eq_of_mem_set hx' with h | rfl
     ·exact hC3 x h
     ·exact hq
    ·rw[Ag3 _ _ (by simpa using h2'),List.getElem_set_self,show k-1+1=k by omega,List.drop_set_of_lt (by omega),hC4,e,e1])
  (nI (List.replicate l.length 0),0,(l.length:Int)-1) ⟨List.replicate l.length 0,l.length,by simp[val],by simp,Nat.le_refl _,by simp,by simp[val]⟩
 unfold Hf
 simp only[jn_d,Cc,Int.toNat_natCast,Ur]
 rw[gd_t ⟨by omega,by omega⟩,Ay (by omega) (by omega),ht,Ad]
 simp only[]
 rw[Aa4 _ (by omega),Ad,Sb (by omega) o ho1,ho2];rfl
theorem Ba9 (a b:Nat):Int.tdiv (a:Int) (b:Int)=((a / b:Nat):Int):=(Int.ofNat_tdiv a b).symm
theorem Bba (a b:Nat):Int.tmod (a:Int) (b:Int)=((a % b:Nat):Int):=(Int.ofNat_tmod a b).symm
theorem Ag4 {b:Nat} (l:List Nat) (k:Nat) (h:k < l.length):val b (l.drop k)=l[k] + b*val b (l.drop (k+1)):=by
 rw[List.drop_eq_getElem_cons h];rfl
theorem Apz {B x H V:Nat} (hV:0 < V):(x+B*H) / V=(H % V*B+x) / V+B*(H / V)/\(x+B*H) % V=(H % V*B+x) % V:=by
 have e:x+B*H=(H % V*B+x)+V*(B*(H / V)):=by
  have:=Nat.div_add_mod H V
  calc x+B*H=x+B*(V*(H / V)+H % V):=by rw[this]
   _=_:=by rw[Nat.mul_add,<- Nat.mul_assoc,Nat.mul_comm B V,Nat.mul_assoc,Nat.mul_comm B (H % V)];omega
 rw[e]
 exact ⟨by rw[Nat.add_mul_div_left _ _ hV],by rw[Nat.add_mul_mod_self_left]⟩
theorem As0 {B x r V:Nat} (hx:x < B) (hr:r < V):r*B+x < V*B:=by
 have:(r+1)*B<=V*B:=Nat.mul_le_mul_right _ hr
 rw[Nat.succ_mul] at this;omega
theorem Bbb {r x:Nat} (hr:r < 4294967296) (hx:x < 4294967296):Aad .u64 (shl_ .u64 (r:Int) 32) (wu64 (x:Int))=((r*4294967296+x:Nat):Int):=by
 have e1:shl_ .u64 (r:Int) 32=((r*4294967296:Nat):Int):=by
  show IntKind.wrap .u64 ((r:Int)*2 ^ (min (32:Int).toNat 64))=_
  rw[show (2:Int) ^ (min (32:Int).toNat 64)=4294967296 from by decide,IntKind.wrap_u64]
  omega
 rw[e1,Pg (by omega)]
 unfold Aad
 have e:(BitVec.ofInt IntKind.u64.bits ((r*4294967296:Nat):Int) ||| BitVec.ofInt IntKind.u64.bits (x:Int)).toNat=r*4294967296+x:=by
  show (BitVec.ofInt 64 ((r*4294967296:Nat):Int) ||| BitVec.ofInt 64 (x:Int)).toNat=_
  rw[BitVec.toNat_or]
  have k:∀ n:Nat,n < 18446744073709551616->(BitVec.ofInt 64 (n:Int)).toNat=n:=fun n hn=>by
   simp[BitVec.toNat_ofInt];omega
  rw[k _ (by omega),k _ (by omega),show r*4294967296=2 ^ 32*r by omega,<- Nat.two_pow_add_eq_or_of_lt (by omega)]
 rw[e]
 exact Pg (by omega)
theorem Ayr (l:List Nat) (d:Nat) (hl:∀ x∈l,x < 4294967296) (hd:0 < d) (hd2:d < 4294967296) (h1:l.length<=1000000) :
  Mb (nI l) (d:Int)=some (L32 (val 4294967296 l / d),((val 4294967296 l % d:Nat):Int)):=by
 have hwd:wu64 (d:Int)=(d:Int):=Pg (by omega)
 obtain ⟨t,ht,o,rfl,ho1,ho3,ho2⟩:=Bl (B:=Ob (nI l) (d:Int)) (fun s=>(s.2.2+1).toNat)
  (fun s=>∃ (o:List Nat) (k:Nat),s=(nI o,((val 4294967296 (l.drop k) % d:Nat):Int),(k:Int)-1)/\o.length=l.length/\k<=l.length/\(∀ x∈o,x < 4294967296)/\val 4294967296 (o.drop k)=val 4294967296 (l.drop k) / d)
  (fun t=>∃ o:List Nat,t=(nI o,((val 4294967296 l % d:Nat):Int))/\(∀ x∈o,x < 4294967296)/\o.length<=1000000/\val 4294967296 o=val 4294967296 l / d) (by
   rintro s ⟨o,k,rfl,hC1,hC2,hC3,hC4⟩
   unfold Ob
   by_cases hk:k=0
   ·right
    subst hk
    exact ⟨_,by simp only[];rw[if_neg (by omega)],o,by rw[List.drop_zero],hC3,by omega,by simpa using hC4⟩
   ·left
    have h1':k-1 < l.length:=by omega
    have h2':k-1 < o.length:=by omega
    have hx:=hl _ (List.getElem_mem h1')
    have hr:val 4294967296 (l.drop k) % d < d:=Nat.mod_lt _ hd
    have e:val 4294967296 (l.drop (k-1))=l[k-1] + 4294967296*val 4294967296 (l.drop k):=by rw[Ag4 l (k-1) h1',show k-1+1=k by omega]
    obtain ⟨e1,e2⟩:=Apz (B:=4294967296) (x:=l[k-1]) (H:=val 4294967296 (l.drop k)) hd
    have hlt:=As0 hx hr
    have hq:(val 4294967296 (l.drop k) % d*4294967296+l[k-1]) / d < 4294967296:=Nat.div_lt_of_lt_mul (by omega)
    refine ⟨(nI (o.set (k-1) ((val 4294967296 (l.drop k) % d*4294967296+l[k-1]) / d)),((val 4294967296 (l.drop (k-1)) % d:Nat):Int),((k-1:Nat):Int)-1),?_,⟨_,k-1,rfl,by simp[hC1],by omega,?_,?_⟩,by simp;omega⟩
    ·simp only[]
     rw[if_pos (by omega),show ((k:Int)-1)=((k-1:Nat):Int) from by omega,Ey h1',Ad,hwd,gd_t (by omega),Ey h2',Ad,gd_t (by omega)]
     have e3:=Bbb (r:=val 4294967296 (l.drop k) % d) (x:=l[k-1]) (Nat.lt_trans hr hd2) hx
     have e4:w64 (((k-1:Nat):Int)-1)=((k-1:Nat):Int)-1:=by
      clear e e1 e2 e3 hlt hq hr hx hC4 hC3
      exact Ay (by omega) (by omega)
     rw[e3,Ba9,Bba,Pg (Nat.lt_trans hq (by decide)),Ad4 hq,Sg,e,e2,e4]
    ·intro x hx'
     rcases List.mem_or_eq_of_mem_set hx' with h | rfl
     ·exact hC3 x h
     ·exact hq
    ·rw[Ag4 _ _ (by simpa using h2'),List.getElem_set_self,show k-1+1=k by omega,List.drop_set_of_lt (by omega),hC4,e,e1])
  (nI (List.replicate l.length 0),0,(l.length:Int)-1) ⟨List.replicate l.length 0,l.length,by simp[val],by simp,Nat.le_refl _,by simp,by simp[val]⟩
 unfold Mb
 simp only[jn_d,Cc,Int.toNat_natCast,Ur]
 rw[gd_t ⟨by omega,by omega⟩,Ay (by omega) (by omega),ht,Ad]
 simp only[]
 rw[Vs _ (by omega),Ad,Sb (by omega) o ho1,ho2,Ad4 (Nat.lt_trans (Nat.mod_lt _ hd) hd2)];rfl
theorem Ays {a d:Nat} (h:(dig 4294967296 a).length<=1000000) (hd:0 < d) (hd2:d < 4294967296):Mb (L32 a) (d:Int)=some (L32 (a / d),((a % d:Nat):Int)):=by
 have:=Ayr _ d (W_lt (a:=a)) hd hd2 h
 rwa [Ee (by omega)] at this
theorem Wb {d:Nat} (hd:0 < d) (hd2:d < 4294967296):L32 d=[(d:Int)]:=by unfold L32;rw[Lt (by omega) (by omega),Nat.div_eq_of_lt hd2,Nj,Nat.mod_eq_of_lt hd2];rfl
theorem As1 {a d:Nat} (h:(dig 4294967296 a).length<=1000000) (hd:0 < d) (hd2:d < 4294967296):Jc (L32 a) (L32 d)=some (L32 (a / d),L32 (a % d)):=by
 unfold Jc
 rw[Alb a d h,Ad]
 by_cases c:a < d
 ·rw[if_pos (by unfold cmpN;rw[if_pos c];omega),Nat.div_eq_of_lt c,Nat.mod_eq_of_lt c]
  rfl
 ·rw[if_neg (by unfold cmpN;split <;> (try split) <;> omega),Wb hd hd2,if_pos (by simp),show idx [(d:Int)] 0=some (d:Int) from rfl,Ad,Ays h hd hd2,Ad]
  have hm:=Nat.mod_lt a hd
  rw[Pg (by omega),Ahn (by omega),Ad]
theorem Bbc {b:Nat}:∀ {a:Nat},(dig 4294967296 a).length<=1000000->b < 4294967296->lfix Mc (L32 a,L32 b)=some (L32 (Nat.gcd a b)):=by
 induction b using Nat.strongRecOn with
 | _ b ih=>
  intro a ha hb
  rw[Bk]
  unfold Mc
  dsimp only
  by_cases h0:b=0
  ·subst h0
   rw[if_neg (by have:=(Yh (a:=0)).2 rfl;omega),Nat.gcd_zero_right]
  ·have hne:(L32 b).length≠0:=fun e=>h0 (Yh.1 e)
   rw[if_pos (by omega),As1 ha (by omega) hb,Ad]
   dsimp only
   have hm:=Nat.mod_lt a (Nat.pos_of_ne_zero h0)
   have hl:(dig 4294967296 b).length<=1000000:=by
    have:=congrArg List.length (Wb (Nat.pos_of_ne_zero h0) hb)
    unfold L32 at this
    rw[Cc] at this
    simp at this
    omega
   have:=ih _ hm hl (by omega)
   unfold Mc at this
   rw[this,Nat.gcd_comm b,<- Nat.gcd_rec,Nat.gcd_comm]
theorem Bbd {a b:Nat} (ha:(dig 4294967296 a).length<=1000000) (hb:b < 4294967296):Nr (L32 a) (L32 b)=some (L32 (Nat.gcd a b)):=by
 unfold Nr
 rw[jn_d,Bbc ha hb,Ad]
structure Xv (n:Av) (z:Int):Prop where
 num:n.n=L32 z.natAbs
 den:n.d=[1]
 neg:z≠0->n.neg=decide (z < 0)
theorem Xv.eq {n:Av} {z:Int} (h:Xv n z):n=⟨n.neg,L32 z.natAbs,[1]⟩:=by
 obtain ⟨s,a,d⟩:=n
 obtain ⟨h1,h2,h3⟩:=h
 simp only at h1 h2
 subst h1;subst h2;rfl
theorem Al8 (x:Int):wu64 x=x % 18446744073709551616:=by
 unfold wu64
 rw[IntKind.wrap_u64]
theorem Al9 {z:Int} (h1:-9223372036854775808<=z) (h2:z<=9223372036854775807):∃ n,Ji z=some n/\Xv n z:=by
 unfold Ji
 by_cases h:z < 0
 ·rw[if_pos h]
  have e:wu64 ((wu64 (w64 (-(w64 (z+1)))))+1)=((z.natAbs:Nat):Int):=by
   rw[Ay (x:=z+1) (by omega) (by omega),Ay (by omega) (by omega),Al8,Al8]
   omega
  rw[e,Ahn (by omega)]
  exact ⟨_,rfl,rfl,rfl,fun _=>by simp[h]⟩
 ·rw[if_neg h]
  have e:wu64 z=((z.natAbs:Nat):Int):=by rw[Al8];omega
  rw[e,Ahn (by omega)]
  exact ⟨_,rfl,rfl,rfl,fun _=>by simp[h]⟩
theorem Ayt {a b:Av} {x y:Int} (ha:Xv a x) (hb:Xv b y) (h:(dig 4294967296 x.natAbs).length+(dig 4294967296 y.natAbs).length<=1000000):∃ n,Dv a b=some n/\Xv n (x*y):=by
 unfold Dv
 rw[ha.num,hb.num,ha.den,hb.den,Aby h,Ad,Am5,Ad]
 refine ⟨_,rfl,by simp[Int.natAbs_mul],rfl,fun h0=>?_⟩
 have hx:x≠0:=fun e=>h0 (by rw[e,Int.zero_mul])
 have hy:y≠0:=fun e=>h0 (by rw[e,Int.mul_zero])
 simp only
 rw[ha.neg hx,hb.neg hy]
 rcases Int.lt_or_gt_of_ne hx with h1 | h1 <;> rcases Int.lt_or_gt_of_ne hy with h2 | h2
 ·have:=Int.mul_pos_of_neg_of_neg h1 h2
  simp[h1,h2];omega
 ·have:=Int.mul_neg_of_neg_of_pos h1 h2
  rw[decide_eq_true h1,decide_eq_false (by omega),decide_eq_true this];rfl
 ·have:=Int.mul_neg_of_pos_of_neg h1 h2
  rw[decide_eq_false (by omega),decide_eq_true h2,decide_eq_true this];rfl
 ·have:=Int.mul_pos h1 h2
  rw[decide_eq_false (by omega),decide_eq_false (by omega),decide_eq_false (by omega)];rfl
theorem As2 {a b:Av} {x y:Int} (ha:Xv a x) (hb:Xv b y) (hx:(dig 4294967296 x.natAbs).length<=1000) (hy:(dig 4294967296 y.natAbs).length<=1000):∃ n,Fv a b=some n/\Xv n (x+y):=by
 have e1:=ha.neg
 have e2:=hb.neg
 unfold Fv
 rw[ha.num,hb.num,ha.den,hb.den,Alc _ hx,Ad,Alc _ hy,Ad,Am5,Ad]
 generalize a.neg=s at *
 generalize b.neg=t at *
 have f1:x≠0->(s=true↔x < 0):=fun h=>by rw[e1 h];simp
 have f2:y≠0->(t=true↔y < 0):=fun h=>by rw[e2 h];simp
 clear e1 e2
 by_cases hs:s=t
 ·subst hs
  rw[if_pos (by simp),Arj (by omega) (by omega),Ad]
  have:x.natAbs+y.natAbs=(x+y).natAbs:=by
   cases s <;> simp at f1 f2 <;> omega
  rw[this]
  refine ⟨_,rfl,rfl,rfl,fun h0=>?_⟩
  simp only
  cases s <;> simp at f1 f2 ⊢ <;> omega
 ·rw[if_neg (by simpa using hs),Alb _ _ (by omega),Ad]
  by_cases hc:y.natAbs<=x.natAbs
  ·rw[if_pos (by unfold cmpN;split <;> (try split) <;> omega),Ahm (by omega) hc,Ad]
   have:x.natAbs-y.natAbs=(x+y).natAbs:=by
    cases s <;> cases t <;> simp at f1 f2 hs <;> omega
   rw[this]
   refine ⟨_,rfl,rfl,rfl,fun h0=>?_⟩
   simp only
   cases s <;> cases t <;> simp at f1 f2 hs ⊢ <;> omega
  ·rw[if_neg (by unfold cmpN;split <;> (try split) <;> omega),Ahm (by omega) (by omega),Ad]
   have:y.natAbs-x.natAbs=(x+y).natAbs:=by
    cases s <;> cases t <;> simp at f1 f2 hs <;> omega
   rw[this]
   refine ⟨_,rfl,rfl,rfl,fun h0=>?_⟩
   simp only
   cases s <;> cases t <;> simp at f1 f2 hs ⊢ <;> omega
theorem Avs {n:Av} {z:Int} (h:Xv n z):Lw n=some (Int.sign z):=by
 rw[h.eq]
 exact Axy h.neg
theorem mulB {x y M N:Int} (hM:0<=M) (hx1:-M<=x) (hx2:x<=M) (hy1:-N<=y) (hy2:y<=N):-(M*N)<=x*y/\x*y<=M*N:=by
 have h:(x*y).natAbs<=M.natAbs*N.natAbs:=by
  rw[Int.natAbs_mul]
  exact Nat.mul_le_mul (by omega) (by omega)
 rw[<- Int.natAbs_mul] at h
 have:0<=M*N:=Int.mul_nonneg hM (by omega)
 omega
def okP (p:Ac):Prop:=-268435456<=p.X/\p.X<=268435456/\-268435456<=p.Y/\p.Y<=268435456
instance (p:Ac):Decidable (okP p):=by unfold okP;infer_instance
def crs (a b c:Ac):Int:=(b.X-a.X)*(c.Y-a.Y)-(b.Y-a.Y)*(c.X-a.X)
def lft (p d:Ac):Int:=(p.X-d.X)*(p.X-d.X)+(p.Y-d.Y)*(p.Y-d.Y)
def inC (a b c d:Ac):Int:=lft a d*crs d b c+lft b d*crs d c a+lft c d*crs d a b
theorem Ag5 (l:List Ac) (hl:l.length<=1000000):Pd l=some (l.all fun p=>decide (okP p)):=by
 unfold Pd
 rw[jn_d]
 have step:∀ i (hi:i < l.length),Kq l (i:Int)=if okP l[i] then some (.inl (((i+1:Nat):Int))) else some (.inr (.inr false)):=by
  intro i hi
  unfold Kq
  rw[if_pos (by omega),Bb hi,Ad,jn_d,Be (by omega)]
  by_cases h1:l[i].X < -268435456
  ·rw[if_pos h1,if_neg (show ¬ okP l[i] by unfold okP;omega)];rfl
  ·rw[if_neg h1]
   by_cases h2:268435456 < l[i].X
   ·rw[if_pos h2,if_neg (show ¬ okP l[i] by unfold okP;omega)];rfl
   ·rw[if_neg h2]
    by_cases h3:l[i].Y < -268435456
    ·rw[if_pos h3,if_neg (show ¬ okP l[i] by unfold okP;omega)];rfl
    ·rw[if_neg h3]
     by_cases h4:268435456 < l[i].Y
     ·rw[decide_eq_true h4,if_neg (show ¬ okP l[i] by unfold okP;omega)];rfl
     ·rw[decide_eq_false h4,if_pos (show okP l[i] by unfold okP;omega)];rfl
 have key:∀ k i,k+i=l.length->lfix (Kq l) (i:Int)=some (if (l.drop i).all (fun p=>decide (okP p)) then .inl () else .inr false):=by
  intro k
  induction k with
  | zero=>
   intro i hi
   rw[Bk]
   unfold Kq
   rw[if_neg (by omega),List.drop_eq_nil_of_le (by omega)]
   rfl
  | succ k ih=>
   intro i hi
   have hlt:i < l.length:=by omega
   rw[Bk,step i hlt,List.drop_eq_getElem_cons hlt,List.all_cons]
   by_cases h:okP l[i]
   ·rw[if_pos h]
    simp only[h,decide_true,Bool.true_and]
    exact ih (i+1) (by omega)
   ·rw[if_neg h]
    simp[h]
 have:=key l.length 0 (by omega)
 rw[show ((0:Nat):Int)=0 from rfl] at this
 rw[this,List.drop_zero]
 by_cases h:l.all (fun p=>decide (okP p))=true
 ·rw[h];rfl
 ·rw[Bool.not_eq_true] at h;rw[h];rfl
theorem Mw {a b c:Ac} (ha:okP a) (hb:okP b) (hc:okP c):-576460752303423488<=crs a b c/\crs a b c<=576460752303423488:=by
 unfold okP at ha hb hc
 have h1:=mulB (x:=b.X-a.X) (y:=c.Y-a.Y) (M:=536870912) (N:=536870912) (by omega) (by omega) (by omega) (by omega) (by omega)
 have h2:=mulB (x:=b.Y-a.Y) (y:=c.X-a.X) (M:=536870912) (N:=536870912) (by omega) (by omega) (by omega) (by omega) (by omega)
 unfold crs
 omega
theorem Ot {a b c:Ac} (ha:okP a) (hb:okP b) (hc:okP c):Kw a b c=some (crs a b c):=by
 have h0:=Mw ha hb hc
 unfold okP at ha hb hc
 have h1:=mulB (x:=b.X-a.X) (y:=c.Y-a.Y) (M:=536870912) (N:=536870912) (by omega) (by omega) (by omega) (by omega) (by omega)
 have h2:=mulB (x:=b.Y-a.Y) (y:=c.X-a.X) (M:=536870912) (N:=536870912) (by omega) (by omega) (by omega) (by omega) (by omega)
 unfold Kw
 unfold crs at h0 ⊢
 rw[Ay (x:=b.X-a.X) (by omega) (by omega),Ay (x:=c.Y-a.Y) (by omega) (by omega),Ay (x:=b.Y-a.Y) (by omega) (by omega),Ay (x:=c.X-a.X) (by omega) (by omega),
  Ay (x:=(b.X-a.X)*(c.Y-a.Y)) (by omega) (by omega),Ay (x:=(b.Y-a.Y)*(c.X-a.X)) (by omega) (by omega),Ay (by omega) (by omega)]
theorem Aah {p d:Ac} (hp:okP p) (hd:okP d):0<=lft p d/\lft p d<=576460752303423488:=by
 unfold okP at hp hd
 have h1:=mulB (x:=p.X-d.X) (y:=p.X-d.X) (M:=536870912) (N:=536870912) (by omega) (by omega) (by omega) (by omega) (by omega)
 have h2:=mulB (x:=p.Y-d.Y) (y:=p.Y-d.Y) (M:=536870912) (N:=536870912) (by omega) (by omega) (by omega) (by omega) (by omega)
 have h3:0<=(p.X-d.X)*(p.X-d.X):=by rw[<- Int.natAbs_mul_self];omega
 have h4:0<=(p.Y-d.Y)*(p.Y-d.Y):=by rw[<- Int.natAbs_mul_self];omega
 unfold lft
 omega
theorem Ys {p d:Ac} (hp:okP p) (hd:okP d):Pz p d=some (lft p d):=by
 have h0:=Aah hp hd
 unfold okP at hp hd
 have h1:=mulB (x:=p.X-d.X) (y:=p.X-d.X) (M:=536870912) (N:=536870912) (by omega) (by omega) (by omega) (by omega) (by omega)
 have h2:=mulB (x:=p.Y-d.Y) (y:=p.Y-d.Y) (M:=536870912) (N:=536870912) (by omega) (by omega) (by omega) (by omega) (by omega)
 unfold Pz
 unfold lft at h0 ⊢
 rw[Ay (x:=p.X-d.X) (by omega) (by omega),Ay (x:=p.Y-d.Y) (by omega) (by omega),
  Ay (x:=(p.X-d.X)*(p.X-d.X)) (by omega) (by omega),Ay (x:=(p.Y-d.Y)*(p.Y-d.Y)) (by omega) (by omega),Ay (by omega) (by omega)]
theorem Ake (z:Int):Kr z=some (Int.sign z):=by
 unfold Kr
 by_cases h:z < 0
 ·rw[if_pos h,Int.sign_eq_neg_one_of_neg h]
 ·rw[if_neg h]
  by_cases h2:0 < z
  ·rw[if_pos h2,Int.sign_eq_one_of_pos h2]
  ·rw[if_neg h2,show z=0 by omega];rfl
theorem An6 (a b c:Ac):Rg a b c=some (if okP a/\okP b/\okP c then (Int.sign (crs a b c),0) else (0,11)):=by
 unfold Rg
 rw[Ag5 _ (by simp),Ad]
 by_cases h:okP a/\okP b/\okP c
 ·rw[if_pos (by simp[h]),Ot h.1 h.2.1 h.2.2,Ad,Ake,Ad,if_pos h]
 ·rw[if_neg (by simpa[and_assoc] using h),if_neg h]
theorem Rq {a b c:Ac} (ha:okP a) (hb:okP b) (hc:okP c):Ib a b c=some (Int.sign (crs a b c)):=by
 unfold Ib
 rw[An6,if_pos ⟨ha,hb,hc⟩]
 rfl
theorem dig3 {z:Int} (h1:-9223372036854775808<=z) (h2:z<=9223372036854775807):(dig 4294967296 z.natAbs).length<=2:=Yt (by omega) 2 _ (by
 have:(4294967296:Nat) ^ 2=18446744073709551616:=by decide
 omega)
theorem dig5 {z:Int} (h1:-10000000000000000000000000000000000000<=z) (h2:z<=10000000000000000000000000000000000000):(dig 4294967296 z.natAbs).length<=4:=Yt (by omega) 4 _ (by
 have:(4294967296:Nat) ^ 4=340282366920938463463374607431768211456:=by decide
 omega)
theorem Aim {u v:Int} (hu1:-576460752303423488<=u) (hu2:u<=576460752303423488) (hv1:-576460752303423488<=v) (hv2:v<=576460752303423488) :
  ∃ n m k,Ji u=some n/\Ji v=some m/\Dv n m=some k/\Xv k (u*v)/\-332306998946228968225951765070086144<=u*v/\u*v<=332306998946228968225951765070086144:=by
 obtain ⟨n,h1,h2⟩:=Al9 (z:=u) (by omega) (by omega)
 obtain ⟨m,h3,h4⟩:=Al9 (z:=v) (by omega) (by omega)
 have d1:=dig3 (z:=u) (by omega) (by omega)
 have d2:=dig3 (z:=v) (by omega) (by omega)
 obtain ⟨k,h5,h6⟩:=Ayt h2 h4 (by omega)
 have:=mulB (x:=u) (y:=v) (M:=576460752303423488) (N:=576460752303423488) (by omega) (by omega) (by omega) (by omega) (by omega)
 exact ⟨n,m,k,h1,h3,h5,h6,by omega,by omega⟩
theorem Ap0 (a b c d:Ac):Qm a b c d=some (if okP a/\okP b/\okP c/\okP d then if crs a b c=0 then (0,12) else (Int.sign (crs a b c)*Int.sign (inC a b c d),0) else (0,11)):=by
 unfold Qm
 rw[Ag5 _ (by simp),Ad]
 by_cases h:okP a/\okP b/\okP c/\okP d
 ·obtain ⟨ha,hb,hc,hd⟩:=h
  rw[if_pos (by simp[ha,hb,hc,hd]),if_pos ⟨ha,hb,hc,hd⟩,Ot ha hb hc,Ad,Ake,Ad]
  by_cases h0:crs a b c=0
  ·rw[if_pos (by rw[h0];rfl),if_pos h0]
  ·rw[if_neg (by rwa [Int.sign_eq_zero_iff_zero]),if_neg h0]
   try rw[jn_d]
   have l1:=Aah ha hd
   have l2:=Aah hb hd
   have l3:=Aah hc hd
   have c1:=Mw hd hb hc
   have c2:=Mw hd hc ha
   have c3:=Mw hd ha hb
   obtain ⟨n1,m1,k1,e1,e2,e3,i1,b1,b2⟩:=Aim (u:=lft a d) (v:=crs d b c) (by omega) (by omega) (by omega) (by omega)
   obtain ⟨n2,m2,k2,e4,e5,e6,i2,b3,b4⟩:=Aim (u:=lft b d) (v:=crs d c a) (by omega) (by omega) (by omega) (by omega)
   obtain ⟨n3,m3,k3,e7,e8,e9,i3,b5,b6⟩:=Aim (u:=lft c d) (v:=crs d a b) (by omega) (by omega) (by omega) (by omega)
   have q1:=dig5 (z:=lft a d*crs d b c) (by omega) (by omega)
   have q2:=dig5 (z:=lft b d*crs d c a) (by omega) (by omega)
   have q3:=dig5 (z:=lft c d*crs d a b) (by omega) (by omega)
   have q4:=dig5 (z:=lft a d*crs d b c+lft b d*crs d c a) (by omega) (by omega)
   obtain ⟨s1,f1,g1⟩:=As2 i1 i2 (by omega) (by omega)
   obtain ⟨s2,f2,g2⟩:=As2 g1 i3 (by omega) (by omega)
   simp only[Ys ha hd,Ys hb hd,Ys hc hd,Ot hd hb hc,Ot hd hc ha,Ot hd ha hb,Ad,e1,e2,e3,e4,e5,e6,e7,e8,e9]
   try rw[show (⟨k1.neg,k1.n,k1.d⟩:Av)=k1 from rfl]
   rw[f1,Ad,f2,Ad,Avs g2,Ad,Ay]
   ·rfl
   ·rcases Int.sign_trichotomy (crs a b c) with h | h | h <;> rcases Int.sign_trichotomy (lft a d*crs d b c+lft b d*crs d c a+lft c d*crs d a b) with h' | h' | h' <;> simp[h,h']
   ·rcases Int.sign_trichotomy (crs a b c) with h | h | h <;> rcases Int.sign_trichotomy (lft a d*crs d b c+lft b d*crs d c a+lft c d*crs d a b) with h' | h' | h' <;> simp[h,h']
 ·rw[if_neg (by simpa[and_assoc] using h),if_neg h]
end Go.Proofs.YtjfndjmabhbicaaGreat
