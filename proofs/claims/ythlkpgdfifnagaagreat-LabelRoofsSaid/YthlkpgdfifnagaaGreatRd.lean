import Derived.Test.YthlkpgdfifnagaaGreatI4
import Derived.Test.YthlkpgdfifnagaaGreatRows
import Derived.ProofKit
import Derived.OpenShut
import Derived.ShutString
import Derived.ChangeOld
import Derived.Below
import Derived.Carry
import Derived.ChangeArms
import Derived.Deep.Slices
namespace Go.Proofs.YthlkpgdfifnagaaGreat
open Go Go.RowKit
theorem Ama(x y:Rat)(hy:y≠0):x / y=mkRat (x.num*y.den*y.num.sign) (x.den*y.num.natAbs):=by
 have hyn:y.num≠0:=fun h=>hy (Rat.num_eq_zero.1 h)
 rw[Rat.div_def,Rat.mul_def',Rat.num_inv,Rat.den_inv,if_neg hyn];congr 1;rw[Int.mul_assoc,Int.mul_comm (y.den:Int)]
theorem Aii(z:Int):z.sign=if z<0 then -1 else if z=0 then 0 else 1:=by
 rcases Int.lt_trichotomy z 0 with h | h | h
 ·rw[if_pos h,Int.sign_eq_neg_one_of_neg h]
 ·subst h;rfl
 ·rw[if_neg oo,if_neg oo,Int.sign_eq_one_of_pos h]
theorem Bfo{x y:Rat}{i j:Nat}(hx:Sml i x)(hy:Sml j y)(h:i+j<=80000)(h0:y≠0):Oc (QR x) (QR y)=some (QR (x / y)):=by
 have hyn:y.num≠0:=fun h=>h0 (Rat.num_eq_zero.1 h)
 have hxd:(0:Int)<(x.den:Int):=by have:=den0 x;omega
 have hyd:(0:Int)<(y.den:Int):=by have:=den0 y;omega
 have a1:=hx.n;have a2:=hx.d;have a3:=hy.n;have a4:=hy.d;have b1:(dig 65536 (x.num*(y.den:Int)).natAbs).length<=i+j:=Fo (by rw[Int.natAbs_mul,Int.natAbs_natCast];exact Ky hx.1 hy.2);have b2:(dig 65536 (y.num*(x.den:Int)).natAbs).length<=j+i:=Fo (by rw[Int.natAbs_mul,Int.natAbs_natCast];exact Ky hy.1 hx.2);unfold Oc;simp only[QR,Ah7,jn_d];rw[Aoe (by rw[Int.natAbs_natCast];omega),Ae,Aoe (by rw[Int.natAbs_natCast];omega),Ae];have e1:x.num*(y.den:Int)<0↔x.num<0:=⟨fun h=>by
   rcases Int.lt_or_le x.num 0 with h' | h'
   ·exact h'
   ·have:=Int.mul_nonneg h' (Int.le_of_lt hyd);omega,fun h=>Int.mul_neg_of_neg_of_pos h hyd⟩
 have e2:y.num*(x.den:Int)<0↔y.num<0:=⟨fun h=>by
   rcases Int.lt_or_le y.num 0 with h' | h'
   ·exact h'
   ·have:=Int.mul_nonneg h' (Int.le_of_lt hxd);omega,fun h=>Int.mul_neg_of_neg_of_pos h hxd⟩
 have hd0:(y.num*(x.den:Int)).natAbs≠0:=by rw[Int.natAbs_mul];exact Nat.mul_ne_zero oo oo
 have ed:x.den*y.num.natAbs=(y.num*(x.den:Int)).natAbs:=by rw[Int.natAbs_mul,Int.natAbs_natCast,Nat.mul_comm]
 rw[Ama x y h0,ed];have key:∀ z:Int,z.natAbs=(x.num*(y.den:Int)).natAbs->Dj (Z16 z) ⟨false,L16 (y.num*(x.den:Int)).natAbs⟩=some (QR (mkRat z (y.num*(x.den:Int)).natAbs)):=fun z hz=>Aqh hd0 (by rw[hz];omega) oo
 have fin:∀ q:Rat,(some (⟨(⟨(QR q).N.Neg,(QR q).N.L⟩:Aj),(QR q).D⟩:Al))=some (QR q):=fun _=>rfl
 by_cases hs:((Z16 (x.num*(y.den:Int))).Neg == (Z16 (y.num*(x.den:Int))).Neg)=true
 ·rw[if_pos hs];simp only[Adp];have hs:(decide (x.num*(y.den:Int)<0) == decide (y.num*(x.den:Int)<0))=true:=hs;have hz:=key ((x.num*(y.den:Int)).natAbs:Int) oo;rw[<- Ah7] at hz;rw[hz,Ae];show some (QR _)=some (QR _);congr 3;have hs':=eq_of_beq hs;rw[decide_eq_decide,e1,e2] at hs';rw[Aii]
  by_cases hn:y.num<0
  ·rw[if_pos hn];have:=e1.2 (hs'.2 hn);omega
  ·rw[if_neg hn,if_neg hyn];have:¬ x.num*(y.den:Int)<0:=fun h=>hn (hs'.1 (e1.1 h));omega
 ·rw[if_neg hs];simp only[Adp];have hs:¬ (decide (x.num*(y.den:Int)<0) == decide (y.num*(x.den:Int)<0))=true:=hs;have hs':¬ (x.num<0↔y.num<0):=fun h=>hs (by rw[show decide (x.num*(y.den:Int)<0)=decide (y.num*(x.den:Int)<0) from decide_eq_decide.2 (e1.trans (h.trans e2.symm))];simp)
  have hz:=key (-((x.num*(y.den:Int)).natAbs:Int)) oo;have ez:(⟨decide (0<(((L16 (x.num*(y.den:Int)).natAbs).length:Nat):Int)),L16 (x.num*(y.den:Int)).natAbs⟩:Aj)=Z16 (-((x.num*(y.den:Int)).natAbs:Int)):=by
   unfold Z16;rw[Int.natAbs_neg,Int.natAbs_natCast,Ac0];congr 1
   by_cases h:(x.num*(y.den:Int)).natAbs=0
   ·rw[decide_eq_false (by simp[h]),decide_eq_false oo]
   ·rw[decide_eq_true h,decide_eq_true oo]
  show bnd (Dj ⟨decide (0<(((L16 (x.num*(y.den:Int)).natAbs).length:Nat):Int)),L16 (x.num*(y.den:Int)).natAbs⟩ ⟨false,L16 (y.num*(x.den:Int)).natAbs⟩) (fun r34=>some (⟨⟨r34.N.Neg,r34.N.L⟩,r34.D⟩:Al))=_;rw[ez,hz,Ae];show some (QR _)=some (QR _);congr 3;rw[Aii]
  by_cases hn:y.num<0
  ·rw[if_pos hn];have:¬ x.num*(y.den:Int)<0:=fun h=>hs' ⟨fun _=>hn,fun _=>e1.1 h⟩;omega
  ·rw[if_neg hn,if_neg hyn]
   by_cases hxn:x.num<0
   ·have:=e1.2 hxn;omega
   ·exact absurd ⟨fun h=>absurd h hxn,fun h=>absurd h hn⟩ hs'
theorem Sml.div{x y:Rat}{i j:Nat}(hx:Sml i x)(hy:Sml j y)(h0:y≠0):Sml (i+j) (x / y):=by
 have hyn:y.num≠0:=fun h=>h0 (Rat.num_eq_zero.1 h)
 rw[Ama x y h0];refine Sml.mkRat (Nat.mul_ne_zero (den0 x) oo) ?_ (Ky hx.2 hy.1);rw[Int.natAbs_mul,Int.natAbs_mul,Int.natAbs_natCast];have:y.num.sign.natAbs=1:=by rw[Aii];split <;> (try split) <;> omega
 rw[this,Nat.mul_one];exact Ky hx.1 hy.2
theorem Azc{a d:Nat}(hd:0<d)(ha:0<a):(-(a:Int)) / (d:Int) = -(((a / d+if a % d=0 then 0 else 1:Nat)):Int):=by
 have h1:=Nat.div_add_mod a d;have h2:=Nat.mod_lt a hd;have h3:(a:Int)=d*((a / d:Nat):Int)+((a % d:Nat):Int):=by rw[<- Int.natCast_mul,<- Int.natCast_add,h1]
 generalize a / d=q at *;generalize a % d=r at *
 by_cases h0:r=0
 ·subst h0;rw[if_pos rfl,h3];rw[show -((d:Int)*(q:Int)+((0:Nat):Int))=(d:Int)*(-(q:Int)) by rw[Int.mul_neg];simp,Int.mul_ediv_cancel_left _ oo];simp
 ·rw[if_neg h0];refine ((Int.ediv_emod_unique (r:=(d:Int)-r) oo).2 ⟨?_,oo,oo⟩).1;rw[h3,Int.natCast_add];have:(d:Int) * -((q:Int)+((1:Nat):Int)) = -(d*q)-d:=by rw[Int.mul_neg,Int.mul_add];simp;omega
  rw[this];omega
theorem Bem{z:Int}{d:Nat}(hd:d≠0)(h1:(dig 65536 z.natAbs).length<=80000)(h2:(dig 65536 d).length<=80000):Gn (Z16 z) ⟨false,L16 d⟩=some (Z16 (z / (d:Int))):=by
 unfold Gn;simp only[Adp,jn_d];rw[Afb hd oo oo,Ae,Nu]
 by_cases h:z<0
 ·rw[if_pos (by simpa using h)];simp only[];have hz:z = -((z.natAbs:Nat):Int):=oo;have e:=Azc (a:=z.natAbs) (Nat.pos_of_ne_zero hd) oo;rw[<- hz] at e;have hp:=Ah6 (a:=z.natAbs % d)
  by_cases h0:z.natAbs % d=0
  ·rw[if_neg (by have:=hp.2 h0;omega)];rw[if_pos h0] at e;rw[e,Ac0];unfold Z16;congr 2
   ·generalize z.natAbs / d=q at *
    by_cases hq:q=0
    ·rw[decide_eq_false (by simp[hq]),decide_eq_false oo]
    ·rw[decide_eq_true hq,decide_eq_true oo]
   ·congr 1;generalize z.natAbs / d=q at *;omega
  ·rw[if_pos (by have:(L16 (z.natAbs % d)).length≠0:=fun e=>h0 (hp.1 e);omega)];rw[if_neg h0] at e;have hl:(dig 65536 (z.natAbs / d)).length<=80000:=Nat.le_trans (Sz (Nat.div_le_self _ _)) h1;rw[Bb0,Awn oo (by rw[Ah9 oo];simp),Ae,e,Ac0];unfold Z16;generalize z.natAbs / d=q at *;congr 2
   ·rw[decide_eq_true (show q+1≠0 by omega),decide_eq_true oo]
 ·rw[if_neg (by simpa using h)];have hz:z=((z.natAbs:Nat):Int):=oo;rw[show z / (d:Int)=((z.natAbs / d:Nat):Int) by rw[hz,Int.natCast_ediv,Int.natAbs_natCast]];rw[<- Ah7]
theorem Atq{x:Rat}{i:Nat}(hx:Sml i x)(h:i<=40000):Fn (QR x)=some (Z16 x.floor):=by
 have a1:=hx.n;have a2:=hx.d;unfold Fn QR;simp only[];rw[Bem (den0 x) oo oo,Ae,Rat.floor_def]
theorem Ben{x:Rat}{i:Nat}(hx:Sml i x)(h:i<=40000):Ix (QR x)=some (Z16 (-(-x).floor)):=by
 unfold Ix;rw[Asn,Ae,Atq hx.neg h,Ae,Asm,Ae]
theorem Ave(l:List Nat)(hl:∀ x∈l,x<65536)(h4:l.length<=4)(hv:val 65536 l<4611686018427387905)(p:Aj)(hp:p.L=nI l):lfix (Eg p) (0,(l.length:Int)-1)=some ((val 65536 l:Nat):Int):=by
 obtain⟨t,ht,rfl⟩:=Be (B:=Eg p) (fun s=>(s.2+1).toNat)
  (fun s=>∃ k:Nat,s=(((val 65536 (l.drop k):Nat):Int),(k:Int)-1)/\k<=l.length)
  (fun t=>t=((val 65536 l:Nat):Int)) (by
   rintro s ⟨k,rfl,hk⟩;unfold Eg
   by_cases h0:k=0
   ·right;subst h0;exact⟨_,by simp only[];rw[if_neg oo],by rw[List.drop_zero]⟩
   ·left;have h1:k-1<l.length:=oo;have hx:=hl _ (List.getElem_mem h1);have hd:=Uc (b:=65536) l (k-1) h1;rw[show k-1+1=k by omega] at hd;have hle:val 65536 (l.drop (k-1))<=val 65536 l:=by
     have:=Adq l (k-1) oo;have h2:val 65536 (l.drop (k-1))<=65536 ^ (k-1)*val 65536 (l.drop (k-1)):=Nat.le_mul_of_pos_left _ (Nat.pow_pos oo);omega
    refine⟨(((val 65536 (l.drop (k-1)):Nat):Int),((k-1:Nat):Int)-1),?_,⟨k-1,rfl,oo⟩,by simp;omega⟩;simp only[hp];rw[if_pos oo,show ((k:Int)-1)=((k-1:Nat):Int) from by omega,Du h1,Ae,hd];generalize val 65536 (l.drop k)=H at *;generalize l[k-1]=x at *;rw[Av (x:=(H:Int)*65536) oo oo,Av oo oo,Av oo oo];congr 3;omega)
  (0,(l.length:Int)-1) ⟨l.length,by simp[val],Nat.le_refl _⟩
 exact ht
theorem Beo{z:Int}(h:z.natAbs<=1152921504606846976):Ji (Z16 z)=some (z,true):=by
 have hl:(dig 65536 z.natAbs).length<=4:=Fo oo;have hv:=De (b:=65536) oo z.natAbs;have hf:=Ave (dig 65536 z.natAbs) (Od oo _) hl (by rw[hv];omega) (Z16 z) Adp;rw[hv] at hf;have fin:(jn (fun (s6:Int)=>
   jn (fun (s15:Bool)=>
   if s15=true then (some ((0:Int),false))
   else (jn (fun (s17:Int)=>
   some (s17,true))
   (fun j17=>if (Z16 z).Neg=true then (j17 (w64 (-s6)))
   else (j17 s6))))
   (fun j15=>if s6<0 then (j15 true)
   else (j15 (decide (4611686018427387904<s6)))))
   (fun j6=>bnd (lfix (Eg (Z16 z)) (0,w64 (((((dig 65536 z.natAbs).length:Nat):Int))-1))) fun t39=>
   j6 t39))=some (z,true):=by
  simp only[jn_d];rw[Av oo oo,hf,Ae,if_neg oo,if_neg (by simp;omega),Nu]
  by_cases hn:z<0
  ·rw[if_pos (by simpa using hn),Av oo oo];congr 2;omega
  ·rw[if_neg (by simpa using hn)];congr 2;omega
 unfold Ji;rw[jn_d,Adp,Yr,if_neg oo]
 by_cases h4:(((dig 65536 z.natAbs).length:Nat):Int)=4
 ·have h3:3<(dig 65536 z.natAbs).length:=oo;have hd:=Xu (m:=z.natAbs) (k:=3) oo;rw[Uc _ _ h3,List.drop_eq_nil_of_le oo] at hd;simp only[val,Nat.mul_zero,Nat.add_zero] at hd;rw[if_pos h4,show idx (L16 z.natAbs) 3=some (((dig 65536 z.natAbs)[3]:Nat):Int) from Du h3,Ae,decide_eq_false (by rw[hd];omega)];exact fin
 ·rw[if_neg h4];exact fin
theorem Bcl{z:Int}(h:z.natAbs<=1152921504606846976):Kx (Z16 z)=some (z,0):=by
 unfold Kx;rw[Beo h,Ae,jn_d];simp only[if_true];rw[if_neg oo,decide_eq_false oo,if_neg s_]
theorem Azd{x y:Rat}{i:Nat}(hx:Sml i x)(hy:Sml i y)(h:i<=20000)(h1:(if y<x then y else x).floor.natAbs<=1152921504606846976)(h2:(-(-(if x<y then y else x)).floor).natAbs<=1152921504606846976):
  Mu [QR x,QR y]=some (⟨(if y<x then y else x).floor,-(-(if x<y then y else x)).floor⟩,0):=by
 have hlow:Sml i (if y<x then y else x):=by split;exact hy;exact hx
 have hhigh:Sml i (if x<y then y else x):=by split;exact hy;exact hx
 have sg:∀ z:Rat,z.num.sign<0↔z<0:=fun z=>by
  rw[Aii,<- Rat.not_le,<- Rat.num_nonneg];split
  ·omega
  ·split <;> omega
 have sg2:∀ z:Rat,0<z.num.sign↔0<z:=fun z=>by
  have e:z.num.sign = -((-z).num.sign):=by rw[Rat.neg_num,Int.sign_neg,Int.neg_neg]
  rw[e];have:=sg (-z);constructor
  ·intro h;have h':=this.1 oo;rw[Rat.neg_lt_iff] at h';simpa using h'
  ·intro h;have h':=this.2 (by rw[Rat.neg_lt_iff];simpa using h);omega
 have body:Fs [QR x,QR y] ((QR x).N.Neg,(QR x).N.L,(QR x).D,(QR x).N.Neg,(QR x).N.L,(QR x).D,1)=some (.inl ((QR (if y<x then y else x)).N.Neg,(QR (if y<x then y else x)).N.L,(QR (if y<x then y else x)).D,(QR (if x<y then y else x)).N.Neg,(QR (if x<y then y else x)).N.L,(QR (if x<y then y else x)).D,2)):=by
  unfold Fs;simp only[jn_d];have eq:∀ q:Rat,(⟨(⟨(QR q).N.Neg,(QR q).N.L⟩:Aj),(QR q).D⟩:Al)=QR q:=fun _=>rfl
  rw[if_pos s_,show idx [QR x,QR y] 1=some (QR y) from rfl];simp only[Ae,eq];rw[Bez hy hx oo];simp only[Ae];have d1:(y-x).num.sign<0↔y<x:=by rw[sg,Rat.lt_iff_sub_pos y x];rw[show y-x = -(x-y) from (Rat.neg_sub x y).symm,Rat.neg_lt_iff];simp
  have d2:0<(y-x).num.sign↔x<y:=by rw[sg2,Rat.lt_iff_sub_pos x y]
  rw[show w64 (1+1)=2 from by decide]
  by_cases c1:y<x
  ·rw[if_pos (d1.2 c1),if_pos c1]
   by_cases c2:x<y
   ·rw[if_pos (d2.2 c2),if_pos c2]
   ·rw[if_neg (fun h=>c2 (d2.1 h)),if_neg c2]
  ·rw[if_neg (fun h=>c1 (d1.1 h)),if_neg c1]
   by_cases c2:x<y
   ·rw[if_pos (d2.2 c2),if_pos c2]
   ·rw[if_neg (fun h=>c2 (d2.1 h)),if_neg c2]
 have fin:∀ a b c d e f,Fs [QR x,QR y] (a,b,c,d,e,f,2)=some (.inr (a,b,c,d,e,f)):=fun a b c d e f=>by
  unfold Fs;rw[if_neg s_]
 unfold Mu;simp only[jn_d];rw[show idx [QR x,QR y] 0=some (QR x) from rfl,Ae,Ae,Ba,body];simp only[];rw[Ba,fin];simp only[Ae];have eq:∀ q:Rat,(⟨(⟨(QR q).N.Neg,(QR q).N.L⟩:Aj),(QR q).D⟩:Al)=QR q:=fun _=>rfl
 simp only[eq];rw[Atq hlow oo,Ae,Bcl h1,Ae,Ben hhigh oo,Ae,Bcl h2,Ae];simp
theorem pow8:(65536:Nat) ^ 8=340282366920938463463374607431768211456:=dD
theorem addI{a b:Int}(ha:a.natAbs<65536 ^ 8)(hb:b.natAbs<65536 ^ 8):Cl (QR (a:Rat)) (QR (b:Rat))=some (QR ((a+b:Int):Rat)):=by
 rw[Bb1 (Sml.int ha oo) (Sml.int hb oo) oo,Rat.intCast_add]
theorem subI{a b:Int}(ha:a.natAbs<65536 ^ 8)(hb:b.natAbs<65536 ^ 8):Cw (QR (a:Rat)) (QR (b:Rat))=some (QR ((a-b:Int):Rat)):=by
 rw[Bb2 (Sml.int ha oo) (Sml.int hb oo) oo,Rat.intCast_sub]
theorem mulI{a b:Int}(ha:a.natAbs<65536 ^ 8)(hb:b.natAbs<65536 ^ 8):Dl (QR (a:Rat)) (QR (b:Rat))=some (QR ((a*b:Int):Rat)):=by
 rw[Bey (Sml.int ha oo) (Sml.int hb oo) oo,Rat.intCast_mul]
theorem Arp{x1 y1 x2 y2 x3 y3:Int}(h:∀ z∈[x1,y1,x2,y2,x3,y3],-268435456<=z/\z<=268435456):
  Hv ⟨QR (x1:Rat),QR (y1:Rat)⟩ ⟨QR (x2:Rat),QR (y2:Rat)⟩ ⟨QR (x3:Rat),QR (y3:Rat)⟩=some (QR ((crs ⟨x1,y1⟩ ⟨x2,y2⟩ ⟨x3,y3⟩:Int):Rat)):=by
 have a1:=h x1 s_;have a2:=h y1 s_;have a3:=h x2 s_;have a4:=h y2 s_;have a5:=h x3 s_;have a6:=h y3 s_;have m1:=mulB (x:=x2-x1) (y:=y3-y1) (M:=536870912) (N:=536870912) oo oo oo oo oo;have m2:=mulB (x:=y2-y1) (y:=x3-x1) (M:=536870912) (N:=536870912) oo oo oo oo oo;unfold Hv;dsimp only;rw[subI (by rw[pow8];omega) (by rw[pow8];omega),Ae,subI (by rw[pow8];omega) (by rw[pow8];omega),Ae,mulI (by rw[pow8];omega) (by rw[pow8];omega),Ae,subI (by rw[pow8];omega) (by rw[pow8];omega),Ae,
  subI (by rw[pow8];omega) (by rw[pow8];omega),Ae,mulI (by rw[pow8];omega) (by rw[pow8];omega),Ae,subI (by rw[pow8];omega) (by rw[pow8];omega),Ae]
 rfl
theorem Akn{z S A:Int}(hA:0<A):(z:Rat)<=(S:Rat) / (A:Rat)↔z*A<=S:=by
 have hA':(0:Rat)<(A:Rat):=by rw[show (0:Rat)=((0:Int):Rat) from rfl,Rat.intCast_lt_intCast];exact hA
 have hne:(A:Rat)≠0:=fun e=>by rw[e] at hA';exact absurd hA' dD
 have e:=Rat.div_mul_cancel (a:=(S:Rat)) hne;rw[<- Rat.intCast_le_intCast,Rat.intCast_mul];generalize (S:Rat) / (A:Rat)=y at *;rw[<- e];constructor
 ·intro h;exact Rat.mul_le_mul_of_nonneg_right h (by grind)
 ·intro h;exact Rat.le_of_mul_le_mul_right h hA'
theorem Avf{S A:Int}(hA:0<A):((S:Rat) / (A:Rat)).floor=S / A:=by
 refine Int.le_antisymm ?_ ?_
 ·have h:=(Rat.le_floor_iff (x:=((S:Rat) / (A:Rat)).floor) (a:=(S:Rat) / (A:Rat))).1 (Int.le_refl _);exact Int.le_ediv_of_mul_le hA ((Akn hA).1 h)
 ·rw[Rat.le_floor_iff,Akn hA];exact Int.ediv_mul_le _ oo
theorem At_Q{p:Ac}(hp:okP p):Ij p=some ⟨QR (p.X:Rat),QR (p.Y:Rat)⟩:=by
 unfold okP at hp;unfold Ij;rw[Ac1 oo oo,Ae,Ac1 oo oo,Ae]
section
variable {m:Aq} (h:Msh m)
include h
theorem Avg{p:Ac}(hp:okP p){t:Ah}(ht:t∈m.T):Li m t ⟨QR (p.X:Rat),QR (p.Y:Rat)⟩ =
  some ⟨QR ((crs (plV m.V t.a1) (plV m.V t.a2) p:Int):Rat),QR ((crs (plV m.V t.a2) (plV m.V t.a0) p:Int):Rat),QR ((crs (plV m.V t.a0) (plV m.V t.a1) p:Int):Rat)⟩:=by
 obtain⟨h0,h1,h2,_⟩:=h.t _ ht;have q0:=(Hx h.ok h0).1;have q1:=(Hx h.ok h1).1;have q2:=(Hx h.ok h2).1;obtain⟨a,ea,ha⟩:=Jw h0;obtain⟨b,eb,hb⟩:=Jw h1;obtain⟨c,ec,hc⟩:=Jw h2;have pa:∀ {k:Nat} (hk:k<m.V.length),Au m.V[k]=some (plV m.V (k:Int)):=fun hk=>by rw[Abb hk];rfl
 unfold Li;rw[ea,eb,ec,As ha,Ae,As hb,Ae,As hc,Ae,pa ha,Ae,pa hb,pa hc];rw[ea] at q0;rw[eb] at q1;rw[ec] at q2;rw[At_Q q0,Ae,Ae,At_Q q1,Ae,Ae,At_Q q2,Ae];generalize plV m.V (a:Int)=A at *;generalize plV m.V (b:Int)=B at *;generalize plV m.V (c:Int)=C at *;have all:∀ {u v w:Ac},okP u->okP v->okP w->∀ z∈[u.X,u.Y,v.X,v.Y,w.X,w.Y],-268435456<=z/\z<=268435456:=fun hu hv hw z hz=>by
  unfold okP at hu hv hw;simp only[List.mem_cons,List.not_mem_nil,or_false] at hz;omega
 rw[Arp (all hp q1 q2),Ae,Arp (all q0 hp q2),Ae,Arp (all q0 q1 hp),Ae];have r1:crs p B C=crs B C p:=by unfold crs;grind
 have r2:crs A p C=crs C A p:=by unfold crs;grind
 show some (⟨QR ((crs p B C:Int):Rat),QR ((crs A p C:Int):Rat),QR ((crs A B p:Int):Rat)⟩:St)=_;rw[r1,r2]
theorem Amb{p:Ac}(hp:okP p){t:Ah}(ht:t∈m.T)(b:Bool)(f:Aw->Int)(hf:∀ z,f z=if b=true then z.Hi else z.Lo):
  Hw m t ⟨QR (p.X:Rat),QR (p.Y:Rat)⟩ b=some (QR (((wsum m.V p t f:Int):Rat) / ((Oo m.V t:Int):Rat))):=by
 obtain⟨h0,h1,h2,hpos⟩:=h.t _ ht;obtain⟨q0,z0⟩:=Hx h.ok h0;obtain⟨q1,z1⟩:=Hx h.ok h1;obtain⟨q2,z2⟩:=Hx h.ok h2;have hs:=Anb (plV m.V t.a0) (plV m.V t.a1) (plV m.V t.a2) p;have b0:=Ha q1 q2 hp;have b1:=Ha q2 q0 hp;have b2:=Ha q0 q1 hp;have b3:=Ha q0 q1 q2;unfold Oo at hpos;unfold Hw;rw[Avg h hp ht,Ae,show Ck 0=some (QR ((0:Int):Rat)) from Ac1 oo oo,Ae,Ae];unfold wsum Oo;obtain⟨a,ea,ha⟩:=Jw h0;obtain⟨b',eb,hb⟩:=Jw h1;obtain⟨c,ec,hc⟩:=Jw h2;have hh:∀ {k:Nat} (hk:k<m.V.length),Et m.V[k] b=some (f (zV m.V (k:Int))):=fun hk=>by
  unfold Et;rw[Apc hk,hf];cases b <;> rfl
 rw[<- hs];rw[<- hs] at hpos b3;have f0:-268435456<=f (zV m.V t.a0)/\f (zV m.V t.a0)<=268435456:=by rw[hf];split <;> omega
 have f1:-268435456<=f (zV m.V t.a1)/\f (zV m.V t.a1)<=268435456:=by rw[hf];split <;> omega
 have f2:-268435456<=f (zV m.V t.a2)/\f (zV m.V t.a2)<=268435456:=by rw[hf];split <;> omega
 have k0:=hh ha;have k1:=hh hb;have k2:=hh hc;rw[<- ea] at k0;rw[<- eb] at k1;rw[<- ec] at k2;have i0:idx m.V t.a0=some m.V[a]:=by rw[ea];exact As ha
 have i1:idx m.V t.a1=some m.V[b']:=by rw[eb];exact As hb
 have i2:idx m.V t.a2=some m.V[c]:=by rw[ec];exact As hc
 rw[i0,Ae,k0,Ae];generalize f (zV m.V t.a0)=v0 at *;rw[Ac1 oo oo,Ae];generalize crs (plV m.V t.a1) (plV m.V t.a2) p=w0 at *;generalize crs (plV m.V t.a2) (plV m.V t.a0) p=w1 at *;generalize crs (plV m.V t.a0) (plV m.V t.a1) p=w2 at *;have m0:=mulB (x:=w0) (y:=v0) (M:=576460752303423488) (N:=268435456) oo oo oo oo oo;dsimp only;rw[mulI (by rw[pow8];omega) (by rw[pow8];omega),Ae,addI (by rw[pow8];omega) (by rw[pow8];omega),Ae,addI (by rw[pow8];omega) (by rw[pow8];omega),Ae,i1,Ae,k1,Ae];generalize f (zV m.V t.a1)=v1 at *;have m1:=mulB (x:=w1) (y:=v1) (M:=576460752303423488) (N:=268435456) oo oo oo oo oo;rw[Ac1 oo oo,Ae,mulI (by rw[pow8];omega) (by rw[pow8];omega),Ae,addI (by rw[pow8];omega) (by rw[pow8];omega),Ae,addI (by rw[pow8];omega) (by rw[pow8];omega),Ae,i2,Ae,k2,Ae];generalize f (zV m.V t.a2)=v2 at *;have m2:=mulB (x:=w2) (y:=v2) (M:=576460752303423488) (N:=268435456) oo oo oo oo oo;rw[Ac1 oo oo,Ae,mulI (by rw[pow8];omega) (by rw[pow8];omega),Ae,addI (by rw[pow8];omega) (by rw[pow8];omega),Ae,addI (by rw[pow8];omega) (by rw[pow8];omega),Ae];have e1:0+w0*v0+w1*v1+w2*v2=w0*v0+w1*v1+w2*v2:=oo;have e2:0+w0+w1+w2=w0+w1+w2:=oo;rw[e1,e2];have hne:((w0+w1+w2:Int):Rat)≠0:=fun e=>by
  rw[show (0:Rat)=((0:Int):Rat) from rfl,Rat.intCast_inj] at e;omega
 rw[Bfo (Sml.int (k:=8) (by rw[pow8];omega) oo) (Sml.int (k:=8) (by rw[pow8];omega) oo) oo hne,Ae]
end
end Go.Proofs.YthlkpgdfifnagaaGreat
namespace Go.Proofs.YthlkpgdfifnagaaGreat
open Go Go.RowKit Go.Sort
theorem Ak4{m:Aq}(h1:m.V.length<=1000000)(h2:m.T.length<=100000000)(h3:m.Lines=[]):Jm m m=some true:=by
 have e1:lfix (Ei m m) 0=some (.inl ()):=by
  rw[Yj (β:=Unit) (γ:=Bool) m.V (fun _=>true) (Ei m m) () false (fun j hj=>?_) ?_]
  ·simp
  ·unfold Ei;rw[if_neg oo]
  ·unfold Ei;rw[if_pos oo,As hj,Ae,Ae,if_pos s_,if_pos rfl,w1 hj oo]
 have e2:lfix (Dv m m) 0=some (.inl ()):=by
  rw[Yj (β:=Unit) (γ:=Bool) m.T (fun _=>true) (Dv m m) () false (fun j hj=>?_) ?_]
  ·simp
  ·unfold Dv;rw[if_neg oo]
  ·unfold Dv;rw[if_pos oo,As hj,Ae,Ae,if_pos s_,if_pos rfl,w1 hj oo]
 have e3:lfix (Jb m) 0=some ():=by
  rw[Ba];unfold Jb;rw[if_neg (by rw[h3];simp)]
 unfold Jm;rw[jn_d,if_pos rfl,if_pos rfl,decide_eq_true rfl];dsimp only;rw[if_neg s_,jn_d,e1,Ae];dsimp only;rw[jn_d,e2,Ae];dsimp only;rw[jn_d,e3,Ae]
theorem Avh{v:List Ad}{T:List Ah}(hn:v.length<=1024)(h:Yx v T):T.length<=1048576:=by
 have hsq:=Ag1 hn;have:=Aeo (fun t ht=>(h.mem t).1 ht) h.nd;omega
end Go.Proofs.YthlkpgdfifnagaaGreat
namespace Go.Proofs.YthlkpgdfifnagaaGreat
open Go Go.RowKit
theorem Arq{α γ:Type}(l:List α)(p:α->Bool)(g:Nat->γ)(B:Int->Option (Sum Int (Sum Unit γ)))(h1:∀ (j:Nat) (h:j<l.length),B j=if p l[j]=true then some (.inr (.inr (g j))) else some (.inl ((j+1:Nat):Int)))(h2:B l.length=some (.inr (.inl ()))):
  lfix B 0=some (match l.findIdx? p with | some i=>.inr (g i) | none=>.inl ()):=by
 have key:∀ (m k:Nat),k<=l.length->l.length-k=m->(∀ j (hj:j<l.length),j<k->p l[j]=false)->lfix B k=some (match l.findIdx? p with | some i=>.inr (g i) | none=>.inl ()):=by
  intro m
  induction m with
  | zero=>
   intro k hk hm hf;obtain rfl:k=l.length:=oo;rw[Ba,h2];have:l.findIdx? p=none:=by
    rw[List.findIdx?_eq_none_iff];intro x hx;obtain⟨j,hj,rfl⟩:=List.getElem_of_mem hx;exact hf j hj hj
   rw[this]
  | succ m ih=>
   intro k hk hm hf;have hlt:k<l.length:=oo;rw[Ba,h1 k hlt]
   by_cases hp:p l[k]=true
   ·rw[if_pos hp];have:l.findIdx? p=some k:=by
     rw[List.findIdx?_eq_some_iff_getElem];exact⟨hlt,hp,fun j hj=>by rw[hf j oo hj];simp⟩
    rw[this]
   ·rw[if_neg hp];refine ih (k+1) oo oo fun j hj hjk=>?_
    by_cases e:j=k
    ·subst e;exact Bool.eq_false_iff.2 hp
    ·exact hf j hj oo
 exact key l.length 0 (Nat.zero_le _) rfl (fun j _ h=>absurd h oo)
structure Ako(m:Aq):Prop where
 msh:Msh m
 chk:Kk m=some 0
theorem Apx{L:List Aa}(hL:X.Fit L)(ha:Mc L){m:Aq}(hv:m.V=vxL L)(hl:m.Lines=[])(ht:Yx (vxL L) m.T):Ako m:=by
 have hm:=Aq5 hL hv ht;refine⟨hm,?_⟩;rcases Al1 hL with⟨e,_⟩|⟨_,g⟩
 ·obtain⟨T,t1,t2,t3⟩:=Afz e;have hn:=hL.n;have hlen:(vxL L).length<=1024:=by unfold vxL;rw[List.length_map];exact hn
  have hT:=Avh hlen ht;have em:(⟨vxL L,T,[]⟩:Aq)=m:=by
   obtain⟨V,T',Ls⟩:=m;dsimp only at hv hl ht;rw[hv,hl,t3.unique ht]
  unfold Kk;rw[hv,hl,t1,Ae,jn_d];dsimp only;rw[if_pos rfl,em,Ak4 (by have:=hm.n;omega) oo hl,Ae];rfl
 ·exact absurd ha g
section
variable {m:Aq} (h:Msh m)
include h
theorem Bep{p:Ac}(hp:okP p){t:Ah}(ht:t∈m.T):Te m t p=some (covT m.V p t):=by
 obtain⟨h0,h1,h2,_⟩:=h.t _ ht;have q0:=(Hx h.ok h0).1;have q1:=(Hx h.ok h1).1;have q2:=(Hx h.ok h2).1;obtain⟨a,ea,ha⟩:=Jw h0;obtain⟨b,eb,hb⟩:=Jw h1;obtain⟨c,ec,hc⟩:=Jw h2;have pa:∀ {k:Nat} (hk:k<m.V.length),Au m.V[k]=some (plV m.V (k:Int)):=fun hk=>by rw[Abb hk];rfl
 have sg:∀ z:Int,Int.sign z<0↔¬ 0<=z:=fun z=>by
  rw[Int.sign_neg_iff];omega
 have st:∀ (j:Nat) (u v:Nat),u<m.V.length->v<m.V.length->idx [t.a0,t.a1,t.a2] (j:Int)=some (u:Int)->idx [t.a0,t.a1,t.a2] (Int.tmod (w64 ((j:Int)+1)) 3)=some (v:Int)->j<3->okP (plV m.V (u:Int))->okP (plV m.V (v:Int)) ->
   Dm t m p (j:Int)=if 0<=crs (plV m.V (u:Int)) (plV m.V (v:Int)) p then some (.inl ((j+1:Nat):Int)) else some (.inr (.inr false)):=fun j u v hu hv e1 e2 hj o1 o2=>by
  unfold Dm;rw[if_pos oo,e1,Ae,As hu,Ae,e2,Ae,As hv,Ae,pa hu,Ae,pa hv,Ae,Aab o1 o2 hp,Ae,Az oo]
  by_cases c:0<=crs (plV m.V (u:Int)) (plV m.V (v:Int)) p
  ·rw[if_pos c,if_neg (by rw[sg];omega)]
  ·rw[if_neg c,if_pos ((sg _).2 c)]
 rw[ea] at q0;rw[eb] at q1;rw[ec] at q2;have t3:∀ {k:Nat},k<3->∃ u v:Nat,idx [t.a0,t.a1,t.a2] (k:Int)=some (u:Int)/\idx [t.a0,t.a1,t.a2] (Int.tmod (w64 ((k:Int)+1)) 3)=some (v:Int)/\((k=0/\u=a/\v=b)\/(k=1/\u=b/\v=c)\/(k=2/\u=c/\v=a)):=fun {k} hk=>by
  rw[ea,eb,ec,Az oo];rcases (by omega:k=0\/k=1\/k=2) with rfl | rfl | rfl
  ·exact⟨a,b,rfl,rfl,.inl ⟨rfl,rfl,rfl⟩⟩
  ·exact⟨b,c,rfl,rfl,.inr (.inl ⟨rfl,rfl,rfl⟩)⟩
  ·exact⟨c,a,rfl,rfl,.inr (.inr ⟨rfl,rfl,rfl⟩)⟩
 have s0:Dm t m p ((0:Nat):Int)=if 0<=crs (plV m.V (a:Int)) (plV m.V (b:Int)) p then some (.inl ((0+1:Nat):Int)) else some (.inr (.inr false)):=by
  obtain⟨u,v,e1,e2,g⟩:=t3 (show 0<3 by omega);obtain⟨rfl,rfl⟩:u=a/\v=b:=oo;exact st 0 u v ha hb e1 e2 oo q0 q1
 have s1:Dm t m p ((0+1:Nat):Int)=if 0<=crs (plV m.V (b:Int)) (plV m.V (c:Int)) p then some (.inl ((0+1+1:Nat):Int)) else some (.inr (.inr false)):=by
  obtain⟨u,v,e1,e2,g⟩:=t3 (show 0+1<3 by omega);obtain⟨rfl,rfl⟩:u=b/\v=c:=oo;exact st _ u v hb hc e1 e2 oo q1 q2
 have s2:Dm t m p ((0+1+1:Nat):Int)=if 0<=crs (plV m.V (c:Int)) (plV m.V (a:Int)) p then some (.inl ((0+1+1+1:Nat):Int)) else some (.inr (.inr false)):=by
  obtain⟨u,v,e1,e2,g⟩:=t3 (show 0+1+1<3 by omega);obtain⟨rfl,rfl⟩:u=c/\v=a:=oo;exact st _ u v hc ha e1 e2 oo q2 q0
 have s3:Dm t m p ((0+1+1+1:Nat):Int)=some (.inr (.inl ())):=by
  unfold Dm;rw[if_neg oo]
 unfold Te covT;rw[jn_d,ea,eb,ec];show bnd (lfix (Dm t m p) ((0:Nat):Int)) _=_
 by_cases c0:0<=crs (plV m.V (a:Int)) (plV m.V (b:Int)) p
 ·by_cases c1:0<=crs (plV m.V (b:Int)) (plV m.V (c:Int)) p
  ·by_cases c2:0<=crs (plV m.V (c:Int)) (plV m.V (a:Int)) p
   ·rw[if_pos c0] at s0;rw[if_pos c1] at s1;rw[if_pos c2] at s2;rw[Ba,s0];dsimp only;rw[Ba,s1];dsimp only;rw[Ba,s2];dsimp only;rw[Ba,s3];simp[Ae,c0,c1,c2]
   ·rw[if_pos c0] at s0;rw[if_pos c1] at s1;rw[if_neg c2] at s2;rw[Ba,s0];dsimp only;rw[Ba,s1];dsimp only;rw[Ba,s2];simp[Ae,c2]
  ·rw[if_pos c0] at s0;rw[if_neg c1] at s1;rw[Ba,s0];dsimp only;rw[Ba,s1];simp[Ae,c1]
 ·rw[if_neg c0] at s0;rw[Ba,s0];simp[Ae,c0]
end
theorem Bbq{m:Aq}(h:Ako m){p:Ac}(hp:okP p):Qe m p=some (match locT m.V m.T p with | some i=>((i:Int),0) | none=>(0,65)):=by
 unfold Qe;rw[h.chk,Ae,if_pos rfl,Atd,Ae,decide_eq_true hp,if_pos rfl,jn_d];have hl:=h.msh.len;have e:=Arq m.T (covT m.V p) (fun i=>((i:Int),(0:Int))) (Lh m p) (fun j hj=>by
  unfold Lh;rw[if_pos oo,As hj,Ae,Bep h.msh hp (List.getElem_mem hj),Ae,Az oo]) (by
  unfold Lh;rw[if_neg oo])
 rw[e,Ae];unfold locT;cases m.T.findIdx? (covT m.V p) <;> rfl
theorem Arr{m:Aq}(h:Ako m){p:Ac}(hp:okP p):Ja m p=some (match locT m.V m.T p with | some i=>(match idx m.T (i:Int) with | some t=>(bndT m.V p t,0) | none=>(⟨0,0⟩,0)) | none=>(⟨0,0⟩,65)):=by
 unfold Ja Nb;rw[Bbq h hp,Ae];cases e:locT m.V m.T p with
 | none=>rfl
 | some i=>
  have e':=e;unfold locT at e';rw[List.findIdx?_eq_some_iff_getElem] at e';obtain⟨hi,hc,_⟩:=e';have ht:=List.getElem_mem hi;obtain⟨h0,h1,h2,hpos⟩:=h.msh.t _ ht;have hb:=Ajy h.msh ht hc;dsimp only;rw[if_pos rfl,As hi,Ae,Ae,At_Q hp,Ae,Amb h.msh hp ht false (·.Lo) (fun z=>s_),Ae,Ae,Amb h.msh hp ht true (·.Hi) (fun z=>s_),Ae,Ae];dsimp only;rw[if_pos rfl];unfold bndT at hb ⊢;dsimp only at hb;have hd:∀ z:Int,-((z:Rat) / ((Oo m.V m.T[i]:Int):Rat))=((-z:Int):Rat) / ((Oo m.V m.T[i]:Int):Rat):=fun z=>by
   rw[Rat.div_def,Rat.div_def,<- Rat.neg_mul,Rat.intCast_neg]
  have fl:=fun z=>Avf (S:=z) hpos
  have hw:wsum m.V p m.T[i] (·.Lo)<=wsum m.V p m.T[i] (·.Hi):=by
   obtain⟨_,z0⟩:=Hx h.msh.ok h0;obtain⟨_,z1⟩:=Hx h.msh.ok h1;obtain⟨_,z2⟩:=Hx h.msh.ok h2;unfold covT at hc;rw[decide_eq_true_eq] at hc;unfold wsum;dsimp only;have c0:=Int.mul_le_mul_of_nonneg_left z0.2.1 hc.2.1;have c1:=Int.mul_le_mul_of_nonneg_left z1.2.1 hc.2.2;have c2:=Int.mul_le_mul_of_nonneg_left z2.2.1 hc.1;omega
  have big:∀ f:Aw->Int,(∀ z:Aw,-268435456<=z.Lo->z.Lo<=z.Hi->z.Hi<=268435456->-268435456<=f z/\f z<=268435456)->(wsum m.V p m.T[i] f).natAbs<65536 ^ 8:=fun f hf=>by
   obtain⟨q0,z0⟩:=Hx h.msh.ok h0;obtain⟨q1,z1⟩:=Hx h.msh.ok h1;obtain⟨q2,z2⟩:=Hx h.msh.ok h2;have f0:=hf _ z0.1 z0.2.1 z0.2.2;have f1:=hf _ z1.1 z1.2.1 z1.2.2;have f2:=hf _ z2.1 z2.2.1 z2.2.2;have b0:=Ha q1 q2 hp;have b1:=Ha q2 q0 hp;have b2:=Ha q0 q1 hp;have m0:=mulB (M:=576460752303423488) (N:=268435456) oo b0.1 b0.2 f0.1 f0.2;have m1:=mulB (M:=576460752303423488) (N:=268435456) oo b1.1 b1.2 f1.1 f1.2;have m2:=mulB (M:=576460752303423488) (N:=268435456) oo b2.1 b2.2 f2.1 f2.2;unfold wsum;rw[pow8];omega
  have hA8:(Oo m.V m.T[i]).natAbs<65536 ^ 8:=by
   have:=Ha (Hx h.msh.ok h0).1 (Hx h.msh.ok h1).1 (Hx h.msh.ok h2).1;unfold Oo;rw[pow8];omega
  have hne:((Oo m.V m.T[i]:Int):Rat)≠0:=fun e=>by
   rw[show (0:Rat)=((0:Int):Rat) from rfl,Rat.intCast_inj] at e;omega
  have s1:=big (·.Lo) (fun z a b c=>by constructor <;> omega);have s2:=big (·.Hi) (fun z a b c=>by constructor <;> omega);have x1:Sml 16 (((wsum m.V p m.T[i] (·.Lo):Int):Rat) / ((Oo m.V m.T[i]:Int):Rat)):=Sml.div (Sml.int s1 oo) (Sml.int hA8 oo) hne;have x2:Sml 16 (((wsum m.V p m.T[i] (·.Hi):Int):Rat) / ((Oo m.V m.T[i]:Int):Rat)):=Sml.div (Sml.int s2 oo) (Sml.int hA8 oo) hne;have hpos':(0:Rat)<((Oo m.V m.T[i]:Int):Rat):=Rat.intCast_pos.2 hpos;have hxy:¬ ((wsum m.V p m.T[i] (·.Hi):Int):Rat) / ((Oo m.V m.T[i]:Int):Rat)<((wsum m.V p m.T[i] (·.Lo):Int):Rat) / ((Oo m.V m.T[i]:Int):Rat):=fun hlt=>by
   rw[Rat.div_lt_iff hpos',Rat.div_mul_cancel hne,Rat.intCast_lt_intCast] at hlt;omega
  have e2:(if ((wsum m.V p m.T[i] (·.Lo):Int):Rat) / ((Oo m.V m.T[i]:Int):Rat)<((wsum m.V p m.T[i] (·.Hi):Int):Rat) / ((Oo m.V m.T[i]:Int):Rat) then ((wsum m.V p m.T[i] (·.Hi):Int):Rat) / ((Oo m.V m.T[i]:Int):Rat) else ((wsum m.V p m.T[i] (·.Lo):Int):Rat) / ((Oo m.V m.T[i]:Int):Rat))=((wsum m.V p m.T[i] (·.Hi):Int):Rat) / ((Oo m.V m.T[i]:Int):Rat):=by
   split
   ·rfl
   ·rename_i hlt;exact Rat.le_antisymm (Rat.not_lt.1 hxy) (Rat.not_lt.1 hlt)
  have ar:=Azd x1 x2 oo (by rw[if_neg hxy,fl];omega) (by rw[e2,hd,fl];omega);rw[if_neg hxy,e2,hd,fl,fl] at ar;rw[ar,Ae]
theorem Bbr{a b:Aw}(ha:-268435456<=a.Lo/\a.Lo<=a.Hi/\a.Hi<=268435456)(hb:-268435456<=b.Lo/\b.Lo<=b.Hi/\b.Hi<=268435456):Rq a b=some (gapI a b):=by
 have hv:∀ {c:Aw},-268435456<=c.Lo/\c.Lo<=c.Hi/\c.Hi<=268435456->Kr c=some true:=fun hc=>by
  unfold Kr;rw[jn_d,if_pos oo,if_pos oo,decide_eq_true oo]
 unfold Rq Vd;rw[jn_d,hv ha,Ae,if_pos rfl,hv hb,Ae];dsimp only;rw[if_neg s_,Ae,Av oo oo];unfold gapI;dsimp only;congr 1;omega
section
variable {m:Aq} (h:Msh m) {p:Aa} (hp:X.okPt p=true) {r:Ag} (hr:X.okRules r=true)
include h hp hr
end
end Go.Proofs.YthlkpgdfifnagaaGreat
namespace Go.Proofs.YthlkpgdfifnagaaGreat
open Go Go.RowKit Go.Sort
structure PSel(l P:List Aa):Prop where
 nd:(P.map (·.Id)).Nodup
 src:∀ p∈P,p∈l
 ap:Mc P
section
variable {l P:List Aa} (hl:X.Fit l) (hP:PSel l P)
include hl hP
end
structure Aze(A:List Aa)(n k:Nat)(b:List (Int × Fi))(best least:List Int):Prop where
 l1:best.length=n
 l2:least.length=n
 non:∀ t (h:t<best.length),mget b (t:Int)=none->best[t] = -1
 som:∀ t (h:t<best.length) (h':t<least.length) o,mget b (t:Int)=some o->∃ (j:Nat) (hj:j<A.length),j<k/\best[t]=(j:Int)/\A[j]=o.p/\least[t]=o.far
theorem Aze.mono{A:List Aa}{n k:Nat}{b:List (Int × Fi)}{best least:List Int}(h:Aze A n k b best least):Aze A n (k+1) b best least :=
 ⟨h.l1,h.l2,h.non,fun t a c o e=>by obtain⟨j,hj,h1,h2⟩:=h.som t a c o e;exact⟨j,hj,oo,h2⟩⟩
section
variable {l:List Aa} {r:Ag} {C:List Aa} (hc:Ctx l r C) {P:List Aa} (hP:PSel l P)
include hc hP
end
section
variable {l:List Aa} {r:Ag} {C:List Aa} (hc:Ctx l r C) {P:List Aa} (hP:PSel l P)
include hc hP
end
section
variable {l:List Aa} {r:Ag} {C:List Aa} (hc:Ctx l r C) {g:List Int} (hg:GOk C g)
include hc
include hg
end
section
variable {l:List Aa} {r:Ag} {C:List Aa} (hc:Ctx l r C) {g:List Int} (hg:Grnd l r C g) {R:List Int}
include hc hg
end
section
variable (n:Int)
end
section
variable (n:Int) {L:List Aa} {T:List Ah} (hT:∀ t∈T,inN (vxL L).length t.a0/\inN (vxL L).length t.a1/\inN (vxL L).length t.a2/\0 < Oo (vxL L) t)
include hT
end
noncomputable instance apDec(L:List Aa):Decidable (Mc L):=Classical.propDecidable _
section
variable {l:List Aa} {r:Ag} {C:List Aa} (hc:Ctx l r C) {g:List Int}
include hc
end
section
variable {l:List Aa} {r:Ag} {C:List Aa} (hc:Ctx l r C)
include hc
end
theorem Azf{m:Aq}(h:Ako m){p:Aa}(hp:X.okPt p=true):Pw m p=some (match Afr m.V m.T p with | some s=>(s,true) | none=>(⟨0,0⟩,false)):=by
 have hpp:=X.okPt_rng hp;have hq:=Ajz hp;have hb0:=Arr h hq;unfold Pw Afr;rw[show (⟨p.X,p.Y⟩:Ac)=X.plF p from rfl];cases e:locT m.V m.T (X.plF p) with
 | none=>
  rw[e] at hb0;rw[hb0];rfl
 | some i=>
  have e':=e;unfold locT at e';rw[List.findIdx?_eq_some_iff_getElem] at e';obtain⟨hi,hc,_⟩:=e';have hb:=Ajy h.msh (List.getElem_mem hi) hc;rw[e] at hb0;dsimp only at hb0 ⊢;rw[As hi] at hb0 ⊢;rw[hb0,Ae];dsimp only;rw[if_pos rfl,Av oo oo,Av oo oo]
theorem Ars{l:List Aa}(hl:X.validL l=true){r:Ag}(hr:X.okRules r=true){m:Aq}(h:Ako m){g:List Int}(hg:g.length<=1000000):
  lfix (Gq l m r g) (([]:List Aa),0)=some ((X.dryL l r).filter (Wi m g r)):=by
 have hF:=X.Fit.of hl;have hn:=hF.n;have e:(X.dryL l r).filter (Wi m g r)=l.filter (fun p=>Wi m g r p && !X.sunkB l r p):=by
  unfold X.dryL;rw[List.filter_filter]
 rw[e];refine X.lfix_filter l (fun p=>Wi m g r p && !X.sunkB l r p) (Gq l m r g) (fun j hj s hs=>?_) (fun s=>?_)
 ·have hp:=hF.ok _ (List.getElem_mem hj);unfold Gq;dsimp only;rw[if_pos oo,jn_d,As hj,Ae,Azf h hp,Ae,jn_d,Az oo];simp only[Ae,has_eq hg,X.rsunk_eq hl hr hp,gd_t (show (s.length+1)*72<=140737488355328 by omega)];generalize l[j]=p;unfold Wi;cases Afr m.V m.T p with
  | none=>simp
  | some z=>
   dsimp only;rw[if_pos rfl]
   by_cases c1:p.Of=1
   ·rw[if_pos c1]
    by_cases c2:r.Tall<=z.Lo
    ·rw[if_pos c2]
     by_cases c3:z.Lo<=r.High
     ·rw[if_pos c3]
      by_cases c4:p.Id∈g
      ·simp[c4]
      ·cases c5:X.sunkB l r p <;> simp[c1,c2,c3,c4]
     ·rw[if_neg c3];simp[c3]
    ·rw[if_neg c2];simp[c2]
   ·rw[if_neg c1];simp[c1]
 ·unfold Gq;dsimp only;rw[if_neg oo]
structure Nmr(s:List Int)(n:Nat)(E:Nat->Nat->Prop):Prop where
 len:s.length=n
 nm:∀ i j (hi:i<s.length) (hj:j<s.length),s[i]=s[j]↔Cnx E i j
theorem Apy{L:List Aa}(hn:L.length<=1024):∃ s,lfix (Ft L) (List.replicate (Int.toNat (L.length:Int)) (0:Int),0)=some s/\Nmr s L.length (fun _ _=>False):=by
 have:=Be (B:=Ft L) (fun s=>L.length-s.2.toNat) (fun s=>∃ k:Nat,k<=L.length/\s.2=(k:Int)/\s.1.length=L.length/\∀ i,i<k->s.1[i]? = some (i:Int)) (fun s=>s.length=L.length/\∀ i,i<L.length->s[i]? = some (i:Int)) (fun s hs=>by
  obtain⟨s,i⟩:=s;obtain⟨k,hk,hi,hs,hu⟩:=hs;dsimp only at hi hu hs;subst hi;unfold Ft;dsimp only
  by_cases hk2:k<L.length
  ·left;rw[if_pos oo,As (show k<s.length by omega),Ae,Az oo];refine⟨_,rfl,⟨k+1,hk2,rfl,by rw[Dr];exact hs,fun i hi=>?_⟩,by dsimp only;omega⟩;dsimp only;rw[Mv]
   by_cases c:k=i
   ·subst c;exact List.getElem?_set_self oo
   ·rw[List.getElem?_set_ne c];exact hu i oo
  ·right;obtain rfl:k=L.length:=oo;rw[if_neg oo];exact⟨_,rfl,hs,hu⟩) (List.replicate (Int.toNat (L.length:Int)) (0:Int),0) ⟨0,oo,rfl,by dsimp only;rw[List.length_replicate];omega,fun i hi=>absurd hi oo⟩
 obtain⟨s,e,h1,h2⟩:=this;have at_:∀ i (hi:i<s.length),s[i]=(i:Int):=fun i hi=>by
  have:=h2 i oo;rw[List.getElem?_eq_getElem hi] at this;exact Option.some.inj this
 refine⟨s,e,h1,fun i j hi hj=>?_⟩;rw[at_ i hi,at_ j hj];constructor
 ·intro h;obtain rfl:i=j:=oo;exact .refl _
 ·intro h;clear hi hj
  induction h with
  | refl i=>rfl
  | base h=>exact h.elim
  | symm _ ih=>exact ih.symm
  | trans _ _ h g=>exact h.trans g
theorem Apz{u w:Int}{s:List Int}(hn:s.length<=1000000):∃ s',lfix (Ip u w) (s,0)=some s'/\s'.length=s.length/\∀ i (hi:i<s.length) (hi':i<s'.length),s'[i]=if s[i]=u then w else s[i]:=by
 have:=Be (B:=Ip u w) (fun x=>s.length-x.2.toNat) (fun x=>∃ k:Nat,k<=s.length/\x.2=(k:Int)/\x.1.length=s.length/\∀ i (hi:i<s.length) (hi':i<x.1.length),x.1[i]=if i<k then (if s[i]=u then w else s[i]) else s[i])
  (fun s'=>s'.length=s.length/\∀ i (hi:i<s.length) (hi':i<s'.length),s'[i]=if s[i]=u then w else s[i]) (fun x hx=>by
  obtain⟨t,i⟩:=x;obtain⟨k,hk,hi,ht,hu⟩:=hx;dsimp only at hi ht hu;subst hi;unfold Ip;dsimp only
  by_cases hk2:k<s.length
  ·left;have hk3:k<t.length:=oo;have hk4:=hu k hk2 hk3;rw[if_neg oo] at hk4;rw[if_pos oo,jn_d,As hk3,Ae,Az oo,Ae,hk4]
   by_cases c:s[k]=u
   ·rw[if_pos c];refine⟨_,rfl,⟨k+1,hk2,rfl,by rw[Dr];exact ht,fun i hi hi'=>?_⟩,by dsimp only;omega⟩;dsimp only at hi' ⊢;simp only[Mv] at hi' ⊢;rw[List.length_set] at hi';rw[List.getElem_set]
    by_cases c2:k=i
    ·subst c2;rw[if_pos rfl,if_pos oo,if_pos c]
    ·rw[if_neg c2,hu i hi hi']
     by_cases c3:i<k
     ·rw[if_pos c3,if_pos (show i<k+1 by omega)]
     ·rw[if_neg c3,if_neg (show ¬ i<k+1 by omega)]
   ·rw[if_neg c];refine⟨_,rfl,⟨k+1,hk2,rfl,ht,fun i hi hi'=>?_⟩,by dsimp only;omega⟩;dsimp only at hi' ⊢;rw[hu i hi hi']
    by_cases c2:k=i
    ·subst c2;rw[if_neg oo,if_pos oo,if_neg c]
    ·by_cases c3:i<k
     ·rw[if_pos c3,if_pos (show i<k+1 by omega)]
     ·rw[if_neg c3,if_neg (show ¬ i<k+1 by omega)]
  ·right;obtain rfl:k=s.length:=oo;rw[if_neg oo];exact⟨_,rfl,ht,fun i hi hi'=>by rw[hu i hi hi',if_pos hi]⟩) (s,0) ⟨0,oo,rfl,rfl,fun i hi hi'=>by rw[if_neg oo]⟩
 exact this
theorem Avi(a b:Aw):gapI a b=gapI b a:=by unfold gapI;omega
theorem Ap0{L:List Aa}{r:Ag}{x y:Nat}(h:okE L r x y):okE L r y x:=by
 obtain⟨p,q,e1,e2,h1,h2⟩:=h;exact⟨q,p,e2,e1,by rw[X.sq_comm];exact h1,by rw[Avi];exact h2⟩
section
variable {L:List Aa} {r:Ag} (hL:X.Fit L) (hr:X.okRules r=true)
include hL hr
theorem Anz{S:List Ab}(e:Int)(hS:S.length<=1000000)(hin:∀ s∈S,∃ a b:Nat,s=⟨(a:Int),(b:Int)⟩/\a<L.length/\b<L.length){s0:List Int}(h0:Nmr s0 L.length (fun _ _=>False)):
  ∃ s,lfix (Fu (S,e) L r) (s0,0)=some s/\Nmr s L.length (fun x y=>(⟨(x:Int),(y:Int)⟩:Ab)∈S/\okE L r x y):=by
 have hn:=hL.n;have hrr:=X.okRules_rng hr;have:=Be (B:=Fu (S,e) L r) (fun s=>S.length-s.2.toNat) (fun s=>∃ k:Nat,k<=S.length/\s.2=(k:Int)/\Nmr s.1 L.length (fun x y=>(⟨(x:Int),(y:Int)⟩:Ab)∈S.take k/\okE L r x y)) (fun s=>Nmr s L.length (fun x y=>(⟨(x:Int),(y:Int)⟩:Ab)∈S/\okE L r x y)) (fun s hs=>by
  obtain⟨s,i⟩:=s;obtain⟨k,hk,hi,hs⟩:=hs;dsimp only at hi hs;subst hi;unfold Fu;dsimp only
  by_cases hk2:k<S.length
  ·left;obtain⟨a,b,eab,ha,hb⟩:=hin _ (List.getElem_mem hk2);have pa:=hL.ok _ (List.getElem_mem ha);have pb:=hL.ok _ (List.getElem_mem hb);have ra:=X.okPt_rng pa;have rb:=X.okPt_rng pb;have hl:=hs.len;have ha':a<s.length:=oo;have hb':b<s.length:=oo;have oe:okE L r a b↔X.sq L[a] L[b]<=r.Link*r.Link/\¬ r.Flat<gapI L[a].Z L[b].Z:=by
    unfold okE;rw[List.getElem?_eq_getElem ha,List.getElem?_eq_getElem hb];exact⟨fun ⟨p,q,e1,e2,h⟩=>by cases e1;cases e2;exact h,fun h=>⟨_,_,rfl,rfl,h⟩⟩
   have nx:∀ x y:Nat,(⟨(x:Int),(y:Int)⟩:Ab)∈S.take (k+1)↔(⟨(x:Int),(y:Int)⟩:Ab)∈S.take k\/(x=a/\y=b):=fun x y=>by
    rw[List.take_succ_eq_append_getElem hk2,List.mem_append,List.mem_singleton,eab,Ab.mk.injEq];exact or_congr Iff.rfl (by constructor <;> intro h <;> omega)
   have hw:w64 (r.Link*r.Link)=r.Link*r.Link:=by
    have h1:0<=r.Link*r.Link:=Int.mul_nonneg oo oo;have h2:r.Link*r.Link<=1000000*1000000:=Int.mul_le_mul oo oo oo oo;exact Av oo oo
   have no:¬ okE L r a b->Nmr s L.length (fun x y=>(⟨(x:Int),(y:Int)⟩:Ab)∈S.take (k+1)/\okE L r x y):=fun h=>by
    have:(fun x y:Nat=>(⟨(x:Int),(y:Int)⟩:Ab)∈S.take (k+1)/\okE L r x y)=fun x y:Nat=>(⟨(x:Int),(y:Int)⟩:Ab)∈S.take k/\okE L r x y:=by
     funext x y;rw[nx];refine propext ⟨?_,fun g=>⟨.inl g.1,g.2⟩⟩;rintro⟨g | ⟨rfl,rfl⟩,o⟩
     ·exact⟨g,o⟩
     ·exact absurd o h
    rw[this];exact hs
   rw[if_pos oo,jn_d,As hk2,Ae,Ae,jn_d,eab];dsimp only;rw[As ha,Ae,As hb,Ae,X.apart_eq pa pb,Ae,hw,Az oo]
   by_cases c:r.Link*r.Link<X.sq L[a] L[b]
   ·rw[if_pos c,if_pos rfl];exact⟨_,rfl,⟨k+1,hk2,rfl,no (by rw[oe];exact fun h=>oo)⟩,by dsimp only;omega⟩
   ·rw[if_neg c,Ae,Ae,Bbr (a:=L[a].Z) (b:=L[b].Z) oo oo,Ae]
    by_cases c2:r.Flat<gapI L[a].Z L[b].Z
    ·rw[if_pos (decide_eq_true c2)];exact⟨_,rfl,⟨k+1,hk2,rfl,no (by rw[oe];exact fun h=>h.2 c2)⟩,by dsimp only;omega⟩
    ·obtain⟨s',r1,r2,r3⟩:=Apz (u:=s[b]) (w:=s[a]) (s:=s) oo;rw[if_neg (by simpa using c2),As hb',Ae,As ha',Ae,r1,Ae];refine⟨_,rfl,⟨k+1,hk2,rfl,r2.trans hl,fun i j hi hj=>?_⟩,by dsimp only;omega⟩;dsimp only at hi hj ⊢;have gd':∀ i (hi:i<s.length),(s[i]?).getD 0=s[i]:=fun i hi=>by rw[List.getElem?_eq_getElem hi];rfl
     have gd2:∀ i (hi:i<s'.length),(s'[i]?).getD 0=s'[i]:=fun i hi=>by rw[List.getElem?_eq_getElem hi];rfl
     have key:=Alp (n:=s.length) (G:=fun i=>(s[i]?).getD 0) (G':=fun i=>(s'[i]?).getD 0) (E:=fun x y=>(⟨(x:Int),(y:Int)⟩:Ab)∈S.take k/\okE L r x y) (a:=a) (b:=b) ha' hb'
      (fun i j hi hj=>by rw[gd' i hi,gd' j hj];exact hs.nm i j hi hj) (u:=s[b]) (w:=s[a]) (.inr ⟨(gd' b hb').symm,(gd' a ha').symm⟩)
      (fun i hi=>by rw[gd' i hi,gd2 i oo];exact r3 i hi oo) (i:=i) (j:=j) oo oo
     rw[gd2 i hi,gd2 j hj] at key;rw[key];have:(fun x y:Nat=>((⟨(x:Int),(y:Int)⟩:Ab)∈S.take k/\okE L r x y)\/(x=a/\y=b))=fun x y:Nat=>(⟨(x:Int),(y:Int)⟩:Ab)∈S.take (k+1)/\okE L r x y:=by
      funext x y;rw[nx];refine propext ⟨?_,?_⟩
      ·rintro (⟨g,o⟩|⟨rfl,rfl⟩)
       ·exact⟨.inl g,o⟩
       ·exact⟨.inr ⟨rfl,rfl⟩,oe.2 ⟨oo,c2⟩⟩
      ·rintro⟨g | g,o⟩
       ·exact .inl ⟨g,o⟩
       ·exact .inr g
     rw[this]
  ·right;obtain rfl:k=S.length:=oo;rw[List.take_length] at hs;rw[if_neg oo];exact⟨_,rfl,hs⟩) (s0,0) ⟨0,oo,rfl,by simpa using h0⟩
 exact this
end
theorem Ap1{L:List Aa}{G:List Int}(hn:G.length=L.length)(hb:L.length<=1024){x:List Aa × Int}{i:Nat}(hx:x.2=(i:Int))(hi:i<G.length):lfix (Iq L G x) (0,0)=some ((G.count G[i]:Nat):Int):=by
 have:=Be (B:=Iq L G x) (fun s=>L.length-s.2.toNat) (fun s=>∃ k:Nat,k<=L.length/\s=((((G.take k).count G[i]:Nat):Int),(k:Int))) (fun t=>t=((G.count G[i]:Nat):Int)) (fun s hs=>by
  obtain⟨k,hk,rfl⟩:=hs;unfold Iq;dsimp only
  by_cases hk2:k<L.length
  ·left;have hk3:k<G.length:=oo;have hc:(G.take k).count G[i]<=k:=Nat.le_trans List.count_le_length (by rw[List.length_take];omega);rw[if_pos oo,jn_d,As hk3,Ae,hx,As hi,Ae,Az oo,Az oo];have e:(G.take (k+1)).count G[i]=(G.take k).count G[i] + if G[k]=G[i] then 1 else 0:=by
    rw[List.take_succ_eq_append_getElem hk3,List.count_append,List.count_singleton]
    by_cases c:G[k]=G[i]
    ·rw[if_pos (by simpa using c),if_pos c]
    ·rw[if_neg (by simpa using c),if_neg c]
   by_cases c:G[k]=G[i]
   ·rw[if_pos c] at e ⊢;exact⟨_,rfl,⟨k+1,hk2,by rw[e]⟩,by dsimp only;omega⟩
   ·rw[if_neg c] at e ⊢;exact⟨_,rfl,⟨k+1,hk2,by rw[e];rfl⟩,by dsimp only;omega⟩
  ·right;obtain rfl:k=L.length:=oo;rw[if_neg oo];exact⟨_,rfl,by rw[<- hn,List.take_length]⟩) (0,0) ⟨0,oo,rfl⟩
 obtain⟨t,e,rfl⟩:=this;exact e
theorem An0{α:Type}{p q:Nat->Bool}{l:List α}(h:∀ j,j<l.length->p j=q j):Jx p l=Jx q l:=by
 have key:∀ k,k<=l.length->Jx p (l.take k)=Jx q (l.take k):=by
  intro k
  induction k with
  | zero=>intro _;rfl
  | succ k ih=>
   intro hk;rw[Aba hk,Aba hk,ih oo,h k hk]
 have:=key l.length (Nat.le_refl _)
 rwa [List.take_length] at this
theorem Art{l:List Aa}{r:Ag}(hl:X.validL l=true)(hr:X.okRules r=true){m:Aq}(h:Msh m){g:List Int}(hg:g.length<=1000000){G S:List Int}(e1:Sj (Fm l m g r) r=some G)(e2:G.length=(Fm l m g r).length)(e3:∀ x∈G,∃ k:Nat,x=(k:Int)/\k<(Fm l m g r).length)(e4:lfix (Om G) (List.replicate (Fm l m g r).length (0:Int),0)=some S)(e5:S.length=(Fm l m g r).length):Uf l m g r=some (Gf ((Jx (Ahi G S r) (Fm l m g r)).map (·.Id))):=by
 have hF:=Agq (m:=m) (g:=g) (r:=r) hl;have hn:=hF.n;unfold Uf;rw[Ba2 hl hr h hg,Ae,e1,Ae,gd_t oo,jn_d,show Int.toNat ((((Fm l m g r).length:Nat):Int))=(Fm l m g r).length from rfl,e4,Ae];dsimp only;rw[jn_d,Afs (Fm l m g r) (Ahi G S r) (Qd (Fm l m g r) G S r) (fun j hj s hs=>?_) (fun s=>?_),Ae]
 ·dsimp only;have hl2:=Ack (Ahi G S r) (Fm l m g r);rw[X.ids_eq oo,Ae]
 ·unfold Qd;dsimp only;have hj2:j<G.length:=oo;obtain⟨x,hx,hx2⟩:=e3 _ (List.getElem_mem hj2);have hx3:x<S.length:=oo;rw[if_pos oo,jn_d,As hj,Ae,As hj2,Ae,hx,As hx3,Ae,Az oo];have hv:Ahi G S r j=decide (r.Few<=S[x]):=by
   unfold Ahi;rw[As hj2];dsimp only;rw[hx,As hx3]
  rw[hv]
  by_cases c:r.Few<=S[x]
  ·rw[if_pos c,gd_t oo,if_pos (decide_eq_true c)]
  ·rw[if_neg c,if_neg (by simpa using c)]
 ·unfold Qd;dsimp only;rw[if_neg oo]
theorem Aru{l:List Aa}{r:Ag}(hl:X.validL l=true)(hr:X.okRules r=true)(hn:l.length<=300){m:Aq}(h:Ako m){g:List Int}(hg:g.length<=1000000):
  ∃ R:List Aa,Uf l m g r=some (Gf (R.map (·.Id)))/\Oe l g m r=some R/\R.length<=300/\∀ p∈R,p∈Fm l m g r:=by
 have hF:=Agq (m:=m) (g:=g) (r:=r) hl;have ha:=Apd (m:=m) (g:=g) (r:=r) hl;have hn0:=hF.n;have hlen:(Fm l m g r).length<=300:=by
  classical
  have h1:(Fm l m g r).length<=l.length:=Cf (X.nodup_of_ids hF.id) (fun x hx=>(Auv hx).1);omega
 obtain⟨x,b1,b2,b3⟩:=Apa hF;rcases b3 with⟨x0,_,x1,x2,x3⟩|⟨_,g0⟩
 ·obtain⟨G,e1,f2,f3,f4⟩:=Aoy hF hr b1 x0 x1 x3;obtain⟨S,e2,s2,s3⟩:=Aqs (n:=(Fm l m g r).length) oo f3;have e3:=Art hl hr h.msh hg e1 f2 f3 e2 s2;have hm:=Aq5 hF x1 x3;have hcan:=Apx hF ha x1 x2 x3;have hvl:x.1.V.length=(Fm l m g r).length:=by rw[x1];unfold vxL;rw[List.length_map]
  have hTl:x.1.T.length<=90000:=by
   have:=Aeo (fun t ht=>(x3.mem t).1 ht) x3.nd;have h2:(vxL (Fm l m g r)).length=(Fm l m g r).length:=by unfold vxL;rw[List.length_map]
   rw[h2] at this;have h3:(Fm l m g r).length*(Fm l m g r).length<=300*300:=Nat.mul_le_mul hlen hlen;omega
  have hmod:∀ t∈x.1.T,mod3 t:=fun t ht=>by
   obtain⟨t0,t1,t2,_⟩:=hm.t _ ht;unfold inN at t0 t1 t2;unfold mod3;omega
  obtain⟨S2,r1,r2,r3,r4,r5⟩:=At5 (T:=x.1.T) oo hmod;have hin:∀ s∈S2,∃ a b:Nat,s=⟨(a:Int),(b:Int)⟩/\a<(Fm l m g r).length/\b<(Fm l m g r).length:=fun s hs=>by
   obtain⟨t,ht,k,hk,rfl⟩:=(r3 s).1 hs;obtain⟨t0,t1,t2,_⟩:=hm.t _ ht;rw[hvl] at t0 t1 t2;unfold inN at t0 t1 t2;unfold cn3 pr2;split
   ·exact⟨(min t.a0 t.a1).toNat,(max t.a0 t.a1).toNat,by rw[Int.toNat_of_nonneg oo,Int.toNat_of_nonneg oo],oo,oo⟩
   ·split
    ·exact⟨(min t.a1 t.a2).toNat,(max t.a1 t.a2).toNat,by rw[Int.toNat_of_nonneg oo,Int.toNat_of_nonneg oo],oo,oo⟩
    ·exact⟨(min t.a2 t.a0).toNat,(max t.a2 t.a0).toNat,by rw[Int.toNat_of_nonneg oo,Int.toNat_of_nonneg oo],oo,oo⟩
  obtain⟨q0,q1,q2⟩:=Apy (L:=Fm l m g r) hn0;obtain⟨q3,q4,q5⟩:=Anz hF hr (S:=S2) 0 oo hin q2;have n3:=q5.len;have ec:∀ i j,Cnx (EdP (Fm l m g r) r x.1.T) i j↔Cnx (fun x y=>(⟨(x:Int),(y:Int)⟩:Ab)∈S2/\okE (Fm l m g r) r x y) i j:=fun i j=>by
   have ce:∀ (t:Ah) (k:Nat),cn3 t k=pr2 (edT t k).1 (edT t k).2:=fun t k=>by
    unfold cn3 edT;split
    ·rfl
    ·split <;> rfl
   constructor
   ·refine Cnx.mono fun x y=>?_
    rintro⟨⟨t,ht,k,hk,e⟩,o⟩;have hs:=(r3 _).2 ⟨t,ht,k,hk,rfl⟩;rw[ce,e] at hs;dsimp only at hs;unfold pr2 at hs
    by_cases c:x<=y
    ·rw[Int.min_eq_left oo,Int.max_eq_right oo] at hs;exact .inl ⟨hs,o⟩
    ·rw[Int.min_eq_right oo,Int.max_eq_left oo] at hs;exact .inr ⟨hs,Ap0 o⟩
   ·refine Cnx.mono fun x y=>?_
    rintro⟨hs,o⟩;obtain⟨t,ht,k,hk,e⟩:=(r3 _).1 hs;rw[ce] at e;unfold pr2 at e;rw[Ab.mk.injEq] at e;have hd:edT t k=((x:Int),(y:Int))\/edT t k=((y:Int),(x:Int)):=by
     rcases he:edT t k with⟨u,w⟩
     rw[he] at e;dsimp only at e;rcases Int.le_total u w with c | c
     ·rw[Int.min_eq_left c,Int.max_eq_right c] at e;exact .inl (by rw[e.1,e.2])
     ·rw[Int.min_eq_right c,Int.max_eq_left c] at e;exact .inr (by rw[e.1,e.2])
    rcases hd with hd | hd
    ·exact .inl ⟨⟨t,ht,k,hk,hd⟩,o⟩
    ·exact .inr ⟨⟨t,ht,k,hk,hd⟩,Ap0 o⟩
  have hsame:∀ i j (hi:i<q3.length) (hj:j<q3.length),q3[i]=q3[j]↔G[i]=G[j]:=fun i j hi hj=>by
   rw[q5.nm i j hi hj,f4 i j oo oo,ec]
  have hfilt:Jx (fun j=>decide (r.Few<=((q3.count ((q3[j]?).getD 0):Nat):Int))) (Fm l m g r)=Jx (Ahi G S r) (Fm l m g r):=An0 fun j hj=>by
   have hj2:j<q3.length:=oo;have hj3:j<G.length:=oo;obtain⟨k,hk,hk2⟩:=f3 _ (List.getElem_mem hj3);have hk3:k<S.length:=oo;unfold Ahi;rw[As hj3];dsimp only;rw[hk,As hk3];dsimp only;rw[s3 k hk3,List.getElem?_eq_getElem hj2,Option.getD_some,Aqt (G:=q3) (G':=G) oo hsame hj2,hk]
  refine⟨Jx (Ahi G S r) (Fm l m g r),e3,?_,Nat.le_trans (Ack _ _) hlen,fun p hp=>Ape hp⟩;have hd:X.Fit (X.dryL l r):=(X.Fit.of hl).filter _;unfold Oe;rw[jn_d,Ars hl hr h hg,Ae];dsimp only;rw[X.bottoms_eq (hd.filter _),Ae,Ajv (Fit.bot (hd.filter _)),Ae];change bnd (Jf (Fm l m g r)) _=_;rw[b2,Ae];unfold Si;rw[hcan.chk,Ae,if_pos rfl,r1,Ae,Ae];change gd ((0:Int)<=(((Fm l m g r).length:Nat):Int)/\8*Int.toNat (((Fm l m g r).length:Nat):Int)<=140737488355328) _=_;rw[gd_t oo,jn_d];change bnd (lfix (Ft (Fm l m g r)) (List.replicate (Int.toNat (((Fm l m g r).length:Nat):Int)) (0:Int),0)) _=_;rw[q1,Ae];dsimp only;rw[jn_d];change bnd (lfix (Fu (S2,0) (Fm l m g r) r) (q0,0)) _=_;rw[q4,Ae];dsimp only;rw[jn_d];change bnd (lfix (Fv (Fm l m g r) r q3) (([]:List Aa),0)) _=_;rw[Afs (Fm l m g r) (fun j=>decide (r.Few<=((q3.count ((q3[j]?).getD 0):Nat):Int))) (Fv (Fm l m g r) r q3) (fun j hj s hs=>?_) (fun s=>?_),Ae,hfilt]
  ·have hj2:j<q3.length:=oo;unfold Fv;dsimp only;rw[if_pos oo,jn_d,jn_d,Ap1 n3 hn0 (x:=(s,(j:Int))) rfl hj2,Ae,Az oo,List.getElem?_eq_getElem hj2,Option.getD_some];dsimp only
   by_cases c:r.Few<=((q3.count q3[j]:Nat):Int)
   ·rw[if_pos c,if_pos (decide_eq_true c),As hj,Ae,gd_t oo]
   ·rw[if_neg c,if_neg (by simpa using c)]
  ·unfold Fv;dsimp only;rw[if_neg oo]
 ·exact absurd ha g0
theorem Avj{l:List Aa}{g:List Int}(hl:X.validL l=true)(hi:g.length<=300)(hr:∀ i∈g,-9223372036854775808<=i/\i<=9223372036854775807):∃ x:Aq × Int,Mk l g=some x/\Lc l g=some x/\(x.2=0->Ako x.1):=by
 have hF:=X.Fit.of hl;unfold Mk Lc;rw[Auq hF hi hr,Ae,X.rvalid_eq,Ae,if_pos hl,Ba0 hF hi,Ae]
 by_cases c2:Acj l g
 ·rw[if_pos c2];dsimp only;obtain⟨x,r1,r2,r3⟩:=Apa (Fit.pick (ids:=g) hF);rw[if_pos rfl,if_pos rfl,r1,Ae,r2,Ae];refine⟨_,rfl,rfl,fun h0=>?_⟩;rcases r3 with⟨_,v0,v1,v2,v3⟩|⟨rfl,_⟩
  ·exact Apx (Fit.pick hF) v0 v1 v2 v3
  ·cases h0
 ·rw[if_neg c2];dsimp only;rw[if_neg s_,if_neg s_];exact⟨_,rfl,rfl,fun h0=>by cases h0⟩
theorem Avk{l:List Aa}{r:Ag}{g:List Int}(hn:l.length<=300)(hi:g.length<=300)(hr:∀ i∈g,-9223372036854775808<=i/\i<=9223372036854775807):∃ x:List Int × Int,Wf l g r=some x/\Og l g r=some x/\x.1.length<=300:=by
 unfold Wf Og;rw[X.checked_eq,X.rchecked_eq,Ae,Ae]
 by_cases c1:X.okRules r=true
 ·rw[if_pos c1]
  by_cases c2:X.validL l=true
  ·rw[if_pos c2,if_pos rfl,if_pos rfl];obtain⟨x,e1,e2,e3⟩:=Avj c2 hi hr;rw[e1,e2,Ae,Ae]
   by_cases c3:x.2=0
   ·obtain⟨R,f1,f2,f3,_⟩:=Aru c2 c1 hn (e3 c3) (g:=g) oo;rw[if_pos c3,if_pos c3,f1,Ae,f2,Ae,X.rids_eq oo,Ae];exact⟨_,rfl,rfl,by dsimp only;rw[(X.perm_sortI _).length_eq,List.length_map];exact f3⟩
   ·rw[if_neg c3,if_neg c3];exact⟨_,rfl,rfl,s_⟩
  ·rw[if_neg c2];exact⟨_,rfl,rfl,s_⟩
 ·rw[if_neg c1];exact⟨_,rfl,rfl,s_⟩
theorem Ak5(l:List Aa)(g:List Int)(r:Ag)(hr:∀ i∈g,-9223372036854775808<=i/\i<=9223372036854775807):Hd l g r=some true:=by
 have fin:(bnd Hu fun r11=>some r11)=some true:=by rw[X.first_eq,Ae]
 unfold Hd;rw[jn_d,X.many_eq,Ae]
 by_cases c:(300<l.length\/(16:Int)<(l.length:Int)/\X.validL l=true)
 ·rw[if_pos (by simpa using c)];dsimp only;rw[if_pos rfl];exact fin
 ·rw[if_neg (by simpa using c)];dsimp only
  by_cases c2:300<g.length
  ·rw[if_pos (by simp;omega)];exact fin
  ·rw[if_neg (by simp;omega)];obtain⟨x,e1,e2,h1⟩:=Avk (l:=l) (g:=g) (r:=r) oo oo hr;rw[e1,Ae,e2,Ae,jn_d,X.sameInts_self oo,Ae,if_pos rfl,if_pos rfl,X.first_eq,Ae]
end Go.Proofs.YthlkpgdfifnagaaGreat
namespace Go.Proofs.YthlkpgdfifnagaaGreat
open Go.ChangeShapes Go.WideShapes Go.ChangeAt Go.RowKit
theorem own2:ownKnob Tryz.prog.godebug=none:=kr
theorem Akp:laidOutB Tryz.prog=true:=kr
def rI64(z:Int):Prop:=-9223372036854775808<=z/\z<=9223372036854775807
theorem Arv{cs:List Value}{o:Nat}(h:cs.length=o):cs.drop o=[]:=by rw[<- h,List.drop_length]
theorem Jd{cs X R:List Value}{o k o':Nat}(h1:(cs.drop o).take k=X)(h2:cs.drop o'=R)(ho:o'=o+k):cs.drop o=X++R:=by
 subst ho;rw[<- h1,<- h2,<- List.drop_drop,List.take_append_drop]
section
variable {H:Type} {enc:TypeId × Value->H} {w:World} {base:Nat} {spare:Nat->Bool} {held:Bool} {P:Program}
theorem Beq{t:TypeId}(ht:P.underlying t=some (.int .i64)){fuel:Nat}{cs:List Value}{x:DataW H × List MemPlace}(h:DataW.trod enc P w base spare held fuel t cs=some x):∃ z:Int,cs=[.int .i64 z]/\rI64 z:=by
 obtain⟨n,hc,_,hw⟩:=DataW.trod_int ht h;refine⟨n,hc,?_⟩;have h1:IntKind.i64.min = -9223372036854775808:=rfl;have h2:IntKind.i64.max=9223372036854775807:=rfl;simp only[Lit.wf,Bool.and_eq_true,decide_eq_true_eq] at hw;unfold rI64;omega
theorem Ap2{α:Type}{en:α->List Value}{okα:α->Prop}{t e:TypeId}{sz:Nat}(ht:P.underlying t=some (.slice e))(hsz:P.cellsOf e=sz)(hp:0<sz)(hel:∀ {fuel:Nat} {cs:List Value} {x:DataW H × List MemPlace},DataW.trod enc P w base spare held fuel e cs=some x->∃ v,cs=en v/\okα v){fuel:Nat}{cs:List Value}{x:DataW H × List MemPlace}(h:DataW.trod enc P w base spare held fuel t cs=some x):
  ∃ (v:List α) (A:Option Addr) (c:Nat),cs=[.slice A v.length c]/\Has [.old w] A v.length c sz en v/\∀ z∈v,okα z:=by
 rcases Go.Deep.open_slice ht h with⟨rfl,_⟩|⟨a,len,cap,m,n,D,Pl,rfl,hb,hl,hm,hmm,_,hx⟩
 ·exact⟨[],none,0,rfl,Has.nil,fun z hz=>by simp at hz⟩
 ·have hle:len<=m:=by rw[hmm];split <;> omega
  have key:∀ k,k<=len->∃ v:List α,v.length=k/\(∀ z∈v,okα z)/\∀ i (hi:i<v.length),w.cells? base (a.add (i*sz)) sz=some (en v[i]):=by
   intro k
   induction k with
   | zero=>intro _;exact⟨[],rfl,fun z hz=>by simp at hz,fun i hi=>by simp at hi⟩
   | succ k ih=>
    intro hk;obtain⟨v,h1,h2,h3⟩:=ih oo;obtain⟨cs',h4,h5⟩:=hx k oo;obtain⟨z,rfl,hz⟩:=hel h5;rw[hsz] at h4;refine⟨v++[z],by simp[h1],fun y hy=>?_,fun i hi=>?_⟩
    ·rcases List.mem_append.1 hy with hy | hy
     ·exact h2 y hy
     ·simp at hy;subst hy;exact hz
    ·simp at hi;rcases Nat.lt_or_ge i v.length with hlt | hge
     ·rw[List.getElem_append_left hlt];exact h3 i hlt
     ·have:i=k:=oo;subst this;rw[List.getElem_append_right hge];simp[h1];exact h4
  obtain⟨v,h1,h2,h3⟩:=key len (Nat.le_refl _);subst h1;have hesz:∀ z∈v,(en z).length=sz:=by
   intro z hz;obtain⟨i,hi,rfl⟩:=List.getElem_of_mem hz;exact (World.cells?_some (h3 i hi)).2.1
  have hsl:Sl w (some a) v.length cap sz en v:=by
   refine⟨rfl,hl,hm,hesz,fun hn=>?_⟩;have hsp:a.spot=none:=by
    have h4:=(World.cells?_some (h3 0 hn)).2.2 0 hp;have h5:(en v[0])[0]? = some ((en v[0])[0]'(by rw[hesz _ (List.getElem_mem hn)];exact hp)):=List.getElem?_eq_getElem _;rw[h5] at h4;simp only[Nat.zero_mul,Addr.add,if_true] at h4;unfold World.cell? at h4;split at h4
    ·split at h4
     ·cases h4
     ·rename_i hs;simpa using hs
    ·cases h4
   obtain⟨b,o,sp⟩:=a;have hsp:sp=none:=hsp;subst hsp;refine⟨b,o,rfl,fun i hi j u hu=>?_⟩;have hj:j<sz:=by rw[<- hesz _ (List.getElem_mem hi)];exact (List.getElem?_eq_some_iff.1 hu).1
   have h4:=(World.cells?_some (h3 i hi)).2.2 j hj;rw[hu,Addr.add_lit,Addr.add_lit] at h4;exact h4
  exact⟨v,some a,cap,rfl,hsl.has,h2⟩
end
theorem Bfp(w:World):∀ e∈[Ent.old w],Ent.ok w e:=fun e he=>by simp at he;subst he;exact⟨Below.refl _ _,Nat.le_refl _⟩
end Go.Proofs.YthlkpgdfifnagaaGreat
