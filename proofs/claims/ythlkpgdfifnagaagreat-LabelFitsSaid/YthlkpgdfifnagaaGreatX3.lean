import Derived.Test.YthlkpgdfifnagaaGreatI4
set_option maxRecDepth 100000
set_option maxHeartbeats 1000000
namespace Go.Proofs.YthlkpgdfifnagaaGreat
open Go Go.RowKit Tryz List
theorem Aji(x y:Rat)(hy:y≠0):x / y=mkRat (x.num*y.den*y.num.sign) (x.den*y.num.natAbs):=by
 have hyn:y.num≠0:=fun h=>hy (Rat.num_eq_zero.1 h)
 rw[Rat.div_def,Rat.mul_def',Rat.num_inv,Rat.den_inv,if_neg hyn];congr 1;rw[Int.mul_assoc,Int.mul_comm (y.den:Int)]
theorem Aga(z:Int):z.sign=if z<0 then -1 else if z=0 then 0 else 1:=by
 rcases Int.lt_trichotomy z 0 with h | h | h
 ·rw[if_pos h,Int.sign_eq_neg_one_of_neg h]
 ·subst h;rfl
 ·rw[if_neg oo,if_neg oo,Int.sign_eq_one_of_pos h]
theorem Bdz{x y:Rat}{i j:Nat}(hx:Sml i x)(hy:Sml j y)(h:i+j<=80000)(h0:y≠0):Og (QR x) (QR y)=some (QR (x / y)):=by
 have hyn:y.num≠0:=fun h=>h0 (Rat.num_eq_zero.1 h)
 have hxd:(0:Int)<(x.den:Int):=by have:=den0 x;omega
 have hyd:(0:Int)<(y.den:Int):=by have:=den0 y;omega
 have a1:=hx.n;have a2:=hx.d;have a3:=hy.n;have a4:=hy.d;have b1:(dig 65536 (x.num*(y.den:Int)).natAbs).length<=i+j:=Eu (by rw[Int.natAbs_mul,Int.natAbs_natCast];exact Kw hx.1 hy.2);have b2:(dig 65536 (y.num*(x.den:Int)).natAbs).length<=j+i:=Eu (by rw[Int.natAbs_mul,Int.natAbs_natCast];exact Kw hy.1 hx.2);unfold Og;simp only[QR,Agd,jn_d];rw[Ajq (by rw[Int.natAbs_natCast];omega),Ad,Ajq (by rw[Int.natAbs_natCast];omega),Ad];have e1:x.num*(y.den:Int)<0↔x.num<0:=⟨fun h=>by
   rcases Int.lt_or_le x.num 0 with h' | h'
   ·exact h'
   ·have:=Int.mul_nonneg h' (Int.le_of_lt hyd);omega,fun h=>Int.mul_neg_of_neg_of_pos h hyd⟩
 have e2:y.num*(x.den:Int)<0↔y.num<0:=⟨fun h=>by
   rcases Int.lt_or_le y.num 0 with h' | h'
   ·exact h'
   ·have:=Int.mul_nonneg h' (Int.le_of_lt hxd);omega,fun h=>Int.mul_neg_of_neg_of_pos h hxd⟩
 have hd0:(y.num*(x.den:Int)).natAbs≠0:=by rw[Int.natAbs_mul];exact Nat.mul_ne_zero oo oo
 have ed:x.den*y.num.natAbs=(y.num*(x.den:Int)).natAbs:=by rw[Int.natAbs_mul,Int.natAbs_natCast,Nat.mul_comm]
 rw[Aji x y h0,ed];have key:∀ z:Int,z.natAbs=(x.num*(y.den:Int)).natAbs->Do (Z16 z) ⟨false,L16 (y.num*(x.den:Int)).natAbs⟩=some (QR (mkRat z (y.num*(x.den:Int)).natAbs)):=fun z hz=>Aoz hd0 (by rw[hz];omega) oo
 have fin:∀ q:Rat,(some (⟨(⟨(QR q).N.Neg,(QR q).N.L⟩:Af),(QR q).D⟩:Ak))=some (QR q):=fun _=>rfl
 by_cases hs:((Z16 (x.num*(y.den:Int))).Neg == (Z16 (y.num*(x.den:Int))).Neg)=true
 ·rw[if_pos hs];simp only[Ab9];have hs:(decide (x.num*(y.den:Int)<0) == decide (y.num*(x.den:Int)<0))=true:=hs;have hz:=key ((x.num*(y.den:Int)).natAbs:Int) oo;rw[<- Agd] at hz;rw[hz,Ad];show some (QR _)=some (QR _);congr 3;have hs':=eq_of_beq hs;rw[decide_eq_decide,e1,e2] at hs';rw[Aga]
  by_cases hn:y.num<0
  ·rw[if_pos hn];have:=e1.2 (hs'.2 hn);omega
  ·rw[if_neg hn,if_neg hyn];have:¬ x.num*(y.den:Int)<0:=fun h=>hn (hs'.1 (e1.1 h));omega
 ·rw[if_neg hs];simp only[Ab9];have hs:¬ (decide (x.num*(y.den:Int)<0) == decide (y.num*(x.den:Int)<0))=true:=hs;have hs':¬ (x.num<0↔y.num<0):=fun h=>hs (by rw[show decide (x.num*(y.den:Int)<0)=decide (y.num*(x.den:Int)<0) from decide_eq_decide.2 (e1.trans (h.trans e2.symm))];simp)
  have hz:=key (-((x.num*(y.den:Int)).natAbs:Int)) oo;have ez:(⟨decide (0<(((L16 (x.num*(y.den:Int)).natAbs).length:Nat):Int)),L16 (x.num*(y.den:Int)).natAbs⟩:Af)=Z16 (-((x.num*(y.den:Int)).natAbs:Int)):=by
   unfold Z16;rw[Int.natAbs_neg,Int.natAbs_natCast,Abi];congr 1
   by_cases h:(x.num*(y.den:Int)).natAbs=0
   ·rw[decide_eq_false (by simp[h]),decide_eq_false oo]
   ·rw[decide_eq_true h,decide_eq_true oo]
  show bnd (Do ⟨decide (0<(((L16 (x.num*(y.den:Int)).natAbs).length:Nat):Int)),L16 (x.num*(y.den:Int)).natAbs⟩ ⟨false,L16 (y.num*(x.den:Int)).natAbs⟩) (fun r34=>some (⟨⟨r34.N.Neg,r34.N.L⟩,r34.D⟩:Ak))=_;rw[ez,hz,Ad];show some (QR _)=some (QR _);congr 3;rw[Aga]
  by_cases hn:y.num<0
  ·rw[if_pos hn];have:¬ x.num*(y.den:Int)<0:=fun h=>hs' ⟨fun _=>hn,fun _=>e1.1 h⟩;omega
  ·rw[if_neg hn,if_neg hyn]
   by_cases hxn:x.num<0
   ·have:=e1.2 hxn;omega
   ·exact absurd ⟨fun h=>absurd h hxn,fun h=>absurd h hn⟩ hs'
theorem Sml.div{x y:Rat}{i j:Nat}(hx:Sml i x)(hy:Sml j y)(h0:y≠0):Sml (i+j) (x / y):=by
 have hyn:y.num≠0:=fun h=>h0 (Rat.num_eq_zero.1 h)
 rw[Aji x y h0];refine Sml.mkRat (Nat.mul_ne_zero (den0 x) oo) ?_ (Kw hx.2 hy.1);rw[Int.natAbs_mul,Int.natAbs_mul,Int.natAbs_natCast];have:y.num.sign.natAbs=1:=by rw[Aga];split <;> (try split) <;> omega
 rw[this,Nat.mul_one];exact Kw hx.1 hy.2
theorem Avg{a d:Nat}(hd:0<d)(ha:0<a):(-(a:Int)) / (d:Int) = -(((a / d+if a % d=0 then 0 else 1:Nat)):Int):=by
 have h1:=Nat.div_add_mod a d;have h2:=Nat.mod_lt a hd;have h3:(a:Int)=d*((a / d:Nat):Int)+((a % d:Nat):Int):=by rw[<- Int.natCast_mul,<- Int.natCast_add,h1]
 generalize a / d=q at *;generalize a % d=r at *
 by_cases h0:r=0
 ·subst h0;rw[if_pos rfl,h3];rw[show -((d:Int)*(q:Int)+((0:Nat):Int))=(d:Int)*(-(q:Int)) by rw[Int.mul_neg];simp,Int.mul_ediv_cancel_left _ oo];simp
 ·rw[if_neg h0];refine ((Int.ediv_emod_unique (r:=(d:Int)-r) oo).2 ⟨?_,oo,oo⟩).1;rw[h3,Int.natCast_add];have:(d:Int) * -((q:Int)+((1:Nat):Int)) = -(d*q)-d:=by rw[Int.mul_neg,Int.mul_add];simp;omega
  rw[this];omega
theorem Bb5{z:Int}{d:Nat}(hd:d≠0)(h1:(dig 65536 z.natAbs).length<=80000)(h2:(dig 65536 d).length<=80000):Ha (Z16 z) ⟨false,L16 d⟩=some (Z16 (z / (d:Int))):=by
 unfold Ha;simp only[Ab9,jn_d];rw[Adt hd oo oo,Ad,Nh]
 by_cases h:z<0
 ·rw[if_pos (by simpa using h)];simp only[];have hz:z = -((z.natAbs:Nat):Int):=oo;have e:=Avg (a:=z.natAbs) (Nat.pos_of_ne_zero hd) oo;rw[<- hz] at e;have hp:=Agc (a:=z.natAbs % d)
  by_cases h0:z.natAbs % d=0
  ·rw[if_neg (by have:=hp.2 h0;omega)];rw[if_pos h0] at e;rw[e,Abi];unfold Z16;congr 2
   ·generalize z.natAbs / d=q at *
    by_cases hq:q=0
    ·rw[decide_eq_false (by simp[hq]),decide_eq_false oo]
    ·rw[decide_eq_true hq,decide_eq_true oo]
   ·congr 1;generalize z.natAbs / d=q at *;omega
  ·rw[if_pos (by have:(L16 (z.natAbs % d)).length≠0:=fun e=>h0 (hp.1 e);omega)];rw[if_neg h0] at e;have hl:(dig 65536 (z.natAbs / d)).length<=80000:=Nat.le_trans (Rr (Nat.div_le_self _ _)) h1;rw[Ba5,Avu oo (by rw[Af7 oo];simp),Ad,e,Abi];unfold Z16;generalize z.natAbs / d=q at *;congr 2
   ·rw[decide_eq_true (show q+1≠0 by omega),decide_eq_true oo]
 ·rw[if_neg (by simpa using h)];have hz:z=((z.natAbs:Nat):Int):=oo;rw[show z / (d:Int)=((z.natAbs / d:Nat):Int) by rw[hz,Int.natCast_ediv,Int.natAbs_natCast]];rw[<- Agd]
theorem Aqq{x:Rat}{i:Nat}(hx:Sml i x)(h:i<=40000):Ik (QR x)=some (Z16 x.floor):=by
 have a1:=hx.n;have a2:=hx.d;unfold Ik QR;simp only[];rw[Bb5 (den0 x) oo oo,Ad,Rat.floor_def]
theorem Bb6{x:Rat}{i:Nat}(hx:Sml i x)(h:i<=40000):Ms (QR x)=some (Z16 (-(-x).floor)):=by
 unfold Ms;rw[Aqy,Ad,Aqq hx.neg h,Ad,Ak8,Ad]
theorem Asq(l:List Nat)(hl:∀ x∈l,x<65536)(h4:l.length<=4)(hv:val 65536 l<4611686018427387905)(p:Af)(hp:p.L=nI l):lfix (Eq p) (0,(l.length:Int)-1)=some ((val 65536 l:Nat):Int):=by
 obtain⟨t,ht,rfl⟩:=Bn (B:=Eq p) (fun s=>(s.2+1).toNat)
  (fun s=>∃ k:Nat,s=(((val 65536 (l.drop k):Nat):Int),(k:Int)-1)/\k<=l.length)
  (fun t=>t=((val 65536 l:Nat):Int)) (by
   rintro s ⟨k,rfl,hk⟩;unfold Eq
   by_cases h0:k=0
   ·right;subst h0;exact⟨_,by simp only[];rw[if_neg oo],by rw[drop_zero]⟩
   ·left;have h1:k-1<l.length:=oo;have hx:=hl _ (getElem_mem h1);have hd:=Si (b:=65536) l (k-1) h1;rw[show k-1+1=k by omega] at hd;have hle:val 65536 (l.drop (k-1))<=val 65536 l:=by
     have:=Aca l (k-1) oo;have h2:val 65536 (l.drop (k-1))<=65536 ^ (k-1)*val 65536 (l.drop (k-1)):=Nat.le_mul_of_pos_left _ (Nat.pow_pos oo);omega
    refine⟨(((val 65536 (l.drop (k-1)):Nat):Int),((k-1:Nat):Int)-1),?_,⟨k-1,rfl,oo⟩,by simp;omega⟩;simp only[hp];rw[if_pos oo,show ((k:Int)-1)=((k-1:Nat):Int) from by omega,Dy h1,Ad,hd];generalize val 65536 (l.drop k)=H at *;generalize l[k-1]=x at *;rw[As (x:=(H:Int)*65536) oo oo,As oo oo,As oo oo];congr 3;omega)
  (0,(l.length:Int)-1) ⟨l.length,by simp[val],Nat.le_refl _⟩
 exact ht
theorem Bb7{z:Int}(h:z.natAbs<=1152921504606846976):Jt (Z16 z)=some (z,true):=by
 have hl:(dig 65536 z.natAbs).length<=4:=Eu oo;have hv:=Di (b:=65536) oo z.natAbs;have hf:=Asq (dig 65536 z.natAbs) (Nq oo _) hl (by rw[hv];omega) (Z16 z) Ab9;rw[hv] at hf;have fin:(jn (fun (s6:Int)=>
   jn (fun (s15:Bool)=>
   if s15=true then (some ((0:Int),false))
   else (jn (fun (s17:Int)=>
   some (s17,true))
   (fun j17=>if (Z16 z).Neg=true then (j17 (w64 (-s6)))
   else (j17 s6))))
   (fun j15=>if s6<0 then (j15 true)
   else (j15 (decide (4611686018427387904<s6)))))
   (fun j6=>bnd (lfix (Eq (Z16 z)) (0,w64 (((((dig 65536 z.natAbs).length:Nat):Int))-1))) fun t39=>
   j6 t39))=some (z,true):=by
  simp only[jn_d];rw[As oo oo,hf,Ad,if_neg oo,if_neg (by simp;omega),Nh]
  by_cases hn:z<0
  ·rw[if_pos (by simpa using hn),As oo oo];congr 2;omega
  ·rw[if_neg (by simpa using hn)];congr 2;omega
 unfold Jt;rw[jn_d,Ab9,Wq,if_neg oo]
 by_cases h4:(((dig 65536 z.natAbs).length:Nat):Int)=4
 ·have h3:3<(dig 65536 z.natAbs).length:=oo;have hd:=Vw (m:=z.natAbs) (k:=3) oo;rw[Si _ _ h3,drop_eq_nil_of_le oo] at hd;simp only[val,Nat.mul_zero,Nat.add_zero] at hd;rw[if_pos h4,show idx (L16 z.natAbs) 3=some (((dig 65536 z.natAbs)[3]:Nat):Int) from Dy h3,Ad,decide_eq_false (by rw[hd];omega)];exact fin
 ·rw[if_neg h4];exact fin
theorem Ba2{z:Int}(h:z.natAbs<=1152921504606846976):Oh (Z16 z)=some (z,0):=by
 unfold Oh;rw[Bb7 h,Ad,jn_d];simp only[if_true];rw[if_neg oo,decide_eq_false oo,if_neg s_]
theorem Avh{x y:Rat}{i:Nat}(hx:Sml i x)(hy:Sml i y)(h:i<=20000)(h1:(if y<x then y else x).floor.natAbs<=1152921504606846976)(h2:(-(-(if x<y then y else x)).floor).natAbs<=1152921504606846976):
  Jb [QR x,QR y]=some (⟨(if y<x then y else x).floor,-(-(if x<y then y else x)).floor⟩,0):=by
 have hlow:Sml i (if y<x then y else x):=by split;exact hy;exact hx
 have hhigh:Sml i (if x<y then y else x):=by split;exact hy;exact hx
 have sg:∀ z:Rat,z.num.sign<0↔z<0:=fun z=>by
  rw[Aga,<- Rat.not_le,<- Rat.num_nonneg];split
  ·omega
  ·split <;> omega
 have sg2:∀ z:Rat,0<z.num.sign↔0<z:=fun z=>by
  have e:z.num.sign = -((-z).num.sign):=by rw[Rat.neg_num,Int.sign_neg,Int.neg_neg]
  rw[e];have:=sg (-z);constructor
  ·intro h;have h':=this.1 oo;rw[Rat.neg_lt_iff] at h';simpa using h'
  ·intro h;have h':=this.2 (by rw[Rat.neg_lt_iff];simpa using h);omega
 have body:Gf [QR x,QR y] ((QR x).N.Neg,(QR x).N.L,(QR x).D,(QR x).N.Neg,(QR x).N.L,(QR x).D,1)=some (.inl ((QR (if y<x then y else x)).N.Neg,(QR (if y<x then y else x)).N.L,(QR (if y<x then y else x)).D,(QR (if x<y then y else x)).N.Neg,(QR (if x<y then y else x)).N.L,(QR (if x<y then y else x)).D,2)):=by
  unfold Gf;simp only[jn_d];have eq:∀ q:Rat,(⟨(⟨(QR q).N.Neg,(QR q).N.L⟩:Af),(QR q).D⟩:Ak)=QR q:=fun _=>rfl
  rw[if_pos s_,show idx [QR x,QR y] 1=some (QR y) from rfl];simp only[Ad,eq];rw[Beb hy hx oo];simp only[Ad];have d1:(y-x).num.sign<0↔y<x:=by rw[sg,Rat.lt_iff_sub_pos y x];rw[show y-x = -(x-y) from (Rat.neg_sub x y).symm,Rat.neg_lt_iff];simp
  have d2:0<(y-x).num.sign↔x<y:=by rw[sg2,Rat.lt_iff_sub_pos x y]
  rw[show w64 (1+1)=2 from by decide]
  by_cases c1:y<x
  ·rw[if_pos (d1.2 c1),if_pos c1]
   by_cases c2:x<y
   ·rw[if_pos (d2.2 c2),if_pos c2]
   ·rw[if_neg (fun h=>c2 (d2.1 h)),if_neg c2]
  ·rw[if_neg (fun h=>c1 (d1.1 h)),if_neg c1]
   by_cases c2:x<y
   ·rw[if_pos (d2.2 c2),if_pos c2]
   ·rw[if_neg (fun h=>c2 (d2.1 h)),if_neg c2]
 have fin:∀ a b c d e f,Gf [QR x,QR y] (a,b,c,d,e,f,2)=some (.inr (a,b,c,d,e,f)):=fun a b c d e f=>by
  unfold Gf;rw[if_neg s_]
 unfold Jb;simp only[jn_d];rw[show idx [QR x,QR y] 0=some (QR x) from rfl,Ad,Ad,Bg,body];simp only[];rw[Bg,fin];simp only[Ad];have eq:∀ q:Rat,(⟨(⟨(QR q).N.Neg,(QR q).N.L⟩:Af),(QR q).D⟩:Ak)=QR q:=fun _=>rfl
 simp only[eq];rw[Aqq hlow oo,Ad,Ba2 h1,Ad,Bb6 hhigh oo,Ad,Ba2 h2,Ad];simp
instance(x0:Int)(x1:Int):Le prog 30 [(1,.int .i64 x0),(2,.int .i64 x1)] [.int .i64 0,.int .i64 x0,.int .i64 x1,.int .i64 0,.int .i64 0,.int .i64 0,.int .i64 0,.int .i64 0,.int .i64 0]:=⟨fun w=>kr⟩
instance(x0:Int)(x1:Int)(x2:Int)(x3:Int)(x4:Int):Le prog 30 [(0,.int .i64 x0),(3,.agg #[.int .i64 x1,.int .i64 x2]),(5,.int .i64 x3),(6,.int .i64 x4)] [.int .i64 x0,.int .i64 0,.int .i64 0,.int .i64 x1,.int .i64 x2,.int .i64 0,.int .i64 x3,.int .i64 x4,.int .i64 0]:=⟨fun w=>kr⟩
instance(x0:Int)(x1:Int)(x2:Int)(x3:Int)(x4:Int)(x5:Int)(x6:Int):Le prog 30 [(0,.int .i64 x0),(1,.int .i64 x1),(2,.int .i64 x2),(3,.agg #[.int .i64 x3,.int .i64 x4]),(5,.int .i64 x5),(6,.int .i64 x6)] [.int .i64 x0,.int .i64 x1,.int .i64 x2,.int .i64 x3,.int .i64 x4,.int .i64 0,.int .i64 x5,.int .i64 x6,.int .i64 0]:=⟨fun w=>kr⟩
instance(x0:Int)(x1:Int)(x2:Int)(x3:Int)(x4:Int)(x5:Int):Le prog 30 [(0,.int .i64 x0),(1,.int .i64 x1),(3,.agg #[.int .i64 x2,.int .i64 x3]),(5,.int .i64 x4),(6,.int .i64 x5)] [.int .i64 x0,.int .i64 x1,.int .i64 0,.int .i64 x2,.int .i64 x3,.int .i64 0,.int .i64 x4,.int .i64 x5,.int .i64 0]:=⟨fun w=>kr⟩
instance(x0:Int)(x1:Int)(x2:Int)(x3:Int)(x4:Int)(x5:Int)(x6:Int)(x7:Int)(x8:Int)(x9:Int)(x10:Int)(x11:Int)(x12:Int)(x13:Int)(x14:Int)(x15:Int)(x16:Int)(x17:Int)(x18:Int)(x19:Int)(x20:Int)(x21:Int)(x22:Int)(x23:Int)(x24:Int)(x25:Int)(x26:Int):Qd prog 41 3 [(0,.agg #[.int .i64 x0,.int .i64 x1,.int .i64 x2,.int .i64 x3,.int .i64 x4,.int .i64 x5,.int .i64 x6,.int .i64 x7,.int .i64 x8]),(1,.agg #[.int .i64 x9,.int .i64 x10,.int .i64 x11,.int .i64 x12,.int .i64 x13,.int .i64 x14,.int .i64 x15,.int .i64 x16,.int .i64 x17]),(2,.agg #[.int .i64 x18,.int .i64 x19,.int .i64 x20,.int .i64 x21,.int .i64 x22,.int .i64 x23,.int .i64 x24,.int .i64 x25,.int .i64 x26])] 30 [.int .i64 x0,.int .i64 x1,.int .i64 x2,.int .i64 x3,.int .i64 x4,.int .i64 x5,.int .i64 x6,.int .i64 x7,.int .i64 x8,.int .i64 x9,.int .i64 x10,.int .i64 x11,.int .i64 x12,.int .i64 x13,.int .i64 x14,.int .i64 x15,.int .i64 x16,.int .i64 x17,.int .i64 x18,.int .i64 x19,.int .i64 x20,.int .i64 x21,.int .i64 x22,.int .i64 x23,.int .i64 x24,.int .i64 x25,.int .i64 x26]:=⟨fun w=>kr⟩
instance(x0:Int)(x1:Int)(x2:Int):Le prog 32 [(0,.int .i64 x0),(3,.int .i64 x1),(9,.int .i64 x2)] [.int .i64 x0,.int .i64 0,.int .i64 0,.int .i64 x1,.int .i64 0,.int .i64 0,.int .i64 0,.int .i64 0,.int .i64 0,.int .i64 x2]:=⟨fun w=>kr⟩
theorem Bd0(a0:Int)(a1:Int)(b0:Int)(b1:Int):∀ w,(Op.equalIn 10000 28 (.agg #[.int .i64 a0,.int .i64 a1]) (.agg #[.int .i64 b0,.int .i64 b1])).run prog w = .ok (((a0 == b0) && ((a1 == b1) && true))) w :=
 EqF.struct underlying28 kr (.cons rfl (fun w=>kr) (fun w=>kr) (fun w=>run_equalIn_int w 9998 3 .i64 .i64 _ _ underlying3) (.cons rfl (fun w=>kr) (fun w=>kr) (fun w=>run_equalIn_int w 9998 3 .i64 .i64 _ _ underlying3) EqF.nil))
instance(a0:Int)(a1:Int)(b0:Int)(b1:Int):EqSI prog 28 [.int .i64 a0,.int .i64 a1] [.int .i64 b0,.int .i64 b1] (((a0 == b0) && ((a1 == b1) && true))):=⟨Bd0 _ _ _ _,kr⟩
noncomputable def Bp(p0:Int)(p1:Int)(p2:Int):Option Bool :=
 jn (fun (s2:Bool)=>
 some s2)
 (fun j2=>if p1<=p0 then (j2 (decide (p0<=p2)))
 else (j2 false))
noncomputable def Ns(p0:Aa):Option Bool :=
 jn (fun (s2:Bool)=>
 some s2)
 (fun j2=>if (-268435456)<=p0.X then (if p0.X<=268435456 then (if (-268435456)<=p0.Y then (j2 (decide (p0.Y<=268435456)))
 else (j2 false))
 else (j2 false))
 else (j2 false))
noncomputable def Nt(p0:Ae):Option Bool :=
 jn (fun (s2:Bool)=>
 some s2)
 (fun j2=>bnd (Bp p0.Id 0 1152921504606846976) fun r2=>
 if r2=true then (bnd (Ns (⟨p0.X,p0.Y⟩:Aa)) fun r7=>
 if r7=true then (if p0.Z.Lo<=p0.Z.Hi then (if (-268435456)<=p0.Z.Lo then (if p0.Z.Hi<=268435456 then (bnd (Bp p0.Wide 0 268435456) fun r0=>
 if r0=true then (bnd (Bp p0.Num 1 p0.Of) fun r1=>
 if r1=true then (j2 (decide (p0.Of<=15)))
 else (j2 false))
 else (j2 false))
 else (j2 false))
 else (j2 false))
 else (j2 false))
 else (j2 false))
 else (j2 false))
noncomputable def Fz(p0:Ae)(p1:Ae):Option Int :=
 some (w64 ((w64 ((w64 (p0.X-p1.X))*(w64 (p0.X-p1.X))))+(w64 ((w64 (p0.Y-p1.Y))*(w64 (p0.Y-p1.Y))))))
noncomputable def Hk(p0:Am):Option Bool :=
 jn (fun (s2:Bool)=>
 some s2)
 (fun j2=>bnd (Bp p0.Cell 1 10000000) fun r2=>
 if r2=true then (bnd (Bp p0.Reach 0 1000000) fun r7=>
 if r7=true then (bnd (Bp p0.Slope 0 100000) fun r0=>
 if r0=true then (bnd (Bp p0.Link 1 1000000) fun r1=>
 if r1=true then (bnd (Bp p0.Flat 0 1000000) fun r3=>
 if r3=true then (bnd (Bp p0.Tall 0 1000000) fun r4=>
 if r4=true then (bnd (Bp p0.High 0 1000000) fun r5=>
 if r5=true then (bnd (Bp p0.Low 0 1000000) fun r6=>
 if r6=true then (bnd (Bp p0.Brush 0 1000000) fun r8=>
 if r8=true then (bnd (Bp p0.Few 1 1024) fun r9=>
 j2 r9)
 else (j2 false))
 else (j2 false))
 else (j2 false))
 else (j2 false))
 else (j2 false))
 else (j2 false))
 else (j2 false))
 else (j2 false))
 else (j2 false))
noncomputable def Gj(p0:Av)(p1:Av):Option Int :=
 bnd (Sq p0 p1) fun r3=>
 some r3.1
noncomputable def Md(p0:Ao)(p1:Ae)(p2:Am):Option (Bool × Int × Int):=
 bnd (Je p0 (⟨p1.X,p1.Y⟩:Aa)) fun r5=>
 if r5.2=0 then (bnd (Ff p0 (⟨p1.X,p1.Y⟩:Aa)) fun r0=>
 bnd (Gj p1.Z r0.1) fun r1=>
 if p2.Reach<r1 then (some (false,0,0))
 else (bnd (idx p0.T r5.1) fun x0=>
 bnd (idx p0.V x0.a0) fun x1=>
 bnd (Fz (⟨0,x1.X,x1.Y,(⟨0,0⟩:Av),0,0,0,0⟩:Ae) p1) fun r2=>
 bnd (Gj p1.Z x1.Z) fun r3=>
 bnd (Be r3) fun r4=>
 bnd (Be 1000000) fun r6=>
 bnd (Ba r6 r4) fun r7=>
 bnd (Ba r7 r4) fun r8=>
 bnd (Be (w64 (p2.Slope*p2.Slope))) fun r9=>
 bnd (Be r2) fun r86=>
 bnd (Ba r9 r86) fun r95=>
 bnd (Dm r8 r95) fun r10=>
 if 0<r10 then (some (false,0,0))
 else (bnd (idx p0.T r5.1) fun x2=>
 bnd (idx p0.V x2.a1) fun x3=>
 bnd (Fz (⟨0,x3.X,x3.Y,(⟨0,0⟩:Av),0,0,0,0⟩:Ae) p1) fun r12=>
 bnd (Gj p1.Z x3.Z) fun r13=>
 bnd (Be r13) fun r14=>
 bnd (Be 1000000) fun r16=>
 bnd (Ba r16 r14) fun r17=>
 bnd (Ba r17 r14) fun r18=>
 bnd (Be (w64 (p2.Slope*p2.Slope))) fun r19=>
 bnd (Be r12) fun r20=>
 bnd (Ba r19 r20) fun r21=>
 bnd (Dm r18 r21) fun r22=>
 if 0<r22 then (some (false,0,0))
 else (bnd (idx p0.T r5.1) fun x4=>
 bnd (idx p0.V x4.a2) fun x5=>
 bnd (Fz (⟨0,x5.X,x5.Y,(⟨0,0⟩:Av),0,0,0,0⟩:Ae) p1) fun r23=>
 bnd (Gj p1.Z x5.Z) fun r24=>
 bnd (Be r24) fun r25=>
 bnd (Be 1000000) fun r26=>
 bnd (Ba r26 r25) fun r27=>
 bnd (Ba r27 r25) fun r28=>
 bnd (Be (w64 (p2.Slope*p2.Slope))) fun r29=>
 bnd (Be r23) fun r30=>
 bnd (Ba r29 r30) fun r31=>
 bnd (Dm r28 r31) fun r32=>
 if 0<r32 then (some (false,0,0))
 else (some (true,r1,r5.1))))))
 else (some (false,0,0))
noncomputable def Pf(p0:Ao)(p1:Ae)(p2:Am):Option (Bool × Int × Int):=
 bnd (Hk p2) fun r4=>
 if r4=true then (bnd (Nt p1) fun r0=>
 if r0=true then (bnd (Dq p0) fun r1=>
 if r1=0 then (bnd (Md p0 p1 p2) fun r2=>
 some (r2.1,r2.2.1,0))
 else (some (false,0,64)))
 else (some (false,0,70)))
 else (some (false,0,71))
noncomputable def Pg(p0:Ao)(p1:Ae):Option (Av × Bool):=
 bnd (Ff p0 (⟨p1.X,p1.Y⟩:Aa)) fun r4=>
 if r4.2=0 then (some ((⟨w64 (p1.Z.Lo-r4.1.Hi),w64 (p1.Z.Hi-r4.1.Lo)⟩:Av),true))
 else (some ((⟨0,0⟩:Av),false))
noncomputable def Ph(p0:Ao)(p1:Ae):Option (Av × Bool × Int):=
 bnd (Nt p1) fun r4=>
 if r4=true then (bnd (Dq p0) fun r0=>
 if r0=0 then (bnd (Pg p0 p1) fun r1=>
 some (r1.1,r1.2,0))
 else (some ((⟨0,0⟩:Av),false,64)))
 else (some ((⟨0,0⟩:Av),false,70))
noncomputable def Jd(p0:Ao):Option Bool :=
 jn (fun (s2:Bool)=>
 some s2)
 (fun j2=>if 20<(p0.V.length:Int) then (j2 true)
 else (if 60<(p0.T.length:Int) then (j2 true)
 else (j2 (decide (30<(p0.Lines.length:Int))))))
noncomputable def Hv  : Option Bool :=
 bnd (Im ([(⟨0,0⟩:Aa),(⟨4,0⟩:Aa),(⟨4,4⟩:Aa),(⟨0,4⟩:Aa)]) (⟨4,2⟩:Aa)) fun r3=>
 bnd (Im ([(⟨0,0⟩:Aa),(⟨4,0⟩:Aa),(⟨4,4⟩:Aa),(⟨0,4⟩:Aa)]) (⟨5,2⟩:Aa)) fun r7=>
 bnd (Oi ([(⟨1,0,0,(⟨3,3⟩:Av),0,1,1,0⟩:Ae),(⟨2,5,5,(⟨1,1⟩:Av),0,1,1,0⟩:Ae),(⟨3,12,0,(⟨2,2⟩:Av),0,1,1,0⟩:Ae)]) (⟨10,0,0,1,0,0,0,0,0,1⟩:Am)) fun r0=>
 jn (fun (s6:Bool)=>
 some s6)
 (fun j6=>if r3.2=0 then (if r7.2=0 then (if r3.1=true then (if r7.1=true then (j6 false)
 else (if r0.2=0 then (if (r0.1.length:Int)=2 then (bnd (idx r0.1 0) fun x0=>
 if x0=2 then (bnd (idx r0.1 1) fun x1=>
 j6 (decide (x1=3)))
 else (j6 false))
 else (j6 false))
 else (j6 false)))
 else (j6 false))
 else (j6 false))
 else (j6 false))
noncomputable def Iq(p0:Ao)(p1:Ae)(p2:Am):Option Bool :=
 bnd (Jd p0) fun r4=>
 if r4=true then (bnd Hv fun r9=>
 some r9)
 else (bnd (Vk p0 p1 p2) fun r0=>
 bnd (Pf p0 p1 p2) fun r1=>
 bnd (Vm p0 p1) fun r2=>
 bnd (Ph p0 p1) fun r3=>
 jn (fun (s9:Bool)=>
 some s9)
 (fun j9=>if (r0.1 == r1.1)=true then (if r0.2.1=r1.2.1 then (if r0.2.2=r1.2.2 then (if (((r2.1.Lo == r3.1.Lo) && ((r2.1.Hi == r3.1.Hi) && true)))=true then (if (r2.2.1 == r3.2.1)=true then (if r2.2.2=r3.2.2 then (bnd Hv fun r5=>
 j9 r5)
 else (j9 false))
 else (j9 false))
 else (j9 false))
 else (j9 false))
 else (j9 false))
 else (j9 false)))
instance(p0:Int)(p1:Int)(p2:Int):Con (Bp p0 p1 p2) prog 80 (fun _ vs=>vs=[.int .i64 p0,.int .i64 p1,.int .i64 p2]) (fun _ r=>fun v Ln=>v = .bool r/\Ln=[]/\True):=⟨by
 rintro _ _ r rfl hx w hK;unfold Bp at hx;refine CtS ntmps80 results80 ?_;exact au⟩
instance(p0:Aa):Con (Ns p0) prog 81 (fun _ vs=>vs=[.agg #[.int .i64 p0.X,.int .i64 p0.Y]]) (fun _ r=>fun v Ln=>v = .bool r/\Ln=[]/\True):=⟨by
 rintro _ _ r rfl hx w hK;unfold Ns at hx;refine CtS ntmps81 results81 ?_;exact au⟩
instance(p0:Ae):Con (Nt p0) prog 36 (fun _ vs=>vs=[.agg #[.int .i64 p0.Id,.int .i64 p0.X,.int .i64 p0.Y,.int .i64 p0.Z.Lo,.int .i64 p0.Z.Hi,.int .i64 p0.Wide,.int .i64 p0.Num,.int .i64 p0.Of,.int .i64 p0.Class]]) (fun _ r=>fun v Ln=>v = .bool r/\Ln=[]/\True):=⟨by
 rintro _ _ r rfl hx w hK;unfold Nt at hx;refine CtS ntmps36 results36 ?_;try (refine pre ?_;intros;rename_i hx)
 refine Bf ?_;try (refine pre ?_;intros;rename_i hx)
 apply Jr (γ:=Unit) hx [] (fun s2 y2 f=>(2,.bool s2)::f) [999] (fun s2 y2 l=>l);exact kk
 ·intro s2 y2 hx;exact au
 ·intro _ hx;try (refine pre ?_;intros;rename_i hx)
  refine Cq3 (s:=6) hx rfl (fun _ hx=>?_) (fun _ hx=>?_)
  ·try (refine pre ?_;intros;rename_i hx)
   refine Cq3 (s:=14) hx rfl (fun _ hx=>?_) (fun _ hx=>?_)
   ·exact au
   ·exact au
  ·exact au⟩
instance(p0:Ae)(p1:Ae):Con (Fz p0 p1) prog 87 (fun _ vs=>vs=[.agg #[.int .i64 p0.Id,.int .i64 p0.X,.int .i64 p0.Y,.int .i64 p0.Z.Lo,.int .i64 p0.Z.Hi,.int .i64 p0.Wide,.int .i64 p0.Num,.int .i64 p0.Of,.int .i64 p0.Class],.agg #[.int .i64 p1.Id,.int .i64 p1.X,.int .i64 p1.Y,.int .i64 p1.Z.Lo,.int .i64 p1.Z.Hi,.int .i64 p1.Wide,.int .i64 p1.Num,.int .i64 p1.Of,.int .i64 p1.Class]]) (fun _ r=>fun v Ln=>v = .int .i64 r/\Ln=[]/\True):=⟨by
 rintro _ _ r rfl hx w hK;unfold Fz at hx;refine CtS ntmps87 results87 ?_;exact au⟩
instance(p0:Am):Con (Hk p0) prog 35 (fun _ vs=>vs=[.agg #[.int .i64 p0.Cell,.int .i64 p0.Reach,.int .i64 p0.Slope,.int .i64 p0.Link,.int .i64 p0.Flat,.int .i64 p0.Tall,.int .i64 p0.High,.int .i64 p0.Low,.int .i64 p0.Brush,.int .i64 p0.Few]]) (fun _ r=>fun v Ln=>v = .bool r/\Ln=[]/\True):=⟨by
 rintro _ _ r rfl hx w hK;unfold Hk at hx;refine CtS ntmps35 results35 ?_;try (refine pre ?_;intros;rename_i hx)
 refine Bf ?_;try (refine pre ?_;intros;rename_i hx)
 apply Jr (γ:=Unit) hx [] (fun s2 y2 f=>(2,.bool s2)::f) [999] (fun s2 y2 l=>l);exact kk
 ·intro s2 y2 hx;exact au
 ·intro _ hx;try (refine pre ?_;intros;rename_i hx)
  refine Cq3 (s:=6) hx rfl (fun _ hx=>?_) (fun _ hx=>?_)
  ·try (refine pre ?_;intros;rename_i hx)
   refine Cq3 (s:=11) hx rfl (fun _ hx=>?_) (fun _ hx=>?_)
   ·try (refine pre ?_;intros;rename_i hx)
    refine Cq3 (s:=16) hx rfl (fun _ hx=>?_) (fun _ hx=>?_)
    ·try (refine pre ?_;intros;rename_i hx)
     refine Cq3 (s:=21) hx rfl (fun _ hx=>?_) (fun _ hx=>?_)
     ·exact au
     ·exact au
    ·exact au
   ·exact au
  ·exact au⟩
instance(p0:Av)(p1:Av):Con (Gj p0 p1) prog 86 (fun _ vs=>vs=[.agg #[.int .i64 p0.Lo,.int .i64 p0.Hi],.agg #[.int .i64 p1.Lo,.int .i64 p1.Hi]]) (fun _ r=>fun v Ln=>v = .int .i64 r/\Ln=[]/\True):=⟨by
 rintro _ _ r rfl hx w hK;unfold Gj at hx;refine CtS ntmps86 results86 ?_;exact au⟩
instance(p0:Ao)(p1:Ae)(p2:Am):Con (Md p0 p1 p2) prog 38 (fun K vs=>∃ U0 E0 U1 E1 U2 E2,vs=[.agg #[.slice U0 p0.V.length E0,.slice U1 p0.T.length E1,.slice U2 p0.Lines.length E2],.agg #[.int .i64 p1.Id,.int .i64 p1.X,.int .i64 p1.Y,.int .i64 p1.Z.Lo,.int .i64 p1.Z.Hi,.int .i64 p1.Wide,.int .i64 p1.Num,.int .i64 p1.Of,.int .i64 p1.Class],.agg #[.int .i64 p2.Cell,.int .i64 p2.Reach,.int .i64 p2.Slope,.int .i64 p2.Link,.int .i64 p2.Flat,.int .i64 p2.Tall,.int .i64 p2.High,.int .i64 p2.Low,.int .i64 p2.Brush,.int .i64 p2.Few]]/\Has K U0 p0.V.length E0 4 Ai p0.V/\Has K U1 p0.T.length E1 3 Ax p0.T/\Has K U2 p0.Lines.length E2 2 Aq p0.Lines/\True) (fun _ r=>fun v Ln=>v = .tuple #[.bool r.1,.int .i64 r.2.1,.int .i64 r.2.2]/\Ln=[]/\True):=⟨by
 rintro K _ r ⟨U0,E0,U1,E1,U2,E2,rfl,ha0,ha1,ha2,-⟩ hx w hK;replace ha0:=Has.lo ha0 hK;replace ha1:=Has.lo ha1 hK;replace ha2:=Has.lo ha2 hK;unfold Md at hx;have:=dl 12 [0,1,0,1,0,0,0,0,1,0,1,2,3] [0,1,2,3,4,5,6,7,8,9,10,11,12];have:=dl 16 [2,1,2,1,2,4,3] [1,3,0,2,4,5,6] [5];have:=dl 17 [1,0,1,0,1,0,2,0,2,2,2,0] [0,1,2,3,4,5,7,6,8,9,10,11];refine CtS ntmps38 results38 ?_;try (refine pre ?_;intros;rename_i hx)
 refine Cq2 (s:=33) hx rfl (fun _ hx=>?_) (fun _ hx=>?_)
 ·exact au
 ·try (refine pre ?_;intros;rename_i hx)
  refine Cq1 (s:=47) hx rfl (fun _ hx=>?_) (fun _ hx=>?_)
  ·exact au
  ·try (refine pre ?_;intros;rename_i hx)
   refine Cq1 (s:=93) hx rfl (fun _ hx=>?_) (fun _ hx=>?_)
   ·exact au
   ·try (refine pre ?_;intros;rename_i hx)
    refine Cq1 (s:=93) hx rfl (fun _ hx=>?_) (fun _ hx=>?_)
    ·exact au
    ·try (refine pre ?_;intros;rename_i hx)
     refine Cq1 (s:=93) hx rfl (fun _ hx=>?_) (fun _ hx=>?_)
     ·exact au
     ·exact au⟩
instance(p0:Ao)(p1:Ae)(p2:Am):Con (Pf p0 p1 p2) prog 12 (fun K vs=>∃ U0 E0 U1 E1 U2 E2,vs=[.agg #[.slice U0 p0.V.length E0,.slice U1 p0.T.length E1,.slice U2 p0.Lines.length E2],.agg #[.int .i64 p1.Id,.int .i64 p1.X,.int .i64 p1.Y,.int .i64 p1.Z.Lo,.int .i64 p1.Z.Hi,.int .i64 p1.Wide,.int .i64 p1.Num,.int .i64 p1.Of,.int .i64 p1.Class],.agg #[.int .i64 p2.Cell,.int .i64 p2.Reach,.int .i64 p2.Slope,.int .i64 p2.Link,.int .i64 p2.Flat,.int .i64 p2.Tall,.int .i64 p2.High,.int .i64 p2.Low,.int .i64 p2.Brush,.int .i64 p2.Few]]/\Has K U0 p0.V.length E0 4 Ai p0.V/\Has K U1 p0.T.length E1 3 Ax p0.T/\Has K U2 p0.Lines.length E2 2 Aq p0.Lines/\True) (fun _ r=>fun v Ln=>v = .tuple #[.bool r.1,.int .i64 r.2.1,.int .i64 r.2.2]/\Ln=[]/\True):=⟨by
 rintro K _ r ⟨U0,E0,U1,E1,U2,E2,rfl,ha0,ha1,ha2,-⟩ hx w hK;replace ha0:=Has.lo ha0 hK;replace ha1:=Has.lo ha1 hK;replace ha2:=Has.lo ha2 hK;unfold Pf at hx;refine CtS ntmps12 results12 ?_;exact au⟩
instance(p0:Ao)(p1:Ae):Con (Pg p0 p1) prog 40 (fun K vs=>∃ U0 E0 U1 E1 U2 E2,vs=[.agg #[.slice U0 p0.V.length E0,.slice U1 p0.T.length E1,.slice U2 p0.Lines.length E2],.agg #[.int .i64 p1.Id,.int .i64 p1.X,.int .i64 p1.Y,.int .i64 p1.Z.Lo,.int .i64 p1.Z.Hi,.int .i64 p1.Wide,.int .i64 p1.Num,.int .i64 p1.Of,.int .i64 p1.Class]]/\Has K U0 p0.V.length E0 4 Ai p0.V/\Has K U1 p0.T.length E1 3 Ax p0.T/\Has K U2 p0.Lines.length E2 2 Aq p0.Lines/\True) (fun _ r=>fun v Ln=>v = .tuple #[.agg #[.int .i64 r.1.Lo,.int .i64 r.1.Hi],.bool r.2]/\Ln=[]/\True):=⟨by
 rintro K _ r ⟨U0,E0,U1,E1,U2,E2,rfl,ha0,ha1,ha2,-⟩ hx w hK;replace ha0:=Has.lo ha0 hK;replace ha1:=Has.lo ha1 hK;replace ha2:=Has.lo ha2 hK;unfold Pg at hx;refine CtS ntmps40 results40 ?_;exact au⟩
instance(p0:Ao)(p1:Ae):Con (Ph p0 p1) prog 14 (fun K vs=>∃ U0 E0 U1 E1 U2 E2,vs=[.agg #[.slice U0 p0.V.length E0,.slice U1 p0.T.length E1,.slice U2 p0.Lines.length E2],.agg #[.int .i64 p1.Id,.int .i64 p1.X,.int .i64 p1.Y,.int .i64 p1.Z.Lo,.int .i64 p1.Z.Hi,.int .i64 p1.Wide,.int .i64 p1.Num,.int .i64 p1.Of,.int .i64 p1.Class]]/\Has K U0 p0.V.length E0 4 Ai p0.V/\Has K U1 p0.T.length E1 3 Ax p0.T/\Has K U2 p0.Lines.length E2 2 Aq p0.Lines/\True) (fun _ r=>fun v Ln=>v = .tuple #[.agg #[.int .i64 r.1.Lo,.int .i64 r.1.Hi],.bool r.2.1,.int .i64 r.2.2]/\Ln=[]/\True):=⟨by
 rintro K _ r ⟨U0,E0,U1,E1,U2,E2,rfl,ha0,ha1,ha2,-⟩ hx w hK;replace ha0:=Has.lo ha0 hK;replace ha1:=Has.lo ha1 hK;replace ha2:=Has.lo ha2 hK;unfold Ph at hx;refine CtS ntmps14 results14 ?_;exact au⟩
instance(p0:Ao):Con (Jd p0) prog 9 (fun K vs=>∃ U0 E0 U1 E1 U2 E2,vs=[.agg #[.slice U0 p0.V.length E0,.slice U1 p0.T.length E1,.slice U2 p0.Lines.length E2]]/\Has K U0 p0.V.length E0 4 Ai p0.V/\Has K U1 p0.T.length E1 3 Ax p0.T/\Has K U2 p0.Lines.length E2 2 Aq p0.Lines/\True) (fun _ r=>fun v Ln=>v = .bool r/\Ln=[]/\True):=⟨by
 rintro K _ r ⟨U0,E0,U1,E1,U2,E2,rfl,ha0,ha1,ha2,-⟩ hx w hK;replace ha0:=Has.lo ha0 hK;replace ha1:=Has.lo ha1 hK;replace ha2:=Has.lo ha2 hK;unfold Jd at hx;refine CtS ntmps9 results9 ?_;exact au⟩
instance  : Con Hv prog 10 (fun _ vs=>vs=[]) (fun _ r=>fun v Ln=>v = .bool r/\Ln=[]/\True):=⟨by
 rintro _ _ r rfl hx w hK;unfold Hv at hx;refine CtS ntmps10 results10 ?_;try (refine pre ?_;intros;rename_i hx)
 apply Jr (γ:=Unit) hx [] (fun s6 y6 f=>(0,.bool s6)::f) [999] (fun s6 y6 l=>l);exact kk
 ·intro s6 y6 hx;exact au
 ·intro _ hx;try (refine pre ?_;intros;rename_i hx)
  refine Cq1 (s:=39) hx rfl (fun _ hx=>?_) (fun _ hx=>?_)
  ·try (refine pre ?_;intros;rename_i hx)
   refine Cq1 (s:=43) hx rfl (fun _ hx=>?_) (fun _ hx=>?_)
   ·exact au
   ·exact au
  ·exact au⟩
instance Yt(p0:Ao)(p1:Ae)(p2:Am):Con (Iq p0 p1 p2) prog 3 (fun K vs=>∃ U0 E0 U1 E1 U2 E2,vs=[.agg #[.slice U0 p0.V.length E0,.slice U1 p0.T.length E1,.slice U2 p0.Lines.length E2],.agg #[.int .i64 p1.Id,.int .i64 p1.X,.int .i64 p1.Y,.int .i64 p1.Z.Lo,.int .i64 p1.Z.Hi,.int .i64 p1.Wide,.int .i64 p1.Num,.int .i64 p1.Of,.int .i64 p1.Class],.agg #[.int .i64 p2.Cell,.int .i64 p2.Reach,.int .i64 p2.Slope,.int .i64 p2.Link,.int .i64 p2.Flat,.int .i64 p2.Tall,.int .i64 p2.High,.int .i64 p2.Low,.int .i64 p2.Brush,.int .i64 p2.Few]]/\Has K U0 p0.V.length E0 4 Ai p0.V/\Has K U1 p0.T.length E1 3 Ax p0.T/\Has K U2 p0.Lines.length E2 2 Aq p0.Lines/\True) (fun _ r=>fun v Ln=>v = .bool r/\Ln=[]/\True):=⟨by
 rintro K _ r ⟨U0,E0,U1,E1,U2,E2,rfl,ha0,ha1,ha2,-⟩ hx w hK;replace ha0:=Has.lo ha0 hK;replace ha1:=Has.lo ha1 hK;replace ha2:=Has.lo ha2 hK;unfold Iq at hx;refine CtS ntmps3 results3 ?_;try (refine pre ?_;intros;rename_i hx)
 refine Cq3 (s:=20) hx rfl (fun _ hx=>?_) (fun _ hx=>?_)
 ·exact au
 ·try (refine pre ?_;intros;rename_i hx)
  apply Jr (γ:=Unit) hx [] (fun s9 y9 f=>(6,.bool s9)::f) [999] (fun s9 y9 l=>l);exact kk
  ·intro s9 y9 hx;exact au
  ·intro _ hx;try (refine pre ?_;intros;rename_i hx)
   refine Cq3 (s:=55) hx rfl (fun _ hx=>?_) (fun _ hx=>?_)
   ·exact au
   ·exact au⟩
theorem Xt(p0:Ao)(p1:Ae)(p2:Am){K:List Ent}{U0:Option Addr}{E0:Nat}{U1:Option Addr}{E1:Nat}{U2:Option Addr}{E2:Nat}(ha0:Has K U0 p0.V.length E0 4 Ai p0.V)(ha1:Has K U1 p0.T.length E1 3 Ax p0.T)(ha2:Has K U2 p0.Lines.length E2 2 Aq p0.Lines){r:Bool}(hx:Iq p0 p1 p2=some r)(w:World)(hK:∀ e∈K,Ent.ok w e):CtL prog 3 [.agg #[.slice U0 p0.V.length E0,.slice U1 p0.T.length E1,.slice U2 p0.Lines.length E2],.agg #[.int .i64 p1.Id,.int .i64 p1.X,.int .i64 p1.Y,.int .i64 p1.Z.Lo,.int .i64 p1.Z.Hi,.int .i64 p1.Wide,.int .i64 p1.Num,.int .i64 p1.Of,.int .i64 p1.Class],.agg #[.int .i64 p2.Cell,.int .i64 p2.Reach,.int .i64 p2.Slope,.int .i64 p2.Link,.int .i64 p2.Flat,.int .i64 p2.Tall,.int .i64 p2.High,.int .i64 p2.Low,.int .i64 p2.Brush,.int .i64 p2.Few]] w fun v Ln=>v = .bool r/\Ln=[]/\True:=(Yt p0 p1 p2).h K _ _ ⟨_,_,_,_,_,_,rfl,ha0,ha1,ha2,trivial⟩ hx w hK
end Go.Proofs.YthlkpgdfifnagaaGreat
namespace Go.Proofs.YthlkpgdfifnagaaGreat.X
open Go Go.RowKit Tryz List
def St{α σ τ:Type}(f:σ->α->Sum σ τ)(fin:σ->τ):List α->σ->τ
 | [],s=>fin s
 | x::r,s=>match f s x with
  | .inl s'=>St f fin r s'
  | .inr t=>t
theorem Vu{α σ τ β:Type}(l:List α)(enc:σ->Int->β)(f:σ->α->Sum σ τ)(fin:σ->τ)(B:β->Option (Sum β τ))(C:Nat->σ->Prop)(h1:∀ (j:Nat) (h:j<l.length) s,C j s->(∃ s',f s l[j] = .inl s'/\B (enc s j)=some (.inl (enc s' ((j+1:Nat):Int)))/\C (j+1) s')\/(∃ t,f s l[j] = .inr t/\B (enc s j)=some (.inr t)))(h2:∀ s,C l.length s->B (enc s l.length)=some (.inr (fin s)))(s0:σ)(h0:C 0 s0):lfix B (enc s0 0)=some (St f fin l s0):=by
 have key:∀ (m k:Nat) (s:σ),k<=l.length->l.length-k=m->C k s->lfix B (enc s k)=some (St f fin (l.drop k) s):=by
  intro m
  induction m with
  | zero=>
   intro k s hk hm hC;obtain rfl:k=l.length:=oo;rw[Bg,h2 s hC];simp[St]
  | succ m ih=>
   intro k s hk hm hC;have hlt:k<l.length:=oo;rw[Bg,drop_eq_getElem_cons hlt];rcases h1 k hlt s hC with⟨s',e1,e2,e3⟩|⟨t,e1,e2⟩
   ·rw[e2];simp only[St,e1];exact ih (k+1) s' oo oo e3
   ·rw[e2];simp only[St,e1]
 exact key l.length 0 s0 (Nat.zero_le _) rfl h0
theorem Asr{α:Type}{l:List α}:l.reverse.Nodup↔l.Nodup:=(reverse_perm l).nodup_iff
def okXY(p:Aa):Bool:=decide (-268435456<=p.X/\p.X<=268435456/\-268435456<=p.Y/\p.Y<=268435456)
def okPt(p:Ae):Bool:=decide (0<=p.Id/\p.Id<=1152921504606846976/\-268435456<=p.X/\p.X<=268435456/\-268435456<=p.Y/\p.Y<=268435456/\-268435456<=p.Z.Lo/\p.Z.Lo<=p.Z.Hi/\p.Z.Hi<=268435456/\0<=p.Wide/\p.Wide<=268435456/\1<=p.Num/\p.Num<=p.Of/\p.Of<=15)
theorem Vc(a b c:Int):Ci a b c=some (decide (a<=b/\b<=c)):=by
 simp only[Ci,jn_d];grind
theorem Ahi(a b c:Int):Bp a b c=some (decide (b<=a/\a<=c)):=by
 simp only[Bp,jn_d];grind
theorem Xd(p:Aa):Hp p=some (okXY p):=by
 simp only[Hp,jn_d,Vc,Ad,okXY,decide_eq_true_eq];grind
theorem Ass(p:Aa):Ns p=some (okXY p):=by
 simp only[Ns,jn_d,okXY];grind
theorem validPoint_eq(p:Ae):Hq p=some (okPt p):=by
 simp only[Hq,jn_d,Vc,Ad,Cu,Xd,okXY,okPt,decide_eq_true_eq];grind
theorem one_eq(p:Ae):Nt p=some (okPt p):=by
 simp only[Nt,jn_d,Ahi,Ad,Ass,okXY,okPt,decide_eq_true_eq];grind
def validL(l:List Ae):Bool:=decide (l.length<=1024) && l.all okPt && decide ((l.map (·.Id)).Nodup)
theorem Ajj{m:List (Int × Bool)}(hm:∀ p∈m,p.2=true)(x:Int):(mget m x).getD false=decide (x∈m.map (·.1)):=by
 induction m with
 | nil=>simp[mget]
 | cons p r ih=>
  rw[Tm];have hp:=hm p mem_cons_self;have ih:=ih (fun q hq=>hm q (mem_cons_of_mem _ hq))
  by_cases h:p.1=x
  ·rw[if_pos h];simp[hp,h]
  ·rw[if_neg h,ih];have:¬ x=p.1:=fun e=>h e.symm
   simp[this]
theorem Avi{κ υ:Type}{m:List (κ × υ)}{x:κ}{v:υ}(h:x ∉ m.map (·.1)):mput m x v=(x,v)::m:=by
 unfold mput mdel;rw[filter_eq_self.2];intro q hq;simp only[decide_eq_true_eq];exact fun e=>h (e ▸ mem_map_of_mem hq)
def Ams(s:List Int)(x:Ae):Sum (List Int) (Sum Unit Bool):=if okPt x=true/\x.Id ∉ s then .inl (x.Id::s) else .inr (.inr false)
theorem Ahj:∀ (l:List Ae) (s:List Int),s.Nodup->St Ams (fun _=>.inl ()) l s=if l.all okPt=true/\((l.map (·.Id)).reverse++s).Nodup then .inl () else .inr false
 | [],s,hs=>by simp[St,hs]
 | x::r,s,hs=>by
  unfold St Ams
  by_cases h:okPt x=true/\x.Id ∉ s
  ·rw[if_pos h];dsimp only;have:=Ahj r (x.Id::s) (nodup_cons.2 ⟨h.2,hs⟩);unfold Ams at this;rw[this];simp[h.1]
  ·rw[if_neg h];dsimp only;rw[if_neg];rintro⟨h1,h2⟩;refine h ⟨by simp at h1;exact h1.1,fun hx=>?_⟩;simp only[map_cons,reverse_cons,append_assoc,cons_append,nil_append] at h2;have:=(nodup_append.1 h2).2.1;exact (nodup_cons.1 this).1 hx
theorem Avj(l:List Ae):Ud l=some (validL l):=by
 unfold Ud validL
 by_cases hn:1024<(l.length:Int)
 ·rw[if_pos hn];have:¬ l.length<=1024:=oo;simp[this]
 ·rw[if_neg hn,jn_d];have hn':l.length<=1024:=oo;have key:=Vu l (fun (s:List (Int × Bool)) (i:Int)=>(s,i)) (fun (s:List (Int × Bool)) x=>if okPt x=true/\x.Id ∉ s.map (·.1) then .inl ((x.Id,true)::s) else .inr (.inr false)) (fun _=>(.inl ():Sum Unit Bool)) (Ks l)
   (fun j s=>s.length=j/\∀ p∈s,p.2=true) ?_ ?_ [] ⟨rfl,s_⟩
  ·rw[key,Ad];have conv:∀ (l:List Ae) (s:List (Int × Bool)),St (fun (s:List (Int × Bool)) (x:Ae)=>if okPt x=true/\x.Id ∉ s.map (·.1) then Sum.inl ((x.Id,true)::s) else .inr (.inr false)) (fun _=>(.inl ():Sum Unit Bool)) l s=St Ams (fun _=>.inl ()) l (s.map (·.1)):=by
    intro l
    induction l with
    | nil=>intro s;rfl
    | cons x r ih=>
     intro s;unfold St Ams
     by_cases h:okPt x=true/\x.Id ∉ s.map (·.1)
     ·rw[if_pos h,if_pos h];exact ih _
     ·rw[if_neg h,if_neg h]
   rw[conv,map_nil,Ahj l [] s_];simp only[append_nil,Asr]
   by_cases h:l.all okPt=true/\(l.map (·.Id)).Nodup
   ·rw[if_pos h];simp only[hn',h.1,h.2,decide_true,Bool.and_self]
   ·rw[if_neg h];dsimp only;replace h:=Decidable.not_and_iff_or_not.1 h;congr 1;rcases h with h | h <;> simp[h]
  ·intro j hj s hC;have h0:(j:Int)<(l.length:Int):=oo
   by_cases hp:okPt l[j]=true
   ·have hr:-9223372036854775808<=l[j].Id/\l[j].Id<=9223372036854775807:=by simp only[okPt,decide_eq_true_eq] at hp;omega
    by_cases hs:l[j].Id∈s.map (·.1)
    ·right;refine⟨.inr false,by rw[if_neg (fun h=>h.2 hs)],?_⟩;simp only[Ks,if_pos h0,At hj,Ad,jn_d,validPoint_eq,hp,if_true,gd_t hr,Ajj hC.2,decide_eq_true hs]
    ·left;refine⟨(l[j].Id,true)::s,by rw[if_pos ⟨hp,hs⟩],?_,by simp[hC.1],by intro p hm;rcases mem_cons.1 hm with rfl | hm;rfl;exact hC.2 p hm⟩;have hs':decide (l[j].Id∈s.map (·.1))=false:=decide_eq_false hs;simp only[Ks,if_pos h0,At hj,Ad,jn_d,validPoint_eq,hp,if_true,gd_t hr,Ajj hC.2,hs',Bool.false_eq_true,if_false,Avi hs,gd_t (show s.length<9223372036854775807 by omega),Bd (show j<9223372036854775807 by omega)]
   ·right;refine⟨.inr false,by rw[if_neg (fun h=>hp h.1)],?_⟩;have hp':okPt l[j]=false:=by simpa using hp
    simp only[Ks,if_pos h0,At hj,Ad,jn_d,validPoint_eq,hp',if_true,Bool.false_eq_true,if_false]
  ·intro s hC;simp only[Ks,Int.lt_irrefl,if_false]
def okRules(r:Am):Bool:=decide (1<=r.Cell/\r.Cell<=10000000/\0<=r.Reach/\r.Reach<=1000000/\0<=r.Slope/\r.Slope<=100000/\1<=r.Link/\r.Link<=1000000/\0<=r.Flat/\r.Flat<=1000000/\0<=r.Tall/\r.Tall<=1000000/\0<=r.High/\r.High<=1000000/\0<=r.Low/\r.Low<=1000000/\0<=r.Brush/\r.Brush<=1000000/\1<=r.Few/\r.Few<=1024)
theorem rrules_eq(r:Am):Hk r=some (okRules r):=by
 simp only[Hk,jn_d,Ahi,Ad,decide_eq_true_eq];unfold okRules
 repeat' split
 all_goals (congr 1;grind)
theorem rules_eq(r:Am):Kc r=some (okRules r):=by
 have key:=Aaq (β:=Unit) (γ:=Bool) [r.Reach,r.Flat,r.Tall,r.High,r.Low,r.Brush] (fun n=>decide (0<=n/\n<=1000000)) (Jh r) () false ?_ ?_
 ·unfold Kc;rw[jn_d,key,Ad]
  by_cases hc:([r.Reach,r.Flat,r.Tall,r.High,r.Low,r.Brush].all (fun n=>decide (0<=n/\n<=1000000)))=true
  ·rw[if_pos hc];simp only[jn_d,Vc,Ad,decide_eq_true_eq];simp only[all_cons,all_nil,Bool.and_true,Bool.and_eq_true,decide_eq_true_eq] at hc;unfold okRules
   repeat' split
   all_goals (congr 1;grind)
  ·rw[if_neg hc];simp only[all_cons,all_nil,Bool.and_true,Bool.and_eq_true,decide_eq_true_eq] at hc;dsimp only;unfold okRules;congr 1;symm;rw[decide_eq_false_iff_not];omega
 ·intro j hj;have hj':(j:Int)<6:=by simp at hj;omega
  simp only[Jh,if_pos hj',At hj,Ad,Vc,Bd (show j<9223372036854775807 by simp at hj;omega)]
 ·simp only[Jh];rfl
theorem Aoq(l:List Ae)(r:Am):Ps l r=some (if okRules r=true then (if validL l=true then 0 else 70) else 71):=by
 simp only[Ps,rules_eq,Ad,Avj];grind
theorem okPt_rng{p:Ae}(h:okPt p=true):0<=p.Id/\p.Id<=1152921504606846976/\-268435456<=p.X/\p.X<=268435456/\-268435456<=p.Y/\p.Y<=268435456/\-268435456<=p.Z.Lo/\p.Z.Lo<=p.Z.Hi/\p.Z.Hi<=268435456:=by
 simp only[okPt,decide_eq_true_eq] at h;omega
theorem okRules_rng{r:Am}(h:okRules r=true):1<=r.Cell/\r.Cell<=10000000/\0<=r.Reach/\r.Reach<=1000000/\0<=r.Slope/\r.Slope<=100000/\1<=r.Link/\r.Link<=1000000/\0<=r.Low/\r.Low<=1000000:=by
 simp only[okRules,decide_eq_true_eq] at h;omega
theorem Aak{l:List Ae}(h:validL l=true):l.length<=1024/\(∀ p∈l,okPt p=true)/\(l.map (·.Id)).Nodup:=by
 simp only[validL,Bool.and_eq_true,decide_eq_true_eq,all_eq_true] at h;exact⟨h.1.1,h.1.2,h.2⟩
def sq(p q:Ae):Int:=(p.X-q.X)*(p.X-q.X)+(p.Y-q.Y)*(p.Y-q.Y)
theorem Ba3{a:Int}{m:Int}(h1:-m<=a)(h2:a<=m):0<=a*a/\a*a<=m*m:=by
 refine⟨?_,?_⟩
 ·rcases Int.le_total 0 a with h | h
  ·exact Int.mul_nonneg h h
  ·exact Int.mul_nonneg_of_nonpos_of_nonpos h h
 ·rcases Int.le_total 0 a with h | h
  ·exact Int.mul_le_mul h2 h2 h oo
  ·have:(-a)*(-a)<=m*m:=Int.mul_le_mul oo oo oo oo
   rwa [Int.neg_mul_neg] at this
theorem sq_w{a b:Int}(ha:-268435456<=a/\a<=268435456)(hb:-268435456<=b/\b<=268435456):w64 (a-b)=a-b/\w64 ((a-b)*(a-b))=(a-b)*(a-b)/\0<=(a-b)*(a-b)/\(a-b)*(a-b)<=288230376151711744:=by
 have h:=Ba3 (a:=a-b) (m:=536870912) oo oo;refine⟨As oo oo,As oo oo,h.1,oo⟩
theorem Bd1{p q:Ae}(hp:okPt p=true)(hq:okPt q=true):w64 ((w64 ((w64 (p.X-q.X))*(w64 (p.X-q.X))))+(w64 ((w64 (p.Y-q.Y))*(w64 (p.Y-q.Y)))))=sq p q:=by
 have h1:=okPt_rng hp;have h2:=okPt_rng hq;obtain⟨a1,a2,a3,a4⟩:=sq_w (a:=p.X) (b:=q.X) oo oo;obtain⟨b1,b2,b3,b4⟩:=sq_w (a:=p.Y) (b:=q.Y) oo oo;rw[a1,b1,a2,b2];exact As oo oo
theorem Ayx(p q:Ae):sq p q=sq q p:=by
 have h:∀ a b:Int,(a-b)*(a-b)=(b-a)*(b-a):=fun a b=>by rw[<- Int.neg_mul_neg,Int.neg_sub]
 unfold sq;rw[h p.X,h p.Y]
theorem Ayy{p q:Ae}(hp:okPt p=true)(hq:okPt q=true){m:Int}(h1:0<=m)(h2:m<=1000000):Vf p q m=some (decide (sq p q<=m*m)):=by
 have hm:w64 (m*m)=m*m:=by have:=Ba3 (a:=m) (m:=1000000) oo h2;exact As oo oo
 simp only[Vf,Cu,Ad,Kt,Bd1 hp hq,hm]
def Aqr(p:Ae)(r:Am)(s:Bool)(q:Ae):Sum Bool (Sum Bool Bool):=
 if q.Id=p.Id\/r.Link*r.Link<sq q p then .inl s else if q.Z.Lo-p.Z.Hi<=r.Low then .inr (.inr false) else .inl true
def Ab6(l:List Ae)(r:Am)(p:Ae):Bool:=match St (Aqr p r) .inl l false with
 | .inl b=>b
 | .inr b=>b
theorem Ayz{l:List Ae}(hl:validL l=true){r:Am}(hr:okRules r=true){i:Nat}(hi:i<l.length):Sn l i r=some (Ab6 l r l[i]):=by
 obtain⟨g1,g2,g3⟩:=Aak hl;have hR:=okRules_rng hr;have hp:=g2 _ (getElem_mem hi);have key:=Vu l (fun (s:Bool) (j:Int)=>(s,j)) (Aqr l[i] r) (Sum.inl:Bool->Sum Bool Bool) (Oz l i r) (fun _ _=>True) ?_ ?_ false trivial
 ·unfold Sn Ab6;rw[jn_d,key,Ad];cases St (Aqr l[i] r) (Sum.inl:Bool->Sum Bool Bool) l false <;> rfl
 ·intro j hj s _;have h0:(j:Int)<(l.length:Int):=oo;have hq:=g2 _ (getElem_mem hj);have hne:(j:Int)=(i:Int)↔l[j].Id=l[i].Id:=by
   constructor
   ·intro h;obtain rfl:j=i:=oo;rfl
   ·intro h;have:=getElem_inj (xs:=l.map (·.Id)) (i:=j) (j:=i) (h₀:=by simpa using hj) (h₁:=by simpa using hi) g3;simp only[getElem_map] at this;have:=this.1 h;omega
  have h1:=okPt_rng hp;have h2:=okPt_rng hq;have hw:w64 (l[j].Z.Lo-l[i].Z.Hi)=l[j].Z.Lo-l[i].Z.Hi:=As oo oo;have hs:w64 ((j:Int)+1)=((j+1:Nat):Int):=Bd oo;unfold Aqr;simp only[Oz,if_pos h0,At hj,At hi,Ad,jn_d,Ayy hp hq (show 0<=r.Link by omega) (show r.Link<=1000000 by omega),hw,hs,hne,Ayx l[j] l[i]]
  by_cases c1:l[j].Id=l[i].Id
  ·left;exact⟨s,by rw[if_pos (.inl c1)],by rw[if_pos c1];simp,trivial⟩
  ·rw[if_neg c1]
   by_cases c2:sq l[i] l[j]<=r.Link*r.Link
   ·have c3:¬ (l[j].Id=l[i].Id\/r.Link*r.Link<sq l[i] l[j]):=by rintro (h | h);exact c1 h;omega
    rw[if_neg c3]
    by_cases c4:l[j].Z.Lo-l[i].Z.Hi<=r.Low
    ·right;exact⟨_,by rw[if_pos c4],by simp[c2,c4]⟩
    ·left;exact⟨true,by rw[if_neg c4],by simp[c2,c4],trivial⟩
   ·left;exact⟨s,by rw[if_pos (.inr oo)],by simp[c2],trivial⟩
 ·intro s _;simp only[Oz,Int.lt_irrefl,if_false]
theorem Aal{α σ τ:Type}(g:σ->α->σ)(fin:σ->τ):∀ (l:List α) (s:σ),St (fun s x=>.inl (g s x)) fin l s=fin (l.foldl g s)
 | [],s=>rfl
 | x::r,s=>by simp only[St,foldl_cons];exact Aal g fin r (g s x)
theorem Adm{α:Type}(p:α->Bool):∀ (l acc:List α),l.foldl (fun s x=>if p x=true then s++[x] else s) acc=acc++l.filter p
 | [],acc=>s_
 | x::r,acc=>by
  rw[foldl_cons,Adm p r]
  by_cases h:p x=true
  ·rw[if_pos h,filter_cons_of_pos h];simp
  ·rw[if_neg h,filter_cons_of_neg h]
theorem Amt{α:Type}(l:List α)(p:α->Bool)(B:List α × Int->Option (Sum (List α × Int) (List α)))(h1:∀ (j:Nat) (h:j<l.length) (s:List α),s.length<=j->B (s,j)=some (.inl (if p l[j]=true then s++[l[j]] else s,((j+1:Nat):Int))))(h2:∀ s,B (s,l.length)=some (.inr s)):
  lfix B ([],0)=some (l.filter p):=by
 have:=Vu l (fun (s:List α) (j:Int)=>(s,j)) (fun s x=>.inl (if p x=true then s++[x] else s)) (id:List α->List α) B (fun j s=>s.length<=j)
  (fun j hj s hC=>.inl ⟨_,rfl,h1 j hj s hC,by split <;> (first | omega | (simp;omega))⟩) (fun s _=>h2 s) [] (Nat.le_refl _)
 rw[this,Aal,Adm];rfl
def dryL(l:List Ae)(r:Am):List Ae:=l.filter fun p=>!Ab6 l r p
def Ba4(l:List Ae)(r:Am):List Ae:=l.filter (Ab6 l r)
theorem Ast{l:List Ae}(hl:validL l=true){r:Am}(hr:okRules r=true):So l r=some (dryL l r,Ba4 l r):=by
 obtain⟨g1,g2,g3⟩:=Aak hl;have key:=Vu l (fun (s:List Ae × List Ae) (j:Int)=>(s.1,s.2,j)) (fun s x=>.inl (if Ab6 l r x=true then (s.1,s.2++[x]) else (s.1++[x],s.2))) (id:_->List Ae × List Ae) (Ls l r)
  (fun j s=>s.1.length<=j/\s.2.length<=j) ?_ ?_ ([],[]) ⟨Nat.le_refl _,Nat.le_refl _⟩
 ·unfold So;rw[jn_d];have key':lfix (Ls l r) ([],[],0)=_:=key;rw[key',Ad,Aal];have:∀ (m a b:List Ae),m.foldl (fun (s:List Ae × List Ae) x=>if Ab6 l r x=true then (s.1,s.2++[x]) else (s.1++[x],s.2)) (a,b)=(a++m.filter (fun p=>!Ab6 l r p),b++m.filter (Ab6 l r)):=by
   intro m
   induction m with
   | nil=>intro a b;simp
   | cons x m ih=>
    intro a b;rw[foldl_cons]
    by_cases h:Ab6 l r x=true
    ·rw[if_pos h,ih];simp[h]
    ·rw[if_neg h,ih];simp[h]
  rw[this];simp[dryL,Ba4]
 ·intro j hj s hC;left;have h0:(j:Int)<(l.length:Int):=oo;refine⟨_,rfl,?_,by split <;> simp <;> omega⟩;simp only[Ls,if_pos h0,At hj,Ad,jn_d,Ayz hl hr hj,Bd (show j<9223372036854775807 by omega)]
  by_cases h:Ab6 l r l[j]=true
  ·simp only[h,if_true,gd_t (show (s.2.length+1)*72<=140737488355328 by omega)]
  ·simp only[h,if_false,Bool.false_eq_true,gd_t (show (s.1.length+1)*72<=140737488355328 by omega)]
 ·intro s _;simp only[Ls,Int.lt_irrefl,if_false,id]
theorem Adn(l:List Int):(Lq l).Pairwise (·<=·):=by
 have:=pairwise_mergeSort (le:=fun x y:Int=>decide (x<=y)) (fun a b c h1 h2=>by simp at *;omega) (fun a b=>by simp;omega) l;exact this.imp fun h=>by simpa using h
theorem Ahk(l:List Int):(Lq l).Perm l:=mergeSort_perm _ _
theorem Afh{l m:List Int}(h:l.Pairwise (·<=·))(hp:l.Perm m):l=Lq m :=
 List.Perm.eq_of_pairwise (fun a b _ _ h h'=>oo) h (Adn m) (hp.trans (Ahk m).symm)
theorem Ahl{l m:List Int}(h:l.Perm m):Lq l=Lq m:=Afh (Adn l) ((Ahk l).trans h)
def lowB(p q:Ae):Bool:=decide (p.Z.Hi<q.Z.Hi\/p.Z.Hi=q.Z.Hi/\p.Id<q.Id)
theorem Avk(p q:Ae):Se p q=some (lowB p q):=by
 simp only[Se,jn_d,lowB];grind
theorem Aor{p q r:Ae}(h:lowB p q=true)(h':lowB q r=true):lowB p r=true:=by
 simp only[lowB,decide_eq_true_eq] at *;omega
theorem Aos{p q:Ae}(h:lowB p q=false)(h':lowB q p=false):p.Id=q.Id:=by
 simp only[lowB,decide_eq_false_iff_not] at *;omega
theorem Amu(p:Ae):lowB p p=false:=by simp[lowB]
instance:DecidableEq Aa:=fun a b=>by
 rcases a with⟨x,y⟩;rcases b with⟨u,v⟩
 exact decidable_of_iff (x=u/\y=v) s_
def bot(kf:Ae->Aa)(l:List Ae):List Ae:=l.filter fun p=>l.all fun q=>decide (kf q≠kf p) || !lowB q p
theorem Akw{kf:Ae->Aa}{l:List Ae}{p:Ae}:p∈bot kf l↔p∈l/\∀ q∈l,kf q=kf p->lowB q p=false:=by
 unfold bot;rw[mem_filter,all_eq_true];refine and_congr_right fun _=>⟨fun h q hq hk=>?_,fun h q hq=>?_⟩
 ·have:=h q hq;simpa[hk] using this
 ·by_cases hk:kf q=kf p
  ·simp[hk,h q hq hk]
  ·simp[hk]
theorem Ado{l:List Ae}(h:(l.map (·.Id)).Nodup):l.Nodup:=(pairwise_map.1 h).imp fun hne he=>hne (by rw[he])
theorem Bb8{l:List Ae}(h:(l.map (·.Id)).Nodup){p q:Ae}(hp:p∈l)(hq:q∈l)(he:p.Id=q.Id):p=q:=by
 obtain⟨i,hi,rfl⟩:=getElem_of_mem hp;obtain⟨j,hj,rfl⟩:=getElem_of_mem hq;have:=(getElem_inj (xs:=l.map (·.Id)) (i:=i) (j:=j) (h₀:=by simpa using hi) (h₁:=by simpa using hj) h).1 (by simpa using he);subst this;rfl
theorem Afi{α:Type}{l m:List α}(hl:l.Nodup)(hm:m.Nodup)(h:∀ x,x∈l↔x∈m):l.Perm m:=(perm_ext_iff_of_nodup hl hm).2 h
theorem Kb{α:Type}{l:List α}{j:Nat}(hj:j<l.length){x:α}:x∈l.take (j+1)↔x∈l.take j\/x=l[j]:=by
 rw[take_add_one,List.getElem?_eq_getElem hj];show x∈l.take j++[l[j]]↔_;rw[mem_append,mem_singleton]
theorem Aot{α σ:Type}(l:List α)(st:σ->α->Option σ)(B:σ × Int->Option (Sum (σ × Int) σ))(h1:∀ (j:Nat) (h:j<l.length) s,B (s,j)=bnd (st s l[j]) fun s'=>some (.inl (s',((j+1:Nat):Int))))(h2:∀ s,B (s,l.length)=some (.inr s))(s0:σ):
  lfix B (s0,0)=l.foldlM st s0:=by
 have key:∀ (m k:Nat) (s:σ),k<=l.length->l.length-k=m->lfix B (s,(k:Int))=(l.drop k).foldlM st s:=by
  intro m
  induction m with
  | zero=>
   intro k s hk hm;obtain rfl:k=l.length:=oo;rw[Bg,h2 s];simp
  | succ m ih=>
   intro k s hk hm;have hlt:k<l.length:=oo;rw[Bg,drop_eq_getElem_cons hlt,h1 k hlt,foldlM_cons];cases hs:st s l[k] with
   | none=>rfl
   | some s'=>rw[Ad];exact ih (k+1) s' oo oo
 exact key l.length 0 s0 (Nat.zero_le _) rfl
theorem Ajk{σ:Type}(kf:Ae->Aa)(ky:Ae->Option Aa)(st:σ->Ae->Option σ)(l:List Ae)(ys:σ)(hn:l.length<=1024)(hid:(l.map (·.Id)).Nodup)(hk:∀ p∈l,ky p=some (kf p)/\-268435456<=(kf p).X/\(kf p).X<=268435456/\-268435456<=(kf p).Y/\(kf p).Y<=268435456):
  ∃ L:List Ae,L.Perm (bot kf l)/\Ki ky st l ys=L.foldlM st ys:=by
 let Good (j:Nat) (m:List (Aa × Ae)) (ks:List Aa):Prop:=Ek m/\ks.Nodup/\ks.length<=j/\m.length<=j/\∀ k,match mget m k with
  | none=>k ∉ ks/\∀ q∈l.take j,kf q≠k
  | some p=>k∈ks/\p∈l.take j/\kf p=k/\∀ q∈l.take j,kf q=k->lowB q p=false
 refine Exists.elim (Bn (B:=Jm l ky) (fun z=>l.length-z.2.2.toNat) (fun z=>∃ j:Nat,z.2.2=(j:Int)/\j<=l.length/\Good j z.1 z.2.1)
  (fun t=>Good l.length t.1 t.2) ?_ ([],[],0) ⟨0,rfl,Nat.zero_le _,List.Pairwise.nil,s_,Nat.le_refl _,Nat.le_refl _,fun k=>by simp[mget]⟩) (fun t ht=>?_)
 ·rintro⟨m,ks,z⟩ ⟨j,rfl,hj,hok,hnd,hkl,hml,hG⟩;dsimp only at hok hnd hkl hml hG;rcases Nat.lt_or_ge j l.length with hlt | hge
  ·left;have hx:=hk _ (getElem_mem hlt);have hr:(-9223372036854775808<=(kf l[j]).X/\(kf l[j]).X<=9223372036854775807)/\(-9223372036854775808<=(kf l[j]).Y/\(kf l[j]).Y<=9223372036854775807):=oo;have hw:w64 ((j:Int)+1)=((j+1:Nat):Int):=Bd oo;have hGj:=hG (kf l[j]);have put:∀ ks',ks'.Nodup->ks'.length<=j+1->(∀ k,k∈ks'↔k∈ks\/k=kf l[j])->(∀ q∈l.take j,kf q=kf l[j]->lowB q l[j]=false)->Good (j+1) (mput m (kf l[j]) l[j]) ks':=by
    intro ks' h1 h2 h3 h4;refine⟨hok.put _ _,h1,h2,?_,fun k=>?_⟩
    ·unfold mput;have:(mdel m (kf l[j])).length<=m.length:=length_filter_le _ _;rw[length_cons];omega
    by_cases he:kf l[j]=k
    ·rw[Pd hok,if_pos he.symm];refine⟨(h3 k).2 (.inr he.symm),(Kb hlt).2 (.inr rfl),he,fun q hq hqk=>?_⟩;rcases (Kb hlt).1 hq with hq | rfl
     ·exact h4 q hq (by rw[hqk,he])
     ·exact Amu _
    ·rw[Pd hok,if_neg (fun e=>he e.symm)];have hGk:=hG k;cases hm:mget m k with
     | none=>
      rw[hm] at hGk;refine⟨fun h=>?_,fun q hq=>?_⟩
      ·rcases (h3 k).1 h with h | h
       ·exact hGk.1 h
       ·exact he h.symm
      ·rcases (Kb hlt).1 hq with hq | rfl
       ·exact hGk.2 q hq
       ·exact he
     | some p=>
      rw[hm] at hGk;refine⟨(h3 k).2 (.inl hGk.1),(Kb hlt).2 (.inl hGk.2.1),hGk.2.2.1,fun q hq hqk=>?_⟩;rcases (Kb hlt).1 hq with hq | rfl
      ·exact hGk.2.2.2 q hq hqk
      ·exact absurd hqk he
   simp only[Jm,if_pos (show (j:Int)<(l.length:Int) by omega),jn_d,At hlt,Ad,hx.1,gd_t hr,gd_t (show m.length<9223372036854775807 by omega),hw];cases hm:mget m (kf l[j]) with
   | none=>
    rw[hm] at hGj;refine⟨(mput m (kf l[j]) l[j],ks++[kf l[j]],((j+1:Nat):Int)),by simp[gd_t (show (ks.length+1)*16<=140737488355328 by omega)],⟨j+1,rfl,hlt,put _ ?_ (by simp;omega) s_ (fun q hq hqk=>absurd hqk (hGj.2 q hq))⟩,by simp;omega⟩;rw[nodup_append];exact⟨hnd,s_,fun a ha b hb=>by simp at hb;subst hb;intro e;subst e;exact hGj.1 ha⟩
   | some p=>
    rw[hm] at hGj;obtain⟨g1,g2,g3,g4⟩:=hGj;simp only[Option.getD_some,Option.isSome_some,if_true,Avk,Ad]
    by_cases hl:lowB l[j] p=true
    ·refine⟨(mput m (kf l[j]) l[j],ks,((j+1:Nat):Int)),by simp[hl],⟨j+1,rfl,hlt,put _ hnd (Nat.le_succ_of_le hkl) (fun k=>⟨.inl,fun h=>h.elim id fun h=>by rw[h];exact g1⟩) (fun q hq hqk=>?_)⟩,by simp;omega⟩;cases hq2:lowB q l[j] with
     | false=>rfl
     | true=>have:=Aor hq2 hl;rw[g4 q hq hqk] at this;cases this
    ·refine⟨(m,ks,((j+1:Nat):Int)),by simp[hl],⟨j+1,rfl,hlt,hok,hnd,Nat.le_succ_of_le hkl,Nat.le_succ_of_le hml,fun k=>?_⟩,by simp;omega⟩;have hGk:=hG k;cases hmk:mget m k with
     | none=>
      rw[hmk] at hGk;refine⟨hGk.1,fun q hq=>?_⟩;rcases (Kb hlt).1 hq with hq | rfl
      ·exact hGk.2 q hq
      ·intro e;rw[e] at hm;rw[hm] at hmk;cases hmk
     | some p'=>
      rw[hmk] at hGk;refine⟨hGk.1,(Kb hlt).2 (.inl hGk.2.1),hGk.2.2.1,fun q hq hqk=>?_⟩;rcases (Kb hlt).1 hq with hq | rfl
      ·exact hGk.2.2.2 q hq hqk
      ·rw[hqk] at hm;rw[hm] at hmk;obtain rfl:=Option.some.inj hmk;simpa using hl
  ·right;obtain rfl:j=l.length:=oo;exact⟨(m,ks),by simp only[Jm,Int.lt_irrefl,if_false],hok,hnd,hkl,hml,hG⟩
 ·obtain⟨h1,hok,hnd,hkl,hml,hG⟩:=ht;obtain⟨m,ks⟩:=t;dsimp only at hnd hkl hml hG;rw[take_length] at hG;have some_of:∀ k∈ks,∃ p,mget m k=some p/\p∈l/\kf p=k/\∀ q∈l,kf q=k->lowB q p=false:=by
   intro k hk';have:=hG k;cases hm:mget m k with
   | none=>rw[hm] at this;exact absurd hk' this.1
   | some p=>rw[hm] at this;exact⟨p,rfl,this.2⟩
  refine⟨ks.map fun k=>(mget m k).getD ⟨0,0,0,⟨0,0⟩,0,0,0,0⟩,Afi ?_ ((Ado hid).filter _) fun p=>?_,?_⟩
  ·refine pairwise_map.2 (hnd.imp_of_mem fun {a b} ha hb hne he=>hne ?_);obtain⟨p,e1,_,e2,_⟩:=some_of a ha;obtain⟨q,f1,_,f2,_⟩:=some_of b hb;rw[e1,f1] at he;simp only[Option.getD_some] at he;rw[<- e2,<- f2,he]
  ·show _↔p∈bot kf l;rw[Akw,mem_map];constructor
   ·rintro⟨k,hk',rfl⟩;obtain⟨p,e1,e2,e3,e4⟩:=some_of k hk';rw[e1,Option.getD_some];exact⟨e2,fun q hq hqk=>e4 q hq (by rw[hqk,e3])⟩
   ·rintro⟨hp,hlow⟩;have:=hG (kf p);cases hm:mget m (kf p) with
    | none=>rw[hm] at this;exact absurd rfl (this.2 p hp)
    | some p'=>
     rw[hm] at this;obtain⟨g1,g2,g3,g4⟩:=this;refine⟨kf p,g1,?_⟩;rw[hm,Option.getD_some];exact Bb8 hid g2 hp (Aos (hlow p' g2 g3) (g4 p hp rfl))
  ·unfold Ki;rw[jn_d,h1,Ad];dsimp only;have h2:=Aot (ks.map fun k=>(mget m k).getD ⟨0,0,0,⟨0,0⟩,0,0,0,0⟩) st (It (m,ks) st) ?_ ?_ ys
   ·rw[h2];cases List.foldlM st ys (ks.map fun k=>(mget m k).getD ⟨0,0,0,⟨0,0⟩,0,0,0,0⟩) <;> rfl
   ·intro j hj s;have hj':j<ks.length:=by simpa using hj
    obtain⟨p,e1,e2,e3,e4⟩:=some_of _ (getElem_mem hj');have hx:=hk p e2;rw[e3] at hx;simp only[It,if_pos (show (j:Int)<(ks.length:Int) by omega),At hj',Ad,gd_t (show (-9223372036854775808<=(ks[j]).X/\(ks[j]).X<=9223372036854775807)/\(-9223372036854775808<=(ks[j]).Y/\(ks[j]).Y<=9223372036854775807) by omega),getElem_map,Bd (show j<9223372036854775807 by omega)]
   ·intro s;simp only[It,length_map,Int.lt_irrefl,if_false]
theorem Adp:∀ (l acc:List Ae),acc.length+l.length<=1024->l.foldlM Aju acc=some (acc++l)
 | [],acc,_=>s_
 | x::r,acc,h=>by
  simp only[length_cons] at h;rw[foldlM_cons,Aju,gd_t oo];show List.foldlM Aju (acc++[x]) r=_;rw[Adp r _ (by simp;omega)];simp
theorem Adq:∀ (l:List Ae) (acc:List Int),acc.length+l.length<=1024->l.foldlM Ajv acc=some (acc++l.map (·.Id))
 | [],acc,_=>s_
 | x::r,acc,h=>by
  simp only[length_cons] at h;rw[foldlM_cons,Ajv,gd_t oo];show List.foldlM Ajv (acc++[x.Id]) r=_;rw[Adq r _ (by simp;omega)];simp
def plF(p:Ae):Aa:=⟨p.X,p.Y⟩
def Amv(l:List Ae):List Ae:=l.filter fun p=>decide (p.Num=p.Of)
structure Fit(l:List Ae):Prop where
 n:l.length<=1024
 ok:∀ p∈l,okPt p=true
 id:(l.map (·.Id)).Nodup
theorem Fit.of{l:List Ae}(h:validL l=true):Fit l:=by obtain⟨h1,h2,h3⟩:=Aak h;exact⟨h1,h2,h3⟩
theorem Fit.filter{l:List Ae}(h:Fit l)(p:Ae->Bool):Fit (l.filter p):=
 ⟨Nat.le_trans (length_filter_le _ _) h.n,fun q hq=>h.ok q (mem_filter.1 hq).1,h.id.sublist (List.Sublist.map _ filter_sublist)⟩
theorem Fit.perm{l m:List Ae}(h:Fit l)(hp:l.Perm m):Fit m:=⟨hp.length_eq ▸ h.n,fun q hq=>h.ok q (hp.mem_iff.2 hq),(hp.map _).nodup_iff.1 h.id⟩
theorem Avl{kf:Ae->Aa}{l m:List Ae}(hl:l.Nodup)(h:l.Perm m):(bot kf l).Perm (bot kf m):=
 Afi (hl.filter _) ((h.nodup_iff.1 hl).filter _) fun p=>by rw[Akw,Akw];simp only[h.mem_iff]
theorem Avm{l:List Ae}(h:Fit l):∃ L,L.Perm (bot plF (Amv l))/\Sk l=some L:=by
 have hf:Fit (Amv l):=h.filter _;obtain⟨L,h1,h2⟩:=Ajk plF Cu Aju (Amv l) [] hf.n hf.id (fun p hp=>⟨rfl,by have:=okPt_rng (hf.ok p hp);simp only[plF];omega⟩);refine⟨L,h1,?_⟩;unfold Sk;rw[jn_d,Amt l (fun p=>decide (p.Num=p.Of)) (Qn l) ?_ ?_,Ad]
 ·show bnd (Yb Cu (Amv l)) _=_;have hlen:L.length<=1024:=by rw[h1.length_eq];exact Nat.le_trans (length_filter_le _ _) hf.n
  unfold Yb;rw[h2,Adp L [] (by simpa using hlen),Ad];rfl
 ·intro j hj s hs;have:=h.n;simp only[Qn,if_pos (show (j:Int)<(l.length:Int) by omega),jn_d,At hj,Ad,Bd (show j<9223372036854775807 by omega),gd_t (show (s.length+1)*72<=140737488355328 by omega),decide_eq_true_eq];split <;> rfl
 ·intro s;simp only[Qn,Int.lt_irrefl,if_false]
def Aqs(l:List Ae)(r:Am):List Ae:=bot plF (Amv (dryL l r))
theorem Ay0{l:List Ae}(hl:validL l=true){r:Am}(hr:okRules r=true):∃ L,L.Perm (Aqs l r)/\Kj l r=some L:=by
 have hf:Fit (dryL l r):=(Fit.of hl).filter _;obtain⟨L,h1,h2⟩:=Avm hf;exact⟨L,h1,by simp only[Kj,Ast hl hr,Ad,h2]⟩
theorem ediv_of{n c k r:Int}(hc:0<c)(h:n=c*k+r)(h0:0<=r)(h1:r<c):n / c=k:=by
 rw[h,Int.add_comm,Int.add_mul_ediv_left r k oo,Int.ediv_eq_zero_of_lt h0 h1,Int.zero_add]
theorem Adr{n c:Int}(hc:0<c)(h:-268435456<=n/\n<=268435456):-268435456<=n / c/\n / c<=268435456:=by
 refine⟨?_,?_⟩
 ·rw[Int.le_ediv_iff_mul_le hc];have:-268435456*c<=-268435456*1:=Int.mul_le_mul_of_nonpos_left oo oo;omega
 ·rcases Int.le_total 0 n with h0 | h0
  ·have:=Int.ediv_le_self c h0;omega
  ·have:n / c<=0:=Int.ediv_nonpos_of_nonpos_of_neg h0 oo;omega
theorem Asu{n c:Int}(hn:n<0)(hc:0<c):Int.tdiv n c = -((-n) / c)/\Int.tmod n c = -((-n) % c):=by
 have h1:Int.tdiv (-n) c=(-n) / c:=Int.tdiv_eq_ediv_of_nonneg oo;have h2:Int.tmod (-n) c=(-n) % c:=Int.tmod_eq_emod_of_nonneg oo;rw[Int.neg_tdiv] at h1;rw[Int.neg_tmod] at h2;exact⟨oo,oo⟩
theorem Amw{n c:Int}(h:-268435456<=n/\n<=268435456)(hc:1<=c/\c<=10000000):Qe n c=some (n / c):=by
 have hr:=Adr (c:=c) oo h;simp only[Qe,gd_t (show c≠0 by omega),jn_d];rcases Int.lt_or_le n 0 with h0 | h0
 ·obtain⟨e1,e2⟩:=Asu h0 (show 0<c by omega);have e3:=Int.mul_ediv_add_emod (-n) c;have e4:=Int.emod_nonneg (-n) (show c≠0 by omega);have e5:=Int.emod_lt_of_pos (-n) (show 0<c by omega);have hq:=Adr (c:=c) oo (show -268435456<=-n/\-n<=268435456 by omega);rw[e1,e2,As (x:=-((-n) / c)) oo oo]
  by_cases hz:(-n) % c=0
  ·rw[if_neg oo];rw[ediv_of (n:=n) (c:=c) (k:=-((-n) / c)) (r:=0) oo (by rw[Int.mul_neg];omega) oo oo]
  ·rw[if_pos oo,As oo oo];rw[ediv_of (n:=n) (c:=c) (k:=-((-n) / c)-1) (r:=c-(-n) % c) oo (by rw[Int.mul_sub,Int.mul_neg,Int.mul_one];omega) oo oo]
 ·rw[Int.tdiv_eq_ediv_of_nonneg h0,Int.tmod_eq_emod_of_nonneg h0,if_neg (by have:=Int.emod_nonneg n (show c≠0 by omega);omega),As oo oo]
def ceF(c:Int)(p:Ae):Aa:=⟨p.X / c,p.Y / c⟩
def Aqt(l:List Ae)(r:Am):List Int:=Lq ((bot (ceF r.Cell) (Aqs l r)).map (·.Id))
theorem Fit.cand{l:List Ae}(hl:validL l=true){r:Am}:Fit (Aqs l r):=(((Fit.of hl).filter _).filter _).filter _
theorem Avn{m:List Ae}(hm:Fit m){r:Am}(hr:okRules r=true):Ws m r=some (Lq ((bot (ceF r.Cell) m).map (·.Id))):=by
 have hR:=okRules_rng hr;obtain⟨L,h1,h2⟩:=Ajk (ceF r.Cell) (fun p=>Mz p r) Ajv m [] hm.n hm.id (fun p hp=>by
  have:=okPt_rng (hm.ok p hp);refine⟨by simp only[Mz,Amw (show -268435456<=p.X/\p.X<=268435456 by omega) (show 1<=r.Cell/\r.Cell<=10000000 by omega),Amw (show -268435456<=p.Y/\p.Y<=268435456 by omega) (show 1<=r.Cell/\r.Cell<=10000000 by omega),Ad,ceF],?_⟩;have e1:=Adr (c:=r.Cell) oo (show -268435456<=p.X/\p.X<=268435456 by omega);have e2:=Adr (c:=r.Cell) oo (show -268435456<=p.Y/\p.Y<=268435456 by omega);simp only[ceF];omega)
 have hlen:L.length<=1024:=by rw[h1.length_eq];exact Nat.le_trans (length_filter_le _ _) hm.n
 unfold Ws;rw[h2,Adq L [] (by simpa using hlen),Ad,gd_t (by simp;omega)];simp only[nil_append];rw[Ahl (h1.map _)]
theorem Avo(l:List Ae)(r:Am):Oi l r=some (if okRules r=true then (if validL l=true then (Aqt l r,0) else ([],70)) else ([],71)):=by
 simp only[Oi,Aoq,Ad]
 by_cases hr:okRules r=true
 ·by_cases hl:validL l=true
  ·obtain⟨L,h1,h2⟩:=Ay0 hl hr;have hc:=Fit.cand hl (r:=r);simp only[hr,hl,if_true,h2,Ad,Avn (hc.perm h1.symm) hr,Aqt];rw[Ahl ((Avl (Ado (hc.perm h1.symm).id) h1).map _)]
  ·simp[hr,hl]
 ·simp[hr]
end Go.Proofs.YthlkpgdfifnagaaGreat.X
