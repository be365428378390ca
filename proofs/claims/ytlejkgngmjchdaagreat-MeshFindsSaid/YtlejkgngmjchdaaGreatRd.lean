import Derived.Test.YtlejkgngmjchdaaGreatWg4
import Derived.Test.YtlejkgngmjchdaaGreatRows
import Derived.ProofKit
import Derived.OpenShut
import Derived.ShutString
import Derived.ChangeOld
import Derived.Below
import Derived.Carry
import Derived.ChangeArms
import Derived.Deep.Slices
namespace Go.Proofs.YtlejkgngmjchdaaGreat
open Go.RowKit
section
open Go
def W2(n:Nat):Agc:=⟨((n/18446744073709551616:Nat):Int),((n%18446744073709551616:Nat):Int)⟩
theorem Avo(a b:Nat):Int.tdiv (a:Int) (b:Int)=((a/b:Nat):Int):=(Int.ofNat_tdiv a b).symm
theorem Bdi(a b:Nat):Int.tmod (a:Int) (b:Int)=((a%b:Nat):Int):=(Int.ofNat_tmod a b).symm
theorem Sf{b:Nat}(l:LM)(k:Nat)(h:k<l.length):val b (l.drop k)=l[k]+b*val b (l.drop (k+1)):=by
 rw[List.drop_eq_getElem_cons h];rfl
theorem Aln{B x H V:Nat}(hV:0<V):(x+B*H)/V=(H%V*B+x)/V+B*(H/V)/\(x+B*H)%V=(H%V*B+x)%V:=by
 have e:x+B*H=(H%V*B+x)+V*(B*(H/V)):=by
  have:=Nat.div_add_mod H V
  calc x+B*H=x+B*(V*(H/V)+H%V):=by rw[this]
   _=_:=by rw[Nat.mul_add,<-Nat.mul_assoc,Nat.mul_comm B V,Nat.mul_assoc,Nat.mul_comm B (H%V)];omega
 rw[e];exact⟨by rw[Nat.add_mul_div_left _ _ hV],by rw[Nat.add_mul_mod_self_left]⟩
theorem Ajn{B x r V:Nat}(hx:x<B)(hr:r<V):r*B+x<V*B:=by
 have:(r+1)*B<=V*B:=Nat.mul_le_mul_right _ hr;rw[Nat.succ_mul] at this;omega
theorem Apw{r x:Nat}(hr:r<65536)(hx:x<65536):w64 (w64 ((r:Int)*65536)+(x:Int))=((r*65536+x:Nat):Int):=by
 rw[show ((r:Nat):Int)*65536=((r*65536:Nat):Int) by omega,Ol oo,<-Int.natCast_add,Ol oo]
theorem Apx(l:List Nat)(d:Nat)(hl:∀ x∈l,x<65536)(hd:0<d)(hd2:d<=65536)(h1:l.length<=1000000):
  Gk (nI l) (d:Int)=some (L16 (val 65536 l/d),((val 65536 l%d:Nat):Int)):=by
 obtain⟨t,ht,o,rfl,ho1,ho3,ho2⟩:=Bp (B:=Nn (nI l) (d:Int)) (fun s=>(s.2.2+1).toNat)
  (fun s=>∃(o:LM) (k:Nat),s=(nI o,((val 65536 (l.drop k)%d:Nat):Int),(k:Int)-1)/\o.length=l.length/\k<=l.length/\(∀x∈o,x<65536)/\val 65536 (o.drop k)=val 65536 (l.drop k)/d)
  (fun t=>∃o:LM,t=(nI o,((val 65536 l%d:Nat):Int))/\(∀x∈o,x<65536)/\o.length<=1000000/\val 65536 o=val 65536 l/d) (by
   rintro s ⟨o,k,rfl,hC1,hC2,hC3,hC4⟩;unfold Nn
   by_cases hk:k=0
   .right;subst hk;exact⟨_,by simp only[];rw[iN oo],o,by rw[List.drop_zero],hC3,oo,sV hC4⟩
   .left;have h1':k-1<l.length:=oo;have h2':k-1<o.length:=oo;have hx:=hl _ (gM h1');have hr:val 65536 (l.drop k)%d<d:=Nat.mod_lt _ hd;have e:val 65536 (l.drop (k-1))=l[k-1]+65536*val 65536 (l.drop k):=by rw[Sf l (k-1) h1',show k-1+1=k by omega]
    obtain⟨e1,e2⟩:=Aln (B:=65536) (x:=l[k-1]) (H:=val 65536 (l.drop k)) hd;have hlt:=Ajn hx hr;have hq:(val 65536 (l.drop k)%d*65536+l[k-1])/d<65536:=Nat.div_lt_of_lt_mul oo;refine⟨(nI (o.set (k-1) ((val 65536 (l.drop k)%d*65536+l[k-1])/d)),((val 65536 (l.drop (k-1))%d:Nat):Int),((k-1:Nat):Int)-1),?_,⟨_,k-1,rfl,by simp[hC1],oo,?_,?_⟩,by simp;omega⟩
    ·simp only[];rw[if_pos oo,show ((k:Int)-1)=((k-1:Nat):Int) from by omega,Bu h1',Ac,gd_t oo,Bu h2',Ac,gd_t oo];have e3:=Apw (r:=val 65536 (l.drop k) % d) (x:=l[k-1]) (Nat.lt_of_lt_of_le hr hd2) hx;have e4:w64 (((k-1:Nat):Int)-1)=((k-1:Nat):Int)-1:=by
      clear e e1 e2 e3 hlt hq hr hx hC4 hC3;exact Av oo oo
     rw[e3,Avo,Bdi,Ol (Nat.le_trans (Nat.le_of_lt hq) dD),Kh,e,e2,e4]
    .intro x hx';rcases List.mem_or_eq_of_mem_set hx' with h|rfl
     .exact hC3 x h
     .exact hq
    .rw[Sf _ _ (sV h2'),List.getElem_set_self,show k-1+1=k by omega,List.drop_set_of_lt oo,hC4,e,e1])
  (nI (List.replicate l.length 0),0,(l.length:Int)-1) ⟨List.replicate l.length 0,l.length,by simp[val],s_,nL _,s_,by simp[val]⟩
 unfold Gk;simp only[jn_d,Bm,Int.toNat_natCast,Rg];rw[gd_t ⟨oo,oo⟩,Av oo oo,ht,Ac];simp only[];rw[Aay _ oo,Ac,Qb oo o ho1,ho2];rfl
theorem Age:∀{m:Nat},m≠0->65536^((dig 65536 m).length-1)<=m:=by
 intro m
 induction m using Nat.strongRecOn with
 |_ m ih=>
  intro h0;rw[Hw oo h0,List.length_cons,Nat.add_sub_cancel]
  by_cases h1:m/65536=0
  .rw[h1,Hy];simp;omega
  .have h2:=ih (m/65536) oo h1;have h3:(dig 65536 (m/65536)).length≠0:=fun e=>h1 ((Tu oo).1 (List.length_eq_zero_iff.1 e))
   obtain⟨q,hq⟩:=Nat.exists_eq_succ_of_ne_zero h3;rw[hq] at h2⊢;rw[Nat.succ_sub_one] at h2;rw[Nat.succ_eq_add_one,Nat.pow_succ];generalize 65536^q=z at *;omega
theorem Abx(m:Nat):m<65536^(dig 65536 m).length:=by
 have:=Uh (b:=65536) (dig 65536 m) (Ng oo m)
 rwa [Ch oo] at this
theorem Abi(l:LM)(k:Nat)(hk:k<=l.length):val 65536 l=val 65536 (l.take k)+65536^k*val 65536 (l.drop k):=by
 have:=Oi (b:=65536) (l.take k) (l.drop k)
 rwa [List.take_append_drop,List.length_take,Nat.min_eq_left hk] at this
theorem Avp{l:LM}(hl:∀x∈l,x<65536)(k:Nat)(hk:k<=l.length):val 65536 (l.drop k)=val 65536 l/65536^k:=by
 have h1:=Abi l k hk;have h2:=Uh (b:=65536) (l.take k) (fun x hx=>hl x (List.mem_of_mem_take hx));rw[List.length_take,Nat.min_eq_left hk] at h2;rw[h1,Nat.add_mul_div_left _ _ (Nat.pow_pos oo),Nat.div_eq_of_lt h2,Nat.zero_add]
theorem Vm{m k:Nat}(hk:k<=(dig 65536 m).length):val 65536 ((dig 65536 m).drop k)=m/65536^k:=by
 rw[Avp (Ng oo m) k hk,Ch oo]
theorem Ajo{m:Nat}(h0:m≠0):∃h:(dig 65536 m).length-1<(dig 65536 m).length,(dig 65536 m)[(dig 65536 m).length-1]=m/65536^((dig 65536 m).length-1)/\0<m/65536^((dig 65536 m).length-1):=by
 have h3:(dig 65536 m).length≠0:=fun e=>h0 ((Tu oo).1 (List.length_eq_zero_iff.1 e))
 have h1:=Vm (m:=m) (k:=(dig 65536 m).length-1) oo;refine⟨oo,?_,Nat.div_pos (Age h0) (Nat.pow_pos oo)⟩;rw[<-h1,Sf _ _ oo,List.drop_eq_nil_of_le oo];simp[val]
theorem Adt{d:Nat}(h0:0<d)(h:d<65536):L16 d=[(d:Int)]:=by
 unfold L16;rw[Hw oo oo,Nat.mod_eq_of_lt h,Nat.div_eq_of_lt h,Hy];rfl
theorem Avq{R V B vt m1:Nat}(hvt:0<vt)(hV:vt*B^m1<=V)(hB:0<B):R/V<=R/B^m1/vt:=by
 rw[Nat.div_div_eq_div_mul];have hp:0<B^m1:=Nat.pow_pos hB;exact Nat.div_le_div_left (by rw[Nat.mul_comm];exact hV) (Nat.mul_pos hp hvt)
theorem Wf{a:Nat}:(L16 a).length=(dig 65536 a).length:=Bm
theorem Ajp{l:LM}(hl:∀x∈l,x<65536)(h:l.length<=1000000000):Br (nI l)=some (L16 (val 65536 l)):=by
 rw[Aay l h,Qb oo l hl];rfl
theorem Alo{R V:Nat}:R-V*(R/V)=R%V:=by have:=Nat.div_add_mod R V;omega
theorem Bbs{g:Nat}(h:0<g)(h9:g<=65535):w64 ((g:Int)-1)=((g-1:Nat):Int):=by rw[Av oo oo];omega
theorem Ay0{g:Nat}(h:0<g):((g-1:Nat):Int).toNat<(g:Int).toNat:=oo
theorem Ar5{R V g:Nat}(hg9:g<=65535)(hV:0<V)(hg:R / V<=g)(hl:(dig 65536 (V*g)).length<=1000000):
  lfix (Hz (L16 R) (L16 V)) ((g:Int),L16 (V*g))=some (((R/V:Nat):Int),L16 (V*(R/V))):=by
 obtain⟨t,ht,rfl⟩:=Bp (B:=Hz (L16 R) (L16 V)) (fun s=>s.1.toNat)
  (fun s=>∃g':Nat,s=((g':Int),L16 (V*g'))/\R/V<=g'/\g'<=g)
  (fun t=>t=(((R/V:Nat):Int),L16 (V*(R/V)))) (by
   rintro s ⟨g',rfl,h1,h2⟩;have hlen:(dig 65536 (V*g')).length<=1000000:=Nat.le_trans (Ri (Nat.mul_le_mul_left V h2)) hl;unfold Hz;simp only[];rw[Awi _ _ hlen,Ac]
   by_cases hc:R<V*g'
   .left;have hlt:R/V<g':=Nat.div_lt_of_lt_mul hc;have he:V*g'-V=V*(g'-1):=by rw[Nat.mul_sub,Nat.mul_one]
    have hpos:0<g':=Nat.lt_of_le_of_lt (Nat.zero_le _) hlt;have hge:V<=V*g':=Nat.le_mul_of_pos_right V hpos;refine⟨(((g'-1:Nat):Int),L16 (V*(g'-1))),?_,⟨g'-1,rfl,Nat.le_sub_one_of_lt hlt,Nat.le_trans (Nat.sub_le _ _) h2⟩,Ay0 hpos⟩;rw[iP (by unfold cmpN;rw[iN oo,iN oo];decide),Aj3 hlen hge,Ac,he];rw[Bbs hpos (Nat.le_trans h2 hg9)]
   .right;have hle:g'<=R/V:=(Nat.le_div_iff_mul_le hV).2 (by rw[Nat.mul_comm];omega);obtain rfl:g'=R/V:=Nat.le_antisymm hle h1;exact⟨_,by rw[iN (by unfold cmpN;split <;> (try split) <;> omega)],rfl⟩)
  ((g:Int),L16 (V*g)) ⟨g,rfl,hg,nL _⟩
 exact ht
theorem Ar6{R V:Nat}(hV:V≠0)(hR:R<V*65536)(h9:(dig 65536 V).length<=100000):∃ g:Nat,R / V<=g/\g<=65535/\∀ {ρ:Type} (K:Int->Option ρ),
  (if ((((L16 V).length:Nat):Int))<=((((L16 R).length:Nat):Int)) then (bnd (idx (L16 R) (w64 (((((L16 R).length:Nat):Int))-1))) fun x259=>
   jn (fun (s44:Int)=>
   bnd (idx (L16 V) (w64 (((((L16 V).length:Nat):Int))-1))) fun x286=>
   gd (x286≠0)<|
   if 65536<=(w64 (Int.tdiv s44 x286)) then (K 65535)
   else (K (w64 (Int.tdiv s44 x286))))
   (fun j44=>if ((((L16 V).length:Nat):Int))<((((L16 R).length:Nat):Int)) then (bnd (idx (L16 R) (w64 (((((L16 R).length:Nat):Int))-2))) fun x272=>
   j44 (w64 ((w64 (x259*65536))+x272)))
   else (j44 x259)))
   else (K 0))=K (g:Int):=by
 simp only[Wf,jn_d];have hq:R/V<=65535:=by
  have:=Nat.div_lt_of_lt_mul hR;omega
 by_cases h:(dig 65536 V).length<=(dig 65536 R).length
 .obtain⟨hi,ht1,ht2⟩:=Ajo hV;have hR0:R≠0:=fun e=>by rw[e,Hy] at h;simp at h;exact hV ((Tu oo).1 h)
  have hlenR:(dig 65536 R).length<=(dig 65536 V).length+1:=Fe (by
   rw[Nat.pow_succ];exact Nat.lt_trans hR (Nat.mul_lt_mul_of_pos_right (Abx V) oo))
  generalize hm:(dig 65536 V).length-1=m1 at *;have hvt:=Ng (b:=65536) oo V _ (List.getElem_mem hi);have hVlo:V / 65536 ^ m1*65536 ^ m1<=V:=Nat.div_mul_le_self _ _;have hg:=Avq (R:=R) (B:=65536) ht2 hVlo oo;rw[ht1] at hvt;have key:∀ s44:Nat,s44=R / 65536 ^ m1->s44<4294967296->∀ {ρ:Type} (K:Int->Option ρ),(bnd (idx (L16 V) (w64 ((((dig 65536 V).length:Nat):Int)-1))) fun x286=>
    gd (x286≠0) <| if 65536<=(w64 (Int.tdiv (s44:Int) x286)) then (K 65535) else (K (w64 (Int.tdiv (s44:Int) x286))))=K ((min (R/65536^m1/(V/65536^m1)) 65535:Nat):Int):=by
   intro s44 hs hs2 ρ K;have e:w64 ((((dig 65536 V).length:Nat):Int)-1)=((m1:Nat):Int):=by rw[Av oo oo];omega
   rw[e,show idx (L16 V) ((m1:Nat):Int)=some ((V/65536^m1:Nat):Int) from by rw[<-ht1];exact Bu hi,Ac,gd_t oo,Avo,<-hs];have h4:s44/(V/65536^m1)<=s44:=Nat.div_le_self _ _;generalize s44/(V/65536^m1)=z at *;rw[Ol oo]
   by_cases hz:65536<=z
   .rw[iP oo,show min z 65535=65535 by omega];rfl
   .rw[iN oo,show min z 65535=z by omega]
  refine⟨min (R/65536^m1/(V/65536^m1)) 65535,oo,oo,fun K=>?_⟩;obtain⟨hj,hr1,hr2⟩:=Ajo hR0;have hrt:=Ng (b:=65536) oo R _ (gM hj);rw[iP oo,show w64 ((((dig 65536 R).length:Nat):Int)-1)=(((dig 65536 R).length-1:Nat):Int) from by rw[Av oo oo];omega,
   show idx (L16 R) (((dig 65536 R).length-1:Nat):Int)=some (((dig 65536 R)[(dig 65536 R).length-1]:Nat):Int) from Bu hj,Ac]
  by_cases h2:(dig 65536 V).length<(dig 65536 R).length
  ·have hl2:(dig 65536 R).length-2<(dig 65536 R).length:=oo;have hrt2:=Ng (b:=65536) oo R _ (List.getElem_mem hl2);rw[if_pos oo,show w64 ((((dig 65536 R).length:Nat):Int)-2)=(((dig 65536 R).length-2:Nat):Int) from by rw[Av oo oo];omega,
    show idx (L16 R) (((dig 65536 R).length-2:Nat):Int)=some (((dig 65536 R)[(dig 65536 R).length-2]:Nat):Int) from Bu hl2,Ac,Apw hrt hrt2]
   refine key _ ?_ oo K;have hd:=Vm (m:=R) (k:=m1) oo;have e1:m1=(dig 65536 R).length-2:=oo;rw[<-hd,Sf _ _ (by omega:m1<_)];have hd2:=Vm (m:=R) (k:=m1+1) oo;rw[hd2,hr1];rw[show (dig 65536 R).length-1=m1+1 by omega];simp only[<-e1];omega
  .rw[iN oo];refine key _ ?_ oo K;rw[hr1,show (dig 65536 R).length-1=m1 by omega]
 ·refine⟨0,?_,oo,fun K=>by rw[if_neg oo];rfl⟩;have:R<V:=by
   rcases Nat.lt_or_ge R V with h'|h'
   .exact h'
   .exact absurd (Ri h') h
  rw[Nat.div_eq_of_lt this];exact nL _
theorem Anz{a f k:Nat}(ha:a<65536^k)(hf:f<=65536):a*f<65536^(k+1):=by
 rw[Nat.pow_succ];exact Nat.lt_of_le_of_lt (Nat.mul_le_mul_left a hf) (Nat.mul_lt_mul_of_pos_right ha oo)
theorem Aby{a f:Nat}(hf:f<=65536):(dig 65536 (a*f)).length<=(dig 65536 a).length+1:=Fe (Anz (Abx a) hf)
theorem Bdj{τ ρ:Type}{K:τ->Option ρ}{X:(τ->Option ρ)->Option ρ}{v:τ}(h:∀j,X j=j v):jn K X=K v:=h K
theorem Abj{g:Nat}(h:g<65536):(dig 65536 g).length<=1:=Fe oo
theorem Avr{g:Nat}(h:g<65536):Br [(g:Int)]=some (L16 g):=by
 have:=Ajp (l:=[g]) (fun x hx=>by rw[List.mem_singleton.1 hx];exact h) s_;simpa[nI,val] using this
theorem Avs{U V k:Nat}{q:List Nat}(hV:V≠0)(h9:(dig 65536 V).length<=100000)(hk:0<k)(hkq:k<=q.length)(hq9:q.length<=200000)(hU:k-1<(dig 65536 U).length):
  Eb (L16 U) (L16 V) (nI q,L16 (U/65536^k%V),(k:Int)-1)=some (.inl (nI (q.set (k-1) ((U/65536^k%V*65536+(dig 65536 U)[k-1])/V)),L16 ((U/65536^k%V*65536+(dig 65536 U)[k-1])%V),((k-1:Nat):Int)-1)):=by
 have hu:=Ng (b:=65536) oo U _ (gM hU);have hr:U/65536^k%V<V:=Nat.mod_lt _ (Nat.pos_of_ne_zero hV);have hR:=Ajn hu hr;have hlr:(dig 65536 (U/65536^k%V)).length<=100000:=Nat.le_trans (Ri (Nat.le_of_lt hr)) h9;generalize hu':(dig 65536 U)[k-1]=u at *;generalize hr':U/65536^k%V=r0 at *;have hlR:(dig 65536 (r0*65536+u)).length<=100001:=by
  have h1:=Ri (Nat.le_of_lt hR);have h2:=Aby (a:=V) (f:=65536) (nL _);exact Nat.le_trans h1 (Nat.le_trans h2 (Nat.succ_le_succ h9))
 obtain⟨g,hg1,hg2,hg3⟩:=Ar6 (R:=r0*65536+u) hV hR h9;unfold Eb;simp only[];rw[iP oo,show ((k:Int)-1)=((k-1:Nat):Int) from by omega,show idx (L16 U) ((k-1:Nat):Int)=some ((u:Nat):Int) from by rw[<-hu'];exact Bu hU,Ac,
  gd_t (by rw[Wf];simp only[List.length_singleton];omega)]
 have et:Br ([((u:Nat):Int)]++L16 r0)=some (L16 (r0*65536+u)):=by
  have:=Ajp (l:=u::dig 65536 r0) (fun x hx=>by
   rcases List.mem_cons.1 hx with rfl|hx
   .exact hu
   .exact Ng oo r0 x hx) (by simp only[List.length_cons];omega)
  rw[show val 65536 (u::dig 65536 r0)=r0*65536+u from by show u+65536*val 65536 (dig 65536 r0)=_;rw[Ch oo];omega] at this;exact this
 rw[et,Ac,Bdj (fun j=>hg3 j)];have hVg:(dig 65536 (V*g)).length<=100002:=by
  have h2:=Aby (a:=V) (f:=g) oo;exact Nat.le_trans h2 (Nat.le_trans (Nat.succ_le_succ h9) dD)
 rw[Avr oo,Ac,Aaz (by have:=Abj (g:=g) oo;omega),Ac,jn_d,Ar5 hg2 (Nat.pos_of_ne_zero hV) hg1 oo,Ac];simp only[];rw[Aj3 oo (by rw[Nat.mul_comm];exact Nat.div_mul_le_self _ _),Ac,show idx (nI q) ((k-1:Nat):Int)=some ((q[k-1]:Nat):Int) from Bu oo,Ac,Kh,Alo,
  show w64 (((k-1:Nat):Int)-1)=((k-1:Nat):Int)-1 from Av oo oo]
theorem Avt{U k:Nat}(hk:0<k)(hU:k-1<(dig 65536 U).length):U/65536^(k-1)=(dig 65536 U)[k-1]+65536*(U/65536^k):=by
 have h1:=Vm (m:=U) (k:=k-1) oo;have h2:=Vm (m:=U) (k:=k) oo;rw[Sf _ _ hU,show k-1+1=k by omega,h2] at h1;exact h1.symm
theorem Avu{U V nq:Nat}(hV:V≠0)(h9:(dig 65536 V).length<=100000)(hq9:nq<=200000)(hU:nq<=(dig 65536 U).length)(h0:U / 65536 ^ nq<V):
  ∃q,lfix (Eb (L16 U) (L16 V)) (nI (List.replicate nq 0),L16 (U/65536^nq),(nq:Int)-1)=some (nI q,L16 (U%V))/\(∀x∈q,x<65536)/\q.length<=200000/\val 65536 q=U/V:=by
 obtain⟨t,ht,q,rfl,h1,h2,h3⟩:=Bp (B:=Eb (L16 U) (L16 V)) (fun s=>(s.2.2+1).toNat)
  (fun s=>∃(q:LM) (k:Nat),s=(nI q,L16 (U/65536^k%V),(k:Int)-1)/\q.length=nq/\k<=nq/\(∀x∈q,x<65536)/\val 65536 (q.drop k)=U/65536^k/V)
  (fun t=>∃q,t=(nI q,L16 (U%V))/\(∀x∈q,x<65536)/\q.length<=200000/\val 65536 q=U/V) (by
   rintro s ⟨q,k,rfl,hC1,hC2,hC3,hC4⟩
   by_cases hk:k=0
   .right;subst hk;refine⟨(nI q,L16 (U%V)),?_,q,rfl,hC3,oo,sV hC4⟩;unfold Eb;simp only[];rw[iN oo,Nat.pow_zero,Nat.div_one]
   .left;have hk':0<k:=Nat.pos_of_ne_zero hk;have hUk:k-1<(dig 65536 U).length:=oo;obtain⟨e1,e2⟩:=Aln (B:=65536) (x:=(dig 65536 U)[k-1]) (H:=U/65536^k) (Nat.pos_of_ne_zero hV);rw[<-Avt hk' hUk] at e1 e2;have hlt:(U/65536^k%V*65536+(dig 65536 U)[k-1])/V<65536:=Nat.div_lt_of_lt_mul (Ajn (Ng oo U _ (gM hUk)) (Nat.mod_lt _ (Nat.pos_of_ne_zero hV)));refine⟨_,Avs hV h9 hk' oo oo hUk,⟨_,k-1,by rw[e2],by simp[hC1],oo,fun x hx=>?_,?_⟩,by simp;omega⟩
    .rcases List.mem_or_eq_of_mem_set hx with h|rfl
     .exact hC3 x h
     .exact hlt
    .rw[Sf _ _ (by simp;omega),List.getElem_set_self,show k-1+1=k by omega,List.drop_set_of_lt oo,hC4,e1])
  (nI (List.replicate nq 0),L16 (U/65536^nq),(nq:Int)-1) ⟨List.replicate nq 0,nq,by rw[Nat.mod_eq_of_lt h0],s_,nL _,s_,by rw[Nat.div_eq_of_lt h0];simp[val]⟩
 exact⟨q,ht,h1,h2,h3⟩
theorem Acr{a b:Nat}(hb:b≠0)(ha9:(dig 65536 a).length<=90000)(hb9:(dig 65536 b).length<=90000):Ed (L16 a) (L16 b)=some (L16 (a/b),L16 (a%b)):=by
 unfold Ed;rw[Awi _ _ oo,Ac]
 by_cases hlt:a<b
 .rw[iP (by unfold cmpN;rw[iP hlt];decide),Nat.div_eq_of_lt hlt,Nat.mod_eq_of_lt hlt];rfl
 rw[iN (by unfold cmpN;rw[iN hlt];split <;> omega),Wf];obtain⟨hi,ht1,ht2⟩:=Ajo hb
 by_cases h1:(dig 65536 b).length=1
 .rw[iP oo];have hb1:b<65536:=by have:=Abx b;rw[h1] at this;simpa using this
  rw[Adt oo hb1,show idx [(b:Int)] 0=some (b:Int) from rfl,Ac];have:=Apx (dig 65536 a) b (Ng oo a) oo oo oo;rw[Ch oo] at this;have hm:a%b<b:=Nat.mod_lt _ oo;rw[show Gk (L16 a) (b:Int)=_ from this,Ac];simp only[];rw[Al3 oo oo,Ac];rfl
 .have hpos:(dig 65536 b).length≠0:=fun e=>hb ((Tu oo).1 (List.length_eq_zero_iff.1 e))
  rw[iN oo];have htop:=Ng (b:=65536) oo b _ (gM hi);rw[ht1] at htop;have htl:=Nat.div_mul_le_self b (65536^((dig 65536 b).length-1));have hbt:b<(b/65536^((dig 65536 b).length-1)+1)*65536^((dig 65536 b).length-1):=by
   have:=Nat.lt_div_mul_add (a:=b) (b:=65536^((dig 65536 b).length-1)) (Nat.pow_pos oo);rw[Nat.add_mul,Nat.one_mul];exact this
  rw[show w64 ((((dig 65536 b).length:Nat):Int)-1)=(((dig 65536 b).length-1:Nat):Int) from by rw[Av oo oo];omega,
   show idx (L16 b) (((dig 65536 b).length-1:Nat):Int)=some ((b/65536^((dig 65536 b).length-1):Nat):Int) from by rw[<-ht1];exact Bu hi,Ac]
  generalize hm1:(dig 65536 b).length-1=m1 at *;generalize htp:b/65536^m1=tp at *;have ew:w64 ((tp:Int)+1)=((tp+1:Nat):Int):=Bd oo;rw[ew,gd_t oo,show Int.tdiv 65536 ((tp+1:Nat):Int)=((65536/(tp+1):Nat):Int) from Avo 65536 (tp+1)];have hf1:0<65536/(tp+1):=Nat.div_pos oo oo;have hf2:65536/(tp+1)<=32768:=by
   have:=Nat.div_le_div_left (c:=2) (a:=65536) (oo:2<=tp+1) oo;omega
  have hf3:65536/(tp+1)*(tp+1)<=65536:=Nat.div_mul_le_self _ _;generalize hf:65536/(tp+1)=f at *;rw[Ol oo,<-Adt hf1 oo];have hlf:=Abj (g:=f) oo;rw[Aaz oo,Ac,Aaz oo,Ac];have hUV:b*f<=a*f:=Nat.mul_le_mul_right f oo;have hVf:b*f≠0:=Nat.mul_ne_zero hb oo;have hlU:(dig 65536 (a*f)).length<=90001:=by
   have h2:=Aby (a:=a) (f:=f) oo;exact Nat.le_trans h2 (Nat.succ_le_succ ha9)
  have hlVU:=Ri hUV;have hlV0:(dig 65536 (b*f)).length≠0:=fun e=>hVf ((Tu oo).1 (List.length_eq_zero_iff.1 e))
  have hlo:=Age hVf;generalize hV:b*f=V at *;generalize hU:a*f=U at *;simp only[Wf];have e2:w64 (w64 ((((dig 65536 U).length:Nat):Int)-(((dig 65536 V).length:Nat):Int))+1)=(((dig 65536 U).length-(dig 65536 V).length+1:Nat):Int):=by
   rw[Av (x:=(((dig 65536 U).length:Nat):Int)-(((dig 65536 V).length:Nat):Int)) oo oo,Av oo oo];omega
  have e3:w64 ((((dig 65536 U).length:Nat):Int)-(((dig 65536 V).length:Nat):Int))=(((dig 65536 U).length-(dig 65536 V).length+1:Nat):Int)-1:=by
   rw[Av oo oo];omega
  generalize hnq:(dig 65536 U).length-(dig 65536 V).length+1=nq at *;have hsub:subl (L16 U) ((nq:Nat):Int) (((dig 65536 U).length:Nat):Int)=nI ((dig 65536 U).drop nq):=by
   unfold subl;rw[Int.toNat_natCast,Int.toNat_natCast,List.take_of_length_le (by rw[Wf];exact nL _)];simp[L16,nI]
  have hdr:val 65536 ((dig 65536 U).drop nq)=U/65536^nq:=Vm oo;have h0:U/65536^nq<V:=by
   have h5:=Uh (b:=65536) ((dig 65536 U).drop nq) (fun x hx=>Ng oo U x (List.mem_of_mem_drop hx));rw[hdr,List.length_drop,show (dig 65536 U).length-nq=(dig 65536 V).length-1 by omega] at h5;exact Nat.lt_of_lt_of_le h5 hlo
  rw[e2,e3,gd_t ⟨oo,oo⟩,gd_t ⟨oo,oo⟩,hsub,gd_t (by rw[Bm,List.length_drop];simp only[List.length_nil];omega),List.nil_append,Ajp (fun x hx=>Ng oo U x (List.mem_of_mem_drop hx)) (by rw[List.length_drop];omega),Ac,hdr];obtain⟨q,hq1,hq2,hq3,hq4⟩:=Avu hVf oo oo (oo:nq<=(dig 65536 U).length) h0;rw[jn_d,Int.toNat_natCast,Rg,hq1,Ac];simp only[];rw[Adt hf1 oo,show idx [(f:Int)] 0=some (f:Int) from rfl,Ac];have hs:=Apx (dig 65536 (U%V)) f (Ng oo _) hf1 oo (Nat.le_trans (Ri (Nat.mod_le U V)) oo);rw[Ch oo] at hs;rw[show Gk (L16 (U%V)) (f:Int)=_ from hs,Ac,Ajp hq2 oo,Ac,hq4];have ed:U/V=a/b:=by rw[<-hU,<-hV];exact Nat.mul_div_mul_right _ _ hf1
  have em:U%V/f=a%b:=by rw[<-hU,<-hV,Nat.mul_mod_mul_right,Nat.mul_div_cancel _ hf1]
  rw[ed,em]
theorem Bdk{a b:Nat}(ha:(dig 65536 a).length<=90000)(hb:(dig 65536 b).length<=90000):Ns (L16 a) (L16 b)=some (L16 (Nat.gcd a b)):=by
 unfold Ns;simp only[jn_d];obtain⟨t,ht,rfl⟩:=Bp (B:=Qa) (fun s=>s.2.length*65536+(val 65536 (s.2.map Int.toNat)))
  (fun s=>∃x y:Nat,s=(L16 x,L16 y)/\Nat.gcd x y=Nat.gcd a b/\(dig 65536 x).length<=90000/\(dig 65536 y).length<=90000)
  (fun t=>t=L16 (Nat.gcd a b)) (by
   rintro s ⟨x,y,rfl,hg,hx,hy⟩;unfold Qa;simp only[Wf];have hval:∀m,val 65536 ((L16 m).map Int.toNat)=m:=fun m=>by
    unfold L16 nI;rw[List.map_map,show (Int.toNat ∘ fun x:Nat=>(x:Int))=id from funext fun x=>s_,List.map_id,Ch oo]
   by_cases h0:y=0
   .right;subst h0;refine⟨_,by rw[iN (by rw[Hy];simp)],?_⟩;rw[Nat.gcd_zero_right] at hg;rw[hg]
   .left;have hy0:(dig 65536 y).length≠0:=fun e=>h0 ((Tu oo).1 (List.length_eq_zero_iff.1 e))
    have hm:x%y<y:=Nat.mod_lt _ (Nat.pos_of_ne_zero h0);have hml:=Ri (Nat.le_of_lt hm);refine⟨(L16 y,L16 (x%y)),by rw[iP oo,Acr h0 hx hy,Ac],⟨y,x%y,rfl,?_,hy,oo⟩,?_⟩
    .rw[<-hg,Nat.gcd_comm x y,Nat.gcd_rec y x,Nat.gcd_comm]
    .simp only[Wf,hval];omega)
  (L16 a,L16 b) ⟨a,b,rfl,rfl,ha,hb⟩
 rw[ht,Ac]
def QR(x:Rat):Aj:=⟨Z16 x.num,L16 x.den⟩
theorem Aff(m:Nat):(⟨false,L16 m⟩:Ae)=Z16 (m:Int):=by
 unfold Z16;rw[dF oo,Int.natAbs_natCast]
theorem Yh{m:Nat}:decide (0<(((L16 m).length:Nat):Int))=decide (m≠0):=by
 have:=Acv (a:=m)
 by_cases h:m=0
 .rw[dF (by have:=this.2 h;omega),dF (by simp[h])]
 .rw[dT (by have h2:(L16 m).length≠0:=fun e=>h (this.1 e);omega),dT h]
theorem Zt{n:Int}{d:Nat}(hd:d≠0):∃(m:Int) (e:Nat),n=(Nat.gcd n.natAbs d:Nat)*m/\d=Nat.gcd n.natAbs d*e/\(mkRat n d).num=m/\(mkRat n d).den=e/\0<Nat.gcd n.natAbs d:=by
 have hg:0<Nat.gcd n.natAbs d:=Nat.gcd_pos_of_pos_right _ (Nat.pos_of_ne_zero hd);obtain⟨m,hm⟩:=Int.ofNat_dvd_left.2 (Nat.gcd_dvd_left n.natAbs d);obtain⟨e,he⟩:=Nat.gcd_dvd_right n.natAbs d;refine⟨m,e,hm,he,?_,?_,hg⟩
 .rw[Rat.num_mkRat,iN hd,Nat.gcd_comm];generalize Nat.gcd n.natAbs d=g at *;rw[hm,Int.mul_ediv_cancel_left _ oo]
 .rw[Rat.den_mkRat,iN hd,Nat.gcd_comm];generalize Nat.gcd n.natAbs d=g at *;rw[he,Nat.mul_div_cancel_left _ hg]
theorem Ajq{n:Int}{d:Nat}(hd:d≠0)(h1:(dig 65536 n.natAbs).length<=90000)(h2:(dig 65536 d).length<=90000):Cg (Z16 n) ⟨false,L16 d⟩=some (QR (mkRat n d)):=by
 obtain⟨m,e,hm,he,hn1,hd1,hg⟩:=Zt (n:=n) hd;have hgl:(dig 65536 (Nat.gcd n.natAbs d)).length<=90000:=Nat.le_trans (Ri (Nat.gcd_le_right _ (Nat.pos_of_ne_zero hd))) h2;unfold Cg;simp only[Abk,jn_d];rw[Bdk h1 h2,Ac,Acr oo h1 hgl,Ac,Acr oo h2 hgl,Ac];simp only[];unfold QR;rw[hn1,hd1];generalize Nat.gcd n.natAbs d=g at *;have e1:n.natAbs/g=m.natAbs:=by rw[hm,Int.natAbs_mul,Int.natAbs_natCast,Nat.mul_div_cancel_left _ hg]
 have e2:d/g=e:=by rw[he,Nat.mul_div_cancel_left _ hg]
 rw[e1,e2,Np,Yh];unfold Z16
 by_cases hneg:n<0
 ·have hmn:m<0:=by
   rcases Int.lt_or_le m 0 with h|h
   .exact h
   .have:=Int.mul_nonneg (Int.natCast_nonneg g) h;omega
  rw[iP (sV hneg),dT (oo:m.natAbs≠0),dT hmn]
 ·have hmn:¬ m<0:=fun h=>by
   have:=Int.mul_neg_of_pos_of_neg (oo:(0:Int)<(g:Int)) h;omega
  rw[iN (sV hneg),dF hmn]
def Sml(k:Nat)(x:Rat):Prop:=x.num.natAbs<65536^k/\x.den<65536^k
theorem Sml.n{k:Nat}{x:Rat}(h:Sml k x):(dig 65536 x.num.natAbs).length<=k:=Fe h.1
theorem Sml.d{k:Nat}{x:Rat}(h:Sml k x):(dig 65536 x.den).length<=k:=Fe h.2
theorem Alp{n:Int}{d:Nat}(hd:d≠0):(mkRat n d).num.natAbs<=n.natAbs/\(mkRat n d).den<=d:=by
 obtain⟨m,e,hm,he,hn1,hd1,hg⟩:=Zt (n:=n) hd;rw[hn1,hd1];generalize Nat.gcd n.natAbs d=g at *;refine⟨?_,?_⟩
 .rw[hm,Int.natAbs_mul,Int.natAbs_natCast];exact Nat.le_mul_of_pos_left _ hg
 .rw[he];exact Nat.le_mul_of_pos_left _ hg
theorem Ls{a b i j:Nat}(ha:a<65536^i)(hb:b<65536^j):a*b<65536^(i+j):=by
 rw[Nat.pow_add];rcases Nat.eq_zero_or_pos b with rfl|h
 .rw[Nat.mul_zero];exact Nat.mul_pos (Nat.pow_pos oo) (Nat.pow_pos oo)
 .exact Nat.lt_of_lt_of_le (Nat.mul_lt_mul_of_pos_right ha h) (Nat.mul_le_mul_left _ (Nat.le_of_lt hb))
theorem den0(x:Rat):x.den≠0:=x.den_nz
theorem Sml.mkRat{k:Nat}{n:Int}{d:Nat}(hd:d≠0)(h1:n.natAbs<65536^k)(h2:d<65536^k):Sml k (mkRat n d):=⟨Nat.lt_of_le_of_lt (Alp hd).1 h1,Nat.lt_of_le_of_lt (Alp hd).2 h2⟩
theorem An0{x y:Rat}{i j:Nat}(hx:Sml i x)(hy:Sml j y):(x.num*y.den+y.num*x.den).natAbs<65536^(i+j+1):=by
 have h1:=Ls hx.1 hy.2;have h2:=Ls hy.1 hx.2;rw[Nat.add_comm j i] at h2;have h3:=Int.natAbs_add_le (x.num*y.den) (y.num*x.den);rw[Int.natAbs_mul,Int.natAbs_mul,Int.natAbs_natCast,Int.natAbs_natCast] at h3;rw[Nat.pow_succ];generalize 65536^(i+j)=p at *;omega
theorem Sml.neg{x:Rat}{i:Nat}(hx:Sml i x):Sml i (-x):=by
 unfold Sml;rw[Rat.neg_num,Rat.neg_den,Int.natAbs_neg];exact hx
theorem Sml.int{z:Int}{k:Nat}(h:z.natAbs<65536^k)(hk:0<k):Sml k (z:Rat):=⟨h,Nat.one_lt_pow oo oo⟩
theorem Yi{z:Int}(h1:-9223372036854775808<=z)(h2:z<=9223372036854775807):Cl z=some (QR (z:Rat)):=by
 unfold Cl;rw[Al3 h1 h2,Ac,Awj];rfl
theorem Baa{x y:Rat}{i j:Nat}(hx:Sml i x)(hy:Sml j y)(h:i+j<=80000):Cw (QR x) (QR y)=some (QR (x+y)):=by
 unfold Cw QR;simp only[Aff];have a1:=hx.n;have a2:=hx.d;have a3:=hy.n;have a4:=hy.d;have b1:(dig 65536 (x.num*(y.den:Int)).natAbs).length<=i+j:=Fe (by rw[Int.natAbs_mul,Int.natAbs_natCast];exact Ls hx.1 hy.2);have b2:(dig 65536 (y.num*(x.den:Int)).natAbs).length<=j+i:=Fe (by rw[Int.natAbs_mul,Int.natAbs_natCast];exact Ls hy.1 hx.2);have b3:(dig 65536 (x.den*y.den)).length<=i+j:=Fe (Ls hx.2 hy.2);have b4:(dig 65536 (x.num*y.den+y.num*x.den).natAbs).length<=i+j+1:=Fe (An0 hx hy);rw[Al4 (by rw[Int.natAbs_natCast];omega),Ac,Al4 (by rw[Int.natAbs_natCast];omega),Ac,Bdw oo oo,Ac,Aaz oo,Ac,Ajq (Nat.mul_ne_zero (den0 x) (den0 y)) oo oo,Ac,<-Rat.add_def'];rfl
theorem Apy{z:Int}:Gm (Z16 z)=some (Z16 (-z)):=by
 unfold Gm;simp only[jn_d,Np,Abk,Yh];unfold Z16;rw[Int.natAbs_neg]
 by_cases h:z<0
 .rw[iP (sV h),dF oo]
 .rw[iN (sV h)];congr 2
  by_cases h0:z=0
  .subst h0;rfl
  .rw[Yh,dT (oo:z.natAbs≠0),dT (oo:-z<0)]
theorem Apz{x:Rat}:Ip (QR x)=some (QR (-x)):=by
 unfold Ip QR;rw[Apy,Ac,Rat.neg_num,Rat.neg_den]
theorem Bab{x y:Rat}{i j:Nat}(hx:Sml i x)(hy:Sml j y)(h:i+j<=80000):Di (QR x) (QR y)=some (QR (x-y)):=by
 unfold Di;rw[Apz,Ac,Baa hx hy.neg h,Ac,Rat.sub_eq_add_neg]
theorem Bdl{x y:Rat}{i j:Nat}(hx:Sml i x)(hy:Sml j y)(h:i+j<=80000):Dx (QR x) (QR y)=some (QR (x*y)):=by
 unfold Dx QR;simp only[];have a1:=hx.n;have a2:=hx.d;have a3:=hy.n;have a4:=hy.d;have b1:(dig 65536 (x.num*y.num).natAbs).length<=i+j:=Fe (by rw[Int.natAbs_mul];exact Ls hx.1 hy.1);have b3:(dig 65536 (x.den*y.den)).length<=i+j:=Fe (Ls hx.2 hy.2);rw[Al4 oo,Ac,Aaz oo,Ac,Ajq (Nat.mul_ne_zero (den0 x) (den0 y)) oo oo,Ac,<-Rat.mul_def'];rfl
theorem Bbt{z:Int}:Hq (Z16 z)=some z.sign:=by
 unfold Hq;have:=Acv (a:=z.natAbs);rw[Abk,Np]
 by_cases h0:z=0
 .subst h0;rfl
 .rw[iN (fun e=>h0 (by have:=this.1 oo;omega))]
  by_cases h:z<0
  .rw[iP (sV h),Int.sign_eq_neg_one_of_neg h]
  .rw[iN (sV h),Int.sign_eq_one_of_pos oo]
theorem Bac{x y:Rat}{i j:Nat}(hx:Sml i x)(hy:Sml j y)(h:i+j<=80000):Iq (QR x) (QR y)=some (x-y).num.sign:=by
 unfold Iq;rw[Bab hx hy h,Ac];show bnd (Hq (Z16 (x-y).num)) _=_;rw[Bbt,Ac]
theorem Aie(x y:Rat)(hy:y≠0):x/y=mkRat (x.num*y.den*y.num.sign) (x.den*y.num.natAbs):=by
 have hyn:y.num≠0:=fun h=>hy (Rat.num_eq_zero.1 h)
 rw[Rat.div_def,Rat.mul_def',Rat.num_inv,Rat.den_inv,iN hyn];congr 1;rw[Int.mul_assoc,Int.mul_comm (y.den:Int)]
theorem Afg(z:Int):z.sign=if z<0 then -1 else if z=0 then 0 else 1:=by
 rcases Int.lt_trichotomy z 0 with h|h|h
 .rw[iP h,Int.sign_eq_neg_one_of_neg h]
 .subst h;rfl
 .rw[iN oo,iN oo,Int.sign_eq_one_of_pos h]
theorem Bdm{x y:Rat}{i j:Nat}(hx:Sml i x)(hy:Sml j y)(h:i+j<=80000)(h0:y≠0):Nx (QR x) (QR y)=some (QR (x/y)):=by
 have hyn:y.num≠0:=fun h=>h0 (Rat.num_eq_zero.1 h)
 have hxd:(0:Int)<(x.den:Int):=by have:=den0 x;omega
 have hyd:(0:Int)<(y.den:Int):=by have:=den0 y;omega
 have a1:=hx.n;have a2:=hx.d;have a3:=hy.n;have a4:=hy.d;have b1:(dig 65536 (x.num*(y.den:Int)).natAbs).length<=i+j:=Fe (by rw[Int.natAbs_mul,Int.natAbs_natCast];exact Ls hx.1 hy.2);have b2:(dig 65536 (y.num*(x.den:Int)).natAbs).length<=j+i:=Fe (by rw[Int.natAbs_mul,Int.natAbs_natCast];exact Ls hy.1 hx.2);unfold Nx;simp only[QR,Aff,jn_d];rw[Al4 (by rw[Int.natAbs_natCast];omega),Ac,Al4 (by rw[Int.natAbs_natCast];omega),Ac];have e1:x.num*(y.den:Int)<0↔x.num<0:=⟨fun h=>by
   rcases Int.lt_or_le x.num 0 with h'|h'
   .exact h'
   .have:=Int.mul_nonneg h' (Int.le_of_lt hyd);omega,fun h=>Int.mul_neg_of_neg_of_pos h hyd⟩
 have e2:y.num*(x.den:Int)<0↔y.num<0:=⟨fun h=>by
   rcases Int.lt_or_le y.num 0 with h'|h'
   .exact h'
   .have:=Int.mul_nonneg h' (Int.le_of_lt hxd);omega,fun h=>Int.mul_neg_of_neg_of_pos h hxd⟩
 have hd0:(y.num*(x.den:Int)).natAbs≠0:=by rw[Int.natAbs_mul];exact Nat.mul_ne_zero oo oo
 have ed:x.den*y.num.natAbs=(y.num*(x.den:Int)).natAbs:=by rw[Int.natAbs_mul,Int.natAbs_natCast,Nat.mul_comm]
 rw[Aie x y h0,ed];have key:∀z:Int,z.natAbs=(x.num*(y.den:Int)).natAbs->Cg (Z16 z) ⟨false,L16 (y.num*(x.den:Int)).natAbs⟩=some (QR (mkRat z (y.num*(x.den:Int)).natAbs)):=fun z hz=>Ajq hd0 (by rw[hz];omega) oo
 have fin:∀q:Rat,(some (⟨(⟨(QR q).N.Neg,(QR q).N.L⟩:Ae),(QR q).D⟩:Aj))=some (QR q):=fun _=>rfl
 by_cases hs:((Z16 (x.num*(y.den:Int))).Neg==(Z16 (y.num*(x.den:Int))).Neg)=true
 .rw[iP hs];simp only[Abk];have hs:(decide (x.num*(y.den:Int)<0)==decide (y.num*(x.den:Int)<0))=true:=hs;have hz:=key ((x.num*(y.den:Int)).natAbs:Int) oo;rw[<-Aff] at hz;rw[hz,Ac];show some (QR _)=some (QR _);congr 3;have hs':=eq_of_beq hs;rw[decide_eq_decide,e1,e2] at hs';rw[Afg]
  by_cases hn:y.num<0
  .rw[iP hn];have:=e1.2 (hs'.2 hn);omega
  .rw[iN hn,iN hyn];have:¬x.num*(y.den:Int)<0:=fun h=>hn (hs'.1 (e1.1 h));omega
 .rw[iN hs];simp only[Abk];have hs:¬(decide (x.num*(y.den:Int)<0)==decide (y.num*(x.den:Int)<0))=true:=hs;have hs':¬(x.num<0↔y.num<0):=fun h=>hs (by rw[show decide (x.num*(y.den:Int)<0)=decide (y.num*(x.den:Int)<0) from decide_eq_decide.2 (e1.trans (h.trans e2.symm))];simp)
  have hz:=key (-((x.num*(y.den:Int)).natAbs:Int)) oo;have ez:(⟨decide (0<(((L16 (x.num*(y.den:Int)).natAbs).length:Nat):Int)),L16 (x.num*(y.den:Int)).natAbs⟩:Ae)=Z16 (-((x.num*(y.den:Int)).natAbs:Int)):=by
   unfold Z16;rw[Int.natAbs_neg,Int.natAbs_natCast,Yh];congr 1
   by_cases h:(x.num*(y.den:Int)).natAbs=0
   .rw[dF (by simp[h]),dF oo]
   .rw[dT h,dT oo]
  show bnd (Cg ⟨decide (0<(((L16 (x.num*(y.den:Int)).natAbs).length:Nat):Int)),L16 (x.num*(y.den:Int)).natAbs⟩ ⟨false,L16 (y.num*(x.den:Int)).natAbs⟩) (fun r34=>some (⟨⟨r34.N.Neg,r34.N.L⟩,r34.D⟩:Aj))=_;rw[ez,hz,Ac];show some (QR _)=some (QR _);congr 3;rw[Afg]
  by_cases hn:y.num<0
  .rw[iP hn];have:¬x.num*(y.den:Int)<0:=fun h=>hs' ⟨fun _=>hn,fun _=>e1.1 h⟩;omega
  .rw[iN hn,iN hyn]
   by_cases hxn:x.num<0
   .have:=e1.2 hxn;omega
   .exact absurd ⟨fun h=>absurd h hxn,fun h=>absurd h hn⟩ hs'
theorem Sml.div{x y:Rat}{i j:Nat}(hx:Sml i x)(hy:Sml j y)(h0:y≠0):Sml (i+j) (x/y):=by
 have hyn:y.num≠0:=fun h=>h0 (Rat.num_eq_zero.1 h)
 rw[Aie x y h0];refine Sml.mkRat (Nat.mul_ne_zero (den0 x) oo) ?_ (Ls hx.2 hy.1);rw[Int.natAbs_mul,Int.natAbs_mul,Int.natAbs_natCast];have:y.num.sign.natAbs=1:=by rw[Afg];split <;> (try split) <;> omega
 rw[this,Nat.mul_one];exact Ls hx.1 hy.2
theorem Avv{a d:Nat}(hd:0<d)(ha:0<a):(-(a:Int))/(d:Int) = -(((a/d+if a%d=0 then 0 else 1:Nat)):Int):=by
 have h1:=Nat.div_add_mod a d;have h2:=Nat.mod_lt a hd;have h3:(a:Int)=d*((a/d:Nat):Int)+((a%d:Nat):Int):=by rw[<-Int.natCast_mul,<-Int.natCast_add,h1]
 generalize a/d=q at *;generalize a%d=r at *
 by_cases h0:r=0
 .subst h0;rw[iP rfl,h3];rw[show -((d:Int)*(q:Int)+((0:Nat):Int))=(d:Int)*(-(q:Int)) by rw[Int.mul_neg];simp,Int.mul_ediv_cancel_left _ oo];simp
 .rw[iN h0];refine ((Int.ediv_emod_unique (r:=(d:Int)-r) oo).2 ⟨?_,oo,oo⟩).1;rw[h3,Int.natCast_add];have:(d:Int) * -((q:Int)+((1:Nat):Int)) = -(d*q)-d:=by rw[Int.mul_neg,Int.mul_add];simp;omega
  rw[this];omega
theorem Bbu{z:Int}{d:Nat}(hd:d≠0)(h1:(dig 65536 z.natAbs).length<=80000)(h2:(dig 65536 d).length<=80000):Jy (Z16 z) ⟨false,L16 d⟩=some (Z16 (z/(d:Int))):=by
 unfold Jy;simp only[Abk,jn_d];rw[Acr hd oo oo,Ac,Np]
 by_cases h:z<0
 .rw[iP (sV h)];simp only[];have hz:z = -((z.natAbs:Nat):Int):=oo;have e:=Avv (a:=z.natAbs) (Nat.pos_of_ne_zero hd) oo;rw[<-hz] at e;have hp:=Acv (a:=z.natAbs%d)
  by_cases h0:z.natAbs%d=0
  .rw[iN (by have:=hp.2 h0;omega)];rw[iP h0] at e;rw[e,Yh];unfold Z16;congr 2
   .generalize z.natAbs/d=q at *
    by_cases hq:q=0
    .rw[dF (by simp[hq]),dF oo]
    .rw[dT hq,dT oo]
   .congr 1;generalize z.natAbs/d=q at *;omega
  .rw[iP (by have:(L16 (z.natAbs%d)).length≠0:=fun e=>h0 (hp.1 e);omega)];rw[iN h0] at e;have hl:(dig 65536 (z.natAbs/d)).length<=80000:=Nat.le_trans (Ri (Nat.div_le_self _ _)) h1;rw[Awj,Awk oo (by rw[Ae8 oo];simp),Ac,e,Yh];unfold Z16;generalize z.natAbs/d=q at *;congr 2
   .rw[dT (oo:q+1≠0),dT oo]
 .rw[iN (sV h)];have hz:z=((z.natAbs:Nat):Int):=oo;rw[show z/(d:Int)=((z.natAbs/d:Nat):Int) by rw[hz,Int.natCast_ediv,Int.natAbs_natCast]];rw[<-Aff]
theorem Ap0{x:Rat}{i:Nat}(hx:Sml i x)(h:i<=40000):Ir (QR x)=some (Z16 x.floor):=by
 have a1:=hx.n;have a2:=hx.d;unfold Ir QR;simp only[];rw[Bbu (den0 x) oo oo,Ac,Rat.floor_def]
theorem Bbv{x:Rat}{i:Nat}(hx:Sml i x)(h:i<=40000):My (QR x)=some (Z16 (-(-x).floor)):=by
 unfold My;rw[Apz,Ac,Ap0 hx.neg h,Ac,Apy,Ac]
theorem Ar7(l:LM)(hl:∀x∈l,x<65536)(h4:l.length<=4)(hv:val 65536 l<4611686018427387905)(p:Ae)(hp:p.L=nI l):lfix (Es p) (0,(l.length:Int)-1)=some ((val 65536 l:Nat):Int):=by
 obtain⟨t,ht,rfl⟩:=Bp (B:=Es p) (fun s=>(s.2+1).toNat)
  (fun s=>∃k:Nat,s=(((val 65536 (l.drop k):Nat):Int),(k:Int)-1)/\k<=l.length)
  (fun t=>t=((val 65536 l:Nat):Int)) (by
   rintro s ⟨k,rfl,hk⟩;unfold Es
   by_cases h0:k=0
   .right;subst h0;exact⟨_,by simp only[];rw[iN oo],by rw[List.drop_zero]⟩
   ·left;have h1:k-1<l.length:=oo;have hx:=hl _ (List.getElem_mem h1);have hd:=Sf (b:=65536) l (k-1) h1;rw[show k-1+1=k by omega] at hd;have hle:val 65536 (l.drop (k-1))<=val 65536 l:=by
     have:=Abi l (k-1) oo;have h2:val 65536 (l.drop (k-1))<=65536^(k-1)*val 65536 (l.drop (k-1)):=Nat.le_mul_of_pos_left _ (Nat.pow_pos oo);omega
    refine⟨(((val 65536 (l.drop (k-1)):Nat):Int),((k-1:Nat):Int)-1),?_,⟨k-1,rfl,oo⟩,by simp;omega⟩;simp only[hp];rw[iP oo,show ((k:Int)-1)=((k-1:Nat):Int) from by omega,Bu h1,Ac,hd];generalize val 65536 (l.drop k)=H at *;generalize l[k-1]=x at *;rw[Av (x:=(H:Int)*65536) oo oo,Av oo oo,Av oo oo];congr 3;omega)
  (0,(l.length:Int)-1) ⟨l.length,by simp[val],nL _⟩
 exact ht
theorem Bbw{z:Int}(h:z.natAbs<=1152921504606846976):Jx (Z16 z)=some (z,true):=by
 have hl:(dig 65536 z.natAbs).length<=4:=Fe oo;have hv:=Ch (b:=65536) oo z.natAbs;have hf:=Ar7 (dig 65536 z.natAbs) (Ng oo _) hl (by rw[hv];omega) (Z16 z) Abk;rw[hv] at hf;have fin:(jn (fun (s6:Int)=>
   jn (fun (s15:Bool)=>
   if s15=true then (some ((0:Int),false))
   else (jn (fun (s17:Int)=>
   some (s17,true))
   (fun j17=>if (Z16 z).Neg=true then (j17 (w64 (-s6)))
   else (j17 s6))))
   (fun j15=>if s6<0 then (j15 true)
   else (j15 (decide (4611686018427387904<s6)))))
   (fun j6=>bnd (lfix (Es (Z16 z)) (0,w64 (((((dig 65536 z.natAbs).length:Nat):Int))-1))) fun t39=>
   j6 t39))=some (z,true):=by
  simp only[jn_d];rw[Av oo oo,hf,Ac,iN oo,iN (by simp;omega),Np]
  by_cases hn:z<0
  .rw[iP (sV hn),Av oo oo];congr 2;omega
  .rw[iN (sV hn)];congr 2;omega
 unfold Jx;rw[jn_d,Abk,Wf,iN oo]
 by_cases h4:(((dig 65536 z.natAbs).length:Nat):Int)=4
 .have h3:3<(dig 65536 z.natAbs).length:=oo;have hd:=Vm (m:=z.natAbs) (k:=3) oo;rw[Sf _ _ h3,List.drop_eq_nil_of_le oo] at hd;simp only[val,Nat.mul_zero,Nat.add_zero] at hd;rw[iP h4,show idx (L16 z.natAbs) 3=some (((dig 65536 z.natAbs)[3]:Nat):Int) from Bu h3,Ac,dF (by rw[hd];omega)];exact fin
 .rw[iN h4];exact fin
theorem Bad{z:Int}(h:z.natAbs<=1152921504606846976):Ny (Z16 z)=some (z,0):=by
 unfold Ny;rw[Bbw h,Ac,jn_d];simp only[if_true];rw[iN oo,dF oo,iN s_]
theorem Avw{x y:Rat}{i:Nat}(hx:Sml i x)(hy:Sml i y)(h:i<=20000)(h1:(if y<x then y else x).floor.natAbs<=1152921504606846976)(h2:(-(-(if x<y then y else x)).floor).natAbs<=1152921504606846976):
  Mz [QR x,QR y]=some (⟨(if y<x then y else x).floor,-(-(if x<y then y else x)).floor⟩,0):=by
 have hlow:Sml i (if y<x then y else x):=by split;exact hy;exact hx
 have hhigh:Sml i (if x<y then y else x):=by split;exact hy;exact hx
 have sg:∀z:Rat,z.num.sign<0↔z<0:=fun z=>by
  rw[Afg,<-Rat.not_le,<-Rat.num_nonneg];split
  .omega
  .split <;> omega
 have sg2:∀z:Rat,0<z.num.sign↔0<z:=fun z=>by
  have e:z.num.sign = -((-z).num.sign):=by rw[Rat.neg_num,Int.sign_neg,Int.neg_neg]
  rw[e];have:=sg (-z);constructor
  .intro h;have h':=this.1 oo;rw[Rat.neg_lt_iff] at h';simpa using h'
  .intro h;have h':=this.2 (by rw[Rat.neg_lt_iff];simpa using h);omega
 have body:Gn [QR x,QR y] ((QR x).N.Neg,(QR x).N.L,(QR x).D,(QR x).N.Neg,(QR x).N.L,(QR x).D,1)=some (.inl ((QR (if y<x then y else x)).N.Neg,(QR (if y<x then y else x)).N.L,(QR (if y<x then y else x)).D,(QR (if x<y then y else x)).N.Neg,(QR (if x<y then y else x)).N.L,(QR (if x<y then y else x)).D,2)):=by
  unfold Gn;simp only[jn_d];have eq:∀q:Rat,(⟨(⟨(QR q).N.Neg,(QR q).N.L⟩:Ae),(QR q).D⟩:Aj)=QR q:=fun _=>rfl
  rw[iP s_,show idx [QR x,QR y] 1=some (QR y) from rfl];simp only[Ac,eq];rw[Bac hy hx oo];simp only[Ac];have d1:(y-x).num.sign<0↔y<x:=by rw[sg,Rat.lt_iff_sub_pos y x];rw[show y-x = -(x-y) from (Rat.neg_sub x y).symm,Rat.neg_lt_iff];simp
  have d2:0<(y-x).num.sign↔x<y:=by rw[sg2,Rat.lt_iff_sub_pos x y]
  rw[show w64 (1+1)=2 from by decide]
  by_cases c1:y<x
  .rw[iP (d1.2 c1),iP c1]
   by_cases c2:x<y
   .rw[iP (d2.2 c2),iP c2]
   .rw[iN (fun h=>c2 (d2.1 h)),iN c2]
  .rw[iN (fun h=>c1 (d1.1 h)),iN c1]
   by_cases c2:x<y
   .rw[iP (d2.2 c2),iP c2]
   .rw[iN (fun h=>c2 (d2.1 h)),iN c2]
 have fin:∀a b c d e f,Gn [QR x,QR y] (a,b,c,d,e,f,2)=some (.inr (a,b,c,d,e,f)):=fun a b c d e f=>by
  unfold Gn;rw[iN s_]
 unfold Mz;simp only[jn_d];rw[show idx [QR x,QR y] 0=some (QR x) from rfl,Ac,Ac,Ax,body];simp only[];rw[Ax,fin];simp only[Ac];have eq:∀q:Rat,(⟨(⟨(QR q).N.Neg,(QR q).N.L⟩:Ae),(QR q).D⟩:Aj)=QR q:=fun _=>rfl
 simp only[eq];rw[Ap0 hlow oo,Ac,Bad h1,Ac,Bbv hhigh oo,Ac,Bad h2,Ac];simp
end
namespace X
open Go
def okPt(p:Kt):Bool:=decide (0<=p.Id/\p.Id<=1152921504606846976/\-268435456<=p.X/\p.X<=268435456/\-268435456<=p.Y/\p.Y<=268435456/\-268435456<=p.Z.Lo/\p.Z.Lo<=p.Z.Hi/\p.Z.Hi<=268435456/\0<=p.Wide/\p.Wide<=268435456/\1<=p.Num/\p.Num<=p.Of/\p.Of<=15)
def okRules(r:Abp):Bool:=decide (1<=r.Cell/\r.Cell<=10000000/\0<=r.Reach/\r.Reach<=1000000/\0<=r.Slope/\r.Slope<=100000/\1<=r.Link/\r.Link<=1000000/\0<=r.Flat/\r.Flat<=1000000/\0<=r.Tall/\r.Tall<=1000000/\0<=r.High/\r.High<=1000000/\0<=r.Low/\r.Low<=1000000/\0<=r.Brush/\r.Brush<=1000000/\1<=r.Few/\r.Few<=1024)
instance:DecidableEq Ad:=fun a b=>by
 rcases a with⟨x,y⟩;rcases b with⟨u,v⟩
 exact decidable_of_iff (x=u/\y=v) s_
structure Fit(l:List Kt):Prop where
 n:l.length<=1024
 ok:∀p∈l,okPt p=true
 id:(l.map (·.Id)).Nodup
end X
section
open Go Go.Shelf Go.Sort
abbrev FitF:=Kt->Int×Bool×Int
end
namespace X
open Go
end X
section
open Go
theorem Ap1(a b c p:Ad):crs b c p+crs c a p+crs a b p=crs a b c:=by unfold crs;grind
def zV(v:List Aa)(i:Int):Af:=match idx v i with
 |some x=>x.Z
 |none=>⟨0,0⟩
def covT(v:List Aa)(at_:Ad)(t:Ah):Bool:=decide (0<=crs (plV v t.a0) (plV v t.a1) at_/\0<=crs (plV v t.a1) (plV v t.a2) at_/\0<=crs (plV v t.a2) (plV v t.a0) at_)
def Fh(v:List Aa)(t:Ah):Int:=crs (plV v t.a0) (plV v t.a1) (plV v t.a2)
def wsum(v:List Aa)(at_:Ad)(t:Ah)(f:Af->Int):Int :=
 crs (plV v t.a1) (plV v t.a2) at_*f (zV v t.a0)+crs (plV v t.a2) (plV v t.a0) at_*f (zV v t.a1)+crs (plV v t.a0) (plV v t.a1) at_*f (zV v t.a2)
def bndT(v:List Aa)(at_:Ad)(t:Ah):Af:=⟨wsum v at_ t (·.Lo)/Fh v t,-((-(wsum v at_ t (·.Hi)))/Fh v t)⟩
def locT(v:List Aa)(T:List Ah)(at_:Ad):Option Nat:=T.findIdx? (covT v at_)
theorem Ar8{α:Type}(l:List α)(p:α->Bool)(B:Int->Option (Sum Int (Sum Unit Int)))(h1:∀ (j:Nat) (h:j<l.length),B j=if p l[j]=true then some (.inr (.inr (j:Int))) else some (.inl ((j+1:Nat):Int)))(h2:B l.length=some (.inr (.inl ()))):
  lfix B 0=some (match l.findIdx? p with|some i=>.inr (i:Int)|none=>.inl ()):=by
 have key:∀(m k:Nat),k<=l.length->l.length-k=m->(∀j (hj:j<l.length),j<k->p l[j]=false)->lfix B k=some (match l.findIdx? p with|some i=>.inr (i:Int)|none=>.inl ()):=by
  intro m
  induction m with
  |zero=>
   intro k hk hm hf;obtain rfl:k=l.length:=oo;rw[Ax,h2];have:l.findIdx? p=none:=by
    rw[List.findIdx?_eq_none_iff];intro x hx;obtain⟨j,hj,rfl⟩:=List.getElem_of_mem hx;exact hf j hj hj
   rw[this]
  |succ m ih=>
   intro k hk hm hf;have hlt:k<l.length:=oo;rw[Ax,h1 k hlt]
   by_cases hp:p l[k]=true
   ·rw[if_pos hp];have:l.findIdx? p=some k:=by
     rw[List.findIdx?_eq_some_iff_getElem];exact⟨hlt,hp,fun j hj=>by rw[hf j oo hj];simp⟩
    rw[this]
   .rw[iN hp];refine ih (k+1) oo oo fun j hj hjk=>?_
    by_cases e:j=k
    .subst e;exact Bool.eq_false_iff.2 hp
    .exact hf j hj oo
 exact key l.length 0 (Nat.zero_le _) rfl (fun j _ h=>absurd h oo)
structure Msh(m:Aw):Prop where
 n:m.V.length<=1024
 ok:∀x∈m.V,Nl x
 len:m.T.length<=1152921504606846976
 t:∀t∈m.T,inN m.V.length t.a0/\inN m.V.length t.a1/\inN m.V.length t.a2/\0<Fh m.V t
theorem Qu{n:Nat}{i:Int}(h:inN n i):∃k:Nat,i=(k:Int)/\k<n:=⟨i.toNat,by unfold inN at h;omega,by unfold inN at h;omega⟩
theorem Alq{v:List Aa}{k:Nat}(hk:k<v.length):zV v (k:Int)=v[k].Z:=by unfold zV;rw[Az hk]
theorem Kj{v:List Aa}(h:∀x∈v,Nl x){i:Int}(hi:inN v.length i):okP (plV v i)/\-268435456<=(zV v i).Lo/\(zV v i).Lo<=(zV v i).Hi/\(zV v i).Hi<=268435456:=by
 obtain⟨k,rfl,hk⟩:=Qu hi;rw[Vw hk,Alq hk];exact h _ (gM hk)
section
variable {m:Aw}(h:Msh m)
include h
theorem Alr{p:Ad}{t:Ah}(ht:t∈m.T)(hc:covT m.V p t=true):-268435456<=(bndT m.V p t).Lo/\(bndT m.V p t).Lo<=(bndT m.V p t).Hi/\(bndT m.V p t).Hi<=268435456:=by
 obtain⟨h0,h1,h2,hpos⟩:=h.t _ ht;obtain⟨q0,z0⟩:=Kj h.ok h0;obtain⟨q1,z1⟩:=Kj h.ok h1;obtain⟨q2,z2⟩:=Kj h.ok h2;have hs:=Ap1 (plV m.V t.a0) (plV m.V t.a1) (plV m.V t.a2) p;unfold Fh at hpos;unfold covT at hc;rw[dQ] at hc;unfold bndT wsum Fh;dsimp only;rw[<-hs];rw[<-hs] at hpos;obtain⟨n0,n1,n2⟩:=hc;generalize crs (plV m.V t.a1) (plV m.V t.a2) p=w0 at *;generalize crs (plV m.V t.a2) (plV m.V t.a0) p=w1 at *;generalize crs (plV m.V t.a0) (plV m.V t.a1) p=w2 at *;generalize zV m.V t.a0=s0 at *;generalize zV m.V t.a1=s1 at *;generalize zV m.V t.a2=s2 at *;have a0:=Int.mul_le_mul_of_nonneg_left (oo:-268435456<=s0.Lo) n1;have a1:=Int.mul_le_mul_of_nonneg_left (oo:-268435456<=s1.Lo) n2;have a2:=Int.mul_le_mul_of_nonneg_left (oo:-268435456<=s2.Lo) n0;have b0:=Int.mul_le_mul_of_nonneg_left (oo:s0.Hi<=268435456) n1;have b1:=Int.mul_le_mul_of_nonneg_left (oo:s1.Hi<=268435456) n2;have b2:=Int.mul_le_mul_of_nonneg_left (oo:s2.Hi<=268435456) n0;have c0:=Int.mul_le_mul_of_nonneg_left (oo:s0.Lo<=s0.Hi) n1;have c1:=Int.mul_le_mul_of_nonneg_left (oo:s1.Lo<=s1.Hi) n2;have c2:=Int.mul_le_mul_of_nonneg_left (oo:s2.Lo<=s2.Hi) n0;generalize w0*s0.Lo=x0 at *;generalize w1*s1.Lo=x1 at *;generalize w2*s2.Lo=x2 at *;generalize w0*s0.Hi=y0 at *;generalize w1*s1.Hi=y1 at *;generalize w2*s2.Hi=y2 at *;generalize hA:w0+w1+w2=A at *;have e1:-268435456<=(x0+x1+x2)/A:=Int.le_ediv_of_mul_le hpos oo;have e2:-268435456<=(-(y0+y1+y2))/A:=Int.le_ediv_of_mul_le hpos oo;have g1:=Int.mul_ediv_self_le (x:=x0+x1+x2) (k:=A) oo;have g2:=Int.mul_ediv_self_le (x:=-(y0+y1+y2)) (k:=A) oo;refine⟨e1,?_,oo⟩;refine Int.not_lt.1 fun hlt=>?_
 have g3:=Int.mul_le_mul_of_nonneg_left (oo:-((-(y0+y1+y2))/A)+1<=(x0+x1+x2)/A) (oo:0<=A);rw[Int.mul_add,Int.mul_neg,Int.mul_one] at g3;omega
end
theorem pow8:(65536:Nat)^8=340282366920938463463374607431768211456:=dD
theorem addI{a b:Int}(ha:a.natAbs<65536^8)(hb:b.natAbs<65536^8):Cw (QR (a:Rat)) (QR (b:Rat))=some (QR ((a+b:Int):Rat)):=by
 rw[Baa (Sml.int ha oo) (Sml.int hb oo) oo,Rat.intCast_add]
theorem subI{a b:Int}(ha:a.natAbs<65536^8)(hb:b.natAbs<65536^8):Di (QR (a:Rat)) (QR (b:Rat))=some (QR ((a-b:Int):Rat)):=by
 rw[Bab (Sml.int ha oo) (Sml.int hb oo) oo,Rat.intCast_sub]
theorem mulI{a b:Int}(ha:a.natAbs<65536^8)(hb:b.natAbs<65536^8):Dx (QR (a:Rat)) (QR (b:Rat))=some (QR ((a*b:Int):Rat)):=by
 rw[Bdl (Sml.int ha oo) (Sml.int hb oo) oo,Rat.intCast_mul]
theorem An1{x1 y1 x2 y2 x3 y3:Int}(h:∀ z∈[x1,y1,x2,y2,x3,y3],-268435456<=z/\z<=268435456):
  Is ⟨QR (x1:Rat),QR (y1:Rat)⟩ ⟨QR (x2:Rat),QR (y2:Rat)⟩ ⟨QR (x3:Rat),QR (y3:Rat)⟩=some (QR ((crs ⟨x1,y1⟩ ⟨x2,y2⟩ ⟨x3,y3⟩:Int):Rat)):=by
 have a1:=h x1 s_;have a2:=h y1 s_;have a3:=h x2 s_;have a4:=h y2 s_;have a5:=h x3 s_;have a6:=h y3 s_;have m1:=mulB (x:=x2-x1) (y:=y3-y1) (M:=536870912) (N:=536870912) oo oo oo oo oo;have m2:=mulB (x:=y2-y1) (y:=x3-x1) (M:=536870912) (N:=536870912) oo oo oo oo oo;unfold Is;dsimp only;rw[subI (by rw[pow8];omega) (by rw[pow8];omega),Ac,subI (by rw[pow8];omega) (by rw[pow8];omega),Ac,mulI (by rw[pow8];omega) (by rw[pow8];omega),Ac,subI (by rw[pow8];omega) (by rw[pow8];omega),Ac,
  subI (by rw[pow8];omega) (by rw[pow8];omega),Ac,mulI (by rw[pow8];omega) (by rw[pow8];omega),Ac,subI (by rw[pow8];omega) (by rw[pow8];omega),Ac]
 rfl
theorem Agf{z S A:Int}(hA:0<A):(z:Rat)<=(S:Rat)/(A:Rat)↔z*A<=S:=by
 have hA':(0:Rat)<(A:Rat):=by rw[show (0:Rat)=((0:Int):Rat) from rfl,Rat.intCast_lt_intCast];exact hA
 have hne:(A:Rat)≠0:=fun e=>by rw[e] at hA';exact absurd hA' dD
 have e:=Rat.div_mul_cancel (a:=(S:Rat)) hne;rw[<-Rat.intCast_le_intCast,Rat.intCast_mul];generalize (S:Rat)/(A:Rat)=y at *;rw[<-e];constructor
 .intro h;exact Rat.mul_le_mul_of_nonneg_right h (by grind)
 .intro h;exact Rat.le_of_mul_le_mul_right h hA'
theorem Ar9{S A:Int}(hA:0<A):((S:Rat)/(A:Rat)).floor=S/A:=by
 refine Int.le_antisymm ?_ ?_
 .have h:=(Rat.le_floor_iff (x:=((S:Rat)/(A:Rat)).floor) (a:=(S:Rat)/(A:Rat))).1 (Int.le_refl _);exact Int.le_ediv_of_mul_le hA ((Agf hA).1 h)
 .rw[Rat.le_floor_iff,Agf hA];exact Int.ediv_mul_le _ oo
theorem At_Q{p:Ad}(hp:okP p):Jc p=some ⟨QR (p.X:Rat),QR (p.Y:Rat)⟩:=by
 unfold okP at hp;unfold Jc;rw[Yi oo oo,Ac,Yi oo oo,Ac]
section
variable {m:Aw}(h:Msh m)
include h
theorem Asa{p:Ad}(hp:okP p){t:Ah}(ht:t∈m.T):Mb m t ⟨QR (p.X:Rat),QR (p.Y:Rat)⟩ =
  some ⟨QR ((crs (plV m.V t.a1) (plV m.V t.a2) p:Int):Rat),QR ((crs (plV m.V t.a2) (plV m.V t.a0) p:Int):Rat),QR ((crs (plV m.V t.a0) (plV m.V t.a1) p:Int):Rat)⟩:=by
 obtain⟨h0,h1,h2,_⟩:=h.t _ ht;have q0:=(Kj h.ok h0).1;have q1:=(Kj h.ok h1).1;have q2:=(Kj h.ok h2).1;obtain⟨a,ea,ha⟩:=Qu h0;obtain⟨b,eb,hb⟩:=Qu h1;obtain⟨c,ec,hc⟩:=Qu h2;have pa:∀{k:Nat} (hk:k<m.V.length),Am m.V[k]=some (plV m.V (k:Int)):=fun hk=>by rw[Vw hk];rfl
 unfold Mb;rw[ea,eb,ec,Az ha,Ac,Az hb,Ac,Az hc,Ac,pa ha,Ac,pa hb,pa hc];rw[ea] at q0;rw[eb] at q1;rw[ec] at q2;rw[At_Q q0,Ac,Ac,At_Q q1,Ac,Ac,At_Q q2,Ac];generalize plV m.V (a:Int)=A at *;generalize plV m.V (b:Int)=B at *;generalize plV m.V (c:Int)=C at *;have all:∀{u v w:Ad},okP u->okP v->okP w->∀z∈[u.X,u.Y,v.X,v.Y,w.X,w.Y],-268435456<=z/\z<=268435456:=fun hu hv hw z hz=>by
  unfold okP at hu hv hw;simp only[List.mem_cons,List.not_mem_nil,or_false] at hz;omega
 rw[An1 (all hp q1 q2),Ac,An1 (all q0 hp q2),Ac,An1 (all q0 q1 hp),Ac];have r1:crs p B C=crs B C p:=by unfold crs;grind
 have r2:crs A p C=crs C A p:=by unfold crs;grind
 show some (⟨QR ((crs p B C:Int):Rat),QR ((crs A p C:Int):Rat),QR ((crs A B p:Int):Rat)⟩:Qz)=_;rw[r1,r2]
theorem Aau{p:Ad}(hp:okP p){t:Ah}(ht:t∈m.T)(b:Bool)(f:Af->Int)(hf:∀ z,f z=if b=true then z.Hi else z.Lo):
  It m t ⟨QR (p.X:Rat),QR (p.Y:Rat)⟩ b=some (QR (((wsum m.V p t f:Int):Rat)/((Fh m.V t:Int):Rat))):=by
 obtain⟨h0,h1,h2,hpos⟩:=h.t _ ht;obtain⟨q0,z0⟩:=Kj h.ok h0;obtain⟨q1,z1⟩:=Kj h.ok h1;obtain⟨q2,z2⟩:=Kj h.ok h2;have hs:=Ap1 (plV m.V t.a0) (plV m.V t.a1) (plV m.V t.a2) p;have b0:=Il q1 q2 hp;have b1:=Il q2 q0 hp;have b2:=Il q0 q1 hp;have b3:=Il q0 q1 q2;unfold Fh at hpos;unfold It;rw[Asa h hp ht,Ac,show Cl 0=some (QR ((0:Int):Rat)) from Yi oo oo,Ac,Ac];unfold wsum Fh;obtain⟨a,ea,ha⟩:=Qu h0;obtain⟨b',eb,hb⟩:=Qu h1;obtain⟨c,ec,hc⟩:=Qu h2;have hh:∀{k:Nat} (hk:k<m.V.length),Fg m.V[k] b=some (f (zV m.V (k:Int))):=fun hk=>by
  unfold Fg;rw[Alq hk,hf];cases b <;> rfl
 rw[<-hs];rw[<-hs] at hpos b3;have f0:-268435456<=f (zV m.V t.a0)/\f (zV m.V t.a0)<=268435456:=by rw[hf];split <;> omega
 have f1:-268435456<=f (zV m.V t.a1)/\f (zV m.V t.a1)<=268435456:=by rw[hf];split <;> omega
 have f2:-268435456<=f (zV m.V t.a2)/\f (zV m.V t.a2)<=268435456:=by rw[hf];split <;> omega
 have k0:=hh ha;have k1:=hh hb;have k2:=hh hc;rw[<-ea] at k0;rw[<-eb] at k1;rw[<-ec] at k2;have i0:idx m.V t.a0=some m.V[a]:=by rw[ea];exact Az ha
 have i1:idx m.V t.a1=some m.V[b']:=by rw[eb];exact Az hb
 have i2:idx m.V t.a2=some m.V[c]:=by rw[ec];exact Az hc
 rw[i0,Ac,k0,Ac];generalize f (zV m.V t.a0)=v0 at *;rw[Yi oo oo,Ac];generalize crs (plV m.V t.a1) (plV m.V t.a2) p=w0 at *;generalize crs (plV m.V t.a2) (plV m.V t.a0) p=w1 at *;generalize crs (plV m.V t.a0) (plV m.V t.a1) p=w2 at *;have m0:=mulB (x:=w0) (y:=v0) (M:=576460752303423488) (N:=268435456) oo oo oo oo oo;dsimp only;rw[mulI (by rw[pow8];omega) (by rw[pow8];omega),Ac,addI (by rw[pow8];omega) (by rw[pow8];omega),Ac,addI (by rw[pow8];omega) (by rw[pow8];omega),Ac,i1,Ac,k1,Ac];generalize f (zV m.V t.a1)=v1 at *;have m1:=mulB (x:=w1) (y:=v1) (M:=576460752303423488) (N:=268435456) oo oo oo oo oo;rw[Yi oo oo,Ac,mulI (by rw[pow8];omega) (by rw[pow8];omega),Ac,addI (by rw[pow8];omega) (by rw[pow8];omega),Ac,addI (by rw[pow8];omega) (by rw[pow8];omega),Ac,i2,Ac,k2,Ac];generalize f (zV m.V t.a2)=v2 at *;have m2:=mulB (x:=w2) (y:=v2) (M:=576460752303423488) (N:=268435456) oo oo oo oo oo;rw[Yi oo oo,Ac,mulI (by rw[pow8];omega) (by rw[pow8];omega),Ac,addI (by rw[pow8];omega) (by rw[pow8];omega),Ac,addI (by rw[pow8];omega) (by rw[pow8];omega),Ac];have e1:0+w0*v0+w1*v1+w2*v2=w0*v0+w1*v1+w2*v2:=oo;have e2:0+w0+w1+w2=w0+w1+w2:=oo;rw[e1,e2];have hne:((w0+w1+w2:Int):Rat)≠0:=fun e=>by
  rw[show (0:Rat)=((0:Int):Rat) from rfl,Rat.intCast_inj] at e;omega
 rw[Bdm (Sml.int (k:=8) (by rw[pow8];omega) oo) (Sml.int (k:=8) (by rw[pow8];omega) oo) oo hne,Ac]
end
theorem Asb{A B D:Aa}{p:Ad}(hA:okP (pP A))(hB:okP (pP B))(hD:okP (pP D))(hp:okP p):
  Qk ⟨A,B,D⟩ p=some (decide (0<=crs (pP A) (pP B) p/\0<=crs (pP B) (pP D) p/\0<=crs (pP D) (pP A) p)):=by
 have sg:∀z:Int,Int.sign z<0↔¬0<=z:=fun z=>by rw[Int.sign_neg_iff];omega
 have s0:Fw ⟨A,B,D⟩ p 0=if 0<=crs (pP A) (pP B) p then some (.inl 1) else some (.inr (.inr false)):=by
  unfold Fw Df;dsimp only;rw[iP oo,show idx [A,B,D] 0=some A from rfl,Ac,show Int.tmod (w64 (0+1)) 3=1 from by decide,show idx [A,B,D] 1=some B from rfl,Ac,Ac,Ac,show Et ⟨A.X,A.Y⟩ ⟨B.X,B.Y⟩ p=_ from Qt hA hB hp,Ac]
  by_cases c:0<=crs (pP A) (pP B) p
  .rw[iN (by rw[sg];exact fun h=>h c),iP c];rfl
  .rw[iP (by rw[sg];exact c),iN c]
 have s1:Fw ⟨A,B,D⟩ p 1=if 0<=crs (pP B) (pP D) p then some (.inl 2) else some (.inr (.inr false)):=by
  unfold Fw Df;dsimp only;rw[iP oo,show idx [A,B,D] 1=some B from rfl,Ac,show Int.tmod (w64 (1+1)) 3=2 from by decide,show idx [A,B,D] 2=some D from rfl,Ac,Ac,Ac,show Et ⟨B.X,B.Y⟩ ⟨D.X,D.Y⟩ p=_ from Qt hB hD hp,Ac]
  by_cases c:0<=crs (pP B) (pP D) p
  .rw[iN (by rw[sg];exact fun h=>h c),iP c];rfl
  .rw[iP (by rw[sg];exact c),iN c]
 have s2:Fw ⟨A,B,D⟩ p 2=if 0<=crs (pP D) (pP A) p then some (.inl 3) else some (.inr (.inr false)):=by
  unfold Fw Df;dsimp only;rw[iP oo,show idx [A,B,D] 2=some D from rfl,Ac,show Int.tmod (w64 (2+1)) 3=0 from by decide,show idx [A,B,D] 0=some A from rfl,Ac,Ac,Ac,show Et ⟨D.X,D.Y⟩ ⟨A.X,A.Y⟩ p=_ from Qt hD hA hp,Ac]
  by_cases c:0<=crs (pP D) (pP A) p
  .rw[iN (by rw[sg];exact fun h=>h c),iP c];rfl
  .rw[iP (by rw[sg];exact c),iN c]
 have s3:Fw ⟨A,B,D⟩ p 3=some (.inr (.inl ())):=by
  unfold Fw;rw[iN oo]
 unfold Qk;rw[jn_d,Ax,s0]
 by_cases c0:0<=crs (pP A) (pP B) p
 .rw[iP c0];dsimp only;rw[Ax,s1]
  by_cases c1:0<=crs (pP B) (pP D) p
  .rw[iP c1];dsimp only;rw[Ax,s2]
   by_cases c2:0<=crs (pP D) (pP A) p
   .rw[iP c2];dsimp only;rw[Ax,s3];simp[c0,c1,c2,Ac]
   .rw[iN c2];simp[c0,c1,c2,Ac]
  .rw[iN c1];simp[c0,c1,Ac]
 .rw[iN c0];simp[c0,Ac]
structure Agg(m:Aw):Prop where
 b:Me m.V m.Lines=some (m,0)
 n:m.V.length<=1024
 len:m.T.length<=1000000000
 ok:∀x∈m.V,okV x
 lines:m.Lines.length<=1000000000
 t:∀t∈m.T,inN m.V.length t.a0/\inN m.V.length t.a1/\inN m.V.length t.a2/\0<Fh m.V t
theorem okV.okP{x:Aa}(h:okV x):okP (pP x):=by
 obtain⟨h,_⟩:=h;unfold Go.Proofs.YtlejkgngmjchdaaGreat.okP pP;dsimp only;omega
theorem Als(l:List Ah)(hl:l.length<=1000000000):Ca l l=some true:=by
 unfold Ca;rw[iP rfl,jn_d,Vh l (fun _=>true) (Bi l l) () false (fun j hj=>?_) ?_,Ac]
 .simp
 .unfold Bi;rw[iN oo]
 .unfold Bi;rw[iP oo,Az hj,Ac,Ac,iP s_,Bd oo,iP rfl]
theorem Alt(l:List Ab)(hl:l.length<=1000000000):Cb l l=some true:=by
 unfold Cb;rw[iP rfl,jn_d,Vh l (fun _=>true) (Bj l l) () false (fun j hj=>?_) ?_,Ac]
 .simp
 .unfold Bj;rw[iN oo]
 .unfold Bj;rw[iP oo,Az hj,Ac,Ac,iP s_,Bd oo,iP rfl]
theorem Abz{c e N W:Int}(he:0<e)(hW:0<W)(h:c*W=N*e):c/e=N/W:=by
 rw[<-Int.mul_ediv_mul_of_pos c e hW,<-Int.mul_ediv_mul_of_pos N W he,Int.mul_comm W c,h,Int.mul_comm N e,Int.mul_comm W e]
section
variable {m:Aw}(h:Agg m)
include h
theorem Ap2:Rx m=some 0:=by
 unfold Rx;rw[h.b,Ac,jn_d,iP rfl];dsimp only;rw[Als _ h.len,Ac,iP rfl,Alt _ h.lines,Ac];rfl
theorem Aif{t:Ah}(ht:t∈m.T):∃A B D,Oq m t=some ⟨A,B,D⟩/\(okV A/\okV B/\okV D)/\(pP A=plV m.V t.a0/\pP B=plV m.V t.a1/\pP D=plV m.V t.a2)/\A.Z=zV m.V t.a0/\B.Z=zV m.V t.a1/\D.Z=zV m.V t.a2:=by
 obtain⟨h0,h1,h2,_⟩:=h.t _ ht;obtain⟨a,ea,ha⟩:=Qu h0;obtain⟨b,eb,hb⟩:=Qu h1;obtain⟨c,ec,hc⟩:=Qu h2;refine⟨m.V[a],m.V[b],m.V[c],?_,⟨h.ok _ (gM ha),h.ok _ (gM hb),h.ok _ (gM hc)⟩,⟨?_,?_,?_⟩,?_,?_,?_⟩
 .unfold Oq;rw[ea,Az ha,Ac,eb,Az hb,Ac,ec,Az hc,Ac]
 .rw[ea,Vw ha]
 .rw[eb,Vw hb]
 .rw[ec,Vw hc]
 .rw[ea,Alq ha]
 .rw[eb,Alq hb]
 .rw[ec,Alq hc]
theorem Ay1{p:Ad}(hp:okP p):Xl m p=some (match locT m.V m.T p with|some i=>(i:Int)|none=>-1):=by
 unfold Xl;have hl:=h.len;rw[jn_d,Ar8 m.T (covT m.V p) (Sz m p) (fun j hj=>?_) ?_,Ac]
 .unfold locT;cases m.T.findIdx? (covT m.V p) <;> rfl
 .unfold Sz;rw[iN oo]
 .obtain⟨A,B,D,e,⟨n0,n1,n2⟩,⟨e0,e1,e2⟩,_⟩:=Aif h (gM hj);unfold Sz;rw[iP oo,Az hj,Ac,e,Ac,show Qk ⟨⟨A.X,A.Y,A.Z⟩,⟨B.X,B.Y,B.Z⟩,⟨D.X,D.Y,D.Z⟩⟩ p=_ from Asb n0.okP n1.okP n2.okP hp,Ac,Bd oo];unfold covT;rw[e0,e1,e2]
theorem Avx{p:Ad}(hp:okP p):La m p=some (match locT m.V m.T p with|some i=>((i:Int),0)|none=>(0,65)):=by
 unfold La;rw[Ap2 h,Ac,iP rfl,Afd,iP ⟨hp,hp,hp⟩,Ac];dsimp only;rw[iP rfl,Ay1 h hp,Ac];cases locT m.V m.T p with
 |none=>dsimp only;rw[iP oo]
 |some i=>
  have h0:¬((i:Nat):Int)<0:=oo;dsimp only;rw[iN h0]
theorem Avy{p:Ad}(hp:okP p):
  (locT m.V m.T p=none/\Fj m p=some (⟨false,[],[]⟩,⟨false,[],[]⟩,65)/\Hs m p=some (⟨0,0⟩,65)) \/
  ∃t∈m.T,covT m.V p t=true/\(∃i,locT m.V m.T p=some i/\idx m.T (i:Int)=some t)/\0<Fh m.V t /\
   ∃c1 d1 c2 d2,Lo 8 c1 d1/\Lo 8 c2 d2/\Fj m p=some (CR c1 d1,CR c2 d2,0)/\c1*Fh m.V t=wsum m.V p t (·.Lo)*(d1:Int)/\c2*Fh m.V t=wsum m.V p t (·.Hi)*(d2:Int) /\
    Hs m p=bnd (Sg (CR c1 d1) (CR c2 d2)) fun r0=>some (r0.1,r0.2):=by
 have F:=Avx h hp;unfold Hs Fj;rw[F,Ac];cases hl:locT m.V m.T p with
 |none=>
  left;refine⟨rfl,?_,?_⟩
  .dsimp only;rw[iN oo]
  .dsimp only;rw[iN oo,Ac];dsimp only;rw[iN oo]
 |some i=>
  right;have hl':=hl;unfold locT at hl';obtain⟨hi,hc,_⟩:=List.findIdx?_eq_some_iff_getElem.1 hl';obtain⟨A,B,D,e,⟨n0,n1,n2⟩,⟨e0,e1,e2⟩,z0,z1,z2⟩:=Aif h (gM hi);have hpos:=(h.t _ (gM hi)).2.2.2;refine⟨m.T[i],gM hi,hc,⟨i,rfl,Az hi⟩,hpos,?_⟩;unfold Fh at hpos;rw[<-e0,<-e1,<-e2] at hpos;unfold okP at hp;obtain⟨c1,d1,q1,s1,r1⟩:=Aqk (h:=false) n0 n1 n2 (x:=p.X) (y:=p.Y) oo oo hpos;obtain⟨c2,d2,q2,s2,r2⟩:=Aqk (h:=true) n0 n1 n2 (x:=p.X) (y:=p.Y) oo oo hpos;have eH:(if (0:Int)=0 then (jn (fun (s6:Int×Int×Int×Int×Int×Int×Int×Int×Int×Int×Int×Int)=>jn (fun (s7:Bool×LI×LI×Bool×LI×LI)=>bnd (Nj ⟨⟨s6.1,s6.2.1,⟨s6.2.2.1,s6.2.2.2.1⟩⟩,⟨s6.2.2.2.2.1,s6.2.2.2.2.2.1,⟨s6.2.2.2.2.2.2.1,s6.2.2.2.2.2.2.2.1⟩⟩,⟨s6.2.2.2.2.2.2.2.2.1,s6.2.2.2.2.2.2.2.2.2.1,⟨s6.2.2.2.2.2.2.2.2.2.2.1,s6.2.2.2.2.2.2.2.2.2.2.2⟩⟩⟩ ⟨s7.1,s7.2.1,s7.2.2.1⟩ ⟨s7.2.2.2.1,s7.2.2.2.2.1,s7.2.2.2.2.2⟩ false) fun r0=>bnd (Nj ⟨⟨s6.1,s6.2.1,⟨s6.2.2.1,s6.2.2.2.1⟩⟩,⟨s6.2.2.2.2.1,s6.2.2.2.2.2.1,⟨s6.2.2.2.2.2.2.1,s6.2.2.2.2.2.2.2.1⟩⟩,⟨s6.2.2.2.2.2.2.2.2.1,s6.2.2.2.2.2.2.2.2.2.1,⟨s6.2.2.2.2.2.2.2.2.2.2.1,s6.2.2.2.2.2.2.2.2.2.2.2⟩⟩⟩ ⟨s7.1,s7.2.1,s7.2.2.1⟩ ⟨s7.2.2.2.1,s7.2.2.2.2.1,s7.2.2.2.2.2⟩ true) fun r1=>some (r0,r1,(0:Int))) (fun j7=>bnd (Jb p.X) fun r2=>bnd (Jb p.Y) fun r3=>j7 (r2.Neg,r2.Num,r2.Den,r3.Neg,r3.Num,r3.Den))) (fun j6=>bnd (idx m.T (i:Int)) fun x0=>bnd (Oq m x0) fun r4=>j6 (r4.a0.X,r4.a0.Y,r4.a0.Z.Lo,r4.a0.Z.Hi,r4.a1.X,r4.a1.Y,r4.a1.Z.Lo,r4.a1.Z.Hi,r4.a2.X,r4.a2.Y,r4.a2.Z.Lo,r4.a2.Z.Hi))) else none)=some (CR c1 d1,CR c2 d2,0):=by
   rw[iP rfl];simp only[jn_d];rw[Az hi,Ac,e,Ac,Awp oo oo,Ac,Awp oo oo,Ac];show bnd (Nj ⟨A,B,D⟩ (CR p.X 1) (CR p.Y 1) false) (fun r50=>bnd (Nj ⟨A,B,D⟩ (CR p.X 1) (CR p.Y 1) true) fun r65=>some (r50,r65,(0:Int)))=_;rw[q1,Ac,q2,Ac]
  rw[iP rfl] at eH;refine⟨c1,d1,c2,d2,s1,s2,?_,?_,?_,?_⟩
  .dsimp only;rw[iP rfl];exact eH
  .unfold Fh wsum;rw[<-e0,<-e1,<-e2,<-z0,<-z1,<-z2];exact r1
  .unfold Fh wsum;rw[<-e0,<-e1,<-e2,<-z0,<-z1,<-z2];exact r2
  .dsimp only;rw[iP rfl];refine (congrArg (fun o=>bnd o _) eH).trans ?_;rw[Ac];dsimp only;rw[iP rfl]
end
theorem Avz{b m:Nat}(hb:2<=b)(h:0<(dig b m).length):∃h':(dig b m).length-1<(dig b m).length,(dig b m)[(dig b m).length-1]≠0:=by
 refine⟨oo,?_⟩;have h1:=(Ao8 hb ((dig b m).length-1) m).1 oo;have h2:¬(dig b m).length<(dig b m).length:=oo;have h3:=fun e=>h2 ((Ao8 hb (dig b m).length m).2 e)
 have h4:m/b^(dig b m).length=0:=Decidable.byContradiction h3;rw[Ax2 hb];intro e;have e2:=Nat.div_add_mod (m/b^((dig b m).length-1)) b;rw[e,Nat.div_div_eq_div_mul,<-Nat.pow_succ,show ((dig b m).length-1).succ=(dig b m).length by omega,h4] at e2;omega
def lim(l:LM):LM:=l.flatMap fun x=>[x%65536,x/65536]
theorem Ap3:∀(l:LM),val 65536 (lim l)=val 4294967296 l
 |[]=>rfl
 |x::r=>by
  have ih:=Ap3 r;unfold lim at *;rw[List.flatMap_cons,Oi];show (x%65536+65536*(x/65536+65536*0))+65536^2*_=x+4294967296*_;rw[ih];generalize val 4294967296 r=v;omega
theorem Bbx{l:LM}(h:∀x∈l,x<4294967296):∀x∈lim l,x<65536:=fun x hx=>by
 obtain⟨y,hy,hx⟩:=List.mem_flatMap.1 hx;have:=h y hy;simp at hx;omega
theorem Ajr:∀(l:LM),(lim l).length=2*l.length
 |[]=>rfl
 |x::r=>by
  have ih:=Ajr r;unfold lim at *;rw[List.flatMap_cons,List.length_append,ih,List.length_cons,List.length_cons,List.length_cons,List.length_nil];omega
theorem Bby(a b:LM):nI a++nI b=nI (a++b):=by unfold nI;rw[List.map_append]
theorem Av0(l:LM)(x:Nat):lim (l++[x])=lim l++[x%65536,x/65536]:=by unfold lim;rw[List.flatMap_append];rfl
theorem An2(l:List Nat)(hl:∀ x∈l,x<4294967296)(h:l.length<=256):
  lfix (Jt (l.length:Int) (nI l)) ([],0)=some (nI (lim l)):=by
 obtain⟨t,ht,rfl⟩:=Bp (B:=Jt (l.length:Int) (nI l)) (fun s=>(l.length:Int).toNat-s.2.toNat)
  (fun s=>∃k:Nat,k<=l.length/\s=(nI (lim (l.take k)),(k:Int))) (fun t=>t=nI (lim l)) (by
   rintro s ⟨k,hk,rfl⟩;unfold Jt
   by_cases hk':k<l.length
   .left;have hx:=hl _ (gM hk');refine⟨_,?_,⟨k+1,oo,rfl⟩,oo⟩;have len:=Ajr (l.take k);rw[List.length_take] at len;dsimp only;rw[iP oo,Bu hk',Ac,Ac,gd_t (by rw[Bm,len];omega),Bd oo];have e1:w64 (Int.tmod ((l[k]:Nat):Int) 65536)=((l[k]%65536:Nat):Int):=by rw[Aj1,Ol oo]
    have e2:w64 (wu32 (Int.tdiv ((l[k]:Nat):Int) 65536))=((l[k]/65536:Nat):Int):=by rw[Aj2,Zo oo,Ol oo]
    rw[List.take_succ_eq_append_getElem hk',Av0,<-Bby];have e3:([w64 (Int.tmod ((l[k]:Nat):Int) 65536),w64 (wu32 (Int.tdiv ((l[k]:Nat):Int) 65536))]:LI)=nI [l[k]%65536,l[k]/65536]:=by rw[e1,e2];rfl
    rw[<-e3]
   .right;obtain rfl:k=l.length:=oo;rw[List.take_length];exact⟨_,by dsimp only;rw[iN oo],rfl⟩) ([],0) ⟨0,oo,by simp[lim,nI]⟩
 exact ht
theorem Ajs{m:Nat}(h:(dig 4294967296 m).length<=256):Gi (L32 m)=some (L16 m,true):=by
 have hl:∀x∈dig 4294967296 m,x<4294967296:=Ng oo m;have e1:lfix (Js (L32 m)) (((L32 m).length:Nat):Int)=some (((dig 4294967296 m).length:Nat):Int):=by
  have hs:Js (L32 m) (((dig 4294967296 m).length:Nat):Int)=some (.inr (((dig 4294967296 m).length:Nat):Int)):=by
   unfold Js;rw[jn_d]
   by_cases h0:0<(dig 4294967296 m).length
   .obtain⟨h1,h2⟩:=Avz oo h0;unfold L32;rw[iP oo,Av oo oo,show (((dig 4294967296 m).length:Nat):Int)-1=(((dig 4294967296 m).length-1:Nat):Int) by omega,Bu h1,Ac,dF oo];rfl
   .rw[iN oo];rfl
  rw[Pu];unfold NW;rw[Ax,hs]
 unfold Gi;rw[jn_d,e1,Ac];dsimp only;rw[iN oo,jn_d];unfold L32;rw[An2 _ hl h,Ac];dsimp only;rw[Aay _ (by rw[Ajr];omega),Ac,Qb oo _ (Bbx hl),Ap3,Ch oo];rfl
theorem Av1{a k:Nat}(h:NW a<=k):a<65536^(2*k):=by
 have h1:=Nat.lt_of_lt_of_le (Aee a) (An9 h);rw[Nat.pow_mul];exact h1
theorem Av2{a k:Nat}(h:NW a<=k):(dig 65536 a).length<=2*k:=Fe (Av1 h)
theorem Av3{k:Nat}{c:Int}{e:Nat}(h:Lo k c e):(mkRat c e).num=c/\(mkRat c e).den=e:=by
 obtain⟨m,e',h1,h2,h3,h4,_⟩:=Zt (n:=c) (d:=e) (by have:=h.pos;omega);rw[h.co] at h1 h2;rw[h3,h4];exact⟨by rw[h1];simp,by rw[h2];simp⟩
theorem Bbz{k:Nat}{c:Int}{e:Nat}(h:Lo k c e):Sml (2*k) (mkRat c e):=by
 obtain⟨h1,h2⟩:=Av3 h;exact⟨by rw[h1];exact Av1 h.nz,by rw[h2];exact Av1 h.nd⟩
theorem Bdn{c:Int}{e:Nat}(h:Lo 60 c e):Rf (CR c e)=some (QR (mkRat c e),true):=by
 have hp:=h.pos;have n1:=h.nz;have n2:=h.nd;have l1:(dig 4294967296 c.natAbs).length<=60:=n1;have l2:(dig 4294967296 e).length<=60:=n2;have d1:=Av2 n1;have d2:=Av2 n2;have hf:Cg (Z16 c) ⟨false,L16 e⟩=some (QR (mkRat c e)):=Ajq oo oo oo;have e0:Gi []=some ([],true):=Ajs (m:=0) (by simp[Hy]);have hz:c<0->(⟨decide (0<(((L16 c.natAbs).length:Nat):Int)),L16 c.natAbs⟩:Ae)=Z16 c:=fun hn=>by
  unfold Z16;rw[Yh,dT hn,dT oo]
 have hz2:¬c<0->(⟨false,L16 c.natAbs⟩:Ae)=Z16 c:=fun hn=>by
  unfold Z16;rw[dF hn]
 have tail:(if decide (c<0)=true then (bnd (Cg (⟨decide (0<(((L16 c.natAbs).length:Nat):Int)),L16 c.natAbs⟩:Ae) (⟨false,L16 e⟩:Ae)) fun r0=>some ((⟨(⟨r0.N.Neg,r0.N.L⟩:Ae),r0.D⟩:Aj),true)) else (bnd (Cg (⟨false,L16 c.natAbs⟩:Ae) (⟨false,L16 e⟩:Ae)) fun r1=>some ((⟨(⟨r1.N.Neg,r1.N.L⟩:Ae),r1.D⟩:Aj),true)))=some (QR (mkRat c e),true):=by
  by_cases hn:c<0
  .rw[dT hn,iP rfl,hz hn,hf,Ac]
  .rw[dF hn,iN Bool.false_ne_true,hz2 hn,hf,Ac]
 unfold Rf CR;dsimp only;rw[Ajs oo,Ac]
 by_cases c1:e=1
 .rw[iP c1,e0,Ac,jn_d,iP rfl];dsimp only;rw[iN s_,jn_d,iP s_];dsimp only;rw[jn_d,show ([1]:LI)=L16 e from by rw[c1];exact Awj];exact tail
 .have hne:(L16 e).length≠0:=fun x=>by have:=Acv.1 x;omega
  rw[iN c1,Ajs oo,Ac,jn_d,iP rfl];dsimp only;rw[iN s_,jn_d,iN oo];dsimp only;rw[jn_d];exact tail
theorem Adu{c:Int}{e:Nat}{q:Rat}(h:Lo 60 c e)(hq:mkRat c e=q):Cp (CR c e) (QR q)=some true:=by
 subst hq;have hs:=Bbz h;unfold Cp;rw[Bdn h,Ac,jn_d,iP rfl];dsimp only;rw[Bac hs hs oo,Ac,Rat.sub_self];rfl
section
variable {m:Aw}(h:Msh m){p:Kt}(hp:X.okPt p=true){r:Abp}(hr:X.okRules r=true)
include h hp hr
end
theorem An3{α γ:Type}(l:List α)(p:α->Bool)(g:Nat->γ)(B:Int->Option (Sum Int (Sum Unit γ)))(h1:∀ (j:Nat) (h:j<l.length),B j=if p l[j]=true then some (.inr (.inr (g j))) else some (.inl ((j+1:Nat):Int)))(h2:B l.length=some (.inr (.inl ()))):
  lfix B 0=some (match l.findIdx? p with|some i=>.inr (g i)|none=>.inl ()):=by
 have key:∀(m k:Nat),k<=l.length->l.length-k=m->(∀j (hj:j<l.length),j<k->p l[j]=false)->lfix B k=some (match l.findIdx? p with|some i=>.inr (g i)|none=>.inl ()):=by
  intro m
  induction m with
  |zero=>
   intro k hk hm hf;obtain rfl:k=l.length:=oo;rw[Ax,h2];have:l.findIdx? p=none:=by
    rw[List.findIdx?_eq_none_iff];intro x hx;obtain⟨j,hj,rfl⟩:=List.getElem_of_mem hx;exact hf j hj hj
   rw[this]
  |succ m ih=>
   intro k hk hm hf;have hlt:k<l.length:=oo;rw[Ax,h1 k hlt]
   by_cases hp:p l[k]=true
   ·rw[if_pos hp];have:l.findIdx? p=some k:=by
     rw[List.findIdx?_eq_some_iff_getElem];exact⟨hlt,hp,fun j hj=>by rw[hf j oo hj];simp⟩
    rw[this]
   .rw[iN hp];refine ih (k+1) oo oo fun j hj hjk=>?_
    by_cases e:j=k
    .subst e;exact Bool.eq_false_iff.2 hp
    .exact hf j hj oo
 exact key l.length 0 (Nat.zero_le _) rfl (fun j _ h=>absurd h oo)
structure Alu(m:Aw):Prop where
 msh:Msh m
 chk:Lb m=some 0
section
variable {m:Aw}(h:Msh m)
include h
theorem Bb0{p:Ad}(hp:okP p){t:Ah}(ht:t∈m.T):Rn m t p=some (covT m.V p t):=by
 obtain⟨h0,h1,h2,_⟩:=h.t _ ht;have q0:=(Kj h.ok h0).1;have q1:=(Kj h.ok h1).1;have q2:=(Kj h.ok h2).1;obtain⟨a,ea,ha⟩:=Qu h0;obtain⟨b,eb,hb⟩:=Qu h1;obtain⟨c,ec,hc⟩:=Qu h2;have pa:∀{k:Nat} (hk:k<m.V.length),Am m.V[k]=some (plV m.V (k:Int)):=fun hk=>by rw[Vw hk];rfl
 have sg:∀z:Int,Int.sign z<0↔¬0<=z:=fun z=>by
  rw[Int.sign_neg_iff];omega
 have st:∀ (j:Nat) (u v:Nat),u<m.V.length->v<m.V.length->idx [t.a0,t.a1,t.a2] (j:Int)=some (u:Int)->idx [t.a0,t.a1,t.a2] (Int.tmod (w64 ((j:Int)+1)) 3)=some (v:Int)->j<3->okP (plV m.V (u:Int))->okP (plV m.V (v:Int)) ->
   Dy t m p (j:Int)=if 0<=crs (plV m.V (u:Int)) (plV m.V (v:Int)) p then some (.inl ((j+1:Nat):Int)) else some (.inr (.inr false)):=fun j u v hu hv e1 e2 hj o1 o2=>by
  unfold Dy;rw[iP oo,e1,Ac,Az hu,Ac,e2,Ac,Az hv,Ac,pa hu,Ac,pa hv,Ac,Rd o1 o2 hp,Ac,Bd oo]
  by_cases c:0<=crs (plV m.V (u:Int)) (plV m.V (v:Int)) p
  .rw[iP c,iN (by rw[sg];omega)]
  .rw[iN c,iP ((sg _).2 c)]
 rw[ea] at q0;rw[eb] at q1;rw[ec] at q2;have t3:∀{k:Nat},k<3->∃u v:Nat,idx [t.a0,t.a1,t.a2] (k:Int)=some (u:Int)/\idx [t.a0,t.a1,t.a2] (Int.tmod (w64 ((k:Int)+1)) 3)=some (v:Int)/\((k=0/\u=a/\v=b)\/(k=1/\u=b/\v=c)\/(k=2/\u=c/\v=a)):=fun {k} hk=>by
  rw[ea,eb,ec,Bd oo];rcases (by omega:k=0\/k=1\/k=2) with rfl|rfl|rfl
  .exact⟨a,b,rfl,rfl,.inl ⟨rfl,rfl,rfl⟩⟩
  .exact⟨b,c,rfl,rfl,.inr (.inl ⟨rfl,rfl,rfl⟩)⟩
  .exact⟨c,a,rfl,rfl,.inr (.inr ⟨rfl,rfl,rfl⟩)⟩
 have s0:Dy t m p ((0:Nat):Int)=if 0<=crs (plV m.V (a:Int)) (plV m.V (b:Int)) p then some (.inl ((0+1:Nat):Int)) else some (.inr (.inr false)):=by
  obtain⟨u,v,e1,e2,g⟩:=t3 (oo:0<3);obtain⟨rfl,rfl⟩:u=a/\v=b:=oo;exact st 0 u v ha hb e1 e2 oo q0 q1
 have s1:Dy t m p ((0+1:Nat):Int)=if 0<=crs (plV m.V (b:Int)) (plV m.V (c:Int)) p then some (.inl ((0+1+1:Nat):Int)) else some (.inr (.inr false)):=by
  obtain⟨u,v,e1,e2,g⟩:=t3 (oo:0+1<3);obtain⟨rfl,rfl⟩:u=b/\v=c:=oo;exact st _ u v hb hc e1 e2 oo q1 q2
 have s2:Dy t m p ((0+1+1:Nat):Int)=if 0<=crs (plV m.V (c:Int)) (plV m.V (a:Int)) p then some (.inl ((0+1+1+1:Nat):Int)) else some (.inr (.inr false)):=by
  obtain⟨u,v,e1,e2,g⟩:=t3 (oo:0+1+1<3);obtain⟨rfl,rfl⟩:u=c/\v=a:=oo;exact st _ u v hc ha e1 e2 oo q2 q0
 have s3:Dy t m p ((0+1+1+1:Nat):Int)=some (.inr (.inl ())):=by
  unfold Dy;rw[iN oo]
 unfold Rn covT;rw[jn_d,ea,eb,ec];show bnd (lfix (Dy t m p) ((0:Nat):Int)) _=_
 by_cases c0:0<=crs (plV m.V (a:Int)) (plV m.V (b:Int)) p
 .by_cases c1:0<=crs (plV m.V (b:Int)) (plV m.V (c:Int)) p
  .by_cases c2:0<=crs (plV m.V (c:Int)) (plV m.V (a:Int)) p
   .rw[iP c0] at s0;rw[iP c1] at s1;rw[iP c2] at s2;rw[Ax,s0];dsimp only;rw[Ax,s1];dsimp only;rw[Ax,s2];dsimp only;rw[Ax,s3];simp[Ac,c0,c1,c2]
   .rw[iP c0] at s0;rw[iP c1] at s1;rw[iN c2] at s2;rw[Ax,s0];dsimp only;rw[Ax,s1];dsimp only;rw[Ax,s2];simp[Ac,c2]
  .rw[iP c0] at s0;rw[iN c1] at s1;rw[Ax,s0];dsimp only;rw[Ax,s1];simp[Ac,c1]
 .rw[iN c0] at s0;rw[Ax,s0];simp[Ac,c0]
end
theorem Ap4{m:Aw}(h:Alu m){p:Ad}(hp:okP p):Dg m p=some (match locT m.V m.T p with|some i=>((i:Int),0)|none=>(0,65)):=by
 unfold Dg;rw[h.chk,Ac,iP rfl,Ai8,Ac,dT hp,iP rfl,jn_d];have hl:=h.msh.len;have e:=An3 m.T (covT m.V p) (fun i=>((i:Int),(0:Int))) (Lz m p) (fun j hj=>by
  unfold Lz;rw[iP oo,Az hj,Ac,Bb0 h.msh hp (gM hj),Ac,Bd oo]) (by
  unfold Lz;rw[iN oo])
 rw[e,Ac];unfold locT;cases m.T.findIdx? (covT m.V p) <;> rfl
theorem An4{m:Aw}(h:Alu m){p:Ad}(hp:okP p):Hg m p=some (match locT m.V m.T p with|some i=>(match idx m.T (i:Int) with|some t=>(bndT m.V p t,0)|none=>(⟨0,0⟩,0))|none=>(⟨0,0⟩,65)):=by
 unfold Hg Fk;rw[Ap4 h hp,Ac];cases e:locT m.V m.T p with
 |none=>rfl
 |some i=>
  have e':=e;unfold locT at e';rw[List.findIdx?_eq_some_iff_getElem] at e';obtain⟨hi,hc,_⟩:=e';have ht:=gM hi;obtain⟨h0,h1,h2,hpos⟩:=h.msh.t _ ht;have hb:=Alr h.msh ht hc;dsimp only;rw[iP rfl,Az hi,Ac,Ac,At_Q hp,Ac,Aau h.msh hp ht false (·.Lo) (fun z=>s_),Ac,Ac,Aau h.msh hp ht true (·.Hi) (fun z=>s_),Ac,Ac];dsimp only;rw[iP rfl];unfold bndT at hb⊢;dsimp only at hb;have hd:∀z:Int,-((z:Rat)/((Fh m.V m.T[i]:Int):Rat))=((-z:Int):Rat)/((Fh m.V m.T[i]:Int):Rat):=fun z=>by
   rw[Rat.div_def,Rat.div_def,<-Rat.neg_mul,Rat.intCast_neg]
  have fl:=fun z=>Ar9 (S:=z) hpos
  have hw:wsum m.V p m.T[i] (·.Lo)<=wsum m.V p m.T[i] (·.Hi):=by
   obtain⟨_,z0⟩:=Kj h.msh.ok h0;obtain⟨_,z1⟩:=Kj h.msh.ok h1;obtain⟨_,z2⟩:=Kj h.msh.ok h2;unfold covT at hc;rw[dQ] at hc;unfold wsum;dsimp only;have c0:=Int.mul_le_mul_of_nonneg_left z0.2.1 hc.2.1;have c1:=Int.mul_le_mul_of_nonneg_left z1.2.1 hc.2.2;have c2:=Int.mul_le_mul_of_nonneg_left z2.2.1 hc.1;omega
  have big:∀f:Af->Int,(∀z:Af,-268435456<=z.Lo->z.Lo<=z.Hi->z.Hi<=268435456->-268435456<=f z/\f z<=268435456)->(wsum m.V p m.T[i] f).natAbs<65536^8:=fun f hf=>by
   obtain⟨q0,z0⟩:=Kj h.msh.ok h0;obtain⟨q1,z1⟩:=Kj h.msh.ok h1;obtain⟨q2,z2⟩:=Kj h.msh.ok h2;have f0:=hf _ z0.1 z0.2.1 z0.2.2;have f1:=hf _ z1.1 z1.2.1 z1.2.2;have f2:=hf _ z2.1 z2.2.1 z2.2.2;have b0:=Il q1 q2 hp;have b1:=Il q2 q0 hp;have b2:=Il q0 q1 hp;have m0:=mulB (M:=576460752303423488) (N:=268435456) oo b0.1 b0.2 f0.1 f0.2;have m1:=mulB (M:=576460752303423488) (N:=268435456) oo b1.1 b1.2 f1.1 f1.2;have m2:=mulB (M:=576460752303423488) (N:=268435456) oo b2.1 b2.2 f2.1 f2.2;unfold wsum;rw[pow8];omega
  have hA8:(Fh m.V m.T[i]).natAbs<65536^8:=by
   have:=Il (Kj h.msh.ok h0).1 (Kj h.msh.ok h1).1 (Kj h.msh.ok h2).1;unfold Fh;rw[pow8];omega
  have hne:((Fh m.V m.T[i]:Int):Rat)≠0:=fun e=>by
   rw[show (0:Rat)=((0:Int):Rat) from rfl,Rat.intCast_inj] at e;omega
  have s1:=big (·.Lo) (fun z a b c=>by constructor <;> omega);have s2:=big (·.Hi) (fun z a b c=>by constructor <;> omega);have x1:Sml 16 (((wsum m.V p m.T[i] (·.Lo):Int):Rat)/((Fh m.V m.T[i]:Int):Rat)):=Sml.div (Sml.int s1 oo) (Sml.int hA8 oo) hne;have x2:Sml 16 (((wsum m.V p m.T[i] (·.Hi):Int):Rat)/((Fh m.V m.T[i]:Int):Rat)):=Sml.div (Sml.int s2 oo) (Sml.int hA8 oo) hne;have hpos':(0:Rat)<((Fh m.V m.T[i]:Int):Rat):=Rat.intCast_pos.2 hpos;have hxy:¬((wsum m.V p m.T[i] (·.Hi):Int):Rat)/((Fh m.V m.T[i]:Int):Rat)<((wsum m.V p m.T[i] (·.Lo):Int):Rat)/((Fh m.V m.T[i]:Int):Rat):=fun hlt=>by
   rw[Rat.div_lt_iff hpos',Rat.div_mul_cancel hne,Rat.intCast_lt_intCast] at hlt;omega
  have e2:(if ((wsum m.V p m.T[i] (·.Lo):Int):Rat)/((Fh m.V m.T[i]:Int):Rat)<((wsum m.V p m.T[i] (·.Hi):Int):Rat)/((Fh m.V m.T[i]:Int):Rat) then ((wsum m.V p m.T[i] (·.Hi):Int):Rat)/((Fh m.V m.T[i]:Int):Rat) else ((wsum m.V p m.T[i] (·.Lo):Int):Rat)/((Fh m.V m.T[i]:Int):Rat))=((wsum m.V p m.T[i] (·.Hi):Int):Rat)/((Fh m.V m.T[i]:Int):Rat):=by
   split
   .rfl
   .rename_i hlt;exact Rat.le_antisymm (Rat.not_lt.1 hxy) (Rat.not_lt.1 hlt)
  have ar:=Avw x1 x2 oo (by rw[iN hxy,fl];omega) (by rw[e2,hd,fl];omega);rw[iN hxy,e2,hd,fl,fl] at ar;rw[ar,Ac]
theorem Ajt{m:Aw}(h:Agg m):Msh m:=by
 refine⟨h.n,fun x hx=>?_,by have:=h.len;omega,h.t⟩;obtain⟨h1,h2⟩:=h.ok x hx;exact⟨h1,h2⟩
theorem Aed{c N W:Int}{e:Nat}(he:0<e)(hW:0<W)(h:c*W=N*(e:Int)):mkRat c e=(N:Rat)/(W:Rat):=by
 have hW':(W:Rat)≠0:=fun e=>by
  rw[show (0:Rat)=((0:Int):Rat) from rfl,Rat.intCast_inj] at e;omega
 have he':((e:Int):Rat)≠0:=fun x=>by
  rw[show (0:Rat)=((0:Int):Rat) from rfl,Rat.intCast_inj] at x;omega
 have h1:mkRat c e=(c:Rat)/((e:Int):Rat):=by
  rw[Rat.mkRat_eq_div];rfl
 rw[h1];have h2:(c:Rat)*(W:Rat)=(N:Rat)*((e:Int):Rat):=by rw[<-Rat.intCast_mul,<-Rat.intCast_mul,h]
 have h3:(c:Rat)=(N:Rat)/(W:Rat)*((e:Int):Rat):=by
  have:(c:Rat)*(W:Rat)/(W:Rat)=(N:Rat)*((e:Int):Rat)/(W:Rat):=by rw[h2]
  rw[Rat.mul_div_cancel hW'] at this;rw[this];grind
 rw[h3,Rat.mul_div_cancel he']
theorem Ap5{c:Int}{d:Nat}(hd:0<d)(h1:-268435456<=c/(d:Int))(h2:c/(d:Int)<=268435456):c.natAbs/d<4611686018427387904:=by
 rw[Nat.div_lt_iff_lt_mul hd];have hd':(0:Int)<d:=oo;have a1:=Int.ediv_mul_le c (b:=(d:Int)) oo;have a2:=Int.lt_ediv_add_one_mul_self c hd';have b1:=Int.mul_le_mul_of_nonneg_right h1 (oo:(0:Int)<=d);have b2:=Int.mul_le_mul_of_nonneg_right (oo:c/(d:Int)+1<=268435457) (oo:(0:Int)<=d);omega
section
variable {m:Aw}(h:Agg m)(hc:Alu m)
include h hc
theorem Av4{p:Ad}(hp:okP p):
  (locT m.V m.T p=none/\La m p=some (0,65)/\Fj m p=some (⟨false,[],[]⟩,⟨false,[],[]⟩,65)/\Hs m p=some (⟨0,0⟩,65)/\Dg m p=some (0,65)) \/
  ∃(i:Nat) (c1:Int) (d1:Nat) (c2:Int) (d2:Nat) (q1 q2:Rat),La m p=some ((i:Int),0)/\Dg m p=some ((i:Int),0)/\Fj m p=some (CR c1 d1,CR c2 d2,0)/\Fk m p=some (QR q1,QR q2,0) /\
   Cp (CR c1 d1) (QR q1)=some true/\Cp (CR c2 d2) (QR q2)=some true/\∃b,Hs m p=some (b,0)/\Hg m p=some (b,0):=by
 have hm:=Ajt h;have F:=Avx h hp;have F2:=Ap4 hc hp;have B2:=An4 hc hp;rcases Avy h hp with⟨e,h1,h2⟩|⟨t,ht,hcov,⟨i,hl,hi⟩,hpos,c1,d1,c2,d2,s1,s2,hH,r1,r2,hB⟩
 .left;rw[e] at F F2;exact⟨e,F,h1,h2,F2⟩
 ·right;rw[hl] at F F2 B2;dsimp only at B2;rw[hi] at B2;dsimp only at B2;have hb:=Alr hm ht hcov;obtain⟨h0,h1,h2,_⟩:=hm.t _ ht;have hw:wsum m.V p t (·.Lo)<=wsum m.V p t (·.Hi):=by
   obtain⟨_,z0⟩:=Kj hm.ok h0;obtain⟨_,z1⟩:=Kj hm.ok h1;obtain⟨_,z2⟩:=Kj hm.ok h2;have hcov':=hcov;unfold covT at hcov';rw[dQ] at hcov';unfold wsum;dsimp only;have c0:=Int.mul_le_mul_of_nonneg_left z0.2.1 hcov'.2.1;have c1:=Int.mul_le_mul_of_nonneg_left z1.2.1 hcov'.2.2;have c2:=Int.mul_le_mul_of_nonneg_left z2.2.1 hcov'.1;omega
  have p1:=s1.pos;have p2:=s2.pos;have g1:=Abz (c:=c1) (e:=(d1:Int)) oo hpos r1;have g2:=Abz (c:=-c2) (e:=(d2:Int)) (N:=-wsum m.V p t (·.Hi)) oo hpos (by rw[Int.neg_mul,Int.neg_mul,r2]);have g3:=Abz (c:=c2) (e:=(d2:Int)) oo hpos r2;unfold bndT at hb;dsimp only at hb;have up:c2/(d2:Int)<=268435456/\-268435456<=c2/(d2:Int):=by
   rw[g3];have k1:=Int.ediv_mul_le (-wsum m.V p t (·.Hi)) (b:=Fh m.V t) oo;have k2:=Int.lt_ediv_add_one_mul_self (-wsum m.V p t (·.Hi)) hpos;have k3:=Int.ediv_mul_le (wsum m.V p t (·.Hi)) (b:=Fh m.V t) oo;have k4:=Int.lt_ediv_add_one_mul_self (wsum m.V p t (·.Hi)) hpos;constructor
   .refine Classical.byContradiction fun hn=>?_
    have:=Int.mul_le_mul_of_nonneg_right (oo:wsum m.V p t (·.Hi)/Fh m.V t>=268435457) (oo:0<=Fh m.V t);have:=Int.mul_le_mul_of_nonneg_right (oo:-268435456<=-wsum m.V p t (·.Hi)/Fh m.V t) (oo:0<=Fh m.V t);omega
   .have:=Int.ediv_le_ediv hpos hw;omega
  have hle:c1*(d2:Int)<=c2*(d1:Int):=by
   refine Int.le_of_mul_le_mul_right (a:=Fh m.V t) ?_ hpos;have e3:c1*(d2:Int)*Fh m.V t=wsum m.V p t (·.Lo)*((d1:Int)*(d2:Int)):=by
    have:c1*(d2:Int)*Fh m.V t=(c1*Fh m.V t)*(d2:Int):=by grind
    rw[this,r1];grind
   have e4:c2*(d1:Int)*Fh m.V t=wsum m.V p t (·.Hi)*((d1:Int)*(d2:Int)):=by
    have:c2*(d1:Int)*Fh m.V t=(c2*Fh m.V t)*(d1:Int):=by grind
    rw[this,r2];grind
   rw[e3,e4];exact Int.mul_le_mul_of_nonneg_right hw (Int.mul_nonneg oo oo)
  have cov:=Azc (s1.mono oo) (s2.mono oo) hle (Ap5 p1 oo oo) oo oo (Ap5 p2 oo oo) oo oo;rw[cov,Ac] at hB;dsimp only at hB;rw[g1,g2] at hB;refine⟨i,c1,d1,c2,d2,_,_,F,F2,hH,?_,Adu (s1.mono oo) (Aed p1 hpos r1),Adu (s2.mono oo) (Aed p2 hpos r2),_,hB,B2⟩;unfold Fk;rw[F2,Ac];dsimp only;rw[iP rfl,hi,Ac,Ac,At_Q hp,Ac,Aau hm hp ht false (·.Lo) (fun z=>s_),Ac,Ac,Aau hm hp ht true (·.Hi) (fun z=>s_),Ac]
end
section
variable {m:Aw}(h:Agg m)(hc:Alu m)
include h hc
theorem Asc{p:Ad}(hp:¬ okP p):
  ∃e:Int,e≠0/\La m p=some (0,e)/\Fj m p=some (⟨false,[],[]⟩,⟨false,[],[]⟩,e)/\Hs m p=some (⟨0,0⟩,e)/\Dg m p=some (0,e):=by
 have F:La m p=some (0,11):=by
  unfold La;rw[Ap2 h,Ac,iP rfl,Afd,iN (fun x=>hp x.1),Ac];dsimp only;rw[iN oo]
 have H:Fj m p=some (⟨false,[],[]⟩,⟨false,[],[]⟩,11):=by
  unfold Fj;rw[F,Ac];dsimp only;rw[iN oo]
 refine⟨11,oo,F,H,?_,?_⟩
 .unfold Hs;rw[H,Ac];dsimp only;rw[iN oo]
 .unfold Dg;rw[hc.chk,Ac,iP rfl,Ai8,Ac,dF hp,iN s_]
end
end
section
open Go Go.Sort
theorem Av5{v:List Aa}{l:List Ab}(h:Ox v=0)(hl:l.length<=1000000)(h1:Pe v l=0):∃m,Bt v l=some (m,0)/\Agg m/\Alu m:=by
 obtain⟨hn,hgood,hv⟩:=Sn h;obtain⟨T,e1,e2,e3,e4,e5,e6,e7⟩:=Alg h hl h1;have hlen:(Ba cmp2 (l.map prL)).length=l.length:=by rw[(Dk _ _).length_eq,List.length_map]
 revert e1 e2 e4 e5 e6 e7 hlen;generalize Ba cmp2 (l.map prL)=L;intro e1 e2 e4 e5 e6 e7 hlen;have ht:∀t∈T,inN v.length t.a0/\inN v.length t.a1/\inN v.length t.a2/\0<Fh v t:=fun t ht=>by
  rcases e7 with⟨_,f⟩|⟨_,mm,hM,hT⟩
  .rw[f] at ht;cases ht
  .obtain⟨_,_,k⟩:=(hT.mem t).1 ht;obtain⟨k1,k2,k3,k4⟩:=hM.tri.ccw _ _ _ k;exact⟨k1,k2,k3,k4⟩
 have chk:Lb ⟨v,T,L⟩=some 0:=by
  unfold Lb;dsimp only;rw[e6,Ac,jn_d];dsimp only;rw[iP rfl,Alf (by dsimp only;omega) (by dsimp only;omega) (by dsimp only;omega),Ac];rfl
 exact⟨_,e2,⟨e5,hn,by dsimp only;omega,fun x hx=>hgood x hx,by dsimp only;omega,ht⟩,⟨⟨hn,hgood,by dsimp only;omega,ht⟩,chk⟩⟩
theorem Bdo:CR 0 1=⟨false,[],[]⟩:=by
 unfold CR;rw[show (L32 (0:Int).natAbs)=[] from List.length_eq_zero_iff.1 ((Qs (a:=0)).2 rfl)];rfl
theorem Bb1:Ml ⟨false,[],[]⟩=some true:=by
 have h:Lo 60 0 1:=Lo.int (Nat.le_trans (Sy (dD:(0:Int).natAbs<=1)) (Nat.le_trans nw_1 oo)) oo;unfold Ml;rw[Yi oo oo,Ac,<-Bdo,Adu h s_,Ac]
section
variable {v:List Aa}{l:List Ab}{m:Aw}{a:Ad}
theorem Aig{k:Int}(c:¬24<(v.length:Int))(c2:¬8<(l.length:Int))(e:Bt v l=some (m,0))(hk:k≠0)(f1:La m a=some (0,k))(f2:Fj m a=some (⟨false,[],[]⟩,⟨false,[],[]⟩,k))(f3:Hs m a=some (⟨0,0⟩,k))(f4:Dg m a=some (0,k)):Bv ⟨v,l⟩ a=some true:=by
 unfold Bv Hr;dsimp only;rw[jn_d,iN c,Ac,dF c2,iN Bool.false_ne_true,e,Ac,iP rfl];dsimp only;rw[f1,Ac,f4,Ac,f2,Ac,f3,Ac,jn_d];dsimp only;rw[iP rfl,iP rfl,iP rfl,iN s_,iN hk,jn_d,Bb1,Ac,iP rfl,Ac,iP rfl,iP (by rfl),Af7,Ac]
theorem Av6{i:Int}{x1 x2:As}{q1 q2:Aj}{b:Af}(c:¬24<(v.length:Int))(c2:¬8<(l.length:Int))(e:Bt v l=some (m,0))(f1:La m a=some (i,0))(f2:Dg m a=some (i,0))(f3:Fj m a=some (x1,x2,0))(f4:Fk m a=some (q1,q2,0))(s1:Cp x1 q1=some true)(s2:Cp x2 q2=some true)(b1:Hs m a=some (b,0))(b2:Hg m a=some (b,0)):Bv ⟨v,l⟩ a=some true:=by
 unfold Bv Hr;dsimp only;rw[jn_d,iN c,Ac,dF c2,iN Bool.false_ne_true,e,Ac,iP rfl];dsimp only;rw[f1,Ac,f2,Ac,f3,Ac,b1,Ac,jn_d];dsimp only;rw[iP rfl,iP rfl,iP rfl,iN s_,iP rfl,f4,Ac,b2,Ac,jn_d];dsimp only;rw[s1,Ac,iP rfl,s2,Ac,iP rfl,iP s_,Af7,Ac]
end
theorem Aju(p:Ej)(a:Ad):Bv p a=some true:=by
 obtain⟨v,l⟩:=p
 by_cases c:24<(v.length:Int)
 .unfold Bv Hr;dsimp only;rw[jn_d,iP c,Ac,iP rfl,Af7,Ac]
 by_cases c2:8<(l.length:Int)
 .unfold Bv Hr;dsimp only;rw[jn_d,iN c,Ac,dT c2,iP rfl,Af7,Ac]
 have hl:l.length<=1000000:=oo;have bad:∀(x:Aw) (k:Int),k≠0->Bt v l=some (x,k)->Bv ⟨v,l⟩ a=some true:=fun x k hk e=>by
  unfold Bv Hr;dsimp only;rw[jn_d,iN c,Ac,dF c2,iN Bool.false_ne_true,e,Ac];dsimp only;rw[iN hk,Af7,Ac]
 by_cases h:Ox v=0
 .by_cases h1:Pe v l=0
  .obtain⟨m,e,hb,hc⟩:=Av5 h hl h1
   by_cases hp:okP a
   .rcases Av4 hb hc hp with⟨_,f1,f2,f3,f4⟩|⟨i,c1,d1,c2',d2,q1,q2,f1,f2,f3,f4,s1,s2,b,b1,b2⟩
    .exact Aig c c2 e oo f1 f2 f3 f4
    .exact Av6 c c2 e f1 f2 f3 f4 s1 s2 b1 b2
   .obtain⟨k,hk,f1,f2,f3,f4⟩:=Asc hb hc hp;exact Aig c c2 e hk f1 f2 f3 f4
  .exact bad _ _ h1 (Agb hl h h1)
 .exact bad _ _ h (Ahr _ h)
end
section
open Go.ChangeShapes Go.WideShapes Go.ChangeAt
theorem own2:ownKnob Tryz.prog.godebug=none:=kr
theorem Alv:laidOutB Tryz.prog=true:=kr
def rI64(z:Int):Prop:=-9223372036854775808<=z/\z<=9223372036854775807
theorem Agh{cs:LV}{o:Nat}(h:cs.length=o):cs.drop o=[]:=by rw[<-h,List.drop_length]
theorem Sx{cs X R:LV}{o k o':Nat}(h1:(cs.drop o).take k=X)(h2:cs.drop o'=R)(ho:o'=o+k):cs.drop o=X++R:=by
 subst ho;rw[<-h1,<-h2,<-List.drop_drop,List.take_append_drop]
section
variable {H:Type}{enc:TypeId×Value->H}{w:World}{base:Nat}{spare:Nat->Bool}{held:Bool}{P:Program}
theorem Bb2{t:TypeId}(ht:P.underlying t=some (.int .i64)){fuel:Nat}{cs:LV}{x:DataW H×List MemPlace}(h:DataW.trod enc P w base spare held fuel t cs=some x):∃z:Int,cs=[.int .i64 z]/\rI64 z:=by
 obtain⟨n,hc,_,hw⟩:=DataW.trod_int ht h;refine⟨n,hc,?_⟩;have h1:IntKind.i64.min = -9223372036854775808:=rfl;have h2:IntKind.i64.max=9223372036854775807:=rfl;simp only[Lit.wf,Bool.and_eq_true,dQ] at hw;unfold rI64;omega
theorem Alw{α:Type}{en:α->List Value}{okα:α->Prop}{t e:TypeId}{sz:Nat}(ht:P.underlying t=some (.slice e))(hsz:P.cellsOf e=sz)(hp:0<sz)(hel:∀ {fuel:Nat} {cs:List Value} {x:DataW H × List MemPlace},DataW.trod enc P w base spare held fuel e cs=some x->∃ v,cs=en v/\okα v){fuel:Nat}{cs:List Value}{x:DataW H × List MemPlace}(h:DataW.trod enc P w base spare held fuel t cs=some x):
  ∃(v:List α) (A:OA) (c:Nat),cs=[.slice A v.length c]/\Has [.old w] A v.length c sz en v/\∀z∈v,okα z:=by
 rcases Go.Deep.open_slice ht h with⟨rfl,_⟩|⟨a,len,cap,m,n,D,Pl,rfl,hb,hl,hm,hmm,_,hx⟩
 .exact⟨[],none,0,rfl,Has.nil,fun z hz=>by simp at hz⟩
 .have hle:len<=m:=by rw[hmm];split <;> omega
  have key:∀k,k<=len->∃v:List α,v.length=k/\(∀z∈v,okα z)/\∀i (hi:i<v.length),w.cells? base (a.add (i*sz)) sz=some (en v[i]):=by
   intro k
   induction k with
   |zero=>intro _;exact⟨[],rfl,fun z hz=>by simp at hz,fun i hi=>by simp at hi⟩
   |succ k ih=>
    intro hk;obtain⟨v,h1,h2,h3⟩:=ih oo;obtain⟨cs',h4,h5⟩:=hx k oo;obtain⟨z,rfl,hz⟩:=hel h5;rw[hsz] at h4;refine⟨v++[z],by simp[h1],fun y hy=>?_,fun i hi=>?_⟩
    .rcases List.mem_append.1 hy with hy|hy
     .exact h2 y hy
     .simp at hy;subst hy;exact hz
    .simp at hi;rcases Nat.lt_or_ge i v.length with hlt|hge
     .rw[List.getElem_append_left hlt];exact h3 i hlt
     .have:i=k:=oo;subst this;rw[List.getElem_append_right hge];simp[h1];exact h4
  obtain⟨v,h1,h2,h3⟩:=key len (nL _);subst h1;have hesz:∀z∈v,(en z).length=sz:=by
   intro z hz;obtain⟨i,hi,rfl⟩:=List.getElem_of_mem hz;exact (World.cells?_some (h3 i hi)).2.1
  have hsl:Sl w (some a) v.length cap sz en v:=by
   refine⟨rfl,hl,hm,hesz,fun hn=>?_⟩;have hsp:a.spot=none:=by
    have h4:=(World.cells?_some (h3 0 hn)).2.2 0 hp;have h5:(en v[0])[0]? = some ((en v[0])[0]'(by rw[hesz _ (gM hn)];exact hp)):=gE _;rw[h5] at h4;simp only[Nat.zero_mul,Addr.add,if_true] at h4;unfold World.cell? at h4;split at h4
    .split at h4
     .cases h4
     .rename_i hs;simpa using hs
    .cases h4
   obtain⟨b,o,sp⟩:=a;have hsp:sp=none:=hsp;subst hsp;refine⟨b,o,rfl,fun i hi j u hu=>?_⟩;have hj:j<sz:=by rw[<-hesz _ (gM hi)];exact (List.getElem?_eq_some_iff.1 hu).1
   have h4:=(World.cells?_some (h3 i hi)).2.2 j hj;rw[hu,Addr.add_lit,Addr.add_lit] at h4;exact h4
  exact⟨v,some a,cap,rfl,hsl.has,h2⟩
end
theorem Bdp(w:World):∀e∈[Ent.old w],Ent.ok w e:=fun e he=>by simp at he;subst he;exact⟨Below.refl _ _,nL _⟩
end
end Go.Proofs.YtlejkgngmjchdaaGreat
