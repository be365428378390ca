import Derived.Test.YthlkpgdfifnagaaGreatI0
namespace Go.Proofs.YthlkpgdfifnagaaGreat
open Go Go.RowKit List
theorem Awb(a b:Nat):Int.tdiv (a:Int) (b:Int)=((a/b:Nat):Int):=(Int.ofNat_tdiv a b).symm
theorem Bet(a b:Nat):Int.tmod (a:Int) (b:Int)=((a%b:Nat):Int):=(Int.ofNat_tmod a b).symm
theorem Ug{b:Nat}(l:LM)(k:Nat)(h:k<l.length):val b (l.drop k)=l[k]+b*val b (l.drop (k+1)):=by
 rw[drop_eq_getElem_cons h];rfl
theorem Anb{B x H V:Nat}(hV:0<V):(x+B*H)/V=(H%V*B+x)/V+B*(H/V)/\(x+B*H)%V=(H%V*B+x)%V:=by
 have e:x+B*H=(H%V*B+x)+V*(B*(H/V)):=by
  have:=Nat.div_add_mod H V
  calc x+B*H=x+B*(V*(H/V)+H%V):=by rw[this]
   _=_:=by rw[Nat.mul_add,<-Nat.mul_assoc,Nat.mul_comm B V,Nat.mul_assoc,Nat.mul_comm B (H%V)];omega
 rw[e];exact⟨by rw[Nat.add_mul_div_left _ _ hV],by rw[Nat.add_mul_mod_self_left]⟩
theorem Alf{B x r V:Nat}(hx:x<B)(hr:r<V):r*B+x<V*B:=by
 have:(r+1)*B<=V*B:=Nat.mul_le_mul_right _ hr;rw[Nat.succ_mul] at this;omega
theorem Arn{r x:Nat}(hr:r<65536)(hx:x<65536):w64 (w64 ((r:Int)*65536)+(x:Int))=((r*65536+x:Nat):Int):=by
 rw[show ((r:Nat):Int)*65536=((r*65536:Nat):Int) by omega,Re oo,<-Int.natCast_add,Re oo]
theorem Aro(l:List Nat)(d:Nat)(hl:∀ x∈l,x<65536)(hd:0<d)(hd2:d<=65536)(h1:l.length<=1000000):
  Fm (nI l) (d:Int)=some (L16 (val 65536 l/d),((val 65536 l%d:Nat):Int)):=by
 obtain⟨t,ht,o,rfl,ho1,ho3,ho2⟩:=Aw (B:=Oi (nI l) (d:Int)) (fun s=>(s.2.2+1).toNat)
  (fun s=>∃(o:LM) (k:Nat),s=(nI o,((val 65536 (l.drop k)%d:Nat):Int),(k:Int)-1)/\o.length=l.length/\k<=l.length/\(∀x∈o,x<65536)/\val 65536 (o.drop k)=val 65536 (l.drop k)/d)
  (fun t=>∃o:LM,t=(nI o,((val 65536 l%d:Nat):Int))/\(∀x∈o,x<65536)/\o.length<=1000000/\val 65536 o=val 65536 l/d) (by
   rintro s ⟨o,k,rfl,hC1,hC2,hC3,hC4⟩;unfold Oi
   by_cases hk:k=0
   .right;subst hk;exact⟨_,by simp only[];rw[if_neg oo],o,by rw[drop_zero],hC3,oo,by simpa using hC4⟩
   .left;have h1':k-1<l.length:=oo;have h2':k-1<o.length:=oo;have hx:=hl _ (getElem_mem h1');have hr:val 65536 (l.drop k)%d<d:=Nat.mod_lt _ hd;have e:val 65536 (l.drop (k-1))=l[k-1]+65536*val 65536 (l.drop k):=by rw[Ug l (k-1) h1',show k-1+1=k by omega]
    obtain⟨e1,e2⟩:=Anb (B:=65536) (x:=l[k-1]) (H:=val 65536 (l.drop k)) hd;have hlt:=Alf hx hr;have hq:(val 65536 (l.drop k)%d*65536+l[k-1])/d<65536:=Nat.div_lt_of_lt_mul oo;refine⟨(nI (o.set (k-1) ((val 65536 (l.drop k)%d*65536+l[k-1])/d)),((val 65536 (l.drop (k-1))%d:Nat):Int),((k-1:Nat):Int)-1),?_,⟨_,k-1,rfl,by simp[hC1],oo,?_,?_⟩,by simp;omega⟩
    ·simp only[];rw[if_pos oo,show ((k:Int)-1)=((k-1:Nat):Int) from by omega,Dg h1',Ad,gd_t oo,Dg h2',Ad,gd_t oo];have e3:=Arn (r:=val 65536 (l.drop k) % d) (x:=l[k-1]) (Nat.lt_of_lt_of_le hr hd2) hx;have e4:w64 (((k-1:Nat):Int)-1)=((k-1:Nat):Int)-1:=by
      clear e e1 e2 e3 hlt hq hr hx hC4 hC3;exact Aq oo oo
     rw[e3,Awb,Bet,Re (Nat.le_trans (Nat.le_of_lt hq) dD),Xd,e,e2,e4]
    .intro x hx';rcases mem_or_eq_of_mem_set hx' with h|rfl
     .exact hC3 x h
     .exact hq
    .rw[Ug _ _ (by simpa using h2'),getElem_set_self,show k-1+1=k by omega,drop_set_of_lt oo,hC4,e,e1])
  (nI (List.replicate l.length 0),0,(l.length:Int)-1) ⟨List.replicate l.length 0,l.length,by simp[val],s_,Nat.le_refl _,s_,by simp[val]⟩
 unfold Fm;simp only[jn_d,Ca,Int.toNat_natCast,Zv];rw[gd_t ⟨oo,oo⟩,Aq oo oo,ht,Ad];simp only[];rw[Ad9 _ oo,Ad,Xr oo o ho1,ho2];rfl
theorem Ah6:∀{m:Nat},m≠0->65536^((dig 65536 m).length-1)<=m:=by
 intro m
 induction m using Nat.strongRecOn with
 |_ m ih=>
  intro h0;rw[Sd oo h0,length_cons,Nat.add_sub_cancel]
  by_cases h1:m/65536=0
  .rw[h1,Rj];simp;omega
  .have h2:=ih (m/65536) oo h1;have h3:(dig 65536 (m/65536)).length≠0:=fun e=>h1 ((Xa oo).1 (length_eq_zero_iff.1 e))
   obtain⟨q,hq⟩:=Nat.exists_eq_succ_of_ne_zero h3;rw[hq] at h2⊢;rw[Nat.succ_sub_one] at h2;rw[Nat.succ_eq_add_one,Nat.pow_succ];generalize 65536^q=z at *;omega
theorem Adk(m:Nat):m<65536^(dig 65536 m).length:=by
 have:=Afd (b:=65536) (dig 65536 m) (Oy oo m)
 rwa [Cq oo] at this
theorem Ac0(l:LM)(k:Nat)(hk:k<=l.length):val 65536 l=val 65536 (l.take k)+65536^k*val 65536 (l.drop k):=by
 have:=Xs (b:=65536) (l.take k) (l.drop k)
 rwa [take_append_drop,length_take,Nat.min_eq_left hk] at this
theorem Awc{l:LM}(hl:∀x∈l,x<65536)(k:Nat)(hk:k<=l.length):val 65536 (l.drop k)=val 65536 l/65536^k:=by
 have h1:=Ac0 l k hk;have h2:=Afd (b:=65536) (l.take k) (fun x hx=>hl x (mem_of_mem_take hx));rw[length_take,Nat.min_eq_left hk] at h2;rw[h1,Nat.add_mul_div_left _ _ (Nat.pow_pos oo),Nat.div_eq_of_lt h2,Nat.zero_add]
theorem Xw{m k:Nat}(hk:k<=(dig 65536 m).length):val 65536 ((dig 65536 m).drop k)=m/65536^k:=by
 rw[Awc (Oy oo m) k hk,Cq oo]
theorem Alg{m:Nat}(h0:m≠0):∃h:(dig 65536 m).length-1<(dig 65536 m).length,(dig 65536 m)[(dig 65536 m).length-1]=m/65536^((dig 65536 m).length-1)/\0<m/65536^((dig 65536 m).length-1):=by
 have h3:(dig 65536 m).length≠0:=fun e=>h0 ((Xa oo).1 (length_eq_zero_iff.1 e))
 have h1:=Xw (m:=m) (k:=(dig 65536 m).length-1) oo;refine⟨oo,?_,Nat.div_pos (Ah6 h0) (Nat.pow_pos oo)⟩;rw[<-h1,Ug _ _ oo,drop_eq_nil_of_le oo];simp[val]
theorem Afg{d:Nat}(h0:0<d)(h:d<65536):L16 d=[(d:Int)]:=by
 unfold L16;rw[Sd oo oo,Nat.mod_eq_of_lt h,Nat.div_eq_of_lt h,Rj];rfl
theorem Awd{R V B vt m1:Nat}(hvt:0<vt)(hV:vt*B^m1<=V)(hB:0<B):R/V<=R/B^m1/vt:=by
 rw[Nat.div_div_eq_div_mul];have hp:0<B^m1:=Nat.pow_pos hB;exact Nat.div_le_div_left (by rw[Nat.mul_comm];exact hV) (Nat.mul_pos hp hvt)
theorem Yq{a:Nat}:(L16 a).length=(dig 65536 a).length:=Ca
theorem Alh{l:LM}(hl:∀x∈l,x<65536)(h:l.length<=1000000000):Bk (nI l)=some (L16 (val 65536 l)):=by
 rw[Ad9 l h,Xr oo l hl];rfl
theorem Anc{R V:Nat}:R-V*(R/V)=R%V:=by have:=Nat.div_add_mod R V;omega
theorem Bcz{g:Nat}(h:0<g)(h9:g<=65535):w64 ((g:Int)-1)=((g-1:Nat):Int):=by rw[Aq oo oo];omega
theorem Baa{g:Nat}(h:0<g):((g-1:Nat):Int).toNat<(g:Int).toNat:=oo
theorem Atu{R V g:Nat}(hg9:g<=65535)(hV:0<V)(hg:R / V<=g)(hl:(dig 65536 (V*g)).length<=1000000):
  lfix (Hf (L16 R) (L16 V)) ((g:Int),L16 (V*g))=some (((R/V:Nat):Int),L16 (V*(R/V))):=by
 obtain⟨t,ht,rfl⟩:=Aw (B:=Hf (L16 R) (L16 V)) (fun s=>s.1.toNat)
  (fun s=>∃g':Nat,s=((g':Int),L16 (V*g'))/\R/V<=g'/\g'<=g)
  (fun t=>t=(((R/V:Nat):Int),L16 (V*(R/V)))) (by
   rintro s ⟨g',rfl,h1,h2⟩;have hlen:(dig 65536 (V*g')).length<=1000000:=Nat.le_trans (St (Nat.mul_le_mul_left V h2)) hl;unfold Hf;simp only[];rw[Au8 _ _ hlen,Ad]
   by_cases hc:R<V*g'
   .left;have hlt:R/V<g':=Nat.div_lt_of_lt_mul hc;have he:V*g'-V=V*(g'-1):=by rw[Nat.mul_sub,Nat.mul_one]
    have hpos:0<g':=Nat.lt_of_le_of_lt (Nat.zero_le _) hlt;have hge:V<=V*g':=Nat.le_mul_of_pos_right V hpos;refine⟨(((g'-1:Nat):Int),L16 (V*(g'-1))),?_,⟨g'-1,rfl,Nat.le_sub_one_of_lt hlt,Nat.le_trans (Nat.sub_le _ _) h2⟩,Baa hpos⟩;rw[if_pos (by unfold cmpN;rw[if_neg oo,if_neg oo];decide),Akz hlen hge,Ad,he];rw[Bcz hpos (Nat.le_trans h2 hg9)]
   .right;have hle:g'<=R/V:=(Nat.le_div_iff_mul_le hV).2 (by rw[Nat.mul_comm];omega);obtain rfl:g'=R/V:=Nat.le_antisymm hle h1;exact⟨_,by rw[if_neg (by unfold cmpN;split <;> (try split) <;> omega)],rfl⟩)
  ((g:Int),L16 (V*g)) ⟨g,rfl,hg,Nat.le_refl _⟩
 exact ht
theorem Atv{R V:Nat}(hV:V≠0)(hR:R<V*65536)(h9:(dig 65536 V).length<=100000):∃ g:Nat,R / V<=g/\g<=65535/\∀ {ρ:Type} (K:Int->Option ρ),
  (if ((((L16 V).length:Nat):Int))<=((((L16 R).length:Nat):Int)) then (bnd (idx (L16 R) (w64 (((((L16 R).length:Nat):Int))-1))) fun x259=>
   jn (fun (s44:Int)=>
   bnd (idx (L16 V) (w64 (((((L16 V).length:Nat):Int))-1))) fun x286=>
   gd (x286≠0)<|
   if 65536<=(w64 (Int.tdiv s44 x286)) then (K 65535)
   else (K (w64 (Int.tdiv s44 x286))))
   (fun j44=>if ((((L16 V).length:Nat):Int))<((((L16 R).length:Nat):Int)) then (bnd (idx (L16 R) (w64 (((((L16 R).length:Nat):Int))-2))) fun x272=>
   j44 (w64 ((w64 (x259*65536))+x272)))
   else (j44 x259)))
   else (K 0))=K (g:Int):=by
 simp only[Yq,jn_d];have hq:R/V<=65535:=by
  have:=Nat.div_lt_of_lt_mul hR;omega
 by_cases h:(dig 65536 V).length<=(dig 65536 R).length
 .obtain⟨hi,ht1,ht2⟩:=Alg hV;have hR0:R≠0:=fun e=>by rw[e,Rj] at h;simp at h;exact hV ((Xa oo).1 h)
  have hlenR:(dig 65536 R).length<=(dig 65536 V).length+1:=Ec (by
   rw[Nat.pow_succ];exact Nat.lt_trans hR (Nat.mul_lt_mul_of_pos_right (Adk V) oo))
  generalize hm:(dig 65536 V).length-1=m1 at *;have hvt:=Oy (b:=65536) oo V _ (getElem_mem hi);have hVlo:V / 65536 ^ m1*65536 ^ m1<=V:=Nat.div_mul_le_self _ _;have hg:=Awd (R:=R) (B:=65536) ht2 hVlo oo;rw[ht1] at hvt;have key:∀ s44:Nat,s44=R / 65536 ^ m1->s44<4294967296->∀ {ρ:Type} (K:Int->Option ρ),(bnd (idx (L16 V) (w64 ((((dig 65536 V).length:Nat):Int)-1))) fun x286=>
    gd (x286≠0) <| if 65536<=(w64 (Int.tdiv (s44:Int) x286)) then (K 65535) else (K (w64 (Int.tdiv (s44:Int) x286))))=K ((min (R/65536^m1/(V/65536^m1)) 65535:Nat):Int):=by
   intro s44 hs hs2 ρ K;have e:w64 ((((dig 65536 V).length:Nat):Int)-1)=((m1:Nat):Int):=by rw[Aq oo oo];omega
   rw[e,show idx (L16 V) ((m1:Nat):Int)=some ((V/65536^m1:Nat):Int) from by rw[<-ht1];exact Dg hi,Ad,gd_t oo,Awb,<-hs];have h4:s44/(V/65536^m1)<=s44:=Nat.div_le_self _ _;generalize s44/(V/65536^m1)=z at *;rw[Re oo]
   by_cases hz:65536<=z
   .rw[if_pos oo,show min z 65535=65535 by omega];rfl
   .rw[if_neg oo,show min z 65535=z by omega]
  refine⟨min (R/65536^m1/(V/65536^m1)) 65535,oo,oo,fun K=>?_⟩;obtain⟨hj,hr1,hr2⟩:=Alg hR0;have hrt:=Oy (b:=65536) oo R _ (getElem_mem hj);rw[if_pos oo,show w64 ((((dig 65536 R).length:Nat):Int)-1)=(((dig 65536 R).length-1:Nat):Int) from by rw[Aq oo oo];omega,
   show idx (L16 R) (((dig 65536 R).length-1:Nat):Int)=some (((dig 65536 R)[(dig 65536 R).length-1]:Nat):Int) from Dg hj,Ad]
  by_cases h2:(dig 65536 V).length<(dig 65536 R).length
  ·have hl2:(dig 65536 R).length-2<(dig 65536 R).length:=oo;have hrt2:=Oy (b:=65536) oo R _ (getElem_mem hl2);rw[if_pos oo,show w64 ((((dig 65536 R).length:Nat):Int)-2)=(((dig 65536 R).length-2:Nat):Int) from by rw[Aq oo oo];omega,
    show idx (L16 R) (((dig 65536 R).length-2:Nat):Int)=some (((dig 65536 R)[(dig 65536 R).length-2]:Nat):Int) from Dg hl2,Ad,Arn hrt hrt2]
   refine key _ ?_ oo K;have hd:=Xw (m:=R) (k:=m1) oo;have e1:m1=(dig 65536 R).length-2:=oo;rw[<-hd,Ug _ _ (by omega:m1<_)];have hd2:=Xw (m:=R) (k:=m1+1) oo;rw[hd2,hr1];rw[show (dig 65536 R).length-1=m1+1 by omega];simp only[<-e1];omega
  .rw[if_neg oo];refine key _ ?_ oo K;rw[hr1,show (dig 65536 R).length-1=m1 by omega]
 ·refine⟨0,?_,oo,fun K=>by rw[if_neg oo];rfl⟩;have:R<V:=by
   rcases Nat.lt_or_ge R V with h'|h'
   .exact h'
   .exact absurd (St h') h
  rw[Nat.div_eq_of_lt this];exact Nat.le_refl _
theorem Apm{a f k:Nat}(ha:a<65536^k)(hf:f<=65536):a*f<65536^(k+1):=by
 rw[Nat.pow_succ];exact Nat.lt_of_le_of_lt (Nat.mul_le_mul_left a hf) (Nat.mul_lt_mul_of_pos_right ha oo)
theorem Adl{a f:Nat}(hf:f<=65536):(dig 65536 (a*f)).length<=(dig 65536 a).length+1:=Ec (Apm (Adk a) hf)
theorem Beu{τ ρ:Type}{K:τ->Option ρ}{X:(τ->Option ρ)->Option ρ}{v:τ}(h:∀j,X j=j v):jn K X=K v:=h K
theorem Ac1{g:Nat}(h:g<65536):(dig 65536 g).length<=1:=Ec oo
theorem Awe{g:Nat}(h:g<65536):Bk [(g:Int)]=some (L16 g):=by
 have:=Alh (l:=[g]) (fun x hx=>by rw[mem_singleton.1 hx];exact h) s_;simpa[nI,val] using this
theorem Awf{U V k:Nat}{q:List Nat}(hV:V≠0)(h9:(dig 65536 V).length<=100000)(hk:0<k)(hkq:k<=q.length)(hq9:q.length<=200000)(hU:k-1<(dig 65536 U).length):
  Db (L16 U) (L16 V) (nI q,L16 (U/65536^k%V),(k:Int)-1)=some (.inl (nI (q.set (k-1) ((U/65536^k%V*65536+(dig 65536 U)[k-1])/V)),L16 ((U/65536^k%V*65536+(dig 65536 U)[k-1])%V),((k-1:Nat):Int)-1)):=by
 have hu:=Oy (b:=65536) oo U _ (getElem_mem hU);have hr:U/65536^k%V<V:=Nat.mod_lt _ (Nat.pos_of_ne_zero hV);have hR:=Alf hu hr;have hlr:(dig 65536 (U/65536^k%V)).length<=100000:=Nat.le_trans (St (Nat.le_of_lt hr)) h9;generalize hu':(dig 65536 U)[k-1]=u at *;generalize hr':U/65536^k%V=r0 at *;have hlR:(dig 65536 (r0*65536+u)).length<=100001:=by
  have h1:=St (Nat.le_of_lt hR);have h2:=Adl (a:=V) (f:=65536) (Nat.le_refl _);exact Nat.le_trans h1 (Nat.le_trans h2 (Nat.succ_le_succ h9))
 obtain⟨g,hg1,hg2,hg3⟩:=Atv (R:=r0*65536+u) hV hR h9;unfold Db;simp only[];rw[if_pos oo,show ((k:Int)-1)=((k-1:Nat):Int) from by omega,show idx (L16 U) ((k-1:Nat):Int)=some ((u:Nat):Int) from by rw[<-hu'];exact Dg hU,Ad,
  gd_t (by rw[Yq];simp only[length_singleton];omega)]
 have et:Bk ([((u:Nat):Int)]++L16 r0)=some (L16 (r0*65536+u)):=by
  have:=Alh (l:=u::dig 65536 r0) (fun x hx=>by
   rcases mem_cons.1 hx with rfl|hx
   .exact hu
   .exact Oy oo r0 x hx) (by simp only[length_cons];omega)
  rw[show val 65536 (u::dig 65536 r0)=r0*65536+u from by show u+65536*val 65536 (dig 65536 r0)=_;rw[Cq oo];omega] at this;exact this
 rw[et,Ad,Beu (fun j=>hg3 j)];have hVg:(dig 65536 (V*g)).length<=100002:=by
  have h2:=Adl (a:=V) (f:=g) oo;exact Nat.le_trans h2 (Nat.le_trans (Nat.succ_le_succ h9) dD)
 rw[Awe oo,Ad,Acc (by have:=Ac1 (g:=g) oo;omega),Ad,jn_d,Atu hg2 (Nat.pos_of_ne_zero hV) hg1 oo,Ad];simp only[];rw[Akz oo (by rw[Nat.mul_comm];exact Nat.div_mul_le_self _ _),Ad,show idx (nI q) ((k-1:Nat):Int)=some ((q[k-1]:Nat):Int) from Dg oo,Ad,Xd,Anc,
  show w64 (((k-1:Nat):Int)-1)=((k-1:Nat):Int)-1 from Aq oo oo]
theorem Awg{U k:Nat}(hk:0<k)(hU:k-1<(dig 65536 U).length):U/65536^(k-1)=(dig 65536 U)[k-1]+65536*(U/65536^k):=by
 have h1:=Xw (m:=U) (k:=k-1) oo;have h2:=Xw (m:=U) (k:=k) oo;rw[Ug _ _ hU,show k-1+1=k by omega,h2] at h1;exact h1.symm
theorem Awh{U V nq:Nat}(hV:V≠0)(h9:(dig 65536 V).length<=100000)(hq9:nq<=200000)(hU:nq<=(dig 65536 U).length)(h0:U / 65536 ^ nq<V):
  ∃q,lfix (Db (L16 U) (L16 V)) (nI (List.replicate nq 0),L16 (U/65536^nq),(nq:Int)-1)=some (nI q,L16 (U%V))/\(∀x∈q,x<65536)/\q.length<=200000/\val 65536 q=U/V:=by
 obtain⟨t,ht,q,rfl,h1,h2,h3⟩:=Aw (B:=Db (L16 U) (L16 V)) (fun s=>(s.2.2+1).toNat)
  (fun s=>∃(q:LM) (k:Nat),s=(nI q,L16 (U/65536^k%V),(k:Int)-1)/\q.length=nq/\k<=nq/\(∀x∈q,x<65536)/\val 65536 (q.drop k)=U/65536^k/V)
  (fun t=>∃q,t=(nI q,L16 (U%V))/\(∀x∈q,x<65536)/\q.length<=200000/\val 65536 q=U/V) (by
   rintro s ⟨q,k,rfl,hC1,hC2,hC3,hC4⟩
   by_cases hk:k=0
   .right;subst hk;refine⟨(nI q,L16 (U%V)),?_,q,rfl,hC3,oo,by simpa using hC4⟩;unfold Db;simp only[];rw[if_neg oo,Nat.pow_zero,Nat.div_one]
   .left;have hk':0<k:=Nat.pos_of_ne_zero hk;have hUk:k-1<(dig 65536 U).length:=oo;obtain⟨e1,e2⟩:=Anb (B:=65536) (x:=(dig 65536 U)[k-1]) (H:=U/65536^k) (Nat.pos_of_ne_zero hV);rw[<-Awg hk' hUk] at e1 e2;have hlt:(U/65536^k%V*65536+(dig 65536 U)[k-1])/V<65536:=Nat.div_lt_of_lt_mul (Alf (Oy oo U _ (getElem_mem hUk)) (Nat.mod_lt _ (Nat.pos_of_ne_zero hV)));refine⟨_,Awf hV h9 hk' oo oo hUk,⟨_,k-1,by rw[e2],by simp[hC1],oo,fun x hx=>?_,?_⟩,by simp;omega⟩
    .rcases mem_or_eq_of_mem_set hx with h|rfl
     .exact hC3 x h
     .exact hlt
    .rw[Ug _ _ (by simp;omega),getElem_set_self,show k-1+1=k by omega,drop_set_of_lt oo,hC4,e1])
  (nI (List.replicate nq 0),L16 (U/65536^nq),(nq:Int)-1) ⟨List.replicate nq 0,nq,by rw[Nat.mod_eq_of_lt h0],s_,Nat.le_refl _,s_,by rw[Nat.div_eq_of_lt h0];simp[val]⟩
 exact⟨q,ht,h1,h2,h3⟩
theorem Aei{a b:Nat}(hb:b≠0)(ha9:(dig 65536 a).length<=90000)(hb9:(dig 65536 b).length<=90000):Dd (L16 a) (L16 b)=some (L16 (a/b),L16 (a%b)):=by
 unfold Dd;rw[Au8 _ _ oo,Ad]
 by_cases hlt:a<b
 .rw[if_pos (by unfold cmpN;rw[if_pos hlt];decide),Nat.div_eq_of_lt hlt,Nat.mod_eq_of_lt hlt];rfl
 rw[if_neg (by unfold cmpN;rw[if_neg hlt];split <;> omega),Yq];obtain⟨hi,ht1,ht2⟩:=Alg hb
 by_cases h1:(dig 65536 b).length=1
 .rw[if_pos oo];have hb1:b<65536:=by have:=Adk b;rw[h1] at this;simpa using this
  rw[Afg oo hb1,show idx [(b:Int)] 0=some (b:Int) from rfl,Ad];have:=Aro (dig 65536 a) b (Oy oo a) oo oo oo;rw[Cq oo] at this;have hm:a%b<b:=Nat.mod_lt _ oo;rw[show Fm (L16 a) (b:Int)=_ from this,Ad];simp only[];rw[Zi oo oo,Ad];rfl
 .have hpos:(dig 65536 b).length≠0:=fun e=>hb ((Xa oo).1 (length_eq_zero_iff.1 e))
  rw[if_neg oo];have htop:=Oy (b:=65536) oo b _ (getElem_mem hi);rw[ht1] at htop;have htl:=Nat.div_mul_le_self b (65536^((dig 65536 b).length-1));have hbt:b<(b/65536^((dig 65536 b).length-1)+1)*65536^((dig 65536 b).length-1):=by
   have:=Nat.lt_div_mul_add (a:=b) (b:=65536^((dig 65536 b).length-1)) (Nat.pow_pos oo);rw[Nat.add_mul,Nat.one_mul];exact this
  rw[show w64 ((((dig 65536 b).length:Nat):Int)-1)=(((dig 65536 b).length-1:Nat):Int) from by rw[Aq oo oo];omega,
   show idx (L16 b) (((dig 65536 b).length-1:Nat):Int)=some ((b/65536^((dig 65536 b).length-1):Nat):Int) from by rw[<-ht1];exact Dg hi,Ad]
  generalize hm1:(dig 65536 b).length-1=m1 at *;generalize htp:b/65536^m1=tp at *;have ew:w64 ((tp:Int)+1)=((tp+1:Nat):Int):=Au oo;rw[ew,gd_t oo,show Int.tdiv 65536 ((tp+1:Nat):Int)=((65536/(tp+1):Nat):Int) from Awb 65536 (tp+1)];have hf1:0<65536/(tp+1):=Nat.div_pos oo oo;have hf2:65536/(tp+1)<=32768:=by
   have:=Nat.div_le_div_left (c:=2) (a:=65536) (show 2<=tp+1 by omega) oo;omega
  have hf3:65536/(tp+1)*(tp+1)<=65536:=Nat.div_mul_le_self _ _;generalize hf:65536/(tp+1)=f at *;rw[Re oo,<-Afg hf1 oo];have hlf:=Ac1 (g:=f) oo;rw[Acc oo,Ad,Acc oo,Ad];have hUV:b*f<=a*f:=Nat.mul_le_mul_right f oo;have hVf:b*f≠0:=Nat.mul_ne_zero hb oo;have hlU:(dig 65536 (a*f)).length<=90001:=by
   have h2:=Adl (a:=a) (f:=f) oo;exact Nat.le_trans h2 (Nat.succ_le_succ ha9)
  have hlVU:=St hUV;have hlV0:(dig 65536 (b*f)).length≠0:=fun e=>hVf ((Xa oo).1 (length_eq_zero_iff.1 e))
  have hlo:=Ah6 hVf;generalize hV:b*f=V at *;generalize hU:a*f=U at *;simp only[Yq];have e2:w64 (w64 ((((dig 65536 U).length:Nat):Int)-(((dig 65536 V).length:Nat):Int))+1)=(((dig 65536 U).length-(dig 65536 V).length+1:Nat):Int):=by
   rw[Aq (x:=(((dig 65536 U).length:Nat):Int)-(((dig 65536 V).length:Nat):Int)) oo oo,Aq oo oo];omega
  have e3:w64 ((((dig 65536 U).length:Nat):Int)-(((dig 65536 V).length:Nat):Int))=(((dig 65536 U).length-(dig 65536 V).length+1:Nat):Int)-1:=by
   rw[Aq oo oo];omega
  generalize hnq:(dig 65536 U).length-(dig 65536 V).length+1=nq at *;have hsub:subl (L16 U) ((nq:Nat):Int) (((dig 65536 U).length:Nat):Int)=nI ((dig 65536 U).drop nq):=by
   unfold subl;rw[Int.toNat_natCast,Int.toNat_natCast,take_of_length_le (by rw[Yq];exact Nat.le_refl _)];simp[L16,nI]
  have hdr:val 65536 ((dig 65536 U).drop nq)=U/65536^nq:=Xw oo;have h0:U/65536^nq<V:=by
   have h5:=Afd (b:=65536) ((dig 65536 U).drop nq) (fun x hx=>Oy oo U x (mem_of_mem_drop hx));rw[hdr,length_drop,show (dig 65536 U).length-nq=(dig 65536 V).length-1 by omega] at h5;exact Nat.lt_of_lt_of_le h5 hlo
  rw[e2,e3,gd_t ⟨oo,oo⟩,gd_t ⟨oo,oo⟩,hsub,gd_t (by rw[Ca,length_drop];simp only[length_nil];omega),nil_append,Alh (fun x hx=>Oy oo U x (mem_of_mem_drop hx)) (by rw[length_drop];omega),Ad,hdr];obtain⟨q,hq1,hq2,hq3,hq4⟩:=Awh hVf oo oo (show nq<=(dig 65536 U).length by omega) h0;rw[jn_d,Int.toNat_natCast,Zv,hq1,Ad];simp only[];rw[Afg hf1 oo,show idx [(f:Int)] 0=some (f:Int) from rfl,Ad];have hs:=Aro (dig 65536 (U%V)) f (Oy oo _) hf1 oo (Nat.le_trans (St (Nat.mod_le U V)) oo);rw[Cq oo] at hs;rw[show Fm (L16 (U%V)) (f:Int)=_ from hs,Ad,Alh hq2 oo,Ad,hq4];have ed:U/V=a/b:=by rw[<-hU,<-hV];exact Nat.mul_div_mul_right _ _ hf1
  have em:U%V/f=a%b:=by rw[<-hU,<-hV,Nat.mul_mod_mul_right,Nat.mul_div_cancel _ hf1]
  rw[ed,em]
theorem Bev{a b:Nat}(ha:(dig 65536 a).length<=90000)(hb:(dig 65536 b).length<=90000):Ox (L16 a) (L16 b)=some (L16 (Nat.gcd a b)):=by
 unfold Ox;simp only[jn_d];obtain⟨t,ht,rfl⟩:=Aw (B:=Qz) (fun s=>s.2.length*65536+(val 65536 (s.2.map Int.toNat)))
  (fun s=>∃x y:Nat,s=(L16 x,L16 y)/\Nat.gcd x y=Nat.gcd a b/\(dig 65536 x).length<=90000/\(dig 65536 y).length<=90000)
  (fun t=>t=L16 (Nat.gcd a b)) (by
   rintro s ⟨x,y,rfl,hg,hx,hy⟩;unfold Qz;simp only[Yq];have hval:∀m,val 65536 ((L16 m).map Int.toNat)=m:=fun m=>by
    unfold L16 nI;rw[map_map,show (Int.toNat ∘ fun x:Nat=>(x:Int))=id from funext fun x=>s_,map_id,Cq oo]
   by_cases h0:y=0
   .right;subst h0;refine⟨_,by rw[if_neg (by rw[Rj];simp)],?_⟩;rw[Nat.gcd_zero_right] at hg;rw[hg]
   .left;have hy0:(dig 65536 y).length≠0:=fun e=>h0 ((Xa oo).1 (length_eq_zero_iff.1 e))
    have hm:x%y<y:=Nat.mod_lt _ (Nat.pos_of_ne_zero h0);have hml:=St (Nat.le_of_lt hm);refine⟨(L16 y,L16 (x%y)),by rw[if_pos oo,Aei h0 hx hy,Ad],⟨y,x%y,rfl,?_,hy,oo⟩,?_⟩
    .rw[<-hg,Nat.gcd_comm x y,Nat.gcd_rec y x,Nat.gcd_comm]
    .simp only[Yq,hval];omega)
  (L16 a,L16 b) ⟨a,b,rfl,rfl,ha,hb⟩
 rw[ht,Ad]
def QR(x:Rat):Ao:=⟨Z16 x.num,L16 x.den⟩
theorem Ag6(m:Nat):(⟨false,L16 m⟩:Ai)=Z16 (m:Int):=by
 unfold Z16;rw[decide_eq_false oo,Int.natAbs_natCast]
theorem Ach{m:Nat}:decide (0<(((L16 m).length:Nat):Int))=decide (m≠0):=by
 have:=Ag1 (a:=m)
 by_cases h:m=0
 .rw[decide_eq_false (by have:=this.2 h;omega),decide_eq_false (by simp[h])]
 .rw[decide_eq_true (by have h2:(L16 m).length≠0:=fun e=>h (this.1 e);omega),decide_eq_true h]
theorem Agd{n:Int}{d:Nat}(hd:d≠0):∃(m:Int) (e:Nat),n=(Nat.gcd n.natAbs d:Nat)*m/\d=Nat.gcd n.natAbs d*e/\(mkRat n d).num=m/\(mkRat n d).den=e/\0<Nat.gcd n.natAbs d:=by
 have hg:0<Nat.gcd n.natAbs d:=Nat.gcd_pos_of_pos_right _ (Nat.pos_of_ne_zero hd);obtain⟨m,hm⟩:=Int.ofNat_dvd_left.2 (Nat.gcd_dvd_left n.natAbs d);obtain⟨e,he⟩:=Nat.gcd_dvd_right n.natAbs d;refine⟨m,e,hm,he,?_,?_,hg⟩
 .rw[Rat.num_mkRat,if_neg hd,Nat.gcd_comm];generalize Nat.gcd n.natAbs d=g at *;rw[hm,Int.mul_ediv_cancel_left _ oo]
 .rw[Rat.den_mkRat,if_neg hd,Nat.gcd_comm];generalize Nat.gcd n.natAbs d=g at *;rw[he,Nat.mul_div_cancel_left _ hg]
theorem Apn{n:Int}{d:Nat}(hd:d≠0)(h1:(dig 65536 n.natAbs).length<=90000)(h2:(dig 65536 d).length<=90000):Dr (Z16 n) ⟨false,L16 d⟩=some (QR (mkRat n d)):=by
 obtain⟨m,e,hm,he,hn1,hd1,hg⟩:=Agd (n:=n) hd;have hgl:(dig 65536 (Nat.gcd n.natAbs d)).length<=90000:=Nat.le_trans (St (Nat.gcd_le_right _ (Nat.pos_of_ne_zero hd))) h2;unfold Dr;simp only[Acy,jn_d];rw[Bev h1 h2,Ad,Aei oo h1 hgl,Ad,Aei oo h2 hgl,Ad];simp only[];unfold QR;rw[hn1,hd1];generalize Nat.gcd n.natAbs d=g at *;have e1:n.natAbs/g=m.natAbs:=by rw[hm,Int.natAbs_mul,Int.natAbs_natCast,Nat.mul_div_cancel_left _ hg]
 have e2:d/g=e:=by rw[he,Nat.mul_div_cancel_left _ hg]
 rw[e1,e2,Oh,Ach];unfold Z16
 by_cases hneg:n<0
 ·have hmn:m<0:=by
   rcases Int.lt_or_le m 0 with h|h
   .exact h
   .have:=Int.mul_nonneg (Int.natCast_nonneg g) h;omega
  rw[if_pos (by simpa using hneg),decide_eq_true (show m.natAbs≠0 by omega),decide_eq_true hmn]
 ·have hmn:¬ m<0:=fun h=>by
   have:=Int.mul_neg_of_pos_of_neg (show (0:Int)<(g:Int) by omega) h;omega
  rw[if_neg (by simpa using hneg),decide_eq_false hmn]
def Sml(k:Nat)(x:Rat):Prop:=x.num.natAbs<65536^k/\x.den<65536^k
theorem Sml.n{k:Nat}{x:Rat}(h:Sml k x):(dig 65536 x.num.natAbs).length<=k:=Ec h.1
theorem Sml.d{k:Nat}{x:Rat}(h:Sml k x):(dig 65536 x.den).length<=k:=Ec h.2
theorem And{n:Int}{d:Nat}(hd:d≠0):(mkRat n d).num.natAbs<=n.natAbs/\(mkRat n d).den<=d:=by
 obtain⟨m,e,hm,he,hn1,hd1,hg⟩:=Agd (n:=n) hd;rw[hn1,hd1];generalize Nat.gcd n.natAbs d=g at *;refine⟨?_,?_⟩
 .rw[hm,Int.natAbs_mul,Int.natAbs_natCast];exact Nat.le_mul_of_pos_left _ hg
 .rw[he];exact Nat.le_mul_of_pos_left _ hg
theorem Ld{a b i j:Nat}(ha:a<65536^i)(hb:b<65536^j):a*b<65536^(i+j):=by
 rw[Nat.pow_add];rcases Nat.eq_zero_or_pos b with rfl|h
 .rw[Nat.mul_zero];exact Nat.mul_pos (Nat.pow_pos oo) (Nat.pow_pos oo)
 .exact Nat.lt_of_lt_of_le (Nat.mul_lt_mul_of_pos_right ha h) (Nat.mul_le_mul_left _ (Nat.le_of_lt hb))
theorem den0(x:Rat):x.den≠0:=x.den_nz
theorem Sml.mkRat{k:Nat}{n:Int}{d:Nat}(hd:d≠0)(h1:n.natAbs<65536^k)(h2:d<65536^k):Sml k (mkRat n d):=⟨Nat.lt_of_le_of_lt (And hd).1 h1,Nat.lt_of_le_of_lt (And hd).2 h2⟩
theorem Apo{x y:Rat}{i j:Nat}(hx:Sml i x)(hy:Sml j y):(x.num*y.den+y.num*x.den).natAbs<65536^(i+j+1):=by
 have h1:=Ld hx.1 hy.2;have h2:=Ld hy.1 hx.2;rw[Nat.add_comm j i] at h2;have h3:=Int.natAbs_add_le (x.num*y.den) (y.num*x.den);rw[Int.natAbs_mul,Int.natAbs_mul,Int.natAbs_natCast,Int.natAbs_natCast] at h3;rw[Nat.pow_succ];generalize 65536^(i+j)=p at *;omega
theorem Sml.neg{x:Rat}{i:Nat}(hx:Sml i x):Sml i (-x):=by
 unfold Sml;rw[Rat.neg_num,Rat.neg_den,Int.natAbs_neg];exact hx
theorem Sml.int{z:Int}{k:Nat}(h:z.natAbs<65536^k)(hk:0<k):Sml k (z:Rat):=⟨h,Nat.one_lt_pow oo oo⟩
theorem Aci{z:Int}(h1:-9223372036854775808<=z)(h2:z<=9223372036854775807):Cb z=some (QR (z:Rat)):=by
 unfold Cb;rw[Zi h1 h2,Ad,Bbw];rfl
theorem Bb4{x y:Rat}{i j:Nat}(hx:Sml i x)(hy:Sml j y)(h:i+j<=80000):Cc (QR x) (QR y)=some (QR (x+y)):=by
 unfold Cc QR;simp only[Ag6];have a1:=hx.n;have a2:=hx.d;have a3:=hy.n;have a4:=hy.d;have b1:(dig 65536 (x.num*(y.den:Int)).natAbs).length<=i+j:=Ec (by rw[Int.natAbs_mul,Int.natAbs_natCast];exact Ld hx.1 hy.2);have b2:(dig 65536 (y.num*(x.den:Int)).natAbs).length<=j+i:=Ec (by rw[Int.natAbs_mul,Int.natAbs_natCast];exact Ld hy.1 hx.2);have b3:(dig 65536 (x.den*y.den)).length<=i+j:=Ec (Ld hx.2 hy.2);have b4:(dig 65536 (x.num*y.den+y.num*x.den).natAbs).length<=i+j+1:=Ec (Apo hx hy);rw[Ajv (by rw[Int.natAbs_natCast];omega),Ad,Ajv (by rw[Int.natAbs_natCast];omega),Ad,Bbx oo oo,Ad,Acc oo,Ad,Apn (Nat.mul_ne_zero (den0 x) (den0 y)) oo oo,Ad,<-Rat.add_def'];rfl
theorem Ali{z:Int}:Dm (Z16 z)=some (Z16 (-z)):=by
 unfold Dm;simp only[jn_d,Oh,Acy,Ach];unfold Z16;rw[Int.natAbs_neg]
 by_cases h:z<0
 .rw[if_pos (by simpa using h),decide_eq_false oo]
 .rw[if_neg (by simpa using h)];congr 2
  by_cases h0:z=0
  .subst h0;rfl
  .rw[Ach,decide_eq_true (show z.natAbs≠0 by omega),decide_eq_true (show -z<0 by omega)]
theorem Arp{x:Rat}:Hy (QR x)=some (QR (-x)):=by
 unfold Hy QR;rw[Ali,Ad,Rat.neg_num,Rat.neg_den]
theorem Bb5{x y:Rat}{i j:Nat}(hx:Sml i x)(hy:Sml j y)(h:i+j<=80000):Cj (QR x) (QR y)=some (QR (x-y)):=by
 unfold Cj;rw[Arp,Ad,Bb4 hx hy.neg h,Ad,Rat.sub_eq_add_neg]
theorem Bew{x y:Rat}{i j:Nat}(hx:Sml i x)(hy:Sml j y)(h:i+j<=80000):Cy (QR x) (QR y)=some (QR (x*y)):=by
 unfold Cy QR;simp only[];have a1:=hx.n;have a2:=hx.d;have a3:=hy.n;have a4:=hy.d;have b1:(dig 65536 (x.num*y.num).natAbs).length<=i+j:=Ec (by rw[Int.natAbs_mul];exact Ld hx.1 hy.1);have b3:(dig 65536 (x.den*y.den)).length<=i+j:=Ec (Ld hx.2 hy.2);rw[Ajv oo,Ad,Acc oo,Ad,Apn (Nat.mul_ne_zero (den0 x) (den0 y)) oo oo,Ad,<-Rat.mul_def'];rfl
theorem Awi{z:Int}:Ee (Z16 z)=some z.sign:=by
 unfold Ee;have:=Ag1 (a:=z.natAbs);rw[Acy,Oh]
 by_cases h0:z=0
 .subst h0;rfl
 .rw[if_neg (fun e=>h0 (by have:=this.1 oo;omega))]
  by_cases h:z<0
  .rw[if_pos (by simpa using h),Int.sign_eq_neg_one_of_neg h]
  .rw[if_neg (by simpa using h),Int.sign_eq_one_of_pos oo]
theorem Bex{x y:Rat}{i j:Nat}(hx:Sml i x)(hy:Sml j y)(h:i+j<=80000):Kw (QR x) (QR y)=some (x-y).num.sign:=by
 unfold Kw;rw[Bb5 hx hy h,Ad];show bnd (Ee (Z16 (x-y).num)) _=_;rw[Awi,Ad]
theorem Aj4(x y:Rat)(hy:y≠0):x/y=mkRat (x.num*y.den*y.num.sign) (x.den*y.num.natAbs):=by
 have hyn:y.num≠0:=fun h=>hy (Rat.num_eq_zero.1 h)
 rw[Rat.div_def,Rat.mul_def',Rat.num_inv,Rat.den_inv,if_neg hyn];congr 1;rw[Int.mul_assoc,Int.mul_comm (y.den:Int)]
theorem Ag7(z:Int):z.sign=if z<0 then -1 else if z=0 then 0 else 1:=by
 rcases Int.lt_trichotomy z 0 with h|h|h
 .rw[if_pos h,Int.sign_eq_neg_one_of_neg h]
 .subst h;rfl
 .rw[if_neg oo,if_neg oo,Int.sign_eq_one_of_pos h]
theorem Bey{x y:Rat}{i j:Nat}(hx:Sml i x)(hy:Sml j y)(h:i+j<=80000)(h0:y≠0):Ph (QR x) (QR y)=some (QR (x/y)):=by
 have hyn:y.num≠0:=fun h=>h0 (Rat.num_eq_zero.1 h)
 have hxd:(0:Int)<(x.den:Int):=by have:=den0 x;omega
 have hyd:(0:Int)<(y.den:Int):=by have:=den0 y;omega
 have a1:=hx.n;have a2:=hx.d;have a3:=hy.n;have a4:=hy.d;have b1:(dig 65536 (x.num*(y.den:Int)).natAbs).length<=i+j:=Ec (by rw[Int.natAbs_mul,Int.natAbs_natCast];exact Ld hx.1 hy.2);have b2:(dig 65536 (y.num*(x.den:Int)).natAbs).length<=j+i:=Ec (by rw[Int.natAbs_mul,Int.natAbs_natCast];exact Ld hy.1 hx.2);unfold Ph;simp only[QR,Ag6,jn_d];rw[Ajv (by rw[Int.natAbs_natCast];omega),Ad,Ajv (by rw[Int.natAbs_natCast];omega),Ad];have e1:x.num*(y.den:Int)<0↔x.num<0:=⟨fun h=>by
   rcases Int.lt_or_le x.num 0 with h'|h'
   .exact h'
   .have:=Int.mul_nonneg h' (Int.le_of_lt hyd);omega,fun h=>Int.mul_neg_of_neg_of_pos h hyd⟩
 have e2:y.num*(x.den:Int)<0↔y.num<0:=⟨fun h=>by
   rcases Int.lt_or_le y.num 0 with h'|h'
   .exact h'
   .have:=Int.mul_nonneg h' (Int.le_of_lt hxd);omega,fun h=>Int.mul_neg_of_neg_of_pos h hxd⟩
 have hd0:(y.num*(x.den:Int)).natAbs≠0:=by rw[Int.natAbs_mul];exact Nat.mul_ne_zero oo oo
 have ed:x.den*y.num.natAbs=(y.num*(x.den:Int)).natAbs:=by rw[Int.natAbs_mul,Int.natAbs_natCast,Nat.mul_comm]
 rw[Aj4 x y h0,ed];have key:∀z:Int,z.natAbs=(x.num*(y.den:Int)).natAbs->Dr (Z16 z) ⟨false,L16 (y.num*(x.den:Int)).natAbs⟩=some (QR (mkRat z (y.num*(x.den:Int)).natAbs)):=fun z hz=>Apn hd0 (by rw[hz];omega) oo
 have fin:∀q:Rat,(some (⟨(⟨(QR q).N.Neg,(QR q).N.L⟩:Ai),(QR q).D⟩:Ao))=some (QR q):=fun _=>rfl
 by_cases hs:((Z16 (x.num*(y.den:Int))).Neg==(Z16 (y.num*(x.den:Int))).Neg)=true
 .rw[if_pos hs];simp only[Acy];have hs:(decide (x.num*(y.den:Int)<0)==decide (y.num*(x.den:Int)<0))=true:=hs;have hz:=key ((x.num*(y.den:Int)).natAbs:Int) oo;rw[<-Ag6] at hz;rw[hz,Ad];show some (QR _)=some (QR _);congr 3;have hs':=eq_of_beq hs;rw[decide_eq_decide,e1,e2] at hs';rw[Ag7]
  by_cases hn:y.num<0
  .rw[if_pos hn];have:=e1.2 (hs'.2 hn);omega
  .rw[if_neg hn,if_neg hyn];have:¬x.num*(y.den:Int)<0:=fun h=>hn (hs'.1 (e1.1 h));omega
 .rw[if_neg hs];simp only[Acy];have hs:¬(decide (x.num*(y.den:Int)<0)==decide (y.num*(x.den:Int)<0))=true:=hs;have hs':¬(x.num<0↔y.num<0):=fun h=>hs (by rw[show decide (x.num*(y.den:Int)<0)=decide (y.num*(x.den:Int)<0) from decide_eq_decide.2 (e1.trans (h.trans e2.symm))];simp)
  have hz:=key (-((x.num*(y.den:Int)).natAbs:Int)) oo;have ez:(⟨decide (0<(((L16 (x.num*(y.den:Int)).natAbs).length:Nat):Int)),L16 (x.num*(y.den:Int)).natAbs⟩:Ai)=Z16 (-((x.num*(y.den:Int)).natAbs:Int)):=by
   unfold Z16;rw[Int.natAbs_neg,Int.natAbs_natCast,Ach];congr 1
   by_cases h:(x.num*(y.den:Int)).natAbs=0
   .rw[decide_eq_false (by simp[h]),decide_eq_false oo]
   .rw[decide_eq_true h,decide_eq_true oo]
  show bnd (Dr ⟨decide (0<(((L16 (x.num*(y.den:Int)).natAbs).length:Nat):Int)),L16 (x.num*(y.den:Int)).natAbs⟩ ⟨false,L16 (y.num*(x.den:Int)).natAbs⟩) (fun r34=>some (⟨⟨r34.N.Neg,r34.N.L⟩,r34.D⟩:Ao))=_;rw[ez,hz,Ad];show some (QR _)=some (QR _);congr 3;rw[Ag7]
  by_cases hn:y.num<0
  .rw[if_pos hn];have:¬x.num*(y.den:Int)<0:=fun h=>hs' ⟨fun _=>hn,fun _=>e1.1 h⟩;omega
  .rw[if_neg hn,if_neg hyn]
   by_cases hxn:x.num<0
   .have:=e1.2 hxn;omega
   .exact absurd ⟨fun h=>absurd h hxn,fun h=>absurd h hn⟩ hs'
theorem Sml.div{x y:Rat}{i j:Nat}(hx:Sml i x)(hy:Sml j y)(h0:y≠0):Sml (i+j) (x/y):=by
 have hyn:y.num≠0:=fun h=>h0 (Rat.num_eq_zero.1 h)
 rw[Aj4 x y h0];refine Sml.mkRat (Nat.mul_ne_zero (den0 x) oo) ?_ (Ld hx.2 hy.1);rw[Int.natAbs_mul,Int.natAbs_mul,Int.natAbs_natCast];have:y.num.sign.natAbs=1:=by rw[Ag7];split <;> (try split) <;> omega
 rw[this,Nat.mul_one];exact Ld hx.1 hy.2
theorem Awj{a d:Nat}(hd:0<d)(ha:0<a):(-(a:Int))/(d:Int) = -(((a/d+if a%d=0 then 0 else 1:Nat)):Int):=by
 have h1:=Nat.div_add_mod a d;have h2:=Nat.mod_lt a hd;have h3:(a:Int)=d*((a/d:Nat):Int)+((a%d:Nat):Int):=by rw[<-Int.natCast_mul,<-Int.natCast_add,h1]
 generalize a/d=q at *;generalize a%d=r at *
 by_cases h0:r=0
 .subst h0;rw[if_pos rfl,h3];rw[show -((d:Int)*(q:Int)+((0:Nat):Int))=(d:Int)*(-(q:Int)) by rw[Int.mul_neg];simp,Int.mul_ediv_cancel_left _ oo];simp
 .rw[if_neg h0];refine ((Int.ediv_emod_unique (r:=(d:Int)-r) oo).2 ⟨?_,oo,oo⟩).1;rw[h3,Int.natCast_add];have:(d:Int) * -((q:Int)+((1:Nat):Int)) = -(d*q)-d:=by rw[Int.mul_neg,Int.mul_add];simp;omega
  rw[this];omega
theorem Bc0{z:Int}{d:Nat}(hd:d≠0)(h1:(dig 65536 z.natAbs).length<=80000)(h2:(dig 65536 d).length<=80000):Jv (Z16 z) ⟨false,L16 d⟩=some (Z16 (z/(d:Int))):=by
 unfold Jv;simp only[Acy,jn_d];rw[Aei hd oo oo,Ad,Oh]
 by_cases h:z<0
 .rw[if_pos (by simpa using h)];simp only[];have hz:z = -((z.natAbs:Nat):Int):=oo;have e:=Awj (a:=z.natAbs) (Nat.pos_of_ne_zero hd) oo;rw[<-hz] at e;have hp:=Ag1 (a:=z.natAbs%d)
  by_cases h0:z.natAbs%d=0
  .rw[if_neg (by have:=hp.2 h0;omega)];rw[if_pos h0] at e;rw[e,Ach];unfold Z16;congr 2
   .generalize z.natAbs/d=q at *
    by_cases hq:q=0
    .rw[decide_eq_false (by simp[hq]),decide_eq_false oo]
    .rw[decide_eq_true hq,decide_eq_true oo]
   .congr 1;generalize z.natAbs/d=q at *;omega
  .rw[if_pos (by have:(L16 (z.natAbs%d)).length≠0:=fun e=>h0 (hp.1 e);omega)];rw[if_neg h0] at e;have hl:(dig 65536 (z.natAbs/d)).length<=80000:=Nat.le_trans (St (Nat.div_le_self _ _)) h1;rw[Bbw,Au9 oo (by rw[Ag3 oo];simp),Ad,e,Ach];unfold Z16;generalize z.natAbs/d=q at *;congr 2
   .rw[decide_eq_true (show q+1≠0 by omega),decide_eq_true oo]
 .rw[if_neg (by simpa using h)];have hz:z=((z.natAbs:Nat):Int):=oo;rw[show z/(d:Int)=((z.natAbs/d:Nat):Int) by rw[hz,Int.natCast_ediv,Int.natAbs_natCast]];rw[<-Ag6]
theorem Arq{x:Rat}{i:Nat}(hx:Sml i x)(h:i<=40000):Hz (QR x)=some (Z16 x.floor):=by
 have a1:=hx.n;have a2:=hx.d;unfold Hz QR;simp only[];rw[Bc0 (den0 x) oo oo,Ad,Rat.floor_def]
theorem Bc1{x:Rat}{i:Nat}(hx:Sml i x)(h:i<=40000):Nn (QR x)=some (Z16 (-(-x).floor)):=by
 unfold Nn;rw[Arp,Ad,Arq hx.neg h,Ad,Ali,Ad]
theorem Atw(l:LM)(hl:∀x∈l,x<65536)(h4:l.length<=4)(hv:val 65536 l<4611686018427387905)(p:Ai)(hp:p.L=nI l):lfix (Du p) (0,(l.length:Int)-1)=some ((val 65536 l:Nat):Int):=by
 obtain⟨t,ht,rfl⟩:=Aw (B:=Du p) (fun s=>(s.2+1).toNat)
  (fun s=>∃k:Nat,s=(((val 65536 (l.drop k):Nat):Int),(k:Int)-1)/\k<=l.length)
  (fun t=>t=((val 65536 l:Nat):Int)) (by
   rintro s ⟨k,rfl,hk⟩;unfold Du
   by_cases h0:k=0
   .right;subst h0;exact⟨_,by simp only[];rw[if_neg oo],by rw[drop_zero]⟩
   ·left;have h1:k-1<l.length:=oo;have hx:=hl _ (getElem_mem h1);have hd:=Ug (b:=65536) l (k-1) h1;rw[show k-1+1=k by omega] at hd;have hle:val 65536 (l.drop (k-1))<=val 65536 l:=by
     have:=Ac0 l (k-1) oo;have h2:val 65536 (l.drop (k-1))<=65536^(k-1)*val 65536 (l.drop (k-1)):=Nat.le_mul_of_pos_left _ (Nat.pow_pos oo);omega
    refine⟨(((val 65536 (l.drop (k-1)):Nat):Int),((k-1:Nat):Int)-1),?_,⟨k-1,rfl,oo⟩,by simp;omega⟩;simp only[hp];rw[if_pos oo,show ((k:Int)-1)=((k-1:Nat):Int) from by omega,Dg h1,Ad,hd];generalize val 65536 (l.drop k)=H at *;generalize l[k-1]=x at *;rw[Aq (x:=(H:Int)*65536) oo oo,Aq oo oo,Aq oo oo];congr 3;omega)
  (0,(l.length:Int)-1) ⟨l.length,by simp[val],Nat.le_refl _⟩
 exact ht
theorem Bc2{z:Int}(h:z.natAbs<=1152921504606846976):Ju (Z16 z)=some (z,true):=by
 have hl:(dig 65536 z.natAbs).length<=4:=Ec oo;have hv:=Cq (b:=65536) oo z.natAbs;have hf:=Atw (dig 65536 z.natAbs) (Oy oo _) hl (by rw[hv];omega) (Z16 z) Acy;rw[hv] at hf;have fin:(jn (fun (s6:Int)=>
   jn (fun (s15:Bool)=>
   if s15=true then (some ((0:Int),false))
   else (jn (fun (s17:Int)=>
   some (s17,true))
   (fun j17=>if (Z16 z).Neg=true then (j17 (w64 (-s6)))
   else (j17 s6))))
   (fun j15=>if s6<0 then (j15 true)
   else (j15 (decide (4611686018427387904<s6)))))
   (fun j6=>bnd (lfix (Du (Z16 z)) (0,w64 (((((dig 65536 z.natAbs).length:Nat):Int))-1))) fun t39=>
   j6 t39))=some (z,true):=by
  simp only[jn_d];rw[Aq oo oo,hf,Ad,if_neg oo,if_neg (by simp;omega),Oh]
  by_cases hn:z<0
  .rw[if_pos (by simpa using hn),Aq oo oo];congr 2;omega
  .rw[if_neg (by simpa using hn)];congr 2;omega
 unfold Ju;rw[jn_d,Acy,Yq,if_neg oo]
 by_cases h4:(((dig 65536 z.natAbs).length:Nat):Int)=4
 .have h3:3<(dig 65536 z.natAbs).length:=oo;have hd:=Xw (m:=z.natAbs) (k:=3) oo;rw[Ug _ _ h3,drop_eq_nil_of_le oo] at hd;simp only[val,Nat.mul_zero,Nat.add_zero] at hd;rw[if_pos h4,show idx (L16 z.natAbs) 3=some (((dig 65536 z.natAbs)[3]:Nat):Int) from Dg h3,Ad,decide_eq_false (by rw[hd];omega)];exact fin
 .rw[if_neg h4];exact fin
theorem Bb6{z:Int}(h:z.natAbs<=1152921504606846976):Pi (Z16 z)=some (z,0):=by
 unfold Pi;rw[Bc2 h,Ad,jn_d];simp only[if_true];rw[if_neg oo,decide_eq_false oo,if_neg s_]
theorem Awk{x y:Rat}{i:Nat}(hx:Sml i x)(hy:Sml i y)(h:i<=20000)(h1:(if y<x then y else x).floor.natAbs<=1152921504606846976)(h2:(-(-(if x<y then y else x)).floor).natAbs<=1152921504606846976):
  Np [QR x,QR y]=some (⟨(if y<x then y else x).floor,-(-(if x<y then y else x)).floor⟩,0):=by
 have hlow:Sml i (if y<x then y else x):=by split;exact hy;exact hx
 have hhigh:Sml i (if x<y then y else x):=by split;exact hy;exact hx
 have sg:∀z:Rat,z.num.sign<0↔z<0:=fun z=>by
  rw[Ag7,<-Rat.not_le,<-Rat.num_nonneg];split
  .omega
  .split <;> omega
 have sg2:∀z:Rat,0<z.num.sign↔0<z:=fun z=>by
  have e:z.num.sign = -((-z).num.sign):=by rw[Rat.neg_num,Int.sign_neg,Int.neg_neg]
  rw[e];have:=sg (-z);constructor
  .intro h;have h':=this.1 oo;rw[Rat.neg_lt_iff] at h';simpa using h'
  .intro h;have h':=this.2 (by rw[Rat.neg_lt_iff];simpa using h);omega
 have body:Fq [QR x,QR y] ((QR x).N.Neg,(QR x).N.L,(QR x).D,(QR x).N.Neg,(QR x).N.L,(QR x).D,1)=some (.inl ((QR (if y<x then y else x)).N.Neg,(QR (if y<x then y else x)).N.L,(QR (if y<x then y else x)).D,(QR (if x<y then y else x)).N.Neg,(QR (if x<y then y else x)).N.L,(QR (if x<y then y else x)).D,2)):=by
  unfold Fq;simp only[jn_d];have eq:∀q:Rat,(⟨(⟨(QR q).N.Neg,(QR q).N.L⟩:Ai),(QR q).D⟩:Ao)=QR q:=fun _=>rfl
  rw[if_pos s_,show idx [QR x,QR y] 1=some (QR y) from rfl];simp only[Ad,eq];rw[Bex hy hx oo];simp only[Ad];have d1:(y-x).num.sign<0↔y<x:=by rw[sg,Rat.lt_iff_sub_pos y x];rw[show y-x = -(x-y) from (Rat.neg_sub x y).symm,Rat.neg_lt_iff];simp
  have d2:0<(y-x).num.sign↔x<y:=by rw[sg2,Rat.lt_iff_sub_pos x y]
  rw[show w64 (1+1)=2 from by decide]
  by_cases c1:y<x
  .rw[if_pos (d1.2 c1),if_pos c1]
   by_cases c2:x<y
   .rw[if_pos (d2.2 c2),if_pos c2]
   .rw[if_neg (fun h=>c2 (d2.1 h)),if_neg c2]
  .rw[if_neg (fun h=>c1 (d1.1 h)),if_neg c1]
   by_cases c2:x<y
   .rw[if_pos (d2.2 c2),if_pos c2]
   .rw[if_neg (fun h=>c2 (d2.1 h)),if_neg c2]
 have fin:∀a b c d e f,Fq [QR x,QR y] (a,b,c,d,e,f,2)=some (.inr (a,b,c,d,e,f)):=fun a b c d e f=>by
  unfold Fq;rw[if_neg s_]
 unfold Np;simp only[jn_d];rw[show idx [QR x,QR y] 0=some (QR x) from rfl,Ad,Ad,Ay,body];simp only[];rw[Ay,fin];simp only[Ad];have eq:∀q:Rat,(⟨(⟨(QR q).N.Neg,(QR q).N.L⟩:Ai),(QR q).D⟩:Ao)=QR q:=fun _=>rfl
 simp only[eq];rw[Arq hlow oo,Ad,Bb6 h1,Ad,Bc1 hhigh oo,Ad,Bb6 h2,Ad];simp
theorem pow8:(65536:Nat)^8=340282366920938463463374607431768211456:=dD
theorem addI{a b:Int}(ha:a.natAbs<65536^8)(hb:b.natAbs<65536^8):Cc (QR (a:Rat)) (QR (b:Rat))=some (QR ((a+b:Int):Rat)):=by
 rw[Bb4 (Sml.int ha oo) (Sml.int hb oo) oo,Rat.intCast_add]
theorem subI{a b:Int}(ha:a.natAbs<65536^8)(hb:b.natAbs<65536^8):Cj (QR (a:Rat)) (QR (b:Rat))=some (QR ((a-b:Int):Rat)):=by
 rw[Bb5 (Sml.int ha oo) (Sml.int hb oo) oo,Rat.intCast_sub]
theorem mulI{a b:Int}(ha:a.natAbs<65536^8)(hb:b.natAbs<65536^8):Cy (QR (a:Rat)) (QR (b:Rat))=some (QR ((a*b:Int):Rat)):=by
 rw[Bew (Sml.int ha oo) (Sml.int hb oo) oo,Rat.intCast_mul]
theorem App{x1 y1 x2 y2 x3 y3:Int}(h:∀ z∈[x1,y1,x2,y2,x3,y3],-268435456<=z/\z<=268435456):
  Ia ⟨QR (x1:Rat),QR (y1:Rat)⟩ ⟨QR (x2:Rat),QR (y2:Rat)⟩ ⟨QR (x3:Rat),QR (y3:Rat)⟩=some (QR ((crs ⟨x1,y1⟩ ⟨x2,y2⟩ ⟨x3,y3⟩:Int):Rat)):=by
 have a1:=h x1 s_;have a2:=h y1 s_;have a3:=h x2 s_;have a4:=h y2 s_;have a5:=h x3 s_;have a6:=h y3 s_;have m1:=mulB (x:=x2-x1) (y:=y3-y1) (M:=536870912) (N:=536870912) oo oo oo oo oo;have m2:=mulB (x:=y2-y1) (y:=x3-x1) (M:=536870912) (N:=536870912) oo oo oo oo oo;unfold Ia;dsimp only;rw[subI (by rw[pow8];omega) (by rw[pow8];omega),Ad,subI (by rw[pow8];omega) (by rw[pow8];omega),Ad,mulI (by rw[pow8];omega) (by rw[pow8];omega),Ad,subI (by rw[pow8];omega) (by rw[pow8];omega),Ad,
  subI (by rw[pow8];omega) (by rw[pow8];omega),Ad,mulI (by rw[pow8];omega) (by rw[pow8];omega),Ad,subI (by rw[pow8];omega) (by rw[pow8];omega),Ad]
 rfl
theorem Ah7{z S A:Int}(hA:0<A):(z:Rat)<=(S:Rat)/(A:Rat)↔z*A<=S:=by
 have hA':(0:Rat)<(A:Rat):=by rw[show (0:Rat)=((0:Int):Rat) from rfl,Rat.intCast_lt_intCast];exact hA
 have hne:(A:Rat)≠0:=fun e=>by rw[e] at hA';exact absurd hA' dD
 have e:=Rat.div_mul_cancel (a:=(S:Rat)) hne;rw[<-Rat.intCast_le_intCast,Rat.intCast_mul];generalize (S:Rat)/(A:Rat)=y at *;rw[<-e];constructor
 .intro h;exact Rat.mul_le_mul_of_nonneg_right h (by grind)
 .intro h;exact Rat.le_of_mul_le_mul_right h hA'
theorem Atx{S A:Int}(hA:0<A):((S:Rat)/(A:Rat)).floor=S/A:=by
 refine Int.le_antisymm ?_ ?_
 .have h:=(Rat.le_floor_iff (x:=((S:Rat)/(A:Rat)).floor) (a:=(S:Rat)/(A:Rat))).1 (Int.le_refl _);exact Int.le_ediv_of_mul_le hA ((Ah7 hA).1 h)
 .rw[Rat.le_floor_iff,Ah7 hA];exact Int.ediv_mul_le _ oo
theorem At_Q{p:Ab}(hp:okP p):Ig p=some ⟨QR (p.X:Rat),QR (p.Y:Rat)⟩:=by
 unfold okP at hp;unfold Ig;rw[Aci oo oo,Ad,Aci oo oo,Ad]
section
variable {m:Ak}(h:Msh m)
include h
theorem Aty{p:Ab}(hp:okP p){t:Ag}(ht:t∈m.T):Lm m t ⟨QR (p.X:Rat),QR (p.Y:Rat)⟩ =
  some ⟨QR ((crs (plV m.V t.a1) (plV m.V t.a2) p:Int):Rat),QR ((crs (plV m.V t.a2) (plV m.V t.a0) p:Int):Rat),QR ((crs (plV m.V t.a0) (plV m.V t.a1) p:Int):Rat)⟩:=by
 obtain⟨h0,h1,h2,_⟩:=h.t _ ht;have q0:=(Gg h.ok h0).1;have q1:=(Gg h.ok h1).1;have q2:=(Gg h.ok h2).1;obtain⟨a,ea,ha⟩:=Fu h0;obtain⟨b,eb,hb⟩:=Fu h1;obtain⟨c,ec,hc⟩:=Fu h2;have pa:∀{k:Nat} (hk:k<m.V.length),As m.V[k]=some (plV m.V (k:Int)):=fun hk=>by rw[Yh hk];rfl
 unfold Lm;rw[ea,eb,ec,Am ha,Ad,Am hb,Ad,Am hc,Ad,pa ha,Ad,pa hb,pa hc];rw[ea] at q0;rw[eb] at q1;rw[ec] at q2;rw[At_Q q0,Ad,Ad,At_Q q1,Ad,Ad,At_Q q2,Ad];generalize plV m.V (a:Int)=A at *;generalize plV m.V (b:Int)=B at *;generalize plV m.V (c:Int)=C at *;have all:∀{u v w:Ab},okP u->okP v->okP w->∀z∈[u.X,u.Y,v.X,v.Y,w.X,w.Y],-268435456<=z/\z<=268435456:=fun hu hv hw z hz=>by
  unfold okP at hu hv hw;simp only[mem_cons,not_mem_nil,or_false] at hz;omega
 rw[App (all hp q1 q2),Ad,App (all q0 hp q2),Ad,App (all q0 q1 hp),Ad];have r1:crs p B C=crs B C p:=by unfold crs;grind
 have r2:crs A p C=crs C A p:=by unfold crs;grind
 show some (⟨QR ((crs p B C:Int):Rat),QR ((crs A p C:Int):Rat),QR ((crs A B p:Int):Rat)⟩:Sr)=_;rw[r1,r2]
theorem Aj5{p:Ab}(hp:okP p){t:Ag}(ht:t∈m.T)(b:Bool)(f:Av->Int)(hf:∀ z,f z=if b=true then z.Hi else z.Lo):
  Ib m t ⟨QR (p.X:Rat),QR (p.Y:Rat)⟩ b=some (QR (((wsum m.V p t f:Int):Rat)/((Pg m.V t:Int):Rat))):=by
 obtain⟨h0,h1,h2,hpos⟩:=h.t _ ht;obtain⟨q0,z0⟩:=Gg h.ok h0;obtain⟨q1,z1⟩:=Gg h.ok h1;obtain⟨q2,z2⟩:=Gg h.ok h2;have hs:=Alx (plV m.V t.a0) (plV m.V t.a1) (plV m.V t.a2) p;have b0:=Hd q1 q2 hp;have b1:=Hd q2 q0 hp;have b2:=Hd q0 q1 hp;have b3:=Hd q0 q1 q2;unfold Pg at hpos;unfold Ib;rw[Aty h hp ht,Ad,show Cb 0=some (QR ((0:Int):Rat)) from Aci oo oo,Ad,Ad];unfold wsum Pg;obtain⟨a,ea,ha⟩:=Fu h0;obtain⟨b',eb,hb⟩:=Fu h1;obtain⟨c,ec,hc⟩:=Fu h2;have hh:∀{k:Nat} (hk:k<m.V.length),Ef m.V[k] b=some (f (zV m.V (k:Int))):=fun hk=>by
  unfold Ef;rw[Aiw hk,hf];cases b <;> rfl
 rw[<-hs];rw[<-hs] at hpos b3;have f0:-268435456<=f (zV m.V t.a0)/\f (zV m.V t.a0)<=268435456:=by rw[hf];split <;> omega
 have f1:-268435456<=f (zV m.V t.a1)/\f (zV m.V t.a1)<=268435456:=by rw[hf];split <;> omega
 have f2:-268435456<=f (zV m.V t.a2)/\f (zV m.V t.a2)<=268435456:=by rw[hf];split <;> omega
 have k0:=hh ha;have k1:=hh hb;have k2:=hh hc;rw[<-ea] at k0;rw[<-eb] at k1;rw[<-ec] at k2;have i0:idx m.V t.a0=some m.V[a]:=by rw[ea];exact Am ha
 have i1:idx m.V t.a1=some m.V[b']:=by rw[eb];exact Am hb
 have i2:idx m.V t.a2=some m.V[c]:=by rw[ec];exact Am hc
 rw[i0,Ad,k0,Ad];generalize f (zV m.V t.a0)=v0 at *;rw[Aci oo oo,Ad];generalize crs (plV m.V t.a1) (plV m.V t.a2) p=w0 at *;generalize crs (plV m.V t.a2) (plV m.V t.a0) p=w1 at *;generalize crs (plV m.V t.a0) (plV m.V t.a1) p=w2 at *;have m0:=mulB (x:=w0) (y:=v0) (M:=576460752303423488) (N:=268435456) oo oo oo oo oo;dsimp only;rw[mulI (by rw[pow8];omega) (by rw[pow8];omega),Ad,addI (by rw[pow8];omega) (by rw[pow8];omega),Ad,addI (by rw[pow8];omega) (by rw[pow8];omega),Ad,i1,Ad,k1,Ad];generalize f (zV m.V t.a1)=v1 at *;have m1:=mulB (x:=w1) (y:=v1) (M:=576460752303423488) (N:=268435456) oo oo oo oo oo;rw[Aci oo oo,Ad,mulI (by rw[pow8];omega) (by rw[pow8];omega),Ad,addI (by rw[pow8];omega) (by rw[pow8];omega),Ad,addI (by rw[pow8];omega) (by rw[pow8];omega),Ad,i2,Ad,k2,Ad];generalize f (zV m.V t.a2)=v2 at *;have m2:=mulB (x:=w2) (y:=v2) (M:=576460752303423488) (N:=268435456) oo oo oo oo oo;rw[Aci oo oo,Ad,mulI (by rw[pow8];omega) (by rw[pow8];omega),Ad,addI (by rw[pow8];omega) (by rw[pow8];omega),Ad,addI (by rw[pow8];omega) (by rw[pow8];omega),Ad];have e1:0+w0*v0+w1*v1+w2*v2=w0*v0+w1*v1+w2*v2:=oo;have e2:0+w0+w1+w2=w0+w1+w2:=oo;rw[e1,e2];have hne:((w0+w1+w2:Int):Rat)≠0:=fun e=>by
  rw[show (0:Rat)=((0:Int):Rat) from rfl,Rat.intCast_inj] at e;omega
 rw[Bey (Sml.int (k:=8) (by rw[pow8];omega) oo) (Sml.int (k:=8) (by rw[pow8];omega) oo) oo hne,Ad]
end
section
open Go.Sort
theorem Aji{m:Ak}(h1:m.V.length<=1000000)(h2:m.T.length<=100000000)(h3:m.Lines=[]):Ka m m=some true:=by
 have e1:lfix (Dx m m) 0=some (.inl ()):=by
  rw[Wd (β:=Unit) (γ:=Bool) m.V (fun _=>true) (Dx m m) () false (fun j hj=>?_) ?_]
  .simp
  .unfold Dx;rw[if_neg oo]
  .unfold Dx;rw[if_pos oo,Am hj,Ad,Ad,if_pos s_,if_pos rfl,w1 hj oo]
 have e2:lfix (Di m m) 0=some (.inl ()):=by
  rw[Wd (β:=Unit) (γ:=Bool) m.T (fun _=>true) (Di m m) () false (fun j hj=>?_) ?_]
  .simp
  .unfold Di;rw[if_neg oo]
  .unfold Di;rw[if_pos oo,Am hj,Ad,Ad,if_pos s_,if_pos rfl,w1 hj oo]
 have e3:lfix (Jf m) 0=some ():=by
  rw[Ay];unfold Jf;rw[if_neg (by rw[h3];simp)]
 unfold Ka;rw[jn_d,if_pos rfl,if_pos rfl,decide_eq_true rfl];dsimp only;rw[if_neg s_,jn_d,e1,Ad];dsimp only;rw[jn_d,e2,Ad];dsimp only;rw[jn_d,e3,Ad]
theorem Aj6{v:List Ae}{T:List Ag}(hn:v.length<=1024)(h:Vh v T):T.length<=1048576:=by
 have hsq:=Af0 hn;have:=Ad5 (fun t ht=>(h.mem t).1 ht) h.nd;omega
end
theorem Apq{α γ:Type}(l:List α)(p:α->Bool)(g:Nat->γ)(B:Int->Option (Sum Int (Sum Unit γ)))(h1:∀ (j:Nat) (h:j<l.length),B j=if p l[j]=true then some (.inr (.inr (g j))) else some (.inl ((j+1:Nat):Int)))(h2:B l.length=some (.inr (.inl ()))):
  lfix B 0=some (match l.findIdx? p with|some i=>.inr (g i)|none=>.inl ()):=by
 have key:∀(m k:Nat),k<=l.length->l.length-k=m->(∀j (hj:j<l.length),j<k->p l[j]=false)->lfix B k=some (match l.findIdx? p with|some i=>.inr (g i)|none=>.inl ()):=by
  intro m
  induction m with
  |zero=>
   intro k hk hm hf;obtain rfl:k=l.length:=oo;rw[Ay,h2];have:l.findIdx? p=none:=by
    rw[List.findIdx?_eq_none_iff];intro x hx;obtain⟨j,hj,rfl⟩:=getElem_of_mem hx;exact hf j hj hj
   rw[this]
  |succ m ih=>
   intro k hk hm hf;have hlt:k<l.length:=oo;rw[Ay,h1 k hlt]
   by_cases hp:p l[k]=true
   ·rw[if_pos hp];have:l.findIdx? p=some k:=by
     rw[List.findIdx?_eq_some_iff_getElem];exact⟨hlt,hp,fun j hj=>by rw[hf j oo hj];simp⟩
    rw[this]
   .rw[if_neg hp];refine ih (k+1) oo oo fun j hj hjk=>?_
    by_cases e:j=k
    .subst e;exact Bool.eq_false_iff.2 hp
    .exact hf j hj oo
 exact key l.length 0 (Nat.zero_le _) rfl (fun j _ h=>absurd h oo)
structure Ac2(m:Ak):Prop where
 msh:Msh m
 chk:Kx m=some 0
theorem Ah8{L:List Aa}(hL:X.Fit L)(ha:Hc L){m:Ak}(hv:m.V=vxL L)(hl:m.Lines=[])(ht:Vh (vxL L) m.T):Ac2 m:=by
 have hm:=Aiz hL hv ht;refine⟨hm,?_⟩;rcases Afc hL with⟨e,_⟩|⟨_,g⟩
 .obtain⟨T,t1,t2,t3⟩:=Aej e;have hn:=hL.n;have hlen:(vxL L).length<=1024:=by unfold vxL;rw[length_map];exact hn
  have hT:=Aj6 hlen ht;have em:(⟨vxL L,T,[]⟩:Ak)=m:=by
   obtain⟨V,T',Ls⟩:=m;dsimp only at hv hl ht;rw[hv,hl,t3.unique ht]
  unfold Kx;rw[hv,hl,t1,Ad,jn_d];dsimp only;rw[if_pos rfl,em,Aji (by have:=hm.n;omega) oo hl,Ad];rfl
 .exact absurd ha g
section
variable {m:Ak}(h:Msh m)
include h
theorem Bc3{p:Ab}(hp:okP p){t:Ag}(ht:t∈m.T):Td m t p=some (covT m.V p t):=by
 obtain⟨h0,h1,h2,_⟩:=h.t _ ht;have q0:=(Gg h.ok h0).1;have q1:=(Gg h.ok h1).1;have q2:=(Gg h.ok h2).1;obtain⟨a,ea,ha⟩:=Fu h0;obtain⟨b,eb,hb⟩:=Fu h1;obtain⟨c,ec,hc⟩:=Fu h2;have pa:∀{k:Nat} (hk:k<m.V.length),As m.V[k]=some (plV m.V (k:Int)):=fun hk=>by rw[Yh hk];rfl
 have sg:∀z:Int,Int.sign z<0↔¬0<=z:=fun z=>by
  rw[Int.sign_neg_iff];omega
 have st:∀ (j:Nat) (u v:Nat),u<m.V.length->v<m.V.length->idx [t.a0,t.a1,t.a2] (j:Int)=some (u:Int)->idx [t.a0,t.a1,t.a2] (Int.tmod (w64 ((j:Int)+1)) 3)=some (v:Int)->j<3->okP (plV m.V (u:Int))->okP (plV m.V (v:Int)) ->
   Cz t m p (j:Int)=if 0<=crs (plV m.V (u:Int)) (plV m.V (v:Int)) p then some (.inl ((j+1:Nat):Int)) else some (.inr (.inr false)):=fun j u v hu hv e1 e2 hj o1 o2=>by
  unfold Cz;rw[if_pos oo,e1,Ad,Am hu,Ad,e2,Ad,Am hv,Ad,pa hu,Ad,pa hv,Ad,Aab o1 o2 hp,Ad,Au oo]
  by_cases c:0<=crs (plV m.V (u:Int)) (plV m.V (v:Int)) p
  .rw[if_pos c,if_neg (by rw[sg];omega)]
  .rw[if_neg c,if_pos ((sg _).2 c)]
 rw[ea] at q0;rw[eb] at q1;rw[ec] at q2;have t3:∀{k:Nat},k<3->∃u v:Nat,idx [t.a0,t.a1,t.a2] (k:Int)=some (u:Int)/\idx [t.a0,t.a1,t.a2] (Int.tmod (w64 ((k:Int)+1)) 3)=some (v:Int)/\((k=0/\u=a/\v=b)\/(k=1/\u=b/\v=c)\/(k=2/\u=c/\v=a)):=fun {k} hk=>by
  rw[ea,eb,ec,Au oo];rcases (by omega:k=0\/k=1\/k=2) with rfl|rfl|rfl
  .exact⟨a,b,rfl,rfl,.inl ⟨rfl,rfl,rfl⟩⟩
  .exact⟨b,c,rfl,rfl,.inr (.inl ⟨rfl,rfl,rfl⟩)⟩
  .exact⟨c,a,rfl,rfl,.inr (.inr ⟨rfl,rfl,rfl⟩)⟩
 have s0:Cz t m p ((0:Nat):Int)=if 0<=crs (plV m.V (a:Int)) (plV m.V (b:Int)) p then some (.inl ((0+1:Nat):Int)) else some (.inr (.inr false)):=by
  obtain⟨u,v,e1,e2,g⟩:=t3 (show 0<3 by omega);obtain⟨rfl,rfl⟩:u=a/\v=b:=oo;exact st 0 u v ha hb e1 e2 oo q0 q1
 have s1:Cz t m p ((0+1:Nat):Int)=if 0<=crs (plV m.V (b:Int)) (plV m.V (c:Int)) p then some (.inl ((0+1+1:Nat):Int)) else some (.inr (.inr false)):=by
  obtain⟨u,v,e1,e2,g⟩:=t3 (show 0+1<3 by omega);obtain⟨rfl,rfl⟩:u=b/\v=c:=oo;exact st _ u v hb hc e1 e2 oo q1 q2
 have s2:Cz t m p ((0+1+1:Nat):Int)=if 0<=crs (plV m.V (c:Int)) (plV m.V (a:Int)) p then some (.inl ((0+1+1+1:Nat):Int)) else some (.inr (.inr false)):=by
  obtain⟨u,v,e1,e2,g⟩:=t3 (show 0+1+1<3 by omega);obtain⟨rfl,rfl⟩:u=c/\v=a:=oo;exact st _ u v hc ha e1 e2 oo q2 q0
 have s3:Cz t m p ((0+1+1+1:Nat):Int)=some (.inr (.inl ())):=by
  unfold Cz;rw[if_neg oo]
 unfold Td covT;rw[jn_d,ea,eb,ec];show bnd (lfix (Cz t m p) ((0:Nat):Int)) _=_
 by_cases c0:0<=crs (plV m.V (a:Int)) (plV m.V (b:Int)) p
 .by_cases c1:0<=crs (plV m.V (b:Int)) (plV m.V (c:Int)) p
  .by_cases c2:0<=crs (plV m.V (c:Int)) (plV m.V (a:Int)) p
   .rw[if_pos c0] at s0;rw[if_pos c1] at s1;rw[if_pos c2] at s2;rw[Ay,s0];dsimp only;rw[Ay,s1];dsimp only;rw[Ay,s2];dsimp only;rw[Ay,s3];simp[Ad,c0,c1,c2]
   .rw[if_pos c0] at s0;rw[if_pos c1] at s1;rw[if_neg c2] at s2;rw[Ay,s0];dsimp only;rw[Ay,s1];dsimp only;rw[Ay,s2];simp[Ad,c2]
  .rw[if_pos c0] at s0;rw[if_neg c1] at s1;rw[Ay,s0];dsimp only;rw[Ay,s1];simp[Ad,c1]
 .rw[if_neg c0] at s0;rw[Ay,s0];simp[Ad,c0]
end
theorem Alj{m:Ak}(h:Ac2 m){p:Ab}(hp:okP p):Jj m p=some (match locT m.V m.T p with|some i=>((i:Int),0)|none=>(0,65)):=by
 unfold Jj;rw[h.chk,Ad,if_pos rfl,Asc,Ad,decide_eq_true hp,if_pos rfl,jn_d];have hl:=h.msh.len;have e:=Apq m.T (covT m.V p) (fun i=>((i:Int),(0:Int))) (Ll m p) (fun j hj=>by
  unfold Ll;rw[if_pos oo,Am hj,Ad,Bc3 h.msh hp (getElem_mem hj),Ad,Au oo]) (by
  unfold Ll;rw[if_neg oo])
 rw[e,Ad];unfold locT;cases m.T.findIdx? (covT m.V p) <;> rfl
theorem Ah9{m:Ak}(h:Ac2 m){p:Ab}(hp:okP p):Gi m p=some (match locT m.V m.T p with|some i=>(match idx m.T (i:Int) with|some t=>(bndT m.V p t,0)|none=>(⟨0,0⟩,0))|none=>(⟨0,0⟩,65)):=by
 unfold Gi Rh;rw[Alj h hp,Ad];cases e:locT m.V m.T p with
 |none=>rfl
 |some i=>
  have e':=e;unfold locT at e';rw[List.findIdx?_eq_some_iff_getElem] at e';obtain⟨hi,hc,_⟩:=e';have ht:=getElem_mem hi;obtain⟨h0,h1,h2,hpos⟩:=h.msh.t _ ht;have hb:=Abz h.msh ht hc;dsimp only;rw[if_pos rfl,Am hi,Ad,Ad,At_Q hp,Ad,Aj5 h.msh hp ht false (·.Lo) (fun z=>s_),Ad,Ad,Aj5 h.msh hp ht true (·.Hi) (fun z=>s_),Ad,Ad];dsimp only;rw[if_pos rfl];unfold bndT at hb⊢;dsimp only at hb;have hd:∀z:Int,-((z:Rat)/((Pg m.V m.T[i]:Int):Rat))=((-z:Int):Rat)/((Pg m.V m.T[i]:Int):Rat):=fun z=>by
   rw[Rat.div_def,Rat.div_def,<-Rat.neg_mul,Rat.intCast_neg]
  have fl:=fun z=>Atx (S:=z) hpos
  have hw:wsum m.V p m.T[i] (·.Lo)<=wsum m.V p m.T[i] (·.Hi):=by
   obtain⟨_,z0⟩:=Gg h.msh.ok h0;obtain⟨_,z1⟩:=Gg h.msh.ok h1;obtain⟨_,z2⟩:=Gg h.msh.ok h2;unfold covT at hc;rw[decide_eq_true_eq] at hc;unfold wsum;dsimp only;have c0:=Int.mul_le_mul_of_nonneg_left z0.2.1 hc.2.1;have c1:=Int.mul_le_mul_of_nonneg_left z1.2.1 hc.2.2;have c2:=Int.mul_le_mul_of_nonneg_left z2.2.1 hc.1;omega
  have big:∀f:Av->Int,(∀z:Av,-268435456<=z.Lo->z.Lo<=z.Hi->z.Hi<=268435456->-268435456<=f z/\f z<=268435456)->(wsum m.V p m.T[i] f).natAbs<65536^8:=fun f hf=>by
   obtain⟨q0,z0⟩:=Gg h.msh.ok h0;obtain⟨q1,z1⟩:=Gg h.msh.ok h1;obtain⟨q2,z2⟩:=Gg h.msh.ok h2;have f0:=hf _ z0.1 z0.2.1 z0.2.2;have f1:=hf _ z1.1 z1.2.1 z1.2.2;have f2:=hf _ z2.1 z2.2.1 z2.2.2;have b0:=Hd q1 q2 hp;have b1:=Hd q2 q0 hp;have b2:=Hd q0 q1 hp;have m0:=mulB (M:=576460752303423488) (N:=268435456) oo b0.1 b0.2 f0.1 f0.2;have m1:=mulB (M:=576460752303423488) (N:=268435456) oo b1.1 b1.2 f1.1 f1.2;have m2:=mulB (M:=576460752303423488) (N:=268435456) oo b2.1 b2.2 f2.1 f2.2;unfold wsum;rw[pow8];omega
  have hA8:(Pg m.V m.T[i]).natAbs<65536^8:=by
   have:=Hd (Gg h.msh.ok h0).1 (Gg h.msh.ok h1).1 (Gg h.msh.ok h2).1;unfold Pg;rw[pow8];omega
  have hne:((Pg m.V m.T[i]:Int):Rat)≠0:=fun e=>by
   rw[show (0:Rat)=((0:Int):Rat) from rfl,Rat.intCast_inj] at e;omega
  have s1:=big (·.Lo) (fun z a b c=>by constructor <;> omega);have s2:=big (·.Hi) (fun z a b c=>by constructor <;> omega);have x1:Sml 16 (((wsum m.V p m.T[i] (·.Lo):Int):Rat)/((Pg m.V m.T[i]:Int):Rat)):=Sml.div (Sml.int s1 oo) (Sml.int hA8 oo) hne;have x2:Sml 16 (((wsum m.V p m.T[i] (·.Hi):Int):Rat)/((Pg m.V m.T[i]:Int):Rat)):=Sml.div (Sml.int s2 oo) (Sml.int hA8 oo) hne;have hpos':(0:Rat)<((Pg m.V m.T[i]:Int):Rat):=Rat.intCast_pos.2 hpos;have hxy:¬((wsum m.V p m.T[i] (·.Hi):Int):Rat)/((Pg m.V m.T[i]:Int):Rat)<((wsum m.V p m.T[i] (·.Lo):Int):Rat)/((Pg m.V m.T[i]:Int):Rat):=fun hlt=>by
   rw[Rat.div_lt_iff hpos',Rat.div_mul_cancel hne,Rat.intCast_lt_intCast] at hlt;omega
  have e2:(if ((wsum m.V p m.T[i] (·.Lo):Int):Rat)/((Pg m.V m.T[i]:Int):Rat)<((wsum m.V p m.T[i] (·.Hi):Int):Rat)/((Pg m.V m.T[i]:Int):Rat) then ((wsum m.V p m.T[i] (·.Hi):Int):Rat)/((Pg m.V m.T[i]:Int):Rat) else ((wsum m.V p m.T[i] (·.Lo):Int):Rat)/((Pg m.V m.T[i]:Int):Rat))=((wsum m.V p m.T[i] (·.Hi):Int):Rat)/((Pg m.V m.T[i]:Int):Rat):=by
   split
   .rfl
   .rename_i hlt;exact Rat.le_antisymm (Rat.not_lt.1 hxy) (Rat.not_lt.1 hlt)
  have ar:=Awk x1 x2 oo (by rw[if_neg hxy,fl];omega) (by rw[e2,hd,fl];omega);rw[if_neg hxy,e2,hd,fl,fl] at ar;rw[ar,Ad]
theorem Alk{a b:Av}(ha:-268435456<=a.Lo/\a.Lo<=a.Hi/\a.Hi<=268435456)(hb:-268435456<=b.Lo/\b.Lo<=b.Hi/\b.Hi<=268435456):Ex a b=some (gapI a b):=by
 have hv:∀{c:Av},-268435456<=c.Lo/\c.Lo<=c.Hi/\c.Hi<=268435456->Km c=some true:=fun hc=>by
  unfold Km;rw[jn_d,if_pos oo,if_pos oo,decide_eq_true oo]
 unfold Ex Us;rw[jn_d,hv ha,Ad,if_pos rfl,hv hb,Ad];dsimp only;rw[if_neg s_,Ad,Aq oo oo];unfold gapI;dsimp only;congr 1;omega
theorem dig8{z:Int}(h:z.natAbs<65536^8):(dig 65536 z.natAbs).length<=8:=Ec h
theorem Awl{a b:Int}(ha:a.natAbs<65536^8)(hb:b.natAbs<65536^8):Bc (Z16 a) (Z16 b)=some (Z16 (a*b)):=Ajv (by have:=dig8 ha;have:=dig8 hb;omega)
theorem Bez{a b:Int}(ha:a.natAbs<65536^8)(hb:b.natAbs<65536^8):Cs (Z16 a) (Z16 b)=some (Int.sign (a-b)):=by
 unfold Cs;rw[Ali,Ad,Bbx (by have:=dig8 ha;omega) (by have:=dig8 (z:=-b) (by rw[Int.natAbs_neg];exact hb);omega),Ad,Awi,Ad,Int.sub_eq_add_neg]
section
variable {m:Ak}(h:Msh m){p:Aa}(hp:X.okPt p=true){r:Af}(hr:X.okRules r=true)
include h hp hr
theorem Abq{k:Int}(hk:inN m.V.length k)(R:Option (Bool × Int × Int)):
  (bnd (idx m.V k) fun x32=>
   bnd (Bu (⟨0,x32.X,x32.Y,(⟨0,0⟩:Av),0,0,0,0⟩:Aa) p) fun r45=>
   bnd (Ex p.Z x32.Z) fun r48=>
   bnd (Bd r48) fun r51=>
   jn (fun (s21:Bool×LI)=>
   bnd (Bd (w64 (r.Slope*r.Slope))) fun r136=>
   bnd (Bd r45) fun r141=>
   bnd (Bc r136 r141) fun r150=>
   bnd (Cs (⟨s21.1,s21.2⟩:Ai) r150) fun r159=>
   if 0<r159 then (some (false,0,0))
   else R)
   (fun j21=>bnd (Bd 1000000) fun r57=>
   bnd (Bc r57 r51) fun r66=>
   bnd (Bc r66 r51) fun r75=>
   j21 (r75.Neg,r75.L)))=if Nl m.V r p k=true then R else some (false,0,0):=by
 have hrr:=X.okRules_rng hr;have hpp:=X.okPt_rng hp;unfold Nl;have hz:=Gg h.ok hk;obtain⟨n,rfl,hn⟩:=Fu hk;rw[Aiw hn,Yh hn] at hz ⊢;obtain⟨z1,z2⟩:=hz;obtain⟨_,g2,g3⟩:=Aiy (a:=p.Z) (b:=m.V[n].Z) oo z2;have ap:Bu (⟨0,m.V[n].X,m.V[n].Y,(⟨0,0⟩:Av),0,0,0,0⟩:Aa) p=some ((p.X-(pP m.V[n]).X)*(p.X-(pP m.V[n]).X)+(p.Y-(pP m.V[n]).Y)*(p.Y-(pP m.V[n]).Y)) /\
   0<=(p.X-(pP m.V[n]).X)*(p.X-(pP m.V[n]).X)+(p.Y-(pP m.V[n]).Y)*(p.Y-(pP m.V[n]).Y)/\(p.X-(pP m.V[n]).X)*(p.X-(pP m.V[n]).X)+(p.Y-(pP m.V[n]).Y)*(p.Y-(pP m.V[n]).Y)<=576460752303423488:=by
  unfold okP pP at z1;dsimp only at z1;obtain⟨a1,a2,a3,a4⟩:=X.sq_w (a:=m.V[n].X) (b:=p.X) oo oo;obtain⟨b1,b2,b3,b4⟩:=X.sq_w (a:=m.V[n].Y) (b:=p.Y) oo oo;have s1:(p.X-(pP m.V[n]).X)*(p.X-(pP m.V[n]).X)=(m.V[n].X-p.X)*(m.V[n].X-p.X):=by unfold pP;dsimp only;grind
  have s2:(p.Y-(pP m.V[n]).Y)*(p.Y-(pP m.V[n]).Y)=(m.V[n].Y-p.Y)*(m.V[n].Y-p.Y):=by unfold pP;dsimp only;grind
  rw[s1,s2];refine⟨?_,oo,oo⟩;unfold Bu;dsimp only;rw[a1,b1,a2,b2,Aq oo oo]
 obtain⟨ap1,ap2,ap3⟩:=ap;rw[Am hn,Ad,ap1,Ad,Alk (a:=p.Z) oo z2,Ad];generalize (p.X-(pP m.V[n]).X)*(p.X-(pP m.V[n]).X)+(p.Y-(pP m.V[n]).Y)*(p.Y-(pP m.V[n]).Y)=e at *;generalize gapI p.Z m.V[n].Z=g at *;have ss:=mulB (x:=r.Slope) (y:=r.Slope) (M:=100000) (N:=100000) oo oo oo oo oo;have se:=mulB (x:=r.Slope*r.Slope) (y:=e) (M:=10000000000) (N:=576460752303423488) oo oo oo oo oo;have gg:=mulB (x:=1000000*g) (y:=g) (M:=1000000*536870912) (N:=536870912) oo oo oo oo oo;rw[Zi oo oo,Ad,jn_d,Zi oo oo,Ad,Awl (by rw[pow8];omega) (by rw[pow8];omega),Ad,Awl (by rw[pow8];omega) (by rw[pow8];omega),Ad];dsimp only;rw[Aq oo oo,Zi oo oo,Ad,Zi oo oo,Ad,Awl (by rw[pow8];omega) (by rw[pow8];omega),Ad];show bnd (Cs (Z16 (1000000*g*g)) (Z16 (r.Slope*r.Slope*e))) _=_;rw[Bez (by rw[pow8];omega) (by rw[pow8];omega),Ad];have e1:1000000*g*g=g*g*1000000:=by grind
 rw[e1];have sp:0<Int.sign (g*g*1000000-r.Slope*r.Slope*e)↔0<g*g*1000000-r.Slope*r.Slope*e:=X.sign_pos
 by_cases c:g*g*1000000<=r.Slope*r.Slope*e
 .rw[if_neg (by rw[sp];omega),if_pos (decide_eq_true c)]
 .rw[if_pos (by rw[sp];omega),if_neg (by simpa using c)]
end
theorem Awm{m:Ak}(h:Ac2 m){p:Aa}(hp:X.okPt p=true){r:Af}(hr:X.okRules r=true):
  Mu m p r=some (if (fitV m.V m.T r p).2.1=true then (true,(fitV m.V m.T r p).2.2,(fitV m.V m.T r p).1) else (false,0,0)):=by
 have hpp:=X.okPt_rng hp;have hq:=Yb hp;cases e:locT m.V m.T (X.plF p) with
 |none=>
  unfold Mu fitV;rw[show (⟨p.X,p.Y⟩:Ab)=X.plF p from rfl,Alj h hq,e,Ad];rfl
 |some i=>
  have e':=e;unfold locT at e';rw[List.findIdx?_eq_some_iff_getElem] at e';obtain⟨hi,hc,_⟩:=e';have ht:=getElem_mem hi;obtain⟨h0,h1,h2,_⟩:=h.msh.t _ ht;have hb:=Abz h.msh ht hc;have hB:Gi m (X.plF p)=some (bndT m.V (X.plF p) m.T[i],0):=by
   rw[Ah9 h hq,e];dsimp only;rw[Am hi]
  have hF:Jj m (X.plF p)=some ((i:Int),0):=by rw[Alj h hq,e]
  have hV:fitV m.V m.T r p=if r.Reach<gapI p.Z (bndT m.V (X.plF p) m.T[i]) then ((i:Int),false,0) else
    if Nl m.V r p m.T[i].a0=true/\Nl m.V r p m.T[i].a1=true/\Nl m.V r p m.T[i].a2=true then ((i:Int),true,gapI p.Z (bndT m.V (X.plF p) m.T[i])) else ((i:Int),false,0):=by
   unfold fitV;rw[e];dsimp only;rw[Am hi]
  rw[hV];unfold Mu;rw[show (⟨p.X,p.Y⟩:Ab)=X.plF p from rfl,hF,Ad];dsimp only;rw[if_pos rfl,hB,Ad,Am hi];dsimp only;rw[Alk (a:=p.Z) oo hb,Ad]
  by_cases c:r.Reach<gapI p.Z (bndT m.V (X.plF p) m.T[i])
  .rw[if_pos c,if_pos c];rfl
  .rw[if_neg c,if_neg c,Ad];refine (Abq h.msh hp hr h0 _).trans ?_
   by_cases g0:Nl m.V r p m.T[i].a0=true
   .rw[if_pos g0,Ad];refine (Abq h.msh hp hr h1 _).trans ?_
    by_cases g1:Nl m.V r p m.T[i].a1=true
    .rw[if_pos g1,Ad];refine (Abq h.msh hp hr h2 _).trans ?_
     by_cases g2:Nl m.V r p m.T[i].a2=true
     .rw[if_pos g2];simp[g0,g1,g2]
     .rw[if_neg g2];simp[g2]
    .rw[if_neg g1];simp[g1]
   .rw[if_neg g0];simp[g0]
end Go.Proofs.YthlkpgdfifnagaaGreat
