import Derived.Test.YthlkpgdfifnagaaGreatI0
namespace Go.Proofs.YthlkpgdfifnagaaGreat
open Go Go.RowKit List
theorem Ay0(a b:Nat):Int.tdiv (a:Int) (b:Int)=((a/b:Nat):Int):=(Int.ofNat_tdiv a b).symm
theorem Bgy(a b:Nat):Int.tmod (a:Int) (b:Int)=((a%b:Nat):Int):=(Int.ofNat_tmod a b).symm
theorem Vm{b:Nat}(l:LM)(k:Nat)(h:k<l.length):val b (l.drop k)=l[k]+b*val b (l.drop (k+1)):=by
 rw[drop_eq_getElem_cons h];rfl
theorem Ao3{B x H V:Nat}(hV:0<V):(x+B*H)/V=(H%V*B+x)/V+B*(H/V)/\(x+B*H)%V=(H%V*B+x)%V:=by
 have e:x+B*H=(H%V*B+x)+V*(B*(H/V)):=by
  have:=Nat.div_add_mod H V
  calc x+B*H=x+B*(V*(H/V)+H%V):=by rw[this]
   _=_:=by rw[Nat.mul_add,<-Nat.mul_assoc,Nat.mul_comm B V,Nat.mul_assoc,Nat.mul_comm B (H%V)];omega
 rw[e];exact⟨by rw[Nat.add_mul_div_left _ _ hV],by rw[Nat.add_mul_mod_self_left]⟩
theorem Am9{B x r V:Nat}(hx:x<B)(hr:r<V):r*B+x<V*B:=by
 have:(r+1)*B<=V*B:=Nat.mul_le_mul_right _ hr;rw[Nat.succ_mul] at this;omega
theorem Atl{r x:Nat}(hr:r<65536)(hx:x<65536):w64 (w64 ((r:Int)*65536)+(x:Int))=((r*65536+x:Nat):Int):=by
 rw[show ((r:Nat):Int)*65536=((r*65536:Nat):Int) by omega,Si oo,<-Int.natCast_add,Si oo]
theorem Atm(l:List Nat)(d:Nat)(hl:∀ x∈l,x<65536)(hd:0<d)(hd2:d<=65536)(h1:l.length<=1000000):
  Fp (nI l) (d:Int)=some (L16 (val 65536 l/d),((val 65536 l%d:Nat):Int)):=by
 obtain⟨t,ht,o,rfl,ho1,ho3,ho2⟩:=Ax (B:=Pi (nI l) (d:Int)) (fun s=>(s.2.2+1).toNat)
  (fun s=>∃(o:LM) (k:Nat),s=(nI o,((val 65536 (l.drop k)%d:Nat):Int),(k:Int)-1)/\o.length=l.length/\k<=l.length/\(∀x∈o,x<65536)/\val 65536 (o.drop k)=val 65536 (l.drop k)/d)
  (fun t=>∃o:LM,t=(nI o,((val 65536 l%d:Nat):Int))/\(∀x∈o,x<65536)/\o.length<=1000000/\val 65536 o=val 65536 l/d) (by
   rintro s ⟨o,k,rfl,hC1,hC2,hC3,hC4⟩;unfold Pi
   by_cases hk:k=0
   .right;subst hk;exact⟨_,by simp only[];rw[iN oo],o,by rw[drop_zero],hC3,oo,sV hC4⟩
   .left;have h1':k-1<l.length:=oo;have h2':k-1<o.length:=oo;have hx:=hl _ (gM h1');have hr:val 65536 (l.drop k)%d<d:=Nat.mod_lt _ hd;have e:val 65536 (l.drop (k-1))=l[k-1]+65536*val 65536 (l.drop k):=by rw[Vm l (k-1) h1',show k-1+1=k by omega]
    obtain⟨e1,e2⟩:=Ao3 (B:=65536) (x:=l[k-1]) (H:=val 65536 (l.drop k)) hd;have hlt:=Am9 hx hr;have hq:(val 65536 (l.drop k)%d*65536+l[k-1])/d<65536:=Nat.div_lt_of_lt_mul oo;refine⟨(nI (o.set (k-1) ((val 65536 (l.drop k)%d*65536+l[k-1])/d)),((val 65536 (l.drop (k-1))%d:Nat):Int),((k-1:Nat):Int)-1),?_,⟨_,k-1,rfl,by simp[hC1],oo,?_,?_⟩,by simp;omega⟩
    ·simp only[];rw[if_pos oo,show ((k:Int)-1)=((k-1:Nat):Int) from by omega,Dh h1',Ac,gd_t oo,Dh h2',Ac,gd_t oo];have e3:=Atl (r:=val 65536 (l.drop k) % d) (x:=l[k-1]) (Nat.lt_of_lt_of_le hr hd2) hx;have e4:w64 (((k-1:Nat):Int)-1)=((k-1:Nat):Int)-1:=by
      clear e e1 e2 e3 hlt hq hr hx hC4 hC3;exact Aq oo oo
     rw[e3,Ay0,Bgy,Si (Nat.le_trans (Nat.le_of_lt hq) dD),Yc,e,e2,e4]
    .intro x hx';rcases mem_or_eq_of_mem_set hx' with h|rfl
     .exact hC3 x h
     .exact hq
    .rw[Vm _ _ (sV h2'),getElem_set_self,show k-1+1=k by omega,drop_set_of_lt oo,hC4,e,e1])
  (nI (List.replicate l.length 0),0,(l.length:Int)-1) ⟨List.replicate l.length 0,l.length,by simp[val],s_,nL _,s_,by simp[val]⟩
 unfold Fp;simp only[jn_d,Cd,Int.toNat_natCast,Aar];rw[gd_t ⟨oo,oo⟩,Aq oo oo,ht,Ac];simp only[];rw[Afa _ oo,Ac,Yt oo o ho1,ho2];rfl
theorem Aju:∀{m:Nat},m≠0->65536^((dig 65536 m).length-1)<=m:=by
 intro m
 induction m using Nat.strongRecOn with
 |_ m ih=>
  intro h0;rw[Tl oo h0,length_cons,Nat.add_sub_cancel]
  by_cases h1:m/65536=0
  .rw[h1,Sr];simp;omega
  .have h2:=ih (m/65536) oo h1;have h3:(dig 65536 (m/65536)).length≠0:=fun e=>h1 ((Ye oo).1 (length_eq_zero_iff.1 e))
   obtain⟨q,hq⟩:=Nat.exists_eq_succ_of_ne_zero h3;rw[hq] at h2⊢;rw[Nat.succ_sub_one] at h2;rw[Nat.succ_eq_add_one,Nat.pow_succ];generalize 65536^q=z at *;omega
theorem Aep(m:Nat):m<65536^(dig 65536 m).length:=by
 have:=Aga (b:=65536) (dig 65536 m) (Pp oo m)
 rwa [Cs oo] at this
theorem Ad6(l:LM)(k:Nat)(hk:k<=l.length):val 65536 l=val 65536 (l.take k)+65536^k*val 65536 (l.drop k):=by
 have:=Yu (b:=65536) (l.take k) (l.drop k)
 rwa [take_append_drop,length_take,Nat.min_eq_left hk] at this
theorem Ay1{l:LM}(hl:∀x∈l,x<65536)(k:Nat)(hk:k<=l.length):val 65536 (l.drop k)=val 65536 l/65536^k:=by
 have h1:=Ad6 l k hk;have h2:=Aga (b:=65536) (l.take k) (fun x hx=>hl x (mem_of_mem_take hx));rw[length_take,Nat.min_eq_left hk] at h2;rw[h1,Nat.add_mul_div_left _ _ (Nat.pow_pos oo),Nat.div_eq_of_lt h2,Nat.zero_add]
theorem Zd{m k:Nat}(hk:k<=(dig 65536 m).length):val 65536 ((dig 65536 m).drop k)=m/65536^k:=by
 rw[Ay1 (Pp oo m) k hk,Cs oo]
theorem Ana{m:Nat}(h0:m≠0):∃h:(dig 65536 m).length-1<(dig 65536 m).length,(dig 65536 m)[(dig 65536 m).length-1]=m/65536^((dig 65536 m).length-1)/\0<m/65536^((dig 65536 m).length-1):=by
 have h3:(dig 65536 m).length≠0:=fun e=>h0 ((Ye oo).1 (length_eq_zero_iff.1 e))
 have h1:=Zd (m:=m) (k:=(dig 65536 m).length-1) oo;refine⟨oo,?_,Nat.div_pos (Aju h0) (Nat.pow_pos oo)⟩;rw[<-h1,Vm _ _ oo,drop_eq_nil_of_le oo];simp[val]
theorem Agn{d:Nat}(h0:0<d)(h:d<65536):L16 d=[(d:Int)]:=by
 unfold L16;rw[Tl oo oo,Nat.mod_eq_of_lt h,Nat.div_eq_of_lt h,Sr];rfl
theorem Ay2{R V B vt m1:Nat}(hvt:0<vt)(hV:vt*B^m1<=V)(hB:0<B):R/V<=R/B^m1/vt:=by
 rw[Nat.div_div_eq_div_mul];have hp:0<B^m1:=Nat.pow_pos hB;exact Nat.div_le_div_left (by rw[Nat.mul_comm];exact hV) (Nat.mul_pos hp hvt)
theorem Zy{a:Nat}:(L16 a).length=(dig 65536 a).length:=Cd
theorem Anb{l:LM}(hl:∀x∈l,x<65536)(h:l.length<=1000000000):Bl (nI l)=some (L16 (val 65536 l)):=by
 rw[Afa l h,Yt oo l hl];rfl
theorem Ao4{R V:Nat}:R-V*(R/V)=R%V:=by have:=Nat.div_add_mod R V;omega
theorem Bfg{g:Nat}(h:0<g)(h9:g<=65535):w64 ((g:Int)-1)=((g-1:Nat):Int):=by rw[Aq oo oo];omega
theorem Bb6{g:Nat}(h:0<g):((g-1:Nat):Int).toNat<(g:Int).toNat:=oo
theorem Avo{R V g:Nat}(hg9:g<=65535)(hV:0<V)(hg:R / V<=g)(hl:(dig 65536 (V*g)).length<=1000000):
  lfix (Hr (L16 R) (L16 V)) ((g:Int),L16 (V*g))=some (((R/V:Nat):Int),L16 (V*(R/V))):=by
 obtain⟨t,ht,rfl⟩:=Ax (B:=Hr (L16 R) (L16 V)) (fun s=>s.1.toNat)
  (fun s=>∃g':Nat,s=((g':Int),L16 (V*g'))/\R/V<=g'/\g'<=g)
  (fun t=>t=(((R/V:Nat):Int),L16 (V*(R/V)))) (by
   rintro s ⟨g',rfl,h1,h2⟩;have hlen:(dig 65536 (V*g')).length<=1000000:=Nat.le_trans (Uc (Nat.mul_le_mul_left V h2)) hl;unfold Hr;simp only[];rw[Aw6 _ _ hlen,Ac]
   by_cases hc:R<V*g'
   .left;have hlt:R/V<g':=Nat.div_lt_of_lt_mul hc;have he:V*g'-V=V*(g'-1):=by rw[Nat.mul_sub,Nat.mul_one]
    have hpos:0<g':=Nat.lt_of_le_of_lt (Nat.zero_le _) hlt;have hge:V<=V*g':=Nat.le_mul_of_pos_right V hpos;refine⟨(((g'-1:Nat):Int),L16 (V*(g'-1))),?_,⟨g'-1,rfl,Nat.le_sub_one_of_lt hlt,Nat.le_trans (Nat.sub_le _ _) h2⟩,Bb6 hpos⟩;rw[iP (by unfold cmpN;rw[iN oo,iN oo];decide),Amf hlen hge,Ac,he];rw[Bfg hpos (Nat.le_trans h2 hg9)]
   .right;have hle:g'<=R/V:=(Nat.le_div_iff_mul_le hV).2 (by rw[Nat.mul_comm];omega);obtain rfl:g'=R/V:=Nat.le_antisymm hle h1;exact⟨_,by rw[iN (by unfold cmpN;split <;> (try split) <;> omega)],rfl⟩)
  ((g:Int),L16 (V*g)) ⟨g,rfl,hg,nL _⟩
 exact ht
theorem Avp{R V:Nat}(hV:V≠0)(hR:R<V*65536)(h9:(dig 65536 V).length<=100000):∃ g:Nat,R / V<=g/\g<=65535/\∀ {ρ:Type} (K:Int->Option ρ),
  (if ((((L16 V).length:Nat):Int))<=((((L16 R).length:Nat):Int)) then (bnd (idx (L16 R) (w64 (((((L16 R).length:Nat):Int))-1))) fun x259=>
   jn (fun (s44:Int)=>
   bnd (idx (L16 V) (w64 (((((L16 V).length:Nat):Int))-1))) fun x286=>
   gd (x286≠0)<|
   if 65536<=(w64 (Int.tdiv s44 x286)) then (K 65535)
   else (K (w64 (Int.tdiv s44 x286))))
   (fun j44=>if ((((L16 V).length:Nat):Int))<((((L16 R).length:Nat):Int)) then (bnd (idx (L16 R) (w64 (((((L16 R).length:Nat):Int))-2))) fun x272=>
   j44 (w64 ((w64 (x259*65536))+x272)))
   else (j44 x259)))
   else (K 0))=K (g:Int):=by
 simp only[Zy,jn_d];have hq:R/V<=65535:=by
  have:=Nat.div_lt_of_lt_mul hR;omega
 by_cases h:(dig 65536 V).length<=(dig 65536 R).length
 .obtain⟨hi,ht1,ht2⟩:=Ana hV;have hR0:R≠0:=fun e=>by rw[e,Sr] at h;simp at h;exact hV ((Ye oo).1 h)
  have hlenR:(dig 65536 R).length<=(dig 65536 V).length+1:=Ee (by
   rw[Nat.pow_succ];exact Nat.lt_trans hR (Nat.mul_lt_mul_of_pos_right (Aep V) oo))
  generalize hm:(dig 65536 V).length-1=m1 at *;have hvt:=Pp (b:=65536) oo V _ (getElem_mem hi);have hVlo:V / 65536 ^ m1*65536 ^ m1<=V:=Nat.div_mul_le_self _ _;have hg:=Ay2 (R:=R) (B:=65536) ht2 hVlo oo;rw[ht1] at hvt;have key:∀ s44:Nat,s44=R / 65536 ^ m1->s44<4294967296->∀ {ρ:Type} (K:Int->Option ρ),(bnd (idx (L16 V) (w64 ((((dig 65536 V).length:Nat):Int)-1))) fun x286=>
    gd (x286≠0) <| if 65536<=(w64 (Int.tdiv (s44:Int) x286)) then (K 65535) else (K (w64 (Int.tdiv (s44:Int) x286))))=K ((min (R/65536^m1/(V/65536^m1)) 65535:Nat):Int):=by
   intro s44 hs hs2 ρ K;have e:w64 ((((dig 65536 V).length:Nat):Int)-1)=((m1:Nat):Int):=by rw[Aq oo oo];omega
   rw[e,show idx (L16 V) ((m1:Nat):Int)=some ((V/65536^m1:Nat):Int) from by rw[<-ht1];exact Dh hi,Ac,gd_t oo,Ay0,<-hs];have h4:s44/(V/65536^m1)<=s44:=Nat.div_le_self _ _;generalize s44/(V/65536^m1)=z at *;rw[Si oo]
   by_cases hz:65536<=z
   .rw[iP oo,show min z 65535=65535 by omega];rfl
   .rw[iN oo,show min z 65535=z by omega]
  refine⟨min (R/65536^m1/(V/65536^m1)) 65535,oo,oo,fun K=>?_⟩;obtain⟨hj,hr1,hr2⟩:=Ana hR0;have hrt:=Pp (b:=65536) oo R _ (gM hj);rw[iP oo,show w64 ((((dig 65536 R).length:Nat):Int)-1)=(((dig 65536 R).length-1:Nat):Int) from by rw[Aq oo oo];omega,
   show idx (L16 R) (((dig 65536 R).length-1:Nat):Int)=some (((dig 65536 R)[(dig 65536 R).length-1]:Nat):Int) from Dh hj,Ac]
  by_cases h2:(dig 65536 V).length<(dig 65536 R).length
  ·have hl2:(dig 65536 R).length-2<(dig 65536 R).length:=oo;have hrt2:=Pp (b:=65536) oo R _ (getElem_mem hl2);rw[if_pos oo,show w64 ((((dig 65536 R).length:Nat):Int)-2)=(((dig 65536 R).length-2:Nat):Int) from by rw[Aq oo oo];omega,
    show idx (L16 R) (((dig 65536 R).length-2:Nat):Int)=some (((dig 65536 R)[(dig 65536 R).length-2]:Nat):Int) from Dh hl2,Ac,Atl hrt hrt2]
   refine key _ ?_ oo K;have hd:=Zd (m:=R) (k:=m1) oo;have e1:m1=(dig 65536 R).length-2:=oo;rw[<-hd,Vm _ _ (by omega:m1<_)];have hd2:=Zd (m:=R) (k:=m1+1) oo;rw[hd2,hr1];rw[show (dig 65536 R).length-1=m1+1 by omega];simp only[<-e1];omega
  .rw[iN oo];refine key _ ?_ oo K;rw[hr1,show (dig 65536 R).length-1=m1 by omega]
 ·refine⟨0,?_,oo,fun K=>by rw[if_neg oo];rfl⟩;have:R<V:=by
   rcases Nat.lt_or_ge R V with h'|h'
   .exact h'
   .exact absurd (Uc h') h
  rw[Nat.div_eq_of_lt this];exact nL _
theorem Ard{a f k:Nat}(ha:a<65536^k)(hf:f<=65536):a*f<65536^(k+1):=by
 rw[Nat.pow_succ];exact Nat.lt_of_le_of_lt (Nat.mul_le_mul_left a hf) (Nat.mul_lt_mul_of_pos_right ha oo)
theorem Aeq{a f:Nat}(hf:f<=65536):(dig 65536 (a*f)).length<=(dig 65536 a).length+1:=Ee (Ard (Aep a) hf)
theorem Bgz{τ ρ:Type}{K:τ->Option ρ}{X:(τ->Option ρ)->Option ρ}{v:τ}(h:∀j,X j=j v):jn K X=K v:=h K
theorem Ad7{g:Nat}(h:g<65536):(dig 65536 g).length<=1:=Ee oo
theorem Ay3{g:Nat}(h:g<65536):Bl [(g:Int)]=some (L16 g):=by
 have:=Anb (l:=[g]) (fun x hx=>by rw[mem_singleton.1 hx];exact h) s_;simpa[nI,val] using this
theorem Ay4{U V k:Nat}{q:List Nat}(hV:V≠0)(h9:(dig 65536 V).length<=100000)(hk:0<k)(hkq:k<=q.length)(hq9:q.length<=200000)(hU:k-1<(dig 65536 U).length):
  Dd (L16 U) (L16 V) (nI q,L16 (U/65536^k%V),(k:Int)-1)=some (.inl (nI (q.set (k-1) ((U/65536^k%V*65536+(dig 65536 U)[k-1])/V)),L16 ((U/65536^k%V*65536+(dig 65536 U)[k-1])%V),((k-1:Nat):Int)-1)):=by
 have hu:=Pp (b:=65536) oo U _ (gM hU);have hr:U/65536^k%V<V:=Nat.mod_lt _ (Nat.pos_of_ne_zero hV);have hR:=Am9 hu hr;have hlr:(dig 65536 (U/65536^k%V)).length<=100000:=Nat.le_trans (Uc (Nat.le_of_lt hr)) h9;generalize hu':(dig 65536 U)[k-1]=u at *;generalize hr':U/65536^k%V=r0 at *;have hlR:(dig 65536 (r0*65536+u)).length<=100001:=by
  have h1:=Uc (Nat.le_of_lt hR);have h2:=Aeq (a:=V) (f:=65536) (nL _);exact Nat.le_trans h1 (Nat.le_trans h2 (Nat.succ_le_succ h9))
 obtain⟨g,hg1,hg2,hg3⟩:=Avp (R:=r0*65536+u) hV hR h9;unfold Dd;simp only[];rw[iP oo,show ((k:Int)-1)=((k-1:Nat):Int) from by omega,show idx (L16 U) ((k-1:Nat):Int)=some ((u:Nat):Int) from by rw[<-hu'];exact Dh hU,Ac,
  gd_t (by rw[Zy];simp only[length_singleton];omega)]
 have et:Bl ([((u:Nat):Int)]++L16 r0)=some (L16 (r0*65536+u)):=by
  have:=Anb (l:=u::dig 65536 r0) (fun x hx=>by
   rcases mem_cons.1 hx with rfl|hx
   .exact hu
   .exact Pp oo r0 x hx) (by simp only[length_cons];omega)
  rw[show val 65536 (u::dig 65536 r0)=r0*65536+u from by show u+65536*val 65536 (dig 65536 r0)=_;rw[Cs oo];omega] at this;exact this
 rw[et,Ac,Bgz (fun j=>hg3 j)];have hVg:(dig 65536 (V*g)).length<=100002:=by
  have h2:=Aeq (a:=V) (f:=g) oo;exact Nat.le_trans h2 (Nat.le_trans (Nat.succ_le_succ h9) dD)
 rw[Ay3 oo,Ac,Ac9 (by have:=Ad7 (g:=g) oo;omega),Ac,jn_d,Avo hg2 (Nat.pos_of_ne_zero hV) hg1 oo,Ac];simp only[];rw[Amf oo (by rw[Nat.mul_comm];exact Nat.div_mul_le_self _ _),Ac,show idx (nI q) ((k-1:Nat):Int)=some ((q[k-1]:Nat):Int) from Dh oo,Ac,Yc,Ao4,
  show w64 (((k-1:Nat):Int)-1)=((k-1:Nat):Int)-1 from Aq oo oo]
theorem Ay5{U k:Nat}(hk:0<k)(hU:k-1<(dig 65536 U).length):U/65536^(k-1)=(dig 65536 U)[k-1]+65536*(U/65536^k):=by
 have h1:=Zd (m:=U) (k:=k-1) oo;have h2:=Zd (m:=U) (k:=k) oo;rw[Vm _ _ hU,show k-1+1=k by omega,h2] at h1;exact h1.symm
theorem Ay6{U V nq:Nat}(hV:V≠0)(h9:(dig 65536 V).length<=100000)(hq9:nq<=200000)(hU:nq<=(dig 65536 U).length)(h0:U / 65536 ^ nq<V):
  ∃q,lfix (Dd (L16 U) (L16 V)) (nI (List.replicate nq 0),L16 (U/65536^nq),(nq:Int)-1)=some (nI q,L16 (U%V))/\(∀x∈q,x<65536)/\q.length<=200000/\val 65536 q=U/V:=by
 obtain⟨t,ht,q,rfl,h1,h2,h3⟩:=Ax (B:=Dd (L16 U) (L16 V)) (fun s=>(s.2.2+1).toNat)
  (fun s=>∃(q:LM) (k:Nat),s=(nI q,L16 (U/65536^k%V),(k:Int)-1)/\q.length=nq/\k<=nq/\(∀x∈q,x<65536)/\val 65536 (q.drop k)=U/65536^k/V)
  (fun t=>∃q,t=(nI q,L16 (U%V))/\(∀x∈q,x<65536)/\q.length<=200000/\val 65536 q=U/V) (by
   rintro s ⟨q,k,rfl,hC1,hC2,hC3,hC4⟩
   by_cases hk:k=0
   .right;subst hk;refine⟨(nI q,L16 (U%V)),?_,q,rfl,hC3,oo,sV hC4⟩;unfold Dd;simp only[];rw[iN oo,Nat.pow_zero,Nat.div_one]
   .left;have hk':0<k:=Nat.pos_of_ne_zero hk;have hUk:k-1<(dig 65536 U).length:=oo;obtain⟨e1,e2⟩:=Ao3 (B:=65536) (x:=(dig 65536 U)[k-1]) (H:=U/65536^k) (Nat.pos_of_ne_zero hV);rw[<-Ay5 hk' hUk] at e1 e2;have hlt:(U/65536^k%V*65536+(dig 65536 U)[k-1])/V<65536:=Nat.div_lt_of_lt_mul (Am9 (Pp oo U _ (gM hUk)) (Nat.mod_lt _ (Nat.pos_of_ne_zero hV)));refine⟨_,Ay4 hV h9 hk' oo oo hUk,⟨_,k-1,by rw[e2],by simp[hC1],oo,fun x hx=>?_,?_⟩,by simp;omega⟩
    .rcases mem_or_eq_of_mem_set hx with h|rfl
     .exact hC3 x h
     .exact hlt
    .rw[Vm _ _ (by simp;omega),getElem_set_self,show k-1+1=k by omega,drop_set_of_lt oo,hC4,e1])
  (nI (List.replicate nq 0),L16 (U/65536^nq),(nq:Int)-1) ⟨List.replicate nq 0,nq,by rw[Nat.mod_eq_of_lt h0],s_,nL _,s_,by rw[Nat.div_eq_of_lt h0];simp[val]⟩
 exact⟨q,ht,h1,h2,h3⟩
theorem Afn{a b:Nat}(hb:b≠0)(ha9:(dig 65536 a).length<=90000)(hb9:(dig 65536 b).length<=90000):De (L16 a) (L16 b)=some (L16 (a/b),L16 (a%b)):=by
 unfold De;rw[Aw6 _ _ oo,Ac]
 by_cases hlt:a<b
 .rw[iP (by unfold cmpN;rw[iP hlt];decide),Nat.div_eq_of_lt hlt,Nat.mod_eq_of_lt hlt];rfl
 rw[iN (by unfold cmpN;rw[iN hlt];split <;> omega),Zy];obtain⟨hi,ht1,ht2⟩:=Ana hb
 by_cases h1:(dig 65536 b).length=1
 .rw[iP oo];have hb1:b<65536:=by have:=Aep b;rw[h1] at this;simpa using this
  rw[Agn oo hb1,show idx [(b:Int)] 0=some (b:Int) from rfl,Ac];have:=Atm (dig 65536 a) b (Pp oo a) oo oo oo;rw[Cs oo] at this;have hm:a%b<b:=Nat.mod_lt _ oo;rw[show Fp (L16 a) (b:Int)=_ from this,Ac];simp only[];rw[Aat oo oo,Ac];rfl
 .have hpos:(dig 65536 b).length≠0:=fun e=>hb ((Ye oo).1 (length_eq_zero_iff.1 e))
  rw[iN oo];have htop:=Pp (b:=65536) oo b _ (gM hi);rw[ht1] at htop;have htl:=Nat.div_mul_le_self b (65536^((dig 65536 b).length-1));have hbt:b<(b/65536^((dig 65536 b).length-1)+1)*65536^((dig 65536 b).length-1):=by
   have:=Nat.lt_div_mul_add (a:=b) (b:=65536^((dig 65536 b).length-1)) (Nat.pow_pos oo);rw[Nat.add_mul,Nat.one_mul];exact this
  rw[show w64 ((((dig 65536 b).length:Nat):Int)-1)=(((dig 65536 b).length-1:Nat):Int) from by rw[Aq oo oo];omega,
   show idx (L16 b) (((dig 65536 b).length-1:Nat):Int)=some ((b/65536^((dig 65536 b).length-1):Nat):Int) from by rw[<-ht1];exact Dh hi,Ac]
  generalize hm1:(dig 65536 b).length-1=m1 at *;generalize htp:b/65536^m1=tp at *;have ew:w64 ((tp:Int)+1)=((tp+1:Nat):Int):=As oo;rw[ew,gd_t oo,show Int.tdiv 65536 ((tp+1:Nat):Int)=((65536/(tp+1):Nat):Int) from Ay0 65536 (tp+1)];have hf1:0<65536/(tp+1):=Nat.div_pos oo oo;have hf2:65536/(tp+1)<=32768:=by
   have:=Nat.div_le_div_left (c:=2) (a:=65536) (oo:2<=tp+1) oo;omega
  have hf3:65536/(tp+1)*(tp+1)<=65536:=Nat.div_mul_le_self _ _;generalize hf:65536/(tp+1)=f at *;rw[Si oo,<-Agn hf1 oo];have hlf:=Ad7 (g:=f) oo;rw[Ac9 oo,Ac,Ac9 oo,Ac];have hUV:b*f<=a*f:=Nat.mul_le_mul_right f oo;have hVf:b*f≠0:=Nat.mul_ne_zero hb oo;have hlU:(dig 65536 (a*f)).length<=90001:=by
   have h2:=Aeq (a:=a) (f:=f) oo;exact Nat.le_trans h2 (Nat.succ_le_succ ha9)
  have hlVU:=Uc hUV;have hlV0:(dig 65536 (b*f)).length≠0:=fun e=>hVf ((Ye oo).1 (length_eq_zero_iff.1 e))
  have hlo:=Aju hVf;generalize hV:b*f=V at *;generalize hU:a*f=U at *;simp only[Zy];have e2:w64 (w64 ((((dig 65536 U).length:Nat):Int)-(((dig 65536 V).length:Nat):Int))+1)=(((dig 65536 U).length-(dig 65536 V).length+1:Nat):Int):=by
   rw[Aq (x:=(((dig 65536 U).length:Nat):Int)-(((dig 65536 V).length:Nat):Int)) oo oo,Aq oo oo];omega
  have e3:w64 ((((dig 65536 U).length:Nat):Int)-(((dig 65536 V).length:Nat):Int))=(((dig 65536 U).length-(dig 65536 V).length+1:Nat):Int)-1:=by
   rw[Aq oo oo];omega
  generalize hnq:(dig 65536 U).length-(dig 65536 V).length+1=nq at *;have hsub:subl (L16 U) ((nq:Nat):Int) (((dig 65536 U).length:Nat):Int)=nI ((dig 65536 U).drop nq):=by
   unfold subl;rw[Int.toNat_natCast,Int.toNat_natCast,take_of_length_le (by rw[Zy];exact nL _)];simp[L16,nI]
  have hdr:val 65536 ((dig 65536 U).drop nq)=U/65536^nq:=Zd oo;have h0:U/65536^nq<V:=by
   have h5:=Aga (b:=65536) ((dig 65536 U).drop nq) (fun x hx=>Pp oo U x (mem_of_mem_drop hx));rw[hdr,length_drop,show (dig 65536 U).length-nq=(dig 65536 V).length-1 by omega] at h5;exact Nat.lt_of_lt_of_le h5 hlo
  rw[e2,e3,gd_t ⟨oo,oo⟩,gd_t ⟨oo,oo⟩,hsub,gd_t (by rw[Cd,length_drop];simp only[length_nil];omega),nil_append,Anb (fun x hx=>Pp oo U x (mem_of_mem_drop hx)) (by rw[length_drop];omega),Ac,hdr];obtain⟨q,hq1,hq2,hq3,hq4⟩:=Ay6 hVf oo oo (oo:nq<=(dig 65536 U).length) h0;rw[jn_d,Int.toNat_natCast,Aar,hq1,Ac];simp only[];rw[Agn hf1 oo,show idx [(f:Int)] 0=some (f:Int) from rfl,Ac];have hs:=Atm (dig 65536 (U%V)) f (Pp oo _) hf1 oo (Nat.le_trans (Uc (Nat.mod_le U V)) oo);rw[Cs oo] at hs;rw[show Fp (L16 (U%V)) (f:Int)=_ from hs,Ac,Anb hq2 oo,Ac,hq4];have ed:U/V=a/b:=by rw[<-hU,<-hV];exact Nat.mul_div_mul_right _ _ hf1
  have em:U%V/f=a%b:=by rw[<-hU,<-hV,Nat.mul_mod_mul_right,Nat.mul_div_cancel _ hf1]
  rw[ed,em]
theorem Bg0{a b:Nat}(ha:(dig 65536 a).length<=90000)(hb:(dig 65536 b).length<=90000):Pq (L16 a) (L16 b)=some (L16 (Nat.gcd a b)):=by
 unfold Pq;simp only[jn_d];obtain⟨t,ht,rfl⟩:=Ax (B:=Sg) (fun s=>s.2.length*65536+(val 65536 (s.2.map Int.toNat)))
  (fun s=>∃x y:Nat,s=(L16 x,L16 y)/\Nat.gcd x y=Nat.gcd a b/\(dig 65536 x).length<=90000/\(dig 65536 y).length<=90000)
  (fun t=>t=L16 (Nat.gcd a b)) (by
   rintro s ⟨x,y,rfl,hg,hx,hy⟩;unfold Sg;simp only[Zy];have hval:∀m,val 65536 ((L16 m).map Int.toNat)=m:=fun m=>by
    unfold L16 nI;rw[map_map,show (Int.toNat ∘ fun x:Nat=>(x:Int))=id from funext fun x=>s_,map_id,Cs oo]
   by_cases h0:y=0
   .right;subst h0;refine⟨_,by rw[iN (by rw[Sr];simp)],?_⟩;rw[Nat.gcd_zero_right] at hg;rw[hg]
   .left;have hy0:(dig 65536 y).length≠0:=fun e=>h0 ((Ye oo).1 (length_eq_zero_iff.1 e))
    have hm:x%y<y:=Nat.mod_lt _ (Nat.pos_of_ne_zero h0);have hml:=Uc (Nat.le_of_lt hm);refine⟨(L16 y,L16 (x%y)),by rw[iP oo,Afn h0 hx hy,Ac],⟨y,x%y,rfl,?_,hy,oo⟩,?_⟩
    .rw[<-hg,Nat.gcd_comm x y,Nat.gcd_rec y x,Nat.gcd_comm]
    .simp only[Zy,hval];omega)
  (L16 a,L16 b) ⟨a,b,rfl,rfl,ha,hb⟩
 rw[ht,Ac]
def QR(x:Rat):Ao:=⟨Z16 x.num,L16 x.den⟩
theorem Aig(m:Nat):(⟨false,L16 m⟩:Ai)=Z16 (m:Int):=by
 unfold Z16;rw[dF oo,Int.natAbs_natCast]
theorem Add{m:Nat}:decide (0<(((L16 m).length:Nat):Int))=decide (m≠0):=by
 have:=Ah6 (a:=m)
 by_cases h:m=0
 .rw[dF (by have:=this.2 h;omega),dF (by simp[h])]
 .rw[dT (by have h2:(L16 m).length≠0:=fun e=>h (this.1 e);omega),dT h]
theorem Aho{n:Int}{d:Nat}(hd:d≠0):∃(m:Int) (e:Nat),n=(Nat.gcd n.natAbs d:Nat)*m/\d=Nat.gcd n.natAbs d*e/\(mkRat n d).num=m/\(mkRat n d).den=e/\0<Nat.gcd n.natAbs d:=by
 have hg:0<Nat.gcd n.natAbs d:=Nat.gcd_pos_of_pos_right _ (Nat.pos_of_ne_zero hd);obtain⟨m,hm⟩:=Int.ofNat_dvd_left.2 (Nat.gcd_dvd_left n.natAbs d);obtain⟨e,he⟩:=Nat.gcd_dvd_right n.natAbs d;refine⟨m,e,hm,he,?_,?_,hg⟩
 .rw[Rat.num_mkRat,iN hd,Nat.gcd_comm];generalize Nat.gcd n.natAbs d=g at *;rw[hm,Int.mul_ediv_cancel_left _ oo]
 .rw[Rat.den_mkRat,iN hd,Nat.gcd_comm];generalize Nat.gcd n.natAbs d=g at *;rw[he,Nat.mul_div_cancel_left _ hg]
theorem Are{n:Int}{d:Nat}(hd:d≠0)(h1:(dig 65536 n.natAbs).length<=90000)(h2:(dig 65536 d).length<=90000):Dr (Z16 n) ⟨false,L16 d⟩=some (QR (mkRat n d)):=by
 obtain⟨m,e,hm,he,hn1,hd1,hg⟩:=Aho (n:=n) hd;have hgl:(dig 65536 (Nat.gcd n.natAbs d)).length<=90000:=Nat.le_trans (Uc (Nat.gcd_le_right _ (Nat.pos_of_ne_zero hd))) h2;unfold Dr;simp only[Adx,jn_d];rw[Bg0 h1 h2,Ac,Afn oo h1 hgl,Ac,Afn oo h2 hgl,Ac];simp only[];unfold QR;rw[hn1,hd1];generalize Nat.gcd n.natAbs d=g at *;have e1:n.natAbs/g=m.natAbs:=by rw[hm,Int.natAbs_mul,Int.natAbs_natCast,Nat.mul_div_cancel_left _ hg]
 have e2:d/g=e:=by rw[he,Nat.mul_div_cancel_left _ hg]
 rw[e1,e2,Ph,Add];unfold Z16
 by_cases hneg:n<0
 ·have hmn:m<0:=by
   rcases Int.lt_or_le m 0 with h|h
   .exact h
   .have:=Int.mul_nonneg (Int.natCast_nonneg g) h;omega
  rw[iP (sV hneg),dT (oo:m.natAbs≠0),dT hmn]
 ·have hmn:¬ m<0:=fun h=>by
   have:=Int.mul_neg_of_pos_of_neg (oo:(0:Int)<(g:Int)) h;omega
  rw[iN (sV hneg),dF hmn]
def Sml(k:Nat)(x:Rat):Prop:=x.num.natAbs<65536^k/\x.den<65536^k
theorem Sml.n{k:Nat}{x:Rat}(h:Sml k x):(dig 65536 x.num.natAbs).length<=k:=Ee h.1
theorem Sml.d{k:Nat}{x:Rat}(h:Sml k x):(dig 65536 x.den).length<=k:=Ee h.2
theorem Ao5{n:Int}{d:Nat}(hd:d≠0):(mkRat n d).num.natAbs<=n.natAbs/\(mkRat n d).den<=d:=by
 obtain⟨m,e,hm,he,hn1,hd1,hg⟩:=Aho (n:=n) hd;rw[hn1,hd1];generalize Nat.gcd n.natAbs d=g at *;refine⟨?_,?_⟩
 .rw[hm,Int.natAbs_mul,Int.natAbs_natCast];exact Nat.le_mul_of_pos_left _ hg
 .rw[he];exact Nat.le_mul_of_pos_left _ hg
theorem Mk{a b i j:Nat}(ha:a<65536^i)(hb:b<65536^j):a*b<65536^(i+j):=by
 rw[Nat.pow_add];rcases Nat.eq_zero_or_pos b with rfl|h
 .rw[Nat.mul_zero];exact Nat.mul_pos (Nat.pow_pos oo) (Nat.pow_pos oo)
 .exact Nat.lt_of_lt_of_le (Nat.mul_lt_mul_of_pos_right ha h) (Nat.mul_le_mul_left _ (Nat.le_of_lt hb))
theorem den0(x:Rat):x.den≠0:=x.den_nz
theorem Sml.mkRat{k:Nat}{n:Int}{d:Nat}(hd:d≠0)(h1:n.natAbs<65536^k)(h2:d<65536^k):Sml k (mkRat n d):=⟨Nat.lt_of_le_of_lt (Ao5 hd).1 h1,Nat.lt_of_le_of_lt (Ao5 hd).2 h2⟩
theorem Arf{x y:Rat}{i j:Nat}(hx:Sml i x)(hy:Sml j y):(x.num*y.den+y.num*x.den).natAbs<65536^(i+j+1):=by
 have h1:=Mk hx.1 hy.2;have h2:=Mk hy.1 hx.2;rw[Nat.add_comm j i] at h2;have h3:=Int.natAbs_add_le (x.num*y.den) (y.num*x.den);rw[Int.natAbs_mul,Int.natAbs_mul,Int.natAbs_natCast,Int.natAbs_natCast] at h3;rw[Nat.pow_succ];generalize 65536^(i+j)=p at *;omega
theorem Sml.neg{x:Rat}{i:Nat}(hx:Sml i x):Sml i (-x):=by
 unfold Sml;rw[Rat.neg_num,Rat.neg_den,Int.natAbs_neg];exact hx
theorem Sml.int{z:Int}{k:Nat}(h:z.natAbs<65536^k)(hk:0<k):Sml k (z:Rat):=⟨h,Nat.one_lt_pow oo oo⟩
theorem Ade{z:Int}(h1:-9223372036854775808<=z)(h2:z<=9223372036854775807):Cf z=some (QR (z:Rat)):=by
 unfold Cf;rw[Aat h1 h2,Ac,Bdv];rfl
theorem Bd2{x y:Rat}{i j:Nat}(hx:Sml i x)(hy:Sml j y)(h:i+j<=80000):Cg (QR x) (QR y)=some (QR (x+y)):=by
 unfold Cg QR;simp only[Aig];have a1:=hx.n;have a2:=hx.d;have a3:=hy.n;have a4:=hy.d;have b1:(dig 65536 (x.num*(y.den:Int)).natAbs).length<=i+j:=Ee (by rw[Int.natAbs_mul,Int.natAbs_natCast];exact Mk hx.1 hy.2);have b2:(dig 65536 (y.num*(x.den:Int)).natAbs).length<=j+i:=Ee (by rw[Int.natAbs_mul,Int.natAbs_natCast];exact Mk hy.1 hx.2);have b3:(dig 65536 (x.den*y.den)).length<=i+j:=Ee (Mk hx.2 hy.2);have b4:(dig 65536 (x.num*y.den+y.num*x.den).natAbs).length<=i+j+1:=Ee (Arf hx hy);rw[Ak5 (by rw[Int.natAbs_natCast];omega),Ac,Ak5 (by rw[Int.natAbs_natCast];omega),Ac,Bdw oo oo,Ac,Ac9 oo,Ac,Are (Nat.mul_ne_zero (den0 x) (den0 y)) oo oo,Ac,<-Rat.add_def'];rfl
theorem Anc{z:Int}:Do (Z16 z)=some (Z16 (-z)):=by
 unfold Do;simp only[jn_d,Ph,Adx,Add];unfold Z16;rw[Int.natAbs_neg]
 by_cases h:z<0
 .rw[iP (sV h),dF oo]
 .rw[iN (sV h)];congr 2
  by_cases h0:z=0
  .subst h0;rfl
  .rw[Add,dT (oo:z.natAbs≠0),dT (oo:-z<0)]
theorem Atn{x:Rat}:Ip (QR x)=some (QR (-x)):=by
 unfold Ip QR;rw[Anc,Ac,Rat.neg_num,Rat.neg_den]
theorem Bd3{x y:Rat}{i j:Nat}(hx:Sml i x)(hy:Sml j y)(h:i+j<=80000):Cm (QR x) (QR y)=some (QR (x-y)):=by
 unfold Cm;rw[Atn,Ac,Bd2 hx hy.neg h,Ac,Rat.sub_eq_add_neg]
theorem Bg1{x y:Rat}{i j:Nat}(hx:Sml i x)(hy:Sml j y)(h:i+j<=80000):Cz (QR x) (QR y)=some (QR (x*y)):=by
 unfold Cz QR;simp only[];have a1:=hx.n;have a2:=hx.d;have a3:=hy.n;have a4:=hy.d;have b1:(dig 65536 (x.num*y.num).natAbs).length<=i+j:=Ee (by rw[Int.natAbs_mul];exact Mk hx.1 hy.1);have b3:(dig 65536 (x.den*y.den)).length<=i+j:=Ee (Mk hx.2 hy.2);rw[Ak5 oo,Ac,Ac9 oo,Ac,Are (Nat.mul_ne_zero (den0 x) (den0 y)) oo oo,Ac,<-Rat.mul_def'];rfl
theorem Ay7{z:Int}:Eh (Z16 z)=some z.sign:=by
 unfold Eh;have:=Ah6 (a:=z.natAbs);rw[Adx,Ph]
 by_cases h0:z=0
 .subst h0;rfl
 .rw[iN (fun e=>h0 (by have:=this.1 oo;omega))]
  by_cases h:z<0
  .rw[iP (sV h),Int.sign_eq_neg_one_of_neg h]
  .rw[iN (sV h),Int.sign_eq_one_of_pos oo]
theorem Bg2{x y:Rat}{i j:Nat}(hx:Sml i x)(hy:Sml j y)(h:i+j<=80000):Lh (QR x) (QR y)=some (x-y).num.sign:=by
 unfold Lh;rw[Bd3 hx hy h,Ac];show bnd (Eh (Z16 (x-y).num)) _=_;rw[Ay7,Ac]
theorem Alp(x y:Rat)(hy:y≠0):x/y=mkRat (x.num*y.den*y.num.sign) (x.den*y.num.natAbs):=by
 have hyn:y.num≠0:=fun h=>hy (Rat.num_eq_zero.1 h)
 rw[Rat.div_def,Rat.mul_def',Rat.num_inv,Rat.den_inv,iN hyn];congr 1;rw[Int.mul_assoc,Int.mul_comm (y.den:Int)]
theorem Aih(z:Int):z.sign=if z<0 then -1 else if z=0 then 0 else 1:=by
 rcases Int.lt_trichotomy z 0 with h|h|h
 .rw[iP h,Int.sign_eq_neg_one_of_neg h]
 .subst h;rfl
 .rw[iN oo,iN oo,Int.sign_eq_one_of_pos h]
theorem Bg3{x y:Rat}{i j:Nat}(hx:Sml i x)(hy:Sml j y)(h:i+j<=80000)(h0:y≠0):Qb (QR x) (QR y)=some (QR (x/y)):=by
 have hyn:y.num≠0:=fun h=>h0 (Rat.num_eq_zero.1 h)
 have hxd:(0:Int)<(x.den:Int):=by have:=den0 x;omega
 have hyd:(0:Int)<(y.den:Int):=by have:=den0 y;omega
 have a1:=hx.n;have a2:=hx.d;have a3:=hy.n;have a4:=hy.d;have b1:(dig 65536 (x.num*(y.den:Int)).natAbs).length<=i+j:=Ee (by rw[Int.natAbs_mul,Int.natAbs_natCast];exact Mk hx.1 hy.2);have b2:(dig 65536 (y.num*(x.den:Int)).natAbs).length<=j+i:=Ee (by rw[Int.natAbs_mul,Int.natAbs_natCast];exact Mk hy.1 hx.2);unfold Qb;simp only[QR,Aig,jn_d];rw[Ak5 (by rw[Int.natAbs_natCast];omega),Ac,Ak5 (by rw[Int.natAbs_natCast];omega),Ac];have e1:x.num*(y.den:Int)<0↔x.num<0:=⟨fun h=>by
   rcases Int.lt_or_le x.num 0 with h'|h'
   .exact h'
   .have:=Int.mul_nonneg h' (Int.le_of_lt hyd);omega,fun h=>Int.mul_neg_of_neg_of_pos h hyd⟩
 have e2:y.num*(x.den:Int)<0↔y.num<0:=⟨fun h=>by
   rcases Int.lt_or_le y.num 0 with h'|h'
   .exact h'
   .have:=Int.mul_nonneg h' (Int.le_of_lt hxd);omega,fun h=>Int.mul_neg_of_neg_of_pos h hxd⟩
 have hd0:(y.num*(x.den:Int)).natAbs≠0:=by rw[Int.natAbs_mul];exact Nat.mul_ne_zero oo oo
 have ed:x.den*y.num.natAbs=(y.num*(x.den:Int)).natAbs:=by rw[Int.natAbs_mul,Int.natAbs_natCast,Nat.mul_comm]
 rw[Alp x y h0,ed];have key:∀z:Int,z.natAbs=(x.num*(y.den:Int)).natAbs->Dr (Z16 z) ⟨false,L16 (y.num*(x.den:Int)).natAbs⟩=some (QR (mkRat z (y.num*(x.den:Int)).natAbs)):=fun z hz=>Are hd0 (by rw[hz];omega) oo
 have fin:∀q:Rat,(some (⟨(⟨(QR q).N.Neg,(QR q).N.L⟩:Ai),(QR q).D⟩:Ao))=some (QR q):=fun _=>rfl
 by_cases hs:((Z16 (x.num*(y.den:Int))).Neg==(Z16 (y.num*(x.den:Int))).Neg)=true
 .rw[iP hs];simp only[Adx];have hs:(decide (x.num*(y.den:Int)<0)==decide (y.num*(x.den:Int)<0))=true:=hs;have hz:=key ((x.num*(y.den:Int)).natAbs:Int) oo;rw[<-Aig] at hz;rw[hz,Ac];show some (QR _)=some (QR _);congr 3;have hs':=eq_of_beq hs;rw[decide_eq_decide,e1,e2] at hs';rw[Aih]
  by_cases hn:y.num<0
  .rw[iP hn];have:=e1.2 (hs'.2 hn);omega
  .rw[iN hn,iN hyn];have:¬x.num*(y.den:Int)<0:=fun h=>hn (hs'.1 (e1.1 h));omega
 .rw[iN hs];simp only[Adx];have hs:¬(decide (x.num*(y.den:Int)<0)==decide (y.num*(x.den:Int)<0))=true:=hs;have hs':¬(x.num<0↔y.num<0):=fun h=>hs (by rw[show decide (x.num*(y.den:Int)<0)=decide (y.num*(x.den:Int)<0) from decide_eq_decide.2 (e1.trans (h.trans e2.symm))];simp)
  have hz:=key (-((x.num*(y.den:Int)).natAbs:Int)) oo;have ez:(⟨decide (0<(((L16 (x.num*(y.den:Int)).natAbs).length:Nat):Int)),L16 (x.num*(y.den:Int)).natAbs⟩:Ai)=Z16 (-((x.num*(y.den:Int)).natAbs:Int)):=by
   unfold Z16;rw[Int.natAbs_neg,Int.natAbs_natCast,Add];congr 1
   by_cases h:(x.num*(y.den:Int)).natAbs=0
   .rw[dF (by simp[h]),dF oo]
   .rw[dT h,dT oo]
  show bnd (Dr ⟨decide (0<(((L16 (x.num*(y.den:Int)).natAbs).length:Nat):Int)),L16 (x.num*(y.den:Int)).natAbs⟩ ⟨false,L16 (y.num*(x.den:Int)).natAbs⟩) (fun r34=>some (⟨⟨r34.N.Neg,r34.N.L⟩,r34.D⟩:Ao))=_;rw[ez,hz,Ac];show some (QR _)=some (QR _);congr 3;rw[Aih]
  by_cases hn:y.num<0
  .rw[iP hn];have:¬x.num*(y.den:Int)<0:=fun h=>hs' ⟨fun _=>hn,fun _=>e1.1 h⟩;omega
  .rw[iN hn,iN hyn]
   by_cases hxn:x.num<0
   .have:=e1.2 hxn;omega
   .exact absurd ⟨fun h=>absurd h hxn,fun h=>absurd h hn⟩ hs'
theorem Sml.div{x y:Rat}{i j:Nat}(hx:Sml i x)(hy:Sml j y)(h0:y≠0):Sml (i+j) (x/y):=by
 have hyn:y.num≠0:=fun h=>h0 (Rat.num_eq_zero.1 h)
 rw[Alp x y h0];refine Sml.mkRat (Nat.mul_ne_zero (den0 x) oo) ?_ (Mk hx.2 hy.1);rw[Int.natAbs_mul,Int.natAbs_mul,Int.natAbs_natCast];have:y.num.sign.natAbs=1:=by rw[Aih];split <;> (try split) <;> omega
 rw[this,Nat.mul_one];exact Mk hx.1 hy.2
theorem Ay8{a d:Nat}(hd:0<d)(ha:0<a):(-(a:Int))/(d:Int) = -(((a/d+if a%d=0 then 0 else 1:Nat)):Int):=by
 have h1:=Nat.div_add_mod a d;have h2:=Nat.mod_lt a hd;have h3:(a:Int)=d*((a/d:Nat):Int)+((a%d:Nat):Int):=by rw[<-Int.natCast_mul,<-Int.natCast_add,h1]
 generalize a/d=q at *;generalize a%d=r at *
 by_cases h0:r=0
 .subst h0;rw[iP rfl,h3];rw[show -((d:Int)*(q:Int)+((0:Nat):Int))=(d:Int)*(-(q:Int)) by rw[Int.mul_neg];simp,Int.mul_ediv_cancel_left _ oo];simp
 .rw[iN h0];refine ((Int.ediv_emod_unique (r:=(d:Int)-r) oo).2 ⟨?_,oo,oo⟩).1;rw[h3,Int.natCast_add];have:(d:Int) * -((q:Int)+((1:Nat):Int)) = -(d*q)-d:=by rw[Int.mul_neg,Int.mul_add];simp;omega
  rw[this];omega
theorem Bfh{z:Int}{d:Nat}(hd:d≠0)(h1:(dig 65536 z.natAbs).length<=80000)(h2:(dig 65536 d).length<=80000):Ki (Z16 z) ⟨false,L16 d⟩=some (Z16 (z/(d:Int))):=by
 unfold Ki;simp only[Adx,jn_d];rw[Afn hd oo oo,Ac,Ph]
 by_cases h:z<0
 .rw[iP (sV h)];simp only[];have hz:z = -((z.natAbs:Nat):Int):=oo;have e:=Ay8 (a:=z.natAbs) (Nat.pos_of_ne_zero hd) oo;rw[<-hz] at e;have hp:=Ah6 (a:=z.natAbs%d)
  by_cases h0:z.natAbs%d=0
  .rw[iN (by have:=hp.2 h0;omega)];rw[iP h0] at e;rw[e,Add];unfold Z16;congr 2
   .generalize z.natAbs/d=q at *
    by_cases hq:q=0
    .rw[dF (by simp[hq]),dF oo]
    .rw[dT hq,dT oo]
   .congr 1;generalize z.natAbs/d=q at *;omega
  .rw[iP (by have:(L16 (z.natAbs%d)).length≠0:=fun e=>h0 (hp.1 e);omega)];rw[iN h0] at e;have hl:(dig 65536 (z.natAbs/d)).length<=80000:=Nat.le_trans (Uc (Nat.div_le_self _ _)) h1;rw[Bdv,Aw7 oo (by rw[Ah7 oo];simp),Ac,e,Add];unfold Z16;generalize z.natAbs/d=q at *;congr 2
   .rw[dT (oo:q+1≠0),dT oo]
 .rw[iN (sV h)];have hz:z=((z.natAbs:Nat):Int):=oo;rw[show z/(d:Int)=((z.natAbs/d:Nat):Int) by rw[hz,Int.natCast_ediv,Int.natAbs_natCast]];rw[<-Aig]
theorem Ato{x:Rat}{i:Nat}(hx:Sml i x)(h:i<=40000):Iq (QR x)=some (Z16 x.floor):=by
 have a1:=hx.n;have a2:=hx.d;unfold Iq QR;simp only[];rw[Bfh (den0 x) oo oo,Ac,Rat.floor_def]
theorem Bfi{x:Rat}{i:Nat}(hx:Sml i x)(h:i<=40000):Oi (QR x)=some (Z16 (-(-x).floor)):=by
 unfold Oi;rw[Atn,Ac,Ato hx.neg h,Ac,Anc,Ac]
theorem Avq(l:LM)(hl:∀x∈l,x<65536)(h4:l.length<=4)(hv:val 65536 l<4611686018427387905)(p:Ai)(hp:p.L=nI l):lfix (Dx p) (0,(l.length:Int)-1)=some ((val 65536 l:Nat):Int):=by
 obtain⟨t,ht,rfl⟩:=Ax (B:=Dx p) (fun s=>(s.2+1).toNat)
  (fun s=>∃k:Nat,s=(((val 65536 (l.drop k):Nat):Int),(k:Int)-1)/\k<=l.length)
  (fun t=>t=((val 65536 l:Nat):Int)) (by
   rintro s ⟨k,rfl,hk⟩;unfold Dx
   by_cases h0:k=0
   .right;subst h0;exact⟨_,by simp only[];rw[iN oo],by rw[drop_zero]⟩
   ·left;have h1:k-1<l.length:=oo;have hx:=hl _ (getElem_mem h1);have hd:=Vm (b:=65536) l (k-1) h1;rw[show k-1+1=k by omega] at hd;have hle:val 65536 (l.drop (k-1))<=val 65536 l:=by
     have:=Ad6 l (k-1) oo;have h2:val 65536 (l.drop (k-1))<=65536^(k-1)*val 65536 (l.drop (k-1)):=Nat.le_mul_of_pos_left _ (Nat.pow_pos oo);omega
    refine⟨(((val 65536 (l.drop (k-1)):Nat):Int),((k-1:Nat):Int)-1),?_,⟨k-1,rfl,oo⟩,by simp;omega⟩;simp only[hp];rw[iP oo,show ((k:Int)-1)=((k-1:Nat):Int) from by omega,Dh h1,Ac,hd];generalize val 65536 (l.drop k)=H at *;generalize l[k-1]=x at *;rw[Aq (x:=(H:Int)*65536) oo oo,Aq oo oo,Aq oo oo];congr 3;omega)
  (0,(l.length:Int)-1) ⟨l.length,by simp[val],nL _⟩
 exact ht
theorem Bfj{z:Int}(h:z.natAbs<=1152921504606846976):Kh (Z16 z)=some (z,true):=by
 have hl:(dig 65536 z.natAbs).length<=4:=Ee oo;have hv:=Cs (b:=65536) oo z.natAbs;have hf:=Avq (dig 65536 z.natAbs) (Pp oo _) hl (by rw[hv];omega) (Z16 z) Adx;rw[hv] at hf;have fin:(jn (fun (s6:Int)=>
   jn (fun (s15:Bool)=>
   if s15=true then (some ((0:Int),false))
   else (jn (fun (s17:Int)=>
   some (s17,true))
   (fun j17=>if (Z16 z).Neg=true then (j17 (w64 (-s6)))
   else (j17 s6))))
   (fun j15=>if s6<0 then (j15 true)
   else (j15 (decide (4611686018427387904<s6)))))
   (fun j6=>bnd (lfix (Dx (Z16 z)) (0,w64 (((((dig 65536 z.natAbs).length:Nat):Int))-1))) fun t39=>
   j6 t39))=some (z,true):=by
  simp only[jn_d];rw[Aq oo oo,hf,Ac,iN oo,iN (by simp;omega),Ph]
  by_cases hn:z<0
  .rw[iP (sV hn),Aq oo oo];congr 2;omega
  .rw[iN (sV hn)];congr 2;omega
 unfold Kh;rw[jn_d,Adx,Zy,iN oo]
 by_cases h4:(((dig 65536 z.natAbs).length:Nat):Int)=4
 .have h3:3<(dig 65536 z.natAbs).length:=oo;have hd:=Zd (m:=z.natAbs) (k:=3) oo;rw[Vm _ _ h3,drop_eq_nil_of_le oo] at hd;simp only[val,Nat.mul_zero,Nat.add_zero] at hd;rw[iP h4,show idx (L16 z.natAbs) 3=some (((dig 65536 z.natAbs)[3]:Nat):Int) from Dh h3,Ac,dF (by rw[hd];omega)];exact fin
 .rw[iN h4];exact fin
theorem Bd4{z:Int}(h:z.natAbs<=1152921504606846976):Qc (Z16 z)=some (z,0):=by
 unfold Qc;rw[Bfj h,Ac,jn_d];simp only[if_true];rw[iN oo,dF oo,iN s_]
theorem Ay9{x y:Rat}{i:Nat}(hx:Sml i x)(hy:Sml i y)(h:i<=20000)(h1:(if y<x then y else x).floor.natAbs<=1152921504606846976)(h2:(-(-(if x<y then y else x)).floor).natAbs<=1152921504606846976):
  Oj [QR x,QR y]=some (⟨(if y<x then y else x).floor,-(-(if x<y then y else x)).floor⟩,0):=by
 have hlow:Sml i (if y<x then y else x):=by split;exact hy;exact hx
 have hhigh:Sml i (if x<y then y else x):=by split;exact hy;exact hx
 have sg:∀z:Rat,z.num.sign<0↔z<0:=fun z=>by
  rw[Aih,<-Rat.not_le,<-Rat.num_nonneg];split
  .omega
  .split <;> omega
 have sg2:∀z:Rat,0<z.num.sign↔0<z:=fun z=>by
  have e:z.num.sign = -((-z).num.sign):=by rw[Rat.neg_num,Int.sign_neg,Int.neg_neg]
  rw[e];have:=sg (-z);constructor
  .intro h;have h':=this.1 oo;rw[Rat.neg_lt_iff] at h';simpa using h'
  .intro h;have h':=this.2 (by rw[Rat.neg_lt_iff];simpa using h);omega
 have body:Fy [QR x,QR y] ((QR x).N.Neg,(QR x).N.L,(QR x).D,(QR x).N.Neg,(QR x).N.L,(QR x).D,1)=some (.inl ((QR (if y<x then y else x)).N.Neg,(QR (if y<x then y else x)).N.L,(QR (if y<x then y else x)).D,(QR (if x<y then y else x)).N.Neg,(QR (if x<y then y else x)).N.L,(QR (if x<y then y else x)).D,2)):=by
  unfold Fy;simp only[jn_d];have eq:∀q:Rat,(⟨(⟨(QR q).N.Neg,(QR q).N.L⟩:Ai),(QR q).D⟩:Ao)=QR q:=fun _=>rfl
  rw[iP s_,show idx [QR x,QR y] 1=some (QR y) from rfl];simp only[Ac,eq];rw[Bg2 hy hx oo];simp only[Ac];have d1:(y-x).num.sign<0↔y<x:=by rw[sg,Rat.lt_iff_sub_pos y x];rw[show y-x = -(x-y) from (Rat.neg_sub x y).symm,Rat.neg_lt_iff];simp
  have d2:0<(y-x).num.sign↔x<y:=by rw[sg2,Rat.lt_iff_sub_pos x y]
  rw[show w64 (1+1)=2 from by decide]
  by_cases c1:y<x
  .rw[iP (d1.2 c1),iP c1]
   by_cases c2:x<y
   .rw[iP (d2.2 c2),iP c2]
   .rw[iN (fun h=>c2 (d2.1 h)),iN c2]
  .rw[iN (fun h=>c1 (d1.1 h)),iN c1]
   by_cases c2:x<y
   .rw[iP (d2.2 c2),iP c2]
   .rw[iN (fun h=>c2 (d2.1 h)),iN c2]
 have fin:∀a b c d e f,Fy [QR x,QR y] (a,b,c,d,e,f,2)=some (.inr (a,b,c,d,e,f)):=fun a b c d e f=>by
  unfold Fy;rw[iN s_]
 unfold Oj;simp only[jn_d];rw[show idx [QR x,QR y] 0=some (QR x) from rfl,Ac,Ac,Ay,body];simp only[];rw[Ay,fin];simp only[Ac];have eq:∀q:Rat,(⟨(⟨(QR q).N.Neg,(QR q).N.L⟩:Ai),(QR q).D⟩:Ao)=QR q:=fun _=>rfl
 simp only[eq];rw[Ato hlow oo,Ac,Bd4 h1,Ac,Bfi hhigh oo,Ac,Bd4 h2,Ac];simp
namespace X
def foldE{α σ τ:Type}(f:σ->α->Sum σ τ)(fin:σ->τ):List α->σ->τ
 |[],s=>fin s
 |x::r,s=>match f s x with
  |.inl s'=>foldE f fin r s'
  |.inr t=>t
theorem Im{α σ τ β:Type}(l:List α)(enc:σ->Int->β)(f:σ->α->Sum σ τ)(fin:σ->τ)(B:β->Option (Sum β τ))(C:Nat->σ->Prop)(h1:∀(j:Nat) (h:j<l.length) s,C j s->(∃s',f s l[j]=.inl s'/\B (enc s j)=some (.inl (enc s' ((j+1:Nat):Int)))/\C (j+1) s')\/(∃t,f s l[j]=.inr t/\B (enc s j)=some (.inr t)))(h2:∀s,C l.length s->B (enc s l.length)=some (.inr (fin s)))(s0:σ)(h0:C 0 s0):lfix B (enc s0 0)=some (foldE f fin l s0):=by
 have key:∀(m k:Nat) (s:σ),k<=l.length->l.length-k=m->C k s->lfix B (enc s k)=some (foldE f fin (l.drop k) s):=by
  intro m
  induction m with
  |zero=>
   intro k s hk hm hC;obtain rfl:k=l.length:=oo;rw[Ay,h2 s hC];simp[foldE]
  |succ m ih=>
   intro k s hk hm hC;have hlt:k<l.length:=oo;rw[Ay,drop_eq_getElem_cons hlt];rcases h1 k hlt s hC with⟨s',e1,e2,e3⟩|⟨t,e1,e2⟩
   .rw[e2];simp only[foldE,e1];exact ih (k+1) s' oo oo e3
   .rw[e2];simp only[foldE,e1]
 exact key l.length 0 s0 (Nat.zero_le _) rfl h0
theorem Alq{α:Type}{l:List α}:l.reverse.Nodup↔l.Nodup:=(reverse_perm l).nodup_iff
def okXY(p:Ab):Bool:=decide (-268435456<=p.X/\p.X<=268435456/\-268435456<=p.Y/\p.Y<=268435456)
def okPt(p:Aa):Bool:=decide (0<=p.Id/\p.Id<=1152921504606846976/\-268435456<=p.X/\p.X<=268435456/\-268435456<=p.Y/\p.Y<=268435456/\-268435456<=p.Z.Lo/\p.Z.Lo<=p.Z.Hi/\p.Z.Hi<=268435456/\0<=p.Wide/\p.Wide<=268435456/\1<=p.Num/\p.Num<=p.Of/\p.Of<=15)
theorem within_eq(a b c:Int):Bz a b c=some (decide (a<=b/\b<=c)):=by
 simp only[Bz,jn_d];grind
theorem Aer(a b c:Int):Bh a b c=some (decide (b<=a/\a<=c)):=by
 simp only[Bh,jn_d];grind
theorem Aak(p:Ab):Iu p=some (okXY p):=by
 simp only[Iu,jn_d,within_eq,Ac,okXY,dQ];grind
theorem Ago(p:Ab):Ic p=some (okXY p):=by
 simp only[Ic,jn_d,okXY];grind
theorem Aal(p:Aa):Ql p=some (okPt p):=by
 simp only[Ql,jn_d,within_eq,Ac,Bp,Aak,okXY,okPt,dQ];grind
theorem Arg(p:Aa):St p=some (okPt p):=by
 simp only[St,jn_d,Aer,Ac,Ago,okXY,okPt,dQ];grind
def validL(l:List Aa):Bool:=decide (l.length<=1024)&&l.all okPt&&decide ((l.map (·.Id)).Nodup)
theorem mget_true{m:List (Int×Bool)}(hm:∀p∈m,p.2=true)(x:Int):(mget m x).getD false=decide (x∈m.map (·.1)):=by
 induction m with
 |nil=>simp[mget]
 |cons p r ih=>
  rw[Wo];have hp:=hm p mS;have ih:=ih (fun q hq=>hm q (mO _ hq))
  by_cases h:p.1=x
  .rw[iP h];simp[hp,h]
  .rw[iN h,ih];have:¬x=p.1:=fun e=>h e.symm
   simp[this]
theorem Aza{κ υ:Type}{m:List (κ×υ)}{x:κ}{v:υ}(h:x∉m.map (·.1)):mput m x v=(x,v)::m:=by
 unfold mput mdel;rw[filter_eq_self.2];intro q hq;simp only[dQ];exact fun e=>h (e▸mem_map_of_mem hq)
def Afo(s:LI)(x:Aa):Sum LI (Sum Unit Bool):=if okPt x=true/\x.Id∉s then .inl (x.Id::s) else .inr (.inr false)
theorem Aes:∀(l:List Aa) (s:LI),s.Nodup->foldE Afo (fun _=>.inl ()) l s=if l.all okPt=true/\((l.map (·.Id)).reverse++s).Nodup then .inl () else .inr false
 |[],s,hs=>by simp[foldE,hs]
 |x::r,s,hs=>by
  unfold foldE Afo
  by_cases h:okPt x=true/\x.Id∉s
  .rw[iP h];dsimp only;have:=Aes r (x.Id::s) (nodup_cons.2 ⟨h.2,hs⟩);unfold Afo at this;rw[this];simp[h.1]
  .rw[iN h];dsimp only;rw[iN];rintro⟨h1,h2⟩;refine h ⟨by simp at h1;exact h1.1,fun hx=>?_⟩;simp only[map_cons,reverse_cons,append_assoc,cons_append,nil_append] at h2;have:=(nodup_append.1 h2).2.1;exact (nodup_cons.1 this).1 hx
theorem Azb(l:List Aa):Xq l=some (validL l):=by
 unfold Xq validL
 by_cases hn:1024<(l.length:Int)
 .rw[iP hn];have:¬l.length<=1024:=oo;simp[this]
 ·rw[if_neg hn,jn_d];have hn':l.length<=1024:=oo;have key:=Im l (fun (s:List (Int × Bool)) (i:Int)=>(s,i)) (fun (s:List (Int × Bool)) x=>if okPt x=true/\x.Id ∉ s.map (·.1) then .inl ((x.Id,true)::s) else .inr (.inr false)) (fun _=>(.inl ():Sum Unit Bool)) (Mx l)
   (fun j s=>s.length=j/\∀p∈s,p.2=true) ?_ ?_ [] ⟨rfl,s_⟩
  ·rw[key,Ac];have conv:∀ (l:List Aa) (s:List (Int × Bool)),foldE (fun (s:List (Int × Bool)) (x:Aa)=>if okPt x=true/\x.Id ∉ s.map (·.1) then Sum.inl ((x.Id,true)::s) else .inr (.inr false)) (fun _=>(.inl ():Sum Unit Bool)) l s=foldE Afo (fun _=>.inl ()) l (s.map (·.1)):=by
    intro l
    induction l with
    |nil=>intro s;rfl
    |cons x r ih=>
     intro s;unfold foldE Afo
     by_cases h:okPt x=true/\x.Id∉s.map (·.1)
     .rw[iP h,iP h];exact ih _
     .rw[iN h,iN h]
   rw[conv,map_nil,Aes l [] s_];simp only[append_nil,Alq]
   by_cases h:l.all okPt=true/\(l.map (·.Id)).Nodup
   .rw[iP h];simp only[hn',h.1,h.2,decide_true,Bool.and_self]
   .rw[iN h];dsimp only;replace h:=Decidable.not_and_iff_or_not.1 h;congr 1;rcases h with h|h <;> simp[h]
  .intro j hj s hC;have h0:(j:Int)<(l.length:Int):=oo
   by_cases hp:okPt l[j]=true
   .have hr:-9223372036854775808<=l[j].Id/\l[j].Id<=9223372036854775807:=by simp only[okPt,dQ] at hp;omega
    by_cases hs:l[j].Id∈s.map (·.1)
    .right;refine⟨.inr false,by rw[iN (fun h=>h.2 hs)],?_⟩;simp only[Mx,iP h0,Aj hj,Ac,jn_d,Aal,hp,if_true,gd_t hr,mget_true hC.2,dT hs]
    .left;refine⟨(l[j].Id,true)::s,by rw[iP ⟨hp,hs⟩],?_,by simp[hC.1],by intro p hm;rcases mem_cons.1 hm with rfl|hm;rfl;exact hC.2 p hm⟩;have hs':decide (l[j].Id∈s.map (·.1))=false:=dF hs;simp only[Mx,iP h0,Aj hj,Ac,jn_d,Aal,hp,if_true,gd_t hr,mget_true hC.2,hs',Bool.false_eq_true,if_false,Aza hs,gd_t (oo:s.length<9223372036854775807),As (oo:j<9223372036854775807)]
   .right;refine⟨.inr false,by rw[iN (fun h=>hp h.1)],?_⟩;have hp':okPt l[j]=false:=by simpa using hp
    simp only[Mx,iP h0,Aj hj,Ac,jn_d,Aal,hp',if_true,Bool.false_eq_true,if_false]
  .intro s hC;simp only[Mx,Int.lt_irrefl,if_false]
theorem rvalid_eq(l:List Aa):Fw l=some (validL l):=by
 unfold Fw
 by_cases hn:1024<(l.length:Int)
 .rw[iP hn];have:¬l.length<=1024:=oo;simp[validL,this]
 ·rw[if_neg hn,jn_d];have hn':l.length<=1024:=oo;have inner:∀ (j:Nat) (hj:j<l.length),lfix (Hc j l) 0=some (if ∀ (k:Nat) (hk:k<j),l[k].Id≠l[j].Id then .inl () else .inr false):=by
   intro j hj;have:=Uf (β:=Unit) (γ:=Bool) (l.take j) (fun q=>decide (q.Id≠l[j].Id)) (Hc j l) () false ?_ ?_
   ·rw[this];congr 1;have e:(l.take j).all (fun q=>decide (q.Id≠l[j].Id))=true↔∀ (k:Nat) (hk:k<j),l[k].Id≠l[j].Id:=by
     rw[all_eq_true];constructor
     .intro h k hk;have:=h (l[k]) (mem_take_iff_getElem.2 ⟨k,oo,rfl⟩);simpa using this
     .intro h q hq;obtain⟨k,hk,rfl⟩:=mem_take_iff_getElem.1 hq;simpa using h k oo
    by_cases h:∀(k:Nat) (hk:k<j),l[k].Id≠l[j].Id
    .rw[iP (e.2 h),iP h]
    .rw[iN (fun h'=>h (e.1 h')),iN h]
   .intro k hk;have hk':k<j:=by simp at hk;omega
    have hkl:k<l.length:=oo;simp only[Hc,iP (oo:(k:Int)<(j:Int)),Aj hkl,Aj hj,Ac,As (oo:k<9223372036854775807),getElem_take]
    by_cases h:l[k].Id=l[j].Id <;> simp[h]
   .have:(l.take j).length=j:=by simp;omega
    simp only[Hc,this,Int.lt_irrefl,if_false]
  have key:=Im (β:=Int) l (fun (s:LI) (i:Int)=>i) Afo (fun _=>(.inl ():Sum Unit Bool)) (Eg l)
   (fun j s=>s=((l.take j).map (·.Id)).reverse) ?_ ?_ [] rfl
  .rw[key,Ac,Aes l [] s_];simp only[append_nil,Alq,validL]
   by_cases h:l.all okPt=true/\(l.map (·.Id)).Nodup
   .rw[iP h];simp only[hn',h.1,h.2,decide_true,Bool.and_self]
   .rw[iN h];dsimp only;replace h:=Decidable.not_and_iff_or_not.1 h;congr 1;rcases h with h|h <;> simp[h]
  ·rintro j hj s rfl;have h0:(j:Int)<(l.length:Int):=oo;have hmem:l[j].Id ∉ ((l.take j).map (·.Id)).reverse↔∀ (k:Nat) (hk:k<j),l[k].Id≠l[j].Id:=by
    rw[mem_reverse,mem_map];constructor
    .intro h k hk e;exact h ⟨l[k],mem_take_iff_getElem.2 ⟨k,oo,rfl⟩,e⟩
    .rintro h ⟨q,hq,e⟩;obtain⟨k,hk,rfl⟩:=mem_take_iff_getElem.1 hq;exact h k oo e
   by_cases hp:okPt l[j]=true
   .by_cases hs:∀(k:Nat) (hk:k<j),l[k].Id≠l[j].Id
    .left;refine⟨_,by unfold Afo;rw[iP ⟨hp,hmem.2 hs⟩],?_,?_⟩
     .simp only[Eg,iP h0,Aj hj,Ac,jn_d,Arg,hp,if_true,inner j hj,iP hs,As (oo:j<9223372036854775807)]
     .have e:l.take (j+1)=l.take j++[l[j]]:=by rw[take_add_one,gE hj];rfl
      show _=_;rw[e,map_append,reverse_append];rfl
    .right;refine⟨.inr false,by unfold Afo;rw[iN (fun h=>hs (hmem.1 h.2))],?_⟩;simp only[Eg,iP h0,Aj hj,Ac,jn_d,Arg,hp,if_true,inner j hj,iN hs]
   .right;refine⟨.inr false,by unfold Afo;rw[iN (fun h=>hp h.1)],?_⟩;simp only[Eg,iP h0,Aj hj,Ac,jn_d,Arg,hp,Bool.false_eq_true,if_false]
  .intro s _;simp only[Eg,Int.lt_irrefl,if_false]
def okRules(r:Af):Bool:=decide (1<=r.Cell/\r.Cell<=10000000/\0<=r.Reach/\r.Reach<=1000000/\0<=r.Slope/\r.Slope<=100000/\1<=r.Link/\r.Link<=1000000/\0<=r.Flat/\r.Flat<=1000000/\0<=r.Tall/\r.Tall<=1000000/\0<=r.High/\r.High<=1000000/\0<=r.Low/\r.Low<=1000000/\0<=r.Brush/\r.Brush<=1000000/\1<=r.Few/\r.Few<=1024)
theorem Avr(r:Af):Hv r=some (okRules r):=by
 simp only[Hv,jn_d,Aer,Ac,dQ];unfold okRules
 repeat' split
 all_goals (congr 1;grind)
theorem Azc(r:Af):Qm r=some (okRules r):=by
 have key:=Uf (β:=Unit) (γ:=Bool) [r.Reach,r.Flat,r.Tall,r.High,r.Low,r.Brush] (fun n=>decide (0<=n/\n<=1000000)) (Kr r) () false ?_ ?_
 .unfold Qm;rw[jn_d,key,Ac]
  by_cases hc:([r.Reach,r.Flat,r.Tall,r.High,r.Low,r.Brush].all (fun n=>decide (0<=n/\n<=1000000)))=true
  .rw[iP hc];simp only[jn_d,within_eq,Ac,dQ];simp only[all_cons,all_nil,Bool.and_true,Bool.and_eq_true,dQ] at hc;unfold okRules
   repeat' split
   all_goals (congr 1;grind)
  .rw[iN hc];simp only[all_cons,all_nil,Bool.and_true,Bool.and_eq_true,dQ] at hc;dsimp only;unfold okRules;congr 1;symm;rw[decide_eq_false_iff_not];omega
 .intro j hj;have hj':(j:Int)<6:=by simp at hj;omega
  simp only[Kr,iP hj',Aj hj,Ac,within_eq,As (show j<9223372036854775807 by simp at hj;omega)]
 .simp only[Kr];rfl
theorem checked_eq(l:List Aa)(r:Af):Sd l r=some (if okRules r=true then (if validL l=true then 0 else 70) else 71):=by
 simp only[Sd,Azc,Ac,Azb];grind
theorem Ao6(l:List Aa)(r:Af):Mf l r=some (if okRules r=true then (if validL l=true then 0 else 70) else 71):=by
 simp only[Mf,Avr,Ac,rvalid_eq];grind
theorem okPt_rng{p:Aa}(h:okPt p=true):0<=p.Id/\p.Id<=1152921504606846976/\-268435456<=p.X/\p.X<=268435456/\-268435456<=p.Y/\p.Y<=268435456/\-268435456<=p.Z.Lo/\p.Z.Lo<=p.Z.Hi/\p.Z.Hi<=268435456:=by
 simp only[okPt,dQ] at h;omega
theorem okRules_rng{r:Af}(h:okRules r=true):1<=r.Cell/\r.Cell<=10000000/\0<=r.Reach/\r.Reach<=1000000/\0<=r.Slope/\r.Slope<=100000/\1<=r.Link/\r.Link<=1000000/\0<=r.Low/\r.Low<=1000000:=by
 simp only[okRules,dQ] at h;omega
theorem Zz{l:List Aa}(h:validL l=true):l.length<=1024/\(∀p∈l,okPt p=true)/\(l.map (·.Id)).Nodup:=by
 simp only[validL,Bool.and_eq_true,dQ,all_eq_true] at h;exact⟨h.1.1,h.1.2,h.2⟩
def sq(p q:Aa):Int:=(p.X-q.X)*(p.X-q.X)+(p.Y-q.Y)*(p.Y-q.Y)
theorem Azd{a:Int}{m:Int}(h1:-m<=a)(h2:a<=m):0<=a*a/\a*a<=m*m:=by
 refine⟨?_,?_⟩
 .rcases Int.le_total 0 a with h|h
  .exact Int.mul_nonneg h h
  .exact Int.mul_nonneg_of_nonpos_of_nonpos h h
 .rcases Int.le_total 0 a with h|h
  .exact Int.mul_le_mul h2 h2 h oo
  .have:(-a)*(-a)<=m*m:=Int.mul_le_mul oo oo oo oo
   rwa [Int.neg_mul_neg] at this
theorem sq_w{a b:Int}(ha:-268435456<=a/\a<=268435456)(hb:-268435456<=b/\b<=268435456):w64 (a-b)=a-b/\w64 ((a-b)*(a-b))=(a-b)*(a-b)/\0<=(a-b)*(a-b)/\(a-b)*(a-b)<=288230376151711744:=by
 have h:=Azd (a:=a-b) (m:=536870912) oo oo;refine⟨Aq oo oo,Aq oo oo,h.1,oo⟩
theorem Bd5{p q:Aa}(hp:okPt p=true)(hq:okPt q=true):w64 ((w64 ((w64 (p.X-q.X))*(w64 (p.X-q.X))))+(w64 ((w64 (p.Y-q.Y))*(w64 (p.Y-q.Y)))))=sq p q:=by
 have h1:=okPt_rng hp;have h2:=okPt_rng hq;obtain⟨a1,a2,a3,a4⟩:=sq_w (a:=p.X) (b:=q.X) oo oo;obtain⟨b1,b2,b3,b4⟩:=sq_w (a:=p.Y) (b:=q.Y) oo oo;rw[a1,b1,a2,b2];exact Aq oo oo
theorem sq_comm(p q:Aa):sq p q=sq q p:=by
 have h:∀a b:Int,(a-b)*(a-b)=(b-a)*(b-a):=fun a b=>by rw[<-Int.neg_mul_neg,Int.neg_sub]
 unfold sq;rw[h p.X,h p.Y]
theorem sq_zero{p q:Aa}:sq p q<=0↔p.X=q.X/\p.Y=q.Y:=by
 have h1:∀a:Int,0<=a*a:=fun a=>by
  rcases Int.le_total 0 a with h|h
  .exact Int.mul_nonneg h h
  .exact Int.mul_nonneg_of_nonpos_of_nonpos h h
 constructor
 .intro h;unfold sq at h;have e1:=h1 (p.X-q.X);have e2:=h1 (p.Y-q.Y);have f1:(p.X-q.X)*(p.X-q.X)=0:=oo;have f2:(p.Y-q.Y)*(p.Y-q.Y)=0:=oo;rcases Int.mul_eq_zero.1 f1 with g|g <;> rcases Int.mul_eq_zero.1 f2 with k|k <;> omega
 .rintro⟨h,k⟩;unfold sq;rw[h,k];simp
theorem near_eq{p q:Aa}(hp:okPt p=true)(hq:okPt q=true){m:Int}(h1:0<=m)(h2:m<=1000000):Xd p q m=some (decide (sq p q<=m*m)):=by
 have hm:w64 (m*m)=m*m:=by have:=Azd (a:=m) (m:=1000000) oo h2;exact Aq oo oo
 simp only[Xd,Bp,Ac,My,Bd5 hp hq,hm]
theorem apart_eq{p q:Aa}(hp:okPt p=true)(hq:okPt q=true):Bw p q=some (sq p q):=by
 simp only[Bw,Bd5 hp hq]
def sunkF(p:Aa)(r:Af)(s:Bool)(q:Aa):Sum Bool (Sum Bool Bool):=
 if q.Id=p.Id\/r.Link*r.Link<sq q p then .inl s else if q.Z.Lo-p.Z.Hi<=r.Low then .inr (.inr false) else .inl true
def sunkB(l:List Aa)(r:Af)(p:Aa):Bool:=match foldE (sunkF p r) .inl l false with
 |.inl b=>b
 |.inr b=>b
theorem Bb7{l:List Aa}(hl:validL l=true){r:Af}(hr:okRules r=true){i:Nat}(hi:i<l.length):Wf l i r=some (sunkB l r l[i]):=by
 obtain⟨g1,g2,g3⟩:=Zz hl;have hR:=okRules_rng hr;have hp:=g2 _ (gM hi);have key:=Im l (fun (s:Bool) (j:Int)=>(s,j)) (sunkF l[i] r) (Sum.inl:Bool->Sum Bool Bool) (Ry l i r) (fun _ _=>True) ?_ ?_ false trivial
 .unfold Wf sunkB;rw[jn_d,key,Ac];cases foldE (sunkF l[i] r) (Sum.inl:Bool->Sum Bool Bool) l false <;> rfl
 ·intro j hj s _;have h0:(j:Int)<(l.length:Int):=oo;have hq:=g2 _ (getElem_mem hj);have hne:(j:Int)=(i:Int)↔l[j].Id=l[i].Id:=by
   constructor
   .intro h;obtain rfl:j=i:=oo;rfl
   .intro h;have:=getElem_inj (xs:=l.map (·.Id)) (i:=j) (j:=i) (h₀:=by simpa using hj) (h₁:=by simpa using hi) g3;simp only[getElem_map] at this;have:=this.1 h;omega
  have h1:=okPt_rng hp;have h2:=okPt_rng hq;have hw:w64 (l[j].Z.Lo-l[i].Z.Hi)=l[j].Z.Lo-l[i].Z.Hi:=Aq oo oo;have hs:w64 ((j:Int)+1)=((j+1:Nat):Int):=As oo;unfold sunkF;simp only[Ry,iP h0,Aj hj,Aj hi,Ac,jn_d,near_eq hp hq (oo:0<=r.Link) (oo:r.Link<=1000000),hw,hs,hne,sq_comm l[j] l[i]]
  by_cases c1:l[j].Id=l[i].Id
  .left;exact⟨s,by rw[iP (.inl c1)],by rw[iP c1];simp,trivial⟩
  .rw[iN c1]
   by_cases c2:sq l[i] l[j]<=r.Link*r.Link
   .have c3:¬(l[j].Id=l[i].Id\/r.Link*r.Link<sq l[i] l[j]):=by rintro (h|h);exact c1 h;omega
    rw[iN c3]
    by_cases c4:l[j].Z.Lo-l[i].Z.Hi<=r.Low
    .right;exact⟨_,by rw[iP c4],by simp[c2,c4]⟩
    .left;exact⟨true,by rw[iN c4],by simp[c2,c4],trivial⟩
   .left;exact⟨s,by rw[iP (.inr oo)],by simp[c2],trivial⟩
 .intro s _;simp only[Ry,Int.lt_irrefl,if_false]
theorem rsunk_eq{l:List Aa}(hl:validL l=true){r:Af}(hr:okRules r=true){p:Aa}(hp:okPt p=true):Jv l p r=some (sunkB l r p):=by
 obtain⟨g1,g2,g3⟩:=Zz hl;have hR:=okRules_rng hr;have key:=Im l (fun (s:Bool) (j:Int)=>(s,j)) (sunkF p r) (Sum.inl:Bool->Sum Bool Bool) (Mg l p r) (fun _ _=>True) ?_ ?_ false trivial
 .unfold Jv sunkB;rw[jn_d,key,Ac];cases foldE (sunkF p r) (Sum.inl:Bool->Sum Bool Bool) l false <;> rfl
 .intro j hj s _;have h0:(j:Int)<(l.length:Int):=oo;have hq:=g2 _ (gM hj);have h1:=okPt_rng hp;have h2:=okPt_rng hq;have hw:w64 (l[j].Z.Lo-p.Z.Hi)=l[j].Z.Lo-p.Z.Hi:=Aq oo oo;have hs:w64 ((j:Int)+1)=((j+1:Nat):Int):=As oo;have hm:w64 (r.Link*r.Link)=r.Link*r.Link:=by have:=Azd (a:=r.Link) (m:=1000000) oo oo;exact Aq oo oo
  unfold sunkF;simp only[Mg,iP h0,Aj hj,Ac,jn_d,apart_eq hq hp,hw,hs,hm]
  by_cases c1:l[j].Id=p.Id
  .left;exact⟨s,by rw[iP (.inl c1)],by simp[c1],trivial⟩
  .by_cases c2:r.Link*r.Link<sq l[j] p
   .left;exact⟨s,by rw[iP (.inr c2)],by simp[c1,c2],trivial⟩
   .rw[iN (by rintro (h|h);exact c1 h;exact c2 h)]
    by_cases c4:l[j].Z.Lo-p.Z.Hi<=r.Low
    .right;exact⟨_,by rw[iP c4],by simp[c1,c2,c4]⟩
    .left;exact⟨true,by rw[iN c4],by simp[c1,c2,c4],trivial⟩
 .intro s _;simp only[Mg,Int.lt_irrefl,if_false]
theorem Qn{α σ τ:Type}(g:σ->α->σ)(fin:σ->τ):∀(l:List α) (s:σ),foldE (fun s x=>.inl (g s x)) fin l s=fin (l.foldl g s)
 |[],s=>rfl
 |x::r,s=>by simp only[foldE,foldl_cons];exact Qn g fin r (g s x)
theorem Afp{α:Type}(p:α->Bool):∀(l acc:List α),l.foldl (fun s x=>if p x=true then s++[x] else s) acc=acc++l.filter p
 |[],acc=>s_
 |x::r,acc=>by
  rw[foldl_cons,Afp p r]
  by_cases h:p x=true
  .rw[iP h,filter_cons_of_pos h];simp
  .rw[iN h,filter_cons_of_neg h]
theorem lfix_filter{α:Type}(l:List α)(p:α->Bool)(B:List α × Int->Option (Sum (List α × Int) (List α)))(h1:∀ (j:Nat) (h:j<l.length) (s:List α),s.length<=j->B (s,j)=some (.inl (if p l[j]=true then s++[l[j]] else s,((j+1:Nat):Int))))(h2:∀ s,B (s,l.length)=some (.inr s)):
  lfix B ([],0)=some (l.filter p):=by
 have:=Im l (fun (s:List α) (j:Int)=>(s,j)) (fun s x=>.inl (if p x=true then s++[x] else s)) (id:List α->List α) B (fun j s=>s.length<=j)
  (fun j hj s hC=>.inl ⟨_,rfl,h1 j hj s hC,by split <;> (first|omega|(simp;omega))⟩) (fun s _=>h2 s) [] (nL _)
 rw[this,Qn,Afp];rfl
def dryL(l:List Aa)(r:Af):List Aa:=l.filter fun p=>!sunkB l r p
def sunkL(l:List Aa)(r:Af):List Aa:=l.filter (sunkB l r)
theorem parted_eq{l:List Aa}(hl:validL l=true){r:Af}(hr:okRules r=true):Qz l r=some (dryL l r,sunkL l r):=by
 obtain⟨g1,g2,g3⟩:=Zz hl;have key:=Im l (fun (s:List Aa×List Aa) (j:Int)=>(s.1,s.2,j)) (fun s x=>.inl (if sunkB l r x=true then (s.1,s.2++[x]) else (s.1++[x],s.2))) (id:_->List Aa×List Aa) (Ns l r)
  (fun j s=>s.1.length<=j/\s.2.length<=j) ?_ ?_ ([],[]) ⟨nL _,nL _⟩
 ·unfold Qz;rw[jn_d];have key':lfix (Ns l r) ([],[],0)=_:=key;rw[key',Ac,Qn];have:∀ (m a b:List Aa),m.foldl (fun (s:List Aa × List Aa) x=>if sunkB l r x=true then (s.1,s.2++[x]) else (s.1++[x],s.2)) (a,b)=(a++m.filter (fun p=>!sunkB l r p),b++m.filter (sunkB l r)):=by
   intro m
   induction m with
   |nil=>intro a b;simp
   |cons x m ih=>
    intro a b;rw[foldl_cons]
    by_cases h:sunkB l r x=true
    .rw[iP h,ih];simp[h]
    .rw[iN h,ih];simp[h]
  rw[this];simp[dryL,sunkL]
 .intro j hj s hC;left;have h0:(j:Int)<(l.length:Int):=oo;refine⟨_,rfl,?_,by split <;> simp <;> omega⟩;simp only[Ns,iP h0,Aj hj,Ac,jn_d,Bb7 hl hr hj,As (oo:j<9223372036854775807)]
  by_cases h:sunkB l r l[j]=true
  .simp only[h,if_true,gd_t (oo:(s.2.length+1)*72<=140737488355328)]
  .simp only[h,if_false,Bool.false_eq_true,gd_t (oo:(s.1.length+1)*72<=140737488355328)]
 .intro s _;simp only[Ns,Int.lt_irrefl,if_false,id]
theorem sorted_sortI(l:LI):(Cq l).Pairwise (·<=·):=by
 have:=pairwise_mergeSort (le:=fun x y:Int=>decide (x<=y)) (fun a b c h1 h2=>by simp at *;omega) (fun a b=>by simp;omega) l;exact this.imp fun h=>by simpa using h
theorem perm_sortI(l:LI):(Cq l).Perm l:=mergeSort_perm _ _
theorem sort_unique{l m:LI}(h:l.Pairwise (·<=·))(hp:l.Perm m):l=Cq m :=
 List.Perm.eq_of_pairwise (fun a b _ _ h h'=>oo) h (sorted_sortI m) (hp.trans (perm_sortI m).symm)
theorem sortI_perm{l m:LI}(h:l.Perm m):Cq l=Cq m:=sort_unique (sorted_sortI l) ((perm_sortI l).trans h)
theorem ids_eq{l:List Aa}(h:l.length<=1024):Yq l=some (Cq (l.map (·.Id))):=by
 unfold Yq;rw[gd_t oo,jn_d];have key:=Im l (fun (s:LI) (j:Int)=>(s,j)) (fun s x=>.inl (s++[x.Id])) (id:LI->LI) (Vz l) (fun j s=>s.length=j) ?_ ?_ [] rfl
 ·rw[key,Ac,Qn];have:∀ (m:List Aa) (a:List Int),m.foldl (fun s x=>s++[x.Id]) a=a++m.map (·.Id):=by
   intro m
   induction m with
   |nil=>intro a;simp
   |cons x m ih=>intro a;rw[foldl_cons,ih];simp
  rw[this];simp only[nil_append,id];rw[gd_t (by simp;omega)]
 .intro j hj s hC;left;have h0:(j:Int)<(l.length:Int):=oo;refine⟨_,rfl,?_,by simp[hC]⟩;simp only[Vz,iP h0,Aj hj,Ac,gd_t (oo:(s.length+1)*8<=140737488355328),As (oo:j<9223372036854775807)]
 .intro s _;simp only[Vz,Int.lt_irrefl,if_false,id]
theorem rids_eq{l:List Aa}(h:l.length<=1024):Dn l=some (Cq (l.map (·.Id))):=by
 unfold Dn;rw[jn_d];have inner:∀(s:LI) (j:Nat) (hj:j<l.length),s.length<=1024->∃k:Nat,k<=s.length/\lfix (Od (s,(j:Int)) l) (s.length:Int)=some (k:Int)/\(∀(i:Nat) (hi:i<s.length),k<=i->l[j].Id<s[i])/\(∀(hk:0<k) (hk':k-1<s.length),s[k-1]<=l[j].Id):=by
  intro s j hj hs;refine Exists.elim (Ax (B:=Od (s,(j:Int)) l) (fun z=>z.toNat) (fun z=>∃k:Nat,z=(k:Int)/\k<=s.length/\∀(i:Nat) (hi:i<s.length),k<=i->l[j].Id<s[i])
   (fun z=>∃k:Nat,z=(k:Int)/\k<=s.length/\(∀(i:Nat) (hi:i<s.length),k<=i->l[j].Id<s[i])/\(∀(hk:0<k) (hk':k-1<s.length),s[k-1]<=l[j].Id)) ?_ _ ⟨s.length,rfl,nL _,fun i hi hk=>oo⟩) (fun t ht=>?_)
  .rintro z ⟨k,rfl,hk,hall⟩;simp only[Od,jn_d]
   by_cases h0:0<k
   .have e1:w64 ((k:Int)-1)=((k-1:Nat):Int):=by rw[Aq oo oo];omega
    have hk1:k-1<s.length:=oo;simp only[iP (oo:(0:Int)<(k:Int)),e1,Aj hk1,Aj hj,Ac,dQ]
    by_cases hc:l[j].Id<s[k-1]
    .left;refine⟨((k-1:Nat):Int),by rw[iP hc],⟨k-1,rfl,oo,fun i hi hki=>?_⟩,oo⟩;rcases Nat.lt_or_ge i k with h|h
     .obtain rfl:i=k-1:=oo;exact hc
     .exact hall i hi h
    .right;exact⟨_,by rw[iN hc],k,rfl,hk,hall,fun _ _=>oo⟩
   .right;exact⟨_,by rw[iN (oo:¬(0:Int)<(k:Int))];simp,k,rfl,hk,hall,fun h=>absurd h h0⟩
  .obtain⟨h1,k,rfl,h3,h4,h5⟩:=ht;exact⟨k,h3,h1,h4,h5⟩
 refine Exists.elim (Ax (B:=Oe l) (fun z=>l.length-z.2.toNat) (fun z=>∃j:Nat,z.2=(j:Int)/\j<=l.length/\z.1.length=j/\z.1.Perm ((l.take j).map (·.Id))/\z.1.Pairwise (·<=·))
  (fun t=>t=Cq (l.map (·.Id))) ?_ ([],0) ⟨0,rfl,Nat.zero_le _,rfl,s_,s_⟩) (fun t ht=>?_)
 .rintro⟨s,z⟩ ⟨j,rfl,hj,hlen,hp,hs⟩;dsimp only at hlen hp hs;rcases Nat.lt_or_ge j l.length with hlt|hge
  .left;obtain⟨k,hk,hf,hgt,hle⟩:=inner s j hlt oo;have e1:subl s (k:Int) (s.length:Int)=s.drop k:=by simp[subl]
   have e2:subl s 0 (k:Int)=s.take k:=by simp[subl]
   refine⟨(s.take k++(l[j].Id::s.drop k),((j+1:Nat):Int)),?_,⟨j+1,rfl,hlt,?_,?_,?_⟩,by simp;omega⟩
   .simp only[Oe,iP (oo:(j:Int)<(l.length:Int)),jn_d,hf,Ac,Aj hlt,e1,e2,As (oo:j<9223372036854775807)];rw[gd_t ⟨oo,oo⟩,gd_t ⟨oo,oo⟩,gd_t (by simp;omega),gd_t (by simp;omega),gd_t s_];rfl
   .simp;omega
   .have:(l.take (j+1)).map (·.Id)=(l.take j).map (·.Id)++[l[j].Id]:=by rw[take_add_one,gE hlt,map_append];rfl
    rw[this];refine perm_middle.trans ((List.Perm.cons _ ?_).trans (perm_append_singleton _ _).symm);rw[take_append_drop];exact hp
   ·have hs1:(s.take k).Pairwise (·<=·):=hs.sublist (take_sublist _ _);have hs2:(s.drop k).Pairwise (·<=·):=hs.sublist (drop_sublist _ _);have hs12:∀ a∈s.take k,∀ b∈s.drop k,a<=b:=by
     have:=hs;rw[<-take_append_drop k s,pairwise_append] at this;exact this.2.2
    have hx1:∀a∈s.take k,a<=l[j].Id:=by
     intro a ha;obtain⟨i,hi,rfl⟩:=mem_take_iff_getElem.1 ha;have hi':i<k:=oo;have h5:=hle oo oo;rcases Nat.lt_or_ge i (k-1) with h6|h6
     .have:=pairwise_iff_getElem.1 hs i (k-1) oo oo h6;omega
     .have:i=k-1:=oo;subst this;exact h5
    have hx2:∀b∈s.drop k,l[j].Id<=b:=by
     intro b hb;obtain⟨i,hi,rfl⟩:=mem_drop_iff_getElem.1 hb;have:=hgt (k+i) oo oo;omega
    rw[pairwise_append];refine⟨hs1,pairwise_cons.2 ⟨hx2,hs2⟩,fun a ha b hb=>?_⟩;rcases mem_cons.1 hb with rfl|hb
    .exact hx1 a ha
    .exact hs12 a ha b hb
  .right;obtain rfl:j=l.length:=oo;refine⟨s,by simp only[Oe,Int.lt_irrefl,if_false],?_⟩;rw[take_length] at hp;exact sort_unique hs hp
 .rw[ht.1,Ac,ht.2]
end X
end Go.Proofs.YthlkpgdfifnagaaGreat
