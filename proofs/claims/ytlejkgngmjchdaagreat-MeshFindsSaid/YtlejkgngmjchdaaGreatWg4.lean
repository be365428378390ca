import Derived.Test.YtlejkgngmjchdaaGreatWh8
namespace Go.Proofs.YtlejkgngmjchdaaGreat
open Go Go.RowKit List
theorem Bae(a b:Nat):Int.tdiv (a:Int) (b:Int)=((a/b:Nat):Int):=(Int.ofNat_tdiv a b).symm
theorem Baf(a b:Nat):Int.tmod (a:Int) (b:Int)=((a%b:Nat):Int):=(Int.ofNat_tmod a b).symm
theorem Aii{b:Nat}(l:LM)(k:Nat)(h:k<l.length):val b (l.drop k)=l[k]+b*val b (l.drop (k+1)):=by
 rw[drop_eq_getElem_cons h];rfl
theorem Asj{B x H V:Nat}(hV:0<V):(x+B*H)/V=(H%V*B+x)/V+B*(H/V)/\(x+B*H)%V=(H%V*B+x)%V:=by
 have e:x+B*H=(H%V*B+x)+V*(B*(H/V)):=by
  have:=Nat.div_add_mod H V
  calc x+B*H=x+B*(V*(H/V)+H%V):=by rw[this]
   _=_:=by rw[Nat.mul_add,<-Nat.mul_assoc,Nat.mul_comm B V,Nat.mul_assoc,Nat.mul_comm B (H%V)];omega
 rw[e];exact⟨by rw[Nat.add_mul_div_left _ _ hV],by rw[Nat.add_mul_mod_self_left]⟩
theorem Awg{B x r V:Nat}(hx:x<B)(hr:r<V):r*B+x<V*B:=by
 have:(r+1)*B<=V*B:=Nat.mul_le_mul_right _ hr;rw[Nat.succ_mul] at this;omega
theorem Bdt{r x:Nat}(hr:r<4294967296)(hx:x<4294967296):Fb .u64 (shl_ .u64 (r:Int) 32) (wu64 (x:Int))=((r*4294967296+x:Nat):Int):=by
 have e1:shl_ .u64 (r:Int) 32=((r*4294967296:Nat):Int):=by
  show IntKind.wrap .u64 ((r:Int)*2^(min (32:Int).toNat 64))=_;rw[show (2:Int)^(min (32:Int).toNat 64)=4294967296 from by decide,IntKind.wrap_u64];omega
 rw[e1,Db oo];unfold Fb;have e:(BitVec.ofInt IntKind.u64.bits ((r*4294967296:Nat):Int) ||| BitVec.ofInt IntKind.u64.bits (x:Int)).toNat=r*4294967296+x:=by
  show (BitVec.ofInt 64 ((r*4294967296:Nat):Int) ||| BitVec.ofInt 64 (x:Int)).toNat=_;rw[BitVec.toNat_or];have k:∀n:Nat,n<18446744073709551616->(BitVec.ofInt 64 (n:Int)).toNat=n:=fun n hn=>by
   simp[BitVec.toNat_ofInt];omega
  rw[k _ oo,k _ oo,show r*4294967296=2^32*r by omega,<-Nat.two_pow_add_eq_or_of_lt oo]
 rw[e];exact Db oo
theorem Bb6(l:List Nat)(d:Nat)(hl:∀ x∈l,x<4294967296)(hd:0<d)(hd2:d<4294967296)(h1:l.length<=1000000):
  Lk (nI l) (d:Int)=some (L32 (val 4294967296 l/d),((val 4294967296 l%d:Nat):Int)):=by
 have hwd:wu64 (d:Int)=(d:Int):=Db oo;obtain⟨t,ht,o,rfl,ho1,ho3,ho2⟩:=Bp (B:=Py (nI l) (d:Int)) (fun s=>(s.2.2+1).toNat)
  (fun s=>∃(o:LM) (k:Nat),s=(nI o,((val 4294967296 (l.drop k)%d:Nat):Int),(k:Int)-1)/\o.length=l.length/\k<=l.length/\(∀x∈o,x<4294967296)/\val 4294967296 (o.drop k)=val 4294967296 (l.drop k)/d)
  (fun t=>∃o:LM,t=(nI o,((val 4294967296 l%d:Nat):Int))/\(∀x∈o,x<4294967296)/\o.length<=1000000/\val 4294967296 o=val 4294967296 l/d) (by
   rintro s ⟨o,k,rfl,hC1,hC2,hC3,hC4⟩;unfold Py
   by_cases hk:k=0
   .right;subst hk;exact⟨_,by simp only[];rw[iN oo],o,by rw[drop_zero],hC3,oo,sV hC4⟩
   .left;have h1':k-1<l.length:=oo;have h2':k-1<o.length:=oo;have hx:=hl _ (gM h1');have hr:val 4294967296 (l.drop k)%d<d:=Nat.mod_lt _ hd;have e:val 4294967296 (l.drop (k-1))=l[k-1]+4294967296*val 4294967296 (l.drop k):=by rw[Aii l (k-1) h1',show k-1+1=k by omega]
    obtain⟨e1,e2⟩:=Asj (B:=4294967296) (x:=l[k-1]) (H:=val 4294967296 (l.drop k)) hd;have hlt:=Awg hx hr;have hq:(val 4294967296 (l.drop k)%d*4294967296+l[k-1])/d<4294967296:=Nat.div_lt_of_lt_mul oo;refine⟨(nI (o.set (k-1) ((val 4294967296 (l.drop k)%d*4294967296+l[k-1])/d)),((val 4294967296 (l.drop (k-1))%d:Nat):Int),((k-1:Nat):Int)-1),?_,⟨_,k-1,rfl,by simp[hC1],oo,?_,?_⟩,by simp;omega⟩
    ·simp only[];rw[if_pos oo,show ((k:Int)-1)=((k-1:Nat):Int) from by omega,Bu h1',Ac,hwd,gd_t oo,Bu h2',Ac,gd_t oo];have e3:=Bdt (r:=val 4294967296 (l.drop k) % d) (x:=l[k-1]) (Nat.lt_trans hr hd2) hx;have e4:w64 (((k-1:Nat):Int)-1)=((k-1:Nat):Int)-1:=by
      clear e e1 e2 e3 hlt hq hr hx hC4 hC3;exact Av oo oo
     rw[e3,Bae,Baf,Db (Nat.lt_trans hq dD),Zo hq,Kh,e,e2,e4]
    .intro x hx';rcases mem_or_eq_of_mem_set hx' with h|rfl
     .exact hC3 x h
     .exact hq
    .rw[Aii _ _ (sV h2'),getElem_set_self,show k-1+1=k by omega,drop_set_of_lt oo,hC4,e,e1])
  (nI (List.replicate l.length 0),0,(l.length:Int)-1) ⟨List.replicate l.length 0,l.length,by simp[val],s_,nL _,s_,by simp[val]⟩
 unfold Lk;simp only[jn_d,Bm,Int.toNat_natCast,Rg];rw[gd_t ⟨oo,oo⟩,Av oo oo,ht,Ac];simp only[];rw[Sv _ oo,Ac,Qb oo o ho1,ho2,Zo (Nat.lt_trans (Nat.mod_lt _ hd) hd2)];rfl
theorem Bb7{a d:Nat}(h:(dig 4294967296 a).length<=1000000)(hd:0<d)(hd2:d<4294967296):Lk (L32 a) (d:Int)=some (L32 (a/d),((a%d:Nat):Int)):=by
 have:=Bb6 _ d (W_lt (a:=a)) hd hd2 h
 rwa [Ch oo] at this
end Go.Proofs.YtlejkgngmjchdaaGreat
set_option maxRecDepth 100000
namespace Go.Proofs.YtlejkgngmjchdaaGreat
open Go Go.RowKit List
theorem Alz{B:Nat}{U:LM}{n:Nat}(hl:U.length=n+1):val B (U.set n 0)=val B (U.take n):=by
 have s:=Po (B:=B) (U.set n 0) n (by rw[length_set];omega);have e:(U.set n 0).take n=U.take n:=by rw[take_set,set_eq_of_length_le (by rw[length_take];omega)]
 rw[En _ _ (by rw[length_set];omega),getElem_set_self,drop_set,drop_eq_nil_of_le oo,e] at s;rw[s];simp[val]
theorem Bdu{y c b:Nat}(hy:y<4294967296)(hc:c<4294967296)(hb:b<=1):
  (y=c+b->wu64 (wu64 (wu64 ((y:Nat):Int)-((c:Nat):Int))-((b:Nat):Int))=0)/\(c+b=y+1->wu64 (wu64 (wu64 ((y:Nat):Int)-((c:Nat):Int))-((b:Nat):Int))=18446744073709551615):=by
 rw[Db (oo:y<18446744073709551616)];constructor <;> intro h <;> rw[We,We] <;> omega
theorem Al0{n:Nat}{u v:List Nat}(hn:n<=900000)(hv:v.length=n+2)(hu:u.length=n+3)(wv:∀ x∈v,x<4294967296)(wu:∀ x∈u,x<4294967296)(htop:0<v[n+1])(hlt:val 4294967296 u<4294967296*val 4294967296 v):
  ∃w',Ll (nI u) (nI v)=some (nI w',((val 4294967296 u/val 4294967296 v:Nat):Int))/\w'.length=u.length/\(∀x∈w',x<4294967296)/\val 4294967296 w'=val 4294967296 u%val 4294967296 v:=by
 have hB:0<4294967296:=dD;have hest:=@Alh 4294967296 n u v hB hv hu wv wu htop hlt;have hV:0<val 4294967296 v:=by
  refine Nat.pos_of_ne_zero fun e=>?_
  rw[e,Nat.mul_zero] at hlt;omega
 have hQ:val 4294967296 u/val 4294967296 v<4294967296:=by rw[Nat.div_lt_iff_lt_mul hV];exact hlt
 have g1:=wv _ (gM (oo:n+1<v.length));have k1:=wu _ (gM (oo:n+1<u.length));have k2:=wu _ (gM (oo:n+2<u.length));have i0:idx (nI u) (((nI v).length:Nat):Int)=some ((u[n+2]:Nat):Int):=by
  rw[Bm,hv,Bu oo]
 have i1:idx (nI u) (w64 ((((nI v).length:Nat):Int)-1))=some ((u[n+1]:Nat):Int):=by
  rw[Bm,Av oo oo,show (v.length:Int)-1=((n+1:Nat):Int) by omega,Bu oo]
 have i2:idx (nI v) (w64 ((((nI v).length:Nat):Int)-1))=some ((v[n+1]:Nat):Int):=by
  rw[Bm,Av oo oo,show (v.length:Int)-1=((n+1:Nat):Int) by omega,Bu oo]
 have hloop:=Au7 oo hv hu wv wu htop hlt;have hq1:min (4294967296-1) (((u[n+2]*4294967296+u[n+1])*4294967296+u[n])/(v[n+1]*4294967296+v[n]))<4294967296:=Nat.lt_of_le_of_lt (Nat.min_le_left _ _) dD;obtain⟨q,hq⟩:∃q,q=min (4294967296-1) (((u[n+2]*4294967296+u[n+1])*4294967296+u[n])/(v[n+1]*4294967296+v[n])):=⟨_,rfl⟩;rw[<-hq] at hloop hq1 hest;obtain⟨U,b,c,s1,s2,s3,s4,s5,s6,s7⟩:=Ann (q:=q) u v oo wv wu hq1 oo;have hUn:U.length=n+3:=oo;have hUtop:U[n+2]=u[n+2]:=by
  have s4':=s4;rw[hv] at s4';exact Afb s4' oo oo
 have R:=Ar0 (B:=4294967296) (q:=q) (b:=b) (c:=c) hB oo wu wv hV hest.2.1 hest.2.2 s2 s3 s4 s7;simp only[hv] at R s7;have j0:idx (nI U) (((nI v).length:Nat):Int)=some ((u[n+2]:Nat):Int):=by
  rw[Bm,hv,Bu oo,hUtop]
 obtain⟨t0,t1⟩:=Bdu k2 s6 s5;have pre:Ll (nI u) (nI v)=(if shr_ .u64 (wu64 (wu64 (wu64 ((u[n+2]:Nat):Int)-((c:Nat):Int))-((b:Nat):Int))) 63=0 then some (setI (nI U) (((nI v).length:Nat):Int) (wu32 (wu64 (wu64 (wu64 ((u[n+2]:Nat):Int)-((c:Nat):Int))-((b:Nat):Int)))),wu32 ((q:Nat):Int))
   else bnd (lfix (Gc (nI v)) (setI (nI U) (((nI v).length:Nat):Int) (wu32 (wu64 (wu64 (wu64 ((u[n+2]:Nat):Int)-((c:Nat):Int))-((b:Nat):Int)))),0,0)) fun s=>
    bnd (idx s.1 (((nI v).length:Nat):Int)) fun z=>bnd (idx s.1 (((nI v).length:Nat):Int)) fun _=>some (setI s.1 (((nI v).length:Nat):Int) (wu32 (z+s.2)),wu32 (wu64 (((q:Nat):Int)-1)))):=by
  unfold Ll;have hU:u[n+2]*4294967296+u[n+1]<18446744073709551616:=oo;have hd:=Nat.lt_of_le_of_lt (Nat.div_le_self (u[n+2]*4294967296+u[n+1]) v[n+1]) hU;rw[i0,Ac,i1,Ac,i2,Ac,Db (oo:v[n+1]<18446744073709551616),gd_t oo,Ac,Db (oo:v[n+1]<18446744073709551616),gd_t oo,jn_d,Db (oo:u[n+2]<18446744073709551616),Db (oo:u[n+1]<18446744073709551616),Az7 k1 k2,Bae,Baf,Db hd,hloop,Ac];dsimp only;rw[jn_d,s1,Ac];dsimp only;rw[j0,Ac,Ac,Db (oo:u[n+2]<18446744073709551616)];rfl
 rw[pre];rcases R with⟨r1,r2,r3⟩|⟨r1,r2,r3⟩
 .refine⟨U.set (n+2) 0,?_,by rw[length_set];exact s2,Yg s3 dD,?_⟩
  .rw[t0 r2,iP (by rw[show (0:Int)=((0:Nat):Int) from rfl,show (63:Int)=((63:Nat):Int) from rfl,Aia 0 63 oo]),Bm,hv,show wu32 0=((0:Nat):Int) from by decide,Kh,Zo hq1,r1]
  .rw[Alz oo,r3]
 .rw[t1 r2,iN (by rw[show (18446744073709551615:Int)=((18446744073709551615:Nat):Int) from rfl,show (63:Int)=((63:Nat):Int) from rfl,Aia _ 63 oo];decide),Bm,hv,show wu32 18446744073709551615=((4294967295:Nat):Int) from by decide,Kh];obtain⟨U2,c2,a1,a2,a3,a4,a5,a6⟩:=Ano (U.set (n+2) 4294967295) v oo wv (Yg s3 dD) (by rw[length_set];omega);simp only[hv] at a4 a6;have hlen2:U2.length=n+3:=by rw[a2,length_set];exact hUn
  have htk:(U.set (n+2) 4294967295).take (n+2)=U.take (n+2):=by rw[take_set,set_eq_of_length_le (by rw[length_take];omega)]
  rw[htk] at a6;obtain⟨c2e,w2e⟩:=r3 (val 4294967296 (U2.take (n+2))) c2 (Tz a3 (n+2) oo) a6;have h2top:U2[n+2]=4294967295:=by
   have:=Afb (i:=n+2) a4 oo (by rw[length_set];omega);rw[this,getElem_set_self]
  refine⟨U2.set (n+2) 0,?_,by rw[length_set,a2,length_set];exact s2,Yg a3 dD,?_⟩
  .rw[a1,Ac];dsimp only;rw[Bu oo,Ac,Ac,h2top,c2e,show wu32 (((4294967295:Nat):Int)+((1:Nat):Int))=((0:Nat):Int) from by decide,Kh,r1,show (((val 4294967296 u/val 4294967296 v+1:Nat):Int)-1)=((val 4294967296 u/val 4294967296 v:Nat):Int) by omega,Db (Nat.lt_trans hQ dD),Zo hQ]
  .rw[Alz oo,w2e]
def NW(a:Nat):Nat:=(dig 4294967296 a).length
theorem Aee(a:Nat):a<4294967296^NW a:=by
 have h:=Uh (b:=4294967296) (dig 4294967296 a) (W_lt (a:=a))
 rwa [Ch oo] at h
theorem Yw{a k:Nat}(h:a<4294967296^k):NW a<=k:=Ai4 oo k _ h
theorem Sy{a b:Nat}(h:a<=b):NW a<=NW b:=Yw (Nat.lt_of_le_of_lt h (Aee b))
theorem Ym(a b:Nat):NW (a*b)<=NW a+NW b:=by
 refine Yw ?_;rw[Nat.pow_add];exact Nat.mul_lt_mul'' (Aee a) (Aee b)
theorem An9{i j:Nat}(h:i<=j):(4294967296:Nat)^i<=4294967296^j:=Nat.pow_le_pow_right oo h
theorem Bb8{a b k:Nat}(ha:NW a<=k)(hb:NW b<=k):NW (a+b)<=k+1:=by
 refine Yw ?_;have h1:=Nat.lt_of_lt_of_le (Aee a) (An9 ha);have h2:=Nat.lt_of_lt_of_le (Aee b) (An9 hb);rw[Nat.pow_succ];omega
theorem Ab1{d:Nat}(hd:0<d):NW d=1↔d<4294967296:=by
 constructor
 .intro h;have:=Aee d;rw[h] at this;simpa using this
 .intro h;unfold NW;rw[Hw oo oo,Nat.div_eq_of_lt h,Hy];rfl
theorem Ago{d:Nat}(hd:0<d):0<NW d:=by
 unfold NW;rw[Hw oo oo];simp
theorem Acu{d:Nat}(hd:0<d)(hd2:d<4294967296):L32 d=[(d:Int)]:=by unfold L32;rw[Hw oo oo,Nat.div_eq_of_lt hd2,Hy,Nat.mod_eq_of_lt hd2];rfl
theorem Pu(a:Nat):(L32 a).length=NW a:=Bm
end Go.Proofs.YtlejkgngmjchdaaGreat
set_option maxRecDepth 100000
namespace Go.Proofs.YtlejkgngmjchdaaGreat
open Go Go.RowKit List
theorem Ajz{s:Nat}(hs:s<=31):2^s ∣ 4294967296:=⟨2^(32-s),by
 rw[<-Nat.pow_add,show s+(32-s)=32 by omega]⟩
theorem Al1{s:Nat}(hs:s<=31):2^s<=2147483648:=by
 have:=Nat.pow_le_pow_right (oo:0<2) hs;omega
theorem Bag{s:Nat}{l:LM}(hs:s<=31)(hl:∀x∈l,x<4294967296)(hn:l.length<=100000):Ko (nI l) (s:Int)=some (L32 (val 4294967296 l*2^s)):=by
 have hp:=Al1 hs;have hp0:0<2^s:=Nat.two_pow_pos s;obtain⟨out,h1,h2,h3,h4⟩:=Au1 (f:=Ii (nI l) (s:Int)) (fun out i=>(nI out,((i:Nat):Int))) (B:=4294967296) (S:=2^s) l hp0 (Ajz hs) dD hl (fun out i hi ho hlen hw hx k1 k2=>by
  have a1:=hl _ (gM hi);have hm:l[i]*2^s<=4294967295*2147483648:=Nat.mul_le_mul oo hp;have e1:shl_ .u64 (wu64 ((l[i]:Nat):Int)) (wu64 ((s:Nat):Int))=((l[i]*2^s:Nat):Int):=by
   rw[Db (oo:l[i]<18446744073709551616),Db (oo:s<18446744073709551616),Bdb _ _ oo oo]
  obtain⟨k,hk⟩:2^s ∣ l[i]*2^s%4294967296:=(Nat.dvd_mod_iff (Ajz hs)).2 (Nat.dvd_mul_left _ _);have e2:Fb .u32 ((out[i]:Nat):Int) (wu32 ((l[i]*2^s:Nat):Int))=((out[i]+l[i]*2^s%4294967296:Nat):Int):=by
   rw[Ua,hk,Nat.mul_comm,or32 hx (by rw[Nat.mul_comm k,<-hk];omega)]
  unfold Ii;dsimp only;have g0:(0:Int)<=wu64 ((s:Nat):Int):=by rw[Db (oo:s<18446744073709551616)];omega
  rw[iP (by rw[Bm];omega),Bu hi,Ac,gd_t g0,Bu ho,Ac,Ac,e1,e2,show (32:Int)=((32:Nat):Int) from rfl,Aia _ 32 oo,Kh,Bd oo,Bu (by rw[length_set];omega),Ac];have e3:wu32 ((l[i]*2^s/2^32:Nat):Int)=((l[i]*2^s/4294967296:Nat):Int):=by
   rw[show (2:Nat)^32=4294967296 from by decide,Zo oo]
  rw[e3,Kh])
 have hend:lfix (Ii (nI l) (s:Int)) (nI out,(l.length:Int))=some (nI out):=by
  rw[Ax];unfold Ii;dsimp only;rw[iN (by rw[Bm];omega)]
 unfold Ko;rw[Bm,Bd oo,gd_t ⟨oo,oo⟩,Int.toNat_natCast,Rg,jn_d];have h1':lfix (Ii (nI l) (s:Int)) (nI (List.replicate (l.length+1) 0),0)=some (nI out):=Eq.trans h1 hend;rw[h1',Ac];dsimp only;rw[Sv _ oo,Ac,Qb oo out h3,h4];rfl
theorem Bdv{s:Nat}{l:LM}(hs:s<=31)(hl:∀x∈l,x<4294967296)(hn:l.length<=100000):Pn (nI l) (s:Int)=some (L32 (val 4294967296 l/2^s)):=by
 have hp0:0<2^s:=Nat.two_pow_pos s;obtain⟨out,h1,h2,h3,h4⟩:=Au3 (f:=Ih (nI l) (s:Int)) (fun out i=>(nI out,((i:Nat):Int))) (B:=4294967296) (S:=2^s) l (List.replicate l.length 0) hp0 (Ajz hs) dD hl s_ (fun x hx=>by rw[eq_of_mem_replicate hx];decide) (fun out i hi ho hlen hw=>by
  have a1:=hl _ (gM hi);have fin:∀t:Nat,t<18446744073709551616->(gd (0<=wu64 ((s:Nat):Int)) <| bnd (idx (nI out) ((i:Nat):Int)) fun x2=>some (Sum.inl (β:=LI) (setI (nI out) ((i:Nat):Int) (wu32 (shr_ .u64 ((t:Nat):Int) (wu64 ((s:Nat):Int)))),((i+1:Nat):Int))))=some (Sum.inl (nI (out.set i (t/2^s%4294967296)),((i+1:Nat):Int))):=fun t ht=>by
   rw[Db (oo:s<18446744073709551616),gd_t oo,Bu ho,Ac,Aia _ _ oo,Ua,Kh]
  unfold Ih;dsimp only;rw[iP (by rw[Bm];omega),Bu hi,Ac,jn_d,Bd oo,Db (oo:l[i]<18446744073709551616)]
  by_cases c:i+1<l.length
  .have a2:=hl _ (gM c);rw[iP (by rw[Bm];omega),Bu c,Ac,Db (oo:l[i+1]<18446744073709551616),or64 a1 a2,gE c,Option.getD_some];exact fin _ oo
  .rw[iN (by rw[Bm];omega),List.getElem?_eq_none oo,Option.getD_none,Nat.mul_zero,Nat.add_zero];exact fin _ oo)
 have hend:lfix (Ih (nI l) (s:Int)) (nI out,(l.length:Int))=some (nI out):=by
  rw[Ax];unfold Ih;dsimp only;rw[iN (by rw[Bm];omega)]
 unfold Pn;rw[Bm,gd_t ⟨oo,oo⟩,Int.toNat_natCast,Rg,jn_d];have h1':lfix (Ih (nI l) (s:Int)) (nI (List.replicate l.length 0),0)=some (nI out):=Eq.trans h1 hend;rw[h1',Ac];dsimp only;rw[Sv _ oo,Ac,Qb oo out h3,h4];rfl
theorem Ay5:∀x:Fin 256,0<x.val->∃t:Fin 9,Pp[x.val]? = some (t.val:Int)/\1<=t.val/\2^(t.val-1)<=x.val/\x.val<2^t.val:=by decide +kernel
theorem Ay6{x:Nat}(h0:0<x)(h:x<256):∃t:Nat,t<=8/\idx Pp (wu8 (x:Int))=some (t:Int)/\1<=t/\2^(t-1)<=x/\x<2^t:=by
 obtain⟨t,e,h1,h2,h3⟩:=Ay5 ⟨x,h⟩ h0;refine⟨t.val,oo,?_,h1,h2,h3⟩;have e8:wu8 (x:Int)=(x:Int):=by
  unfold wu8;rw[IntKind.wrap_u8];omega
 rw[e8];unfold idx;rw[iP oo];simpa using e
theorem Awh(n j:Nat)(h:j<=32):shr_ .u32 (n:Int) (j:Int)=((n/2^j:Nat):Int):=by
 unfold shr_;have e:min ((j:Int)).toNat IntKind.u32.bits=j:=by
  have:IntKind.u32.bits=32:=rfl;rw[this];omega
 rw[e,Int.fdiv_eq_ediv_of_nonneg _ (by exact_mod_cast Nat.zero_le (2^j))];norm_cast
theorem Aij{x n:Nat}(h0:0<x)(h:x<256)(hn:n<=24):∃t:Nat,1<=t/\t<=32/\(bnd (idx Pp (wu8 (x:Int))) fun x16=>some (w64 ((n:Int)+(w64 x16))))=some (t:Int):=by
 obtain⟨t,h8,e,h1,_,_⟩:=Ay6 h0 h;rw[e,Ac];refine⟨n+t,oo,oo,?_⟩;rw[Ol oo,Av oo oo];norm_cast
theorem Ap9{x n:Nat}(h0:0<x)(h:x<65536)(hn:n<=16):∃ t:Nat,1<=t/\t<=32 /\
  (jn (fun (s8:Int×Int)=>bnd (idx Pp (wu8 s8.1)) fun x16=>some (w64 (s8.2+(w64 x16)))) (fun j8=>if 256<=(x:Int) then (j8 (shr_ .u32 (x:Int) 8,w64 ((n:Int)+8))) else (j8 ((x:Int),(n:Int)))))=some (t:Int):=by
 rw[jn_d]
 by_cases c:256<=(x:Int)
 .rw[iP c];have e:w64 ((n:Int)+8)=((n+8:Nat):Int):=by rw[Av oo oo];norm_cast
  rw[show shr_ .u32 (x:Int) 8=((x/2^8:Nat):Int) from Awh x 8 oo,e];exact Aij oo oo oo
 .rw[iN c];exact Aij h0 oo oo
theorem Bb9(y:Nat)(h0:0<y)(h:y<4294967296):∃s:Nat,s<=31/\Dw ((y:Nat):Int)=some ((s:Nat):Int):=by
 have key:∃t:Nat,1<=t/\t<=32/\Mk (y:Int)=some (t:Int):=by
  unfold Mk;rw[jn_d]
  by_cases c:65536<=(y:Int)
  .rw[iP c,show shr_ .u32 (y:Int) 16=((y/2^16:Nat):Int) from Awh y 16 oo];exact Ap9 (n:=16) oo oo oo
  .rw[iN c];exact Ap9 (n:=0) h0 oo oo
 obtain⟨t,h1,h2,e⟩:=key;refine⟨32-t,oo,?_⟩;unfold Dw;rw[e,Ac,Av oo oo];congr 1;omega
def L16(m:Nat):LI:=nI (dig 65536 m)
def Z16(z:Int):Ae:=⟨decide (z<0),L16 z.natAbs⟩
theorem Aj0{l:LM}{k:Nat}:(nI l).take k=nI (l.take k):=by simp[nI]
theorem Aik:∀(l:LM),nrm (l++[0])=nrm l
 |[]=>rfl
 |x::r=>by simp only[cons_append,nrm];rw[Aik r]
theorem Al2:∀(l:LM) {x:Nat},x≠0->nrm (l++[x])=l++[x]
 |[],x,h=>by simp[nrm,h]
 |y::r,x,h=>by
  simp only[cons_append,nrm];rw[Al2 r h];cases r <;> rfl
theorem Aay(l:LM)(h9:l.length<=1000000000):Br (nI l)=some (nI (nrm l)):=by
 obtain⟨t,ht,k,rfl,hk,hn⟩:=Bp (B:=Om (nI l)) (fun s=>s.toNat)
  (fun s=>∃k:Nat,s=(k:Int)/\k<=l.length/\nrm (l.take k)=nrm l)
  (fun t=>∃k:Nat,t=(k:Int)/\k<=l.length/\l.take k=nrm l) (by
   rintro s ⟨k,rfl,hk,hn⟩;unfold Om;simp only[jn_d]
   by_cases h0:k=0
   .right;subst h0;refine⟨((0:Nat):Int),by rw[iN oo];rfl,0,rfl,oo,?_⟩;rw[<-hn];rfl
   ·have h1:k-1<l.length:=oo;rw[if_pos oo,show ((k:Int)-1)=((k-1:Nat):Int) from by omega,Ol oo,Bu h1,Ac];have e:l.take k=l.take (k-1)++[l[k-1]]:=by
     obtain⟨q,rfl⟩:=Nat.exists_eq_succ_of_ne_zero h0;simp only[Nat.succ_eq_add_one,Nat.add_sub_cancel] at h1⊢;rw[take_add_one,gE h1];rfl
    by_cases hz:l[k-1]=0
    .left;refine⟨((k-1:Nat):Int),by rw[iP (by simp[hz])],⟨k-1,rfl,oo,?_⟩,oo⟩;rw[<-hn,e,hz,Aik]
    .right;refine⟨(k:Int),by rw[iN (by simp;omega)],k,rfl,hk,?_⟩;rw[<-hn,e,Al2 _ hz])
  (l.length:Int) ⟨l.length,rfl,oo,by rw[take_length]⟩
 unfold Br;simp only[jn_d,Bm];rw[ht,Ac,gd_t oo,Ak5,Int.toNat_natCast,Aj0,hn]
theorem Aj1(a:Nat):Int.tmod (a:Int) 65536=((a%65536:Nat):Int):=by rw[Int.tmod_eq_emod_of_nonneg oo];omega
theorem Aj2(a:Nat):Int.tdiv (a:Int) 65536=((a/65536:Nat):Int):=by rw[Int.tdiv_eq_ediv_of_nonneg oo];omega
theorem Fe{m : Nat}: ∀ {k : Nat}, m<65536 ^ k -> (dig 65536 m).length <= k := by
  intro k
  induction k generalizing m with
  | zero => intro h;obtain rfl : m = 0 := by simpa using h
            simp[Hy]
  | succ k ih=>
    intro h
    by_cases h0:m=0
    · subst h0;simp[Hy]
    · rw[Hw oo h0, length_cons];have:=ih (m:=m/65536) (Nat.div_lt_of_lt_mul (by rw[Nat.pow_succ, Nat.mul_comm] at h;exact h));omega
theorem Al3{z:Int}(h1:-9223372036854775808<=z)(h2:z<=9223372036854775807):Kx z=some (Z16 z):=by
 have key:∀m:Nat,m<18446744073709551616->lfix Jv ((m:Int),([]:LI))=some (L16 m):=by
  intro m hm;have h4:(dig 65536 m).length<=4:=Fe oo;obtain⟨t,ht,hR⟩:=Bp (B:=Jv) (fun s=>s.1.toNat)
   (fun s=>∃(u:Nat) (o:LM),s=((u:Int),nI o)/\dig 65536 m=o++dig 65536 u/\u<18446744073709551616)
   (fun t=>t=L16 m) (by
    rintro s ⟨u,o,rfl,hd,hu⟩;unfold Jv
    by_cases h0:u=0
    .right;subst h0;exact⟨_,by simp only[];rw[iN oo],by rw[Hy,append_nil] at hd;unfold L16;rw[hd]⟩
    .left;have ho:o.length<=4:=by have:=congrArg List.length hd;rw[length_append] at this;omega
     refine⟨(((u/65536:Nat):Int),nI (o++[u%65536])),?_,⟨u/65536,_,rfl,?_,oo⟩,by simp;omega⟩
     .simp only[Bm];rw[iP oo,gd_t oo,Aj2,Aj1,Ol oo,Auv oo];simp[nI]
     .rw[hd,Hw oo h0,append_assoc];rfl)
   ((m:Int),nI []) ⟨m,[],rfl,rfl,hm⟩
  rw[<-hR];exact ht
 unfold Kx;simp only[jn_d]
 by_cases h:z<0
 .rw[iP h,show wu64 (-(wu64 z))=((z.natAbs:Nat):Int) from by rw[We,We];omega,key _ oo,Ac];rfl
 .rw[iN h,show wu64 z=((z.natAbs:Nat):Int) from by rw[We];omega,key _ oo,Ac];rfl
theorem Ay7(l r:List Nat)(hl:∀ x∈l,x<65536)(hr:∀ x∈r,x<65536)(hb:l.length+r.length<=1000000):
  Dh (nI l) (nI r)=some (L16 (val 65536 l*val 65536 r)):=by
 have e:w64 ((((nI l).length:Nat):Int)+(((nI r).length:Nat):Int))=((l.length+r.length:Nat):Int):=by rw[Bm,Bm,Av oo oo];omega
 obtain⟨t,ht,out,rfl,hd⟩:=Bp (B:=Ho (nI l) (nI r)) (fun s=>l.length-s.2.toNat)
  (fun s=>∃(out:LM) (i:Nat),s=(nI out,(i:Int))/\out.length=l.length+r.length/\i<=l.length/\(∀x∈out,x<65536)/\(∀(q:Nat) (h:q<out.length),i+r.length<=q->out[q]=0)/\val 65536 out=val 65536 (l.take i)*val 65536 r)
  (fun t=>∃out,t=nI out/\out.length<=1000000000/\nrm out=dig 65536 (val 65536 l*val 65536 r)) (by
   rintro s ⟨out0,i,rfl,hC1,hC2,hC3,hC4,hC5⟩
   by_cases hi:i<l.length
   ·left;obtain⟨t,ht,out,cy,rfl,hD1,hD2,hD4,hD5,hD6⟩:=Bp (B:=Hn (nI r) (nI l) (nI out0,(i:Int))) (fun s=>r.length-s.2.2.toNat)
     (fun s=>∃(out:LM) (cy j:Nat),s=(nI out,(cy:Int),(j:Int))/\out.length=l.length+r.length/\cy<65536/\j<=r.length/\(∀x∈out,x<65536)/\(∀(q:Nat) (h:q<out.length),i+r.length<=q->out[q]=0)/\val 65536 out+cy*65536^(i+j)=val 65536 out0+l[i]*val 65536 (r.take j)*65536^i)
     (fun t=>∃(out:LM) (cy:Nat),t=(nI out,(cy:Int))/\out.length=l.length+r.length/\cy<65536/\(∀x∈out,x<65536)/\(∀(q:Nat) (h:q<out.length),i+r.length<=q->out[q]=0)/\val 65536 out+cy*65536^(i+r.length)=val 65536 out0+l[i]*val 65536 (r.take r.length)*65536^i) (by
      rintro s ⟨out,cy,j,rfl,hD1,hD2,hD3,hD4,hD5,hD6⟩
      by_cases hj:j<r.length
      .left;have hk:i+j<out.length:=oo;have h1:=hl _ (gM hi);have h2:=hr _ (gM hj);have h3:=hD4 _ (gM hk);have hmm:=Ak1 h1 h2;have e1:w64 ((i:Int)+(j:Int))=((i+j:Nat):Int):=by rw[Av oo oo];omega
       have e2:w64 (w64 (w64 ((l[i]:Int)*(r[j]:Int))+(out[i+j]:Int))+(cy:Int))=((l[i]*r[j]+out[i+j]+cy:Nat):Int):=by
        have e3:w64 ((l[i]:Int)*(r[j]:Int))=((l[i]*r[j]:Nat):Int):=by rw[<-Int.natCast_mul];exact Ol oo
        rw[e3,<-Int.natCast_add,Ol oo,<-Int.natCast_add,Ol oo]
       have e4:w64 (((l[i]*r[j]+out[i+j]+cy)/65536:Nat):Int)=(((l[i]*r[j]+out[i+j]+cy)/65536:Nat):Int):=Ol oo;refine⟨(nI (out.set (i+j) ((l[i]*r[j]+out[i+j]+cy)%65536)),(((l[i]*r[j]+out[i+j]+cy)/65536:Nat):Int),((j+1:Nat):Int)),?_,⟨_,_,_,rfl,Ak2 hi hj rfl rfl h1 h2 hD1 hD2 hD3 hD4 hD5 hD6 hk⟩,by simp;omega⟩;unfold Hn;simp only[e1];rw[iP (by rw[Bm];omega),Bu hi,Ac,Bu hj,Ac,Bu hk,Ac,Ac,e2,Aj1,Aj2,e4,Kh,Bd oo]
      .right;obtain rfl:j=r.length:=oo;refine⟨(nI out,(cy:Int)),?_,out,cy,rfl,hD1,hD2,hD4,hD5,hD6⟩;unfold Hn;simp only[];rw[iN (by rw[Bm];omega)])
     (nI out0,((0:Nat):Int),((0:Nat):Int)) ⟨out0,0,0,rfl,hC1,oo,oo,hC3,fun q hq hiq=>hC4 q hq oo,by simp[val]⟩
    have hk:i+r.length<out.length:=oo;refine⟨(nI (out.set (i+r.length) (cy%65536)),((i+1:Nat):Int)),?_,⟨_,_,rfl,Ak3 hi rfl rfl hD1 hD2 hD4 hD5 hD6 hC5 rfl⟩,by simp;omega⟩;unfold Ho;simp only[jn_d];have ht':lfix (Hn (nI r) (nI l) (nI out0,(i:Int))) (nI out0,0,0)=some (nI out,(cy:Int)):=ht;rw[iP (by rw[Bm];omega),ht',Ac,Bm,show w64 ((i:Int)+(r.length:Int))=((i+r.length:Nat):Int) from by rw[Av oo oo];omega,Bu hk,Ac];simp only[];rw[Kh,Bd oo,Nat.mod_eq_of_lt hD2]
   .right;refine⟨nI out0,?_,out0,rfl,oo,Ana (i:=i) oo rfl hC1 hC3 hC5⟩;unfold Ho;simp only[];rw[iN (by rw[Bm];omega)])
  (nI (List.replicate (l.length+r.length) 0),((0:Nat):Int)) ⟨_,0,rfl,s_,oo,s_,s_,by simp[val,Uv]⟩
 unfold Dh;simp only[e,jn_d,Int.toNat_natCast,Rg];have ht':lfix (Ho (nI l) (nI r)) (nI (List.replicate (l.length+r.length) 0),0)=some (nI out):=ht;rw[gd_t ⟨oo,oo⟩,ht',Ac,Aay _ hd.1,Ac,hd.2];rfl
theorem Awi(a b:Nat)(ha:(dig 65536 a).length<=1000000):Gd (L16 a) (L16 b)=some (cmpN a b):=by
 unfold Gd L16;rw[Bm,Bm]
 by_cases hlen:(dig 65536 a).length=(dig 65536 b).length
 ·obtain⟨t,ht,hR⟩:=Bp (B:=Mh (nI (dig 65536 a)) (nI (dig 65536 b))) (fun s=>(s+1).toNat)
   (fun s=>∃k:Nat,s=(k:Int)-1/\k<=(dig 65536 a).length/\∀(j:Nat) (h:j<(dig 65536 a).length) (h':j<(dig 65536 b).length),k<=j->(dig 65536 a)[j]=(dig 65536 b)[j])
   (fun t=>(t=.inl ()/\cmpN a b=0)\/t=.inr (cmpN a b)) (by
    rintro s ⟨k,rfl,hk,heq⟩;unfold Mh
    by_cases h0:k=0
    .right;subst h0;refine⟨_,by rw[iN oo],.inl ⟨rfl,Att oo hlen (fun j h h'=>heq j h h' oo)⟩⟩
    .have h1:k-1<(dig 65536 a).length:=oo;have h2:k-1<(dig 65536 b).length:=oo;have hat:=Ats (b:=65536) oo hlen h1 h2 (fun j h h' hj=>heq j h h' oo);rw[iP oo,show ((k:Int)-1)=((k-1:Nat):Int) from by omega,Bu h1,Ac,Bu h2,Ac]
     by_cases he:(dig 65536 a)[k-1]=(dig 65536 b)[k-1]
     .left;refine⟨((k-1:Nat):Int)-1,by rw[iP (by rw[he]),Av oo oo],⟨k-1,rfl,oo,fun j h h' hj=>?_⟩,oo⟩;rcases Nat.lt_or_ge (k-1) j with hq|hq
      .exact heq j h h' oo
      .obtain rfl:j=k-1:=oo;exact he
     .right;rw[iN oo,Ac,Ac]
      by_cases hlt:(dig 65536 a)[k-1]<(dig 65536 b)[k-1]
      .exact⟨_,by rw[iP oo],.inr (by rw[hat.1 hlt])⟩
      .exact⟨_,by rw[iN oo],.inr (by rw[hat.2 oo])⟩)
   (((dig 65536 a).length:Int)-1) ⟨_,rfl,nL _,fun j h h' hj=>oo⟩
  rw[iP oo,jn_d,Av oo oo,ht,Ac];rcases hR with⟨rfl,h0⟩|rfl
  .simp only[h0]
  .rfl
 .rw[iN oo]
  by_cases hlt:(dig 65536 a).length<(dig 65536 b).length
  .rw[iP oo,(Ae9 (b:=65536) oo rfl rfl).1 hlt]
  .rw[iN oo,(Ae9 (b:=65536) oo rfl rfl).2 oo]
theorem Awj:([1]:LI)=L16 1:=by unfold L16;rw[Ae8 oo];rfl
theorem Asl(l r o:List Nat)(cy i:Nat)(hl:∀ x∈l,x<65536)(hr:∀ x∈r,x<65536)(hcy:cy<=1)(hi:i<=1000001)(ho:o.length=i):
  Im (nI r) (nI l) (nI o,(cy:Int),(i:Int))=if i<l.length\/i<r.length\/0<cy then some (.inl (nI (o++[(cy+l.getD i 0+r.getD i 0)%65536]),(((cy+l.getD i 0+r.getD i 0)/65536:Nat):Int),((i+1:Nat):Int))) else some (.inr (nI o)):=by
 have h1:=Aar hl i;have h2:=Aar hr i;have fin:∀s:Nat,s<=131071->(nI o++[Int.tmod (s:Int) 65536],w64 (Int.tdiv (s:Int) 65536),w64 ((i:Int)+1))=(nI (o++[s%65536]),((s/65536:Nat):Int),((i+1:Nat):Int)):=by
  intro s hs;rw[Aj1,Aj2,Ol oo,Bd oo];simp[nI]
 unfold Im;simp only[jn_d,Bm]
 by_cases hn:i<l.length
 .rw[iP (oo:(i:Int)<(l.length:Int)),iP trivial,iP (oo:(i:Int)<(l.length:Int)),Bu hn,Ac,iP (show i<l.length\/i<r.length\/0<cy from .inl hn)];rw[show w64 ((cy:Int)+(l[i]:Int))=((cy+l.getD i 0:Nat):Int) from by rw[Uo hn] at *;rw[Av oo oo];omega]
  by_cases hm:i<r.length
  .rw[iP (oo:(i:Int)<(r.length:Int)),Bu hm,Ac,gd_t oo];rw[show w64 (((cy+l.getD i 0:Nat):Int)+(r[i]:Int))=((cy+l.getD i 0+r.getD i 0:Nat):Int) from by rw[Uo hm] at *;rw[Av oo oo];omega];rw[fin _ oo]
  .rw[iN (oo:¬(i:Int)<(r.length:Int)),gd_t oo,fin _ oo,Qg hm];rfl
 .rw[iN (oo:¬(i:Int)<(l.length:Int))]
  by_cases hm:i<r.length
  .rw[iP (oo:(i:Int)<(r.length:Int)),iP trivial,iN (oo:¬(i:Int)<(l.length:Int)),iP (oo:(i:Int)<(r.length:Int)),Bu hm,Ac,gd_t oo,iP (show i<l.length\/i<r.length\/0<cy from .inr (.inl hm)),Qg hn,Nat.add_zero];rw[show w64 ((cy:Int)+(r[i]:Int))=((cy+r.getD i 0:Nat):Int) from by rw[Uo hm] at *;rw[Av oo oo];omega];rw[fin _ oo]
  .rw[iN (oo:¬(i:Int)<(r.length:Int))]
   by_cases hc:0<cy
   .rw[iP (sV hc),iN (oo:¬(i:Int)<(l.length:Int)),iN (oo:¬(i:Int)<(r.length:Int)),gd_t oo,fin _ oo,iP (show i<l.length\/i<r.length\/0<cy from .inr (.inr hc)),Qg hn,Qg hm];rfl
   .rw[iN (sV hc),iN oo]
theorem Bca(l r:List Nat)(hl:∀ x∈l,x<65536)(hr:∀ x∈r,x<65536)(h1:l.length<=1000000)(h2:r.length<=1000000):
  Jp (nI l) (nI r)=some (L16 (val 65536 l+val 65536 r)):=by
 obtain⟨t,ht,out,rfl,hd⟩:=Bp (B:=Im (nI r) (nI l)) (fun s=>2*(max l.length r.length-s.2.2.toNat)+s.2.1.toNat)
  (fun s=>∃(o:LM) (cy i:Nat),s=(nI o,(cy:Int),(i:Int))/\o.length=i/\cy<=1/\i<=max l.length r.length+1/\(i=max l.length r.length+1->cy=0)/\(∀x∈o,x<65536)/\val 65536 o+cy*65536^i=val 65536 (l.take i)+val 65536 (r.take i))
  (fun t=>∃out,t=nI out/\out.length<=1000000000/\nrm out=dig 65536 (val 65536 l+val 65536 r)) (by
   rintro s ⟨o,cy,i,rfl,hC1,hC2,hC3,hC0,hC4,hC5⟩;have g1:=Aar hl i;have g2:=Aar hr i;rw[Asl l r o cy i hl hr hC2 oo hC1]
   by_cases hc:i<l.length\/i<r.length\/0<cy
   .left;rw[iP hc];refine⟨_,rfl,⟨_,_,_,rfl,by simp[hC1],oo,oo,fun he=>?_,?_,?_⟩,?_⟩
    .rw[Qg (oo:¬i<l.length),Qg (oo:¬i<r.length)];omega
    .intro x hx;rcases mem_append.1 hx with hx|hx
     .exact hC4 x hx
     .simp at hx;omega
    .rw[Oi,hC1,Se,Se];have e:val 65536 [(cy+l.getD i 0+r.getD i 0)%65536]=(cy+l.getD i 0+r.getD i 0)%65536:=by simp[val]
     rw[e];have e2:=Nat.div_add_mod (cy+l.getD i 0+r.getD i 0) 65536;have e3:=congrArg (· * 65536^i) e2;simp only[Nat.add_mul] at e3;have e4:65536^(i+1)=65536*65536^i:=by rw[Nat.pow_succ,Nat.mul_comm]
     rw[e4];generalize 65536^i=P at *;generalize (cy+l.getD i 0+r.getD i 0)%65536=M at *;generalize (cy+l.getD i 0+r.getD i 0)/65536=D at *;generalize l.getD i 0=a at *;generalize r.getD i 0=b at *;have e5:D*(65536*P)=65536*D*P:=by grind
     have e6:P*M=M*P:=Nat.mul_comm _ _;have e7:P*a=a*P:=Nat.mul_comm _ _;have e8:P*b=b*P:=Nat.mul_comm _ _;omega
    .simp only[Int.toNat_natCast]
     by_cases hb:i<l.length\/i<r.length
     .omega
     .rw[Qg (oo:¬i<l.length),Qg (oo:¬i<r.length)];omega
   .right;rw[iN hc];refine⟨_,rfl,o,rfl,oo,?_⟩;have:cy=0:=oo;subst this;rw[Qb (b:=65536) oo o hC4];rw[take_of_length_le oo,take_of_length_le oo] at hC5;rw[show val 65536 o=val 65536 l+val 65536 r by omega])
  (nI [],((0:Nat):Int),((0:Nat):Int)) ⟨[],0,0,rfl,rfl,oo,oo,oo,s_,by simp[val]⟩
 unfold Jp;have ht':lfix (Im (nI r) (nI l)) ([],0,0)=some (nI out):=ht;simp only[jn_d];rw[ht',Ac,Aay _ hd.1,Ac,hd.2];rfl
theorem Asm(l r o:List Nat)(bw i:Nat)(hi:i<l.length)(hl:∀ x∈l,x<65536)(hr:∀ x∈r,x<65536)(hb:bw<=1)(h9:l.length<=1000000)(ho:o.length=i):
  ∃d b':Nat,Ge (nI l) (nI r) (nI o,(bw:Int),(i:Int))=some (.inl (nI (o++[d]),(b':Int),((i+1:Nat):Int)))/\d<65536/\b'<=1/\d+bw+r.getD i 0=l.getD i 0+65536*b':=by
 have h1:=Aar hl i;have h2:=Aar hr i;unfold Ge;simp only[jn_d,Bm];rw[iP (oo:(i:Int)<(l.length:Int)),Bu hi,Ac];rw[Uo hi] at *;have fin:∀t:Int,t=(l[i]:Int)-bw-(r.getD i 0:Int)->∃d b':Nat,(if t<0 then gd (((nI o).length+1)*8<=140737488355328) (some (Sum.inl (β:=LI) (nI o++[w64 (t+65536)],(1:Int),w64 ((i:Int)+1)))) else gd (((nI o).length+1)*8<=140737488355328) (some (.inl (nI o++[t],(0:Int),w64 ((i:Int)+1)))))=some (.inl (nI (o++[d]),(b':Int),((i+1:Nat):Int)))/\d<65536/\b'<=1/\d+bw+r.getD i 0=l[i]+65536*b':=by
  intro t ht;rw[gd_t (by rw[Bm];omega),gd_t (by rw[Bm];omega),Bd oo]
  by_cases h0:t<0
  .refine⟨(t+65536).toNat,1,?_,oo,oo,oo⟩;rw[iP h0,Av oo oo];simp[nI,Int.toNat_of_nonneg (oo:0<=t+65536)]
  .refine⟨t.toNat,0,?_,oo,oo,oo⟩;rw[iN h0];simp[nI,Int.toNat_of_nonneg (oo:0<=t)]
 by_cases hm:i<r.length
 .rw[iP (oo:(i:Int)<(r.length:Int)),Bu hm,Ac];have:=fin (w64 (w64 ((l[i]:Int)-(bw:Int))-(r[i]:Int))) (by rw[Uo hm] at *;rw[Av (x:=(l[i]:Int)-(bw:Int)) oo oo,Av oo oo]);simpa only[Bm] using this
 .rw[iN (oo:¬(i:Int)<(r.length:Int))];have:=fin (w64 ((l[i]:Int)-(bw:Int))) (by rw[Qg hm,Av oo oo];omega);simpa only[Bm] using this
theorem Bcb(l r:List Nat)(hl:∀ x∈l,x<65536)(hr:∀ x∈r,x<65536)(h1:l.length<=1000000)(h2:r.length<=l.length)(hle:val 65536 r<=val 65536 l):
  Gb (nI l) (nI r)=some (L16 (val 65536 l-val 65536 r)):=by
 obtain⟨t,ht,out,rfl,hd⟩:=Bp (B:=Ge (nI l) (nI r)) (fun s=>l.length-s.2.2.toNat)
  (fun s=>∃(o:LM) (bw i:Nat),s=(nI o,(bw:Int),(i:Int))/\o.length=i/\bw<=1/\i<=l.length/\(∀x∈o,x<65536)/\val 65536 o+val 65536 (r.take i)=val 65536 (l.take i)+bw*65536^i)
  (fun t=>∃out,t=nI out/\out.length<=1000000000/\nrm out=dig 65536 (val 65536 l-val 65536 r)) (by
   rintro s ⟨o,bw,i,rfl,hC1,hC2,hC3,hC4,hC5⟩
   by_cases hi:i<l.length
   .left;obtain⟨d,b',hB,hd1,hb1,he⟩:=Asm l r o bw i hi hl hr hC2 h1 hC1;refine⟨_,hB,⟨_,_,_,rfl,by simp[hC1],hb1,oo,?_,?_⟩,by simp;omega⟩
    .intro x hx;rcases mem_append.1 hx with hx|hx
     .exact hC4 x hx
     .simp at hx;omega
    .rw[Oi,hC1,Se,Se];have e:val 65536 [d]=d:=by simp[val]
     rw[e];have e3:=congrArg (· * 65536^i) he;simp only[Nat.add_mul] at e3;have e4:65536^(i+1)=65536*65536^i:=by rw[Nat.pow_succ,Nat.mul_comm]
     rw[e4];generalize 65536^i=P at *;generalize l.getD i 0=a at *;generalize r.getD i 0=b at *;have e5:b'*(65536*P)=65536*b'*P:=by grind
     have e6:P*d=d*P:=Nat.mul_comm _ _;have e7:P*a=a*P:=Nat.mul_comm _ _;have e8:P*b=b*P:=Nat.mul_comm _ _;omega
   .right;have hil:i=l.length:=oo;refine⟨nI o,?_,o,rfl,oo,?_⟩
    .unfold Ge;simp only[Bm];rw[iN oo]
    .rw[take_of_length_le oo,take_of_length_le oo] at hC5;rw[Qb (b:=65536) oo o hC4];have hlt:=Uh o hC4;rw[hC1] at hlt;have:bw=0\/bw=1:=oo;rcases this with rfl|rfl
     .rw[show val 65536 o=val 65536 l-val 65536 r by omega]
     .omega)
  (nI [],((0:Nat):Int),((0:Nat):Int)) ⟨[],0,0,rfl,rfl,oo,oo,s_,by simp[val]⟩
 unfold Gb;have ht':lfix (Ge (nI l) (nI r)) ([],0,0)=some (nI out):=ht;simp only[jn_d];rw[ht',Ac,Aay _ hd.1,Ac,hd.2];rfl
theorem Acv{a:Nat}:(L16 a).length=0↔a=0:=by
 unfold L16;rw[Bm,length_eq_zero_iff,Tu oo]
theorem Adx{a:Nat}:∀x∈dig 65536 a,x<65536:=Ng oo a
theorem Awk{a b:Nat}(ha:(dig 65536 a).length<=1000000)(hb:(dig 65536 b).length<=1000000):Jp (L16 a) (L16 b)=some (L16 (a+b)):=by
 have:=Bca _ _ (Adx (a:=a)) (Adx (a:=b)) ha hb
 rwa [Ch oo,Ch oo] at this
theorem Ri{a b:Nat}(h:a<=b):(dig 65536 a).length<=(dig 65536 b).length:=by
 rcases Nat.lt_or_ge (dig 65536 b).length (dig 65536 a).length with h1|h1
 .have:=Xv (b:=65536) oo h1;omega
 .exact h1
theorem Aj3{a b:Nat}(ha:(dig 65536 a).length<=1000000)(h:b<=a):Gb (L16 a) (L16 b)=some (L16 (a-b)):=by
 have:=Bcb _ _ (Adx (a:=a)) (Adx (a:=b)) ha (Ri h) (by rw[Ch oo,Ch oo];exact h)
 rwa [Ch oo,Ch oo] at this
theorem Aaz{a b:Nat}(h:(dig 65536 a).length+(dig 65536 b).length<=1000000):Dh (L16 a) (L16 b)=some (L16 (a*b)):=by
 have:=Ay7 _ _ (Adx (a:=a)) (Adx (a:=b)) h
 rwa [Ch oo,Ch oo] at this
theorem Abk{z:Int}:(Z16 z).L=L16 z.natAbs:=rfl
theorem Np{z:Int}:(Z16 z).Neg=decide (z<0):=rfl
theorem Agp{b:Bool}{l:LI}{z:Int}(h1:b=decide (z<0))(h2:l=L16 z.natAbs):(some ⟨b,l⟩:Option Ae)=some (Z16 z):=by subst h1;subst h2;rfl
theorem Bdw{x y:Int}(hx:(dig 65536 x.natAbs).length<=1000000)(hy:(dig 65536 y.natAbs).length<=1000000):Ly (Z16 x) (Z16 y)=some (Z16 (x+y)):=by
 unfold Ly;simp only[Abk]
 by_cases hs':x<0↔y<0
 .rw[iP (by rw[Np,Np];by_cases h:x<0 <;> simp[h] <;> omega),Awk hx hy,Ac];refine Agp ?_ ?_
  .rw[Np];by_cases h:x<0 <;> simp[h] <;> omega
  .congr 1;omega
 .rw[iN (by rw[Np,Np];by_cases h:x<0 <;> simp[h] <;> omega),Awi _ _ hx,Ac]
  by_cases h1:x.natAbs<y.natAbs
  .rw[show cmpN x.natAbs y.natAbs = -1 from iP h1,iN dD,iN dD,Aj3 hy oo,Ac];refine Agp ?_ ?_
   .rw[Np];by_cases h:y<0 <;> simp[h] <;> omega
   .congr 1;omega
  .by_cases h2:x.natAbs=y.natAbs
   .rw[show cmpN x.natAbs y.natAbs=0 from (iN h1).trans (iP h2),iP rfl];have:x+y=0:=oo;rw[this];rfl
   .rw[show cmpN x.natAbs y.natAbs=1 from (iN h1).trans (iN h2),iN dD,iP dD,Aj3 hx oo,Ac];refine Agp ?_ ?_
    .rw[Np];by_cases h:x<0 <;> simp[h] <;> omega
    .congr 1;omega
theorem Awl{z y:Int}:(!(decide (z<0)==decide (y<0)) && !decide (z.natAbs*y.natAbs=0))=decide (z*y<0):=by
 by_cases hz0:z=0
 .subst hz0;simp
 by_cases hy0:y=0
 .subst hy0;simp
 have h1:z.natAbs*y.natAbs≠0:=Nat.mul_ne_zero oo oo;rw[dF h1];rcases Int.lt_or_le z 0 with hz|hz
 .rcases Int.lt_or_le y 0 with hy|hy
  .have:=Int.mul_pos_of_neg_of_neg hz hy;rw[dT hz,dT hy,dF (oo:¬z*y<0)];rfl
  .have:=Int.mul_neg_of_neg_of_pos hz (oo:0<y);rw[dT hz,dF (oo:¬y<0),dT this];rfl
 .rcases Int.lt_or_le y 0 with hy|hy
  .have:=Int.mul_neg_of_pos_of_neg (oo:0<z) hy;rw[dT hy,dF (oo:¬z<0),dT this];rfl
  .have:=Int.mul_pos (oo:0<z) (oo:0<y);rw[dF (oo:¬z<0),dF (oo:¬y<0),dF (oo:¬z*y<0)];rfl
set_option maxRecDepth 100000 in
theorem Al4{x y:Int}(h:(dig 65536 x.natAbs).length+(dig 65536 y.natAbs).length<=1000000):Dp (Z16 x) (Z16 y)=some (Z16 (x*y)):=by
 unfold Dp;simp only[Abk,jn_d];rw[Aaz h,Ac];have hsg:=Awl (z:=x) (y:=y);have e2:=Acv (a:=x.natAbs*y.natAbs)
 by_cases hs':x<0↔y<0
 .rw[iP (by rw[Np,Np];by_cases h:x<0 <;> simp[h] <;> omega)];refine Agp ?_ (by rw[Int.natAbs_mul]);rw[<-hsg];have e:(decide (x<0)==decide (y<0))=true:=by by_cases h:x<0 <;> simp[h] <;> omega
  rw[e];rfl
 .rw[iN (by rw[Np,Np];by_cases h:x<0 <;> simp[h] <;> omega)];refine Agp ?_ (by rw[Int.natAbs_mul]);rw[<-hsg];have e:(decide (x<0)==decide (y<0))=false:=by by_cases h:x<0 <;> simp[h] <;> omega
  rw[e]
  by_cases h0:x.natAbs*y.natAbs=0
  .have:=e2.2 h0;rw[dT h0,dF oo];rfl
  .have:(L16 (x.natAbs*y.natAbs)).length≠0:=fun e=>h0 (e2.1 e)
   rw[dF h0,dT oo];rfl
end Go.Proofs.YtlejkgngmjchdaaGreat
set_option maxRecDepth 100000
namespace Go.Proofs.YtlejkgngmjchdaaGreat
open Go Go.RowKit List
theorem Aqa(l:LM)(k:Nat):(nI l).drop k=nI (l.drop k):=by simp[nI,map_drop]
theorem Ail(l r:LM):nI l++nI r=nI (l++r):=by simp[nI]
theorem Ay8(l:LM)(i n:Nat):subl (nI l) (i:Int) ((i+n:Nat):Int)=nI ((l.drop i).take n):=by
 unfold subl;rw[Int.toNat_natCast,Int.toNat_natCast,Aj0,Aqa,drop_take,Nat.add_sub_cancel_left]
theorem Ay9(l w:LM)(i n:Nat):putl (nI l) (i:Int) ((i+n:Nat):Int) (nI w)=nI (l.take i++w++l.drop (i+n)):=by
 unfold putl;rw[Int.toNat_natCast,Int.toNat_natCast,Aj0,Aqa,Ail,Ail]
theorem Aqb{V:Nat}(hV:0<V):4294967296^(NW V-1)<=V:=by
 have h0:=Ago hV;refine Classical.byContradiction fun h=>?_
 have:=Yw (a:=V) (k:=NW V-1) (Nat.lt_of_not_le h);omega
theorem Aqc{V n:Nat}(hV:0<V)(hn:NW V=n+1)(h9:n<(dig 4294967296 V).length):0<(dig 4294967296 V)[n]:=by
 refine Nat.pos_of_ne_zero fun h0=>?_
 have hk:=Tz (B:=4294967296) (l:=dig 4294967296 V) W_lt n (Nat.le_of_lt h9);have hsp:=Po (B:=4294967296) (dig 4294967296 V) n (Nat.le_of_lt h9);have hl:(dig 4294967296 V).length=n+1:=hn;have hz:val 4294967296 ((dig 4294967296 V).drop n)=0:=by
  rw[En _ _ h9,h0,drop_eq_nil_of_le (Nat.le_of_eq hl),val,Nat.mul_zero]
 rw[hz,Nat.mul_zero,Nat.add_zero,Ch (Nat.le_of_ble_eq_true rfl)] at hsp;have hb:=Aqb hV;rw[hn,Nat.add_sub_cancel] at hb;rw[<-hsp] at hk;exact Nat.lt_irrefl _ (Nat.lt_of_lt_of_le hk hb)
theorem Ady(l:LM):val 4294967296 (l++[0])=val 4294967296 l:=by
 rw[Oi,val,val,Nat.mul_zero,Nat.add_zero]
theorem Asn{V n i m:Nat}{u q w':List Nat}{Q:Nat}(hn2:NW V=n+2)(h9:n<=100000)(hm9:m<=100000)(hi:i<m)(hu:u.length=m+(n+2))(hq:q.length=m)(a1:Ll (nI ((u.drop i).take (n+2+1))) (nI (dig 4294967296 V))=some (nI w',((Q:Nat):Int))):
  Hb (L32 V) (nI u,nI q,((i+1:Nat):Int)-1)=some (.inl (nI (u.take i++w'++u.drop (i+(n+2+1))),nI (q.set i Q),((i:Nat):Int)-1)):=by
 have e1:w64 (w64 (((i:Nat):Int)+(((L32 V).length:Nat):Int))+1)=((i+(n+2+1):Nat):Int):=by
  rw[Pu,hn2,Av (x:=((i:Nat):Int)+((n+2:Nat):Int)) oo oo,Av oo oo];omega
 unfold Hb;dsimp only;rw[show ((i+1:Nat):Int)-1=((i:Nat):Int) by omega,e1,iP oo,gd_t ⟨oo,oo,by rw[Bm];omega⟩,gd_t oo,Ay8];unfold L32;rw[a1,Ac,Bu oo,Ac];dsimp only;rw[Ay9,Kh,Av oo oo]
theorem Aso{V m:Nat}{d:List Nat}(hV:4294967296<=V)(hn:NW V<=100000)(hm:m+NW V=d.length+1)(hm9:m<=100000)(hd:∀ x∈d,x<4294967296):
  ∃u q,lfix (Hb (L32 V)) (nI (d++[0]),nI (List.replicate m 0),((m:Nat):Int)-1)=some (nI u,nI q)/\u.length=m+NW V/\q.length=m/\(∀x∈u,x<4294967296)/\(∀x∈q,x<4294967296)/\val 4294967296 q=val 4294967296 d/V/\val 4294967296 u=val 4294967296 d%V:=by
 have hV0:0<V:=oo;have n2:2<=NW V:=by
  have h1:=Ago hV0;have h2:NW V≠1:=fun e=>by have:=(Ab1 hV0).1 e;omega
  omega
 obtain⟨n,hn2⟩:∃n,NW V=n+2:=⟨NW V-2,oo⟩;have hlen0:(d++[0]).length=m+NW V:=by rw[length_append,hm];rfl
 have hw0:∀x∈d++[0],x<4294967296:=fun x hx=>by
  rcases mem_append.1 hx with h|h
  .exact hd x h
  .rw[mem_singleton.1 h];decide
 have htop:val 4294967296 ((d++[0]).drop m)<V:=by
  rw[drop_append_of_le_length oo,Ady];have:=Uh (b:=4294967296) (d.drop m) (fun x hx=>hd x (mem_of_mem_drop hx));rw[length_drop,show d.length-m=NW V-1 by omega] at this;exact Nat.lt_of_lt_of_le this (Aqb hV0)
 have hvl:(dig 4294967296 V).length=n+2:=hn2;have hvv:val 4294967296 (dig 4294967296 V)=V:=Ch oo V;have hvt:0<(dig 4294967296 V)[n+1]:=Aqc hV0 hn2 oo;obtain⟨u,q,h1,h2,h3,h4,h5,h6,h7⟩:=Auz (f:=Hb (L32 V)) (fun u q i=>(nI u,nI q,((i:Nat):Int)-1)) (B:=4294967296) (V:=V) (n:=NW V) (m:=m) (d++[0]) (List.replicate m 0) hV0 (Aee V) hlen0 s_ hw0 htop (fun x hx=>by rw[eq_of_mem_replicate hx];decide) (fun u q i hi hu hw hq hqw hlt=>by
  rw[hn2] at hu hlt ⊢;have hwl:((u.drop i).take (n+2+1)).length=n+3:=by rw[length_take,length_drop];omega
  obtain⟨w',a1,a2,a3,a4⟩:=Al0 (n:=n) (u:=(u.drop i).take (n+2+1)) (v:=dig 4294967296 V) oo hvl hwl W_lt (fun x hx=>hw x (mem_of_mem_drop (mem_of_mem_take hx))) hvt (by rw[hvv];exact hlt);rw[hvv] at a1 a4;exact⟨w',by rw[a2,hwl],a3,a4,Asn hn2 oo hm9 hi hu hq a1⟩)
 refine⟨u,q,?_,h2,h3,h4,h5,by rw[h6,Ady],by rw[h7,Ady]⟩;refine Eq.trans h1 ?_;rw[Ax];unfold Hb;dsimp only;rw[iN oo]
theorem Awm{a s k:Nat}(ha:NW a<=k)(hs:s<=31):NW (a*2^s)<=k+1:=by
 have h1:=Ym a (2^s);have h2:NW (2^s)<=1:=Yw (by have:=Al1 hs;omega);omega
theorem Aqd{a b:Nat}(hb:0<b)(ha:NW a<=1000)(hb2:NW b<=1000):Fq (L32 a) (L32 b)=some (L32 (a/b),L32 (a%b)):=by
 have hla:(dig 4294967296 a).length<=1000000:=Nat.le_trans ha dD;unfold Fq;rw[Ajh _ _ hla,Ac];unfold cmpN
 by_cases c:a<b
 .rw[iP c,iP dD,Nat.div_eq_of_lt c,Nat.mod_eq_of_lt c];rfl
 .rw[iN c,iN (by split <;> decide)]
  by_cases c1:b<4294967296
  .rw[iP (by rw[Pu,(Ab1 hb).2 c1];rfl),Acu hb c1,show idx [(b:Int)] 0=some (b:Int) from rfl,Ac,Bb7 hla hb c1,Ac];dsimp only;have hm:=Nat.mod_lt a hb;rw[Db oo,Afc oo,Ac]
  .have n1:NW b≠1:=fun e=>c1 ((Ab1 hb).1 e)
   have n0:=Ago hb;have hbl:(dig 4294967296 b).length=NW b:=rfl;have i1:idx (L32 b) (w64 ((((L32 b).length:Nat):Int)-1))=some (((dig 4294967296 b)[NW b-1]:Nat):Int):=by
    rw[Pu,Av oo oo,show ((NW b:Nat):Int)-1=((NW b-1:Nat):Int) by omega];exact Bu oo
   have hvt:0<(dig 4294967296 b)[NW b-1]:=Aqc hb oo oo;obtain⟨s,hs,hl⟩:=Bb9 _ hvt (W_lt _ (gM _));have hp0:0<2^s:=Nat.two_pow_pos s;have na:=Awm ha hs;have nb:=Awm hb2 hs;have sa:Ko (L32 a) (s:Int)=some (L32 (a*2^s)):=by
    have:=Bag (l:=dig 4294967296 a) hs W_lt (Nat.le_trans ha dD)
    rwa [Ch oo] at this
   have sb:Ko (L32 b) (s:Int)=some (L32 (b*2^s)):=by
    have:=Bag (l:=dig 4294967296 b) hs W_lt (Nat.le_trans hb2 dD)
    rwa [Ch oo] at this
   have hab:b*2^s<=a*2^s:=Nat.mul_le_mul_right _ oo;have hab':=Sy hab;have haa:NW a<=NW (a*2^s):=Sy (Nat.le_mul_of_pos_right _ hp0);have hb3:4294967296<=b*2^s:=Nat.le_trans oo (Nat.le_mul_of_pos_right _ hp0);obtain⟨m,hm⟩:∃m,m+NW (b*2^s)=NW (a*2^s)+1:=⟨NW (a*2^s)+1-NW (b*2^s),oo⟩;obtain⟨u,q,h1,h2,h3,h4,h5,h6,h7⟩:=Aso (V:=b*2^s) (m:=m) (d:=dig 4294967296 (a*2^s)) hb3 oo hm oo W_lt;rw[Ch oo] at h6 h7;have happ:L32 (a*2^s)++[0]=nI (dig 4294967296 (a*2^s)++[0]):=by simp[L32,nI]
   have hlen:(((nI (dig 4294967296 (a*2^s)++[0])).length:Nat):Int)=((NW (a*2^s)+1:Nat):Int):=by
    rw[Bm,length_append];rfl
   have hq:w64 (((NW (a*2^s)+1:Nat):Int)-((NW (b*2^s):Nat):Int))=((m:Nat):Int):=by
    rw[Av oo oo];omega
   rw[iN (by rw[Pu];omega),i1,Ac,hl,Ac,sb,Ac,sa,Ac,gd_t (by rw[Pu];omega),jn_d,happ,iN (by rw[hlen,Pu];omega)];dsimp only;rw[hlen,Pu,hq,gd_t ⟨oo,oo⟩,jn_d,Int.toNat_natCast,length_replicate,Rg,Av oo oo,h1,Ac];dsimp only;rw[Sv _ oo,Ac,Sv _ oo,Ac,Qb oo q h5,Qb oo u h4,h6,h7];have hz:=Bdv (l:=dig 4294967296 (a*2^s%(b*2^s))) hs W_lt (by
    have:=Sy (Nat.le_of_lt (Nat.mod_lt (a*2^s) (oo:0<b*2^s)));unfold NW at this nb;omega)
   rw[hz,Ac,Ch oo,Nat.mul_div_mul_right _ _ hp0,Nat.mul_mod_mul_right,Nat.mul_div_cancel _ hp0];rfl
theorem Bdx{b:Nat}:∀{a:Nat},NW a<=1000->NW b<=1000->lfix Nu (L32 a,L32 b)=some (L32 (Nat.gcd a b)):=by
 induction b using Nat.strongRecOn with
 |_ b ih=>
  intro a ha hb;rw[Ax];unfold Nu;dsimp only
  by_cases h0:b=0
  .subst h0;rw[iN (by have:=(Qs (a:=0)).2 rfl;omega),Nat.gcd_zero_right]
  .have hne:(L32 b).length≠0:=fun e=>h0 (Qs.1 e)
   have hm:=Nat.mod_lt a (Nat.pos_of_ne_zero h0);rw[iP oo,Aqd oo ha hb,Ac];dsimp only;have:=ih _ hm hb (Nat.le_trans (Sy (Nat.le_of_lt hm)) hb);unfold Nu at this;rw[this,Nat.gcd_comm b,<-Nat.gcd_rec,Nat.gcd_comm]
theorem Bcc{a b:Nat}(ha:NW a<=1000)(hb:NW b<=1000):Pq (L32 a) (L32 b)=some (L32 (Nat.gcd a b)):=by
 unfold Pq;rw[jn_d,Bdx ha hb,Ac]
theorem Bdy{ρ:Type}{g:Nat}(hg:0<g)(j:Bool->Option ρ):(if (((L32 g).length:Nat):Int)=1 then bnd (idx (L32 g) 0) fun x0=>j (decide (x0=1)) else j false)=j (decide (g=1)):=by
 rw[Pu]
 by_cases h:g<4294967296
 .rw[iP (by rw[(Ab1 hg).2 h];rfl),Acu hg h,show idx [(g:Int)] 0=some (g:Int) from rfl,Ac];congr 1;exact decide_eq_decide.2 oo
 .rw[iN (fun e=>h ((Ab1 hg).1 oo)),dF oo]
theorem Bcd{ρ:Type}{g:Nat}(hg:0<g)(j:Bool->Option ρ):(if 1<(((L32 g).length:Nat):Int) then j true else bnd (idx (L32 g) 0) fun x0=>j (!decide (x0=1)))=j (!decide (g=1)):=by
 rw[Pu];have hp:=Ago hg
 by_cases h:g<4294967296
 .rw[iN (by rw[(Ab1 hg).2 h];omega),Acu hg h,show idx [(g:Int)] 0=some (g:Int) from rfl,Ac];congr 2;exact decide_eq_decide.2 oo
 .rw[iP (by have:NW g≠1:=fun e=>h ((Ab1 hg).1 e);omega),dF oo];rfl
structure FrIs(n:An)(z:Int)(d:Nat):Prop where
 num:n.n=L32 z.natAbs
 den:n.d=L32 d
 neg:z≠0->n.neg=decide (z<0)
def CN(z:Int)(d:Nat):An:=⟨decide (z<0),L32 z.natAbs,L32 d⟩
def CR(z:Int)(d:Nat):As:=⟨decide (z<0),L32 z.natAbs,if d=1 then [] else L32 d⟩
theorem Bdz(z:Int)(d:Nat):FrIs (CN z d) z d:=⟨rfl,rfl,fun _=>rfl⟩
theorem FrIs.eq{n:An}{z:Int}{d:Nat}(h:FrIs n z d)(h0:z≠0):n=CN z d:=by
 obtain⟨s,a,e⟩:=n;obtain⟨h1,h2,h3⟩:=h;simp only at h1 h2 h3;rw[h1,h2,h3 h0];rfl
structure Red(z:Int)(d:Nat)(c:Int)(e:Nat):Prop where
 g:∃g:Nat,0<g/\z=(g:Int)*c/\d=g*e
 co:Nat.gcd c.natAbs e=1
 pos:0<e
theorem Awn(z:Int){d:Nat}(hd:0<d):∃c e,Red z d c e:=by
 have hg:0<Nat.gcd z.natAbs d:=Nat.gcd_pos_of_pos_right _ hd;obtain⟨c,hc⟩:=Int.ofNat_dvd_left.2 (Nat.gcd_dvd_left z.natAbs d);obtain⟨e,he⟩:=Nat.gcd_dvd_right z.natAbs d;refine⟨c,e,⟨_,hg,hc,he⟩,?_,?_⟩
 ·have h1:z.natAbs=Nat.gcd z.natAbs d*c.natAbs:=by
   have:=congrArg Int.natAbs hc
   rwa [Int.natAbs_mul,Int.natAbs_natCast] at this
  have h2:Nat.gcd z.natAbs d=Nat.gcd z.natAbs d*Nat.gcd c.natAbs e:=by
   rw[<-Nat.gcd_mul_left,<-h1,<-he]
  have:Nat.gcd z.natAbs d*Nat.gcd c.natAbs e=Nat.gcd z.natAbs d*1:=oo;exact Nat.eq_of_mul_eq_mul_left hg this
 .refine Nat.pos_of_ne_zero fun h=>?_
  rw[h,Nat.mul_zero] at he;omega
theorem Red.le{z c:Int}{d e:Nat}(h:Red z d c e):e<=d/\c.natAbs<=z.natAbs:=by
 obtain⟨⟨g,hg,h1,h2⟩,_,_⟩:=h;constructor
 .rw[h2];exact Nat.le_mul_of_pos_left _ hg
 .rw[h1,Int.natAbs_mul,Int.natAbs_natCast];exact Nat.le_mul_of_pos_left _ hg
theorem Red.id{z:Int}{d:Nat}(h:Nat.gcd z.natAbs d=1)(hd:0<d):Red z d z d:=⟨⟨1,oo,s_,s_⟩,h,hd⟩
theorem Aef(g:Nat)(c:Int):((g:Int)*c).natAbs=g*c.natAbs:=by rw[Int.natAbs_mul,Int.natAbs_natCast]
theorem Al5{g:Nat}(hg:0<g)(c:Int):((g:Int)*c<0)↔c<0:=by
 constructor
 .intro h;refine Classical.byContradiction fun h1=>?_
  have:=Int.mul_nonneg (oo:(0:Int)<=g) (oo:0<=c);omega
 .intro h;exact Int.mul_neg_of_pos_of_neg oo h
theorem Adz{n:An}{z c:Int}{d e:Nat}(hn:FrIs n z d)(hz:NW z.natAbs<=1000)(hd2:NW d<=1000)(hr:Red z d c e):He n=some (CN c e):=by
 obtain⟨⟨g,hg,h1,h2⟩,hco,he⟩:=hr;have hd:0<d:=by rw[h2];exact Nat.mul_pos hg he
 unfold He
 by_cases h0:z=0
 ·have c0:c=0:=by
   rcases Int.mul_eq_zero.1 (h1.symm.trans h0) with h|h
   .omega
   .exact h
  subst h0;subst c0;have e1:e=1:=by simpa using hco
  subst e1;rw[hn.num,iP (by rw[show (0:Int).natAbs=0 from rfl,(Qs (a:=0)).2 rfl];rfl),oneW];unfold CN;rw[show (L32 (0:Int).natAbs)=[] from length_eq_zero_iff.1 ((Qs (a:=0)).2 rfl)];rfl
 .have hne:(L32 z.natAbs).length≠0:=fun h=>h0 (by have:=Qs.1 h;omega)
  have hgd:Nat.gcd z.natAbs d=g:=by
   rw[h1,h2,Aef,Nat.gcd_mul_left,hco,Nat.mul_one]
  have gle:g<=d:=by rw[h2];exact Nat.le_mul_of_pos_right _ he
  have hg2:NW g<=1000:=Nat.le_trans (Sy gle) hd2;have hz':z.natAbs/g=c.natAbs:=by rw[h1,Aef,Nat.mul_div_cancel_left _ hg]
  have hd':d/g=e:=by rw[h2,Nat.mul_div_cancel_left _ hg]
  have hneg:decide (z<0)=decide (c<0):=by
   have:=Al5 hg c;rw[<-h1] at this;exact decide_eq_decide.2 this
  rw[hn.eq h0];unfold CN;dsimp only;rw[iN oo,Bcc hz hd2,Ac,jn_d,hgd];refine (Bdy hg (fun s7=>if s7=true then some (⟨decide (z<0),L32 z.natAbs,L32 d⟩:An) else bnd (Fq (L32 z.natAbs) (L32 g)) fun r0=>bnd (Fq (L32 d) (L32 g)) fun r1=>some (⟨decide (z<0),r0.1,r1.1⟩:An))).trans ?_
  by_cases c1:g=1
  .rw[iP (by simp[c1])];rw[c1,Nat.div_one] at hz' hd';rw[hneg,hz',hd']
  .rw[iN (by simp[c1]),Aqd hg hz hg2,Ac,Aqd hg hd2 hg2,Ac];dsimp only;rw[hneg,hz',hd']
theorem Aqe{α:Type}(l ys:List α)(h:l.length=ys.length):cpy l 0 ys=ys:=by
 unfold cpy;simp[h]
theorem Agq{n:An}{z c:Int}{d e:Nat}(hn:FrIs n z d)(hz:NW z.natAbs<=200)(hd2:NW d<=200)(hr:Red z d c e):Fv n=some (CR c e,0):=by
 obtain⟨le1,le2⟩:=hr.le;have l1:=Nat.le_trans (Sy le2) hz;have l2:=Nat.le_trans (Sy le1) hd2;have he:=hr.pos;unfold Fv;rw[Adz hn oo oo hr,Ac,jn_d];unfold CN CR;dsimp only;rw[Pu,Pu,iN oo,iN (by simp;omega),jn_d,gd_t ⟨oo,oo⟩];dsimp only;rw[jn_d];dsimp only;rw[jn_d];have:=Bcd he (fun s9=>if s9=true then gd ((0:Int)<=((NW e:Nat):Int)/\4*Int.toNat ((NW e:Nat):Int)<=140737488355328) (some ((⟨decide (c<0),cpy (List.replicate (Int.toNat ((NW c.natAbs:Nat):Int)) (0:Int)) 0 (L32 c.natAbs),cpy (List.replicate (Int.toNat ((NW e:Nat):Int)) (0:Int)) 0 (L32 e)⟩:As),(0:Int))) else some ((⟨decide (c<0),cpy (List.replicate (Int.toNat ((NW c.natAbs:Nat):Int)) (0:Int)) 0 (L32 c.natAbs),[]⟩:As),(0:Int)));rw[Pu] at this;refine this.trans ?_;rw[Aqe _ _ (by simp[Pu])]
 by_cases c1:e=1
 .rw[iN (by simp[c1]),iP c1]
 .rw[iP (by simp[c1]),gd_t ⟨oo,by simp;omega⟩,iN c1,Aqe _ _ (by simp[Pu])]
theorem of_G{z:Int}{d:Nat}(hz:NW z.natAbs<=200)(hd2:NW d<=200)(hd:0<d)(co:Nat.gcd z.natAbs d=1):Mv (CR z d)=some (CN z d):=by
 unfold Mv CR;dsimp only
 by_cases c1:d=1
 .rw[iP c1,Ali,Ac,jn_d,iP s_];dsimp only;rw[Af8 _ (by unfold NW at *;omega),Ac,Adz (n:=⟨decide (z<0),L32 z.natAbs,[1]⟩) ⟨rfl,by rw[c1,<-oneW],fun _=>rfl⟩ oo oo (Red.id co hd),Ac]
 .have hp:=Ago hd;rw[iN c1,Af8 _ (by unfold NW at *;omega),Ac,jn_d,iN (by rw[Pu];omega)];dsimp only;rw[Af8 _ (by unfold NW at *;omega),Ac,Adz (n:=⟨decide (z<0),L32 z.natAbs,L32 d⟩) ⟨rfl,rfl,fun _=>rfl⟩ oo oo (Red.id co hd),Ac]
theorem Tw{z:Int}{d:Nat}(hz:NW z.natAbs<=200)(hd2:NW d<=200):Qi (CR z d)=some false:=by
 unfold Qi CR;dsimp only;rw[jn_d,Af8 _ (by unfold NW at *;omega),Ac,Pu,iN oo]
 by_cases c1:d=1
 .rw[iP c1,Ali,Ac];rfl
 .rw[iN c1,Af8 _ (by unfold NW at *;omega),Ac,Pu,dF oo]
theorem Acw{a b:As}(ha:Qi a=some false)(hb:Qi b=some false):Hf [a,b]=some false:=by
 unfold Hf;rw[jn_d,Ax];have h1:Fi [a,b] 0=some (.inl 1):=by
  unfold Fi;rw[iP s_,show idx [a,b] 0=some a from rfl,Ac,ha,Ac,iN s_];rfl
 have h2:Fi [a,b] 1=some (.inl 2):=by
  unfold Fi;rw[iP s_,show idx [a,b] 1=some b from rfl,Ac,hb,Ac,iN s_];rfl
 have h3:Fi [a,b] 2=some (.inr (.inl ())):=by
  unfold Fi;rw[iN s_]
 rw[h1];dsimp only;rw[Ax,h2];dsimp only;rw[Ax,h3];rfl
theorem Aj4{x:Int}{e:Nat}(he:0<e):decide (x<0)=decide (x*(e:Int)<0):=by
 have:=Al5 he x;rw[Int.mul_comm] at this;exact (decide_eq_decide.2 this).symm
theorem Bah{x y:Int}{d e:Nat}(hd:0<d)(he:0<e)(hd2:NW d<=200)(he2:NW e<=200)(hx:NW x.natAbs<=200)(hy:NW y.natAbs<=200):
  ∃n,Gy (CN x d) (CN y e)=some n/\FrIs n (x*e+y*d) (d*e):=by
 have aX:(x*(e:Int)).natAbs=x.natAbs*e:=by rw[Int.natAbs_mul,Int.natAbs_natCast]
 have aY:(y*(d:Int)).natAbs=y.natAbs*d:=by rw[Int.natAbs_mul,Int.natAbs_natCast]
 have e1:(CN x d).neg=decide (x*(e:Int)<0):=Aj4 he;have e2:(CN y e).neg=decide (y*(d:Int)<0):=Aj4 hd;have lX:NW (x*(e:Int)).natAbs<=400:=by
  rw[aX];have:=Ym x.natAbs e;omega
 have lY:NW (y*(d:Int)).natAbs<=400:=by
  rw[aY];have:=Ym y.natAbs d;omega
 unfold Gy;rw[show Ck (CN x d).n (CN y e).d=some (L32 (x*(e:Int)).natAbs) from by rw[aX];exact Zp (by unfold NW at *;omega),Ac,show Ck (CN y e).n (CN x d).d=some (L32 (y*(d:Int)).natAbs) from by rw[aY];exact Zp (by unfold NW at *;omega),Ac,
  show Ck (CN x d).d (CN y e).d=some (L32 (d*e)) from Zp (by unfold NW at *;omega),Ac,e1,e2]
 generalize x*(e:Int)=X at *;generalize y*(d:Int)=Y at *
 by_cases hs:(X<0↔Y<0)
 .refine⟨⟨decide (X<0),L32 (X+Y).natAbs,L32 (d*e)⟩,?_,⟨rfl,rfl,fun h0=>?_⟩⟩
  .rw[iP (by by_cases h1:X<0 <;> simp[h1] <;> omega),Anr (by unfold NW at *;omega) (by unfold NW at *;omega),Ac,show X.natAbs+Y.natAbs=(X+Y).natAbs by omega]
  .by_cases h1:X<0
   .rw[dT h1,dT oo]
   .rw[dF h1,dF oo]
 .rw[iN (by by_cases h1:X<0 <;> simp[h1] <;> omega),Ajh _ _ (by unfold NW at *;omega),Ac]
  by_cases hc:Y.natAbs<=X.natAbs
  .refine⟨⟨decide (X<0),L32 (X+Y).natAbs,L32 (d*e)⟩,?_,⟨rfl,rfl,fun h0=>?_⟩⟩
   .rw[iP (by unfold cmpN;split <;> (try split) <;> omega),Ajj (by unfold NW at *;omega) hc,Ac,show X.natAbs-Y.natAbs=(X+Y).natAbs by omega]
   .by_cases h1:X<0
    .rw[dT h1,dT oo]
    .rw[dF h1,dF oo]
  .refine⟨⟨decide (Y<0),L32 (X+Y).natAbs,L32 (d*e)⟩,?_,⟨rfl,rfl,fun h0=>?_⟩⟩
   .rw[iN (by unfold cmpN;split <;> (try split) <;> omega),Ajj (by unfold NW at *;omega) oo,Ac,show Y.natAbs-X.natAbs=(X+Y).natAbs by omega]
   .by_cases h1:Y<0
    .rw[dT h1,dT oo]
    .rw[dF h1,dF oo]
theorem Awo(x:Int)(d:Nat):Ni (CN x d)=some (CN (-x) d):=by
 unfold Ni CN;dsimp only;rw[jn_d,Int.natAbs_neg]
 by_cases h:x<0
 .rw[iP (sV h),dF (oo:¬ -x<0)]
 .rw[iN (sV h)]
  by_cases h0:x=0
  .subst h0;rw[show (L32 (0:Int).natAbs).length=0 from (Qs (a:=0)).2 rfl];rfl
  .have hne:(L32 x.natAbs).length≠0:=fun h=>h0 (by have:=Qs.1 h;omega)
   rw[dT oo,dT oo]
theorem Bai{x y:Int}{d e:Nat}(hd:0<d)(he:0<e)(hd2:NW d<=200)(he2:NW e<=200)(hx:NW x.natAbs<=200)(hy:NW y.natAbs<=200):
  ∃n,Pr (CN x d) (CN y e)=some n/\FrIs n (x*e-y*d) (d*e):=by
 obtain⟨n,h1,h2⟩:=Bah (x:=x) (y:=-y) hd he hd2 he2 hx (by rw[Int.natAbs_neg];exact hy);refine⟨n,?_,?_⟩
 .unfold Pr;rw[Awo,Ac,h1,Ac]
 .rwa [Int.neg_mul,<-Int.sub_eq_add_neg] at h2
theorem Aqf{n:An}{z:Int}{d:Nat}(h:FrIs n z d):Fz n=some (Int.sign z):=by
 unfold Fz;rw[h.num]
 by_cases h0:z=0
 .subst h0;rfl
 .have:(L32 z.natAbs).length≠0:=fun e=>h0 (by have:=Qs.1 e;omega)
  rw[iN oo,h.neg h0]
  by_cases h1:z<0
  .rw[iP (sV h1),Int.sign_eq_neg_one_of_neg h1]
  .rw[iN (sV h1),Int.sign_eq_one_of_pos oo]
theorem Bd0{x y:Int}{d e:Nat}(hd:0<d)(he:0<e)(hd2:NW d<=200)(he2:NW e<=200)(hx:NW x.natAbs<=200)(hy:NW y.natAbs<=200):
  Ps (CN x d) (CN y e)=some (Int.sign (x*e-y*d)):=by
 obtain⟨n,h1,h2⟩:=Bai (x:=x) (y:=y) hd he hd2 he2 hx hy;unfold Ps;rw[h1,Ac,Aqf h2,Ac]
theorem Aqg{x y:Int}(h:x*y≠0):(!(decide (x<0)==decide (y<0)))=decide (x*y<0):=by
 have hx:x≠0:=fun e=>h (by rw[e,Int.zero_mul])
 have hy:y≠0:=fun e=>h (by rw[e,Int.mul_zero])
 rcases Int.lt_or_gt_of_ne hx with h1|h1 <;> rcases Int.lt_or_gt_of_ne hy with h2|h2
 .have:=Int.mul_pos_of_neg_of_neg h1 h2;simp[h1,h2];omega
 .have:=Int.mul_neg_of_neg_of_pos h1 h2;rw[dT h1,dF oo,dT this];rfl
 .have:=Int.mul_neg_of_pos_of_neg h1 h2;rw[dF oo,dT h2,dT this];rfl
 .have:=Int.mul_pos h1 h2;rw[dF oo,dF oo,dF oo];rfl
theorem Bd1{x y:Int}{d e:Nat}(hd2:NW d<=200)(he2:NW e<=200)(hx:NW x.natAbs<=200)(hy:NW y.natAbs<=200):
  ∃n,Fy (CN x d) (CN y e)=some n/\FrIs n (x*y) (d*e):=by
 unfold Fy CN;dsimp only;rw[Zp (by unfold NW at *;omega),Ac,Zp (by unfold NW at *;omega),Ac];exact⟨_,rfl,by rw[Int.natAbs_mul],rfl,fun h0=>Aqg h0⟩
theorem Bce{x y:Int}{d e:Nat}(hy0:0<y)(hd2:NW d<=200)(he2:NW e<=200)(he:0<e)(hx:NW x.natAbs<=200)(hy:NW y.natAbs<=200):
  ∃n,Rj (CN x d) (CN y e)=some n/\FrIs n (x*e) (d*y.natAbs):=by
 unfold Rj CN;dsimp only;rw[Zp (by unfold NW at *;omega),Ac,Zp (by unfold NW at *;omega),Ac];refine⟨_,rfl,by rw[Int.natAbs_mul,Int.natAbs_natCast],rfl,fun h0=>?_⟩;have:=Aqg (x:=x) (y:=y) (fun h=>by
  rcases Int.mul_eq_zero.1 h with h|h
  .rw[h,Int.zero_mul] at h0;exact h0 rfl
  .omega)
 rw[dF (oo:¬y<0)] at this⊢;rw[<-Aj4 he];cases decide (x<0) <;> rfl
theorem Aoa{h x:Nat}(hh:h<=1073741824)(hx:x<4294967296):Fb .i64 (shl_ .i64 (h:Int) 32) (w64 (x:Int))=((h*4294967296+x:Nat):Int):=by
 have e1:shl_ .i64 (h:Int) 32=((h*4294967296:Nat):Int):=by
  show w64 ((h:Int)*2^(min (32:Int).toNat 64))=_;rw[show (2:Int)^(min (32:Int).toNat 64)=4294967296 from by decide,Av oo oo];omega
 rw[e1,Av oo oo];unfold Fb;have e:(BitVec.ofInt IntKind.i64.bits ((h*4294967296:Nat):Int) ||| BitVec.ofInt IntKind.i64.bits (x:Int)).toNat=h*4294967296+x:=by
  show (BitVec.ofInt 64 ((h*4294967296:Nat):Int) ||| BitVec.ofInt 64 (x:Int)).toNat=_;rw[BitVec.toNat_or];have k:∀n:Nat,n<18446744073709551616->(BitVec.ofInt 64 (n:Int)).toNat=n:=fun n hn=>by
   simp[BitVec.toNat_ofInt];omega
  rw[k _ oo,k _ oo,show h*4294967296=2^32*h by omega,<-Nat.two_pow_add_eq_or_of_lt oo]
 rw[e];exact Av oo oo
theorem Aza{q:Nat}(h:4294967296<=q)(h2:q<18446744073709551616):L32 q=[((q%4294967296:Nat):Int),((q/4294967296:Nat):Int)]:=by
 unfold L32;rw[Hw oo oo,Hw oo (oo:q/4294967296≠0),show q/4294967296/4294967296=0 by omega,Hy,show q/4294967296%4294967296=q/4294967296 by omega];rfl
theorem Aob{q:Nat}(h:q<=4611686018427387904):lfix (Cf (L32 q)) (0,w64 (((((L32 q).length:Nat):Int))-1))=some (q:Int):=by
 have out:∀(l:LI) (n:Int),lfix (Cf l) (n,-1)=some n:=fun l n=>by
  rw[Ax];unfold Cf;rw[iN s_]
 by_cases h0:q=0
 .subst h0;rw[(Qs (a:=0)).2 rfl];exact out _ _
 .by_cases h1:q<4294967296
  ·rw[Acu oo h1,show w64 (((([(q:Int)].length:Nat):Int))-1)=0 from rfl,Ax];have e:Cf [(q:Int)] (0,0)=some (.inl ((q:Int),-1)):=by
    unfold Cf;dsimp only;have:=Aoa (h:=0) (x:=q) oo h1;rw[iP oo,show idx [(q:Int)] 0=some (q:Int) from rfl,Ac,show ((0:Int))=((0:Nat):Int) from rfl,this];simp;rfl
   rw[e];exact out _ _
  ·rw[Aza oo oo,show w64 (((([((q % 4294967296:Nat):Int),((q / 4294967296:Nat):Int)].length:Nat):Int))-1)=1 from rfl,Ax];have e:Cf [((q % 4294967296:Nat):Int),((q / 4294967296:Nat):Int)] (0,1)=some (.inl (((q / 4294967296:Nat):Int),0)):=by
    unfold Cf;dsimp only;have:=Aoa (h:=0) (x:=q/4294967296) oo oo;rw[iP oo,show idx [((q%4294967296:Nat):Int),((q/4294967296:Nat):Int)] 1=some ((q/4294967296:Nat):Int) from rfl,Ac,show ((0:Int))=((0:Nat):Int) from rfl,this];simp;rfl
   have e':Cf [((q%4294967296:Nat):Int),((q/4294967296:Nat):Int)] (((q/4294967296:Nat):Int),0)=some (.inl ((q:Int),-1)):=by
    unfold Cf;dsimp only;have:=Aoa (h:=q/4294967296) (x:=q%4294967296) oo oo;rw[iP oo,show idx [((q%4294967296:Nat):Int),((q/4294967296:Nat):Int)] 0=some ((q%4294967296:Nat):Int) from rfl,Ac,this,show q/4294967296*4294967296+q%4294967296=q by omega];rfl
   rw[e];dsimp only;rw[Ax,e'];exact out _ _
theorem Aj5(a:Nat){d:Nat}(hd:0<d):(-(a:Int))/(d:Int) = -((a/d+(if 0<a%d then 1 else 0):Nat):Int):=by
 have h:=Nat.div_add_mod a d;have hm:=Nat.mod_lt a hd
 by_cases c:0<a%d
 .rw[iP c];refine ((Int.ediv_emod_unique (r:=(d:Int)-((a%d:Nat):Int)) oo).2 ⟨?_,oo,oo⟩).1;have h':(d:Int)*((a/d:Nat):Int)+((a%d:Nat):Int)=(a:Int):=by rw[<-Int.natCast_mul,<-Int.natCast_add,h]
  rw[Int.natCast_add,Int.mul_neg,Int.mul_add];generalize (d:Int)*((a/d:Nat):Int)=z at *;omega
 .rw[iN c];refine ((Int.ediv_emod_unique (r:=0) oo).2 ⟨?_,oo,oo⟩).1;have h':(d:Int)*((a/d:Nat):Int)+((a%d:Nat):Int)=(a:Int):=by rw[<-Int.natCast_mul,<-Int.natCast_add,h]
  rw[Nat.add_zero,Int.mul_neg];generalize (d:Int)*((a/d:Nat):Int)=z at *;omega
theorem Azb{z:Int}{d:Nat}(hz:NW z.natAbs<=200)(hd:0<d)(hd2:NW d<=200)(hq:z.natAbs/d<4611686018427387904):Mn (CN z d)=some (z/(d:Int),true):=by
 have key:∀ Q:Nat,Q<=4611686018427387904->z / (d:Int)=(if z<0 then -(Q:Int) else (Q:Int)) ->
   (bnd (Ku 4611686018427387904) fun r40=>bnd (Jd (L32 Q) r40) fun r48=>if 0<r48 then (some ((0:Int),false)) else (jn (fun (s9:Int)=>jn (fun (s17:Int)=>some (s17,true)) (fun j17=>if decide (z<0)=true then (j17 (w64 (-s9))) else (j17 s9))) (fun j9=>bnd (lfix (Cf (L32 Q)) (0,w64 (((((L32 Q).length:Nat):Int))-1))) fun t69=>j9 t69)))=some (z/(d:Int),true):=by
  intro Q hQ e;rw[show (4611686018427387904:Int)=((4611686018427387904:Nat):Int) from rfl,Afc oo,Ac,Ajh _ _ (Nat.le_trans (Yw (k:=2) (oo:Q<4294967296^2)) oo),Ac,iN (by unfold cmpN;split <;> (try split) <;> omega),jn_d,Aob hQ,Ac,e];dsimp only;rw[jn_d]
  by_cases c:z<0
  .rw[iP (sV c),iP c,Av oo oo]
  .rw[iN (sV c),iN c]
 unfold Mn CN;dsimp only;rw[Aqd hd oo oo,Ac];dsimp only;rw[jn_d,jn_d]
 by_cases c:z<0
 .rw[iP (sV c)];dsimp only;have e0:z = -((z.natAbs:Nat):Int):=oo;have en:=Aj5 z.natAbs hd;rw[<-e0] at en
  by_cases c2:0<z.natAbs%d
  .have:(L32 (z.natAbs%d)).length≠0:=fun e=>by have:=Qs.1 e;omega
   rw[iP (by rw[dQ];omega),oneW,Anr (Nat.le_trans (Yw (k:=2) (oo:z.natAbs/d<4294967296^2)) oo) (Nat.le_trans (Yw (k:=1) oo) oo),Ac];rw[iP c2] at en;exact key (z.natAbs/d+1) oo (by rw[iP c,en])
  .rw[iN (by rw[dQ,show z.natAbs%d=0 by omega,(Qs (a:=0)).2 rfl];simp)];rw[iN c2] at en;exact key (z.natAbs/d) oo (by rw[iP c,en];simp)
 .rw[iN (sV c)];dsimp only;rw[iN s_];have e0:z=((z.natAbs:Nat):Int):=oo;refine key (z.natAbs/d) oo ?_;rw[iN c];have:=Int.natCast_ediv z.natAbs d;rw[<-e0] at this;exact this.symm
theorem Aqh{z:Int}{d:Nat}(hz:NW z.natAbs<=200)(hd:0<d)(hd2:NW d<=200)(hq:z.natAbs/d<4611686018427387904)(h1:-1152921504606846976<=z/(d:Int))(h2:z/(d:Int)<=1152921504606846976):Qj (CN z d)=some (z/(d:Int),true):=by
 unfold Qj;rw[Azb hz hd hd2 hq,Ac];dsimp only;rw[jn_d,iP rfl,iN oo];dsimp only;rw[iN (by rw[dQ];omega)]
structure Lo(k:Nat)(z:Int)(d:Nat):Prop where
 co:Nat.gcd z.natAbs d=1
 pos:0<d
 nz:NW z.natAbs<=k
 nd:NW d<=k
theorem Lo.mono{k k':Nat}{z:Int}{d:Nat}(h:Lo k z d)(hk:k<=k'):Lo k' z d:=⟨h.co,h.pos,Nat.le_trans h.nz hk,Nat.le_trans h.nd hk⟩
theorem Lo.ofRed{k:Nat}{z c:Int}{d e:Nat}(h:Red z d c e)(hz:NW z.natAbs<=k)(hd:NW d<=k):Lo k c e:=⟨h.co,h.pos,Nat.le_trans (Sy h.le.2) hz,Nat.le_trans (Sy h.le.1) hd⟩
theorem nw_1:NW 1<=1:=Yw oo
theorem Lo.int{k:Nat}{x:Int}(h:NW x.natAbs<=k)(hk:1<=k):Lo k x 1:=⟨Nat.gcd_one_right _,oo,h,Nat.le_trans nw_1 hk⟩
theorem Lo.neg{k:Nat}{z:Int}{d:Nat}(h:Lo k z d):Lo k (-z) d:=⟨by rw[Int.natAbs_neg];exact h.co,h.pos,by rw[Int.natAbs_neg];exact h.nz,h.nd⟩
theorem Afh(x:Int)(e:Nat):NW (x*(e:Int)).natAbs<=NW x.natAbs+NW e:=by rw[Int.natAbs_mul,Int.natAbs_natCast];exact Ym _ _
theorem Aqi{x y:Int}{k:Nat}(hx:NW x.natAbs<=k)(hy:NW y.natAbs<=k):NW (x+y).natAbs<=k+1:=Nat.le_trans (Sy (oo:(x+y).natAbs<=x.natAbs+y.natAbs)) (Bb8 hx hy)
theorem Aoc{k:Nat}{x y:Int}{d e:Nat}(hx:Lo k x d)(hy:Lo k y e):NW (x*e+y*d).natAbs<=2*k+1:=by
 have h1:=Afh x e;have h2:=Afh y d;have:=hx.nz;have:=hx.nd;have:=hy.nz;have:=hy.nd;exact Aqi oo oo
theorem Baj{x y z:Int}{d e f:Nat}(hx:Lo 60 x d)(hy:Lo 60 y e)(hr:Red (x*e+y*d) (d*e) z f):Xh (CR x d) (CR y e)=some (CR z f,0):=by
 have a1:=hx.nz;have a2:=hx.nd;have b1:=hy.nz;have b2:=hy.nd;obtain⟨n,h1,h2⟩:=Bah (x:=x) (y:=y) hx.pos hy.pos oo oo oo oo;have hb:=Aoc hx hy;have hde:=Ym d e;unfold Xh;rw[Acw (Tw oo oo) (Tw oo oo),Ac,iN s_,of_G oo oo hx.pos hx.co,Ac,of_G oo oo hy.pos hy.co,Ac,h1,Ac,Agq h2 oo oo hr,Ac]
theorem Bd2{x y z:Int}{d e f:Nat}(hx:Lo 60 x d)(hy:Lo 60 y e)(hr:Red (x*e-y*d) (d*e) z f):Xi (CR x d) (CR y e)=some (CR z f,0):=by
 have a1:=hx.nz;have a2:=hx.nd;have b1:=hy.nz;have b2:=hy.nd;obtain⟨n,h1,h2⟩:=Bai (x:=x) (y:=y) hx.pos hy.pos oo oo oo oo;have hb:=Aoc hx hy.neg;rw[Int.neg_mul,<-Int.sub_eq_add_neg] at hb;have hde:=Ym d e;unfold Xi;rw[Acw (Tw oo oo) (Tw oo oo),Ac,iN s_,of_G oo oo hx.pos hx.co,Ac,of_G oo oo hy.pos hy.co,Ac,h1,Ac,Agq h2 oo oo hr,Ac]
theorem Bd3{x y z:Int}{d e f:Nat}(hx:Lo 60 x d)(hy:Lo 60 y e)(hr:Red (x*y) (d*e) z f):Xj (CR x d) (CR y e)=some (CR z f,0):=by
 have a1:=hx.nz;have a2:=hx.nd;have b1:=hy.nz;have b2:=hy.nd;obtain⟨n,h1,h2⟩:=Bd1 (x:=x) (y:=y) (d:=d) (e:=e) oo oo oo oo;have hb:=Ym x.natAbs y.natAbs;rw[<-Int.natAbs_mul] at hb;have hde:=Ym d e;unfold Xj;rw[Acw (Tw oo oo) (Tw oo oo),Ac,iN s_,of_G oo oo hx.pos hx.co,Ac,of_G oo oo hy.pos hy.co,Ac,h1,Ac,Agq h2 oo oo hr,Ac]
theorem Bd4{x y z:Int}{d e f:Nat}(hx:Lo 60 x d)(hy:Lo 60 y e)(hy0:0<y)(hr:Red (x*e) (d*y.natAbs) z f):Xk (CR x d) (CR y e)=some (CR z f,0):=by
 have a1:=hx.nz;have a2:=hx.nd;have b1:=hy.nz;have b2:=hy.nd;obtain⟨n,h1,h2⟩:=Bce (x:=x) (y:=y) (d:=d) (e:=e) hy0 oo oo hy.pos oo oo;have hb:=Afh x e;have hde:=Ym d y.natAbs;unfold Xk;rw[Acw (Tw oo oo) (Tw oo oo),Ac,iN s_,of_G oo oo hy.pos hy.co,Ac,Aqf (Bdz _ _),Ac,Int.sign_eq_one_of_pos oo,iN oo,
  of_G oo oo hx.pos hx.co,Ac,h1,Ac,Agq h2 oo oo hr,Ac]
theorem Awp{x:Int}(h1:-9223372036854775808<=x)(h2:x<=9223372036854775807):Jb x=some (CR x 1):=by
 obtain⟨n,e,hn⟩:=Anu h1 h2;have hz:NW x.natAbs<=2:=Yw oo;have h1:=nw_1;unfold Jb;rw[e,Ac,Agq (z:=x) (d:=1) (c:=x) (e:=1) ⟨hn.num,by rw[hn.den,oneW],hn.neg⟩ oo oo (Red.id (Nat.gcd_one_right _) oo),Ac]
theorem Azc{x y:Int}{d e:Nat}(hx:Lo 60 x d)(hy:Lo 60 y e)(hle:x*e<=y*d)(a1:x.natAbs/d<4611686018427387904)(a2:-1152921504606846976<=x/(d:Int))(a3:x/(d:Int)<=1152921504606846976)(b1:y.natAbs/e<4611686018427387904)(b2:-1152921504606846976<=(-y)/(e:Int))(b3:(-y)/(e:Int)<=1152921504606846976):Sg (CR x d) (CR y e)=some (⟨x/(d:Int),-((-y)/(e:Int))⟩,0):=by
 have n1:=hx.nz;have n2:=hx.nd;have m1:=hy.nz;have m2:=hy.nd;have f1:=Aqh oo hx.pos oo a1 a2 a3;have f2:=Aqh (z:=-y) (d:=e) (by rw[Int.natAbs_neg];omega) hy.pos oo (by rw[Int.natAbs_neg];exact b1) b2 b3;have hs:¬0<Int.sign (x*e-y*d):=by
  rcases Int.lt_or_eq_of_le hle with h|h
  .rw[Int.sign_eq_neg_one_of_neg oo];omega
  .rw[h,Int.sub_self];decide
 unfold Sg;rw[Acw (Tw oo oo) (Tw oo oo),Ac,iN s_,of_G oo oo hx.pos hx.co,Ac,of_G oo oo hy.pos hy.co,Ac,jn_d,show Ps (CN x d) (CN y e)=some (Int.sign (x*e-y*d)) from Bd0 hx.pos hy.pos oo oo oo oo,Ac,iN hs];dsimp only;rw[show Qj ⟨(CN x d).neg,(CN x d).n,(CN x d).d⟩=_ from f1,Ac,show Ni ⟨(CN y e).neg,(CN y e).n,(CN y e).d⟩=_ from Awo y e,Ac,f2,Ac,jn_d];dsimp only;rw[iP rfl,iN s_];unfold Yn;rw[jn_d,Av oo oo,iN oo];dsimp only;rw[iN (by rw[dQ];omega),Ac]
def lv(x:Aa)(h:Bool):Int:=if h=true then x.Z.Hi else x.Z.Lo
def okV(x:Aa):Prop:=(-268435456<=x.X/\x.X<=268435456/\-268435456<=x.Y/\x.Y<=268435456)/\-268435456<=x.Z.Lo/\x.Z.Lo<=x.Z.Hi/\x.Z.Hi<=268435456
theorem Red.val{z c:Int}{d e:Nat}(h:Red z d c e):c*(d:Int)=z*(e:Int):=by
 obtain⟨⟨g,_,h1,h2⟩,_,_⟩:=h;rw[h1,h2,Int.natCast_mul];grind
theorem Asp(x:Aa)(h:Bool):Rz x h=some (lv x h):=by
 unfold Rz lv;cases h <;> rfl
theorem Awq{W z0 S c z e0 f:Int}(he:0<e0)(h1:c*W=S*e0)(h2:z*e0=(z0*e0+c)*f):z*W=(z0*W+S)*f:=by
 have:e0*(z*W)=e0*((z0*W+S)*f):=by
  have e1:e0*(z*W)=(z*e0)*W:=by grind
  rw[e1,h2];have e2:(z0*e0+c)*f*W=(z0*e0*W+c*W)*f:=by grind
  rw[e2,h1];grind
 exact Int.eq_of_mul_eq_mul_left oo this
theorem nw4{a:Nat}(h:a<340282366920938463463374607431768211456):NW a<=4:=Yw (by
 have:(4294967296:Nat)^4=340282366920938463463374607431768211456:=dD;omega)
theorem loI{x:Int}(h:x.natAbs<340282366920938463463374607431768211456):Lo 60 x 1:=Lo.int (Nat.le_trans (nw4 h) oo) oo
theorem numG(k:Bc){x:Int}(h1:-9223372036854775808<=x)(h2:x<=9223372036854775807):Dj k x=some (CR x 1):=by
 unfold Dj;rw[Awp h1 h2,Ac]
theorem Aqj(k:Bc){x y:Int}(hx:x.natAbs<340282366920938463463374607431768211456)(hy:y.natAbs<340282366920938463463374607431768211456):Ks k (CR x 1) (CR y 1)=some (CR (x-y) 1):=by
 unfold Ks;rw[Bd2 (loI hx) (loI hy) (z:=x-y) (f:=1) (by
  rw[show x*((1:Nat):Int)-y*((1:Nat):Int)=x-y by omega];exact Red.id (Nat.gcd_one_right _) oo),Ac]
theorem Bd5(k:Bc){x y:Int}(hx:x.natAbs<340282366920938463463374607431768211456)(hy:y.natAbs<340282366920938463463374607431768211456):Kr k (CR x 1) (CR y 1)=some (CR (x+y) 1):=by
 unfold Kr;rw[Baj (loI hx) (loI hy) (z:=x+y) (f:=1) (by
  rw[show x*((1:Nat):Int)+y*((1:Nat):Int)=x+y by omega];exact Red.id (Nat.gcd_one_right _) oo),Ac]
theorem Aim(k:Bc){x y:Int}(hx:x.natAbs<340282366920938463463374607431768211456)(hy:y.natAbs<340282366920938463463374607431768211456):Gv k (CR x 1) (CR y 1)=some (CR (x*y) 1):=by
 unfold Gv;rw[Bd3 (loI hx) (loI hy) (z:=x*y) (f:=1) (Red.id (Nat.gcd_one_right _) oo),Ac]
theorem Bd6(k:Bc){x c:Int}{y e:Nat}(hx:x.natAbs<340282366920938463463374607431768211456)(hy0:0<y)(hy:y<340282366920938463463374607431768211456)(hr:Red x y c e):Rk k (CR x 1) (CR (y:Int) 1)=some (CR c e):=by
 unfold Rk;rw[Bd4 (loI hx) (loI (x:=(y:Int)) oo) (z:=c) (f:=e) oo (by
  rw[show x*((1:Nat):Int)=x by omega,Int.natAbs_natCast,Nat.one_mul];exact hr),Ac]
theorem Aqk{A B D:Aa}{x y:Int}{h:Bool}(hA:okV A)(hB:okV B)(hD:okV D)(hx:-268435456<=x/\x<=268435456)(hy:-268435456<=y/\y<=268435456)(hW:0<crs (pP A) (pP B) (pP D)):
  ∃c e,Nj ⟨A,B,D⟩ (CR x 1) (CR y 1) h=some (CR c e)/\Lo 8 c e /\
   c*crs (pP A) (pP B) (pP D)=(crs (pP B) (pP D) ⟨x,y⟩*lv A h+crs (pP D) (pP A) ⟨x,y⟩*lv B h+crs (pP A) (pP B) ⟨x,y⟩*lv D h)*(e:Int):=by
 obtain⟨⟨a1,a2,a3,a4⟩,a5,a6,a7⟩:=hA;obtain⟨⟨b1,b2,b3,b4⟩,b5,b6,b7⟩:=hB;obtain⟨⟨d1,d2,d3,d4⟩,d5,d6,d7⟩:=hD;have lA:-268435456<=lv A h/\lv A h<=268435456:=by unfold lv;split <;> omega
 have lB:-268435456<=lv B h/\lv B h<=268435456:=by unfold lv;split <;> omega
 have lD:-268435456<=lv D h/\lv D h<=268435456:=by unfold lv;split <;> omega
 have m1:=mulB (x:=x-A.X) (y:=D.Y-A.Y) (M:=536870912) (N:=536870912) oo oo oo oo oo;have m2:=mulB (x:=y-A.Y) (y:=D.X-A.X) (M:=536870912) (N:=536870912) oo oo oo oo oo;have m3:=mulB (x:=B.X-A.X) (y:=y-A.Y) (M:=536870912) (N:=536870912) oo oo oo oo oo;have m4:=mulB (x:=B.Y-A.Y) (y:=x-A.X) (M:=536870912) (N:=536870912) oo oo oo oo oo;have m5:=mulB (x:=B.X-A.X) (y:=D.Y-A.Y) (M:=536870912) (N:=536870912) oo oo oo oo oo;have m6:=mulB (x:=B.Y-A.Y) (y:=D.X-A.X) (M:=536870912) (N:=536870912) oo oo oo oo oo;have hu:(x-A.X)*(D.Y-A.Y)-(y-A.Y)*(D.X-A.X)=crs (pP D) (pP A) ⟨x,y⟩:=by unfold crs pP;grind
 have hv:(B.X-A.X)*(y-A.Y)-(B.Y-A.Y)*(x-A.X)=crs (pP A) (pP B) ⟨x,y⟩:=by unfold crs pP;grind
 have hw:(B.X-A.X)*(D.Y-A.Y)-(B.Y-A.Y)*(D.X-A.X)=crs (pP A) (pP B) (pP D):=by unfold crs pP;grind
 have hs:crs (pP B) (pP D) ⟨x,y⟩=crs (pP A) (pP B) (pP D)-crs (pP D) (pP A) ⟨x,y⟩ - crs (pP A) (pP B) ⟨x,y⟩:=by unfold crs;grind
 have uB:-576460752303423488<=crs (pP D) (pP A) ⟨x,y⟩/\crs (pP D) (pP A) ⟨x,y⟩<=576460752303423488:=by rw[<-hu];omega
 have vB:-576460752303423488<=crs (pP A) (pP B) ⟨x,y⟩/\crs (pP A) (pP B) ⟨x,y⟩<=576460752303423488:=by rw[<-hv];omega
 have wB:crs (pP A) (pP B) (pP D)<=576460752303423488:=by rw[<-hw];omega
 unfold Nj;simp only[Df,Ac,Asp];unfold Aa2;dsimp only;rw[Av (x:=B.X-A.X) oo oo,Av (x:=D.Y-A.Y) oo oo,Av (x:=B.Y-A.Y) oo oo,Av (x:=D.X-A.X) oo oo,
  Av (x:=(B.X-A.X)*(D.Y-A.Y)) oo oo,Av (x:=(B.Y-A.Y)*(D.X-A.X)) oo oo,Av oo oo,Ac,hw]
 rw[numG _ oo oo,Ac,numG _ oo oo,Ac,Aqj _ oo oo,Ac,numG _ oo oo,Ac,Aqj _ oo oo,Ac,
  numG _ oo oo,Ac,Aim _ oo oo,Ac,numG _ oo oo,Ac,Aim _ oo oo,Ac,Aqj _ oo oo,Ac,
  numG _ oo oo,Ac,Aim _ oo oo,Ac,numG _ oo oo,Ac,Aim _ oo oo,Ac,Aqj _ oo oo,Ac,hu,hv]
 rw[Av (x:=lv B h-lv A h) oo oo,Av (x:=lv D h-lv A h) oo oo];rw[hs];generalize crs (pP D) (pP A) ⟨x,y⟩=u at *;generalize crs (pP A) (pP B) ⟨x,y⟩=v at *;generalize crs (pP A) (pP B) (pP D)=W at *;generalize lv A h=z0 at *;generalize lv B h=z1 at *;generalize lv D h=z2 at *;have p1:=mulB (x:=u) (y:=z1-z0) (M:=576460752303423488) (N:=536870912) oo oo oo oo oo;have p2:=mulB (x:=v) (y:=z2-z0) (M:=576460752303423488) (N:=536870912) oo oo oo oo oo;have p3:=mulB (x:=z0) (y:=W) (M:=268435456) (N:=576460752303423488) oo oo oo oo oo;rw[numG _ oo oo,Ac,Aim _ oo oo,Ac,numG _ oo oo,Ac,Aim _ oo oo,Ac,Bd5 _ oo oo,Ac,numG _ oo oo,Ac];obtain⟨w,rfl⟩:=Int.eq_ofNat_of_zero_le (oo:0<=W);obtain⟨c,e,hr⟩:=Awn (u*(z1-z0)+v*(z2-z0)) (d:=w) oo;rw[Bd6 _ oo oo oo hr,Ac];have nS:NW (u*(z1-z0)+v*(z2-z0)).natAbs<=4:=nw4 oo;have nW:NW w<=4:=nw4 oo;have sm:Lo 4 c e:=Lo.ofRed hr nS nW;have he:=hr.le;have h1:=hr.val;have he0:=hr.pos;have hb:=Aoc (Lo.int (k:=4) (x:=z0) (nw4 oo) oo) sm;obtain⟨c',e',hr'⟩:=Awn (z0*(e:Int)+c*((1:Nat):Int)) (d:=1*e) oo;rw[show Kr ⟨⟩ (CR z0 1) (CR c e)=some (CR c' e') from by unfold Kr;rw[Baj (loI oo) (sm.mono oo) hr',Ac],Ac];have h2:=hr'.val;have nS2:NW (z0*(e:Int)+c*((1:Nat):Int)).natAbs<=8:=by
  have q:=Afh z0 e;have q1:NW z0.natAbs<=1:=Yw oo;have q2:NW (c*((1:Nat):Int)).natAbs<=4:=by rw[show c*((1:Nat):Int)=c by omega];exact sm.nz
  have q3:=sm.nd;exact Nat.le_trans (Aqi (k:=5) oo oo) oo
 refine⟨c',e',rfl,Lo.ofRed hr' nS2 (by rw[Nat.one_mul];exact Nat.le_trans sm.nd oo),?_⟩;have:=Awq (W:=(w:Int)) (z0:=z0) (S:=u*(z1-z0)+v*(z2-z0)) (c:=c) (z:=c') (e0:=(e:Int)) (f:=(e':Int)) oo h1 (by
  rw[Nat.one_mul] at h2;rw[h2];simp)
 rw[this];grind
end Go.Proofs.YtlejkgngmjchdaaGreat
