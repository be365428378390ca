import Derived.Test.YthlkpgdfifnagaaGreatJ4b
import Derived.Test.YthlkpgdfifnagaaGreatD2
namespace Go.Proofs.YthlkpgdfifnagaaGreat.X
open Go Go.RowKit
def Uh{α σ τ:Type}(f:σ->α->Sum σ τ)(fin:σ->τ):List α->σ->τ
 |[],s=>fin s
 |x::r,s=>match f s x with
  |.inl s'=>Uh f fin r s'
  |.inr t=>t
theorem Nz{α σ τ β:Type}(l:List α)(enc:σ->Int->β)(f:σ->α->Sum σ τ)(fin:σ->τ)(B:β->Option (Sum β τ))(C:Nat->σ->Prop)(h1:∀(j:Nat) (h:j<l.length) s,C j s->(∃s',f s l[j]=.inl s'/\B (enc s j)=some (.inl (enc s' ((j+1:Nat):Int)))/\C (j+1) s')\/(∃t,f s l[j]=.inr t/\B (enc s j)=some (.inr t)))(h2:∀s,C l.length s->B (enc s l.length)=some (.inr (fin s)))(s0:σ)(h0:C 0 s0):lfix B (enc s0 0)=some (Uh f fin l s0):=by
 have key:∀(m k:Nat) (s:σ),k<=l.length->l.length-k=m->C k s->lfix B (enc s k)=some (Uh f fin (l.drop k) s):=by
  intro m
  induction m with
  |zero=>
   intro k s hk hm hC;obtain rfl:k=l.length:=by omega
   rw[Ay,h2 s hC];simp[Uh]
  |succ m ih=>
   intro k s hk hm hC;have hlt:k<l.length:=by omega
   rw[Ay,List.drop_eq_getElem_cons hlt];rcases h1 k hlt s hC with⟨s',e1,e2,e3⟩|⟨t,e1,e2⟩
   .rw[e2];simp only[Uh,e1];exact ih (k+1) s' (by omega) (by omega) e3
   .rw[e2];simp only[Uh,e1]
 exact key l.length 0 s0 (Nat.zero_le _) rfl h0
theorem Aj9{α:Type}{l:List α}:l.reverse.Nodup↔l.Nodup:=(List.reverse_perm l).nodup_iff
def okXY(p:Ab):Bool:=decide (-268435456<=p.X/\p.X<=268435456/\-268435456<=p.Y/\p.Y<=268435456)
def okPt(p:Aa):Bool:=decide (0<=p.Id/\p.Id<=1152921504606846976/\-268435456<=p.X/\p.X<=268435456/\-268435456<=p.Y/\p.Y<=268435456/\-268435456<=p.Z.Lo/\p.Z.Lo<=p.Z.Hi/\p.Z.Hi<=268435456/\0<=p.Wide/\p.Wide<=268435456/\1<=p.Num/\p.Num<=p.Of/\p.Of<=15)
theorem within_eq(a b c:Int):Bx a b c=some (decide (a<=b/\b<=c)):=by
 simp only[Bx,jn_d];grind
theorem Aie(a b c:Int):Bj a b c=some (decide (b<=a/\a<=c)):=by
 simp only[Bj,jn_d];grind
theorem Za(p:Ab):Ic p=some (okXY p):=by
 simp only[Ic,jn_d,within_eq,Ad,okXY,decide_eq_true_eq];grind
theorem Aka(p:Ab):Ks p=some (okXY p):=by
 simp only[Ks,jn_d,okXY];grind
theorem Zb(p:Aa):Pp p=some (okPt p):=by
 simp only[Pp,jn_d,within_eq,Ad,Bt,Za,okXY,okPt,decide_eq_true_eq];grind
theorem Apv(p:Aa):Rr p=some (okPt p):=by
 simp only[Rr,jn_d,Aie,Ad,Aka,okXY,okPt,decide_eq_true_eq];grind
def validL(l:List Aa):Bool:=decide (l.length<=1024)&&l.all okPt&&decide ((l.map (·.Id)).Nodup)
theorem mget_true{m:List (Int×Bool)}(hm:∀p∈m,p.2=true)(x:Int):(mget m x).getD false=decide (x∈m.map (·.1)):=by
 induction m with
 |nil=>simp[mget]
 |cons p r ih=>
  rw[Vk];have hp:=hm p List.mem_cons_self;have ih:=ih (fun q hq=>hm q (List.mem_cons_of_mem _ hq))
  by_cases h:p.1=x
  .rw[if_pos h];simp[hp,h]
  .rw[if_neg h,ih];have:¬x=p.1:=fun e=>h e.symm
   simp[this]
theorem Awr{κ υ:Type}{m:List (κ×υ)}{x:κ}{v:υ}(h:x∉m.map (·.1)):mput m x v=(x,v)::m:=by
 unfold mput mdel;rw[List.filter_eq_self.2];intro q hq;simp only[decide_eq_true_eq];exact fun e=>h (e▸List.mem_map_of_mem hq)
def Ael(s:LI)(x:Aa):Sum LI (Sum Unit Bool):=if okPt x=true/\x.Id∉s then .inl (x.Id::s) else .inr (.inr false)
theorem Adn:∀(l:List Aa) (s:LI),s.Nodup->Uh Ael (fun _=>.inl ()) l s=if l.all okPt=true/\((l.map (·.Id)).reverse++s).Nodup then .inl () else .inr false
 |[],s,hs=>by simp[Uh,hs]
 |x::r,s,hs=>by
  unfold Uh Ael
  by_cases h:okPt x=true/\x.Id∉s
  .rw[if_pos h];dsimp only;have:=Adn r (x.Id::s) (List.nodup_cons.2 ⟨h.2,hs⟩);unfold Ael at this;rw[this];simp[h.1]
  .rw[if_neg h];dsimp only;rw[if_neg];rintro⟨h1,h2⟩;refine h ⟨by simp at h1;exact h1.1,fun hx=>?_⟩;simp only[List.map_cons,List.reverse_cons,List.append_assoc,List.cons_append,List.nil_append] at h2;have:=(List.nodup_append.1 h2).2.1;exact (List.nodup_cons.1 this).1 hx
theorem Aws(l:List Aa):Wl l=some (validL l):=by
 unfold Wl validL
 by_cases hn:1024<(l.length:Int)
 .rw[if_pos hn];have:¬l.length<=1024:=by omega
  simp[this]
 .rw[if_neg hn,jn_d];have hn':l.length<=1024:=by omega
  have key:=Nz l (fun (s:List (Int×Bool)) (i:Int)=>(s,i)) (fun (s:List (Int×Bool)) x=>if okPt x=true/\x.Id∉s.map (·.1) then .inl ((x.Id,true)::s) else .inr (.inr false)) (fun _=>(.inl ():Sum Unit Bool)) (Me l)
   (fun j s=>s.length=j/\∀p∈s,p.2=true) ?_ ?_ [] ⟨rfl,by simp⟩
  ·rw[key,Ad];have conv:∀ (l:List Aa) (s:List (Int × Bool)),Uh (fun (s:List (Int × Bool)) (x:Aa)=>if okPt x=true/\x.Id ∉ s.map (·.1) then Sum.inl ((x.Id,true)::s) else .inr (.inr false)) (fun _=>(.inl ():Sum Unit Bool)) l s=Uh Ael (fun _=>.inl ()) l (s.map (·.1)):=by
    intro l
    induction l with
    |nil=>intro s;rfl
    |cons x r ih=>
     intro s;unfold Uh Ael
     by_cases h:okPt x=true/\x.Id∉s.map (·.1)
     .rw[if_pos h,if_pos h];exact ih _
     .rw[if_neg h,if_neg h]
   rw[conv,List.map_nil,Adn l [] (by simp)];simp only[List.append_nil,Aj9]
   by_cases h:l.all okPt=true/\(l.map (·.Id)).Nodup
   .rw[if_pos h];simp only[hn',h.1,h.2,decide_true,Bool.and_self]
   .rw[if_neg h];dsimp only;replace h:=Decidable.not_and_iff_or_not.1 h;congr 1;rcases h with h|h <;> simp[h]
  .intro j hj s hC;have h0:(j:Int)<(l.length:Int):=by omega
   by_cases hp:okPt l[j]=true
   .have hr:-9223372036854775808<=l[j].Id/\l[j].Id<=9223372036854775807:=by simp only[okPt,decide_eq_true_eq] at hp;omega
    by_cases hs:l[j].Id∈s.map (·.1)
    .right;refine⟨.inr false,by rw[if_neg (fun h=>h.2 hs)],?_⟩;simp only[Me,if_pos h0,Am hj,Ad,jn_d,Zb,hp,if_true,gd_t hr,mget_true hC.2,decide_eq_true hs]
    .left;refine⟨(l[j].Id,true)::s,by rw[if_pos ⟨hp,hs⟩],?_,by simp[hC.1],by intro p hm;rcases List.mem_cons.1 hm with rfl|hm;rfl;exact hC.2 p hm⟩;have hs':decide (l[j].Id∈s.map (·.1))=false:=decide_eq_false hs;simp only[Me,if_pos h0,Am hj,Ad,jn_d,Zb,hp,if_true,gd_t hr,mget_true hC.2,hs',Bool.false_eq_true,if_false,Awr hs,gd_t (show s.length<9223372036854775807 by omega),Au (show j<9223372036854775807 by omega)]
   .right;refine⟨.inr false,by rw[if_neg (fun h=>hp h.1)],?_⟩;have hp':okPt l[j]=false:=by simpa using hp
    simp only[Me,if_pos h0,Am hj,Ad,jn_d,Zb,hp',if_true,Bool.false_eq_true,if_false]
  .intro s hC;simp only[Me,Int.lt_irrefl,if_false]
theorem rvalid_eq(l:List Aa):Hp l=some (validL l):=by
 unfold Hp
 by_cases hn:1024<(l.length:Int)
 .rw[if_pos hn];have:¬l.length<=1024:=by omega
  simp[validL,this]
 .rw[if_neg hn,jn_d];have hn':l.length<=1024:=by omega
  have inner:∀(j:Nat) (hj:j<l.length),lfix (Gr j l) 0=some (if ∀(k:Nat) (hk:k<j),l[k].Id≠l[j].Id then .inl () else .inr false):=by
   intro j hj;have:=Wd (β:=Unit) (γ:=Bool) (l.take j) (fun q=>decide (q.Id≠l[j].Id)) (Gr j l) () false ?_ ?_
   ·rw[this];congr 1;have e:(l.take j).all (fun q=>decide (q.Id≠l[j].Id))=true↔∀ (k:Nat) (hk:k<j),l[k].Id≠l[j].Id:=by
     rw[List.all_eq_true];constructor
     .intro h k hk;have:=h (l[k]) (List.mem_take_iff_getElem.2 ⟨k,by omega,rfl⟩);simpa using this
     .intro h q hq;obtain⟨k,hk,rfl⟩:=List.mem_take_iff_getElem.1 hq;simpa using h k (by omega)
    by_cases h:∀(k:Nat) (hk:k<j),l[k].Id≠l[j].Id
    .rw[if_pos (e.2 h),if_pos h]
    .rw[if_neg (fun h'=>h (e.1 h')),if_neg h]
   .intro k hk;have hk':k<j:=by simp at hk;omega
    have hkl:k<l.length:=by omega
    simp only[Gr,if_pos (show (k:Int)<(j:Int) by omega),Am hkl,Am hj,Ad,Au (show k<9223372036854775807 by omega),List.getElem_take]
    by_cases h:l[k].Id=l[j].Id <;> simp[h]
   .have:(l.take j).length=j:=by simp;omega
    simp only[Gr,this,Int.lt_irrefl,if_false]
  have key:=Nz (β:=Int) l (fun (s:LI) (i:Int)=>i) Ael (fun _=>(.inl ():Sum Unit Bool)) (Ed l)
   (fun j s=>s=((l.take j).map (·.Id)).reverse) ?_ ?_ [] rfl
  .rw[key,Ad,Adn l [] (by simp)];simp only[List.append_nil,Aj9,validL]
   by_cases h:l.all okPt=true/\(l.map (·.Id)).Nodup
   .rw[if_pos h];simp only[hn',h.1,h.2,decide_true,Bool.and_self]
   .rw[if_neg h];dsimp only;replace h:=Decidable.not_and_iff_or_not.1 h;congr 1;rcases h with h|h <;> simp[h]
  .rintro j hj s rfl;have h0:(j:Int)<(l.length:Int):=by omega
   have hmem:l[j].Id∉((l.take j).map (·.Id)).reverse↔∀(k:Nat) (hk:k<j),l[k].Id≠l[j].Id:=by
    rw[List.mem_reverse,List.mem_map];constructor
    .intro h k hk e;exact h ⟨l[k],List.mem_take_iff_getElem.2 ⟨k,by omega,rfl⟩,e⟩
    .rintro h ⟨q,hq,e⟩;obtain⟨k,hk,rfl⟩:=List.mem_take_iff_getElem.1 hq;exact h k (by omega) e
   by_cases hp:okPt l[j]=true
   .by_cases hs:∀(k:Nat) (hk:k<j),l[k].Id≠l[j].Id
    .left;refine⟨_,by unfold Ael;rw[if_pos ⟨hp,hmem.2 hs⟩],?_,?_⟩
     .simp only[Ed,if_pos h0,Am hj,Ad,jn_d,Apv,hp,if_true,inner j hj,if_pos hs,Au (show j<9223372036854775807 by omega)]
     .have e:l.take (j+1)=l.take j++[l[j]]:=by rw[List.take_add_one,List.getElem?_eq_getElem hj];rfl
      show _=_;rw[e,List.map_append,List.reverse_append];rfl
    .right;refine⟨.inr false,by unfold Ael;rw[if_neg (fun h=>hs (hmem.1 h.2))],?_⟩;simp only[Ed,if_pos h0,Am hj,Ad,jn_d,Apv,hp,if_true,inner j hj,if_neg hs]
   .right;refine⟨.inr false,by unfold Ael;rw[if_neg (fun h=>hp h.1)],?_⟩;simp only[Ed,if_pos h0,Am hj,Ad,jn_d,Apv,hp,Bool.false_eq_true,if_false]
  .intro s _;simp only[Ed,Int.lt_irrefl,if_false]
def okRules(r:Af):Bool:=decide (1<=r.Cell/\r.Cell<=10000000/\0<=r.Reach/\r.Reach<=1000000/\0<=r.Slope/\r.Slope<=100000/\1<=r.Link/\r.Link<=1000000/\0<=r.Flat/\r.Flat<=1000000/\0<=r.Tall/\r.Tall<=1000000/\0<=r.High/\r.High<=1000000/\0<=r.Low/\r.Low<=1000000/\0<=r.Brush/\r.Brush<=1000000/\1<=r.Few/\r.Few<=1024)
theorem At0(r:Af):Hh r=some (okRules r):=by
 simp only[Hh,jn_d,Aie,Ad,decide_eq_true_eq];unfold okRules
 repeat' split
 all_goals (congr 1;grind)
theorem Awt(r:Af):Pq r=some (okRules r):=by
 have key:=Wd (β:=Unit) (γ:=Bool) [r.Reach,r.Flat,r.Tall,r.High,r.Low,r.Brush] (fun n=>decide (0<=n/\n<=1000000)) (Kb r) () false ?_ ?_
 .unfold Pq;rw[jn_d,key,Ad]
  by_cases hc:([r.Reach,r.Flat,r.Tall,r.High,r.Low,r.Brush].all (fun n=>decide (0<=n/\n<=1000000)))=true
  .rw[if_pos hc];simp only[jn_d,within_eq,Ad,decide_eq_true_eq];simp only[List.all_cons,List.all_nil,Bool.and_true,Bool.and_eq_true,decide_eq_true_eq] at hc;unfold okRules
   repeat' split
   all_goals (congr 1;grind)
  .rw[if_neg hc];simp only[List.all_cons,List.all_nil,Bool.and_true,Bool.and_eq_true,decide_eq_true_eq] at hc;dsimp only;unfold okRules;congr 1;symm;rw[decide_eq_false_iff_not];omega
 .intro j hj;have hj':(j:Int)<6:=by simp at hj;omega
  simp only[Kb,if_pos hj',Am hj,Ad,within_eq,Au (show j<9223372036854775807 by simp at hj;omega)]
 .simp only[Kb];rfl
theorem checked_eq(l:List Aa)(r:Af):Qw l r=some (if okRules r=true then (if validL l=true then 0 else 70) else 71):=by
 simp only[Qw,Awt,Ad,Aws];grind
theorem Anh(l:List Aa)(r:Af):Lh l r=some (if okRules r=true then (if validL l=true then 0 else 70) else 71):=by
 simp only[Lh,At0,Ad,rvalid_eq];grind
theorem okPt_rng{p:Aa}(h:okPt p=true):0<=p.Id/\p.Id<=1152921504606846976/\-268435456<=p.X/\p.X<=268435456/\-268435456<=p.Y/\p.Y<=268435456/\-268435456<=p.Z.Lo/\p.Z.Lo<=p.Z.Hi/\p.Z.Hi<=268435456:=by
 simp only[okPt,decide_eq_true_eq] at h;omega
theorem okRules_rng{r:Af}(h:okRules r=true):1<=r.Cell/\r.Cell<=10000000/\0<=r.Reach/\r.Reach<=1000000/\0<=r.Slope/\r.Slope<=100000/\1<=r.Link/\r.Link<=1000000/\0<=r.Low/\r.Low<=1000000:=by
 simp only[okRules,decide_eq_true_eq] at h;omega
theorem Yr{l:List Aa}(h:validL l=true):l.length<=1024/\(∀p∈l,okPt p=true)/\(l.map (·.Id)).Nodup:=by
 simp only[validL,Bool.and_eq_true,decide_eq_true_eq,List.all_eq_true] at h;exact⟨h.1.1,h.1.2,h.2⟩
def sq(p q:Aa):Int:=(p.X-q.X)*(p.X-q.X)+(p.Y-q.Y)*(p.Y-q.Y)
theorem Awu{a:Int}{m:Int}(h1:-m<=a)(h2:a<=m):0<=a*a/\a*a<=m*m:=by
 refine⟨?_,?_⟩
 .rcases Int.le_total 0 a with h|h
  .exact Int.mul_nonneg h h
  .exact Int.mul_nonneg_of_nonpos_of_nonpos h h
 .rcases Int.le_total 0 a with h|h
  .exact Int.mul_le_mul h2 h2 h (by omega)
  .have:(-a)*(-a)<=m*m:=Int.mul_le_mul (by omega) (by omega) (by omega) (by omega)
   rwa [Int.neg_mul_neg] at this
theorem sq_w{a b:Int}(ha:-268435456<=a/\a<=268435456)(hb:-268435456<=b/\b<=268435456):w64 (a-b)=a-b/\w64 ((a-b)*(a-b))=(a-b)*(a-b)/\0<=(a-b)*(a-b)/\(a-b)*(a-b)<=288230376151711744:=by
 have h:=Awu (a:=a-b) (m:=536870912) (by omega) (by omega);refine⟨Aq (by omega) (by omega),Aq (by omega) (by omega),h.1,by omega⟩
theorem Bb7{p q:Aa}(hp:okPt p=true)(hq:okPt q=true):w64 ((w64 ((w64 (p.X-q.X))*(w64 (p.X-q.X))))+(w64 ((w64 (p.Y-q.Y))*(w64 (p.Y-q.Y)))))=sq p q:=by
 have h1:=okPt_rng hp;have h2:=okPt_rng hq;obtain⟨a1,a2,a3,a4⟩:=sq_w (a:=p.X) (b:=q.X) (by omega) (by omega);obtain⟨b1,b2,b3,b4⟩:=sq_w (a:=p.Y) (b:=q.Y) (by omega) (by omega);rw[a1,b1,a2,b2];exact Aq (by omega) (by omega)
theorem sq_comm(p q:Aa):sq p q=sq q p:=by
 have h:∀a b:Int,(a-b)*(a-b)=(b-a)*(b-a):=fun a b=>by rw[<-Int.neg_mul_neg,Int.neg_sub]
 unfold sq;rw[h p.X,h p.Y]
theorem sq_zero{p q:Aa}:sq p q<=0↔p.X=q.X/\p.Y=q.Y:=by
 have h1:∀a:Int,0<=a*a:=fun a=>by
  rcases Int.le_total 0 a with h|h
  .exact Int.mul_nonneg h h
  .exact Int.mul_nonneg_of_nonpos_of_nonpos h h
 constructor
 .intro h;unfold sq at h;have e1:=h1 (p.X-q.X);have e2:=h1 (p.Y-q.Y);have f1:(p.X-q.X)*(p.X-q.X)=0:=by omega
  have f2:(p.Y-q.Y)*(p.Y-q.Y)=0:=by omega
  rcases Int.mul_eq_zero.1 f1 with g|g <;> rcases Int.mul_eq_zero.1 f2 with k|k <;> omega
 .rintro⟨h,k⟩;unfold sq;rw[h,k];simp
theorem near_eq{p q:Aa}(hp:okPt p=true)(hq:okPt q=true){m:Int}(h1:0<=m)(h2:m<=1000000):Vv p q m=some (decide (sq p q<=m*m)):=by
 have hm:w64 (m*m)=m*m:=by have:=Awu (a:=m) (m:=1000000) (by omega) h2;exact Aq (by omega) (by omega)
 simp only[Vv,Bt,Ad,Mf,Bb7 hp hq,hm]
theorem apart_eq{p q:Aa}(hp:okPt p=true)(hq:okPt q=true):Bu p q=some (sq p q):=by
 simp only[Bu,Bb7 hp hq]
def Aif(p:Aa)(r:Af)(s:Bool)(q:Aa):Sum Bool (Sum Bool Bool):=
 if q.Id=p.Id\/r.Link*r.Link<sq q p then .inl s else if q.Z.Lo-p.Z.Hi<=r.Low then .inr (.inr false) else .inl true
def sunkB(l:List Aa)(r:Af)(p:Aa):Bool:=match Uh (Aif p r) .inl l false with
 |.inl b=>b
 |.inr b=>b
theorem Bac{l:List Aa}(hl:validL l=true){r:Af}(hr:okRules r=true){i:Nat}(hi:i<l.length):Vd l i r=some (sunkB l r l[i]):=by
 obtain⟨g1,g2,g3⟩:=Yr hl;have hR:=okRules_rng hr;have hp:=g2 _ (List.getElem_mem hi);have key:=Nz l (fun (s:Bool) (j:Int)=>(s,j)) (Aif l[i] r) (Sum.inl:Bool->Sum Bool Bool) (Qq l i r) (fun _ _=>True) ?_ ?_ false trivial
 .unfold Vd sunkB;rw[jn_d,key,Ad];cases Uh (Aif l[i] r) (Sum.inl:Bool->Sum Bool Bool) l false <;> rfl
 .intro j hj s _;have h0:(j:Int)<(l.length:Int):=by omega
  have hq:=g2 _ (List.getElem_mem hj);have hne:(j:Int)=(i:Int)↔l[j].Id=l[i].Id:=by
   constructor
   .intro h;obtain rfl:j=i:=by omega
    rfl
   .intro h;have:=List.getElem_inj (xs:=l.map (·.Id)) (i:=j) (j:=i) (h₀:=by simpa using hj) (h₁:=by simpa using hi) g3;simp only[List.getElem_map] at this;have:=this.1 h;omega
  have h1:=okPt_rng hp;have h2:=okPt_rng hq;have hw:w64 (l[j].Z.Lo-l[i].Z.Hi)=l[j].Z.Lo-l[i].Z.Hi:=Aq (by omega) (by omega);have hs:w64 ((j:Int)+1)=((j+1:Nat):Int):=Au (by omega);unfold Aif;simp only[Qq,if_pos h0,Am hj,Am hi,Ad,jn_d,near_eq hp hq (show 0<=r.Link by omega) (show r.Link<=1000000 by omega),hw,hs,hne,sq_comm l[j] l[i]]
  by_cases c1:l[j].Id=l[i].Id
  .left;exact⟨s,by rw[if_pos (.inl c1)],by rw[if_pos c1];simp,trivial⟩
  .rw[if_neg c1]
   by_cases c2:sq l[i] l[j]<=r.Link*r.Link
   .have c3:¬(l[j].Id=l[i].Id\/r.Link*r.Link<sq l[i] l[j]):=by rintro (h|h);exact c1 h;omega
    rw[if_neg c3]
    by_cases c4:l[j].Z.Lo-l[i].Z.Hi<=r.Low
    .right;exact⟨_,by rw[if_pos c4],by simp[c2,c4]⟩
    .left;exact⟨true,by rw[if_neg c4],by simp[c2,c4],trivial⟩
   .left;exact⟨s,by rw[if_pos (.inr (by omega))],by simp[c2],trivial⟩
 .intro s _;simp only[Qq,Int.lt_irrefl,if_false]
theorem rsunk_eq{l:List Aa}(hl:validL l=true){r:Af}(hr:okRules r=true){p:Aa}(hp:okPt p=true):Ji l p r=some (sunkB l r p):=by
 obtain⟨g1,g2,g3⟩:=Yr hl;have hR:=okRules_rng hr;have key:=Nz l (fun (s:Bool) (j:Int)=>(s,j)) (Aif p r) (Sum.inl:Bool->Sum Bool Bool) (Li l p r) (fun _ _=>True) ?_ ?_ false trivial
 .unfold Ji sunkB;rw[jn_d,key,Ad];cases Uh (Aif p r) (Sum.inl:Bool->Sum Bool Bool) l false <;> rfl
 .intro j hj s _;have h0:(j:Int)<(l.length:Int):=by omega
  have hq:=g2 _ (List.getElem_mem hj);have h1:=okPt_rng hp;have h2:=okPt_rng hq;have hw:w64 (l[j].Z.Lo-p.Z.Hi)=l[j].Z.Lo-p.Z.Hi:=Aq (by omega) (by omega);have hs:w64 ((j:Int)+1)=((j+1:Nat):Int):=Au (by omega);have hm:w64 (r.Link*r.Link)=r.Link*r.Link:=by have:=Awu (a:=r.Link) (m:=1000000) (by omega) (by omega);exact Aq (by omega) (by omega)
  unfold Aif;simp only[Li,if_pos h0,Am hj,Ad,jn_d,apart_eq hq hp,hw,hs,hm]
  by_cases c1:l[j].Id=p.Id
  .left;exact⟨s,by rw[if_pos (.inl c1)],by simp[c1],trivial⟩
  .by_cases c2:r.Link*r.Link<sq l[j] p
   .left;exact⟨s,by rw[if_pos (.inr c2)],by simp[c1,c2],trivial⟩
   .rw[if_neg (by rintro (h|h);exact c1 h;exact c2 h)]
    by_cases c4:l[j].Z.Lo-p.Z.Hi<=r.Low
    .right;exact⟨_,by rw[if_pos c4],by simp[c1,c2,c4]⟩
    .left;exact⟨true,by rw[if_neg c4],by simp[c1,c2,c4],trivial⟩
 .intro s _;simp only[Li,Int.lt_irrefl,if_false]
theorem Ui{α σ τ:Type}(g:σ->α->σ)(fin:σ->τ):∀(l:List α) (s:σ),Uh (fun s x=>.inl (g s x)) fin l s=fin (l.foldl g s)
 |[],s=>rfl
 |x::r,s=>by simp only[Uh,List.foldl_cons];exact Ui g fin r (g s x)
theorem Aem{α:Type}(p:α->Bool):∀(l acc:List α),l.foldl (fun s x=>if p x=true then s++[x] else s) acc=acc++l.filter p
 |[],acc=>by simp
 |x::r,acc=>by
  rw[List.foldl_cons,Aem p r]
  by_cases h:p x=true
  .rw[if_pos h,List.filter_cons_of_pos h];simp
  .rw[if_neg h,List.filter_cons_of_neg h]
theorem lfix_filter{α:Type}(l:List α)(p:α->Bool)(B:List α × Int->Option (Sum (List α × Int) (List α)))(h1:∀ (j:Nat) (h:j<l.length) (s:List α),s.length<=j->B (s,j)=some (.inl (if p l[j]=true then s++[l[j]] else s,((j+1:Nat):Int))))(h2:∀ s,B (s,l.length)=some (.inr s)):
  lfix B ([],0)=some (l.filter p):=by
 have:=Nz l (fun (s:List α) (j:Int)=>(s,j)) (fun s x=>.inl (if p x=true then s++[x] else s)) (id:List α->List α) B (fun j s=>s.length<=j)
  (fun j hj s hC=>.inl ⟨_,rfl,h1 j hj s hC,by split <;> (first|omega|(simp;omega))⟩) (fun s _=>h2 s) [] (Nat.le_refl _)
 rw[this,Ui,Aem];rfl
def dryL(l:List Aa)(r:Af):List Aa:=l.filter fun p=>!sunkB l r p
def sunkL(l:List Aa)(r:Af):List Aa:=l.filter (sunkB l r)
theorem parted_eq{l:List Aa}(hl:validL l=true){r:Af}(hr:okRules r=true):Qc l r=some (dryL l r,sunkL l r):=by
 obtain⟨g1,g2,g3⟩:=Yr hl;have key:=Nz l (fun (s:List Aa×List Aa) (j:Int)=>(s.1,s.2,j)) (fun s x=>.inl (if sunkB l r x=true then (s.1,s.2++[x]) else (s.1++[x],s.2))) (id:_->List Aa×List Aa) (Mz l r)
  (fun j s=>s.1.length<=j/\s.2.length<=j) ?_ ?_ ([],[]) ⟨Nat.le_refl _,Nat.le_refl _⟩
 ·unfold Qc;rw[jn_d];have key':lfix (Mz l r) ([],[],0)=_:=key;rw[key',Ad,Ui];have:∀ (m a b:List Aa),m.foldl (fun (s:List Aa × List Aa) x=>if sunkB l r x=true then (s.1,s.2++[x]) else (s.1++[x],s.2)) (a,b)=(a++m.filter (fun p=>!sunkB l r p),b++m.filter (sunkB l r)):=by
   intro m
   induction m with
   |nil=>intro a b;simp
   |cons x m ih=>
    intro a b;rw[List.foldl_cons]
    by_cases h:sunkB l r x=true
    .rw[if_pos h,ih];simp[h]
    .rw[if_neg h,ih];simp[h]
  rw[this];simp[dryL,sunkL]
 .intro j hj s hC;left;have h0:(j:Int)<(l.length:Int):=by omega
  refine⟨_,rfl,?_,by split <;> simp <;> omega⟩;simp only[Mz,if_pos h0,Am hj,Ad,jn_d,Bac hl hr hj,Au (show j<9223372036854775807 by omega)]
  by_cases h:sunkB l r l[j]=true
  .simp only[h,if_true,gd_t (show (s.2.length+1)*72<=140737488355328 by omega)]
  .simp only[h,if_false,Bool.false_eq_true,gd_t (show (s.1.length+1)*72<=140737488355328 by omega)]
 .intro s _;simp only[Mz,Int.lt_irrefl,if_false,id]
theorem sorted_sortI(l:LI):(Co l).Pairwise (·<=·):=by
 have:=List.pairwise_mergeSort (le:=fun x y:Int=>decide (x<=y)) (fun a b c h1 h2=>by simp at *;omega) (fun a b=>by simp;omega) l;exact this.imp fun h=>by simpa using h
theorem perm_sortI(l:LI):(Co l).Perm l:=List.mergeSort_perm _ _
theorem sort_unique{l m:LI}(h:l.Pairwise (·<=·))(hp:l.Perm m):l=Co m :=
 List.Perm.eq_of_pairwise (fun a b _ _ h h'=>by omega) h (sorted_sortI m) (hp.trans (perm_sortI m).symm)
theorem sortI_perm{l m:LI}(h:l.Perm m):Co l=Co m:=sort_unique (sorted_sortI l) ((perm_sortI l).trans h)
theorem ids_eq{l:List Aa}(h:l.length<=1024):Xi l=some (Co (l.map (·.Id))):=by
 unfold Xi;rw[gd_t (by omega),jn_d];have key:=Nz l (fun (s:LI) (j:Int)=>(s,j)) (fun s x=>.inl (s++[x.Id])) (id:LI->LI) (Ut l) (fun j s=>s.length=j) ?_ ?_ [] rfl
 ·rw[key,Ad,Ui];have:∀ (m:List Aa) (a:List Int),m.foldl (fun s x=>s++[x.Id]) a=a++m.map (·.Id):=by
   intro m
   induction m with
   |nil=>intro a;simp
   |cons x m ih=>intro a;rw[List.foldl_cons,ih];simp
  rw[this];simp only[List.nil_append,id];rw[gd_t (by simp;omega)]
 .intro j hj s hC;left;have h0:(j:Int)<(l.length:Int):=by omega
  refine⟨_,rfl,?_,by simp[hC]⟩;simp only[Ut,if_pos h0,Am hj,Ad,gd_t (show (s.length+1)*8<=140737488355328 by omega),Au (show j<9223372036854775807 by omega)]
 .intro s _;simp only[Ut,Int.lt_irrefl,if_false,id]
theorem rids_eq{l:List Aa}(h:l.length<=1024):Dl l=some (Co (l.map (·.Id))):=by
 unfold Dl;rw[jn_d];have inner:∀(s:LI) (j:Nat) (hj:j<l.length),s.length<=1024->∃k:Nat,k<=s.length/\lfix (Ni (s,(j:Int)) l) (s.length:Int)=some (k:Int)/\(∀(i:Nat) (hi:i<s.length),k<=i->l[j].Id<s[i])/\(∀(hk:0<k) (hk':k-1<s.length),s[k-1]<=l[j].Id):=by
  intro s j hj hs;refine Exists.elim (Aw (B:=Ni (s,(j:Int)) l) (fun z=>z.toNat) (fun z=>∃k:Nat,z=(k:Int)/\k<=s.length/\∀(i:Nat) (hi:i<s.length),k<=i->l[j].Id<s[i])
   (fun z=>∃k:Nat,z=(k:Int)/\k<=s.length/\(∀(i:Nat) (hi:i<s.length),k<=i->l[j].Id<s[i])/\(∀(hk:0<k) (hk':k-1<s.length),s[k-1]<=l[j].Id)) ?_ _ ⟨s.length,rfl,Nat.le_refl _,fun i hi hk=>by omega⟩) (fun t ht=>?_)
  .rintro z ⟨k,rfl,hk,hall⟩;simp only[Ni,jn_d]
   by_cases h0:0<k
   .have e1:w64 ((k:Int)-1)=((k-1:Nat):Int):=by rw[Aq (by omega) (by omega)];omega
    have hk1:k-1<s.length:=by omega
    simp only[if_pos (show (0:Int)<(k:Int) by omega),e1,Am hk1,Am hj,Ad,decide_eq_true_eq]
    by_cases hc:l[j].Id<s[k-1]
    .left;refine⟨((k-1:Nat):Int),by rw[if_pos hc],⟨k-1,rfl,by omega,fun i hi hki=>?_⟩,by omega⟩;rcases Nat.lt_or_ge i k with h|h
     .obtain rfl:i=k-1:=by omega
      exact hc
     .exact hall i hi h
    .right;exact⟨_,by rw[if_neg hc],k,rfl,hk,hall,fun _ _=>by omega⟩
   .right;exact⟨_,by rw[if_neg (show ¬(0:Int)<(k:Int) by omega)];simp,k,rfl,hk,hall,fun h=>absurd h h0⟩
  .obtain⟨h1,k,rfl,h3,h4,h5⟩:=ht;exact⟨k,h3,h1,h4,h5⟩
 refine Exists.elim (Aw (B:=Nj l) (fun z=>l.length-z.2.toNat) (fun z=>∃j:Nat,z.2=(j:Int)/\j<=l.length/\z.1.length=j/\z.1.Perm ((l.take j).map (·.Id))/\z.1.Pairwise (·<=·))
  (fun t=>t=Co (l.map (·.Id))) ?_ ([],0) ⟨0,rfl,Nat.zero_le _,rfl,by simp,by simp⟩) (fun t ht=>?_)
 .rintro⟨s,z⟩ ⟨j,rfl,hj,hlen,hp,hs⟩;dsimp only at hlen hp hs;rcases Nat.lt_or_ge j l.length with hlt|hge
  .left;obtain⟨k,hk,hf,hgt,hle⟩:=inner s j hlt (by omega);have e1:subl s (k:Int) (s.length:Int)=s.drop k:=by simp[subl]
   have e2:subl s 0 (k:Int)=s.take k:=by simp[subl]
   refine⟨(s.take k++(l[j].Id::s.drop k),((j+1:Nat):Int)),?_,⟨j+1,rfl,hlt,?_,?_,?_⟩,by simp;omega⟩
   .simp only[Nj,if_pos (show (j:Int)<(l.length:Int) by omega),jn_d,hf,Ad,Am hlt,e1,e2,Au (show j<9223372036854775807 by omega)];rw[gd_t ⟨by omega,by omega⟩,gd_t ⟨by omega,by omega⟩,gd_t (by simp;omega),gd_t (by simp;omega),gd_t (by simp)];rfl
   .simp;omega
   .have:(l.take (j+1)).map (·.Id)=(l.take j).map (·.Id)++[l[j].Id]:=by rw[List.take_add_one,List.getElem?_eq_getElem hlt,List.map_append];rfl
    rw[this];refine List.perm_middle.trans ((List.Perm.cons _ ?_).trans (List.perm_append_singleton _ _).symm);rw[List.take_append_drop];exact hp
   ·have hs1:(s.take k).Pairwise (·<=·):=hs.sublist (List.take_sublist _ _);have hs2:(s.drop k).Pairwise (·<=·):=hs.sublist (List.drop_sublist _ _);have hs12:∀ a∈s.take k,∀ b∈s.drop k,a<=b:=by
     have:=hs;rw[<-List.take_append_drop k s,List.pairwise_append] at this;exact this.2.2
    have hx1:∀a∈s.take k,a<=l[j].Id:=by
     intro a ha;obtain⟨i,hi,rfl⟩:=List.mem_take_iff_getElem.1 ha;have hi':i<k:=by omega
     have h5:=hle (by omega) (by omega);rcases Nat.lt_or_ge i (k-1) with h6|h6
     .have:=List.pairwise_iff_getElem.1 hs i (k-1) (by omega) (by omega) h6;omega
     .have:i=k-1:=by omega
      subst this;exact h5
    have hx2:∀b∈s.drop k,l[j].Id<=b:=by
     intro b hb;obtain⟨i,hi,rfl⟩:=List.mem_drop_iff_getElem.1 hb;have:=hgt (k+i) (by omega) (by omega);omega
    rw[List.pairwise_append];refine⟨hs1,List.pairwise_cons.2 ⟨hx2,hs2⟩,fun a ha b hb=>?_⟩;rcases List.mem_cons.1 hb with rfl|hb
    .exact hx1 a ha
    .exact hs12 a ha b hb
  .right;obtain rfl:j=l.length:=by omega
   refine⟨s,by simp only[Nj,Int.lt_irrefl,if_false],?_⟩;rw[List.take_length] at hp;exact sort_unique hs hp
 .rw[ht.1,Ad,ht.2]
def lowB(p q:Aa):Bool:=decide (p.Z.Hi<q.Z.Hi\/p.Z.Hi=q.Z.Hi/\p.Id<q.Id)
theorem lower_eq(p q:Aa):Sa p q=some (lowB p q):=by
 simp only[Sa,jn_d,lowB];grind
theorem rlower_eq(p q:Aa):Hu p q=some (lowB p q):=by
 simp only[Hu,jn_d,lowB];grind
theorem lowB_trans{p q r:Aa}(h:lowB p q=true)(h':lowB q r=true):lowB p r=true:=by
 simp only[lowB,decide_eq_true_eq] at *;omega
theorem lowB_total{p q:Aa}(h:lowB p q=false)(h':lowB q p=false):p.Id=q.Id:=by
 simp only[lowB,decide_eq_false_iff_not] at *;omega
theorem lowB_irrefl(p:Aa):lowB p p=false:=by simp[lowB]
instance:DecidableEq Ab:=fun a b=>by
 rcases a with⟨x,y⟩;rcases b with⟨u,v⟩
 exact decidable_of_iff (x=u/\y=v) (by simp)
def bot(kf:Aa->Ab)(l:List Aa):List Aa:=l.filter fun p=>l.all fun q=>decide (kf q≠kf p) || !lowB q p
theorem mem_bot{kf:Aa->Ab}{l:List Aa}{p:Aa}:p∈bot kf l↔p∈l/\∀q∈l,kf q=kf p->lowB q p=false:=by
 unfold bot;rw[List.mem_filter,List.all_eq_true];refine and_congr_right fun _=>⟨fun h q hq hk=>?_,fun h q hq=>?_⟩
 .have:=h q hq;simpa[hk] using this
 .by_cases hk:kf q=kf p
  .simp[hk,h q hq hk]
  .simp[hk]
theorem nodup_of_ids{l:List Aa}(h:(l.map (·.Id)).Nodup):l.Nodup:=(List.pairwise_map.1 h).imp fun hne he=>hne (by rw[he])
theorem id_inj{l:List Aa}(h:(l.map (·.Id)).Nodup){p q:Aa}(hp:p∈l)(hq:q∈l)(he:p.Id=q.Id):p=q:=by
 obtain⟨i,hi,rfl⟩:=List.getElem_of_mem hp;obtain⟨j,hj,rfl⟩:=List.getElem_of_mem hq;have:=(List.getElem_inj (xs:=l.map (·.Id)) (i:=i) (j:=j) (h₀:=by simpa using hi) (h₁:=by simpa using hj) h).1 (by simpa using he);subst this;rfl
theorem perm_of_mem{α:Type}{l m:List α}(hl:l.Nodup)(hm:m.Nodup)(h:∀x,x∈l↔x∈m):l.Perm m:=(List.perm_ext_iff_of_nodup hl hm).2 h
theorem Kh{α:Type}{l:List α}{j:Nat}(hj:j<l.length){x:α}:x∈l.take (j+1)↔x∈l.take j\/x=l[j]:=by
 rw[List.take_add_one,List.getElem?_eq_getElem hj];show x∈l.take j++[l[j]]↔_;rw[List.mem_append,List.mem_singleton]
theorem Apw{α σ:Type}(l:List α)(st:σ->α->Option σ)(B:σ × Int->Option (Sum (σ × Int) σ))(h1:∀ (j:Nat) (h:j<l.length) s,B (s,j)=bnd (st s l[j]) fun s'=>some (.inl (s',((j+1:Nat):Int))))(h2:∀ s,B (s,l.length)=some (.inr s))(s0:σ):
  lfix B (s0,0)=l.foldlM st s0:=by
 have key:∀(m k:Nat) (s:σ),k<=l.length->l.length-k=m->lfix B (s,(k:Int))=(l.drop k).foldlM st s:=by
  intro m
  induction m with
  |zero=>
   intro k s hk hm;obtain rfl:k=l.length:=by omega
   rw[Ay,h2 s];simp
  |succ m ih=>
   intro k s hk hm;have hlt:k<l.length:=by omega
   rw[Ay,List.drop_eq_getElem_cons hlt,h1 k hlt,List.foldlM_cons];cases hs:st s l[k] with
   |none=>rfl
   |some s'=>rw[Ad];exact ih (k+1) s' (by omega) (by omega)
 exact key l.length 0 s0 (Nat.zero_le _) rfl
theorem lowest_eq{σ:Type}(kf:Aa->Ab)(ky:Aa->Option Ab)(st:σ->Aa->Option σ)(l:List Aa)(ys:σ)(hn:l.length<=1024)(hid:(l.map (·.Id)).Nodup)(hk:∀ p∈l,ky p=some (kf p)/\-268435456<=(kf p).X/\(kf p).X<=268435456/\-268435456<=(kf p).Y/\(kf p).Y<=268435456):
  ∃L:List Aa,L.Perm (bot kf l)/\Lb ky st l ys=L.foldlM st ys:=by
 let Good (j:Nat) (m:List (Ab×Aa)) (ks:List Ab):Prop:=Cv m/\ks.Nodup/\ks.length<=j/\m.length<=j/\∀k,match mget m k with
  |none=>k∉ks/\∀q∈l.take j,kf q≠k
  |some p=>k∈ks/\p∈l.take j/\kf p=k/\∀q∈l.take j,kf q=k->lowB q p=false
 refine Exists.elim (Aw (B:=Kc l ky) (fun z=>l.length-z.2.2.toNat) (fun z=>∃j:Nat,z.2.2=(j:Int)/\j<=l.length/\Good j z.1 z.2.1)
  (fun t=>Good l.length t.1 t.2) ?_ ([],[],0) ⟨0,rfl,Nat.zero_le _,List.Pairwise.nil,by simp,Nat.le_refl _,Nat.le_refl _,fun k=>by simp[mget]⟩) (fun t ht=>?_)
 .rintro⟨m,ks,z⟩ ⟨j,rfl,hj,hok,hnd,hkl,hml,hG⟩;dsimp only at hok hnd hkl hml hG;rcases Nat.lt_or_ge j l.length with hlt|hge
  .left;have hx:=hk _ (List.getElem_mem hlt);have hr:(-9223372036854775808<=(kf l[j]).X/\(kf l[j]).X<=9223372036854775807)/\(-9223372036854775808<=(kf l[j]).Y/\(kf l[j]).Y<=9223372036854775807):=by omega
   have hw:w64 ((j:Int)+1)=((j+1:Nat):Int):=Au (by omega);have hGj:=hG (kf l[j]);have put:∀ks',ks'.Nodup->ks'.length<=j+1->(∀k,k∈ks'↔k∈ks\/k=kf l[j])->(∀q∈l.take j,kf q=kf l[j]->lowB q l[j]=false)->Good (j+1) (mput m (kf l[j]) l[j]) ks':=by
    intro ks' h1 h2 h3 h4;refine⟨hok.put _ _,h1,h2,?_,fun k=>?_⟩
    .unfold mput;have:(mdel m (kf l[j])).length<=m.length:=List.length_filter_le _ _;rw[List.length_cons];omega
    by_cases he:kf l[j]=k
    .rw[Lx hok,if_pos he.symm];refine⟨(h3 k).2 (.inr he.symm),(Kh hlt).2 (.inr rfl),he,fun q hq hqk=>?_⟩;rcases (Kh hlt).1 hq with hq|rfl
     .exact h4 q hq (by rw[hqk,he])
     .exact lowB_irrefl _
    .rw[Lx hok,if_neg (fun e=>he e.symm)];have hGk:=hG k;cases hm:mget m k with
     |none=>
      rw[hm] at hGk;refine⟨fun h=>?_,fun q hq=>?_⟩
      .rcases (h3 k).1 h with h|h
       .exact hGk.1 h
       .exact he h.symm
      .rcases (Kh hlt).1 hq with hq|rfl
       .exact hGk.2 q hq
       .exact he
     |some p=>
      rw[hm] at hGk;refine⟨(h3 k).2 (.inl hGk.1),(Kh hlt).2 (.inl hGk.2.1),hGk.2.2.1,fun q hq hqk=>?_⟩;rcases (Kh hlt).1 hq with hq|rfl
      .exact hGk.2.2.2 q hq hqk
      .exact absurd hqk he
   simp only[Kc,if_pos (show (j:Int)<(l.length:Int) by omega),jn_d,Am hlt,Ad,hx.1,gd_t hr,gd_t (show m.length<9223372036854775807 by omega),hw];cases hm:mget m (kf l[j]) with
   |none=>
    rw[hm] at hGj;refine⟨(mput m (kf l[j]) l[j],ks++[kf l[j]],((j+1:Nat):Int)),by simp[gd_t (show (ks.length+1)*16<=140737488355328 by omega)],⟨j+1,rfl,hlt,put _ ?_ (by simp;omega) (by simp) (fun q hq hqk=>absurd hqk (hGj.2 q hq))⟩,by simp;omega⟩;rw[List.nodup_append];exact⟨hnd,by simp,fun a ha b hb=>by simp at hb;subst hb;intro e;subst e;exact hGj.1 ha⟩
   |some p=>
    rw[hm] at hGj;obtain⟨g1,g2,g3,g4⟩:=hGj;simp only[Option.getD_some,Option.isSome_some,if_true,lower_eq,Ad]
    by_cases hl:lowB l[j] p=true
    .refine⟨(mput m (kf l[j]) l[j],ks,((j+1:Nat):Int)),by simp[hl],⟨j+1,rfl,hlt,put _ hnd (Nat.le_succ_of_le hkl) (fun k=>⟨.inl,fun h=>h.elim id fun h=>by rw[h];exact g1⟩) (fun q hq hqk=>?_)⟩,by simp;omega⟩;cases hq2:lowB q l[j] with
     |false=>rfl
     |true=>have:=lowB_trans hq2 hl;rw[g4 q hq hqk] at this;cases this
    .refine⟨(m,ks,((j+1:Nat):Int)),by simp[hl],⟨j+1,rfl,hlt,hok,hnd,Nat.le_succ_of_le hkl,Nat.le_succ_of_le hml,fun k=>?_⟩,by simp;omega⟩;have hGk:=hG k;cases hmk:mget m k with
     |none=>
      rw[hmk] at hGk;refine⟨hGk.1,fun q hq=>?_⟩;rcases (Kh hlt).1 hq with hq|rfl
      .exact hGk.2 q hq
      .intro e;rw[e] at hm;rw[hm] at hmk;cases hmk
     |some p'=>
      rw[hmk] at hGk;refine⟨hGk.1,(Kh hlt).2 (.inl hGk.2.1),hGk.2.2.1,fun q hq hqk=>?_⟩;rcases (Kh hlt).1 hq with hq|rfl
      .exact hGk.2.2.2 q hq hqk
      .rw[hqk] at hm;rw[hm] at hmk;obtain rfl:=Option.some.inj hmk;simpa using hl
  .right;obtain rfl:j=l.length:=by omega
   exact⟨(m,ks),by simp only[Kc,Int.lt_irrefl,if_false],hok,hnd,hkl,hml,hG⟩
 ·obtain⟨h1,hok,hnd,hkl,hml,hG⟩:=ht;obtain⟨m,ks⟩:=t;dsimp only at hnd hkl hml hG;rw[List.take_length] at hG;have some_of:∀ k∈ks,∃ p,mget m k=some p/\p∈l/\kf p=k/\∀ q∈l,kf q=k->lowB q p=false:=by
   intro k hk';have:=hG k;cases hm:mget m k with
   |none=>rw[hm] at this;exact absurd hk' this.1
   |some p=>rw[hm] at this;exact⟨p,rfl,this.2⟩
  refine⟨ks.map fun k=>(mget m k).getD ⟨0,0,0,⟨0,0⟩,0,0,0,0⟩,perm_of_mem ?_ ((nodup_of_ids hid).filter _) fun p=>?_,?_⟩
  .refine List.pairwise_map.2 (hnd.imp_of_mem fun {a b} ha hb hne he=>hne ?_);obtain⟨p,e1,_,e2,_⟩:=some_of a ha;obtain⟨q,f1,_,f2,_⟩:=some_of b hb;rw[e1,f1] at he;simp only[Option.getD_some] at he;rw[<-e2,<-f2,he]
  .show _↔p∈bot kf l;rw[mem_bot,List.mem_map];constructor
   .rintro⟨k,hk',rfl⟩;obtain⟨p,e1,e2,e3,e4⟩:=some_of k hk';rw[e1,Option.getD_some];exact⟨e2,fun q hq hqk=>e4 q hq (by rw[hqk,e3])⟩
   .rintro⟨hp,hlow⟩;have:=hG (kf p);cases hm:mget m (kf p) with
    |none=>rw[hm] at this;exact absurd rfl (this.2 p hp)
    |some p'=>
     rw[hm] at this;obtain⟨g1,g2,g3,g4⟩:=this;refine⟨kf p,g1,?_⟩;rw[hm,Option.getD_some];exact id_inj hid g2 hp (lowB_total (hlow p' g2 g3) (g4 p hp rfl))
  .unfold Lb;rw[jn_d,h1,Ad];dsimp only;have h2:=Apw (ks.map fun k=>(mget m k).getD ⟨0,0,0,⟨0,0⟩,0,0,0,0⟩) st (Iz (m,ks) st) ?_ ?_ ys
   .rw[h2];cases List.foldlM st ys (ks.map fun k=>(mget m k).getD ⟨0,0,0,⟨0,0⟩,0,0,0,0⟩) <;> rfl
   .intro j hj s;have hj':j<ks.length:=by simpa using hj
    obtain⟨p,e1,e2,e3,e4⟩:=some_of _ (List.getElem_mem hj');have hx:=hk p e2;rw[e3] at hx;simp only[Iz,if_pos (show (j:Int)<(ks.length:Int) by omega),Am hj',Ad,gd_t (show (-9223372036854775808<=(ks[j]).X/\(ks[j]).X<=9223372036854775807)/\(-9223372036854775808<=(ks[j]).Y/\(ks[j]).Y<=9223372036854775807) by omega),List.getElem_map,Au (show j<9223372036854775807 by omega)]
   .intro s;simp only[Iz,List.length_map,Int.lt_irrefl,if_false]
theorem foldlM_stepC:∀(l acc:List Aa),acc.length+l.length<=1024->l.foldlM Ah3 acc=some (acc++l)
 |[],acc,_=>by simp
 |x::r,acc,h=>by
  simp only[List.length_cons] at h;rw[List.foldlM_cons,Ah3,gd_t (by omega)];show List.foldlM Ah3 (acc++[x]) r=_;rw[foldlM_stepC r _ (by simp;omega)];simp
theorem Aen:∀(l:List Aa) (acc:LI),acc.length+l.length<=1024->l.foldlM Aj3 acc=some (acc++l.map (·.Id))
 |[],acc,_=>by simp
 |x::r,acc,h=>by
  simp only[List.length_cons] at h;rw[List.foldlM_cons,Aj3,gd_t (by omega)];show List.foldlM Aj3 (acc++[x.Id]) r=_;rw[Aen r _ (by simp;omega)];simp
def plF(p:Aa):Ab:=⟨p.X,p.Y⟩
def lastL(l:List Aa):List Aa:=l.filter fun p=>decide (p.Num=p.Of)
structure Fit(l:List Aa):Prop where
 n:l.length<=1024
 ok:∀p∈l,okPt p=true
 id:(l.map (·.Id)).Nodup
theorem Fit.of{l:List Aa}(h:validL l=true):Fit l:=by obtain⟨h1,h2,h3⟩:=Yr h;exact⟨h1,h2,h3⟩
theorem Fit.filter{l:List Aa}(h:Fit l)(p:Aa->Bool):Fit (l.filter p):=
 ⟨Nat.le_trans (List.length_filter_le _ _) h.n,fun q hq=>h.ok q (List.mem_filter.1 hq).1,h.id.sublist (List.Sublist.map _ List.filter_sublist)⟩
theorem Fit.perm{l m:List Aa}(h:Fit l)(hp:l.Perm m):Fit m:=⟨hp.length_eq▸h.n,fun q hq=>h.ok q (hp.mem_iff.2 hq),(hp.map _).nodup_iff.1 h.id⟩
theorem bot_perm{kf:Aa->Ab}{l m:List Aa}(hl:l.Nodup)(h:l.Perm m):(bot kf l).Perm (bot kf m):=
 perm_of_mem (hl.filter _) ((h.nodup_iff.1 hl).filter _) fun p=>by rw[mem_bot,mem_bot];simp only[h.mem_iff]
theorem Awv{l:List Aa}(h:Fit l):∃L,L.Perm (bot plF (lastL l))/\Vz l=some L:=by
 have hf:Fit (lastL l):=h.filter _;obtain⟨L,h1,h2⟩:=lowest_eq plF Bt Ah3 (lastL l) [] hf.n hf.id (fun p hp=>⟨rfl,by have:=okPt_rng (hf.ok p hp);simp only[plF];omega⟩);refine⟨L,h1,?_⟩;unfold Vz;rw[jn_d,lfix_filter l (fun p=>decide (p.Num=p.Of)) (Rl l) ?_ ?_,Ad]
 .show bnd (Sx Bt (lastL l)) _=_;have hlen:L.length<=1024:=by rw[h1.length_eq];exact Nat.le_trans (List.length_filter_le _ _) hf.n
  unfold Sx;rw[h2,foldlM_stepC L [] (by simpa using hlen),Ad];rfl
 .intro j hj s hs;have:=h.n;simp only[Rl,if_pos (show (j:Int)<(l.length:Int) by omega),jn_d,Am hj,Ad,Au (show j<9223372036854775807 by omega),gd_t (show (s.length+1)*72<=140737488355328 by omega),decide_eq_true_eq];split <;> rfl
 .intro s;simp only[Rl,Int.lt_irrefl,if_false]
theorem At1{l:List Aa}(h:l.length<=1024):Ku l=some (lastL l):=by
 unfold Ku;rw[jn_d,lfix_filter l (fun p=>decide (p.Num=p.Of)) (Jo l) ?_ ?_,Ad]
 .rfl
 .intro j hj s hs;simp only[Jo,if_pos (show (j:Int)<(l.length:Int) by omega),jn_d,Am hj,Ad,Au (show j<9223372036854775807 by omega),gd_t (show (s.length+1)*72<=140737488355328 by omega),decide_eq_true_eq];split <;> rfl
 .intro s;simp only[Jo,Int.lt_irrefl,if_false]
theorem Afi{α:Type}(p:α->Bool):∀(l:List α) (s:Bool),l.foldl (fun s x=>if s=true then p x else false) s=(s&&l.all p)
 |[],s=>by simp
 |x::r,s=>by rw[List.foldl_cons,Afi p r];cases s <;> simp
theorem bottoms_eq{l:List Aa}(h:Fit l):Hv l=some (bot plF l):=by
 have hn:=h.n;unfold Hv;rw[jn_d,lfix_filter l (fun p=>l.all fun q=>decide (plF q≠plF p) || !lowB q p) (Hk l) ?_ ?_,Ad]
 .rfl
 .intro j hj s hs;have hp:=h.ok _ (List.getElem_mem hj);have key:=Nz l (fun (s:Bool) (k:Int)=>(s,k)) (fun s q=>.inl (if s=true then (decide (plF q≠plF l[j]) || !lowB q l[j]) else false)) (id:Bool->Bool) (Hj l (s,(j:Int))) (fun _ _=>True) ?_ ?_ true trivial
  .rw[Ui,Afi] at key;simp only[Bool.true_and,id] at key;simp only[Hk,if_pos (show (j:Int)<(l.length:Int) by omega),jn_d,key,Ad,Am hj,Au (show j<9223372036854775807 by omega),gd_t (show (s.length+1)*72<=140737488355328 by omega)];split <;> rfl
  ·intro k hk b _;left;refine⟨_,rfl,?_,trivial⟩;have hq:=h.ok _ (List.getElem_mem hk);have hz:0<sq l[k] l[j]↔plF l[k]≠plF l[j]:=by
    have:=sq_zero (p:=l[k]) (q:=l[j]);simp only[plF,ne_eq,Ab.mk.injEq];rw[<-this];omega
   simp only[Hj,if_pos (show (k:Int)<(l.length:Int) by omega),jn_d,Am hk,Am hj,Ad,apart_eq hq hp,hz,rlower_eq,Au (show k<9223372036854775807 by omega)];cases b with
   |false=>simp
   |true=>by_cases hc:plF l[k]=plF l[j] <;> simp[hc]
  .intro b _;simp only[Hj,Int.lt_irrefl,if_false,id]
 .intro s;simp only[Hk,Int.lt_irrefl,if_false]
def candL(l:List Aa)(r:Af):List Aa:=bot plF (lastL (dryL l r))
theorem cand_eq{l:List Aa}(hl:validL l=true){r:Af}(hr:okRules r=true):∃L,L.Perm (candL l r)/\Cx l r=some L:=by
 have hf:Fit (dryL l r):=(Fit.of hl).filter _;obtain⟨L,h1,h2⟩:=Awv hf;exact⟨L,h1,by simp only[Cx,parted_eq hl hr,Ad,h2]⟩
theorem rcand_eq{l:List Aa}(hl:validL l=true){r:Af}(hr:okRules r=true):En l r=some (candL l r):=by
 have hF:=Fit.of hl;have hf:Fit (dryL l r):=hF.filter _;have hn:=hF.n;unfold En;rw[jn_d,lfix_filter l (fun p=>!sunkB l r p) (Et l r) ?_ ?_,Ad]
 .show bnd (Ku (dryL l r)) _=_;rw[At1 hf.n,Ad,bottoms_eq (l:=lastL (dryL l r)) (hf.filter _),Ad];rfl
 .intro j hj s hs;simp only[Et,if_pos (show (j:Int)<(l.length:Int) by omega),jn_d,Am hj,Ad,rsunk_eq hl hr (hF.ok _ (List.getElem_mem hj)),Au (show j<9223372036854775807 by omega),gd_t (show (s.length+1)*72<=140737488355328 by omega)]
  by_cases hc:sunkB l r l[j]=true <;> simp[hc]
 .intro s;simp only[Et,Int.lt_irrefl,if_false]
theorem ediv_of{n c k r:Int}(hc:0<c)(h:n=c*k+r)(h0:0<=r)(h1:r<c):n/c=k:=by
 rw[h,Int.add_comm,Int.add_mul_ediv_left r k (by omega),Int.ediv_eq_zero_of_lt h0 h1,Int.zero_add]
theorem Abr{n c:Int}(hc:0<c)(h:-268435456<=n/\n<=268435456):-268435456<=n/c/\n/c<=268435456:=by
 refine⟨?_,?_⟩
 .rw[Int.le_ediv_iff_mul_le hc];have:-268435456*c<=-268435456*1:=Int.mul_le_mul_of_nonpos_left (by omega) (by omega);omega
 .rcases Int.le_total 0 n with h0|h0
  .have:=Int.ediv_le_self c h0;omega
  .have:n/c<=0:=Int.ediv_nonpos_of_nonpos_of_neg h0 (by omega);omega
theorem At2{n c:Int}(hn:n<0)(hc:0<c):Int.tdiv n c = -((-n)/c)/\Int.tmod n c = -((-n)%c):=by
 have h1:Int.tdiv (-n) c=(-n)/c:=Int.tdiv_eq_ediv_of_nonneg (by omega);have h2:Int.tmod (-n) c=(-n)%c:=Int.tmod_eq_emod_of_nonneg (by omega);rw[Int.neg_tdiv] at h1;rw[Int.neg_tmod] at h2;exact⟨by omega,by omega⟩
theorem Ani{n c:Int}(h:-268435456<=n/\n<=268435456)(hc:1<=c/\c<=10000000):Sb n c=some (n/c):=by
 have hr:=Abr (c:=c) (by omega) h;simp only[Sb,gd_t (show c≠0 by omega),jn_d];rcases Int.lt_or_le n 0 with h0|h0
 .obtain⟨e1,e2⟩:=At2 h0 (show 0<c by omega);have e3:=Int.mul_ediv_add_emod (-n) c;have e4:=Int.emod_nonneg (-n) (show c≠0 by omega);have e5:=Int.emod_lt_of_pos (-n) (show 0<c by omega);have hq:=Abr (c:=c) (by omega) (show -268435456<=-n/\-n<=268435456 by omega);rw[e1,e2,Aq (x:=-((-n)/c)) (by omega) (by omega)]
  by_cases hz:(-n)%c=0
  .rw[if_neg (by omega)];rw[ediv_of (n:=n) (c:=c) (k:=-((-n)/c)) (r:=0) (by omega) (by rw[Int.mul_neg];omega) (by omega) (by omega)]
  .rw[if_pos (by omega),Aq (by omega) (by omega)];rw[ediv_of (n:=n) (c:=c) (k:=-((-n)/c)-1) (r:=c-(-n)%c) (by omega) (by rw[Int.mul_sub,Int.mul_neg,Int.mul_one];omega) (by omega) (by omega)]
 .rw[Int.tdiv_eq_ediv_of_nonneg h0,Int.tmod_eq_emod_of_nonneg h0,if_neg (by have:=Int.emod_nonneg n (show c≠0 by omega);omega),Aq (by omega) (by omega)]
theorem Ag9{n c:Int}(h:-268435456<=n/\n<=268435456)(hc:1<=c/\c<=10000000):Ha n c=some (n/c):=by
 have hr:=Abr (c:=c) (by omega) h;simp only[Ha,gd_t (show c≠0 by omega)];rcases Int.lt_or_le n 0 with h0|h0
 .rw[if_pos h0,Aq (x:=c-1) (by omega) (by omega),Aq (x:=c-1-n) (by omega) (by omega),Int.tdiv_eq_ediv_of_nonneg (by omega)];have e3:=Int.mul_ediv_add_emod (c-1-n) c;have e4:=Int.emod_nonneg (c-1-n) (show c≠0 by omega);have e5:=Int.emod_lt_of_pos (c-1-n) (show 0<c by omega);have e6:n/c = -((c-1-n)/c):=ediv_of (r:=c-1-(c-1-n)%c) (by omega) (by rw[Int.mul_neg];omega) (by omega) (by omega);rw[Aq (x:=(c-1-n)/c) (by omega) (by omega),e6,Aq (by omega) (by omega)]
 .rw[if_neg (by omega),Int.tdiv_eq_ediv_of_nonneg h0,Aq (by omega) (by omega)]
def ceF(c:Int)(p:Aa):Ab:=⟨p.X/c,p.Y/c⟩
def seedL(l:List Aa)(r:Af):LI:=Co ((bot (ceF r.Cell) (candL l r)).map (·.Id))
theorem Fit.cand{l:List Aa}(hl:validL l=true){r:Af}:Fit (candL l r):=(((Fit.of hl).filter _).filter _).filter _
theorem seeds_eq{m:List Aa}(hm:Fit m){r:Af}(hr:okRules r=true):Rk m r=some (Co ((bot (ceF r.Cell) m).map (·.Id))):=by
 have hR:=okRules_rng hr;obtain⟨L,h1,h2⟩:=lowest_eq (ceF r.Cell) (fun p=>Og p r) Aj3 m [] hm.n hm.id (fun p hp=>by
  have:=okPt_rng (hm.ok p hp);refine⟨by simp only[Og,Ani (show -268435456<=p.X/\p.X<=268435456 by omega) (show 1<=r.Cell/\r.Cell<=10000000 by omega),Ani (show -268435456<=p.Y/\p.Y<=268435456 by omega) (show 1<=r.Cell/\r.Cell<=10000000 by omega),Ad,ceF],?_⟩;have e1:=Abr (c:=r.Cell) (by omega) (show -268435456<=p.X/\p.X<=268435456 by omega);have e2:=Abr (c:=r.Cell) (by omega) (show -268435456<=p.Y/\p.Y<=268435456 by omega);simp only[ceF];omega)
 have hlen:L.length<=1024:=by rw[h1.length_eq];exact Nat.le_trans (List.length_filter_le _ _) hm.n
 unfold Rk;rw[h2,Aen L [] (by simpa using hlen),Ad,gd_t (by simp;omega)];simp only[List.nil_append];rw[sortI_perm (h1.map _)]
theorem Aww(l:List Aa)(r:Af):Rm l r=some (if okRules r=true then (if validL l=true then (seedL l r,0) else ([],70)) else ([],71)):=by
 simp only[Rm,checked_eq,Ad]
 by_cases hr:okRules r=true
 .by_cases hl:validL l=true
  .obtain⟨L,h1,h2⟩:=cand_eq hl hr;have hc:=Fit.cand hl (r:=r);simp only[hr,hl,if_true,h2,Ad,seeds_eq (hc.perm h1.symm) hr,seedL];rw[sortI_perm ((bot_perm (nodup_of_ids (hc.perm h1.symm).id) h1).map _)]
  .simp[hr,hl]
 .simp[hr]
theorem rSeeds_eq(l:List Aa)(r:Af):Pe l r=some (if okRules r=true then (if validL l=true then (seedL l r,0) else ([],70)) else ([],71)):=by
 simp only[Pe,Anh,Ad]
 by_cases hr:okRules r=true
 .by_cases hl:validL l=true
  .have hc:=Fit.cand hl (r:=r);have hR:=okRules_rng hr;have hcn:=hc.n;simp only[hr,hl,if_true,rcand_eq hl hr,Ad,jn_d];rw[lfix_filter (candL l r) (fun p=>(candL l r).all fun q=>decide (ceF r.Cell q≠ceF r.Cell p) || !lowB q p) (Jp (candL l r) r) ?_ ?_,Ad]
   .show bnd (Dl (bot (ceF r.Cell) (candL l r))) _=_;rw[rids_eq (l:=bot (ceF r.Cell) (candL l r)) (Nat.le_trans (List.length_filter_le _ _) hc.n),Ad];rfl
   .generalize candL l r=m at hc hcn ⊢;intro j hj s hs;have hp:=okPt_rng (hc.ok _ (List.getElem_mem hj));have key:=Nz m (fun (s:Bool) (k:Int)=>(s,k)) (fun s q=>.inl (if s=true then (decide (ceF r.Cell q≠ceF r.Cell m[j]) || !lowB q m[j]) else false)) (id:Bool->Bool) (It m (s,(j:Int)) r) (fun _ _=>True) ?_ ?_ true trivial
    .rw[Ui,Afi] at key;simp only[Bool.true_and,id] at key;simp only[Jp,if_pos (show (j:Int)<(m.length:Int) by omega),jn_d,key,Ad,Am hj,Au (show j<9223372036854775807 by omega),gd_t (show (s.length+1)*72<=140737488355328 by omega)];split <;> rfl
    .intro k hk b _;left;refine⟨_,rfl,?_,trivial⟩;have hq:=okPt_rng (hc.ok _ (List.getElem_mem hk));have hC:1<=r.Cell/\r.Cell<=10000000:=by omega
     simp only[It,if_pos (show (k:Int)<(m.length:Int) by omega),jn_d,Am hk,Am hj,Ad,rlower_eq,Au (show k<9223372036854775807 by omega),
      Ag9 (show -268435456<=m[k].X/\m[k].X<=268435456 by omega) hC,Ag9 (show -268435456<=m[k].Y/\m[k].Y<=268435456 by omega) hC,Ag9 (show -268435456<=m[j].X/\m[j].X<=268435456 by omega) hC,Ag9 (show -268435456<=m[j].Y/\m[j].Y<=268435456 by omega) hC,ceF,ne_eq,Ab.mk.injEq]
     cases b <;> by_cases c1:m[k].X/r.Cell=m[j].X/r.Cell <;> by_cases c2:m[k].Y/r.Cell=m[j].Y/r.Cell <;> simp[c1,c2]
    .intro b _;simp only[It,Int.lt_irrefl,if_false,id]
   .intro s;simp only[Jp,Int.lt_irrefl,if_false]
  .simp[hr,hl]
 .simp[hr]
end Go.Proofs.YthlkpgdfifnagaaGreat.X
