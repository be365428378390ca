/- Plain laws: the lowest ones of groups, seeds. -/
import Derived.Test.YtbkobeeileemjaaGreatX2
namespace Go.Proofs.YtbkobeeileemjaaGreat.X
open Go Go.RowKit
def lowB (p q:Aa):Bool:=decide (p.Z.Hi < q.Z.Hi∨p.Z.Hi=q.Z.Hi∧p.Id < q.Id)
theorem lower_eq (p q:Aa):Nc p q=some (lowB p q):=by
 simp only [Nc,jn_d,lowB];grind
theorem lowB_trans {p q r:Aa} (h:lowB p q=true) (h':lowB q r=true):lowB p r=true:=by
 simp only [lowB,decide_eq_true_eq] at *;omega
theorem lowB_total {p q:Aa} (h:lowB p q=false) (h':lowB q p=false):p.Id=q.Id:=by
 simp only [lowB,decide_eq_false_iff_not] at *;omega
theorem lowB_irrefl (p:Aa):lowB p p=false:=by simp [lowB]
instance:DecidableEq Ab:=fun a b=>by
 rcases a with ⟨x,y⟩;rcases b with ⟨u,v⟩
 exact decidable_of_iff (x=u∧y=v) (by simp)
/-- Of those with one key the lowest ones. -/
def bot (kf:Aa→Ab) (l:List Aa):List Aa:=l.filter fun p=>l.all fun q=>decide (kf q≠kf p) || !lowB q p
theorem mem_bot {kf:Aa→Ab} {l:List Aa} {p:Aa}:p∈bot kf l↔p∈l∧∀ q∈l,kf q=kf p→lowB q p=false:=by
 unfold bot
 rw [List.mem_filter,List.all_eq_true]
 refine and_congr_right fun _=>⟨fun h q hq hk=>?_,fun h q hq=>?_⟩
 ·have:=h q hq
  simpa [hk] using this
 ·by_cases hk:kf q=kf p
  ·simp [hk,h q hq hk]
  ·simp [hk]
theorem nodup_of_ids {l:List Aa} (h:(l.map (·.Id)).Nodup):l.Nodup:=(List.pairwise_map.1 h).imp fun hne he=>hne (by rw [he])
theorem id_inj {l:List Aa} (h:(l.map (·.Id)).Nodup) {p q:Aa} (hp:p∈l) (hq:q∈l) (he:p.Id=q.Id):p=q:=by
 obtain ⟨i,hi,rfl⟩:=List.getElem_of_mem hp
 obtain ⟨j,hj,rfl⟩:=List.getElem_of_mem hq
 have:=(List.getElem_inj (xs:=l.map (·.Id)) (i:=i) (j:=j) (h₀:=by simpa using hi) (h₁:=by simpa using hj) h).1 (by simpa using he)
 subst this;rfl
theorem Ad5 {α:Type} {l m:List α} (hl:l.Nodup) (hm:m.Nodup) (h:∀ x,x∈l↔x∈m):l.Perm m:=(List.perm_ext_iff_of_nodup hl hm).2 h
theorem Hq {α:Type} {l:List α} {j:Nat} (hj:j < l.length) {x:α}:x∈l.take (j+1)↔x∈l.take j∨x=l[j]:=by
 rw [List.take_add_one,List.getElem?_eq_getElem hj]
 show x∈l.take j++[l[j]]↔_
 rw [List.mem_append,List.mem_singleton]
/-- A loop that folds with steps that may fail. -/
theorem Ang {α σ:Type} (l:List α) (st:σ→α→Option σ) (B:σ × Int→Option (Sum (σ × Int) σ))
  (h1:∀ (j:Nat) (h:j < l.length) s,B (s,j)=bnd (st s l[j]) fun s'=>some (.inl (s',((j+1:Nat):Int)))) (h2:∀ s,B (s,l.length)=some (.inr s)) (s0:σ) :
  lfix B (s0,0)=l.foldlM st s0:=by
 have key:∀ (m k:Nat) (s:σ),k≤l.length→l.length-k=m→lfix B (s,(k:Int))=(l.drop k).foldlM st s:=by
  intro m
  induction m with
  | zero =>
   intro k s hk hm
   obtain rfl:k=l.length:=by omega
   rw [Cy,h2 s]
   simp
  | succ m ih =>
   intro k s hk hm
   have hlt:k < l.length:=by omega
   rw [Cy,List.drop_eq_getElem_cons hlt,h1 k hlt,List.foldlM_cons]
   cases hs:st s l[k] with
   | none=>rfl
   | some s'=>rw [Ah];exact ih (k+1) s' (by omega) (by omega)
 exact key l.length 0 s0 (Nat.zero_le _) rfl
theorem lowest_eq {σ:Type} (kf:Aa→Ab) (ky:Aa→Option Ab) (st:σ→Aa→Option σ) (l:List Aa) (ys:σ) (hn:l.length≤1024) (hid:(l.map (·.Id)).Nodup)
  (hk:∀ p∈l,ky p=some (kf p)∧-268435456≤(kf p).X∧(kf p).X≤268435456∧-268435456≤(kf p).Y∧(kf p).Y≤268435456) :
  ∃ L:List Aa,L.Perm (bot kf l)∧Ic ky st l ys=L.foldlM st ys:=by
 let Good (j:Nat) (m:List (Ab × Aa)) (ks:List Ab):Prop:=Dr m∧ks.Nodup∧ks.length≤j∧m.length≤j∧∀ k,match mget m k with
  | none=>k ∉ ks∧∀ q∈l.take j,kf q≠k
  | some p=>k∈ks∧p∈l.take j∧kf p=k∧∀ q∈l.take j,kf q=k→lowB q p=false
 refine Exists.elim (Dl (B:=He l ky) (fun z=>l.length-z.2.2.toNat) (fun z=>∃ j:Nat,z.2.2=(j:Int)∧j≤l.length∧Good j z.1 z.2.1)
  (fun t=>Good l.length t.1 t.2) ?_ ([],[],0) ⟨0,rfl,Nat.zero_le _,List.Pairwise.nil,by simp,Nat.le_refl _,Nat.le_refl _,fun k=>by simp [mget]⟩) (fun t ht=>?_)
 ·rintro ⟨m,ks,z⟩ ⟨j,rfl,hj,hok,hnd,hkl,hml,hG⟩
  dsimp only at hok hnd hkl hml hG
  rcases Nat.lt_or_ge j l.length with hlt | hge
  ·left
   have hx:=hk _ (List.getElem_mem hlt)
   have hr:(-9223372036854775808≤(kf l[j]).X∧(kf l[j]).X≤9223372036854775807)∧(-9223372036854775808≤(kf l[j]).Y∧(kf l[j]).Y≤9223372036854775807):=by omega
   have hw:w64 ((j:Int)+1)=((j+1:Nat):Int):=Bt (by omega)
   have hGj:=hG (kf l[j])
   have put:∀ ks',ks'.Nodup→ks'.length≤j+1→(∀ k,k∈ks'↔k∈ks∨k=kf l[j])→(∀ q∈l.take j,kf q=kf l[j]→lowB q l[j]=false)→Good (j+1) (mput m (kf l[j]) l[j]) ks':=by
    intro ks' h1 h2 h3 h4
    refine ⟨hok.put _ _,h1,h2,?_,fun k=>?_⟩
    ·unfold mput
     have:(mdel m (kf l[j])).length≤m.length:=List.length_filter_le _ _
     rw [List.length_cons]
     omega
    by_cases he:kf l[j]=k
    ·rw [Ms hok,if_pos he.symm]
     refine ⟨(h3 k).2 (.inr he.symm),(Hq hlt).2 (.inr rfl),he,fun q hq hqk=>?_⟩
     rcases (Hq hlt).1 hq with hq | rfl
     ·exact h4 q hq (by rw [hqk,he])
     ·exact lowB_irrefl _
    ·rw [Ms hok,if_neg (fun e=>he e.symm)]
     have hGk:=hG k
     cases hm:mget m k with
     | none =>
      rw [hm] at hGk
      refine ⟨fun h=>?_,fun q hq=>?_⟩
      ·rcases (h3 k).1 h with h | h
       ·exact hGk.1 h
       ·exact he h.symm
      ·rcases (Hq hlt).1 hq with hq | rfl
       ·exact hGk.2 q hq
       ·exact he
     | some p =>
      rw [hm] at hGk
      refine ⟨(h3 k).2 (.inl hGk.1),(Hq hlt).2 (.inl hGk.2.1),hGk.2.2.1,fun q hq hqk=>?_⟩
      rcases (Hq hlt).1 hq with hq | rfl
      ·exact hGk.2.2.2 q hq hqk
      ·exact absurd hqk he
   simp only [He,if_pos (show (j:Int) < ((l.length:Nat):Int) by omega),jn_d,Bg hlt,Ah,hx.1,gd_t hr,gd_t (show m.length < 9223372036854775807 by omega),hw]
   cases hm:mget m (kf l[j]) with
   | none =>
    rw [hm] at hGj
    refine ⟨(mput m (kf l[j]) l[j],ks++[kf l[j]],((j+1:Nat):Int)),by simp [gd_t (show (ks.length+1)*16≤140737488355328 by omega)],⟨j+1,rfl,hlt,put _ ?_ (by simp;omega) (by simp) (fun q hq hqk=>absurd hqk (hGj.2 q hq))⟩,by simp;omega⟩
    rw [List.nodup_append]
    exact ⟨hnd,by simp,fun a ha b hb=>by simp at hb;subst hb;intro e;subst e;exact hGj.1 ha⟩
   | some p =>
    rw [hm] at hGj
    obtain ⟨g1,g2,g3,g4⟩:=hGj
    simp only [Option.getD_some,Option.isSome_some,if_true,lower_eq,Ah]
    by_cases hl:lowB l[j] p=true
    ·refine ⟨(mput m (kf l[j]) l[j],ks,((j+1:Nat):Int)),by simp [hl],⟨j+1,rfl,hlt,put _ hnd (Nat.le_succ_of_le hkl) (fun k=>⟨.inl,fun h=>h.elim id fun h=>by rw [h];exact g1⟩) (fun q hq hqk=>?_)⟩,by simp;omega⟩
     cases hq2:lowB q l[j] with
     | false=>rfl
     | true=>have:=lowB_trans hq2 hl;rw [g4 q hq hqk] at this;cases this
    ·refine ⟨(m,ks,((j+1:Nat):Int)),by simp [hl],⟨j+1,rfl,hlt,hok,hnd,Nat.le_succ_of_le hkl,Nat.le_succ_of_le hml,fun k=>?_⟩,by simp;omega⟩
     have hGk:=hG k
     cases hmk:mget m k with
     | none =>
      rw [hmk] at hGk
      refine ⟨hGk.1,fun q hq=>?_⟩
      rcases (Hq hlt).1 hq with hq | rfl
      ·exact hGk.2 q hq
      ·intro e;rw [e] at hm;rw [hm] at hmk;cases hmk
     | some p' =>
      rw [hmk] at hGk
      refine ⟨hGk.1,(Hq hlt).2 (.inl hGk.2.1),hGk.2.2.1,fun q hq hqk=>?_⟩
      rcases (Hq hlt).1 hq with hq | rfl
      ·exact hGk.2.2.2 q hq hqk
      ·rw [hqk] at hm;rw [hm] at hmk
       obtain rfl:=Option.some.inj hmk
       simpa using hl
  ·right
   obtain rfl:j=l.length:=by omega
   exact ⟨(m,ks),by simp only [He,Int.lt_irrefl,if_false],hok,hnd,hkl,hml,hG⟩
 ·obtain ⟨h1,hok,hnd,hkl,hml,hG⟩:=ht
  obtain ⟨m,ks⟩:=t
  dsimp only at hnd hkl hml hG
  rw [List.take_length] at hG
  have some_of:∀ k∈ks,∃ p,mget m k=some p∧p∈l∧kf p=k∧∀ q∈l,kf q=k→lowB q p=false:=by
   intro k hk'
   have:=hG k
   cases hm:mget m k with
   | none=>rw [hm] at this;exact absurd hk' this.1
   | some p=>rw [hm] at this;exact ⟨p,rfl,this.2⟩
  refine ⟨ks.map fun k=>(mget m k).getD ⟨0,0,0,⟨0,0⟩,0,0,0,0⟩,Ad5 ?_ ((nodup_of_ids hid).filter _) fun p=>?_,?_⟩
  ·refine List.pairwise_map.2 (hnd.imp_of_mem fun {a b} ha hb hne he=>hne ?_)
   obtain ⟨p,e1,_,e2,_⟩:=some_of a ha
   obtain ⟨q,f1,_,f2,_⟩:=some_of b hb
   rw [e1,f1] at he
   simp only [Option.getD_some] at he
   rw [← e2,← f2,he]
  ·show _↔p∈bot kf l
   rw [mem_bot,List.mem_map]
   constructor
   ·rintro ⟨k,hk',rfl⟩
    obtain ⟨p,e1,e2,e3,e4⟩:=some_of k hk'
    rw [e1,Option.getD_some]
    exact ⟨e2,fun q hq hqk=>e4 q hq (by rw [hqk,e3])⟩
   ·rintro ⟨hp,hlow⟩
    have:=hG (kf p)
    cases hm:mget m (kf p) with
    | none=>rw [hm] at this;exact absurd rfl (this.2 p hp)
    | some p' =>
     rw [hm] at this
     obtain ⟨g1,g2,g3,g4⟩:=this
     refine ⟨kf p,g1,?_⟩
     rw [hm,Option.getD_some]
     exact id_inj hid g2 hp (lowB_total (hlow p' g2 g3) (g4 p hp rfl))
  ·unfold Ic
   rw [jn_d,h1,Ah]
   dsimp only
   have h2:=Ang (ks.map fun k=>(mget m k).getD ⟨0,0,0,⟨0,0⟩,0,0,0,0⟩) st (Gl (m,ks) st) ?_ ?_ ys
   ·rw [h2]
    cases List.foldlM st ys (ks.map fun k=>(mget m k).getD ⟨0,0,0,⟨0,0⟩,0,0,0,0⟩) <;> rfl
   ·intro j hj s
    have hj':j < ks.length:=by simpa using hj
    obtain ⟨p,e1,e2,e3,e4⟩:=some_of _ (List.getElem_mem hj')
    have hx:=hk p e2
    rw [e3] at hx
    simp only [Gl,if_pos (show (j:Int) < ((ks.length:Nat):Int) by omega),Bg hj',Ah,gd_t (show (-9223372036854775808≤(ks[j]).X∧(ks[j]).X≤9223372036854775807)∧(-9223372036854775808≤(ks[j]).Y∧(ks[j]).Y≤9223372036854775807) by omega),List.getElem_map,Bt (show j < 9223372036854775807 by omega)]
   ·intro s
    simp only [Gl,List.length_map,Int.lt_irrefl,if_false]
theorem foldlM_stepC:∀ (l acc:List Aa),acc.length+l.length≤1024→l.foldlM Afa acc=some (acc++l)
 | [],acc,_=>by simp
 | x::r,acc,h=>by
  simp only [List.length_cons] at h
  rw [List.foldlM_cons,Afa,gd_t (by omega)]
  show List.foldlM Afa (acc++[x]) r=_
  rw [foldlM_stepC r _ (by simp;omega)];simp
theorem Ab8:∀ (l:List Aa) (acc:List Int),acc.length+l.length≤1024→l.foldlM Aho acc=some (acc++l.map (·.Id))
 | [],acc,_=>by simp
 | x::r,acc,h=>by
  simp only [List.length_cons] at h
  rw [List.foldlM_cons,Aho,gd_t (by omega)]
  show List.foldlM Aho (acc++[x.Id]) r=_
  rw [Ab8 r _ (by simp;omega)];simp
/-! ### the candidates -/
def plF (p:Aa):Ab:=⟨p.X,p.Y⟩
def lastL (l:List Aa):List Aa:=l.filter fun p=>decide (p.Num=p.Of)
structure Fit (l:List Aa):Prop where
 n:l.length≤1024
 ok:∀ p∈l,okPt p=true
 id:(l.map (·.Id)).Nodup
theorem Fit.of {l:List Aa} (h:validL l=true):Fit l:=by obtain ⟨h1,h2,h3⟩:=Ya h;exact ⟨h1,h2,h3⟩
theorem Fit.filter {l:List Aa} (h:Fit l) (p:Aa→Bool):Fit (l.filter p) :=
 ⟨Nat.le_trans (List.length_filter_le _ _) h.n,fun q hq=>h.ok q (List.mem_filter.1 hq).1,h.id.sublist (List.Sublist.map _ (List.filter_sublist))⟩
theorem Fit.perm {l m:List Aa} (h:Fit l) (hp:l.Perm m):Fit m:=⟨hp.length_eq ▸ h.n,fun q hq=>h.ok q (hp.mem_iff.2 hq),(hp.map _).nodup_iff.1 h.id⟩
theorem bot_perm {kf:Aa→Ab} {l m:List Aa} (hl:l.Nodup) (h:l.Perm m):(bot kf l).Perm (bot kf m) :=
 Ad5 (hl.filter _) ((h.nodup_iff.1 hl).filter _) fun p=>by rw [mem_bot,mem_bot];simp only [h.mem_iff]
theorem Ata {l:List Aa} (h:Fit l):∃ L,L.Perm (bot plF (lastL l))∧Oy l=some L:=by
 have hf:Fit (lastL l):=h.filter _
 obtain ⟨L,h1,h2⟩:=lowest_eq plF Ch Afa (lastL l) [] hf.n hf.id (fun p hp=>⟨rfl,by have:=okPt_rng (hf.ok p hp);simp only [plF];omega⟩)
 refine ⟨L,h1,?_⟩
 unfold Oy
 rw [jn_d,lfix_filter l (fun p=>decide (p.Num=p.Of)) (Mr l) ?_ ?_,Ah]
 ·show bnd (Ph Ch (lastL l)) _=_
  have hlen:L.length≤1024:=by rw [h1.length_eq];exact Nat.le_trans (List.length_filter_le _ _) hf.n
  unfold Ph
  rw [h2,foldlM_stepC L [] (by simpa using hlen),Ah];rfl
 ·intro j hj s hs
  have:=h.n
  simp only [Mr,if_pos (show (j:Int) < ((l.length:Nat):Int) by omega),jn_d,Bg hj,Ah,Bt (show j < 9223372036854775807 by omega),gd_t (show (s.length+1)*72≤140737488355328 by omega),decide_eq_true_eq]
  split <;> rfl
 ·intro s
  simp only [Mr,Int.lt_irrefl,if_false]
def candL (l:List Aa) (r:Af):List Aa:=bot plF (lastL (dryL l r))
theorem cand_eq {l:List Aa} (hl:validL l=true) {r:Af} (hr:okRules r=true):∃ L,L.Perm (candL l r)∧Cm l r=some L:=by
 have hf:Fit (dryL l r):=(Fit.of hl).filter _
 obtain ⟨L,h1,h2⟩:=Ata hf
 exact ⟨L,h1,by simp only [Cm,parted_eq hl hr,Ah,h2]⟩
/-! ### cells -/
theorem ediv_of {n c k r:Int} (hc:0 < c) (h:n=c*k+r) (h0:0≤r) (h1:r < c):n / c=k:=by
 rw [h,Int.add_comm,Int.add_mul_ediv_left r k (by omega),Int.ediv_eq_zero_of_lt h0 h1,Int.zero_add]
theorem Ab9 {n c:Int} (hc:0 < c) (h:-268435456≤n∧n≤268435456):-268435456≤n / c∧n / c≤268435456:=by
 refine ⟨?_,?_⟩
 ·rw [Int.le_ediv_iff_mul_le hc]
  have:-268435456*c≤-268435456*1:=Int.mul_le_mul_of_nonpos_left (by omega) (by omega)
  omega
 ·rcases Int.le_total 0 n with h0 | h0
  ·have:=Int.ediv_le_self c h0;omega
  ·have:n / c≤0:=Int.ediv_nonpos_of_nonpos_of_neg h0 (by omega)
   omega
theorem Aqu {n c:Int} (hn:n < 0) (_:0 < c):Int.tdiv n c = -((-n) / c)∧Int.tmod n c = -((-n) % c):=by
 have h1:Int.tdiv (-n) c=(-n) / c:=Int.tdiv_eq_ediv_of_nonneg (by omega)
 have h2:Int.tmod (-n) c=(-n) % c:=Int.tmod_eq_emod_of_nonneg (by omega)
 rw [Int.neg_tdiv] at h1
 rw [Int.neg_tmod] at h2
 exact ⟨by omega,by omega⟩
theorem Alr {n c:Int} (h:-268435456≤n∧n≤268435456) (hc:1≤c∧c≤10000000):Nd n c=some (n / c):=by
 have hr:=Ab9 (c:=c) (by omega) h
 simp only [Nd,gd_t (show c≠0 by omega),jn_d]
 rcases Int.lt_or_le n 0 with h0 | h0
 ·obtain ⟨e1,e2⟩:=Aqu h0 (show 0 < c by omega)
  have e3:=Int.mul_ediv_add_emod (-n) c
  have e4:=Int.emod_nonneg (-n) (show c≠0 by omega)
  have e5:=Int.emod_lt_of_pos (-n) (show 0 < c by omega)
  have hq:=Ab9 (c:=c) (by omega) (show -268435456≤-n∧-n≤268435456 by omega)
  rw [e1,e2,Bo (x:=-((-n) / c)) (by omega) (by omega)]
  by_cases hz:(-n) % c=0
  ·rw [if_neg (by omega)]
   rw [ediv_of (n:=n) (c:=c) (k:=-((-n) / c)) (r:=0) (by omega) (by rw [Int.mul_neg];omega) (by omega) (by omega)]
  ·rw [if_pos (by omega),Bo (by omega) (by omega)]
   rw [ediv_of (n:=n) (c:=c) (k:=-((-n) / c)-1) (r:=c-(-n) % c) (by omega) (by rw [Int.mul_sub,Int.mul_neg,Int.mul_one];omega) (by omega) (by omega)]
 ·rw [Int.tdiv_eq_ediv_of_nonneg h0,Int.tmod_eq_emod_of_nonneg h0,if_neg (by have:=Int.emod_nonneg n (show c≠0 by omega);omega),Bo (by omega) (by omega)]
def ceF (c:Int) (p:Aa):Ab:=⟨p.X / c,p.Y / c⟩
def seedL (l:List Aa) (r:Af):List Int:=Db ((bot (ceF r.Cell) (candL l r)).map (·.Id))
theorem Fit.cand {l:List Aa} (hl:validL l=true) {r:Af}:Fit (candL l r):=(((Fit.of hl).filter _).filter _).filter _
theorem seeds_eq {m:List Aa} (hm:Fit m) {r:Af} (hr:okRules r=true):Ox m r=some (Db ((bot (ceF r.Cell) m).map (·.Id))):=by
 have hR:=okRules_rng hr
 obtain ⟨L,h1,h2⟩:=lowest_eq (ceF r.Cell) (fun p=>Jy p r) Aho m [] hm.n hm.id (fun p hp=>by
  have:=okPt_rng (hm.ok p hp)
  refine ⟨by simp only [Jy,Alr (show -268435456≤p.X∧p.X≤268435456 by omega) (show 1≤r.Cell∧r.Cell≤10000000 by omega),Alr (show -268435456≤p.Y∧p.Y≤268435456 by omega) (show 1≤r.Cell∧r.Cell≤10000000 by omega),Ah,ceF],?_⟩
  have e1:=Ab9 (c:=r.Cell) (by omega) (show -268435456≤p.X∧p.X≤268435456 by omega)
  have e2:=Ab9 (c:=r.Cell) (by omega) (show -268435456≤p.Y∧p.Y≤268435456 by omega)
  simp only [ceF];omega)
 have hlen:L.length≤1024:=by rw [h1.length_eq];exact Nat.le_trans (List.length_filter_le _ _) hm.n
 unfold Ox
 rw [h2,Ab8 L [] (by simpa using hlen),Ah,gd_t (by simp;omega)]
 simp only [List.nil_append]
 rw [sortI_perm (h1.map _)]
theorem Atb (l:List Aa) (r:Af):Ku l r=some (if okRules r=true then (if validL l=true then (seedL l r,0) else ([],70)) else ([],71)):=by
 simp only [Ku,checked_eq,Ah]
 by_cases hr:okRules r=true
 ·by_cases hl:validL l=true
  ·obtain ⟨L,h1,h2⟩:=cand_eq hl hr
   have hc:=Fit.cand hl (r:=r)
   simp only [hr,hl,if_true,h2,Ah,seeds_eq (hc.perm h1.symm) hr,seedL]
   rw [sortI_perm ((bot_perm (nodup_of_ids (hc.perm h1.symm).id) h1).map _)]
  ·simp [hr,hl]
 ·simp [hr]
end Go.Proofs.YtbkobeeileemjaaGreat.X
