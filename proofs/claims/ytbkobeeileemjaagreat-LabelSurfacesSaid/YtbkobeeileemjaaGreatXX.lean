/- X1 X2 X3 X4 X5 B1 B2 in one. -/
import Derived.Test.YtbkobeeileemjaaGreatQ3
import Derived.Test.YtbkobeeileemjaaGreatP0
import Derived.Test.YtbkobeeileemjaaGreatVV
/- Plain laws: loops over lists; valid points, rules. -/
namespace Go.Proofs.YtbkobeeileemjaaGreat.X
open Go Go.RowKit
/-- A loop over a list that may be left. -/
def Ps {α σ τ:Type} (f:σ→α→Sum σ τ) (fin:σ→τ):List α→σ→τ
 | [],s=>fin s
 | x::r,s=>match f s x with
  | .inl s'=>Ps f fin r s'
  | .inr t=>t
theorem Qs {α σ τ β:Type} (l:List α) (enc:σ→Int→β) (f:σ→α→Sum σ τ) (fin:σ→τ) (B:β→Option (Sum β τ)) (C:Nat→σ→Prop)
  (h1:∀ (j:Nat) (h:j < l.length) s,C j s→(∃ s',f s l[j] = .inl s'∧B (enc s j)=some (.inl (enc s' ((j+1:Nat):Int)))∧C (j+1) s')∨(∃ t,f s l[j] = .inr t∧B (enc s j)=some (.inr t)))
  (h2:∀ s,C l.length s→B (enc s l.length)=some (.inr (fin s))) (s0:σ) (h0:C 0 s0):lfix B (enc s0 0)=some (Ps f fin l s0):=by
 have key:∀ (m k:Nat) (s:σ),k≤l.length→l.length-k=m→C k s→lfix B (enc s k)=some (Ps f fin (l.drop k) s):=by
  intro m
  induction m with
  | zero =>
   intro k s hk hm hC
   obtain rfl:k=l.length:=by omega
   rw [Cj,h2 s hC]
   simp [Ps]
  | succ m ih =>
   intro k s hk hm hC
   have hlt:k < l.length:=by omega
   rw [Cj,List.drop_eq_getElem_cons hlt]
   rcases h1 k hlt s hC with ⟨s',e1,e2,e3⟩ | ⟨t,e1,e2⟩
   ·rw [e2];simp only [Ps,e1]
    exact ih (k+1) s' (by omega) (by omega) e3
   ·rw [e2];simp only [Ps,e1]
 exact key l.length 0 s0 (Nat.zero_le _) rfl h0
theorem Afw {α:Type} {l:List α}:l.reverse.Nodup↔l.Nodup:=(List.reverse_perm l).nodup_iff
/-! ### points -/
def okXY (p:Ad):Bool:=decide (-268435456≤p.X∧p.X≤268435456∧-268435456≤p.Y∧p.Y≤268435456)
def okPt (p:Aa):Bool:=decide (0≤p.Id∧p.Id≤1152921504606846976∧-268435456≤p.X∧p.X≤268435456∧-268435456≤p.Y∧p.Y≤268435456∧-268435456≤p.Z.Lo∧p.Z.Lo≤p.Z.Hi∧p.Z.Hi≤268435456∧0≤p.Wide∧p.Wide≤268435456∧1≤p.Num∧p.Num≤p.Of∧p.Of≤15)
theorem Ss (a b c:Int):Da a b c=some (decide (a≤b∧b≤c)):=by
 simp only [Da,jn_d];grind
theorem Ai9 (a b c:Int):Ff a b c=some (decide (b≤a∧a≤c)):=by
 simp only [Ff,jn_d];grind
theorem Ue (p:Ad):Fu p=some (okXY p):=by
 simp only [Fu,jn_d,Ss,Ai,okXY,decide_eq_true_eq];grind
theorem Al1 (p:Ad):Kq p=some (okXY p):=by
 simp only [Kq,jn_d,okXY];grind
theorem Uf (p:Aa):Kg p=some (okPt p):=by
 simp only [Kg,jn_d,Ss,Ai,Fk,Ue,okXY,okPt,decide_eq_true_eq];grind
theorem Aja (p:Aa):Nh p=some (okPt p):=by
 simp only [Nh,jn_d,Ai9,Ai,Al1,okXY,okPt,decide_eq_true_eq];grind
def validL (l:List Aa):Bool:=decide (l.length≤1024) && l.all okPt && decide ((l.map (·.Id)).Nodup)
/-- Ids seen so far. -/
theorem Afx {m:List (Int × Bool)} (hm:∀ p∈m,p.2=true) (x:Int):(mget m x).getD false=decide (x∈m.map (·.1)):=by
 induction m with
 | nil=>simp [mget]
 | cons p r ih =>
  rw [Qu]
  have hp:=hm p List.mem_cons_self
  have ih:=ih (fun q hq=>hm q (List.mem_cons_of_mem _ hq))
  by_cases h:p.1=x
  ·rw [if_pos h];simp [hp,h]
  ·rw [if_neg h,ih]
   have:¬ x=p.1:=fun e=>h e.symm
   simp [this]
theorem Anc {κ υ:Type} {m:List (κ × υ)} {x:κ} {v:υ} (h:x ∉ m.map (·.1)):mput m x v=(x,v)::m:=by
 unfold mput mdel
 rw [List.filter_eq_self.2]
 intro q hq
 simp only [decide_eq_true_eq]
 exact fun e=>h (e ▸ List.mem_map_of_mem hq)
def Aax (s:List Int) (x:Aa):Sum (List Int) (Sum Unit Bool):=if okPt x=true∧x.Id ∉ s then .inl (x.Id::s) else .inr (.inr false)
theorem Zr:∀ (l:List Aa) (s:List Int),s.Nodup→Ps Aax (fun _=>.inl ()) l s=if l.all okPt=true∧((l.map (·.Id)).reverse++s).Nodup then .inl () else .inr false
 | [],s,hs=>by simp [Ps,hs]
 | x::r,s,hs=>by
  unfold Ps Aax
  by_cases h:okPt x=true∧x.Id ∉ s
  ·rw [if_pos h]
   dsimp only
   have:=Zr r (x.Id::s) (List.nodup_cons.2 ⟨h.2,hs⟩)
   unfold Aax at this
   rw [this]
   simp [h.1]
  ·rw [if_neg h]
   dsimp only
   rw [if_neg]
   rintro ⟨h1,h2⟩
   refine h ⟨by simp at h1;exact h1.1,fun hx=>?_⟩
   simp only [List.map_cons,List.reverse_cons,List.append_assoc,List.cons_append,List.nil_append] at h2
   have:=(List.nodup_append.1 h2).2.1
   exact (List.nodup_cons.1 this).1 hx
theorem valid_eq (l:List Aa):Pj l=some (validL l):=by
 unfold Pj validL
 by_cases hn:1024 < ((l.length:Nat):Int)
 ·rw [if_pos hn]
  have:¬ l.length≤1024:=by omega
  simp [this]
 ·rw [if_neg hn,jn_d]
  have hn':l.length≤1024:=by omega
  have key:=Qs l (fun (s:List (Int × Bool)) (i:Int)=>(s,i)) (fun (s:List (Int × Bool)) x=>if okPt x=true∧x.Id ∉ s.map (·.1) then .inl ((x.Id,true)::s) else .inr (.inr false)) (fun _=>(.inl ():Sum Unit Bool)) (Hy l)
   (fun j s=>s.length=j∧∀ p∈s,p.2=true) ?_ ?_ [] ⟨rfl,by simp⟩
  ·rw [key,Ai]
   have conv:∀ (l:List Aa) (s:List (Int × Bool)),Ps (fun (s:List (Int × Bool)) (x:Aa)=>if okPt x=true∧x.Id ∉ s.map (·.1) then Sum.inl ((x.Id,true)::s) else .inr (.inr false)) (fun _=>(.inl ():Sum Unit Bool)) l s=Ps Aax (fun _=>.inl ()) l (s.map (·.1)):=by
    intro l
    induction l with
    | nil=>intro s;rfl
    | cons x r ih =>
     intro s
     unfold Ps Aax
     by_cases h:okPt x=true∧x.Id ∉ s.map (·.1)
     ·rw [if_pos h,if_pos h];exact ih _
     ·rw [if_neg h,if_neg h]
   rw [conv,List.map_nil,Zr l [] (by simp)]
   simp only [List.append_nil,Afw]
   by_cases h:l.all okPt=true∧(l.map (·.Id)).Nodup
   ·rw [if_pos h];simp only [hn',h.1,h.2,decide_true,Bool.and_self]
   ·rw [if_neg h]
    dsimp only
    replace h:=Decidable.not_and_iff_or_not.1 h
    congr 1
    rcases h with h | h <;> simp [h]
  ·intro j hj s hC
   have h0:(j:Int) < ((l.length:Nat):Int):=by omega
   by_cases hp:okPt l[j]=true
   ·have hr:-9223372036854775808≤l[j].Id∧l[j].Id≤9223372036854775807:=by simp only [okPt,decide_eq_true_eq] at hp;omega
    by_cases hs:l[j].Id∈s.map (·.1)
    ·right
     refine ⟨.inr false,by rw [if_neg (fun h=>h.2 hs)],?_⟩
     simp only [Hy,if_pos h0,Bo hj,Ai,jn_d,Uf,hp,if_true,gd_t hr,Afx hC.2,decide_eq_true hs]
    ·left
     refine ⟨(l[j].Id,true)::s,by rw [if_pos ⟨hp,hs⟩],?_,by simp [hC.1],by intro p hm;rcases List.mem_cons.1 hm with rfl | hm;rfl;exact hC.2 p hm⟩
     have hs':decide (l[j].Id∈s.map (·.1))=false:=decide_eq_false hs
     simp only [Hy,if_pos h0,Bo hj,Ai,jn_d,Uf,hp,if_true,gd_t hr,Afx hC.2,hs',Bool.false_eq_true,if_false,Anc hs,gd_t (show s.length < 9223372036854775807 by omega),Cw (show j < 9223372036854775807 by omega)]
   ·right
    refine ⟨.inr false,by rw [if_neg (fun h=>hp h.1)],?_⟩
    have hp':okPt l[j]=false:=by simpa using hp
    simp only [Hy,if_pos h0,Bo hj,Ai,jn_d,Uf,hp',if_true,Bool.false_eq_true,if_false]
  ·intro s hC
   simp only [Hy,Int.lt_irrefl,if_false]
theorem rvalid_eq (l:List Aa):Ht l=some (validL l):=by
 unfold Ht
 by_cases hn:1024 < ((l.length:Nat):Int)
 ·rw [if_pos hn]
  have:¬ l.length≤1024:=by omega
  simp [validL,this]
 ·rw [if_neg hn,jn_d]
  have hn':l.length≤1024:=by omega
  have inner:∀ (j:Nat) (hj:j < l.length),lfix (Fi j l) 0=some (if ∀ (k:Nat) (hk:k < j),l[k].Id≠l[j].Id then .inl () else .inr false):=by
   intro j hj
   have:=Ye (β:=Unit) (γ:=Bool) (l.take j) (fun q=>decide (q.Id≠l[j].Id)) (Fi j l) () false ?_ ?_
   ·rw [this]
    congr 1
    have e:(l.take j).all (fun q=>decide (q.Id≠l[j].Id))=true↔∀ (k:Nat) (hk:k < j),l[k].Id≠l[j].Id:=by
     rw [List.all_eq_true]
     constructor
     ·intro h k hk
      have:=h (l[k]) (List.mem_take_iff_getElem.2 ⟨k,by omega,rfl⟩)
      simpa using this
     ·intro h q hq
      obtain ⟨k,hk,rfl⟩:=List.mem_take_iff_getElem.1 hq
      simpa using h k (by omega)
    by_cases h:∀ (k:Nat) (hk:k < j),l[k].Id≠l[j].Id
    ·rw [if_pos (e.2 h),if_pos h]
    ·rw [if_neg (fun h'=>h (e.1 h')),if_neg h]
   ·intro k hk
    have hk':k < j:=by simp at hk;omega
    have hkl:k < l.length:=by omega
    simp only [Fi,if_pos (show (k:Int) < (j:Int) by omega),Bo hkl,Bo hj,Ai,Cw (show k < 9223372036854775807 by omega),List.getElem_take]
    by_cases h:l[k].Id=l[j].Id <;> simp [h]
   ·have:(l.take j).length=j:=by simp;omega
    simp only [Fi,this,Int.lt_irrefl,if_false]
  have key:=Qs (β:=Int) l (fun (s:List Int) (i:Int)=>i) Aax (fun _=>(.inl ():Sum Unit Bool)) (Ei l)
   (fun j s=>s=((l.take j).map (·.Id)).reverse) ?_ ?_ [] rfl
  ·rw [key,Ai,Zr l [] (by simp)]
   simp only [List.append_nil,Afw,validL]
   by_cases h:l.all okPt=true∧(l.map (·.Id)).Nodup
   ·rw [if_pos h];simp only [hn',h.1,h.2,decide_true,Bool.and_self]
   ·rw [if_neg h]
    dsimp only
    replace h:=Decidable.not_and_iff_or_not.1 h
    congr 1
    rcases h with h | h <;> simp [h]
  ·rintro j hj s rfl
   have h0:(j:Int) < ((l.length:Nat):Int):=by omega
   have hmem:l[j].Id ∉ ((l.take j).map (·.Id)).reverse↔∀ (k:Nat) (hk:k < j),l[k].Id≠l[j].Id:=by
    rw [List.mem_reverse,List.mem_map]
    constructor
    ·intro h k hk e
     exact h ⟨l[k],List.mem_take_iff_getElem.2 ⟨k,by omega,rfl⟩,e⟩
    ·rintro h ⟨q,hq,e⟩
     obtain ⟨k,hk,rfl⟩:=List.mem_take_iff_getElem.1 hq
     exact h k (by omega) e
   by_cases hp:okPt l[j]=true
   ·by_cases hs:∀ (k:Nat) (hk:k < j),l[k].Id≠l[j].Id
    ·left
     refine ⟨_,by unfold Aax;rw [if_pos ⟨hp,hmem.2 hs⟩],?_,?_⟩
     ·simp only [Ei,if_pos h0,Bo hj,Ai,jn_d,Aja,hp,if_true,inner j hj,if_pos hs,Cw (show j < 9223372036854775807 by omega)]
     ·have e:l.take (j+1)=l.take j++[l[j]]:=by rw [List.take_add_one,List.getElem?_eq_getElem hj];rfl
      show _=_
      rw [e,List.map_append,List.reverse_append];rfl
    ·right
     refine ⟨.inr false,by unfold Aax;rw [if_neg (fun h=>hs (hmem.1 h.2))],?_⟩
     simp only [Ei,if_pos h0,Bo hj,Ai,jn_d,Aja,hp,if_true,inner j hj,if_neg hs]
   ·right
    refine ⟨.inr false,by unfold Aax;rw [if_neg (fun h=>hp h.1)],?_⟩
    simp only [Ei,if_pos h0,Bo hj,Ai,jn_d,Aja,hp,Bool.false_eq_true,if_false]
  ·intro s _
   simp only [Ei,Int.lt_irrefl,if_false]
def Nk (r:Bi):Bool:=decide (1≤r.Cell∧r.Cell≤10000000∧0≤r.Reach∧r.Reach≤1000000∧0≤r.Slope∧r.Slope≤100000∧1≤r.Link∧r.Link≤1000000∧0≤r.Flat∧r.Flat≤1000000∧0≤r.Tall∧r.Tall≤1000000∧0≤r.High∧r.High≤1000000∧0≤r.Low∧r.Low≤1000000∧0≤r.Brush∧r.Brush≤1000000∧1≤r.Few∧r.Few≤1024)
theorem And (r:Bi):Kh r=some (Nk r):=by
 have key:=Ye (β:=Unit) (γ:=Bool) [r.Reach,r.Flat,r.Tall,r.High,r.Low,r.Brush] (fun n=>decide (0≤n∧n≤1000000)) (Gx r) () false ?_ ?_
 ·unfold Kh
  rw [jn_d,key,Ai]
  by_cases hc:([r.Reach,r.Flat,r.Tall,r.High,r.Low,r.Brush].all (fun n=>decide (0≤n∧n≤1000000)))=true
  ·rw [if_pos hc]
   simp only [jn_d,Ss,Ai,decide_eq_true_eq]
   simp only [List.all_cons,List.all_nil,Bool.and_true,Bool.and_eq_true,decide_eq_true_eq] at hc
   unfold Nk
   repeat' split
   all_goals (congr 1;grind)
  ·rw [if_neg hc]
   simp only [List.all_cons,List.all_nil,Bool.and_true,Bool.and_eq_true,decide_eq_true_eq] at hc
   dsimp only
   unfold Nk
   congr 1;symm;rw [decide_eq_false_iff_not];omega
 ·intro j hj
  have hj':(j:Int) < 6:=by simp at hj;omega
  simp only [Gx,if_pos hj',Bo hj,Ai,Ss,Cw (show j < 9223372036854775807 by simp at hj;omega)]
 ·simp only [Gx]
  rfl
theorem Ajb (l:List Aa) (r:Bi):Oh l r=some (if Nk r=true then (if validL l=true then 0 else 70) else 71):=by
 simp only [Oh,And,Ai,valid_eq];grind
end Go.Proofs.YtbkobeeileemjaaGreat.X
/- Plain laws: sunk points, ids, the lowest ones. -/
namespace Go.Proofs.YtbkobeeileemjaaGreat.X
open Go Go.RowKit
theorem okPt_rng {p:Aa} (h:okPt p=true):0≤p.Id∧p.Id≤1152921504606846976∧-268435456≤p.X∧p.X≤268435456∧-268435456≤p.Y∧p.Y≤268435456∧-268435456≤p.Z.Lo∧p.Z.Lo≤p.Z.Hi∧p.Z.Hi≤268435456:=by
 simp only [okPt,decide_eq_true_eq] at h;omega
theorem Acy {r:Bi} (h:Nk r=true):1≤r.Cell∧r.Cell≤10000000∧0≤r.Reach∧r.Reach≤1000000∧0≤r.Slope∧r.Slope≤100000∧1≤r.Link∧r.Link≤1000000∧0≤r.Low∧r.Low≤1000000:=by
 simp only [Nk,decide_eq_true_eq] at h;omega
theorem Xa {l:List Aa} (h:validL l=true):l.length≤1024∧(∀ p∈l,okPt p=true)∧(l.map (·.Id)).Nodup:=by
 simp only [validL,Bool.and_eq_true,decide_eq_true_eq,List.all_eq_true] at h
 exact ⟨h.1.1,h.1.2,h.2⟩
/-- The square of the distance of two places. -/
def sq (p q:Aa):Int:=(p.X-q.X)*(p.X-q.X)+(p.Y-q.Y)*(p.Y-q.Y)
theorem Ari {a:Int} {m:Int} (h1:-m≤a) (h2:a≤m):0≤a*a∧a*a≤m*m:=by
 refine ⟨?_,?_⟩
 ·rcases Int.le_total 0 a with h | h
  ·exact Int.mul_nonneg h h
  ·exact Int.mul_nonneg_of_nonpos_of_nonpos h h
 ·rcases Int.le_total 0 a with h | h
  ·exact Int.mul_le_mul h2 h2 h (by omega)
  ·have:(-a)*(-a)≤m*m:=Int.mul_le_mul (by omega) (by omega) (by omega) (by omega)
   rwa [Int.neg_mul_neg] at this
theorem sq_w {a b:Int} (ha:-268435456≤a∧a≤268435456) (hb:-268435456≤b∧b≤268435456):w64 (a-b)=a-b∧w64 ((a-b)*(a-b))=(a-b)*(a-b)∧0≤(a-b)*(a-b)∧(a-b)*(a-b)≤288230376151711744:=by
 have h:=Ari (a:=a-b) (m:=536870912) (by omega) (by omega)
 refine ⟨Bw (by omega) (by omega),Bw (by omega) (by omega),h.1,by omega⟩
theorem Arj {p q:Aa} (hp:okPt p=true) (hq:okPt q=true):w64 ((w64 ((w64 (p.X-q.X))*(w64 (p.X-q.X))))+(w64 ((w64 (p.Y-q.Y))*(w64 (p.Y-q.Y)))))=sq p q:=by
 have h1:=okPt_rng hp
 have h2:=okPt_rng hq
 obtain ⟨a1,a2,a3,a4⟩:=sq_w (a:=p.X) (b:=q.X) (by omega) (by omega)
 obtain ⟨b1,b2,b3,b4⟩:=sq_w (a:=p.Y) (b:=q.Y) (by omega) (by omega)
 rw [a1,b1,a2,b2]
 exact Bw (by omega) (by omega)
theorem Apv (p q:Aa):sq p q=sq q p:=by
 have h:∀ a b:Int,(a-b)*(a-b)=(b-a)*(b-a):=fun a b=>by rw [← Int.neg_mul_neg,Int.neg_sub]
 unfold sq;rw [h p.X,h p.Y]
theorem sq_zero {p q:Aa}:sq p q≤0↔p.X=q.X∧p.Y=q.Y:=by
 have h1:∀ a:Int,0≤a*a:=fun a=>by
  rcases Int.le_total 0 a with h | h
  ·exact Int.mul_nonneg h h
  ·exact Int.mul_nonneg_of_nonpos_of_nonpos h h
 constructor
 ·intro h
  unfold sq at h
  have e1:=h1 (p.X-q.X)
  have e2:=h1 (p.Y-q.Y)
  have f1:(p.X-q.X)*(p.X-q.X)=0:=by omega
  have f2:(p.Y-q.Y)*(p.Y-q.Y)=0:=by omega
  rcases Int.mul_eq_zero.1 f1 with g | g <;> rcases Int.mul_eq_zero.1 f2 with k | k <;> omega
 ·rintro ⟨h,k⟩
  unfold sq;rw [h,k];simp
theorem Apw {p q:Aa} (hp:okPt p=true) (hq:okPt q=true) {m:Int} (h1:0≤m) (h2:m≤1000000):Ta p q m=some (decide (sq p q≤m*m)):=by
 have hm:w64 (m*m)=m*m:=by have:=Ari (a:=m) (m:=1000000) (by omega) h2;exact Bw (by omega) (by omega)
 simp only [Ta,Fk,Ai,Pz,Arj hp hq,hm]
theorem apart_eq {p q:Aa} (hp:okPt p=true) (hq:okPt q=true):Kr p q=some (sq p q):=by
 simp only [Kr,Arj hp hq]
/-! ### sunk points -/
def Akp (p:Aa) (r:Bi) (s:Bool) (q:Aa):Sum Bool (Sum Bool Bool) :=
 if q.Id=p.Id∨r.Link*r.Link < sq q p then .inl s else if q.Z.Lo-p.Z.Hi≤r.Low then .inr (.inr false) else .inl true
def Zj (l:List Aa) (r:Bi) (p:Aa):Bool:=match Ps (Akp p r) .inl l false with
 | .inl b=>b
 | .inr b=>b
theorem Apx {l:List Aa} (hl:validL l=true) {r:Bi} (hr:Nk r=true) {i:Nat} (hi:i < l.length):Qa l i r=some (Zj l r l[i]):=by
 obtain ⟨g1,g2,g3⟩:=Xa hl
 have hR:=Acy hr
 have hp:=g2 _ (List.getElem_mem hi)
 have key:=Qs l (fun (s:Bool) (j:Int)=>(s,j)) (Akp l[i] r) (Sum.inl:Bool→Sum Bool Bool) (Ll l i r) (fun _ _=>True) ?_ ?_ false trivial
 ·unfold Qa Zj
  rw [jn_d,key,Ai]
  cases Ps (Akp l[i] r) (Sum.inl:Bool→Sum Bool Bool) l false <;> rfl
 ·intro j hj s _
  have h0:(j:Int) < ((l.length:Nat):Int):=by omega
  have hq:=g2 _ (List.getElem_mem hj)
  have hne:(j:Int)=(i:Int)↔l[j].Id=l[i].Id:=by
   constructor
   ·intro h
    obtain rfl:j=i:=by omega
    rfl
   ·intro h
    have:=List.getElem_inj (xs:=l.map (·.Id)) (i:=j) (j:=i) (h₀:=by simpa using hj) (h₁:=by simpa using hi) g3
    simp only [List.getElem_map] at this
    have:=this.1 h
    omega
  have h1:=okPt_rng hp
  have h2:=okPt_rng hq
  have hw:w64 (l[j].Z.Lo-l[i].Z.Hi)=l[j].Z.Lo-l[i].Z.Hi:=Bw (by omega) (by omega)
  have hs:w64 ((j:Int)+1)=((j+1:Nat):Int):=Cw (by omega)
  unfold Akp
  simp only [Ll,if_pos h0,Bo hj,Bo hi,Ai,jn_d,Apw hp hq (show 0≤r.Link by omega) (show r.Link≤1000000 by omega),hw,hs,hne,Apv l[j] l[i]]
  by_cases c1:l[j].Id=l[i].Id
  ·left;exact ⟨s,by rw [if_pos (.inl c1)],by rw [if_pos c1];simp,trivial⟩
  ·rw [if_neg c1]
   by_cases c2:sq l[i] l[j]≤r.Link*r.Link
   ·have c3:¬ (l[j].Id=l[i].Id∨r.Link*r.Link < sq l[i] l[j]):=by rintro (h | h);exact c1 h;omega
    rw [if_neg c3]
    by_cases c4:l[j].Z.Lo-l[i].Z.Hi≤r.Low
    ·right;exact ⟨_,by rw [if_pos c4],by simp [c2,c4]⟩
    ·left;exact ⟨true,by rw [if_neg c4],by simp [c2,c4],trivial⟩
   ·left;exact ⟨s,by rw [if_pos (.inr (by omega))],by simp [c2],trivial⟩
 ·intro s _
  simp only [Ll,Int.lt_irrefl,if_false]
/-! ### filters -/
theorem Xb {α σ τ:Type} (g:σ→α→σ) (fin:σ→τ):∀ (l:List α) (s:σ),Ps (fun s x=>.inl (g s x)) fin l s=fin (l.foldl g s)
 | [],s=>rfl
 | x::r,s=>by simp only [Ps,List.foldl_cons];exact Xb g fin r (g s x)
theorem Aay {α:Type} (p:α→Bool):∀ (l acc:List α),l.foldl (fun s x=>if p x=true then s++[x] else s) acc=acc++l.filter p
 | [],acc=>by simp
 | x::r,acc=>by
  rw [List.foldl_cons,Aay p r]
  by_cases h:p x=true
  ·rw [if_pos h,List.filter_cons_of_pos h];simp
  ·rw [if_neg h,List.filter_cons_of_neg h]
/-- A loop that keeps some elements. -/
theorem lfix_filter {α:Type} (l:List α) (p:α→Bool) (B:List α × Int→Option (Sum (List α × Int) (List α)))
  (h1:∀ (j:Nat) (h:j < l.length) (s:List α),s.length≤j→B (s,j)=some (.inl (if p l[j]=true then s++[l[j]] else s,((j+1:Nat):Int)))) (h2:∀ s,B (s,l.length)=some (.inr s)) :
  lfix B ([],0)=some (l.filter p):=by
 have:=Qs l (fun (s:List α) (j:Int)=>(s,j)) (fun s x=>.inl (if p x=true then s++[x] else s)) (id:List α→List α) B (fun j s=>s.length≤j)
  (fun j hj s hC=>.inl ⟨_,rfl,h1 j hj s hC,by split <;> (first | omega | (simp;omega))⟩) (fun s _=>h2 s) [] (Nat.le_refl _)
 rw [this,Xb,Aay];rfl
def dryL (l:List Aa) (r:Bi):List Aa:=l.filter fun p=>!Zj l r p
def Ark (l:List Aa) (r:Bi):List Aa:=l.filter (Zj l r)
theorem Al2 {l:List Aa} (hl:validL l=true) {r:Bi} (hr:Nk r=true):Qb l r=some (dryL l r,Ark l r):=by
 obtain ⟨g1,g2,g3⟩:=Xa hl
 have key:=Qs l (fun (s:List Aa × List Aa) (j:Int)=>(s.1,s.2,j)) (fun s x=>.inl (if Zj l r x=true then (s.1,s.2++[x]) else (s.1++[x],s.2))) (id:_→List Aa × List Aa) (Iv l r)
  (fun j s=>s.1.length≤j∧s.2.length≤j) ?_ ?_ ([],[]) ⟨Nat.le_refl _,Nat.le_refl _⟩
 ·unfold Qb
  rw [jn_d]
  have key':lfix (Iv l r) ([],[],0)=_:=key
  rw [key',Ai,Xb]
  have:∀ (m a b:List Aa),m.foldl (fun (s:List Aa × List Aa) x=>if Zj l r x=true then (s.1,s.2++[x]) else (s.1++[x],s.2)) (a,b)=(a++m.filter (fun p=>!Zj l r p),b++m.filter (Zj l r)):=by
   intro m
   induction m with
   | nil=>intro a b;simp
   | cons x m ih =>
    intro a b
    rw [List.foldl_cons]
    by_cases h:Zj l r x=true
    ·rw [if_pos h,ih];simp [h]
    ·rw [if_neg h,ih];simp [h]
  rw [this]
  simp [dryL,Ark]
 ·intro j hj s hC
  left
  have h0:(j:Int) < ((l.length:Nat):Int):=by omega
  refine ⟨_,rfl,?_,by split <;> simp <;> omega⟩
  simp only [Iv,if_pos h0,Bo hj,Ai,jn_d,Apx hl hr hj,Cw (show j < 9223372036854775807 by omega)]
  by_cases h:Zj l r l[j]=true
  ·simp only [h,if_true,gd_t (show (s.2.length+1)*72≤140737488355328 by omega)]
  ·simp only [h,if_false,Bool.false_eq_true,gd_t (show (s.1.length+1)*72≤140737488355328 by omega)]
 ·intro s _
  simp only [Iv,Int.lt_irrefl,if_false,id]
/-! ### Ids in order -/
theorem sorted_sortI (l:List Int):(Gu l).Pairwise (·≤·):=by
 have:=List.pairwise_mergeSort (le:=fun x y:Int=>decide (x≤y)) (fun a b c h1 h2=>by simp at *;omega) (fun a b=>by simp;omega) l
 exact this.imp fun h=>by simpa using h
theorem perm_sortI (l:List Int):(Gu l).Perm l:=List.mergeSort_perm _ _
theorem Xc {l m:List Int} (h:l.Pairwise (·≤·)) (hp:l.Perm m):l=Gu m :=
 List.Perm.eq_of_pairwise (fun a b _ _ h h'=>by omega) h (sorted_sortI m) (hp.trans (perm_sortI m).symm)
theorem Adx {l m:List Int} (h:l.Perm m):Gu l=Gu m:=Xc (sorted_sortI l) ((perm_sortI l).trans h)
theorem rids_eq {l:List Aa} (h:l.length≤1024):Ni l=some (Gu (l.map (·.Id))):=by
 unfold Ni
 rw [jn_d]
 have inner:∀ (s:List Int) (j:Nat) (hj:j < l.length),s.length≤1024→∃ k:Nat,k≤s.length∧lfix (Jn (s,(j:Int)) l) ((s.length:Nat):Int)=some (k:Int)∧(∀ (i:Nat) (hi:i < s.length),k≤i→l[j].Id < s[i])∧(∀ (hk:0 < k) (hk':k-1 < s.length),s[k-1]≤l[j].Id):=by
  intro s j hj hs
  refine Exists.elim (Cu (B:=Jn (s,(j:Int)) l) (fun z=>z.toNat) (fun z=>∃ k:Nat,z=(k:Int)∧k≤s.length∧∀ (i:Nat) (hi:i < s.length),k≤i→l[j].Id < s[i])
   (fun z=>∃ k:Nat,z=(k:Int)∧k≤s.length∧(∀ (i:Nat) (hi:i < s.length),k≤i→l[j].Id < s[i])∧(∀ (hk:0 < k) (hk':k-1 < s.length),s[k-1]≤l[j].Id)) ?_ _ ⟨s.length,rfl,Nat.le_refl _,fun i hi hk=>by omega⟩) (fun t ht=>?_)
  ·rintro z ⟨k,rfl,hk,hall⟩
   simp only [Jn,jn_d]
   by_cases h0:0 < k
   ·have e1:w64 ((k:Int)-1)=((k-1:Nat):Int):=by rw [Bw (by omega) (by omega)];omega
    have hk1:k-1 < s.length:=by omega
    simp only [if_pos (show (0:Int) < (k:Int) by omega),e1,Bo hk1,Bo hj,Ai,decide_eq_true_eq]
    by_cases hc:l[j].Id < s[k-1]
    ·left
     refine ⟨((k-1:Nat):Int),by rw [if_pos hc],⟨k-1,rfl,by omega,fun i hi hki=>?_⟩,by omega⟩
     rcases Nat.lt_or_ge i k with h | h
     ·obtain rfl:i=k-1:=by omega
      exact hc
     ·exact hall i hi h
    ·right
     exact ⟨_,by rw [if_neg hc],k,rfl,hk,hall,fun _ _=>by omega⟩
   ·right
    exact ⟨_,by rw [if_neg (show ¬ (0:Int) < (k:Int) by omega)];simp,k,rfl,hk,hall,fun h=>absurd h h0⟩
  ·obtain ⟨h1,k,rfl,h3,h4,h5⟩:=ht
   exact ⟨k,h3,h1,h4,h5⟩
 refine Exists.elim (Cu (B:=Jo l) (fun z=>l.length-z.2.toNat) (fun z=>∃ j:Nat,z.2=(j:Int)∧j≤l.length∧z.1.length=j∧z.1.Perm ((l.take j).map (·.Id))∧z.1.Pairwise (·≤·))
  (fun t=>t=Gu (l.map (·.Id))) ?_ ([],0) ⟨0,rfl,Nat.zero_le _,rfl,by simp,by simp⟩) (fun t ht=>?_)
 ·rintro ⟨s,z⟩ ⟨j,rfl,hj,hlen,hp,hs⟩
  dsimp only at hlen hp hs
  rcases Nat.lt_or_ge j l.length with hlt | hge
  ·left
   obtain ⟨k,hk,hf,hgt,hle⟩:=inner s j hlt (by omega)
   have e1:subl s (k:Int) ((s.length:Nat):Int)=s.drop k:=by simp [subl]
   have e2:subl s 0 (k:Int)=s.take k:=by simp [subl]
   refine ⟨(s.take k++(l[j].Id::s.drop k),((j+1:Nat):Int)),?_,⟨j+1,rfl,hlt,?_,?_,?_⟩,by simp;omega⟩
   ·simp only [Jo,if_pos (show (j:Int) < ((l.length:Nat):Int) by omega),jn_d,hf,Ai,Bo hlt,e1,e2,Cw (show j < 9223372036854775807 by omega)]
    rw [gd_t ⟨by omega,by omega⟩,gd_t ⟨by omega,by omega⟩,gd_t (by simp;omega),gd_t (by simp;omega),gd_t (by simp)]
    rfl
   ·simp;omega
   ·have:(l.take (j+1)).map (·.Id)=(l.take j).map (·.Id)++[l[j].Id]:=by rw [List.take_add_one,List.getElem?_eq_getElem hlt,List.map_append];rfl
    rw [this]
    refine List.perm_middle.trans ((List.Perm.cons _ ?_).trans (List.perm_append_singleton _ _).symm)
    rw [List.take_append_drop];exact hp
   ·have hs1:(s.take k).Pairwise (·≤·):=hs.sublist (List.take_sublist _ _)
    have hs2:(s.drop k).Pairwise (·≤·):=hs.sublist (List.drop_sublist _ _)
    have hs12:∀ a∈s.take k,∀ b∈s.drop k,a≤b:=by
     have:=hs
     rw [← List.take_append_drop k s,List.pairwise_append] at this
     exact this.2.2
    have hx1:∀ a∈s.take k,a≤l[j].Id:=by
     intro a ha
     obtain ⟨i,hi,rfl⟩:=List.mem_take_iff_getElem.1 ha
     have hi':i < k:=by omega
     have h5:=hle (by omega) (by omega)
     rcases Nat.lt_or_ge i (k-1) with h6 | h6
     ·have:=List.pairwise_iff_getElem.1 hs i (k-1) (by omega) (by omega) h6
      omega
     ·have:i=k-1:=by omega
      subst this;exact h5
    have hx2:∀ b∈s.drop k,l[j].Id≤b:=by
     intro b hb
     obtain ⟨i,hi,rfl⟩:=List.mem_drop_iff_getElem.1 hb
     have:=hgt (k+i) (by omega) (by omega)
     omega
    rw [List.pairwise_append]
    refine ⟨hs1,List.pairwise_cons.2 ⟨hx2,hs2⟩,fun a ha b hb=>?_⟩
    rcases List.mem_cons.1 hb with rfl | hb
    ·exact hx1 a ha
    ·exact hs12 a ha b hb
  ·right
   obtain rfl:j=l.length:=by omega
   refine ⟨s,by simp only [Jo,Int.lt_irrefl,if_false],?_⟩
   rw [List.take_length] at hp
   exact Xc hs hp
 ·rw [ht.1,Ai,ht.2]
end Go.Proofs.YtbkobeeileemjaaGreat.X
/- Plain laws: the lowest ones of groups, seeds. -/
namespace Go.Proofs.YtbkobeeileemjaaGreat.X
open Go Go.RowKit
def lowB (p q:Aa):Bool:=decide (p.Z.Hi < q.Z.Hi∨p.Z.Hi=q.Z.Hi∧p.Id < q.Id)
theorem Ane (p q:Aa):Rq p q=some (lowB p q):=by
 simp only [Rq,jn_d,lowB];grind
theorem Ajc {p q r:Aa} (h:lowB p q=true) (h':lowB q r=true):lowB p r=true:=by
 simp only [lowB,decide_eq_true_eq] at *;omega
theorem Ajd {p q:Aa} (h:lowB p q=false) (h':lowB q p=false):p.Id=q.Id:=by
 simp only [lowB,decide_eq_false_iff_not] at *;omega
theorem Ahr (p:Aa):lowB p p=false:=by simp [lowB]
instance:DecidableEq Ad:=fun a b=>by
 rcases a with ⟨x,y⟩;rcases b with ⟨u,v⟩
 exact decidable_of_iff (x=u∧y=v) (by simp)
/-- Of those with one key the lowest ones. -/
def bot (kf:Aa→Ad) (l:List Aa):List Aa:=l.filter fun p=>l.all fun q=>decide (kf q≠kf p) || !lowB q p
theorem Agp {kf:Aa→Ad} {l:List Aa} {p:Aa}:p∈bot kf l↔p∈l∧∀ q∈l,kf q=kf p→lowB q p=false:=by
 unfold bot
 rw [List.mem_filter,List.all_eq_true]
 refine and_congr_right fun _=>⟨fun h q hq hk=>?_,fun h q hq=>?_⟩
 ·have:=h q hq
  simpa [hk] using this
 ·by_cases hk:kf q=kf p
  ·simp [hk,h q hq hk]
  ·simp [hk]
theorem nodup_of_ids {l:List Aa} (h:(l.map (·.Id)).Nodup):l.Nodup:=(List.pairwise_map.1 h).imp fun hne he=>hne (by rw [he])
theorem Ary {l:List Aa} (h:(l.map (·.Id)).Nodup) {p q:Aa} (hp:p∈l) (hq:q∈l) (he:p.Id=q.Id):p=q:=by
 obtain ⟨i,hi,rfl⟩:=List.getElem_of_mem hp
 obtain ⟨j,hj,rfl⟩:=List.getElem_of_mem hq
 have:=(List.getElem_inj (xs:=l.map (·.Id)) (i:=i) (j:=j) (h₀:=by simpa using hi) (h₁:=by simpa using hj) h).1 (by simpa using he)
 subst this;rfl
theorem Acz {α:Type} {l m:List α} (hl:l.Nodup) (hm:m.Nodup) (h:∀ x,x∈l↔x∈m):l.Perm m:=(List.perm_ext_iff_of_nodup hl hm).2 h
theorem Hg {α:Type} {l:List α} {j:Nat} (hj:j < l.length) {x:α}:x∈l.take (j+1)↔x∈l.take j∨x=l[j]:=by
 rw [List.take_add_one,List.getElem?_eq_getElem hj]
 show x∈l.take j++[l[j]]↔_
 rw [List.mem_append,List.mem_singleton]
/-- A loop that folds with steps that may fail. -/
theorem Aje {α σ:Type} (l:List α) (st:σ→α→Option σ) (B:σ × Int→Option (Sum (σ × Int) σ))
  (h1:∀ (j:Nat) (h:j < l.length) s,B (s,j)=bnd (st s l[j]) fun s'=>some (.inl (s',((j+1:Nat):Int)))) (h2:∀ s,B (s,l.length)=some (.inr s)) (s0:σ) :
  lfix B (s0,0)=l.foldlM st s0:=by
 have key:∀ (m k:Nat) (s:σ),k≤l.length→l.length-k=m→lfix B (s,(k:Int))=(l.drop k).foldlM st s:=by
  intro m
  induction m with
  | zero =>
   intro k s hk hm
   obtain rfl:k=l.length:=by omega
   rw [Cj,h2 s]
   simp
  | succ m ih =>
   intro k s hk hm
   have hlt:k < l.length:=by omega
   rw [Cj,List.drop_eq_getElem_cons hlt,h1 k hlt,List.foldlM_cons]
   cases hs:st s l[k] with
   | none=>rfl
   | some s'=>rw [Ai];exact ih (k+1) s' (by omega) (by omega)
 exact key l.length 0 s0 (Nat.zero_le _) rfl
theorem Afy {σ:Type} (kf:Aa→Ad) (ky:Aa→Option Ad) (st:σ→Aa→Option σ) (l:List Aa) (ys:σ) (hn:l.length≤1024) (hid:(l.map (·.Id)).Nodup)
  (hk:∀ p∈l,ky p=some (kf p)∧-268435456≤(kf p).X∧(kf p).X≤268435456∧-268435456≤(kf p).Y∧(kf p).Y≤268435456) :
  ∃ L:List Aa,L.Perm (bot kf l)∧Hr ky st l ys=L.foldlM st ys:=by
 let Good (j:Nat) (m:List (Ad × Aa)) (ks:List Ad):Prop:=Dx m∧ks.Nodup∧ks.length≤j∧m.length≤j∧∀ k,match mget m k with
  | none=>k ∉ ks∧∀ q∈l.take j,kf q≠k
  | some p=>k∈ks∧p∈l.take j∧kf p=k∧∀ q∈l.take j,kf q=k→lowB q p=false
 refine Exists.elim (Cu (B:=Hc l ky) (fun z=>l.length-z.2.2.toNat) (fun z=>∃ j:Nat,z.2.2=(j:Int)∧j≤l.length∧Good j z.1 z.2.1)
  (fun t=>Good l.length t.1 t.2) ?_ ([],[],0) ⟨0,rfl,Nat.zero_le _,List.Pairwise.nil,by simp,Nat.le_refl _,Nat.le_refl _,fun k=>by simp [mget]⟩) (fun t ht=>?_)
 ·rintro ⟨m,ks,z⟩ ⟨j,rfl,hj,hok,hnd,hkl,hml,hG⟩
  dsimp only at hok hnd hkl hml hG
  rcases Nat.lt_or_ge j l.length with hlt | hge
  ·left
   have hx:=hk _ (List.getElem_mem hlt)
   have hr:(-9223372036854775808≤(kf l[j]).X∧(kf l[j]).X≤9223372036854775807)∧(-9223372036854775808≤(kf l[j]).Y∧(kf l[j]).Y≤9223372036854775807):=by omega
   have hw:w64 ((j:Int)+1)=((j+1:Nat):Int):=Cw (by omega)
   have hGj:=hG (kf l[j])
   have put:∀ ks',ks'.Nodup→ks'.length≤j+1→(∀ k,k∈ks'↔k∈ks∨k=kf l[j])→(∀ q∈l.take j,kf q=kf l[j]→lowB q l[j]=false)→Good (j+1) (mput m (kf l[j]) l[j]) ks':=by
    intro ks' h1 h2 h3 h4
    refine ⟨hok.put _ _,h1,h2,?_,fun k=>?_⟩
    ·unfold mput
     have:(mdel m (kf l[j])).length≤m.length:=List.length_filter_le _ _
     rw [List.length_cons]
     omega
    by_cases he:kf l[j]=k
    ·rw [Mx hok,if_pos he.symm]
     refine ⟨(h3 k).2 (.inr he.symm),(Hg hlt).2 (.inr rfl),he,fun q hq hqk=>?_⟩
     rcases (Hg hlt).1 hq with hq | rfl
     ·exact h4 q hq (by rw [hqk,he])
     ·exact Ahr _
    ·rw [Mx hok,if_neg (fun e=>he e.symm)]
     have hGk:=hG k
     cases hm:mget m k with
     | none =>
      rw [hm] at hGk
      refine ⟨fun h=>?_,fun q hq=>?_⟩
      ·rcases (h3 k).1 h with h | h
       ·exact hGk.1 h
       ·exact he h.symm
      ·rcases (Hg hlt).1 hq with hq | rfl
       ·exact hGk.2 q hq
       ·exact he
     | some p =>
      rw [hm] at hGk
      refine ⟨(h3 k).2 (.inl hGk.1),(Hg hlt).2 (.inl hGk.2.1),hGk.2.2.1,fun q hq hqk=>?_⟩
      rcases (Hg hlt).1 hq with hq | rfl
      ·exact hGk.2.2.2 q hq hqk
      ·exact absurd hqk he
   simp only [Hc,if_pos (show (j:Int) < ((l.length:Nat):Int) by omega),jn_d,Bo hlt,Ai,hx.1,gd_t hr,gd_t (show m.length < 9223372036854775807 by omega),hw]
   cases hm:mget m (kf l[j]) with
   | none =>
    rw [hm] at hGj
    refine ⟨(mput m (kf l[j]) l[j],ks++[kf l[j]],((j+1:Nat):Int)),by simp [gd_t (show (ks.length+1)*16≤140737488355328 by omega)],⟨j+1,rfl,hlt,put _ ?_ (by simp;omega) (by simp) (fun q hq hqk=>absurd hqk (hGj.2 q hq))⟩,by simp;omega⟩
    rw [List.nodup_append]
    exact ⟨hnd,by simp,fun a ha b hb=>by simp at hb;subst hb;intro e;subst e;exact hGj.1 ha⟩
   | some p =>
    rw [hm] at hGj
    obtain ⟨g1,g2,g3,g4⟩:=hGj
    simp only [Option.getD_some,Option.isSome_some,if_true,Ane,Ai]
    by_cases hl:lowB l[j] p=true
    ·refine ⟨(mput m (kf l[j]) l[j],ks,((j+1:Nat):Int)),by simp [hl],⟨j+1,rfl,hlt,put _ hnd (Nat.le_succ_of_le hkl) (fun k=>⟨.inl,fun h=>h.elim id fun h=>by rw [h];exact g1⟩) (fun q hq hqk=>?_)⟩,by simp;omega⟩
     cases hq2:lowB q l[j] with
     | false=>rfl
     | true=>have:=Ajc hq2 hl;rw [g4 q hq hqk] at this;cases this
    ·refine ⟨(m,ks,((j+1:Nat):Int)),by simp [hl],⟨j+1,rfl,hlt,hok,hnd,Nat.le_succ_of_le hkl,Nat.le_succ_of_le hml,fun k=>?_⟩,by simp;omega⟩
     have hGk:=hG k
     cases hmk:mget m k with
     | none =>
      rw [hmk] at hGk
      refine ⟨hGk.1,fun q hq=>?_⟩
      rcases (Hg hlt).1 hq with hq | rfl
      ·exact hGk.2 q hq
      ·intro e;rw [e] at hm;rw [hm] at hmk;cases hmk
     | some p' =>
      rw [hmk] at hGk
      refine ⟨hGk.1,(Hg hlt).2 (.inl hGk.2.1),hGk.2.2.1,fun q hq hqk=>?_⟩
      rcases (Hg hlt).1 hq with hq | rfl
      ·exact hGk.2.2.2 q hq hqk
      ·rw [hqk] at hm;rw [hm] at hmk
       obtain rfl:=Option.some.inj hmk
       simpa using hl
  ·right
   obtain rfl:j=l.length:=by omega
   exact ⟨(m,ks),by simp only [Hc,Int.lt_irrefl,if_false],hok,hnd,hkl,hml,hG⟩
 ·obtain ⟨h1,hok,hnd,hkl,hml,hG⟩:=ht
  obtain ⟨m,ks⟩:=t
  dsimp only at hnd hkl hml hG
  rw [List.take_length] at hG
  have some_of:∀ k∈ks,∃ p,mget m k=some p∧p∈l∧kf p=k∧∀ q∈l,kf q=k→lowB q p=false:=by
   intro k hk'
   have:=hG k
   cases hm:mget m k with
   | none=>rw [hm] at this;exact absurd hk' this.1
   | some p=>rw [hm] at this;exact ⟨p,rfl,this.2⟩
  refine ⟨ks.map fun k=>(mget m k).getD ⟨0,0,0,⟨0,0⟩,0,0,0,0⟩,Acz ?_ ((nodup_of_ids hid).filter _) fun p=>?_,?_⟩
  ·refine List.pairwise_map.2 (hnd.imp_of_mem fun {a b} ha hb hne he=>hne ?_)
   obtain ⟨p,e1,_,e2,_⟩:=some_of a ha
   obtain ⟨q,f1,_,f2,_⟩:=some_of b hb
   rw [e1,f1] at he
   simp only [Option.getD_some] at he
   rw [← e2,← f2,he]
  ·show _↔p∈bot kf l
   rw [Agp,List.mem_map]
   constructor
   ·rintro ⟨k,hk',rfl⟩
    obtain ⟨p,e1,e2,e3,e4⟩:=some_of k hk'
    rw [e1,Option.getD_some]
    exact ⟨e2,fun q hq hqk=>e4 q hq (by rw [hqk,e3])⟩
   ·rintro ⟨hp,hlow⟩
    have:=hG (kf p)
    cases hm:mget m (kf p) with
    | none=>rw [hm] at this;exact absurd rfl (this.2 p hp)
    | some p' =>
     rw [hm] at this
     obtain ⟨g1,g2,g3,g4⟩:=this
     refine ⟨kf p,g1,?_⟩
     rw [hm,Option.getD_some]
     exact Ary hid g2 hp (Ajd (hlow p' g2 g3) (g4 p hp rfl))
  ·unfold Hr
   rw [jn_d,h1,Ai]
   dsimp only
   have h2:=Aje (ks.map fun k=>(mget m k).getD ⟨0,0,0,⟨0,0⟩,0,0,0,0⟩) st (Gm (m,ks) st) ?_ ?_ ys
   ·rw [h2]
    cases List.foldlM st ys (ks.map fun k=>(mget m k).getD ⟨0,0,0,⟨0,0⟩,0,0,0,0⟩) <;> rfl
   ·intro j hj s
    have hj':j < ks.length:=by simpa using hj
    obtain ⟨p,e1,e2,e3,e4⟩:=some_of _ (List.getElem_mem hj')
    have hx:=hk p e2
    rw [e3] at hx
    simp only [Gm,if_pos (show (j:Int) < ((ks.length:Nat):Int) by omega),Bo hj',Ai,gd_t (show (-9223372036854775808≤(ks[j]).X∧(ks[j]).X≤9223372036854775807)∧(-9223372036854775808≤(ks[j]).Y∧(ks[j]).Y≤9223372036854775807) by omega),List.getElem_map,Cw (show j < 9223372036854775807 by omega)]
   ·intro s
    simp only [Gm,List.length_map,Int.lt_irrefl,if_false]
theorem Aaz:∀ (l acc:List Aa),acc.length+l.length≤1024→l.foldlM Af7 acc=some (acc++l)
 | [],acc,_=>by simp
 | x::r,acc,h=>by
  simp only [List.length_cons] at h
  rw [List.foldlM_cons,Af7,gd_t (by omega)]
  show List.foldlM Af7 (acc++[x]) r=_
  rw [Aaz r _ (by simp;omega)];simp
theorem Aa0:∀ (l:List Aa) (acc:List Int),acc.length+l.length≤1024→l.foldlM Af8 acc=some (acc++l.map (·.Id))
 | [],acc,_=>by simp
 | x::r,acc,h=>by
  simp only [List.length_cons] at h
  rw [List.foldlM_cons,Af8,gd_t (by omega)]
  show List.foldlM Af8 (acc++[x.Id]) r=_
  rw [Aa0 r _ (by simp;omega)];simp
/-! ### the candidates -/
def plF (p:Aa):Ad:=⟨p.X,p.Y⟩
def Ahs (l:List Aa):List Aa:=l.filter fun p=>decide (p.Num=p.Of)
structure Fit (l:List Aa):Prop where
 n:l.length≤1024
 ok:∀ p∈l,okPt p=true
 id:(l.map (·.Id)).Nodup
theorem Fit.of {l:List Aa} (h:validL l=true):Fit l:=by obtain ⟨h1,h2,h3⟩:=Xa h;exact ⟨h1,h2,h3⟩
theorem Fit.filter {l:List Aa} (h:Fit l) (p:Aa→Bool):Fit (l.filter p) :=
 ⟨Nat.le_trans (List.length_filter_le _ _) h.n,fun q hq=>h.ok q (List.mem_filter.1 hq).1,h.id.sublist (List.Sublist.map _ (List.filter_sublist))⟩
theorem Fit.perm {l m:List Aa} (h:Fit l) (hp:l.Perm m):Fit m:=⟨hp.length_eq ▸ h.n,fun q hq=>h.ok q (hp.mem_iff.2 hq),(hp.map _).nodup_iff.1 h.id⟩
theorem Anf {kf:Aa→Ad} {l m:List Aa} (hl:l.Nodup) (h:l.Perm m):(bot kf l).Perm (bot kf m) :=
 Acz (hl.filter _) ((h.nodup_iff.1 hl).filter _) fun p=>by rw [Agp,Agp];simp only [h.mem_iff]
theorem Ang {l:List Aa} (h:Fit l):∃ L,L.Perm (bot plF (Ahs l))∧Rk l=some L:=by
 have hf:Fit (Ahs l):=h.filter _
 obtain ⟨L,h1,h2⟩:=Afy plF Fk Af7 (Ahs l) [] hf.n hf.id (fun p hp=>⟨rfl,by have:=okPt_rng (hf.ok p hp);simp only [plF];omega⟩)
 refine ⟨L,h1,?_⟩
 unfold Rk
 rw [jn_d,lfix_filter l (fun p=>decide (p.Num=p.Of)) (Mu l) ?_ ?_,Ai]
 ·show bnd (Uz Fk (Ahs l)) _=_
  have hlen:L.length≤1024:=by rw [h1.length_eq];exact Nat.le_trans (List.length_filter_le _ _) hf.n
  unfold Uz
  rw [h2,Aaz L [] (by simpa using hlen),Ai];rfl
 ·intro j hj s hs
  have:=h.n
  simp only [Mu,if_pos (show (j:Int) < ((l.length:Nat):Int) by omega),jn_d,Bo hj,Ai,Cw (show j < 9223372036854775807 by omega),gd_t (show (s.length+1)*72≤140737488355328 by omega),decide_eq_true_eq]
  split <;> rfl
 ·intro s
  simp only [Mu,Int.lt_irrefl,if_false]
def Akq (l:List Aa) (r:Bi):List Aa:=bot plF (Ahs (dryL l r))
theorem Apy {l:List Aa} (hl:validL l=true) {r:Bi} (hr:Nk r=true):∃ L,L.Perm (Akq l r)∧Ke l r=some L:=by
 have hf:Fit (dryL l r):=(Fit.of hl).filter _
 obtain ⟨L,h1,h2⟩:=Ang hf
 exact ⟨L,h1,by simp only [Ke,Al2 hl hr,Ai,h2]⟩
/-! ### cells -/
theorem Akr {n c k r:Int} (hc:0 < c) (h:n=c*k+r) (h0:0≤r) (h1:r < c):n / c=k:=by
 rw [h,Int.add_comm,Int.add_mul_ediv_left r k (by omega),Int.ediv_eq_zero_of_lt h0 h1,Int.zero_add]
theorem Aa1 {n c:Int} (hc:0 < c) (h:-268435456≤n∧n≤268435456):-268435456≤n / c∧n / c≤268435456:=by
 refine ⟨?_,?_⟩
 ·rw [Int.le_ediv_iff_mul_le hc]
  have:-268435456*c≤-268435456*1:=Int.mul_le_mul_of_nonpos_left (by omega) (by omega)
  omega
 ·rcases Int.le_total 0 n with h0 | h0
  ·have:=Int.ediv_le_self c h0;omega
  ·have:n / c≤0:=Int.ediv_nonpos_of_nonpos_of_neg h0 (by omega)
   omega
theorem Al3 {n c:Int} (hn:n < 0) (hc:0 < c):Int.tdiv n c = -((-n) / c)∧Int.tmod n c = -((-n) % c):=by
 have h1:Int.tdiv (-n) c=(-n) / c:=Int.tdiv_eq_ediv_of_nonneg (by omega)
 have h2:Int.tmod (-n) c=(-n) % c:=Int.tmod_eq_emod_of_nonneg (by omega)
 rw [Int.neg_tdiv] at h1
 rw [Int.neg_tmod] at h2
 exact ⟨by omega,by omega⟩
theorem Aht {n c:Int} (h:-268435456≤n∧n≤268435456) (hc:1≤c∧c≤10000000):Pk n c=some (n / c):=by
 have hr:=Aa1 (c:=c) (by omega) h
 simp only [Pk,gd_t (show c≠0 by omega),jn_d]
 rcases Int.lt_or_le n 0 with h0 | h0
 ·obtain ⟨e1,e2⟩:=Al3 h0 (show 0 < c by omega)
  have e3:=Int.mul_ediv_add_emod (-n) c
  have e4:=Int.emod_nonneg (-n) (show c≠0 by omega)
  have e5:=Int.emod_lt_of_pos (-n) (show 0 < c by omega)
  have hq:=Aa1 (c:=c) (by omega) (show -268435456≤-n∧-n≤268435456 by omega)
  rw [e1,e2,Bw (x:=-((-n) / c)) (by omega) (by omega)]
  by_cases hz:(-n) % c=0
  ·rw [if_neg (by omega)]
   rw [Akr (n:=n) (c:=c) (k:=-((-n) / c)) (r:=0) (by omega) (by rw [Int.mul_neg];omega) (by omega) (by omega)]
  ·rw [if_pos (by omega),Bw (by omega) (by omega)]
   rw [Akr (n:=n) (c:=c) (k:=-((-n) / c)-1) (r:=c-(-n) % c) (by omega) (by rw [Int.mul_sub,Int.mul_neg,Int.mul_one];omega) (by omega) (by omega)]
 ·rw [Int.tdiv_eq_ediv_of_nonneg h0,Int.tmod_eq_emod_of_nonneg h0,if_neg (by have:=Int.emod_nonneg n (show c≠0 by omega);omega),Bw (by omega) (by omega)]
def ceF (c:Int) (p:Aa):Ad:=⟨p.X / c,p.Y / c⟩
def Aks (l:List Aa) (r:Bi):List Int:=Gu ((bot (ceF r.Cell) (Akq l r)).map (·.Id))
theorem Fit.cand {l:List Aa} (hl:validL l=true) {r:Bi}:Fit (Akq l r):=(((Fit.of hl).filter _).filter _).filter _
theorem Anh {m:List Aa} (hm:Fit m) {r:Bi} (hr:Nk r=true):Tx m r=some (Gu ((bot (ceF r.Cell) m).map (·.Id))):=by
 have hR:=Acy hr
 obtain ⟨L,h1,h2⟩:=Afy (ceF r.Cell) (fun p=>Jw p r) Af8 m [] hm.n hm.id (fun p hp=>by
  have:=okPt_rng (hm.ok p hp)
  refine ⟨by simp only [Jw,Aht (show -268435456≤p.X∧p.X≤268435456 by omega) (show 1≤r.Cell∧r.Cell≤10000000 by omega),Aht (show -268435456≤p.Y∧p.Y≤268435456 by omega) (show 1≤r.Cell∧r.Cell≤10000000 by omega),Ai,ceF],?_⟩
  have e1:=Aa1 (c:=r.Cell) (by omega) (show -268435456≤p.X∧p.X≤268435456 by omega)
  have e2:=Aa1 (c:=r.Cell) (by omega) (show -268435456≤p.Y∧p.Y≤268435456 by omega)
  simp only [ceF];omega)
 have hlen:L.length≤1024:=by rw [h1.length_eq];exact Nat.le_trans (List.length_filter_le _ _) hm.n
 unfold Tx
 rw [h2,Aa0 L [] (by simpa using hlen),Ai,gd_t (by simp;omega)]
 simp only [List.nil_append]
 rw [Adx (h1.map _)]
theorem Ani (l:List Aa) (r:Bi):Mv l r=some (if Nk r=true then (if validL l=true then (Aks l r,0) else ([],70)) else ([],71)):=by
 simp only [Mv,Ajb,Ai]
 by_cases hr:Nk r=true
 ·by_cases hl:validL l=true
  ·obtain ⟨L,h1,h2⟩:=Apy hl hr
   have hc:=Fit.cand hl (r:=r)
   simp only [hr,hl,if_true,h2,Ai,Anh (hc.perm h1.symm) hr,Aks]
   rw [Adx ((Anf (nodup_of_ids (hc.perm h1.symm).id) h1).map _)]
  ·simp [hr,hl]
 ·simp [hr]
end Go.Proofs.YtbkobeeileemjaaGreat.X
/- Plain laws: rings; the laws' own check; LabelWithin, LabelPoints. -/
namespace Go.Proofs.YtbkobeeileemjaaGreat.X
open Go Go.RowKit
/-- Twice the area of a triangle. -/
def cr (a b c:Ad):Int:=(b.X-a.X)*(c.Y-a.Y)-(b.Y-a.Y)*(c.X-a.X)
theorem Ady {p:Ad} (h:okXY p=true):-268435456≤p.X∧p.X≤268435456∧-268435456≤p.Y∧p.Y≤268435456:=by
 simpa only [okXY,decide_eq_true_eq] using h
theorem Akt {a b:Int} {m:Int} (ha:-m≤a∧a≤m) (hb:-m≤b∧b≤m):-(m*m)≤a*b∧a*b≤m*m:=by
 have hm:0≤m:=by omega
 rcases Int.le_total 0 a with h | h <;> rcases Int.le_total 0 b with k | k
 ·have h1:=Int.mul_le_mul ha.2 hb.2 k hm
  have h2:=Int.mul_nonneg h k
  omega
 ·have h1:=Int.mul_le_mul (a:=a) (b:=-b) (c:=m) (d:=m) ha.2 (by omega) (by omega) hm
  have h2:=Int.mul_nonneg (a:=a) (b:=-b) h (by omega)
  rw [Int.mul_neg] at h1 h2
  omega
 ·have h1:=Int.mul_le_mul (a:=-a) (b:=b) (c:=m) (d:=m) (by omega) hb.2 k hm
  have h2:=Int.mul_nonneg (a:=-a) (b:=b) (by omega) k
  rw [Int.neg_mul] at h1 h2
  omega
 ·have h1:=Int.mul_le_mul (a:=-a) (b:=-b) (c:=m) (d:=m) (by omega) (by omega) (by omega) hm
  have h2:=Int.mul_nonneg (a:=-a) (b:=-b) (by omega) (by omega)
  rw [Int.neg_mul_neg] at h1 h2
  omega
theorem cr_w {a b c:Ad} (ha:okXY a=true) (hb:okXY b=true) (hc:okXY c=true) :
  w64 ((w64 ((w64 (b.X-a.X))*(w64 (c.Y-a.Y))))-(w64 ((w64 (b.Y-a.Y))*(w64 (c.X-a.X)))))=cr a b c:=by
 have h1:=Ady ha
 have h2:=Ady hb
 have h3:=Ady hc
 rw [Bw (x:=b.X-a.X) (by omega) (by omega),Bw (x:=c.Y-a.Y) (by omega) (by omega),Bw (x:=b.Y-a.Y) (by omega) (by omega),Bw (x:=c.X-a.X) (by omega) (by omega)]
 have e1:=Akt (a:=b.X-a.X) (b:=c.Y-a.Y) (m:=536870912) (by omega) (by omega)
 have e2:=Akt (a:=b.Y-a.Y) (b:=c.X-a.X) (m:=536870912) (by omega) (by omega)
 rw [Bw (x:=(b.X-a.X)*(c.Y-a.Y)) (by omega) (by omega),Bw (x:=(b.Y-a.Y)*(c.X-a.X)) (by omega) (by omega),Bw (by omega) (by omega)]
 rfl
theorem Apz (a b c:Ad):cr b a c = -cr a b c:=by unfold cr;grind
theorem turn_eq {a b c:Ad} (ha:okXY a=true) (hb:okXY b=true) (hc:okXY c=true):Oz a b c=some (Int.sign (cr a b c)):=by
 simp only [Oz,cr_w ha hb hc]
 rcases Int.lt_trichotomy (cr a b c) 0 with h | h | h
 ·rw [if_neg (by omega),if_pos h,Int.sign_eq_neg_one_of_neg h]
 ·rw [h];rfl
 ·rw [if_pos h,Int.sign_eq_one_of_pos h]
def onB (c:Ad) (s:Ad × Ad):Bool:=decide (cr s.1 s.2 c=0∧min s.1.X s.2.X≤c.X∧c.X≤max s.1.X s.2.X∧min s.1.Y s.2.Y≤c.Y∧c.Y≤max s.1.Y s.2.Y)
def croB (c:Ad) (s:Ad × Ad):Bool:=decide ((s.1.Y≤c.Y∧c.Y < s.2.Y∧0 < cr s.1 s.2 c)∨(c.Y < s.1.Y∧s.2.Y≤c.Y∧cr s.1 s.2 c < 0))
theorem Anj {x:Int}:0 < Int.sign x↔0 < x:=by
 rcases Int.lt_trichotomy x 0 with h | h | h
 ·rw [Int.sign_eq_neg_one_of_neg h];omega
 ·rw [h];simp
 ·rw [Int.sign_eq_one_of_pos h];omega
theorem sign_zero {x:Int}:Int.sign x=0↔x=0:=Int.sign_eq_zero_iff_zero
theorem Atd {a b c:Ad} (ha:okXY a=true) (hb:okXY b=true) (hc:okXY c=true):Xp a b c=some (onB c (a,b)):=by
 simp only [Xp,jn_d,turn_eq ha hb hc,Ai,Ss,sign_zero,onB,decide_eq_true_eq]
 by_cases h:cr a b c=0 <;> by_cases h2:(min a.X b.X≤c.X∧c.X≤max a.X b.X) <;> simp [h,h2]
 all_goals (try omega)
theorem Arz {a b c:Ad} (ha:okXY a=true) (hb:okXY b=true) (hc:okXY c=true):Oi a b c=some (croB c (a,b)):=by
 simp only [Oi,turn_eq ha hb hc,turn_eq hb ha hc,Ai,croB,Anj,Apz a b c]
 by_cases h1:c.Y < a.Y <;> by_cases h2:c.Y < b.Y <;> simp [h1,h2]
 all_goals (try omega)
 ·rw [if_neg (by omega)];simp;omega
 ·rw [if_pos (by omega)];simp;omega
/-- The sides from p along l. -/
def Pu (p:Ad):List Ad→List (Ad × Ad)
 | []=>[]
 | q::r=>(p,q)::Pu q r
def oddB {α:Type} (f:α→Bool):List α→Bool
 | []=>false
 | x::r=>f x != oddB f r
theorem Al4 {α:Type} (f:α→Bool) {l m:List α} (h:l.Perm m):oddB f l=oddB f m:=by
 induction h with
 | nil=>rfl
 | cons x _ ih=>simp only [oddB,ih]
 | swap x y l=>simp only [oddB];cases f x <;> cases f y <;> cases oddB f l <;> rfl
 | trans _ _ h1 h2=>rw [h1,h2]
/-- Whether a place lies within sides. -/
def insB (c:Ad) (S:List (Ad × Ad)):Bool:=S.any (onB c) || oddB (croB c) S
theorem Al5 {c:Ad} {S S':List (Ad × Ad)} (h:S.Perm S'):insB c S=insB c S':=by
 unfold insB
 rw [Al4 _ h]
 have:S.any (onB c)=S'.any (onB c):=by
  rw [Bool.eq_iff_iff,List.any_eq_true,List.any_eq_true]
  simp only [h.mem_iff]
 rw [this]
def Pv:List Ad→List (Ad × Ad)
 | []=>[]
 | a::r=>Pu a (r++[a])
theorem Afz (p:Ad):∀ (l m:List Ad),Pu p (l++m)=Pu p l++Pu ((p::l).getLast (List.cons_ne_nil _ _)) m
 | [],m=>rfl
 | q::r,m=>by
  have:=Afz q r m
  simp only [List.cons_append,Pu,this]
  rw [List.getLast_cons (List.cons_ne_nil q r)]
def inF (c:Ad) (s:Bool × Ad) (q:Ad):Sum (Bool × Ad) (Sum Bool Bool):=if onB c (s.2,q)=true then .inr (.inr true) else .inl (if croB c (s.2,q)=true then !s.1 else s.1,q)
theorem Ank (c:Ad):∀ (l:List Ad) (s:Bool × Ad),Ps (inF c) (fun s=>(.inl s.1:Sum Bool Bool)) l s=if (Pu s.2 l).any (onB c)=true then .inr true else .inl (s.1 != oddB (croB c) (Pu s.2 l))
 | [],s=>by simp [Ps,Pu,oddB]
 | q::r,s=>by
  unfold Ps inF
  by_cases h:onB c (s.2,q)=true
  ·rw [if_pos h];simp [Pu,h]
  ·rw [if_neg h]
   dsimp only
   have ih:=Ank c r (if croB c (s.2,q)=true then !s.1 else s.1,q)
   unfold inF at ih
   rw [ih]
   have h':onB c (s.2,q)=false:=by simpa using h
   simp only [Pu,List.any_cons,h',Bool.false_or,oddB]
   cases croB c (s.2,q) <;> cases s.1 <;> cases oddB (croB c) (Pu q r) <;> rfl
theorem Al6 {l:List Ad} (h1:∀ p∈l,okXY p=true) (h0:0 < l.length) (h2:l.length≤1000) {c:Ad} (hc:okXY c=true):Qc l c=some (insB c (Pv l)):=by
 have hlast:l.length-1 < l.length:=by omega
 have hw:w64 ((((l.length:Nat):Int))-1)=((l.length-1:Nat):Int):=by rw [Bw (by omega) (by omega)];omega
 unfold Qc
 rw [hw,Bo hlast,Ai,jn_d]
 have key:=Qs l (fun (s:Bool × Ad) (j:Int)=>(s.1,s.2.X,s.2.Y,j)) (inF c) (fun s=>(.inl s.1:Sum Bool Bool)) (Iw l c) (fun _ s=>okXY s.2=true) ?_ ?_ (false,l[l.length-1]) (h1 _ (List.getElem_mem hlast))
 ·have key':lfix (Iw l c) (false,l[l.length-1].X,l[l.length-1].Y,0)=_:=key
  rw [key',Ai,Ank]
  have hp:(Pu l[l.length-1] l).Perm (Pv l):=by
   cases l with
   | nil=>simp at h0
   | cons a r =>
    show (Pu _ (a::r)).Perm (Pu a (r++[a]))
    rw [Afz]
    have:(a::r)[(a::r).length-1]=(a::r).getLast (List.cons_ne_nil _ _):=by rw [List.getLast_eq_getElem]
    rw [this]
    exact (List.perm_append_singleton _ _).symm
  have e:=Al5 (c:=c) hp
  unfold insB at e ⊢
  rw [← e]
  cases (Pu l[l.length-1] l).any (onB c) <;> simp
 ·rintro j hj ⟨b,p⟩ hp
  dsimp only at hp
  have hq:=h1 _ (List.getElem_mem hj)
  have hb:(⟨p.X,p.Y⟩:Ad)=p:=rfl
  unfold inF
  simp only [Iw,if_pos (show (j:Int) < ((l.length:Nat):Int) by omega),jn_d,Bo hj,Ai,hb,Atd hp hq hc,Arz hp hq hc,Cw (show j < 9223372036854775807 by omega)]
  by_cases g:onB c (p,l[j])=true
  ·right;exact ⟨_,by rw [if_pos g],by rw [if_pos g]⟩
  ·left
   refine ⟨_,by rw [if_neg g],?_,hq⟩
   rw [if_neg g]
   by_cases g2:croB c (p,l[j])=true <;> simp [g2]
 ·intro s _
  simp only [Iw,Int.lt_irrefl,if_false]
def Ab5 (l:List Ad):Bool:=decide (3≤l.length∧l.length≤64) && l.all okXY
theorem Agq (l:List Ad):Lm l=some (Ab5 l):=by
 simp only [Lm,Ss,Ai,decide_eq_true_eq,jn_d,Ab5]
 by_cases h:(3:Int)≤((l.length:Nat):Int)∧((l.length:Nat):Int)≤64
 ·rw [if_pos h,decide_eq_true (show 3≤l.length∧l.length≤64 by omega),Bool.true_and]
  rw [Ye (β:=Unit) (γ:=Bool) l okXY (Hz l) () false ?_ ?_,Ai]
  ·by_cases hk:l.all okXY=true <;> simp [hk]
  ·intro j hj
   simp only [Hz,if_pos (show (j:Int) < ((l.length:Nat):Int) by omega),Bo hj,Ai,Ue,Cw (show j < 9223372036854775807 by omega)]
  ·simp only [Hz,Int.lt_irrefl,if_false]
 ·rw [if_neg h,decide_eq_false (show ¬ (3≤l.length∧l.length≤64) by omega),Bool.false_and]
def Adj (l:List Ad) (c:Ad):Bool × Int:=if Ab5 l=true then (if okXY c=true then (insB c (Pv l),0) else (false,11)) else (false,72)
theorem Ahu {l:List Ad} (h:Ab5 l=true):3≤l.length∧l.length≤64∧∀ p∈l,okXY p=true:=by
 simp only [Ab5,Bool.and_eq_true,decide_eq_true_eq,List.all_eq_true] at h
 exact ⟨h.1.1,h.1.2,h.2⟩
theorem Af0 (l:List Ad) (c:Ad):Ge l c=some (Adj l c):=by
 simp only [Ge,Agq,Ai,Ue,Adj]
 by_cases h:Ab5 l=true
 ·obtain ⟨h1,h2,h3⟩:=Ahu h
  by_cases hc:okXY c=true
  ·simp only [h,hc,if_true,Al6 h3 (by omega) (by omega) hc,Ai]
  ·simp [h,hc]
 ·simp [h]
end Go.Proofs.YtbkobeeileemjaaGreat.X
/- The laws' own check. -/
namespace Go.Proofs.YtbkobeeileemjaaGreat.X
open Go Go.RowKit
theorem many_eq (l:List Aa) (n:Int):Lq l n=some (decide (300 < l.length∨n < ((l.length:Nat):Int)∧validL l=true)):=by
 simp only [Lq,jn_d,rvalid_eq,Ai]
 by_cases h1:300 < l.length
 ·rw [if_pos (by omega)];simp [h1]
 ·rw [if_neg (by omega)]
  by_cases h2:n < ((l.length:Nat):Int)
  ·rw [if_pos h2];simp [h1,h2]
  ·rw [if_neg h2];simp [h1,h2]
def sqr:List Ad:=[⟨0,0⟩,⟨4,0⟩,⟨4,4⟩,⟨0,4⟩]
def pts3:List Aa:=[⟨1,0,0,⟨3,3⟩,0,1,1,0⟩,⟨2,5,5,⟨1,1⟩,0,1,1,0⟩,⟨3,12,0,⟨2,2⟩,0,1,1,0⟩]
def ter3:Bi:=⟨10,0,0,1,0,0,0,0,0,1⟩
theorem first_eq:Fv=some true:=by
 have e1:Adj sqr ⟨4,2⟩=(true,0):=by decide
 have e2:Adj sqr ⟨5,2⟩=(false,0):=by decide
 have e3:Aks pts3 ter3=[2,3]:=by
  have:(bot (ceF ter3.Cell) (Akq pts3 ter3)).map (·.Id)=[2,3]:=by decide
  unfold Aks
  rw [this]
  exact (Xc (by simp) (List.Perm.refl _)).symm
 have e4:Nk ter3=true:=by decide
 have e5:validL pts3=true:=by decide
 have f1:Ge sqr ⟨4,2⟩=some (true,0):=by rw [Af0,e1]
 have f2:Ge sqr ⟨5,2⟩=some (false,0):=by rw [Af0,e2]
 have f3:Mv pts3 ter3=some ([2,3],0):=by rw [Ani,if_pos e4,if_pos e5,e3]
 unfold Fv
 have g1:Ge ([(⟨0,0⟩:Ad),(⟨4,0⟩:Ad),(⟨4,4⟩:Ad),(⟨0,4⟩:Ad)]) (⟨4,2⟩:Ad)=some (true,0):=f1
 have g2:Ge ([(⟨0,0⟩:Ad),(⟨4,0⟩:Ad),(⟨4,4⟩:Ad),(⟨0,4⟩:Ad)]) (⟨5,2⟩:Ad)=some (false,0):=f2
 rw [g1,Ai,g2,Ai]
 show bnd (Mv pts3 ter3) _=_
 rw [f3,Ai]
 rfl
end Go.Proofs.YtbkobeeileemjaaGreat.X
/- The points with the Ids of a list, and their mesh. -/
namespace Go.Proofs.YtbkobeeileemjaaGreat
open Go Go.RowKit Go.Sort
theorem w1 {k n:Nat} (h:k < n) (hn:n≤1000000000):w64 ((k:Int)+1)=((k+1:Nat):Int):=by rw [Bw (by omega) (by omega)];omega
theorem has_eq {l:List Int} (hl:l.length≤1000000) (n:Int):Ks l n=some (decide (n∈l)):=by
 unfold Ks
 rw [jn_d]
 have:=Cu (B:=Mo l n) (fun s=>l.length-s.toNat) (fun s=>∃ k:Nat,k≤l.length∧s=(k:Int)∧n ∉ l.take k) (fun t=>(t = .inl ()∧n ∉ l)∨(t = .inr true∧n∈l)) (fun s hs=>by
  obtain ⟨k,hk,rfl,h⟩:=hs
  unfold Mo
  by_cases hk2:k < l.length
  ·rw [if_pos (by omega),Bo hk2,Ai]
   by_cases c:l[k]=n
   ·right
    rw [if_pos c]
    exact ⟨_,rfl,.inr ⟨rfl,c ▸ List.getElem_mem hk2⟩⟩
   ·left
    rw [if_neg c,w1 hk2 (by omega)]
    refine ⟨_,rfl,⟨k+1,hk2,rfl,fun g=>?_⟩,by omega⟩
    rw [List.take_succ_eq_append_getElem hk2,List.mem_append,List.mem_singleton] at g
    rcases g with g | g
    ·exact h g
    ·exact c g.symm
  ·right
   rw [if_neg (by omega)]
   have:k=l.length:=by omega
   subst this
   rw [List.take_length] at h
   exact ⟨_,rfl,.inl ⟨rfl,h⟩⟩) 0 ⟨0,by omega,rfl,by simp⟩
 obtain ⟨t,ht,g | g⟩:=this
 ·obtain ⟨rfl,g⟩:=g
  rw [ht,Ai]
  simp [g]
 ·obtain ⟨rfl,g⟩:=g
  rw [ht,Ai]
  simp [g]
/-- What is asked of the list of Ids. -/
def Zk (l:List Aa) (ids:List Int):Prop:=ids.Nodup∧∀ i∈ids,∃ p∈l,p.Id=i
noncomputable instance (l:List Aa) (ids:List Int):Decidable (Zk l ids):=Classical.propDecidable _
noncomputable def selL (l:List Aa) (ids:List Int):List Aa:=l.filter fun p=>decide (p.Id∈ids)
/-- The points with these Ids, in the order of their Ids. -/
noncomputable def Ahv (l:List Aa) (ids:List Int):List Aa:=Br Om (selL l ids)
variable {l:List Aa} {ids:List Int}
theorem Ahw (hl:X.Fit l):Agh l:=⟨hl.id,fun x hx=>by have:=X.okPt_rng (hl.ok x hx);omega⟩
theorem Al7 {m:List Aa} (h:Agh l) (hm:∀ x∈m,x∈l) (hn:(m.map (·.Id)).Nodup):Agh m:=⟨hn,fun x hx=>h.2 x (hm x hx)⟩
theorem Ar0 {out:List Aa} (hl:X.Fit l) (h1:out.map (·.Id)=ids) (h2:∀ p∈out,p∈l) (hn:ids.Nodup):out.Perm (selL l ids):=by
 have hon:out.Nodup:=X.nodup_of_ids (by rw [h1];exact hn)
 refine (List.perm_ext_iff_of_nodup hon ((X.nodup_of_ids hl.id).filter _)).2 fun p=>?_
 rw [List.mem_filter,decide_eq_true_eq]
 constructor
 ·intro hp
  exact ⟨h2 p hp,by rw [← h1];exact List.mem_map_of_mem hp⟩
 ·rintro ⟨hp,hi⟩
  rw [← h1,List.mem_map] at hi
  obtain ⟨q,hq,e⟩:=hi
  rw [← Ajw hl.id (h2 q hq) hp e]
  exact hq
theorem Anl {out:List Aa} (h:Agh out) (hp:out.Perm (selL l ids)):Br Om out=Ahv l ids :=
 Sn (totP out) (fun x hx=>⟨hx,h⟩) hp
/-! ### the program's list -/
theorem Anm (hl:X.Fit l):∃ m,lfix (Lk l) (([]:List (Int × Aa)),0)=some m∧Dx m∧∀ x p,mget m x=some p↔p∈l∧p.Id=x:=by
 have hn:=hl.n
 refine Cu (B:=Lk l) (fun s=>l.length-s.2.toNat) (fun s=>∃ k:Nat,k≤l.length∧s.2=(k:Int)∧Dx s.1∧s.1.length≤k∧∀ x p,mget s.1 x=some p↔p∈l.take k∧p.Id=x) _ (fun s hs=>?_) _ ⟨0,by omega,rfl,List.Pairwise.nil,by simp,fun x p=>by simp [Ah6]⟩
 obtain ⟨m,j⟩:=s
 obtain ⟨k,hk,rfl,h1,h2,h3⟩:=hs
 dsimp only at h1 h2 h3
 unfold Lk
 dsimp only
 by_cases hk2:k < l.length
 ·left
  have hr:=X.okPt_rng (hl.ok _ (List.getElem_mem hk2))
  rw [if_pos (by omega),Bo hk2,Ai,gd_t (by omega),gd_t (by omega),w1 hk2 (by omega)]
  refine ⟨_,rfl,⟨k+1,hk2,rfl,h1.put _ _,?_,fun x p=>?_⟩,by dsimp only;omega⟩
  ·dsimp only
   unfold mput
   have:(mdel m l[k].Id).length≤m.length:=List.length_filter_le _ _
   rw [List.length_cons]
   omega
  ·dsimp only
   rw [Mx h1,List.take_succ_eq_append_getElem hk2,List.mem_append,List.mem_singleton]
   by_cases e:x=l[k].Id
   ·rw [if_pos e]
    constructor
    ·intro g
     cases g
     exact ⟨.inr rfl,e.symm⟩
    ·rintro ⟨g | g,g2⟩
     ·rw [Ajw hl.id (List.mem_of_mem_take g) (List.getElem_mem hk2) (by omega)]
     ·rw [g]
   ·rw [if_neg e,h3]
    constructor
    ·rintro ⟨g,g2⟩
     exact ⟨.inl g,g2⟩
    ·rintro ⟨g | g,g2⟩
     ·exact ⟨g,g2⟩
     ·rw [g] at g2
      exact absurd g2.symm e
 ·right
  rw [if_neg (by omega)]
  have:k=l.length:=by omega
  subst this
  rw [List.take_length] at h3
  exact ⟨_,rfl,h1,h3⟩
theorem Ann (hl:X.Fit l) (hi:ids.length≤300) {m:List (Int × Aa)} (hm:Dx m) (hg:∀ x p,mget m x=some p↔p∈l∧p.Id=x) (hr:∀ i∈ids,-9223372036854775808≤i∧i≤9223372036854775807) :
  (∃ out:List Aa,lfix (Iu ids) (m,([]:List Aa),0)=some (.inl out)∧out.map (·.Id)=ids∧(∀ p∈out,p∈l)∧Zk l ids)∨(lfix (Iu ids) (m,([]:List Aa),0)=some (.inr ([],false))∧¬ Zk l ids):=by
 have:=Cu (B:=Iu ids) (fun s=>ids.length-s.2.2.toNat)
  (fun s=>∃ k:Nat,k≤ids.length∧s.2.2=(k:Int)∧Dx s.1∧s.2.1.map (·.Id)=ids.take k∧(∀ p∈s.2.1,p∈l)∧(ids.take k).Nodup∧∀ x p,mget s.1 x=some p↔p∈l∧p.Id=x∧x ∉ ids.take k)
  (fun t=>(∃ out:List Aa,t = .inl out∧out.map (·.Id)=ids∧(∀ p∈out,p∈l)∧Zk l ids)∨(t = .inr ([],false)∧¬ Zk l ids)) (fun s hs=>by
  obtain ⟨m,out,j⟩:=s
  obtain ⟨k,hk,rfl,h1,h2,h3,h4,h5⟩:=hs
  dsimp only at h1 h2 h3 h5
  unfold Iu
  dsimp only
  by_cases hk2:k < ids.length
  ·have ts:ids.take (k+1)=ids.take k++[ids[k]]:=List.take_succ_eq_append_getElem hk2
   have hl2:out.length=k:=by have:=congrArg List.length h2;rw [List.length_map,List.length_take] at this;omega
   have hrk:=hr _ (List.getElem_mem hk2)
   rw [if_pos (by omega),Bo hk2,Ai,gd_t hrk,Ai]
   rcases e:mget m ids[k] with _ | p
   ·right
    rw [if_neg (by simp)]
    refine ⟨_,rfl,.inr ⟨rfl,fun g=>?_⟩⟩
    obtain ⟨q,q1,q2⟩:=g.2 _ (List.getElem_mem hk2)
    have hno:ids[k] ∉ ids.take k:=fun hin=>by
     obtain ⟨i,hi',e'⟩:=List.getElem_of_mem hin
     rw [List.length_take] at hi'
     rw [List.getElem_take] at e'
     have:=List.pairwise_iff_getElem.1 g.1 i k (by omega) hk2 (by omega)
     exact this e'
    have:=(h5 ids[k] q).2 ⟨q1,q2,hno⟩
    rw [e] at this
    cases this
   ·left
    obtain ⟨p1,p2,p3⟩:=(h5 _ _).1 e
    rw [if_pos (by simp),gd_t hrk,gd_t (by omega),w1 hk2 (by omega)]
    refine ⟨_,rfl,⟨k+1,hk2,rfl,h1.del _,?_,fun q hq=>?_,?_,fun x q=>?_⟩,by dsimp only;omega⟩
    ·dsimp only
     rw [List.map_append,h2,ts]
     simp [p2]
    ·dsimp only at hq
     rcases List.mem_append.1 hq with hq | hq
     ·exact h3 q hq
     ·rw [List.mem_singleton] at hq
      subst hq
      exact p1
    ·rw [ts,List.nodup_append]
     refine ⟨h4,by simp,fun a ha b hb e=>?_⟩
     rw [List.mem_singleton] at hb
     subst hb;subst e
     exact p3 ha
    ·dsimp only
     rw [Rn h1,ts,List.mem_append,List.mem_singleton]
     by_cases c:x=ids[k]
     ·rw [if_pos c]
      exact ⟨fun g=>(by cases g),fun g=>absurd (.inr c) g.2.2⟩
     ·rw [if_neg c,h5]
      exact ⟨fun g=>⟨g.1,g.2.1,fun h=>h.elim g.2.2 c⟩,fun g=>⟨g.1,g.2.1,fun h=>g.2.2 (.inl h)⟩⟩
  ·right
   rw [if_neg (by omega)]
   have:k=ids.length:=by omega
   subst this
   rw [List.take_length] at h2 h4
   refine ⟨_,rfl,.inl ⟨out,rfl,h2,h3,h4,fun i hi=>?_⟩⟩
   rw [← h2,List.mem_map] at hi
   obtain ⟨p,hp,e⟩:=hi
   exact ⟨p,h3 p hp,e⟩) (m,[],0) ⟨0,by omega,rfl,hm,by simp,fun p hp=>(by cases hp),by simp,fun x p=>by rw [hg];simp⟩
 obtain ⟨t,ht,⟨out,rfl,g⟩ | ⟨rfl,g⟩⟩:=this
 ·exact .inl ⟨out,ht,g⟩
 ·exact .inr ⟨ht,g⟩
theorem Al8 (hl:X.Fit l) (hi:ids.length≤300) (hr:∀ i∈ids,-9223372036854775808≤i∧i≤9223372036854775807):Py l ids=some (if Zk l ids then (Ahv l ids,true) else ([],false)):=by
 obtain ⟨m,h1,h2,h3⟩:=Anm hl
 unfold Py
 rw [jn_d,h1,Ai]
 dsimp only
 rw [gd_t (by omega),jn_d]
 rcases Ann hl hi h2 h3 hr with ⟨out,g1,g2,g3,g4⟩ | ⟨g1,g2⟩
 ·rw [g1,Ai]
  dsimp only
  have ho:Agh out:=Al7 (Ahw hl) g3 (by rw [g2];exact g4.1)
  have hlen:out.length=ids.length:=by rw [← g2,List.length_map]
  rw [gd_t ⟨by omega,fun x hx=>⟨hx,ho⟩⟩,Anl ho (Ar0 hl g2 g3 g4.1),if_pos g4]
 ·rw [g1,Ai]
  dsimp only
  rw [if_neg g2]
/-! ### the document's list -/
theorem Ano (hi:ids.length≤300):(lfix (Fy ids) 0=some (.inl ())∧ids.Nodup)∨(lfix (Fy ids) 0=some (.inr ([],false))∧¬ ids.Nodup):=by
 have:=Cu (B:=Fy ids) (fun s=>ids.length-s.toNat) (fun s=>∃ k:Nat,k≤ids.length∧s=(k:Int)∧(ids.take k).Nodup) (fun t=>(t = .inl ()∧ids.Nodup)∨(t = .inr ([],false)∧¬ ids.Nodup)) (fun s hs=>by
  obtain ⟨k,hk,rfl,h⟩:=hs
  unfold Fy
  by_cases hk2:k < ids.length
  ·have ts:ids.take (k+1)=ids.take k++[ids[k]]:=List.take_succ_eq_append_getElem hk2
   have hsub:subl ids 0 (k:Int)=ids.take k:=by unfold subl;simp
   rw [if_pos (by omega),gd_t ⟨by omega,by omega⟩,Bo hk2,Ai,hsub,has_eq (by rw [List.length_take];omega),Ai]
   by_cases c:ids[k]∈ids.take k
   ·right
    rw [if_pos (by simpa using c)]
    refine ⟨_,rfl,.inr ⟨rfl,fun g=>?_⟩⟩
    have h2:(ids.take (k+1)).Nodup:=g.sublist (List.take_sublist _ _)
    rw [ts,List.nodup_append] at h2
    exact h2.2.2 _ c _ (List.mem_singleton.2 rfl) rfl
   ·left
    rw [if_neg (by simpa using c),w1 hk2 (by omega)]
    refine ⟨_,rfl,⟨k+1,hk2,rfl,?_⟩,by omega⟩
    rw [ts,List.nodup_append]
    refine ⟨h,by simp,fun a ha b hb e=>?_⟩
    rw [List.mem_singleton] at hb
    subst hb;subst e
    exact c ha
  ·right
   rw [if_neg (by omega)]
   have:k=ids.length:=by omega
   subst this
   rw [List.take_length] at h
   exact ⟨_,rfl,.inl ⟨rfl,h⟩⟩) 0 ⟨0,by omega,rfl,by simp⟩
 obtain ⟨t,ht,⟨rfl,g⟩ | ⟨rfl,g⟩⟩:=this
 ·exact .inl ⟨ht,g⟩
 ·exact .inr ⟨ht,g⟩
theorem Anp (hl:X.Fit l) (hi:ids.length≤300):lfix (Il l ids) (([]:List Aa),0)=some (selL l ids):=by
 have hn:=hl.n
 refine X.lfix_filter l (fun p=>decide (p.Id∈ids)) _ (fun j hj s hs=>?_) (fun s=>?_)
 ·unfold Il
  dsimp only
  rw [if_pos (by omega),jn_d,Bo hj,Ai,has_eq (by omega),Ai,Ai,w1 hj (by omega)]
  by_cases c:l[j].Id∈ids
  ·rw [if_pos (by simpa using c),if_pos (by simpa using c),gd_t (by omega)]
  ·rw [if_neg (by simpa using c),if_neg (by simpa using c)]
 ·unfold Il
  dsimp only
  rw [if_neg (by omega)]
theorem Ajf {L:List Aa} (hL:X.Fit L):Jq L=some (Br Om L):=by
 have hn:=hL.n
 have ho:=Ahw hL
 unfold Jq
 rw [X.rids_eq hn,Ai,jn_d]
 generalize hr:Gu (L.map (·.Id))=r
 have hrp:r.Perm (L.map (·.Id)):=by rw [← hr];exact X.perm_sortI _
 have hrl:r.length=L.length:=by rw [hrp.length_eq,List.length_map]
 have hrn:r.Nodup:=hrp.nodup_iff.2 hL.id
 have hrs:r.Pairwise (· < ·):=by
  have h1:r.Pairwise (·≤·):=by rw [← hr];exact X.sorted_sortI _
  exact (List.pairwise_and_iff.2 ⟨h1,hrn⟩).imp fun h=>by omega
 -- one round
 have inner:∀ (i:Nat) (hi:i < r.length) (acc:List Aa),acc.length≤1024*i→lfix (Gn L r (acc,(i:Int))) (acc,0)=some (acc++L.filter fun p=>decide (p.Id=r[i])):=fun i hi acc ha=>by
  have:=Cu (B:=Gn L r (acc,(i:Int))) (fun s=>L.length-s.2.toNat) (fun s=>∃ k:Nat,k≤L.length∧s=(acc++(L.take k).filter (fun p=>decide (p.Id=r[i])),(k:Int))) (fun t=>t=acc++L.filter fun p=>decide (p.Id=r[i])) (fun s hs=>by
   obtain ⟨k,hk,rfl⟩:=hs
   unfold Gn
   dsimp only
   by_cases hk2:k < L.length
   ·left
    have ts:L.take (k+1)=L.take k++[L[k]]:=List.take_succ_eq_append_getElem hk2
    have hf:=List.length_filter_le (fun p:Aa=>decide (p.Id=r[i])) (L.take k)
    rw [List.length_take] at hf
    have hi4:i < 1024:=by omega
    rw [if_pos (by omega),jn_d,Bo hk2,Ai,Bo hi,Ai,Ai,w1 hk2 (by omega)]
    by_cases c:L[k].Id=r[i]
    ·rw [if_pos c,gd_t (by rw [List.length_append];omega)]
     exact ⟨_,rfl,⟨k+1,hk2,by rw [ts,List.filter_append];simp [c]⟩,by dsimp only;omega⟩
    ·rw [if_neg c]
     exact ⟨_,rfl,⟨k+1,hk2,by rw [ts,List.filter_append];simp [c]⟩,by dsimp only;omega⟩
   ·right
    rw [if_neg (by omega)]
    have:k=L.length:=by omega
    subst this
    exact ⟨_,rfl,by rw [List.take_length]⟩) (acc,0) ⟨0,by omega,by simp⟩
  obtain ⟨t,ht,rfl⟩:=this
  exact ht
 have outer:=Cu (B:=Jp r L) (fun s=>r.length-s.2.toNat) (fun s=>∃ k:Nat,k≤r.length∧s=((r.take k).flatMap (fun i=>L.filter fun p=>decide (p.Id=i)),(k:Int))∧s.1.length≤1024*k) (fun t=>t=r.flatMap fun i=>L.filter fun p=>decide (p.Id=i)) (fun s hs=>by
  obtain ⟨k,hk,rfl,hb⟩:=hs
  dsimp only at hb
  unfold Jp
  dsimp only
  by_cases hk2:k < r.length
  ·left
   have ts:r.take (k+1)=r.take k++[r[k]]:=List.take_succ_eq_append_getElem hk2
   rw [if_pos (by omega),jn_d,inner k hk2 _ hb,Ai,w1 hk2 (by omega)]
   refine ⟨_,rfl,⟨k+1,hk2,by rw [ts,List.flatMap_append];simp,?_⟩,by dsimp only;omega⟩
   dsimp only
   have hf:=List.length_filter_le (fun p:Aa=>decide (p.Id=r[k])) L
   rw [List.length_append]
   omega
  ·right
   rw [if_neg (by omega)]
   have:k=r.length:=by omega
   subst this
   exact ⟨_,rfl,by rw [List.take_length]⟩) (([]:List Aa),0) ⟨0,by omega,by simp,by simp⟩
 obtain ⟨t,ht,rfl⟩:=outer
 rw [ht,Ai]
 congr 1
 have hpw:(r.flatMap fun i=>L.filter fun p=>decide (p.Id=i)).Pairwise fun x y=>x.Id < y.Id:=by
  rw [List.pairwise_flatMap]
  refine ⟨fun i _=>?_,hrs.imp fun {a b} hab x hx y hy=>?_⟩
  ·refine List.Pairwise.imp_of_mem ?_ ((List.pairwise_map.1 hL.id).filter _)
   intro a b ha hb hne
   rw [List.mem_filter,decide_eq_true_eq] at ha hb
   exact absurd (ha.2.trans hb.2.symm) hne
  ·rw [List.mem_filter,decide_eq_true_eq] at hx hy
   omega
 have hmem:∀ p,p∈(r.flatMap fun i=>L.filter fun p=>decide (p.Id=i))↔p∈L:=fun p=>by
  rw [List.mem_flatMap]
  constructor
  ·rintro ⟨i,_,hp⟩
   exact (List.mem_filter.1 hp).1
  ·intro hp
   exact ⟨p.Id,hrp.mem_iff.2 (List.mem_map_of_mem hp),List.mem_filter.2 ⟨hp,by simp⟩⟩
 have hnd:(r.flatMap fun i=>L.filter fun p=>decide (p.Id=i)).Nodup:=hpw.imp fun h e=>by rw [e] at h;omega
 refine Ack (totP L) (fun x hx=>⟨(hmem x).1 hx,ho⟩) (hpw.imp fun h=>by unfold Om;omega) (Ol (totP L) fun x hx=>⟨hx,ho⟩) ?_
 exact ((List.perm_ext_iff_of_nodup hnd (X.nodup_of_ids hL.id)).2 hmem).trans (Jk _ _).symm
theorem Fit.sel (hl:X.Fit l):X.Fit (selL l ids):=hl.filter _
theorem Ap0 (hl:X.Fit l) (hi:ids.length≤300):Lv l ids=some (if Zk l ids then (Ahv l ids,true) else ([],false)):=by
 unfold Lv
 rw [jn_d]
 have hsn:=(Fit.sel (ids:=ids) hl).id
 have hsub:∀ i∈(selL l ids).map (·.Id),i∈ids:=fun i hi=>by
  obtain ⟨p,hp,rfl⟩:=List.mem_map.1 hi
  exact of_decide_eq_true (List.mem_filter.1 hp).2
 rcases Ano hi with ⟨g1,g2⟩ | ⟨g1,g2⟩
 ·rw [g1,Ai]
  dsimp only
  rw [jn_d,Anp hl hi,Ai]
  dsimp only
  have key:((((selL l ids).length:Nat):Int))=(((ids.length:Nat):Int))↔Zk l ids:=by
   have h1:=Di hsn hsub
   rw [List.length_map] at h1
   constructor
   ·intro e
    refine ⟨g2,fun i hi'=>?_⟩
    refine Classical.byContradiction fun hno=>?_
    have hni:i ∉ (selL l ids).map (·.Id):=fun h=>by
     obtain ⟨p,hp,e2⟩:=List.mem_map.1 h
     exact hno ⟨p,(List.mem_filter.1 hp).1,e2⟩
    have:=Di (l:=i::(selL l ids).map (·.Id)) (m:=ids) (List.nodup_cons.2 ⟨hni,hsn⟩) (fun x hx=>by rcases List.mem_cons.1 hx with rfl | hx;exact hi';exact hsub x hx)
    rw [List.length_cons,List.length_map] at this
    omega
   ·intro ho
    have:=Di (l:=ids) (m:=(selL l ids).map (·.Id)) g2 (fun i hi'=>by
     obtain ⟨p,hp,rfl⟩:=ho.2 i hi'
     exact List.mem_map_of_mem (List.mem_filter.2 ⟨hp,by simpa using hi'⟩))
    rw [List.length_map] at this
    omega
  by_cases c:Zk l ids
  ·rw [if_pos (key.2 c),Ajf (Fit.sel hl),Ai,if_pos c]
   rfl
  ·rw [if_neg (fun h=>c (key.1 h)),if_neg c]
 ·rw [g1,Ai]
  dsimp only
  rw [if_neg (fun h=>g2 h.1)]
/-! ### the mesh of points -/
def vxL (L:List Aa):List Ae:=L.map fun p=>⟨p.X,p.Y,p.Z⟩
theorem Ajg {L:List Aa} (hn:L.length≤1024):lfix (Mz L) (([]:List Ae),0)=some (vxL L):=by
 have:=Cu (B:=Mz L) (fun s=>L.length-s.2.toNat) (fun s=>∃ k:Nat,k≤L.length∧s=(vxL (L.take k),(k:Int))) (fun t=>t=vxL L) (fun s hs=>by
  obtain ⟨k,hk,rfl⟩:=hs
  unfold Mz
  dsimp only
  by_cases hk2:k < L.length
  ·left
   rw [if_pos (by omega),Bo hk2,Ai,gd_t (by unfold vxL;rw [List.length_map,List.length_take];omega),w1 hk2 (by omega)]
   exact ⟨_,rfl,⟨k+1,hk2,by unfold vxL;rw [List.take_succ_eq_append_getElem hk2,List.map_append];rfl⟩,by dsimp only;omega⟩
  ·right
   rw [if_neg (by omega)]
   have:k=L.length:=by omega
   subst this
   exact ⟨_,rfl,by rw [List.take_length]⟩) (([]:List Ae),0) ⟨0,by omega,rfl⟩
 obtain ⟨t,ht,rfl⟩:=this
 exact ht
/-- No two of the points at one place. -/
def Nz (L:List Aa):Prop:=L.Pairwise fun p q=>¬ (p.X=q.X∧p.Y=q.Y)
theorem Al9 {L:List Aa} (hL:X.Fit L):Qz (vxL L)=0∧Nz L∨Qz (vxL L)=61∧¬ Nz L:=by
 have hn:=hL.n
 have h1:¬ 1024 < (vxL L).length:=by unfold vxL;rw [List.length_map];omega
 have h2:∀ x∈vxL L,Kn x:=fun x hx=>by
  unfold vxL at hx
  obtain ⟨p,hp,rfl⟩:=List.mem_map.1 hx
  have:=X.okPt_rng (hL.ok p hp)
  unfold Kn okP pP
  dsimp only
  omega
 have h3:El (vxL L)↔Nz L:=by
  unfold El Nz vxL
  rw [List.pairwise_map]
  exact Iff.rfl
 unfold Qz
 rw [if_neg h1,if_neg (fun h=>h h2)]
 by_cases c:Nz L
 ·rw [if_neg (fun h=>h (h3.2 c))]
  exact .inl ⟨rfl,c⟩
 ·rw [if_pos (fun h=>c (h3.1 h))]
  exact .inr ⟨rfl,c⟩
theorem Adz {L:List Aa} (hL:X.Fit L):(lfix (Ga L) (([]:List Ae),0)=some (.inl (vxL L))∧Nz L)∨(lfix (Ga L) (([]:List Ae),0)=some (.inr (⟨[],[],[]⟩,11))∧¬ Nz L):=by
 have hn:=hL.n
 have inner:∀ (i:Nat) (hi:i < L.length) (acc:List Ae),(lfix (Fz (acc,(i:Int)) L L[i] L[i] L[i]) 0=some (.inl (acc++[(⟨L[i].X,L[i].Y,L[i].Z⟩:Ae)]))∧∀ q∈L.take i,¬ (q.X=L[i].X∧q.Y=L[i].Y)) ∨
   (lfix (Fz (acc,(i:Int)) L L[i] L[i] L[i]) 0=some (.inr (⟨[],[],[]⟩,11))∧∃ q∈L.take i,q.X=L[i].X∧q.Y=L[i].Y):=fun i hi acc=>by
  have:=Cu (B:=Fz (acc,(i:Int)) L L[i] L[i] L[i]) (fun s=>i-s.toNat) (fun s=>∃ k:Nat,k≤i∧s=(k:Int)∧∀ q∈L.take k,¬ (q.X=L[i].X∧q.Y=L[i].Y))
   (fun t=>(t = .inl (acc++[(⟨L[i].X,L[i].Y,L[i].Z⟩:Ae)])∧∀ q∈L.take i,¬ (q.X=L[i].X∧q.Y=L[i].Y))∨(t = .inr (⟨[],[],[]⟩,11)∧∃ q∈L.take i,q.X=L[i].X∧q.Y=L[i].Y)) (fun s hs=>by
   obtain ⟨k,hk,rfl,h⟩:=hs
   unfold Fz
   dsimp only
   by_cases hk2:k < i
   ·have hkl:k < L.length:=by omega
    rw [if_pos (by omega),Bo hkl,Ai,Bo hi,Ai,X.apart_eq (hL.ok _ (List.getElem_mem hkl)) (hL.ok _ (List.getElem_mem hi)),Ai]
    have hz:=@X.sq_zero L[k] L[i]
    have hmem:L[k]∈L.take i:=by
     rw [List.mem_take_iff_getElem]
     exact ⟨k,by omega,rfl⟩
    by_cases c:X.sq L[k] L[i]=0
    ·right
     rw [if_pos c]
     exact ⟨_,rfl,.inr ⟨rfl,L[k],hmem,hz.1 (by omega)⟩⟩
    ·left
     rw [if_neg c,w1 hk2 (by omega)]
     refine ⟨_,rfl,⟨k+1,hk2,rfl,fun q hq=>?_⟩,by omega⟩
     rw [List.take_succ_eq_append_getElem hkl,List.mem_append,List.mem_singleton] at hq
     rcases hq with hq | rfl
     ·exact h q hq
     ·intro g
      have h0:0≤X.sq L[k] L[i]:=by unfold X.sq;rw [← Int.natAbs_mul_self,← Int.natAbs_mul_self (a:=L[k].Y-L[i].Y)];omega
      have:=hz.2 g
      omega
   ·right
    rw [if_neg (by omega)]
    have:k=i:=by omega
    subst this
    exact ⟨.inl (acc++[⟨L[k].X,L[k].Y,L[k].Z⟩]),rfl,.inl ⟨rfl,h⟩⟩) 0 ⟨0,by omega,rfl,by simp⟩
  obtain ⟨t,ht,⟨rfl,g⟩ | ⟨rfl,g⟩⟩:=this
  ·exact .inl ⟨ht,g⟩
  ·exact .inr ⟨ht,g⟩
 have:=Cu (B:=Ga L) (fun s=>L.length-s.2.toNat) (fun s=>∃ k:Nat,k≤L.length∧s=(vxL (L.take k),(k:Int))∧Nz (L.take k))
  (fun t=>(t = .inl (vxL L)∧Nz L)∨(t = .inr (⟨[],[],[]⟩,11)∧¬ Nz L)) (fun s hs=>by
  obtain ⟨k,hk,rfl,h⟩:=hs
  unfold Ga
  dsimp only
  by_cases hk2:k < L.length
  ·have ts:L.take (k+1)=L.take k++[L[k]]:=List.take_succ_eq_append_getElem hk2
   rw [if_pos (by omega),jn_d,Bo hk2,Ai,Ai,Ai,gd_t (by unfold vxL;rw [List.length_map,List.length_take];omega)]
   rcases inner k hk2 (vxL (L.take k)) with ⟨g1,g2⟩ | ⟨g1,q,q1,q2⟩
   ·left
    rw [g1,Ai]
    dsimp only
    rw [w1 hk2 (by omega)]
    refine ⟨_,rfl,⟨k+1,hk2,by unfold vxL;rw [ts,List.map_append];rfl,?_⟩,by dsimp only;omega⟩
    unfold Nz at h ⊢
    rw [ts,List.pairwise_append]
    refine ⟨h,by simp,fun x hx y hy=>?_⟩
    rw [List.mem_singleton] at hy
    subst hy
    exact g2 x hx
   ·right
    rw [g1,Ai]
    refine ⟨_,rfl,.inr ⟨rfl,fun g=>?_⟩⟩
    have g':Nz (L.take (k+1)):=List.Pairwise.sublist (List.take_sublist _ _) g
    unfold Nz at g'
    rw [ts,List.pairwise_append] at g'
    exact g'.2.2 q q1 _ (List.mem_singleton.2 rfl) q2
  ·right
   rw [if_neg (by omega)]
   have:k=L.length:=by omega
   subst this
   rw [List.take_length] at h
   exact ⟨_,rfl,.inl ⟨by rw [List.take_length],h⟩⟩) (([]:List Ae),0) ⟨0,by omega,rfl,by simp [Nz]⟩
 obtain ⟨t,ht,⟨rfl,g⟩ | ⟨rfl,g⟩⟩:=this
 ·exact .inl ⟨ht,g⟩
 ·exact .inr ⟨ht,g⟩
/-- The mesh of points, by the program and by the document. -/
theorem Anq {L:List Aa} (hL:X.Fit L):∃ r:Bz × Int,Ro L=some r∧Lw L=some r∧((r.2=0∧Nz L∧r.1.V=vxL L∧r.1.Lines=[]∧Xv (vxL L) r.1.T)∨(r=(⟨[],[],[]⟩,11)∧¬ Nz L)):=by
 have hn:=hL.n
 unfold Ro Lw
 rw [gd_t (by omega),jn_d,jn_d,Ajg hn,Ai]
 dsimp only
 rcases Al9 hL with ⟨e,ha⟩ | ⟨e,ha⟩
 ·obtain ⟨T,t1,t2,t3⟩:=Ag8 e
  rcases Adz hL with ⟨g1,_⟩ | ⟨_,g2⟩
  ·rw [g1,t2,Ai,Ai]
   dsimp only
   rw [if_pos rfl,t1,Ai]
   exact ⟨_,rfl,rfl,.inl ⟨rfl,ha,rfl,rfl,t3⟩⟩
  ·exact absurd ha g2
 ·rcases Adz hL with ⟨_,g2⟩ | ⟨g1,_⟩
  ·exact absurd g2 ha
  ·rw [g1,Amm [] (by omega),Ai,Ai]
   dsimp only
   rw [if_neg (by omega)]
   exact ⟨_,rfl,rfl,.inr ⟨rfl,ha⟩⟩
end Go.Proofs.YtbkobeeileemjaaGreat
/- LabelSurfaces. -/
namespace Go.Proofs.YtbkobeeileemjaaGreat
open Go Go.RowKit Go.Sort
theorem Afi {m:Bz} (h1:m.V.length≤1000000) (h2:m.T.length≤100000000) (h3:m.Lines=[]):Hb m m=some true:=by
 have e1:lfix (Ed m m) 0=some (.inl ()):=by
  rw [Ye (β:=Unit) (γ:=Bool) m.V (fun _=>true) (Ed m m) () false (fun j hj=>?_) ?_]
  ·simp
  ·unfold Ed
   rw [if_neg (by omega)]
  ·unfold Ed
   rw [if_pos (by omega),Bo hj,Ai,Ai,if_pos (by simp),if_pos rfl,w1 hj (by omega)]
 have e2:lfix (Du m m) 0=some (.inl ()):=by
  rw [Ye (β:=Unit) (γ:=Bool) m.T (fun _=>true) (Du m m) () false (fun j hj=>?_) ?_]
  ·simp
  ·unfold Du
   rw [if_neg (by omega)]
  ·unfold Du
   rw [if_pos (by omega),Bo hj,Ai,Ai,if_pos (by simp),if_pos rfl,w1 hj (by omega)]
 have e3:lfix (Gr m) 0=some ():=by
  rw [Cj]
  unfold Gr
  rw [if_neg (by rw [h3];simp)]
 unfold Hb
 rw [jn_d,if_pos rfl,if_pos rfl,decide_eq_true rfl]
 dsimp only
 rw [if_neg (by simp),jn_d,e1,Ai]
 dsimp only
 rw [jn_d,e2,Ai]
 dsimp only
 rw [jn_d,e3,Ai]
theorem Fit.pick {l:List Aa} {ids:List Int} (hl:X.Fit l):X.Fit (Ahv l ids):=(Fit.sel hl).perm (Jk _ _).symm
/-- How many triangles there may be. -/
theorem Ama {v:List Ae} {T:List Am} (hn:v.length≤1024) (h:Xv v T):T.length≤1048576:=by
 have hsq:=Ac2 hn
 have:=Aey (fun t ht=>(h.mem t).1 ht) h.nd
 omega
theorem Anr (l:List Aa) (ids:List Int) (hi:ids.length≤300) (hr:∀ i∈ids,-9223372036854775808≤i∧i≤9223372036854775807) :
  ∃ r:Bz × Int,Og l ids=some r∧Im l ids=some r∧r.1.V.length≤1024∧r.1.T.length≤1048576∧r.1.Lines=[]:=by
 unfold Og Im
 rw [X.valid_eq,Ai,X.rvalid_eq,Ai]
 by_cases c:X.validL l=true
 ·rw [if_pos c,if_pos c]
  have hl:=X.Fit.of c
  unfold Oq
  rw [Al8 hl hi hr,Ai,Ap0 hl hi,Ai]
  by_cases c2:Zk l ids
  ·rw [if_pos c2]
   dsimp only
   obtain ⟨r,r1,r2,r3⟩:=Anq (Fit.pick (ids:=ids) hl)
   rw [if_pos rfl,if_pos rfl,r1,Ai,Ai,r2,Ai]
   refine ⟨_,rfl,rfl,?_⟩
   dsimp only
   have hn:=(Fit.pick (ids:=ids) hl).n
   rcases r3 with ⟨_,_,v1,v2,v3⟩ | ⟨rfl,_⟩
   ·have hv:(vxL (Ahv l ids)).length≤1024:=by unfold vxL;rw [List.length_map];exact hn
    exact ⟨by rw [v1];exact hv,Ama hv v3,v2⟩
   ·exact ⟨by simp,by simp,rfl⟩
  ·rw [if_neg c2]
   dsimp only
   rw [if_neg (by simp),if_neg (by simp),Ai]
   exact ⟨_,rfl,rfl,by simp,by simp,rfl⟩
 ·rw [if_neg c,if_neg c]
  exact ⟨_,rfl,rfl,by simp,by simp,rfl⟩
theorem Ab6 (l:List Aa) (ids:List Int) (hr:∀ i∈ids,-9223372036854775808≤i∧i≤9223372036854775807):Gf l ids=some true:=by
 have fin:(bnd Fv fun r11=>some r11)=some true:=by rw [X.first_eq,Ai]
 unfold Gf
 rw [jn_d,X.many_eq,Ai]
 by_cases c:(300 < l.length∨(20:Int) < ((l.length:Nat):Int)∧X.validL l=true)
 ·rw [if_pos (by simpa using c)]
  dsimp only
  rw [if_pos rfl]
  exact fin
 ·rw [if_neg (by simpa using c)]
  dsimp only
  by_cases c2:300 < ids.length
  ·rw [if_pos (by simp;omega)]
   exact fin
  ·rw [if_neg (by simp;omega)]
   obtain ⟨r,e1,e2,h1,h2,h3⟩:=Anr l ids (by omega) hr
   rw [e1,Ai,e2,Ai,jn_d,if_pos rfl,Afi (by omega) (by omega) h3,Ai,if_pos rfl,X.first_eq,Ai]
end Go.Proofs.YtbkobeeileemjaaGreat
