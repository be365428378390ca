/- Plain laws on loops and lists that the plain functions of the program have in common. -/
import Derived.Test.YtbkobeeileemjaaGreatFlow8
import Derived.Test.YtbkobeeileemjaaGreatQ2
namespace Go.Proofs.YtbkobeeileemjaaGreat
open Go Go.RowKit
theorem Aoc {j:Nat} (h:j≤9223372036854775807):w64 (j:Int)=(j:Int):=Bo (by omega) (by omega)
theorem Bt {j:Nat} (h:j < 9223372036854775807):w64 ((j:Int)+1)=((j+1:Nat):Int):=by rw [Bo (by omega) (by omega)];omega
theorem Ah {α ρ:Type} {x:α} {k:α→Option ρ}:bnd (some x) k=k x:=rfl
theorem gd_t {ρ:Type} {p:Prop} [Decidable p] {k:Option ρ} (h:p):gd p k=k:=by unfold gd;rw [if_pos h]
theorem jn_d {τ ρ:Type} {k:τ→Option ρ} {x:(τ→Option ρ)→Option ρ}:jn k x=x k:=rfl
/-- A loop over the places of a list that stops where a test fails. -/
theorem Xz {α β γ:Type} (l:List α) (p:α→Bool) (B:Int→Option (Sum Int (Sum β γ))) (u:β) (v:γ)
  (h1:∀ (j:Nat) (h:j < l.length),B j=if p l[j]=true then some (.inl ((j+1:Nat):Int)) else some (.inr (.inr v))) (h2:B l.length=some (.inr (.inl u))) :
  lfix B 0=some (if l.all p=true then .inl u else .inr v):=by
 have key:∀ (m k:Nat),k≤l.length→l.length-k=m→lfix B k=some (if (l.drop k).all p=true then .inl u else .inr v):=by
  intro m
  induction m with
  | zero =>
   intro k hk hm
   obtain rfl:k=l.length:=by omega
   rw [Cy,h2]
   simp
  | succ m ih =>
   intro k hk hm
   have hlt:k < l.length:=by omega
   rw [Cy,h1 k hlt,List.drop_eq_getElem_cons hlt,List.all_cons]
   by_cases hp:p l[k]=true
   ·rw [if_pos hp,hp,Bool.true_and]
    exact ih (k+1) (by omega) (by omega)
   ·rw [if_neg hp]
    simp [hp]
 exact key l.length 0 (Nat.zero_le _) rfl
end Go.Proofs.YtbkobeeileemjaaGreat
/- Plain laws: loops over lists; valid points, rules. -/
namespace Go.Proofs.YtbkobeeileemjaaGreat.X
open Go Go.RowKit
/-- A loop over a list that may be left. -/
def foldE {α σ τ:Type} (f:σ→α→Sum σ τ) (fin:σ→τ):List α→σ→τ
 | [],s=>fin s
 | x::r,s=>match f s x with
  | .inl s'=>foldE f fin r s'
  | .inr t=>t
theorem Oh {α σ τ β:Type} (l:List α) (enc:σ→Int→β) (f:σ→α→Sum σ τ) (fin:σ→τ) (B:β→Option (Sum β τ)) (C:Nat→σ→Prop)
  (h1:∀ (j:Nat) (h:j < l.length) s,C j s→(∃ s',f s l[j] = .inl s'∧B (enc s j)=some (.inl (enc s' ((j+1:Nat):Int)))∧C (j+1) s')∨(∃ t,f s l[j] = .inr t∧B (enc s j)=some (.inr t)))
  (h2:∀ s,C l.length s→B (enc s l.length)=some (.inr (fin s))) (s0:σ) (h0:C 0 s0):lfix B (enc s0 0)=some (foldE f fin l s0):=by
 have key:∀ (m k:Nat) (s:σ),k≤l.length→l.length-k=m→C k s→lfix B (enc s k)=some (foldE f fin (l.drop k) s):=by
  intro m
  induction m with
  | zero =>
   intro k s hk hm hC
   obtain rfl:k=l.length:=by omega
   rw [Cy,h2 s hC]
   simp [foldE]
  | succ m ih =>
   intro k s hk hm hC
   have hlt:k < l.length:=by omega
   rw [Cy,List.drop_eq_getElem_cons hlt]
   rcases h1 k hlt s hC with ⟨s',e1,e2,e3⟩ | ⟨t,e1,e2⟩
   ·rw [e2];simp only [foldE,e1]
    exact ih (k+1) s' (by omega) (by omega) e3
   ·rw [e2];simp only [foldE,e1]
 exact key l.length 0 s0 (Nat.zero_le _) rfl h0
theorem Ahu {α:Type} {l:List α}:l.reverse.Nodup↔l.Nodup:=(List.reverse_perm l).nodup_iff
/-! ### points -/
def okXY (p:Ab):Bool:=decide (-268435456≤p.X∧p.X≤268435456∧-268435456≤p.Y∧p.Y≤268435456)
def okPt (p:Aa):Bool:=decide (0≤p.Id∧p.Id≤1152921504606846976∧-268435456≤p.X∧p.X≤268435456∧-268435456≤p.Y∧p.Y≤268435456∧-268435456≤p.Z.Lo∧p.Z.Lo≤p.Z.Hi∧p.Z.Hi≤268435456∧0≤p.Wide∧p.Wide≤268435456∧1≤p.Num∧p.Num≤p.Of∧p.Of≤15)
theorem within_eq (a b c:Int):Co a b c=some (decide (a≤b∧b≤c)):=by
 simp only [Co,jn_d];grind
theorem Afj (a b c:Int):Bu a b c=some (decide (b≤a∧a≤c)):=by
 simp only [Bu,jn_d];grind
theorem Uv (p:Ab):Gg p=some (okXY p):=by
 simp only [Gg,jn_d,within_eq,Ah,okXY,decide_eq_true_eq];grind
theorem Aqg (p:Ab):Kt p=some (okXY p):=by
 simp only [Kt,jn_d,okXY];grind
theorem Uw (p:Aa):Km p=some (okPt p):=by
 simp only [Km,jn_d,within_eq,Ah,Ch,Uv,okXY,okPt,decide_eq_true_eq];grind
theorem Amw (p:Aa):Ni p=some (okPt p):=by
 simp only [Ni,jn_d,Afj,Ah,Aqg,okXY,okPt,decide_eq_true_eq];grind
def validL (l:List Aa):Bool:=decide (l.length≤1024) && l.all okPt && decide ((l.map (·.Id)).Nodup)
/-- Ids seen so far. -/
theorem mget_true {m:List (Int × Bool)} (hm:∀ p∈m,p.2=true) (x:Int):(mget m x).getD false=decide (x∈m.map (·.1)):=by
 induction m with
 | nil=>simp [mget]
 | cons p r ih =>
  rw [Qp]
  have hp:=hm p List.mem_cons_self
  have ih:=ih (fun q hq=>hm q (List.mem_cons_of_mem _ hq))
  by_cases h:p.1=x
  ·rw [if_pos h];simp [hp,h]
  ·rw [if_neg h,ih]
   have:¬ x=p.1:=fun e=>h e.symm
   simp [this]
theorem Ar7 {κ υ:Type} {m:List (κ × υ)} {x:κ} {v:υ} (h:x ∉ m.map (·.1)):mput m x v=(x,v)::m:=by
 unfold mput mdel
 rw [List.filter_eq_self.2]
 intro q hq
 simp only [decide_eq_true_eq]
 exact fun e=>h (e ▸ List.mem_map_of_mem hq)
def Abf (s:List Int) (x:Aa):Sum (List Int) (Sum Unit Bool):=if okPt x=true∧x.Id ∉ s then .inl (x.Id::s) else .inr (.inr false)
theorem Aan:∀ (l:List Aa) (s:List Int),s.Nodup→foldE Abf (fun _=>.inl ()) l s=if l.all okPt=true∧((l.map (·.Id)).reverse++s).Nodup then .inl () else .inr false
 | [],s,hs=>by simp [foldE,hs]
 | x::r,s,hs=>by
  unfold foldE Abf
  by_cases h:okPt x=true∧x.Id ∉ s
  ·rw [if_pos h]
   dsimp only
   have:=Aan r (x.Id::s) (List.nodup_cons.2 ⟨h.2,hs⟩)
   unfold Abf at this
   rw [this]
   simp [h.1]
  ·rw [if_neg h]
   dsimp only
   rw [if_neg]
   rintro ⟨h1,h2⟩
   refine h ⟨by simp at h1;exact h1.1,fun hx=>?_⟩
   simp only [List.map_cons,List.reverse_cons,List.append_assoc,List.cons_append,List.nil_append] at h2
   have:=(List.nodup_append.1 h2).2.1
   exact (List.nodup_cons.1 this).1 hx
theorem Ar8 (l:List Aa):Rm l=some (validL l):=by
 unfold Rm validL
 by_cases hn:1024 < ((l.length:Nat):Int)
 ·rw [if_pos hn]
  have:¬ l.length≤1024:=by omega
  simp [this]
 ·rw [if_neg hn,jn_d]
  have hn':l.length≤1024:=by omega
  have key:=Oh l (fun (s:List (Int × Bool)) (i:Int)=>(s,i)) (fun (s:List (Int × Bool)) x=>if okPt x=true∧x.Id ∉ s.map (·.1) then .inl ((x.Id,true)::s) else .inr (.inr false)) (fun _=>(.inl ():Sum Unit Bool)) (Im l)
   (fun j s=>s.length=j∧∀ p∈s,p.2=true) ?_ ?_ [] ⟨rfl,by simp⟩
  ·rw [key,Ah]
   have conv:∀ (l:List Aa) (s:List (Int × Bool)),foldE (fun (s:List (Int × Bool)) (x:Aa)=>if okPt x=true∧x.Id ∉ s.map (·.1) then Sum.inl ((x.Id,true)::s) else .inr (.inr false)) (fun _=>(.inl ():Sum Unit Bool)) l s=foldE Abf (fun _=>.inl ()) l (s.map (·.1)):=by
    intro l
    induction l with
    | nil=>intro s;rfl
    | cons x r ih =>
     intro s
     unfold foldE Abf
     by_cases h:okPt x=true∧x.Id ∉ s.map (·.1)
     ·rw [if_pos h,if_pos h];exact ih _
     ·rw [if_neg h,if_neg h]
   rw [conv,List.map_nil,Aan l [] (by simp)]
   simp only [List.append_nil,Ahu]
   by_cases h:l.all okPt=true∧(l.map (·.Id)).Nodup
   ·rw [if_pos h];simp only [hn',h.1,h.2,decide_true,Bool.and_self]
   ·rw [if_neg h]
    dsimp only
    replace h:=Decidable.not_and_iff_or_not.1 h
    congr 1
    rcases h with h | h <;> simp [h]
  ·intro j hj s hC
   have h0:(j:Int) < ((l.length:Nat):Int):=by omega
   by_cases hp:okPt l[j]=true
   ·have hr:-9223372036854775808≤l[j].Id∧l[j].Id≤9223372036854775807:=by simp only [okPt,decide_eq_true_eq] at hp;omega
    by_cases hs:l[j].Id∈s.map (·.1)
    ·right
     refine ⟨.inr false,by rw [if_neg (fun h=>h.2 hs)],?_⟩
     simp only [Im,if_pos h0,Bg hj,Ah,jn_d,Uw,hp,if_true,gd_t hr,mget_true hC.2,decide_eq_true hs]
    ·left
     refine ⟨(l[j].Id,true)::s,by rw [if_pos ⟨hp,hs⟩],?_,by simp [hC.1],by intro p hm;rcases List.mem_cons.1 hm with rfl | hm;rfl;exact hC.2 p hm⟩
     have hs':decide (l[j].Id∈s.map (·.1))=false:=decide_eq_false hs
     simp only [Im,if_pos h0,Bg hj,Ah,jn_d,Uw,hp,if_true,gd_t hr,mget_true hC.2,hs',Bool.false_eq_true,if_false,Ar7 hs,gd_t (show s.length < 9223372036854775807 by omega),Bt (show j < 9223372036854775807 by omega)]
   ·right
    refine ⟨.inr false,by rw [if_neg (fun h=>hp h.1)],?_⟩
    have hp':okPt l[j]=false:=by simpa using hp
    simp only [Im,if_pos h0,Bg hj,Ah,jn_d,Uw,hp',if_true,Bool.false_eq_true,if_false]
  ·intro s hC
   simp only [Im,Int.lt_irrefl,if_false]
theorem rvalid_eq (l:List Aa):Ia l=some (validL l):=by
 unfold Ia
 by_cases hn:1024 < ((l.length:Nat):Int)
 ·rw [if_pos hn]
  have:¬ l.length≤1024:=by omega
  simp [validL,this]
 ·rw [if_neg hn,jn_d]
  have hn':l.length≤1024:=by omega
  have inner:∀ (j:Nat) (hj:j < l.length),lfix (Fs j l) 0=some (if ∀ (k:Nat) (hk:k < j),l[k].Id≠l[j].Id then .inl () else .inr false):=by
   intro j hj
   have:=Xz (β:=Unit) (γ:=Bool) (l.take j) (fun q=>decide (q.Id≠l[j].Id)) (Fs j l) () false ?_ ?_
   ·rw [this]
    congr 1
    have e:(l.take j).all (fun q=>decide (q.Id≠l[j].Id))=true↔∀ (k:Nat) (hk:k < j),l[k].Id≠l[j].Id:=by
     rw [List.all_eq_true]
     constructor
     ·intro h k hk
      have:=h (l[k]) (List.mem_take_iff_getElem.2 ⟨k,by omega,rfl⟩)
      simpa using this
     ·intro h q hq
      obtain ⟨k,hk,rfl⟩:=List.mem_take_iff_getElem.1 hq
      simpa using h k (by omega)
    by_cases h:∀ (k:Nat) (hk:k < j),l[k].Id≠l[j].Id
    ·rw [if_pos (e.2 h),if_pos h]
    ·rw [if_neg (fun h'=>h (e.1 h')),if_neg h]
   ·intro k hk
    have hk':k < j:=by simp at hk;omega
    have hkl:k < l.length:=by omega
    simp only [Fs,if_pos (show (k:Int) < (j:Int) by omega),Bg hkl,Bg hj,Ah,Bt (show k < 9223372036854775807 by omega),List.getElem_take]
    by_cases h:l[k].Id=l[j].Id <;> simp [h]
   ·have:(l.take j).length=j:=by simp;omega
    simp only [Fs,this,Int.lt_irrefl,if_false]
  have key:=Oh (β:=Int) l (fun (s:List Int) (i:Int)=>i) Abf (fun _=>(.inl ():Sum Unit Bool)) (Ej l)
   (fun j s=>s=((l.take j).map (·.Id)).reverse) ?_ ?_ [] rfl
  ·rw [key,Ah,Aan l [] (by simp)]
   simp only [List.append_nil,Ahu,validL]
   by_cases h:l.all okPt=true∧(l.map (·.Id)).Nodup
   ·rw [if_pos h];simp only [hn',h.1,h.2,decide_true,Bool.and_self]
   ·rw [if_neg h]
    dsimp only
    replace h:=Decidable.not_and_iff_or_not.1 h
    congr 1
    rcases h with h | h <;> simp [h]
  ·rintro j hj s rfl
   have h0:(j:Int) < ((l.length:Nat):Int):=by omega
   have hmem:l[j].Id ∉ ((l.take j).map (·.Id)).reverse↔∀ (k:Nat) (hk:k < j),l[k].Id≠l[j].Id:=by
    rw [List.mem_reverse,List.mem_map]
    constructor
    ·intro h k hk e
     exact h ⟨l[k],List.mem_take_iff_getElem.2 ⟨k,by omega,rfl⟩,e⟩
    ·rintro h ⟨q,hq,e⟩
     obtain ⟨k,hk,rfl⟩:=List.mem_take_iff_getElem.1 hq
     exact h k (by omega) e
   by_cases hp:okPt l[j]=true
   ·by_cases hs:∀ (k:Nat) (hk:k < j),l[k].Id≠l[j].Id
    ·left
     refine ⟨_,by unfold Abf;rw [if_pos ⟨hp,hmem.2 hs⟩],?_,?_⟩
     ·simp only [Ej,if_pos h0,Bg hj,Ah,jn_d,Amw,hp,if_true,inner j hj,if_pos hs,Bt (show j < 9223372036854775807 by omega)]
     ·have e:l.take (j+1)=l.take j++[l[j]]:=by rw [List.take_add_one,List.getElem?_eq_getElem hj];rfl
      show _=_
      rw [e,List.map_append,List.reverse_append];rfl
    ·right
     refine ⟨.inr false,by unfold Abf;rw [if_neg (fun h=>hs (hmem.1 h.2))],?_⟩
     simp only [Ej,if_pos h0,Bg hj,Ah,jn_d,Amw,hp,if_true,inner j hj,if_neg hs]
   ·right
    refine ⟨.inr false,by unfold Abf;rw [if_neg (fun h=>hp h.1)],?_⟩
    simp only [Ej,if_pos h0,Bg hj,Ah,jn_d,Amw,hp,Bool.false_eq_true,if_false]
  ·intro s _
   simp only [Ej,Int.lt_irrefl,if_false]
def okRules (r:Af):Bool:=decide (1≤r.Cell∧r.Cell≤10000000∧0≤r.Reach∧r.Reach≤1000000∧0≤r.Slope∧r.Slope≤100000∧1≤r.Link∧r.Link≤1000000∧0≤r.Flat∧r.Flat≤1000000∧0≤r.Tall∧r.Tall≤1000000∧0≤r.High∧r.High≤1000000∧0≤r.Low∧r.Low≤1000000∧0≤r.Brush∧r.Brush≤1000000∧1≤r.Few∧r.Few≤1024)
theorem rrules_eq (r:Af):Ge r=some (okRules r):=by
 simp only [Ge,jn_d,Afj,Ah,decide_eq_true_eq]
 unfold okRules
 repeat' split
 all_goals (congr 1;grind)
theorem Ar9 (r:Af):Kn r=some (okRules r):=by
 have key:=Xz (β:=Unit) (γ:=Bool) [r.Reach,r.Flat,r.Tall,r.High,r.Low,r.Brush] (fun n=>decide (0≤n∧n≤1000000)) (Gz r) () false ?_ ?_
 ·unfold Kn
  rw [jn_d,key,Ah]
  by_cases hc:([r.Reach,r.Flat,r.Tall,r.High,r.Low,r.Brush].all (fun n=>decide (0≤n∧n≤1000000)))=true
  ·rw [if_pos hc]
   simp only [jn_d,within_eq,Ah,decide_eq_true_eq]
   simp only [List.all_cons,List.all_nil,Bool.and_true,Bool.and_eq_true,decide_eq_true_eq] at hc
   unfold okRules
   repeat' split
   all_goals (congr 1;grind)
  ·rw [if_neg hc]
   simp only [List.all_cons,List.all_nil,Bool.and_true,Bool.and_eq_true,decide_eq_true_eq] at hc
   dsimp only
   unfold okRules
   congr 1;symm;rw [decide_eq_false_iff_not];omega
 ·intro j hj
  have hj':(j:Int) < 6:=by simp at hj;omega
  simp only [Gz,if_pos hj',Bg hj,Ah,within_eq,Bt (show j < 9223372036854775807 by simp at hj;omega)]
 ·simp only [Gz]
  rfl
theorem checked_eq (l:List Aa) (r:Af):Js l r=some (if okRules r=true then (if validL l=true then 0 else 70) else 71):=by
 simp only [Js,Ar9,Ah,Ar8];grind
end Go.Proofs.YtbkobeeileemjaaGreat.X
/- Plain laws: sunk points, ids, the lowest ones. -/
namespace Go.Proofs.YtbkobeeileemjaaGreat.X
open Go Go.RowKit
theorem okPt_rng {p:Aa} (h:okPt p=true):0≤p.Id∧p.Id≤1152921504606846976∧-268435456≤p.X∧p.X≤268435456∧-268435456≤p.Y∧p.Y≤268435456∧-268435456≤p.Z.Lo∧p.Z.Lo≤p.Z.Hi∧p.Z.Hi≤268435456:=by
 simp only [okPt,decide_eq_true_eq] at h;omega
theorem okRules_rng {r:Af} (h:okRules r=true):1≤r.Cell∧r.Cell≤10000000∧0≤r.Reach∧r.Reach≤1000000∧0≤r.Slope∧r.Slope≤100000∧1≤r.Link∧r.Link≤1000000∧0≤r.Low∧r.Low≤1000000:=by
 simp only [okRules,decide_eq_true_eq] at h;omega
theorem Ya {l:List Aa} (h:validL l=true):l.length≤1024∧(∀ p∈l,okPt p=true)∧(l.map (·.Id)).Nodup:=by
 simp only [validL,Bool.and_eq_true,decide_eq_true_eq,List.all_eq_true] at h
 exact ⟨h.1.1,h.1.2,h.2⟩
/-- The square of the distance of two places. -/
def sq (p q:Aa):Int:=(p.X-q.X)*(p.X-q.X)+(p.Y-q.Y)*(p.Y-q.Y)
theorem Aw3 {a:Int} {m:Int} (h1:-m≤a) (h2:a≤m):0≤a*a∧a*a≤m*m:=by
 refine ⟨?_,?_⟩
 ·rcases Int.le_total 0 a with h | h
  ·exact Int.mul_nonneg h h
  ·exact Int.mul_nonneg_of_nonpos_of_nonpos h h
 ·rcases Int.le_total 0 a with h | h
  ·exact Int.mul_le_mul h2 h2 h (by omega)
  ·have:(-a)*(-a)≤m*m:=Int.mul_le_mul (by omega) (by omega) (by omega) (by omega)
   rwa [Int.neg_mul_neg] at this
theorem sq_w {a b:Int} (ha:-268435456≤a∧a≤268435456) (hb:-268435456≤b∧b≤268435456):w64 (a-b)=a-b∧w64 ((a-b)*(a-b))=(a-b)*(a-b)∧0≤(a-b)*(a-b)∧(a-b)*(a-b)≤288230376151711744:=by
 have h:=Aw3 (a:=a-b) (m:=536870912) (by omega) (by omega)
 refine ⟨Bo (by omega) (by omega),Bo (by omega) (by omega),h.1,by omega⟩
theorem Ay2 {p q:Aa} (hp:okPt p=true) (hq:okPt q=true):w64 ((w64 ((w64 (p.X-q.X))*(w64 (p.X-q.X))))+(w64 ((w64 (p.Y-q.Y))*(w64 (p.Y-q.Y)))))=sq p q:=by
 have h1:=okPt_rng hp
 have h2:=okPt_rng hq
 obtain ⟨a1,a2,a3,a4⟩:=sq_w (a:=p.X) (b:=q.X) (by omega) (by omega)
 obtain ⟨b1,b2,b3,b4⟩:=sq_w (a:=p.Y) (b:=q.Y) (by omega) (by omega)
 rw [a1,b1,a2,b2]
 exact Bo (by omega) (by omega)
theorem Ava (p q:Aa):sq p q=sq q p:=by
 have h:∀ a b:Int,(a-b)*(a-b)=(b-a)*(b-a):=fun a b=>by rw [← Int.neg_mul_neg,Int.neg_sub]
 unfold sq;rw [h p.X,h p.Y]
theorem near_eq {p q:Aa} (hp:okPt p=true) (hq:okPt q=true) {m:Int} (h1:0≤m) (h2:m≤1000000):Kz p q m=some (decide (sq p q≤m*m)):=by
 have hm:w64 (m*m)=m*m:=by have:=Aw3 (a:=m) (m:=1000000) (by omega) h2;exact Bo (by omega) (by omega)
 simp only [Kz,Ch,Ah,Io,Ay2 hp hq,hm]
/-! ### sunk points -/
def sunkF (p:Aa) (r:Af) (s:Bool) (q:Aa):Sum Bool (Sum Bool Bool) :=
 if q.Id=p.Id∨r.Link*r.Link < sq q p then .inl s else if q.Z.Lo-p.Z.Hi≤r.Low then .inr (.inr false) else .inl true
def sunkB (l:List Aa) (r:Af) (p:Aa):Bool:=match foldE (sunkF p r) .inl l false with
 | .inl b=>b
 | .inr b=>b
theorem Avb {l:List Aa} (hl:validL l=true) {r:Af} (hr:okRules r=true) {i:Nat} (hi:i < l.length):Pp l i r=some (sunkB l r l[i]):=by
 obtain ⟨g1,g2,g3⟩:=Ya hl
 have hR:=okRules_rng hr
 have hp:=g2 _ (List.getElem_mem hi)
 have key:=Oh l (fun (s:Bool) (j:Int)=>(s,j)) (sunkF l[i] r) (Sum.inl:Bool→Sum Bool Bool) (Lk l i r) (fun _ _=>True) ?_ ?_ false trivial
 ·unfold Pp sunkB
  rw [jn_d,key,Ah]
  cases foldE (sunkF l[i] r) (Sum.inl:Bool→Sum Bool Bool) l false <;> rfl
 ·intro j hj s _
  have h0:(j:Int) < ((l.length:Nat):Int):=by omega
  have hq:=g2 _ (List.getElem_mem hj)
  have hne:(j:Int)=(i:Int)↔l[j].Id=l[i].Id:=by
   constructor
   ·intro h
    obtain rfl:j=i:=by omega
    rfl
   ·intro h
    have:=List.getElem_inj (xs:=l.map (·.Id)) (i:=j) (j:=i) (h₀:=by simpa using hj) (h₁:=by simpa using hi) g3
    simp only [List.getElem_map] at this
    have:=this.1 h
    omega
  have h1:=okPt_rng hp
  have h2:=okPt_rng hq
  have hw:w64 (l[j].Z.Lo-l[i].Z.Hi)=l[j].Z.Lo-l[i].Z.Hi:=Bo (by omega) (by omega)
  have hs:w64 ((j:Int)+1)=((j+1:Nat):Int):=Bt (by omega)
  unfold sunkF
  simp only [Lk,if_pos h0,Bg hj,Bg hi,Ah,jn_d,near_eq hp hq (show 0≤r.Link by omega) (show r.Link≤1000000 by omega),hw,hs,hne,Ava l[j] l[i]]
  by_cases c1:l[j].Id=l[i].Id
  ·left;exact ⟨s,by rw [if_pos (.inl c1)],by rw [if_pos c1];simp,trivial⟩
  ·rw [if_neg c1]
   by_cases c2:sq l[i] l[j]≤r.Link*r.Link
   ·have c3:¬ (l[j].Id=l[i].Id∨r.Link*r.Link < sq l[i] l[j]):=by rintro (h | h);exact c1 h;omega
    rw [if_neg c3]
    by_cases c4:l[j].Z.Lo-l[i].Z.Hi≤r.Low
    ·right;exact ⟨_,by rw [if_pos c4],by simp [c2,c4]⟩
    ·left;exact ⟨true,by rw [if_neg c4],by simp [c2,c4],trivial⟩
   ·left;exact ⟨s,by rw [if_pos (.inr (by omega))],by simp [c2],trivial⟩
 ·intro s _
  simp only [Lk,Int.lt_irrefl,if_false]
/-! ### filters -/
theorem Uf {α σ τ:Type} (g:σ→α→σ) (fin:σ→τ):∀ (l:List α) (s:σ),foldE (fun s x=>.inl (g s x)) fin l s=fin (l.foldl g s)
 | [],s=>rfl
 | x::r,s=>by simp only [foldE,List.foldl_cons];exact Uf g fin r (g s x)
theorem Abg {α:Type} (p:α→Bool):∀ (l acc:List α),l.foldl (fun s x=>if p x=true then s++[x] else s) acc=acc++l.filter p
 | [],acc=>by simp
 | x::r,acc=>by
  rw [List.foldl_cons,Abg p r]
  by_cases h:p x=true
  ·rw [if_pos h,List.filter_cons_of_pos h];simp
  ·rw [if_neg h,List.filter_cons_of_neg h]
/-- A loop that keeps some elements. -/
theorem lfix_filter {α:Type} (l:List α) (p:α→Bool) (B:List α × Int→Option (Sum (List α × Int) (List α)))
  (h1:∀ (j:Nat) (h:j < l.length) (s:List α),s.length≤j→B (s,j)=some (.inl (if p l[j]=true then s++[l[j]] else s,((j+1:Nat):Int)))) (h2:∀ s,B (s,l.length)=some (.inr s)) :
  lfix B ([],0)=some (l.filter p):=by
 have:=Oh l (fun (s:List α) (j:Int)=>(s,j)) (fun s x=>.inl (if p x=true then s++[x] else s)) (id:List α→List α) B (fun j s=>s.length≤j)
  (fun j hj s hC=>.inl ⟨_,rfl,h1 j hj s hC,by split <;> (first | omega | (simp;omega))⟩) (fun s _=>h2 s) [] (Nat.le_refl _)
 rw [this,Uf,Abg];rfl
def dryL (l:List Aa) (r:Af):List Aa:=l.filter fun p=>!sunkB l r p
def sunkL (l:List Aa) (r:Af):List Aa:=l.filter (sunkB l r)
theorem parted_eq {l:List Aa} (hl:validL l=true) {r:Af} (hr:okRules r=true):Ji l r=some (dryL l r,sunkL l r):=by
 obtain ⟨g1,g2,g3⟩:=Ya hl
 have key:=Oh l (fun (s:List Aa × List Aa) (j:Int)=>(s.1,s.2,j)) (fun s x=>.inl (if sunkB l r x=true then (s.1,s.2++[x]) else (s.1++[x],s.2))) (id:_→List Aa × List Aa) (Jc l r)
  (fun j s=>s.1.length≤j∧s.2.length≤j) ?_ ?_ ([],[]) ⟨Nat.le_refl _,Nat.le_refl _⟩
 ·unfold Ji
  rw [jn_d]
  have key':lfix (Jc l r) ([],[],0)=_:=key
  rw [key',Ah,Uf]
  have:∀ (m a b:List Aa),m.foldl (fun (s:List Aa × List Aa) x=>if sunkB l r x=true then (s.1,s.2++[x]) else (s.1++[x],s.2)) (a,b)=(a++m.filter (fun p=>!sunkB l r p),b++m.filter (sunkB l r)):=by
   intro m
   induction m with
   | nil=>intro a b;simp
   | cons x m ih =>
    intro a b
    rw [List.foldl_cons]
    by_cases h:sunkB l r x=true
    ·rw [if_pos h,ih];simp [h]
    ·rw [if_neg h,ih];simp [h]
  rw [this]
  simp [dryL,sunkL]
 ·intro j hj s hC
  left
  have h0:(j:Int) < ((l.length:Nat):Int):=by omega
  refine ⟨_,rfl,?_,by split <;> simp <;> omega⟩
  simp only [Jc,if_pos h0,Bg hj,Ah,jn_d,Avb hl hr hj,Bt (show j < 9223372036854775807 by omega)]
  by_cases h:sunkB l r l[j]=true
  ·simp only [h,if_true,gd_t (show (s.2.length+1)*72≤140737488355328 by omega)]
  ·simp only [h,if_false,Bool.false_eq_true,gd_t (show (s.1.length+1)*72≤140737488355328 by omega)]
 ·intro s _
  simp only [Jc,Int.lt_irrefl,if_false,id]
/-! ### Ids in order -/
theorem sorted_sortI (l:List Int):(Db l).Pairwise (·≤·):=by
 have:=List.pairwise_mergeSort (le:=fun x y:Int=>decide (x≤y)) (fun a b c h1 h2=>by simp at *;omega) (fun a b=>by simp;omega) l
 exact this.imp fun h=>by simpa using h
theorem perm_sortI (l:List Int):(Db l).Perm l:=List.mergeSort_perm _ _
theorem sort_unique {l m:List Int} (h:l.Pairwise (·≤·)) (hp:l.Perm m):l=Db m :=
 List.Perm.eq_of_pairwise (fun a b _ _ h h'=>by omega) h (sorted_sortI m) (hp.trans (perm_sortI m).symm)
theorem sortI_perm {l m:List Int} (h:l.Perm m):Db l=Db m:=sort_unique (sorted_sortI l) ((perm_sortI l).trans h)
theorem ids_eq {l:List Aa} (h:l.length≤1024):Ql l=some (Db (l.map (·.Id))):=by
 unfold Ql
 rw [gd_t (by omega),jn_d]
 have key:=Oh l (fun (s:List Int) (j:Int)=>(s,j)) (fun s x=>.inl (s++[x.Id])) (id:List Int→List Int) (Pi l) (fun j s=>s.length=j) ?_ ?_ [] rfl
 ·rw [key,Ah,Uf]
  have:∀ (m:List Aa) (a:List Int),m.foldl (fun s x=>s++[x.Id]) a=a++m.map (·.Id):=by
   intro m
   induction m with
   | nil=>intro a;simp
   | cons x m ih=>intro a;rw [List.foldl_cons,ih];simp
  rw [this]
  simp only [List.nil_append,id]
  rw [gd_t (by simp;omega)]
 ·intro j hj s hC
  left
  have h0:(j:Int) < ((l.length:Nat):Int):=by omega
  refine ⟨_,rfl,?_,by simp [hC]⟩
  simp only [Pi,if_pos h0,Bg hj,Ah,gd_t (show (s.length+1)*8≤140737488355328 by omega),Bt (show j < 9223372036854775807 by omega)]
 ·intro s _
  simp only [Pi,Int.lt_irrefl,if_false,id]
end Go.Proofs.YtbkobeeileemjaaGreat.X
