/- Growing, plainly: lowest points, loops over a map that go on from a list, the best offers. -/
import Derived.Test.YtbkobeeileemjaaGreatX3
import Derived.Test.YtbkobeeileemjaaGreatL1
import Derived.Test.YtbkobeeileemjaaGreatY2
import Derived.Test.YtbkobeeileemjaaGreatY1
namespace Go.Proofs.YtbkobeeileemjaaGreat
open Go Go.RowKit Go.Shelf Go.Sort
theorem Apn:∀ {l:List Aa},l≠[]→∃ p∈l,∀ q∈l,X.lowB q p=false
 | [],h=>absurd rfl h
 | [a],_=>⟨a,List.mem_singleton.2 rfl,fun q hq=>by rw [List.mem_singleton.1 hq];exact X.lowB_irrefl a⟩
 | a::b::t,_=>by
  obtain ⟨p,hp,h⟩:=Apn (l:=b::t) (by simp)
  by_cases c:X.lowB a p=true
  ·refine ⟨a,List.mem_cons_self,fun q hq=>?_⟩
   rcases List.mem_cons.1 hq with rfl | hq
   ·exact X.lowB_irrefl _
   ·refine Bool.eq_false_iff.2 fun g=>?_
    have:=h q hq
    rw [X.lowB_trans g c] at this
    cases this
  ·refine ⟨p,List.mem_cons_of_mem _ hp,fun q hq=>?_⟩
   rcases List.mem_cons.1 hq with rfl | hq
   ·exact Bool.eq_false_iff.2 c
   ·exact h q hq
theorem Ay4 {kf:Aa→Ab} {l:List Aa} (h:l≠[]):X.bot kf l≠[]:=by
 obtain ⟨p,hp,hm⟩:=Apn h
 exact List.ne_nil_of_mem (X.mem_bot.2 ⟨hp,fun q hq _=>hm q hq⟩)
theorem Anx {κ υ β ρ:Type} {BN:List β→Option (Sum (List β) (List β))} {BS:List β→κ × υ→Option (Sum (List β) (List β))} {m:List (κ × υ)} (hm:Ee m) (s0:List β) (f:κ × υ→List β) (hf:∀ q,(f q).length≤1)
  (hN:∀ s,BN s=some (.inr s)) (hS:∀ s,∀ q∈m,s.length < s0.length+m.length→BS s q=some (.inl (s++f q))) {k:List β→Option ρ} {r:ρ} (hk:∀ l,l.Perm (m.flatMap f)→k (s0++l)=some r):Ai8 BN BS m s0 k=some r:=by
 have key:∀ (n:Nat) (l:List (κ × υ)) (s:List β),l.length=n→Ee l→(∀ q∈l,q∈m)→s.length+l.length≤s0.length+m.length→(∀ q:List (κ × υ),q.Perm l→k (s++q.flatMap f)=some r)→MR (mkN BN k) (mkS BS k) l s r:=by
  intro n
  induction n with
  | zero =>
   intro l s hn _ _ _ hk
   have:l=[]:=List.eq_nil_of_length_eq_zero hn
   subst this
   refine .nil ?_
   have:=hk [] (List.Perm.refl _)
   rw [List.flatMap_nil,List.append_nil] at this
   unfold mkN
   rw [hN]
   simp only [this]
  | succ n ih =>
   intro l s hn hl hs hlen hk
   have hb:∀ q∈l,mkS BS k s q=some (.inl (s++f q)):=fun q hq=>by
    unfold mkS mkN
    simp only [hS s q (hs q hq) (by omega)]
   refine .cons (fun e=>by subst e;simp at hn) (fun q hq=>by rw [hb q hq];rfl) (fun q hq t' e=>by rw [hb q hq] at e;cases e) (fun q hq s' e=>?_)
   rw [hb q hq] at e
   cases e
   have hp:=Ado hl hq
   have hlen2:=hp.length_eq
   rw [List.length_cons] at hlen2
   refine ih (mdel l q.1) (s++f q) (by omega) (hl.del _) (fun x hx=>hs x (Io.1 hx).1) (by rw [List.length_append];have:=hf q;omega) (fun w hw=>?_)
   rw [List.append_assoc,← List.flatMap_cons]
   exact hk _ ((hw.cons q).trans hp.symm)
 refine Ap9 (key m.length m s0 rfl hm (fun _ h=>h) (by omega) fun q hq=>?_)
 exact hk _ (List.Perm.flatMap_right f hq)
/-! ### the best offers -/
/-- What a point offers: the name of its triangle, whether it fits, and how far it is. -/
abbrev FitF:=Aa→Int × Bool × Int
noncomputable def Acv (g:List Int) (F:FitF) (b:List (Int × Bm)) (p:Aa):List (Int × Bm) :=
 if p.Id∈g∨(F p).2.1=false then b else
 match mget b (F p).1 with
 | none=>mput b (F p).1 ⟨p,(F p).2.2⟩
 | some o=>if (F p).2.2 < o.far∨(F p).2.2=o.far∧X.lowB p o.p=true then mput b (F p).1 ⟨p,(F p).2.2⟩ else b
noncomputable def Aez (g:List Int) (F:FitF) (C:List Aa):List (Int × Bm):=C.foldl (Acv g F) []
/-- Is p, at the distance f, better than the offer o? -/
def btr (f:Int) (p:Aa) (o:Bm):Prop:=f < o.far∨f=o.far∧X.lowB p o.p=true
theorem Awr (f:Int) (p:Aa):¬ btr f p ⟨p,f⟩:=by
 rintro (h | ⟨_,h⟩)
 ·exact Int.lt_irrefl _ h
 ·rw [X.lowB_irrefl] at h;cases h
theorem Arl {f f':Int} {p q:Aa} {o:Bm} (h:btr f p ⟨q,f'⟩) (h':btr f' q o):btr f p o:=by
 unfold btr at *
 dsimp only at h
 rcases h with h | ⟨h,g⟩ <;> rcases h' with h' | ⟨h',g'⟩
 ·exact .inl (by omega)
 ·exact .inl (by omega)
 ·exact .inl (by omega)
 ·exact .inr ⟨by omega,X.lowB_trans g g'⟩
/-- What is known of the best offers of the points C. -/
structure Wf (g:List Int) (F:FitF) (C:List Aa) (b:List (Int × Bm)):Prop where
 map:Ee b
 src:∀ q∈b,q.2.p∈C∧q.2.p.Id ∉ g∧F q.2.p=(q.1,true,q.2.far)
 all:∀ p∈C,p.Id ∉ g→(F p).2.1=true→∃ o,mget b (F p).1=some o∧¬ btr (F p).2.2 p o
theorem Wf.nil (g:List Int) (F:FitF):Wf g F [] []:=⟨List.Pairwise.nil,fun q hq=>(by cases hq),fun p hp=>(by cases hp)⟩
theorem Wf.step {g:List Int} {F:FitF} {C:List Aa} {b:List (Int × Bm)} (h:Wf g F C b) (p:Aa):Wf g F (C++[p]) (Acv g F b p):=by
 unfold Acv
 by_cases c:p.Id∈g∨(F p).2.1=false
 ·rw [if_pos c]
  refine ⟨h.map,fun q hq=>⟨List.mem_append_left _ (h.src q hq).1,(h.src q hq).2⟩,fun x hx hg hf=>?_⟩
  rcases List.mem_append.1 hx with hx | hx
  ·exact h.all x hx hg hf
  ·rw [List.mem_singleton.1 hx] at hg hf
   rcases c with c | c
   ·exact absurd c hg
   ·rw [c] at hf;cases hf
 ·rw [if_neg c]
  have hg:p.Id ∉ g:=fun e=>c (.inl e)
  have hf:(F p).2.1=true:=by
   cases e:(F p).2.1 with
   | true=>rfl
   | false=>exact absurd (.inr e) c
  have put:(∀ o,mget b (F p).1=some o→btr (F p).2.2 p o)→Wf g F (C++[p]) (mput b (F p).1 ⟨p,(F p).2.2⟩):=fun hn=>by
   refine ⟨h.map.put _ _,fun q hq=>?_,fun x hx hxg hxf=>?_⟩
   ·rcases List.mem_cons.1 hq with rfl | hq
    ·exact ⟨List.mem_append_right _ (List.mem_singleton.2 rfl),hg,by dsimp only;rw [← hf]⟩
    ·have:=h.src q (Io.1 hq).1
     exact ⟨List.mem_append_left _ this.1,this.2⟩
   ·rw [Nm h.map]
    by_cases e:(F x).1=(F p).1
    ·rw [if_pos e]
     refine ⟨_,rfl,?_⟩
     rcases List.mem_append.1 hx with hx | hx
     ·obtain ⟨o,ho,hb⟩:=h.all x hx hxg hxf
      rw [e] at ho
      exact fun g'=>hb (Arl g' (hn o ho))
     ·rw [List.mem_singleton.1 hx]
      exact Awr _ _
    ·rw [if_neg e]
     rcases List.mem_append.1 hx with hx | hx
     ·exact h.all x hx hxg hxf
     ·exact absurd (by rw [List.mem_singleton.1 hx]) e
  cases hm:mget b (F p).1 with
  | none=>exact put fun o ho=>by rw [hm] at ho;cases ho
  | some o =>
   dsimp only
   by_cases cb:(F p).2.2 < o.far∨(F p).2.2=o.far∧X.lowB p o.p=true
   ·rw [if_pos cb]
    exact put fun o' ho=>by rw [hm] at ho;cases ho;exact cb
   ·rw [if_neg cb]
    refine ⟨h.map,fun q hq=>⟨List.mem_append_left _ (h.src q hq).1,(h.src q hq).2⟩,fun x hx hxg hxf=>?_⟩
    rcases List.mem_append.1 hx with hx | hx
    ·exact h.all x hx hxg hxf
    ·rw [List.mem_singleton.1 hx]
     exact ⟨o,hm,cb⟩
theorem Ag6 {g:List Int} {F:FitF} {C:List Aa} (k:Nat):Wf g F (C.take k) ((C.take k).foldl (Acv g F) []):=by
 induction k with
 | zero=>exact Wf.nil g F
 | succ k ih =>
  by_cases hk:k < C.length
  ·rw [List.take_succ_eq_append_getElem hk,List.foldl_append]
   exact ih.step C[k]
  ·rw [List.take_of_length_le (by omega)]
   rw [List.take_of_length_le (by omega)] at ih
   exact ih
theorem Acw (g:List Int) (F:FitF) (C:List Aa):Wf g F C (Aez g F C):=by
 have:=Ag6 (g:=g) (F:=F) (C:=C) C.length
 rwa [List.take_length] at this
/-- One round. -/
noncomputable def adds (g:List Int) (F:FitF) (C:List Aa):List Int:=(Aez g F C).map (·.2.p.Id)
noncomputable def Vp (g:List Int) (F:FitF) (C:List Aa):List Int:=Dr (g++adds g F C)
section
variable {g:List Int} {F:FitF} {C:List Aa}
theorem Al8 {i:Int} (h:i∈adds g F C):i ∉ g∧∃ p∈C,p.Id=i:=by
 obtain ⟨q,hq,rfl⟩:=List.mem_map.1 h
 obtain ⟨h1,h2,_⟩:=(Acw g F C).src q hq
 exact ⟨h2,_,h1,rfl⟩
theorem Anz (hC:(C.map (·.Id)).Nodup):(adds g F C).Nodup:=by
 unfold adds List.Nodup
 rw [List.pairwise_map]
 have hb:=Acw g F C
 refine List.Pairwise.imp_of_mem ?_ hb.map
 intro q q' hq hq' hne e
 obtain ⟨h1,_,h2⟩:=hb.src q hq
 obtain ⟨h3,_,h4⟩:=hb.src q' hq'
 rw [X.id_inj hC h1 h3 e,h4] at h2
 exact hne (Prod.mk.inj h2).1.symm
theorem Xw:(Vp g F C).Perm (g++adds g F C):=X.perm_sortI _
theorem Aix:(Vp g F C).length=g.length+(Aez g F C).length:=by
 rw [Xw.length_eq,List.length_append,adds,List.length_map]
theorem Akf:(Vp g F C).Pairwise (·≤·):=X.sorted_sortI _
theorem Al9 (hg:g.Nodup) (hC:(C.map (·.Id)).Nodup):(Vp g F C).Nodup:=by
 rw [Xw.nodup_iff,List.nodup_append]
 exact ⟨hg,Anz hC,fun a ha b hb e=>(Al8 hb).1 (e ▸ ha)⟩
theorem Arm (hg:∀ i∈g,∃ p∈C,p.Id=i) {i:Int} (h:i∈Vp g F C):∃ p∈C,p.Id=i:=by
 rcases List.mem_append.1 (Xw.mem_iff.1 h) with h | h
 ·exact hg i h
 ·exact (Al8 h).2
theorem Arn {i:Int} (h:i∈g):i∈Vp g F C:=Xw.mem_iff.2 (List.mem_append_left _ h)
theorem An0 (hg:g.Pairwise (·≤·)) (h:(Vp g F C).length=g.length):Vp g F C=g∧Aez g F C=[]:=by
 rw [Aix] at h
 have hb:Aez g F C=[]:=List.eq_nil_of_length_eq_zero (by omega)
 refine ⟨?_,hb⟩
 unfold Vp adds
 rw [hb,List.map_nil,List.append_nil]
 exact (X.sort_unique hg (List.Perm.refl _)).symm
end
end Go.Proofs.YtbkobeeileemjaaGreat
/- Words of 64 bits. -/
namespace Go.Proofs.YtbkobeeileemjaaGreat
open Go Go.RowKit
theorem Xx (x:Int):wu64 x=x % 18446744073709551616:=by unfold wu64;rw [IntKind.wrap_u64]
theorem Nu {j:Nat} (h:j≤18446744073709551615):wu64 (j:Int)=(j:Int):=by rw [Xx];omega
end Go.Proofs.YtbkobeeileemjaaGreat
/- Plain laws on machine words: products of two words, quotients of two words by one. -/
namespace Go.Proofs.YtbkobeeileemjaaGreat
open Go Go.RowKit
theorem wuM (n:Nat):wu64 (n:Int)=((n % 18446744073709551616:Nat):Int):=by rw [Xx];omega
theorem shrN (n j:Nat) (h:j≤64):shr_ .u64 (n:Int) (j:Int)=((n / 2 ^ j:Nat):Int):=by
 unfold shr_
 have e:min ((j:Int)).toNat IntKind.u64.bits=j:=by
  have:IntKind.u64.bits=64:=rfl
  rw [this];omega
 rw [e,Int.fdiv_eq_ediv_of_nonneg _ (by exact_mod_cast Nat.zero_le (2 ^ j))]
 norm_cast
theorem shlN (n j:Nat) (h:j≤64):shl_ .u64 (n:Int) (j:Int)=((n*2 ^ j % 18446744073709551616:Nat):Int):=by
 unfold shl_
 have e:min ((j:Int)).toNat IntKind.u64.bits=j:=by
  have:IntKind.u64.bits=64:=rfl
  rw [this];omega
 have c:(n:Int)*2 ^ j=((n*2 ^ j:Nat):Int):=by norm_cast
 rw [e,IntKind.wrap_u64,c]
 generalize n*2 ^ j=m
 omega
theorem Abr (n:Nat):shr_ .u64 (n:Int) 32=((n / 4294967296:Nat):Int):=shrN n 32 (by omega)
theorem andN (n:Nat):Dn .u64 (n:Int) 4294967295=((n % 4294967296:Nat):Int):=by
 unfold Dn
 have e:(BitVec.ofInt IntKind.u64.bits (n:Int) &&& BitVec.ofInt IntKind.u64.bits 4294967295).toNat=n % 4294967296:=by
  show (BitVec.ofInt 64 (n:Int) &&& BitVec.ofInt 64 4294967295).toNat=_
  rw [BitVec.toNat_and]
  have e1:(BitVec.ofInt 64 (n:Int)).toNat=n % 2 ^ 64:=by simp []
  have e2:(BitVec.ofInt 64 (4294967295:Int)).toNat=2 ^ 32-1:=by decide
  rw [e1,e2,Nat.and_two_pow_sub_one_eq_mod]
  omega
 rw [e,IntKind.wrap_u64]
 omega
theorem An1 (a1 a0 b1 b0:Nat) (h1:a1 < 4294967296) (h2:a0 < 4294967296) (h3:b1 < 4294967296) (h4:b0 < 4294967296) :
  a1*b1≤18446744065119617025∧a1*b0≤18446744065119617025∧a0*b1≤18446744065119617025∧a0*b0≤18446744065119617025:=by
 have k:∀ x y:Nat,x < 4294967296→y < 4294967296→x*y≤18446744065119617025:=fun x y hx hy =>
  Nat.le_trans (Nat.mul_le_mul (Nat.le_of_lt_succ hx) (Nat.le_of_lt_succ hy)) (by decide)
 exact ⟨k _ _ h1 h3,k _ _ h1 h4,k _ _ h2 h3,k _ _ h2 h4⟩
theorem At2 {a b:Nat} (ha:a < 18446744073709551616) (hb:b < 18446744073709551616) :
  Gc (a:Int) (b:Int)=some (((a*b / 18446744073709551616:Nat):Int),((a*b % 18446744073709551616:Nat):Int)):=by
 unfold Gc
 have e2:(a:Int)*(b:Int)=((a*b:Nat):Int):=by norm_cast
 simp only [Abr,andN,e2,wuM]
 have hm:=An1 (a / 4294967296) (a % 4294967296) (b / 4294967296) (b % 4294967296) (by omega) (by omega) (by omega) (by omega)
 have e:a*b=a / 4294967296*(b / 4294967296)*18446744073709551616+(a / 4294967296*(b % 4294967296)+a % 4294967296*(b / 4294967296))*4294967296+a % 4294967296*(b % 4294967296):=by
  have x1:a=a / 4294967296*4294967296+a % 4294967296:=by omega
  have x2:b=b / 4294967296*4294967296+b % 4294967296:=by omega
  generalize a / 4294967296=p at *
  generalize a % 4294967296=q at *
  generalize b / 4294967296=r at *
  generalize b % 4294967296=s at *
  subst x1;subst x2
  grind
 have c1:∀ x y:Nat,(x:Int)*(y:Int)=((x*y:Nat):Int):=fun x y=>by norm_cast
 have c2:∀ x y:Nat,(x:Int)+(y:Int)=((x+y:Nat):Int):=fun x y=>by norm_cast
 simp only [c1,c2,wuM,Abr,andN]
 rw [e]
 clear e e2 c1 c2
 generalize a / 4294967296*(b / 4294967296)=p at *
 generalize a / 4294967296*(b % 4294967296)=q at *
 generalize a % 4294967296*(b / 4294967296)=r at *
 generalize a % 4294967296*(b % 4294967296)=s at *
 obtain ⟨m1,m2,m3,m4⟩:=hm
 congr 3
 omega
end Go.Proofs.YtbkobeeileemjaaGreat
/- Plain laws: steepness, sums of products in two words, the digits of a quotient. -/
namespace Go.Proofs.YtbkobeeileemjaaGreat
open Go Go.RowKit
theorem At3 {g q s:Nat} (hg:g < 4294967296) (hs:s < 4294967296) (hq:q < 18446744073709551616) :
  Og (g:Int) (q:Int) (s:Int)=some (decide (g*g*1000000≤s*s*q)):=by
 have m1:g*g < 18446744073709551616:=by
  have:=Nat.mul_le_mul (show g≤4294967295 by omega) (show g≤4294967295 by omega);omega
 have m2:s*s < 18446744073709551616:=by
  have:=Nat.mul_le_mul (show s≤4294967295 by omega) (show s≤4294967295 by omega);omega
 have c1:∀ x y:Nat,(x:Int)*(y:Int)=((x*y:Nat):Int):=fun x y=>by norm_cast
 unfold Og
 rw [Nu (by omega),Nu (by omega),Nu (by omega),c1,c1,Nu (by omega),Nu (by omega)]
 rw [show (1000000:Int)=((1000000:Nat):Int) by omega,At2 m1 (show 1000000 < 18446744073709551616 by omega),Ah,At2 m2 hq,Ah]
 clear c1
 generalize g*g*1000000=a
 generalize s*s*q=b
 simp only [jn_d]
 by_cases h:a / 18446744073709551616 < b / 18446744073709551616
 ·rw [if_pos (by omega)]
  have:a≤b:=by omega
  simp [this]
 ·rw [if_neg (by omega)]
  by_cases h2:a / 18446744073709551616=b / 18446744073709551616
  ·rw [if_pos (by omega)]
   have:(((a % 18446744073709551616:Nat):Int)≤((b % 18446744073709551616:Nat):Int))↔a≤b:=by omega
   simp only [this]
  ·rw [if_neg (by omega)]
   have:¬ a≤b:=by omega
   simp [this]
def W2 (n:Nat):Fp:=⟨((n / 18446744073709551616:Nat):Int),((n % 18446744073709551616:Nat):Int)⟩
theorem Adx {n a b:Nat} (ha:a < 18446744073709551616) (hb:b < 18446744073709551616) (h:n+a*b < 340282366920938463463374607431768211456) :
  Fa (W2 n) (a:Int) (b:Int)=some (W2 (n+a*b)):=by
 unfold Fa
 rw [Nu (by omega),Nu (by omega),At2 ha hb,Ah]
 generalize a*b=m at *
 have e1:(W2 n).lo=((n % 18446744073709551616:Nat):Int):=rfl
 have e2:(W2 n).hi=((n / 18446744073709551616:Nat):Int):=rfl
 rw [gd_t (by rw [e1];omega),gd_t (by rw [e1,e2];dsimp only;omega),e1,e2]
 unfold W2
 congr 2 <;> omega
end Go.Proofs.YtbkobeeileemjaaGreat
/- Plain laws: the digits of a quotient of two words by one. -/
namespace Go.Proofs.YtbkobeeileemjaaGreat
open Go Go.RowKit
/-- The estimate of a digit and its corrections (B is the base). -/
theorem Aiy {σ:Type} {f:σ→Option (Sum σ Int)} (enc:Nat→Nat→σ) {B v1 v0 U u1:Nat} (h1:v1 < B) (h3:v0 < B) (hU:U < v1*B+v0) (hu:u1 < B) (h0:0 < v1)
  (hf:∀ q r:Nat,q*v1≤U→r < B→f (enc q r)=if B≤q∨B*r+u1 < q*v0 then (if B≤r+v1 then some (.inr ((q-1:Nat):Int)) else some (.inl (enc (q-1) (r+v1)))) else some (.inr (q:Int))) :
  lfix f (enc (U / v1) (U % v1))=some (((U*B+u1) / (v1*B+v0):Nat):Int):=by
 have hV:0 < v1*B+v0:=by
  have:=Nat.mul_pos h0 (show 0 < B by omega);omega
 have hQ:(U*B+u1) / (v1*B+v0) < B:=by
  rw [Nat.div_lt_iff_lt_mul hV]
  have:(U+1)*B≤(v1*B+v0)*B:=Nat.mul_le_mul_right _ hU
  rw [Nat.add_mul,Nat.one_mul] at this
  rw [Nat.mul_comm B]
  omega
 generalize hq:(U*B+u1) / (v1*B+v0)=Q at hQ ⊢
 have hle:∀ q,q≤Q↔q*(v1*B+v0)≤U*B+u1:=fun q=>by rw [← hq,Nat.le_div_iff_mul_le hV]
 have key:∀ q r:Nat,q*v1+r=U→r < B→Q≤q→lfix f (enc q r)=some (Q:Int):=by
  intro q
  induction q with
  | zero =>
   intro r e hr hq0
   rw [Dq,hf 0 r (by omega) hr,if_neg (by omega)]
   simp;omega
  | succ q ih =>
   intro r e hr hq1
   have ex:(q+1)*(v1*B+v0)+r*B=U*B+(q+1)*v0:=by rw [← e];grind
   have e':q*v1+(r+v1)=U:=by rw [← e];grind
   rw [Dq,hf (q+1) r (by omega) hr]
   by_cases hc:B≤q+1∨B*r+u1 < (q+1)*v0
   ·have hq2:Q≤q:=by
     rcases hc with hc | hc
     ·omega
     ·have:¬ (q+1)≤Q:=by
       rw [hle]
       rw [Nat.mul_comm B r] at hc
       omega
      omega
    rw [if_pos hc]
    by_cases hd:B≤r+v1
    ·rw [if_pos hd]
     have hqB:q < B:=by
      apply Classical.byContradiction
      intro hn
      have:B*v1≤q*v1:=Nat.mul_le_mul_right _ (by omega)
      rw [Nat.mul_comm B v1] at this
      omega
     have:q≤Q:=by
      rw [hle]
      have ey:q*(v1*B+v0)+(r+v1)*B=U*B+q*v0:=by rw [← e'];grind
      have x1:q*v0≤B*B:=Nat.mul_le_mul (by omega) (by omega)
      have x2:B*B≤(r+v1)*B:=Nat.mul_le_mul_right _ hd
      omega
     have:q=Q:=by omega
     subst this;simp
    ·rw [if_neg hd]
     exact ih (r+v1) e' (by omega) hq2
   ·rw [if_neg hc]
    have:q+1≤Q:=by
     rw [hle]
     rw [Nat.mul_comm B r] at hc
     omega
    have:q+1=Q:=by omega
    subst this;rfl
 have:=Nat.div_add_mod U v1
 refine key _ _ (by rw [Nat.mul_comm];exact this) (Nat.lt_trans (Nat.mod_lt _ h0) h1) ?_
 rw [← hq]
 rw [Nat.le_div_iff_mul_le h0]
 have a:=Nat.div_mul_le_self (U*B+u1) (v1*B+v0)
 generalize (U*B+u1) / (v1*B+v0)=q at *
 have b:q*v1*B≤U*B+u1:=by
  have:q*(v1*B+v0)=q*v1*B+q*v0:=by grind
  omega
 have c:q*v1*B < (U+1)*B:=by rw [Nat.add_mul,Nat.one_mul];omega
 have:=Nat.lt_of_mul_lt_mul_right c
 omega
end Go.Proofs.YtbkobeeileemjaaGreat
