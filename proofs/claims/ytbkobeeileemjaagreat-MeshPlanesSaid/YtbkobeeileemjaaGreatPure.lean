/- The plain laws of the arithmetic on lists of words. -/
import Derived.Test.YtbkobeeileemjaaGreatNat
import Derived.Laws.IdiomCopy
import Derived.Laws.StructEq
namespace Go.Proofs.YtbkobeeileemjaaGreat
open Go Go.RowKit

theorem Aj9 (m:Nat) (hm:m≤18446744073709551615):nrm [m % 4294967296,m / 4294967296 % 4294967296]=dig 4294967296 m:=by
 rw [Vm (b:=4294967296) (by omega) _ (by intro x hx;simp at hx;omega)]
 congr 1
 simp only [val]
 omega
theorem Agf {a b:Nat} (ha:a < 4294967296) (hb:b < 4294967296):a*b≤18446744065119617025:=by
 have:a*b≤4294967295*4294967295:=Nat.mul_le_mul (by omega) (by omega)
 omega
theorem Px {l:List Nat} {j v b:Nat} (h:∀ x∈l,x < b) (hv:v < b):∀ x∈l.set j v,x < b:=by
 intro x hx
 rcases List.mem_or_eq_of_mem_set hx with h' | h'
 ·exact h x h'
 ·rw [h'];exact hv
theorem Aka {l r out out0:List Nat} {n m i j cy:Nat} (hi:i < l.length) (hj:j < r.length) (hn:l.length=n) (hm:r.length=m) (h1:l[i] < 4294967296) (h2:r[j] < 4294967296)
  (hD1:out.length=n+m) (hD2:cy < 4294967296) (hD3:j≤m) (hD4:∀ x∈out,x < 4294967296) (hD5:∀ (q:Nat) (h:q < out.length),i+m≤q→out[q]=0)
  (hD6:val 4294967296 out+cy*4294967296 ^ (i+j)=val 4294967296 out0+l[i] * val 4294967296 (r.take j)*4294967296 ^ i) (hk:i+j < out.length) :
  (out.set (i+j) ((l[i] * r[j] + out[i+j] + cy) % 4294967296)).length=n+m∧(l[i] * r[j] + out[i+j] + cy) / 4294967296 < 4294967296∧j+1≤m ∧
   (∀ x∈out.set (i+j) ((l[i] * r[j] + out[i+j] + cy) % 4294967296),x < 4294967296) ∧
   (∀ (q:Nat) (h:q < (out.set (i+j) ((l[i] * r[j] + out[i+j] + cy) % 4294967296)).length),i+m≤q→(out.set (i+j) ((l[i] * r[j] + out[i+j] + cy) % 4294967296))[q]=0) ∧
   val 4294967296 (out.set (i+j) ((l[i] * r[j] + out[i+j] + cy) % 4294967296))+(l[i] * r[j] + out[i+j] + cy) / 4294967296*4294967296 ^ (i+(j+1)) =
    val 4294967296 out0+l[i] * val 4294967296 (r.take (j+1))*4294967296 ^ i:=by
 have h3:=hD4 out[i+j] (List.getElem_mem hk)
 have hmm:=Agf h1 h2
 refine ⟨by simp [hD1],by omega,by omega,Px hD4 (Nat.mod_lt _ (by omega)),fun q hq hiq=>?_,?_⟩
 ·rw [List.getElem_set_ne (by omega)]
  exact hD5 q (by simpa using hq) hiq
 ·have hs:=Um (b:=4294967296) out (i+j) ((l[i] * r[j] + out[i+j] + cy) % 4294967296) hk
  rw [Qm r j hj]
  generalize hV:val 4294967296 (out.set (i+j) ((l[i] * r[j] + out[i+j] + cy) % 4294967296))=V at hs ⊢
  have hdm:=Nat.div_add_mod (l[i] * r[j] + out[i+j] + cy) 4294967296
  generalize (l[i] * r[j] + out[i+j] + cy) / 4294967296=q at hdm ⊢
  generalize (l[i] * r[j] + out[i+j] + cy) % 4294967296=t at hdm hs
  have hp:(4294967296:Nat) ^ (i+(j+1))=4294967296 ^ (i+j)*4294967296:=by rw [← Nat.add_assoc,Nat.pow_succ]
  have hp2:(4294967296:Nat) ^ (i+j)=4294967296 ^ i*4294967296 ^ j:=Nat.pow_add _ _ _
  rw [hp]
  rw [hp2] at hs hD6 ⊢
  generalize (4294967296:Nat) ^ i=P at *
  generalize (4294967296:Nat) ^ j=R at *
  generalize val 4294967296 (r.take j)=W at *
  generalize val 4294967296 out=O at *
  generalize val 4294967296 out0=O0 at *
  generalize l[i]=a at *
  generalize r[j]=c at *
  generalize out[i+j]=o at *
  have e:=congrArg (· * (P*R)) hdm

  grind
theorem Akb {l r out out0:List Nat} {n m i j cy:Nat} (hi:i < l.length) (hn:l.length=n) (hm:r.length=m) (hD1:out.length=n+m) (hD2:cy < 4294967296) (hD4:∀ x∈out,x < 4294967296)
  (hD5:∀ (q:Nat) (h:q < out.length),i+m≤q→out[q]=0)
  (hD6:val 4294967296 out+cy*4294967296 ^ (i+j)=val 4294967296 out0+l[i] * val 4294967296 (r.take j)*4294967296 ^ i)
  (hC5:val 4294967296 out0=val 4294967296 (l.take i)*val 4294967296 r) (hj:j=m) :
  (out.set (i+m) (cy % 4294967296)).length=n+m∧i+1≤n∧(∀ x∈out.set (i+m) (cy % 4294967296),x < 4294967296) ∧
   (∀ (q:Nat) (h:q < (out.set (i+m) (cy % 4294967296)).length),i+1+m≤q→(out.set (i+m) (cy % 4294967296))[q]=0) ∧
   val 4294967296 (out.set (i+m) (cy % 4294967296))=val 4294967296 (l.take (i+1))*val 4294967296 r:=by
 subst hj
 rw [Nat.mod_eq_of_lt hD2]
 refine ⟨by simp [hD1],by omega,Px hD4 hD2,fun q hq hiq=>?_,?_⟩
 ·rw [List.getElem_set_ne (by omega)]
  exact hD5 q (by simpa using hq) (by omega)
 ·have hk:i+j < out.length:=by omega
  have hs:=Um (b:=4294967296) out (i+j) cy hk
  rw [hD5 (i+j) hk (Nat.le_refl _)] at hs
  rw [Qm l i hi]
  rw [List.take_of_length_le (by omega)] at hD6
  rw [hC5] at hD6
  rw [Nat.add_mul]
  have:4294967296 ^ i*l[i] * val 4294967296 r=l[i] * val 4294967296 r*4294967296 ^ i:=by grind
  omega
theorem Am4 {l r out:List Nat} {n m i:Nat} (hi:i=n) (hn:l.length=n) (hC1:out.length=n+m) (hC3:∀ x∈out,x < 4294967296)
  (hC5:val 4294967296 out=val 4294967296 (l.take i)*val 4294967296 r):nrm out=dig 4294967296 (val 4294967296 l*val 4294967296 r):=by
 subst hi
 rw [Vm (b:=4294967296) (by omega) out hC3,hC5,List.take_of_length_le (by omega)]
/-- Digits have no last zero. -/
theorem Aom {b:Nat} (hb:2≤b) (m:Nat):nrm (dig b m)=dig b m:=by
 rw [Vm hb _ (Aa8 hb m),In hb]
theorem Ai5 {b:Nat} (hb:2≤b):dig b 1=[1]:=by
 rw [Mb hb (by omega),Nat.mod_eq_of_lt (by omega),Nat.div_eq_of_lt (by omega)];rfl
theorem Ss {b : Nat} (hb : 2 ≤ b) : ∀ (k m : Nat), m < b ^ k → (dig b m).length ≤ k := by
  intro k
  induction k with
  | zero => intro m hm; have : m = 0 := by simpa using hm
            subst this; simp [Rd]
  | succ k ih =>
    intro m hm
    by_cases h0 : m = 0
    · subst h0; simp [Rd]
    · rw [Mb hb h0, List.length_cons]
      have := ih (m / b) (Nat.div_lt_of_lt_mul (by rw [Nat.pow_succ] at hm; rw [Nat.mul_comm]; exact hm))
      omega
end Go.Proofs.YtbkobeeileemjaaGreat
/- Copies of whole slices into own rows. -/
namespace Go.Proofs.YtbkobeeileemjaaGreat
open Go Go.RowKit
variable {P:Program} {n:Nat} {N:Act→World→Prop} {Q:Exit→Act→World→Prop} {fr:List (Nat × Value)} {L:List Ent}

/-! ### comparison of digits -/
def cmpN (x y:Nat):Int:=if x < y then -1 else if x=y then 0 else 1
theorem Ae4 {b:Nat} (hb:0 < b):∀ (l r:List Nat) (k:Nat) (hk:k < l.length) (hk':k < r.length),l.length=r.length→(∀ x∈l,x < b)→(∀ (j:Nat) (h:j < l.length) (h':j < r.length),k < j→l[j]=r[j])→l[k] < r[k]→val b l < val b r
 | [],_,_,hk,_,_,_,_,_=>by simp at hk
 | _::_,[],_,_,hk',_,_,_,_=>by simp at hk'
 | x::l,y::r,0,_,_,hlen,_,heq,hlt=>by
  have:l=r:=List.ext_getElem (by simpa using hlen) (fun j h1 h2=>heq (j+1) (by simpa using h1) (by simpa using h2) (by omega))
  subst this
  simp only [val]
  simpa using hlt
 | x::l,y::r,k+1,hk,hk',hlen,hl,heq,hlt=>by
  have ih:=Ae4 hb l r k (by simpa using hk) (by simpa using hk') (by simpa using hlen) (fun z hz=>hl z (List.mem_cons_of_mem _ hz))
   (fun j h1 h2 hj=>heq (j+1) (by simpa using h1) (by simpa using h2) (by omega)) (by simpa using hlt)
  have hx:=hl x List.mem_cons_self
  simp only [val]
  have:=Nat.mul_le_mul_left b (Nat.succ_le_of_lt ih)
  rw [Nat.succ_eq_add_one,Nat.mul_add] at this
  omega
theorem Wd {b x y : Nat} (hb : 2 ≤ b) (h : (dig b x).length < (dig b y).length) : x < y := by
  rcases Nat.lt_or_ge x y with h1 | h1
  · exact h1
  · exfalso
    have mono : ∀ (k x y : Nat), y ≤ k → y ≤ x → (dig b y).length ≤ (dig b x).length := by
      intro k
      induction k with
      | zero => intro x y hy _; have : y = 0 := by omega
                subst this; simp [Rd]
      | succ k ih =>
        intro x y hy hxy
        by_cases h0 : y = 0
        · subst h0; simp [Rd]
        · rw [Mb hb h0, Mb hb (show x ≠ 0 by omega)]
          have : y / b < y := Nat.div_lt_self (by omega) hb
          have := ih (x / b) (y / b) (by omega) (Nat.div_le_div_right hxy)
          simpa using this
    have := mono y x y (Nat.le_refl _) h1
    omega
theorem Ai6 {b x y:Nat} (hb:2≤b) {n m:Nat} (h1:(dig b x).length=n) (h2:(dig b y).length=m):(n < m→cmpN x y = -1)∧(m < n→cmpN x y=1):=by
 subst h1;subst h2
 constructor
 ·intro h;have:=Wd hb h;simp [cmpN,this]
 ·intro h;have:=Wd hb h;simp only [cmpN];rw [if_neg (by omega),if_neg (by omega)]
theorem Aqn {b x y:Nat} (hb:2≤b) {k:Nat} (hlen:(dig b x).length=(dig b y).length) (hk:k < (dig b x).length) (hk':k < (dig b y).length)
  (heq:∀ (j:Nat) (h:j < (dig b x).length) (h':j < (dig b y).length),k < j→(dig b x)[j]=(dig b y)[j]) :
  ((dig b x)[k] < (dig b y)[k]→cmpN x y = -1)∧((dig b y)[k] < (dig b x)[k]→cmpN x y=1):=by
 constructor
 ·intro h
  have:=Ae4 (b:=b) (by omega) _ _ k hk hk' hlen (Aa8 hb x) heq h
  rw [In hb,In hb] at this
  simp [cmpN,this]
 ·intro h
  have:=Ae4 (b:=b) (by omega) _ _ k hk' hk hlen.symm (Aa8 hb y) (fun j h1 h2 hj=>(heq j h2 h1 hj).symm) h
  rw [In hb,In hb] at this
  simp only [cmpN];rw [if_neg (by omega),if_neg (by omega)]
theorem Aqo {b x y:Nat} (hb:2≤b) (hlen:(dig b x).length=(dig b y).length) (heq:∀ (j:Nat) (h:j < (dig b x).length) (h':j < (dig b y).length),(dig b x)[j]=(dig b y)[j]):cmpN x y=0:=by
 have:dig b x=dig b y:=List.ext_getElem hlen heq
 have h2:=congrArg (val b) this
 rw [In hb,In hb] at h2
 simp [cmpN,h2]
/-! ### lists of entries that a contract is given -/
theorem Bt {K K2 L:List Ent} {w w1:World} (hK:∀ e∈K,Ent.ok w e) (h0:SubE [.old w] L) (h:SubE K2 L) (hw:Heap L w1):∀ e∈K++K2,Ent.ok w1 e:=by
 intro e he
 rcases List.mem_append.1 he with he | he
 ·exact Ent.ext (hK e he) (h0.ok w1 hw.ok _ List.mem_cons_self)
 ·exact h.ok w1 hw.ok e he
theorem SubE.appL {K K2:List Ent}:SubE K (K++K2):=.of fun _ h=>List.mem_append_left _ h
theorem SubE.appR {K K1 K2:List Ent} (h:SubE K1 K2):SubE K1 (K++K2):=⟨fun w hw=>h.ok w fun x hx=>hw x (List.mem_append_right _ hx)⟩

/-! ### digits by division -/
end Go.Proofs.YtbkobeeileemjaaGreat
/- Equality of structs; a row with no element but room. -/
namespace Go.Proofs.YtbkobeeileemjaaGreat
open Go Go.RowKit
variable {P:Program} {n:Nat} {fr:List (Nat × Value)} {L:List Ent} {dst:Option Nat} {ty:TypeId} {pos:String} {after:Array Edge} {guard:Option (Nat × Bool)}

inductive EqF (P:Program) (d:Nat) (xs ys:Array Value):List Field→Bool→Prop
 | nil:EqF P d xs ys [] true
 | cons {f fs a b r r'} (hn : (f.name == "_") = false) (hx : ∀ w, (part f.type xs f.offset).run P w = .ok a w) (hy : ∀ w, (part f.type ys f.offset).run P w = .ok b w)
   (he:∀ w,(Op.equalIn d f.type a b).run P w = .ok r w) (h:EqF P d xs ys fs r'):EqF P d xs ys (f::fs) (r && r')
theorem EqF.run {d xs ys fs r} (h:EqF P d xs ys fs r):∀ w,(Op.eqFields d xs ys fs).run P w = .ok r w:=by
 induction h with
 | nil=>intro w;simp [Op.eqFields]
 | cons hn hx hy he _ ih =>
  intro w
  rename_i f fs a b r r' _
  have hn' : f.name ≠ "_" := by simpa using hn
  simp only [Op.eqFields,hn',ne_eq,not_false_eq_true,if_true,Sem.run_bind,hx,hy,he,Result.andThen_ok]
  cases r with
  | true=>simp [ih w]
  | false=>simp
theorem EqF.struct {d t xs ys r fs} (ht:P.underlying t=some (.struct fs)) (hp:P.stoodInHeld t=false) (h:EqF P d xs ys fs.toList r):∀ w,(Op.equalIn (d+1) t (.agg xs) (.agg ys)).run P w = .ok r w:=by
 intro w
 have hf:P.fieldsOf t=fs:=by simp [Program.fieldsOf,ht]
 rw [run_equalIn_struct w d t xs ys (by rw [hf];exact ht) hp,hf]
 exact h.run w
theorem Aon {t t' x y xs ys r} (hx:evo fr x=some (.agg xs)) (hy:evo fr y=some (.agg ys)) (hm:P.eqGuardType P.depth t=false) (h:∀ w,(Op.equalIn 10000 t (.agg xs) (.agg ys)).run P w = .ok r w) :
  Ev P n ⟨dst,.binOp .eql t x y t',ty,pos,after,guard⟩ fr L (.bool r):=fun ac w ha _=>by
 simp [execOp,ha.eval hx,ha.eval hy,run_eqGuard_agg w .eql t x y xs ys hm,run_eql_struct,h]
theorem Aoo {t t' x y xs ys r} (hx:evo fr x=some (.agg xs)) (hy:evo fr y=some (.agg ys)) (hm:P.eqGuardType P.depth t=false) (h:∀ w,(Op.equalIn 10000 t (.agg xs) (.agg ys)).run P w = .ok r w) :
  Ev P n ⟨dst,.binOp .neq t x y t',ty,pos,after,guard⟩ fr L (.bool (!r)):=fun ac w ha _=>by
 simp [execOp,ha.eval hx,ha.eval hy,run_eqGuard_agg w .neq t x y xs ys hm,run_neq_struct,h]
/-! ### operations behind a test that was not reached itself -/
section
variable {ops:Array Oper} {Q:Exit→Act→World→Prop} {rest:List Oper} {op:Op} {d:Nat} {cls:Cls} {A:List (List Nat)} {RL:List Nat} {R:World→Prop} {p alt:Plan} {i:Nat}
theorem Ue {j s:Nat} {b:Bool} {a:Act} (hj:(ops[j]?).bind (·.dst)=some s) (ha:Fr n fr a) (hs:look fr s=some undef) (hsn:Nat.blt s n=true) :
  Region.wanted ⟨some d,op,ty,pos,after,some (j,b)⟩ (yielded ops a.tmps)=false:=by
 have hv:=ha.val s _ hs
 have hlt:s < a.tmps.size:=by rw [ha.size];exact (Nat.blt_eq ▸ hsn)
 have hg:a.tmps[s]? = some undef:=by
  rw [Array.getD_eq_getD_getElem?,Array.getElem?_eq_getElem hlt] at hv
  rw [Array.getElem?_eq_getElem hlt]
  simpa using hv
 have hy:yielded ops a.tmps j=none:=by
  unfold yielded
  rw [hj]
  simp [hg,undef]
 simp [Region.wanted,hy]
theorem Ae5 {j s:Nat} {b:Bool} (hj:(ops[j]?).bind (·.dst)=some s) (hs:look fr s=some undef) (hsn:Nat.blt s n=true)
  (hd:Nat.blt d n=true) (k:T n (wpList P ops Q rest) ((d,undef)::fr) L) :
  T n (wpList P ops Q (⟨some d,op,ty,pos,after,some (j,b)⟩ :: rest)) fr L:=by
 intro a w ha hw
 refine wpList_step (fun K hK=>?_)
 rw [if_neg (by rw [Ue hj ha hs hsn];simp)]
 exact hK _ _ (k _ _ (ha.put hd) hw)
theorem Aop {j s:Nat} {b:Bool} (ho:ops[i]? = some ⟨some d,op,ty,pos,after,some (j,b)⟩) (hj:(ops[j]?).bind (·.dst)=some s) (hs:look fr s=some undef) (hsn:Nat.blt s n=true)
  (hd:Nat.blt d n=true) (k:T n (Ce P ops Q cls A RL R p) ((d,undef)::fr) L):T n (Ce P ops Q cls A RL R (.q i p)) fr L:=by
 intro a w ha hw
 have hwn:Region.wanted ⟨some d,op,ty,pos,after,some (j,b)⟩ (yielded ops a.tmps)=false:=Ue hj ha hs hsn
 show if _ then _ else _
 by_cases hc:Nat.beq (cls.getD i 9) 0=true
 ·rw [if_pos hc]
  exact ⟨_,ho,.inr ⟨hwn,k _ _ (ha.put hd) hw⟩⟩
 ·rw [if_neg hc]
  split
  ·exact ⟨_,ho,.inr ⟨hwn,k _ _ (ha.put hd) hw⟩⟩
  ·exact ⟨_,ho,.inr ⟨hwn,k _ _ (ha.put hd) hw⟩⟩
end
end Go.Proofs.YtbkobeeileemjaaGreat
/- Plain functions with guards, and how a walk follows one: the pure side of each function of the program is printed as such a function. -/
namespace Go.Proofs.YtbkobeeileemjaaGreat
open Go Go.RowKit

/-! ### plain functions -/
def gd {ρ:Type} (p:Prop) [Decidable p] (k:Option ρ):Option ρ:=if p then k else none
def bnd {α ρ:Type} (o:Option α) (k:α→Option ρ):Option ρ:=match o with
 | some x=>k x
 | none=>none
def jn {τ ρ:Type} (k:τ→Option ρ) (x:(τ→Option ρ)→Option ρ):Option ρ:=x k
theorem Cj {ρ:Type} {p:Prop} [Decidable p] {k:Option ρ} {r:ρ} (h:gd p k=some r):p∧k=some r:=by
 unfold gd at h;split at h
 ·exact ⟨‹_›,h⟩
 ·cases h
theorem Ae {α ρ:Type} {o:Option α} {k:α→Option ρ} {r:ρ} (h:bnd o k=some r):∃ x,o=some x∧k x=some r:=by
 cases o with
 | none=>cases h
 | some x=>exact ⟨x,rfl,h⟩
theorem Md {τ ρ:Type} {k:τ→Option ρ} {x:(τ→Option ρ)→Option ρ} {r:ρ} (h:jn k x=some r):∃ j,j=k∧x j=some r:=⟨k,rfl,h⟩
theorem Eh {ρ:Type} {p:Prop} [Decidable p] {a b o:Option ρ} (hp:p) (h:(if p then a else b)=o):a=o:=by rw [if_pos hp] at h;exact h
theorem Sw {ρ:Type} {p:Prop} [Decidable p] {a b o:Option ρ} (hp:¬ p) (h:(if p then a else b)=o):b=o:=by rw [if_neg hp] at h;exact h
theorem El {ρ:Type} {p:Bool} {a b o:Option ρ} (hp:p=false) (h:(if p=true then a else b)=o):b=o:=by subst hp;exact h

def lrun {σ τ:Type} (B:σ→Option (Sum σ τ)):Nat→σ→Option τ
 | 0,_=>none
 | n+1,s=>match B s with
  | some (.inl s')=>lrun B n s'
  | some (.inr t)=>some t
  | none=>none
noncomputable def lfix {σ τ:Type} (B:σ→Option (Sum σ τ)) (s:σ):Option τ :=
 @dite (Option τ) (∃ n t,lrun B n s=some t) (Classical.propDecidable _) (fun h=>some (Classical.choose (Classical.choose_spec h))) (fun _=>none)
theorem Uw {σ τ:Type} {B:σ→Option (Sum σ τ)}:∀ {n m:Nat} {s:σ} {t:τ},lrun B n s=some t→n≤m→lrun B m s=some t
 | 0,_,_,_,h,_=>by simp [lrun] at h
 | n+1,0,_,_,_,h=>by omega
 | n+1,m+1,s,t,h,hm=>by
  simp only [lrun] at h ⊢
  split at h
  ·exact Uw h (by omega)
  ·exact h
  ·cases h
theorem Aca {σ τ:Type} {B:σ→Option (Sum σ τ)} {n m:Nat} {s:σ} {t u:τ} (h:lrun B n s=some t) (h':lrun B m s=some u):t=u:=by
 have h1:=Uw h (Nat.le_max_left n m)
 have h2:=Uw h' (Nat.le_max_right n m)
 rw [h1] at h2;injection h2
theorem Rw {σ τ:Type} {B:σ→Option (Sum σ τ)} {s:σ} {t:τ}:lfix B s=some t↔∃ n,lrun B n s=some t:=by
 unfold lfix
 constructor
 ·intro h
  split at h
  ·rename_i hx
   injection h with h
   obtain hs:=Classical.choose_spec (Classical.choose_spec hx)
   rw [h] at hs
   exact ⟨_,hs⟩
  ·cases h
 ·rintro ⟨n,h⟩
  have hx:∃ n t,lrun B n s=some t:=⟨n,t,h⟩
  rw [dif_pos hx]
  exact congrArg some (Aca (Classical.choose_spec (Classical.choose_spec hx)) h)
theorem Ck {σ τ:Type} (B:σ→Option (Sum σ τ)) (s:σ):lfix B s=match B s with
  | some (.inl s')=>lfix B s'
  | some (.inr t)=>some t
  | none=>none:=by
 apply Option.ext
 intro t
 rw [Rw]
 constructor
 ·rintro ⟨n,h⟩
  cases n with
  | zero=>simp [lrun] at h
  | succ n =>
   simp only [lrun] at h
   split at h
   ·rename_i s' hb;exact Rw.2 ⟨n,h⟩
   ·exact h
   ·cases h
 ·intro h
  cases hb:B s with
  | none=>rw [hb] at h;cases h
  | some x =>
   rw [hb] at h
   cases x with
   | inl s' =>
    obtain ⟨n,hn⟩:=Rw.1 h
    exact ⟨n+1,by simp only [lrun,hb];exact hn⟩
   | inr u=>exact ⟨1,by simp only [lrun,hb];exact h⟩
noncomputable def Vg {σ τ:Type} (B:σ→Option (Sum σ τ)) (s:σ):Nat:=@dite Nat (∃ n t,lrun B n s=some t) (Classical.propDecidable _) (fun h=>go (Classical.choose h)) (fun _=>0)
where go (n:Nat):Nat:=match n with
 | 0=>0
 | k+1=>if (lrun B k s).isSome=true then go k else k+1
theorem Agg {σ τ:Type} (B:σ→Option (Sum σ τ)) (s:σ):∀ (n:Nat) (t:τ),lrun B n s=some t→lrun B (Vg.go B s n) s=some t∧∀ m u,lrun B m s=some u→Vg.go B s n≤m
 | 0,t,h=>by simp [lrun] at h
 | n+1,t,h=>by
  unfold Vg.go
  by_cases hx:(lrun B n s).isSome=true
  ·rw [if_pos hx]
   obtain ⟨u,hu⟩:=Option.isSome_iff_exists.1 hx
   rw [Aca h hu]
   exact Agg B s n u hu
  ·rw [if_neg hx]
   refine ⟨h,fun m u hm=>?_⟩
   rcases Nat.lt_or_ge m (n+1) with hlt | hge
   ·exact absurd (by rw [Uw hm (show m≤n by omega)];rfl) hx
   ·exact hge
theorem Acb {σ τ:Type} {B:σ→Option (Sum σ τ)} {s:σ} {t:τ} (h:lfix B s=some t):lrun B (Vg B s) s=some t∧∀ m u,lrun B m s=some u→Vg B s≤m:=by
 obtain ⟨n,hn⟩:=Rw.1 h
 have hx:∃ n t,lrun B n s=some t:=⟨n,t,hn⟩
 unfold Vg
 rw [dif_pos hx]
 obtain ⟨u,hu⟩:=Classical.choose_spec hx
 have:=Aca hu hn
 subst this
 exact Agg B s _ u hu
theorem Am5 {σ τ:Type} {B:σ→Option (Sum σ τ)} {s s':σ} {t:τ} (h:lfix B s=some t) (hb:B s=some (.inl s')):lfix B s'=some t∧Vg B s' < Vg B s:=by
 obtain ⟨h1,_⟩:=Acb h
 cases hn:Vg B s with
 | zero=>rw [hn] at h1;simp [lrun] at h1
 | succ n =>
  rw [hn] at h1
  simp only [lrun,hb] at h1
  exact ⟨Rw.2 ⟨n,h1⟩,Nat.lt_succ_of_le ((Acb (Rw.2 ⟨n,h1⟩)).2 n t h1)⟩
/-- How a loop is shown to end: by an invariant and a measure. -/
theorem Kc {σ τ:Type} {B:σ→Option (Sum σ τ)} (μ:σ→Nat) (C:σ→Prop) (R:τ→Prop) (h:∀ s,C s→(∃ s',B s=some (.inl s')∧C s'∧μ s' < μ s)∨∃ t,B s=some (.inr t)∧R t) :
  ∀ s,C s→∃ t,lfix B s=some t∧R t:=by
 have key:∀ (n:Nat) (s:σ),μ s=n→C s→∃ t,lfix B s=some t∧R t:=by
  intro n
  induction n using Nat.strongRecOn with
  | ind n ih =>
   intro s hn hs
   rw [Ck]
   rcases h s hs with ⟨s',hb,hC,hm⟩ | ⟨t,hb,hR⟩
   ·rw [hb];exact ih (μ s') (by omega) s' rfl hC
   ·rw [hb];exact ⟨t,rfl,hR⟩
 exact fun s hs=>key _ s rfl hs

/-! ### lists -/
def idx {α:Type} (l:List α) (i:Int):Option α:=if 0≤i then l[i.toNat]? else none
def setI {α:Type} (l:List α) (i:Int) (x:α):List α:=l.set i.toNat x
theorem Rx {α:Type} {l:List α} {i:Int} {x:α} (h:idx l i=some x):∃ (j:Nat) (hj:j < l.length),i=(j:Int)∧l[j]=x:=by
 unfold idx at h
 split at h
 ·obtain ⟨hj,hx⟩:=List.getElem?_eq_some_iff.1 h
  exact ⟨i.toNat,hj,by omega,hx⟩
 ·cases h
theorem Cm {α:Type} {l:List α} {j:Nat} (hj:j < l.length):idx l (j:Int)=some l[j]:=by
 unfold idx;rw [if_pos (by omega)];simp [hj]
theorem Ca {α:Type} {l:List α} {i:Int} {x:α}:(setI l i x).length=l.length:=by simp [setI]
theorem Agh {α:Type} {l:List α} {j:Nat} {x:α}:setI l (j:Int) x=l.set j x:=by simp [setI]
def subl {α:Type} (l:List α) (i j:Int):List α:=(l.take j.toNat).drop i.toNat

def w64 (x:Int):Int:=IntKind.wrap .i64 x
def wu64 (x:Int):Int:=IntKind.wrap .u64 x
def wu32 (x:Int):Int:=IntKind.wrap .u32 x
def wu8 (x:Int):Int:=IntKind.wrap .u8 x
theorem Aqp (x:Int):w64 x=(x+9223372036854775808) % 18446744073709551616-9223372036854775808:=by
 unfold w64;rw [IntKind.wrap_i64]
theorem Bu {x:Int} (h:-9223372036854775808≤x) (h':x≤9223372036854775807):w64 x=x:=by rw [Aqp];omega
end Go.Proofs.YtbkobeeileemjaaGreat
