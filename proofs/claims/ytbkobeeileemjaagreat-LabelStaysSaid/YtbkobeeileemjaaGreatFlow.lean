/- Equality of structs; a row with no element but room. -/
import Derived.Test.YtbkobeeileemjaaGreatMem
import Derived.Laws.StructEq
namespace Go.Proofs.YtbkobeeileemjaaGreat
open Go Go.RowKit
variable {P:Program} {n:Nat} {fr:List (Nat × Value)} {L:List Ent} {dst:Option Nat} {ty:TypeId} {pos:String} {after:Array Edge} {guard:Option (Nat × Bool)}

inductive EqF (P:Program) (d:Nat) (xs ys:Array Value):List Field→Bool→Prop
 | nil:EqF P d xs ys [] true
 | cons {f fs a b r r'} (hn : (f.name == "_") = false) (hx : ∀ w, (part f.type xs f.offset).run P w = .ok a w) (hy : ∀ w, (part f.type ys f.offset).run P w = .ok b w)
   (he:∀ w,(Op.equalIn d f.type a b).run P w = .ok r w) (h:EqF P d xs ys fs r'):EqF P d xs ys (f::fs) (r && r')
theorem EqF.run {d xs ys fs r} (h:EqF P d xs ys fs r):∀ w,(Op.eqFields d xs ys fs).run P w = .ok r w:=by
 induction h with
 | nil=>intro w;simp [Op.eqFields]
 | cons hn hx hy he _ ih =>
  intro w
  rename_i f fs a b r r' _
  have hn' : f.name ≠ "_" := by simpa using hn
  simp only [Op.eqFields,hn',ne_eq,not_false_eq_true,if_true,Sem.run_bind,hx,hy,he,Result.andThen_ok]
  cases r with
  | true=>simp [ih w]
  | false=>simp
theorem EqF.struct {d t xs ys r fs} (ht:P.underlying t=some (.struct fs)) (hp:P.stoodInHeld t=false) (h:EqF P d xs ys fs.toList r):∀ w,(Op.equalIn (d+1) t (.agg xs) (.agg ys)).run P w = .ok r w:=by
 intro w
 have hf:P.fieldsOf t=fs:=by simp [Program.fieldsOf,ht]
 rw [run_equalIn_struct w d t xs ys (by rw [hf];exact ht) hp,hf]
 exact h.run w
theorem Aw9 {t t' x y xs ys r} (hx:evo fr x=some (.agg xs)) (hy:evo fr y=some (.agg ys)) (hm:P.eqGuardType P.depth t=false) (h:∀ w,(Op.equalIn 10000 t (.agg xs) (.agg ys)).run P w = .ok r w) :
  Ev P n ⟨dst,.binOp .eql t x y t',ty,pos,after,guard⟩ fr L (.bool r):=fun ac w ha _=>by
 simp [execOp,ha.eval hx,ha.eval hy,run_eqGuard_agg w .eql t x y xs ys hm,run_eql_struct,h]
theorem Ap7 {t t' x y xs ys r} (hx:evo fr x=some (.agg xs)) (hy:evo fr y=some (.agg ys)) (hm:P.eqGuardType P.depth t=false) (h:∀ w,(Op.equalIn 10000 t (.agg xs) (.agg ys)).run P w = .ok r w) :
  Ev P n ⟨dst,.binOp .neq t x y t',ty,pos,after,guard⟩ fr L (.bool (!r)):=fun ac w ha _=>by
 simp [execOp,ha.eval hx,ha.eval hy,run_eqGuard_agg w .neq t x y xs ys hm,run_neq_struct,h]
/-- make([]T, 0, m), T of one cell. -/
theorem Amt {N:Act→World→Prop} {Q:Exit→Act→World→Prop} {d:Nat} {t e x y k1 k2 i1 i2 i z} {m:Nat} (hx:evo fr x=some (.int k1 i1)) (hy:evo fr y=some (.int k2 i2)) (h1:i1=0) (h2:i2=(m:Int))
  (ht:P.underlying t=some (.slice e)) (hi:P.info? e=some i) (hz:i.zero=some z) (hzc:z.cells = #[z]) (hs:i.size=1) (hb:i.bytes*m≤281474976710656) (hm:m≤9223372036854775807)
  (hd:Nat.blt d n=true) (k:∀ A c,T n N ((d,.slice A 0 c)::fr) (.r A 0 c e 1 []::L)):Wx P Q n ⟨some d,.makeSlice t x y,ty,pos,after,guard⟩ fr L N:=by
 intro a w ha hw
 have hb':(i.bytes:Int)*((m:Nat):Int)≤281474976710656:=by
  have h:((i.bytes*m:Nat):Int)≤281474976710656:=by omega
  rwa [Int.natCast_mul] at h
 have hr:=run_make (P:=P) w t e i z ht hi hz k1 k2 0 m (by omega) (by omega) hb' (by omega)
 subst h1;subst h2
 simp only [Int.toNat_natCast,hs,Nat.mul_one,hzc,Aa5,show Int.toNat 0=0 from rfl] at hr
 have hrun:(execOp a.eval ⟨some d,.makeSlice t x y,ty,pos,after,guard⟩).run P w = .ok (.value (.slice (some ⟨w.heap.size,0,none⟩) 0 m)) (w.alloc (.cells (List.replicate m z).toArray e)):=by
  simp [execOp,ha.eval hx,ha.eval hy,hr]
 simp only [Oper.wp,hrun,Oper.upon_value]
 refine ⟨Pz w _,k _ _ _ _ (ha.put hd) ?_⟩
 have h':=hw.allocR e 1 m (List.replicate m z) (by simp) (by unfold maxLen;omega)
 refine ⟨fun x hx=>?_,?_⟩
 ·rcases List.mem_cons.1 hx with rfl | hx
  ·exact ⟨by simp,.inr ⟨w.heap.size,m,(List.replicate m z).toArray,rfl,Nat.zero_le _,heap_alloc_new w _,Nat.zero_le _,by unfold maxLen;omega,by simp,by simp⟩⟩
  ·exact h'.ok x (List.mem_cons_of_mem _ hx)
 ·have hp:=h'.sep
  rw [List.pairwise_cons] at hp ⊢
  exact ⟨fun x hx=>hp.1 x hx,hp.2⟩

/-! ### operations behind a test that was not reached itself -/
section
variable {ops:Array Oper} {Q:Exit→Act→World→Prop} {rest:List Oper} {op:Op} {d:Nat} {cls:Cls} {A:List (List Nat)} {RL:List Nat} {R:World→Prop} {p alt:Plan} {i:Nat}
theorem Zz {j s:Nat} {b:Bool} {a:Act} (hj:(ops[j]?).bind (·.dst)=some s) (ha:Fr n fr a) (hs:look fr s=some undef) (hsn:Nat.blt s n=true) :
  Region.wanted ⟨some d,op,ty,pos,after,some (j,b)⟩ (yielded ops a.tmps)=false:=by
 have hv:=ha.val s _ hs
 have hlt:s < a.tmps.size:=by rw [ha.size];exact (Nat.blt_eq ▸ hsn)
 have hg:a.tmps[s]? = some undef:=by
  rw [Array.getD_eq_getD_getElem?,Array.getElem?_eq_getElem hlt] at hv
  rw [Array.getElem?_eq_getElem hlt]
  simpa using hv
 have hy:yielded ops a.tmps j=none:=by
  unfold yielded
  rw [hj]
  simp [hg,undef]
 simp [Region.wanted,hy]
theorem Akt {j s:Nat} {b:Bool} (hj:(ops[j]?).bind (·.dst)=some s) (hs:look fr s=some undef) (hsn:Nat.blt s n=true)
  (hd:Nat.blt d n=true) (k:T n (wpList P ops Q rest) ((d,undef)::fr) L) :
  T n (wpList P ops Q (⟨some d,op,ty,pos,after,some (j,b)⟩ :: rest)) fr L:=by
 intro a w ha hw
 refine wpList_step (fun K hK=>?_)
 rw [if_neg (by rw [Zz hj ha hs hsn];simp)]
 exact hK _ _ (k _ _ (ha.put hd) hw)
theorem Axa {j s:Nat} {b:Bool} (ho:ops[i]? = some ⟨some d,op,ty,pos,after,some (j,b)⟩) (hj:(ops[j]?).bind (·.dst)=some s) (hs:look fr s=some undef) (hsn:Nat.blt s n=true)
  (hd:Nat.blt d n=true) (k:T n (Cj P ops Q cls A RL R p) ((d,undef)::fr) L):T n (Cj P ops Q cls A RL R (.q i p)) fr L:=by
 intro a w ha hw
 have hwn:Region.wanted ⟨some d,op,ty,pos,after,some (j,b)⟩ (yielded ops a.tmps)=false:=Zz hj ha hs hsn
 show if _ then _ else _
 by_cases hc:Nat.beq (cls.getD i 9) 0=true
 ·rw [if_pos hc]
  exact ⟨_,ho,.inr ⟨hwn,k _ _ (ha.put hd) hw⟩⟩
 ·rw [if_neg hc]
  split
  ·exact ⟨_,ho,.inr ⟨hwn,k _ _ (ha.put hd) hw⟩⟩
  ·exact ⟨_,ho,.inr ⟨hwn,k _ _ (ha.put hd) hw⟩⟩
end
end Go.Proofs.YtbkobeeileemjaaGreat
/- Plain functions with guards, and how a walk follows one: the pure side of each function of the program is printed as such a function. -/
namespace Go.Proofs.YtbkobeeileemjaaGreat
open Go Go.RowKit

/-! ### plain functions -/
def gd {ρ:Type} (p:Prop) [Decidable p] (k:Option ρ):Option ρ:=if p then k else none
def bnd {α ρ:Type} (o:Option α) (k:α→Option ρ):Option ρ:=match o with
 | some x=>k x
 | none=>none
def jn {τ ρ:Type} (k:τ→Option ρ) (x:(τ→Option ρ)→Option ρ):Option ρ:=x k
theorem Bh {ρ:Type} {p:Prop} [Decidable p] {k:Option ρ} {r:ρ} (h:gd p k=some r):p∧k=some r:=by
 unfold gd at h;split at h
 ·exact ⟨‹_›,h⟩
 ·cases h
theorem Ad {α ρ:Type} {o:Option α} {k:α→Option ρ} {r:ρ} (h:bnd o k=some r):∃ x,o=some x∧k x=some r:=by
 cases o with
 | none=>cases h
 | some x=>exact ⟨x,rfl,h⟩
theorem Vs {τ ρ:Type} {k:τ→Option ρ} {x:(τ→Option ρ)→Option ρ} {r:ρ} (h:jn k x=some r):∃ j,j=k∧x j=some r:=⟨k,rfl,h⟩
theorem Cp {ρ:Type} {p:Prop} [Decidable p] {a b o:Option ρ} (hp:p) (h:(if p then a else b)=o):a=o:=by rw [if_pos hp] at h;exact h
theorem Ne {ρ:Type} {p:Prop} [Decidable p] {a b o:Option ρ} (hp:¬ p) (h:(if p then a else b)=o):b=o:=by rw [if_neg hp] at h;exact h
theorem Db {ρ:Type} {p:Bool} {a b o:Option ρ} (hp:p=false) (h:(if p=true then a else b)=o):b=o:=by subst hp;exact h

def lrun {σ τ:Type} (B:σ→Option (Sum σ τ)):Nat→σ→Option τ
 | 0,_=>none
 | n+1,s=>match B s with
  | some (.inl s')=>lrun B n s'
  | some (.inr t)=>some t
  | none=>none
noncomputable def lfix {σ τ:Type} (B:σ→Option (Sum σ τ)) (s:σ):Option τ :=
 @dite (Option τ) (∃ n t,lrun B n s=some t) (Classical.propDecidable _) (fun h=>some (Classical.choose (Classical.choose_spec h))) (fun _=>none)
theorem Aau {σ τ:Type} {B:σ→Option (Sum σ τ)}:∀ {n m:Nat} {s:σ} {t:τ},lrun B n s=some t→n≤m→lrun B m s=some t
 | 0,_,_,_,h,_=>by simp [lrun] at h
 | n+1,0,_,_,_,h=>by omega
 | n+1,m+1,s,t,h,hm=>by
  simp only [lrun] at h ⊢
  split at h
  ·exact Aau h (by omega)
  ·exact h
  ·cases h
theorem Ahl {σ τ:Type} {B:σ→Option (Sum σ τ)} {n m:Nat} {s:σ} {t u:τ} (h:lrun B n s=some t) (h':lrun B m s=some u):t=u:=by
 have h1:=Aau h (Nat.le_max_left n m)
 have h2:=Aau h' (Nat.le_max_right n m)
 rw [h1] at h2;injection h2
theorem Xe {σ τ:Type} {B:σ→Option (Sum σ τ)} {s:σ} {t:τ}:lfix B s=some t↔∃ n,lrun B n s=some t:=by
 unfold lfix
 constructor
 ·intro h
  split at h
  ·rename_i hx
   injection h with h
   obtain hs:=Classical.choose_spec (Classical.choose_spec hx)
   rw [h] at hs
   exact ⟨_,hs⟩
  ·cases h
 ·rintro ⟨n,h⟩
  have hx:∃ n t,lrun B n s=some t:=⟨n,t,h⟩
  rw [dif_pos hx]
  exact congrArg some (Ahl (Classical.choose_spec (Classical.choose_spec hx)) h)
theorem Dq {σ τ:Type} (B:σ→Option (Sum σ τ)) (s:σ):lfix B s=match B s with
  | some (.inl s')=>lfix B s'
  | some (.inr t)=>some t
  | none=>none:=by
 apply Option.ext
 intro t
 rw [Xe]
 constructor
 ·rintro ⟨n,h⟩
  cases n with
  | zero=>simp [lrun] at h
  | succ n =>
   simp only [lrun] at h
   split at h
   ·rename_i s' hb;exact Xe.2 ⟨n,h⟩
   ·exact h
   ·cases h
 ·intro h
  cases hb:B s with
  | none=>rw [hb] at h;cases h
  | some x =>
   rw [hb] at h
   cases x with
   | inl s' =>
    obtain ⟨n,hn⟩:=Xe.1 h
    exact ⟨n+1,by simp only [lrun,hb];exact hn⟩
   | inr u=>exact ⟨1,by simp only [lrun,hb];exact h⟩
noncomputable def Aba {σ τ:Type} (B:σ→Option (Sum σ τ)) (s:σ):Nat:=@dite Nat (∃ n t,lrun B n s=some t) (Classical.propDecidable _) (fun h=>go (Classical.choose h)) (fun _=>0)
where go (n:Nat):Nat:=match n with
 | 0=>0
 | k+1=>if (lrun B k s).isSome=true then go k else k+1
theorem Amu {σ τ:Type} (B:σ→Option (Sum σ τ)) (s:σ):∀ (n:Nat) (t:τ),lrun B n s=some t→lrun B (Aba.go B s n) s=some t∧∀ m u,lrun B m s=some u→Aba.go B s n≤m
 | 0,t,h=>by simp [lrun] at h
 | n+1,t,h=>by
  unfold Aba.go
  by_cases hx:(lrun B n s).isSome=true
  ·rw [if_pos hx]
   obtain ⟨u,hu⟩:=Option.isSome_iff_exists.1 hx
   rw [Ahl h hu]
   exact Amu B s n u hu
  ·rw [if_neg hx]
   refine ⟨h,fun m u hm=>?_⟩
   rcases Nat.lt_or_ge m (n+1) with hlt | hge
   ·exact absurd (by rw [Aau hm (show m≤n by omega)];rfl) hx
   ·exact hge
theorem Ahm {σ τ:Type} {B:σ→Option (Sum σ τ)} {s:σ} {t:τ} (h:lfix B s=some t):lrun B (Aba B s) s=some t∧∀ m u,lrun B m s=some u→Aba B s≤m:=by
 obtain ⟨n,hn⟩:=Xe.1 h
 have hx:∃ n t,lrun B n s=some t:=⟨n,t,hn⟩
 unfold Aba
 rw [dif_pos hx]
 obtain ⟨u,hu⟩:=Classical.choose_spec hx
 have:=Ahl hu hn
 subst this
 exact Amu B s _ u hu
theorem Au8 {σ τ:Type} {B:σ→Option (Sum σ τ)} {s s':σ} {t:τ} (h:lfix B s=some t) (hb:B s=some (.inl s')):lfix B s'=some t∧Aba B s' < Aba B s:=by
 obtain ⟨h1,_⟩:=Ahm h
 cases hn:Aba B s with
 | zero=>rw [hn] at h1;simp [lrun] at h1
 | succ n =>
  rw [hn] at h1
  simp only [lrun,hb] at h1
  exact ⟨Xe.2 ⟨n,h1⟩,Nat.lt_succ_of_le ((Ahm (Xe.2 ⟨n,h1⟩)).2 n t h1)⟩
/-- How a loop is shown to end: by an invariant and a measure. -/
theorem Du {σ τ:Type} {B:σ→Option (Sum σ τ)} (μ:σ→Nat) (C:σ→Prop) (R:τ→Prop) (h:∀ s,C s→(∃ s',B s=some (.inl s')∧C s'∧μ s' < μ s)∨∃ t,B s=some (.inr t)∧R t) :
  ∀ s,C s→∃ t,lfix B s=some t∧R t:=by
 have key:∀ (n:Nat) (s:σ),μ s=n→C s→∃ t,lfix B s=some t∧R t:=by
  intro n
  induction n using Nat.strongRecOn with
  | ind n ih =>
   intro s hn hs
   rw [Dq]
   rcases h s hs with ⟨s',hb,hC,hm⟩ | ⟨t,hb,hR⟩
   ·rw [hb];exact ih (μ s') (by omega) s' rfl hC
   ·rw [hb];exact ⟨t,rfl,hR⟩
 exact fun s hs=>key _ s rfl hs

/-! ### lists -/
def idx {α:Type} (l:List α) (i:Int):Option α:=if 0≤i then l[i.toNat]? else none
def setI {α:Type} (l:List α) (i:Int) (x:α):List α:=l.set i.toNat x
theorem Aaa {α:Type} {l:List α} {i:Int} {x:α} (h:idx l i=some x):∃ (j:Nat) (hj:j < l.length),i=(j:Int)∧l[j]=x:=by
 unfold idx at h
 split at h
 ·obtain ⟨hj,hx⟩:=List.getElem?_eq_some_iff.1 h
  exact ⟨i.toNat,hj,by omega,hx⟩
 ·cases h
theorem Bf {α:Type} {l:List α} {j:Nat} (hj:j < l.length):idx l (j:Int)=some l[j]:=by
 unfold idx;rw [if_pos (by omega)];simp [hj]
theorem Bo {α:Type} {l:List α} {i:Int} {x:α}:(setI l i x).length=l.length:=by simp [setI]
theorem Xf {α:Type} {l:List α} {j:Nat} {x:α}:setI l (j:Int) x=l.set j x:=by simp [setI]
def subl {α:Type} (l:List α) (i j:Int):List α:=(l.take j.toNat).drop i.toNat

def w64 (x:Int):Int:=IntKind.wrap .i64 x
def wu64 (x:Int):Int:=IntKind.wrap .u64 x
def wu32 (x:Int):Int:=IntKind.wrap .u32 x
def wu8 (x:Int):Int:=IntKind.wrap .u8 x
theorem Azk (x:Int):w64 x=(x+9223372036854775808) % 18446744073709551616-9223372036854775808:=by
 unfold w64;rw [IntKind.wrap_i64]
theorem Bp {x:Int} (h:-9223372036854775808≤x) (h':x≤9223372036854775807):w64 x=x:=by rw [Azk];omega
end Go.Proofs.YtbkobeeileemjaaGreat
/- Steps of the judgement T that follow a plain function: loops, meeting ways, elements, rows, calls. -/
namespace Go.Proofs.YtbkobeeileemjaaGreat
open Go Go.RowKit


/-! ### entries out of a list -/
def Aab:List Ent→Nat→Option (Ent × List Ent)
 | [],_=>none
 | e::r,0=>some (e,r)
 | e::r,i+1=>match Aab r i with
  | some (x,r')=>some (x,e::r')
  | none=>none
theorem Vt:∀ {L:List Ent} {i:Nat} {e:Ent} {L1:List Ent},Aab L i=some (e,L1)→L.Perm (e::L1)
 | [],_,_,_,h=>by simp [Aab] at h
 | x::r,0,e,L1,h=>by simp [Aab] at h;obtain ⟨rfl,rfl⟩:=h;exact List.Perm.refl _
 | x::r,i+1,e,L1,h=>by
  simp only [Aab] at h
  split at h
  ·rename_i y r' hy
   injection h with h;injection h with h1 h2
   subst h1;subst h2
   exact ((Vt hy).cons x).trans (List.Perm.swap _ _ _)
  ·cases h
inductive Da:List Ent→List Ent→Prop
 | refl {L}:Da L L
 | pick {L e L1 L'} (i:Nat):Aab L i=some (e,L1)→Da L1 L'→Da L (e::L')
 | drop {L e L1 L'} (i:Nat):Aab L i=some (e,L1)→Da L1 L'→Da L L'
theorem Da.sub {L L':List Ent} (h:Da L L'):∃ M,L.Perm M∧L'.Sublist M:=by
 induction h with
 | refl=>exact ⟨_,List.Perm.refl _,List.Sublist.refl _⟩
 | pick i ht _ ih =>
  obtain ⟨M,h1,h2⟩:=ih
  exact ⟨_,(Vt ht).trans (h1.cons _),h2.cons_cons _⟩
 | drop i ht _ ih =>
  obtain ⟨M,h1,h2⟩:=ih
  exact ⟨_,(Vt ht).trans (h1.cons _),h2.cons _⟩
theorem Heap.pick {L L':List Ent} {w:World} (h:Heap L w) (hp:Da L L'):Heap L' w:=by
 obtain ⟨M,h1,h2⟩:=hp.sub
 have h':=h.perm h1
 exact ⟨fun e he=>h'.ok e (h2.mem he),h'.sep.sublist h2⟩

section
variable {P:Program} {n:Nat} {N:Act→World→Prop} {Q:Exit→Act→World→Prop} {fr:List (Nat × Value)} {L:List Ent}

/-- What is known where ways meet. -/
def Met {τ γ ρ:Type} (n:Nat) (J:τ→Option ρ) (out:ρ) (I:τ→γ→List (Nat × Value)) (H:τ→γ→List Ent) (G:τ→γ→Prop) (a:Act) (w:World):Prop :=
 ∃ s g,J s=some out∧G s g∧Fr n (I s g) a∧Heap (H s g) w
theorem Wn {τ γ ρ:Type} {J:τ→Option ρ} {out:ρ} (I:τ→γ→List (Nat × Value)) (H:τ→γ→List Ent) (G:τ→γ→Prop) {x y:Code}
  (k2:∀ s g,J s=some out→G s g→T n (y.wp P Q) (I s g) (H s g)) (k:T n (x.wp P (Exit.then (Met n J out I H G) Q)) fr L):T n ((Code.seq x y).wp P Q) fr L:=by
 intro a w ha hw
 refine wp_seq (wp_mono (k a w ha hw) ?_)
 intro e a' w' hq
 cases e with
 | normal=>obtain ⟨s,g,h1,h2,h3,h4⟩:=hq;exact k2 s g h1 h2 a' w' h3 h4
 | _=>exact hq
theorem Au9 {τ γ ρ:Type} {J:τ→Option ρ} {out:ρ} {I:τ→γ→List (Nat × Value)} {H:τ→γ→List Ent} {G:τ→γ→Prop} (s:τ) (g:γ) (hJ:J s=some out) (hG:G s g) (hF:SubF (I s g) fr) (hH:Da L (H s g)) :
  T n (Exit.then (Met n J out I H G) Q .normal) fr L:=fun _ _ ha hw=>⟨s,g,hJ,hG,ha.sub hF,hw.pick hH⟩

/-- What is known at the head of a round. -/
def Rnd {σ τ γ:Type} (n:Nat) (x:Sum σ τ) (I:σ→γ→List (Nat × Value)) (H:σ→γ→List Ent) (G:σ→γ→Prop) (a:Act) (w:World):Prop :=
 ∃ s g,x = .inl s∧G s g∧Fr n (I s g) a∧Heap (H s g) w
theorem Ap8 {σ τ γ:Type} {B:σ→Option (Sum σ τ)} {s0:σ} {t:τ} (hl:lfix B s0=some t) (I:σ→γ→List (Nat × Value)) (H:σ→γ→List Ent) (G:σ→γ→Prop) (g0:γ) (hG:G s0 g0) (hF:SubF (I s0 g0) fr) (hH:Da L (H s0 g0)) {c:Code}
  (body:∀ s g,G s g→∀ x,B s=some x→(∀ t',x = .inr t'→t'=t)→T n (c.wp P (Exit.then (Rnd n x I H G) Q)) (I s g) (H s g)) :
  T n ((Code.loop c).wp P Q) fr L:=by
 refine fun a w ha hw=>?_
 refine Asx (fr:=fr) (L:=H s0 g0) (σ:=σ × γ) (fun s=>I s.1 s.2) (fun s=>H s.1 s.2) (fun s=>G s.1 s.2∧lfix B s.1=some t) (fun s=>Aba B s.1) (s0,g0) ⟨hG,hl⟩ hF .refl ?_ a w ha (hw.pick hH)
 clear ha hw a w
 rintro ⟨s,g⟩ ⟨hG,hs⟩
 have hs0:=hs
 rw [Dq] at hs
 cases hb:B s with
 | none=>rw [hb] at hs;cases hs
 | some x =>
  intro a w ha hw
  refine wp_mono (body s g hG x hb (fun t' hx=>?_) a w ha hw) ?_
  ·subst hx;rw [hb] at hs;injection hs
  ·intro e a' w' hq
   cases e with
   | normal =>
    obtain ⟨s',g',hx,h1,h2,h3⟩:=hq
    subst hx
    obtain ⟨h4,h5⟩:=Au8 hs0 hb
    exact ⟨(s',g'),⟨h1,h4⟩,h5,h2,h3⟩
   | _=>exact hq
theorem Amv {σ τ γ:Type} {x:Sum σ τ} {I:σ→γ→List (Nat × Value)} {H:σ→γ→List Ent} {G:σ→γ→Prop} (s:σ) (g:γ) (hx:some (.inl s)=some x) (hG:G s g) (hF:SubF (I s g) fr) (hH:Da L (H s g)) :
  T n (Exit.then (Rnd n x I H G) Q .normal) fr L:=fun _ _ ha hw=>⟨s,g,(Option.some.inj hx).symm,hG,ha.sub hF,hw.pick hH⟩
theorem Cq {σ τ:Type} {x:Sum σ τ} {t t':τ} (ht:∀ t',x = .inr t'→t'=t) (hx:some (.inr t')=some x):t'=t:=ht t' (Option.some.inj hx).symm

/-! ### lists of entries -/
theorem Dh (k:T n N fr L):T n N fr ([]++L):=k
theorem Do {a:Ent} (k:T n N fr (a::L)):T n N fr ([a]++L):=k
theorem Fi {a b:Ent} (k:T n N fr (a::b::L)):T n N fr ([a,b]++L):=k
theorem Lu {a b c:Ent} (k:T n N fr (a::b::c::L)):T n N fr ([a,b,c]++L):=k
theorem Uv {a b c d:Ent} (k:T n N fr (a::b::c::d::L)):T n N fr ([a,b,c,d]++L):=k
theorem Ad5 {a b c d e f:Ent} (k:T n N fr (a::b::c::d::e::f::L)):T n N fr ([a,b,c,d,e,f]++L):=k

/-! ### elements -/
theorem Has.at_idx {α:Type} {K:List Ent} {A m c sz} {enc:α→List Value} {l:List α} {i:Int} {x:α} (h:Has K A m c sz enc l) (hi:idx l i=some x) :
  ∃ (b o j:Nat),A=some ⟨b,o,none⟩∧i=(j:Int)∧j < m∧Pt K b (o+j*sz) (enc x):=by
 obtain ⟨j,hj,h1,h2⟩:=Aaa hi
 obtain ⟨b,o,hA,hp⟩:=h.elem hj
 exact ⟨b,o,j,hA,h1,by have:=h.len;omega,by rw [← h2];exact hp⟩
theorem Has.ofRow {α:Type} {enc:α→List Value} {A m c t sz} {l:List α} (hz:0 < sz) (he:∀ x,(enc x).length=sz) {w:World} (hok:Ent.ok w (.r A m c t sz (l.flatMap enc))) :
  Has [.r A m c t sz (l.flatMap enc)] A m c sz enc l:=by
 have hlen:(l.flatMap enc).length=l.length*sz:=by
  clear hok
  induction l with
  | nil=>simp
  | cons x r ih=>rw [List.flatMap_cons,List.length_append,he x,ih,List.length_cons,Nat.succ_mul];omega
 have hm:m=l.length:=by
  have h1:=hok.1
  rw [hlen] at h1
  exact (Nat.eq_of_mul_eq_mul_right hz h1).symm
 subst hm
 exact Has.ofR hz (fun x _=>he x) hok
/-- An element of an own row. -/
theorem Fu {α:Type} {enc:α→List Value} {l:List α} {k A m c t sz} {i:Int} {x:α} (hk:nthE L k=some (.r A m c t sz (l.flatMap enc))) (hz:0 < sz) (he:∀ x,(enc x).length=sz) (hi:idx l i=some x)
  (kk:∀ (g j:Nat),A=some ⟨g,0,none⟩→i=(j:Int)→j < m→m=l.length→Pt [.r A m c t sz (l.flatMap enc)] g (0+j*sz) (enc x)→T n N fr L):T n N fr L:=by
 intro a w ha hw
 have hok:=hw.ok _ (Il hk)
 have hs:=Has.ofRow hz he hok
 obtain ⟨b,o,j,hA,h1,h2,h3⟩:=hs.at_idx hi
 have hA0:∃ g,A=some ⟨g,0,none⟩:=by
  obtain ⟨_,h⟩:=hok
  rcases h with ⟨hv,h0⟩ | ⟨g,cap,cur,hv,_⟩
  ·omega
  ·injection hv with hA;exact ⟨g,hA⟩
 obtain ⟨g,hg⟩:=hA0
 rw [hg] at hA
 injection hA with hA
 injection hA with e1 e2 _
 subst e1;subst e2
 exact kk _ j hg h1 h2 hs.len.symm h3 a w ha hw
/-- An own row reads as a list. -/
theorem Cw {α:Type} {enc:α→List Value} {l:List α} {k A m c t sz} (hk:nthE L k=some (.r A m c t sz (l.flatMap enc))) (hz:0 < sz) (he:∀ x,(enc x).length=sz)
  (kk:m=l.length→Has [.r A m c t sz (l.flatMap enc)] A m c sz enc l→T n N fr L):T n N fr L:=by
 intro a w ha hw
 have hs:=Has.ofRow hz he (hw.ok _ (Il hk))
 exact kk hs.len.symm hs a w ha hw
/-- A store of an element. -/
theorem Mm {α:Type} (enc:α→List Value) (l:List α) (ix:Int) (u:α) {j sz:Nat} {m:Nat} {x y g o A c t v ty' i L'} {ty:TypeId} {pos:String} {after:Array Edge} {guard:Option (Nat × Bool)}
  (hx:evo fr x=some (.pointer (some ⟨g,o,none⟩))) (hy:evo fr y=some v) (hv:v.cells=(enc u).toArray)
  (hL:SetE L i (.r A m c t sz (l.flatMap enc)) (.r A m c t sz ((setI l ix u).flatMap enc)) L') (hA:A=some ⟨g,0,none⟩) (ho:o=0+j*sz) (hix:ix=(j:Int)) (hj:j < m)
  (he:∀ x,(enc x).length=sz) (hz:0 < sz) (h1:Mo (enc u)=true) (hsz:∀ w,(sizeOf ty').run P w = .ok sz w)
  (k:T n N fr L'):Wh P Q n ⟨none,.store ty' x y,ty,pos,after,guard⟩ fr L N:=by
 intro a w ha hw
 have hm:m=l.length:=(Has.ofRow hz he (hw.ok _ hL.mem)).len.symm
 subst hm
 subst hix
 rw [Xf] at hL
 exact Arb u hx hy hv hL hA (by omega) hj (fun x _=>he x) (he u) hz h1 hsz k a w ha hw

/-- Bytes of a row may be forgotten. -/
theorem Af3 {α:Type} {enc:α→List Value} {l:List α} {i A m c t sz q L'} (hL:SetE L i (.r A m c t sz (l.flatMap enc)) (.r A q c t sz ((l.take q).flatMap enc)) L') (hq:q≤l.length) (hz:0 < sz) (he:∀ x,(enc x).length=sz)
  (k:T n N fr L'):T n N fr L:=by
 intro a w ha hw
 refine k a w ha (Heap.turn (e:=.r A m c t sz (l.flatMap enc)) (e':=.r A q c t sz ((l.take q).flatMap enc)) (w:=w) (w':=w) ⟨rfl,rfl,rfl,Nat.le_refl _,fun _ _ _=>rfl⟩ ?_ (Nat.le_refl _) (fun g hg=>.inl (by cases A <;> exact hg)) hL hw)
 have hfl:∀ m:List α,(m.flatMap enc).length=m.length*sz:=by
  intro m
  induction m with
  | nil=>simp
  | cons x r ih=>rw [List.flatMap_cons,List.length_append,he x,ih,List.length_cons,Nat.succ_mul];omega
 have hok:=hw.ok _ hL.mem
 have hm:m=l.length:=(Has.ofRow hz he hok).len.symm
 subst hm
 have htk:(l.take q).flatMap enc=(l.flatMap enc).take (q*sz):=by
  have h0:l.flatMap enc=(l.take q).flatMap enc++(l.drop q).flatMap enc:=by rw [← List.flatMap_append,List.take_append_drop]
  have hlt:((l.take q).flatMap enc).length=q*sz:=by rw [hfl,List.length_take,Nat.min_eq_left hq]
  rw [h0,← hlt,List.take_left]
 refine ⟨by rw [hfl,List.length_take,Nat.min_eq_left hq],?_⟩
 rcases hok.2 with ⟨hv,h0⟩ | ⟨g,cap,cur,hv,hb,hh,h3,h4,h5,h6⟩
 ·injection hv with e1 e2 e3
  subst e1;subst e3
  left
  have:q=0:=by omega
  subst this;exact ⟨rfl,rfl⟩
 ·injection hv with e1 e2 e3
  subst e1;subst e3
  refine .inr ⟨g,c,cur,rfl,hb,hh,by omega,h4,h5,?_⟩
  rw [htk,← h6,List.take_take,Nat.min_eq_left (Nat.mul_le_mul_right _ hq)]

/-- append of a block of the walk's own. -/
theorem Dv {α:Type} (enc:α→List Value) (l ys:List α) {d:Nat} {s x t e sz bytes A m c g B q q' t' i i' news ty'} {pos:String} {after:Array Edge} {guard:Option (Nat × Bool)} {L' L2:Option Addr→Nat→List Ent}
  (hs:evo fr s=some (.slice A m c)) (hx:evo fr x=some (.slice B q q')) (hB:B=some ⟨g,0,none⟩) (ht:Sz P t e sz bytes) (he:∀ x,(enc x).length=sz)
  (hL2:nthE L i'=some (.m g t' news)) (hn:news=ys.flatMap enc) (hq:q=ys.length) (h1:Mo news=true) (hb:(l.length+ys.length)*bytes≤140737488355328) (hd:Nat.blt d n=true)
  (hL:∀ A' c',SetE L i (.r A m c e sz (l.flatMap enc)) (.r A' (l++ys).length c' e sz ((l++ys).flatMap enc)) (L' A' c')) (hsub:∀ A' c',HSub (L' A' c') (L2 A' c'))
  (h0:0 < bytes)
  (k:∀ A' c',T n N ((d,.slice A' (l++ys).length c')::fr) (L2 A' c')) :
  Wh P Q n ⟨some d,.call ⟨.builtin .append,#[s,x],#[t,t]⟩,ty',pos,after,guard⟩ fr L N:=by
 intro a w ha hw
 have hm:m=l.length:=(Has.ofRow ht.pos he (hw.ok _ (hL none 0).mem)).len.symm
 subst hm
 have hfl:∀ m:List α,(m.flatMap enc).length=m.length*sz:=by
  intro m
  induction m with
  | nil=>simp
  | cons x r ih=>rw [List.flatMap_cons,List.length_append,he x,ih,List.length_cons,Nat.succ_mul];omega
 subst hn
 have hlq:l.length+q=(l++ys).length:=by rw [List.length_append,hq]
 have h63:l.length+q≤9223372036854775807:=by
  have h3:=Nat.mul_le_mul_left (l.length+ys.length) h0
  rw [Nat.mul_succ,Nat.mul_zero,Nat.zero_add] at h3
  omega
 refine Arc (i:=i) (xs:=l.flatMap enc) (L':=L') (L2:=L2) hs hx hB ht hL2 (by rw [hfl,hq]) h1 (by rw [hq];exact hb) h63 hd ?_ hsub ?_ a w ha hw
 ·intro A' c'
  have:=hL A' c'
  rw [hlq,← List.flatMap_append]
  exact this
 ·intro A' c'
  rw [hlq]
  exact k A' c'

/-- make([]T, m), T of one cell. -/
theorem Aac {α:Type} (enc:α→List Value) (x0:α) {d:Nat} {t e x y k1 k2 i1 i2 i z} {ty:TypeId} {pos:String} {after:Array Edge} {guard:Option (Nat × Bool)} (hx:evo fr x=some (.int k1 i1)) (hy:evo fr y=some (.int k2 i2)) (h12:i1=i2) (hp:0≤i1)
  (ht:P.underlying t=some (.slice e)) (hi:P.info? e=some i) (hz:i.zero=some z) (hzc:z.cells = #[z]) (hze:enc x0=[z]) (hs:i.size=1) (hb:i.bytes*i1.toNat≤140737488355328) (hb0:0 < i.bytes)
  (hd:Nat.blt d n=true) (k:∀ A,T n N ((d,.slice A (List.replicate i1.toNat x0).length (List.replicate i1.toNat x0).length)::fr) (.r A (List.replicate i1.toNat x0).length (List.replicate i1.toNat x0).length e 1 ((List.replicate i1.toNat x0).flatMap enc)::L)) :
  Wx P Q n ⟨some d,.makeSlice t x y,ty,pos,after,guard⟩ fr L N:=by
 have h2:=Nat.mul_le_mul_right i1.toNat hb0
 rw [Nat.succ_mul,Nat.zero_mul,Nat.zero_add] at h2
 refine As2 (z:=z) (m:=i1.toNat) hx hy (by omega) (by omega) ht hi hz hzc hs (by omega) (by omega) hd (fun A=>?_)
 have hk:=k A
 rw [List.length_replicate] at hk
 have hf:(List.replicate i1.toNat x0).flatMap enc=List.replicate i1.toNat z:=by
  generalize i1.toNat=m
  induction m with
  | zero=>rfl
  | succ m ih=>rw [List.replicate_succ,List.flatMap_cons,hze,ih,List.replicate_succ];rfl
 rw [hf] at hk
 exact hk

/-- What is known of the entries K is known of what was there, too. -/
theorem Has.low {α:Type} {K E:List Ent} {w:World} {A m c sz} {enc:α→List Value} {l:List α} (h:Has (K++E) A m c sz enc l) (hK:∀ e∈K,Ent.ok w e):Has (.old w::E) A m c sz enc l:=by
 refine ⟨h.len,h.nc,h.cap,h.esz,fun hn=>?_⟩
 obtain ⟨b,o,hA,hc⟩:=h.at_ hn
 refine ⟨b,o,hA,fun i hi w' hw' j u hu=>hc i hi w' (fun e he=>?_) j u hu⟩
 rcases List.mem_append.1 he with he | he
 ·exact Ent.ext (hK e he) (hw' (.old w) List.mem_cons_self)
 ·exact hw' e (List.mem_cons_of_mem _ he)
/-- A part of a slice. -/
def slA (A:Option Addr) (c p sz:Nat):Option Addr:=if c=p then A else A.map (·.add (p*sz))
theorem Has.sub {α:Type} {K:List Ent} {A m c sz} {enc:α→List Value} {l:List α} (h:Has K A m c sz enc l) {i j:Int} (_:0≤i) (h2:i≤j) (h3:j≤(m:Int)) :
  Has K (slA A c i.toNat sz) (j.toNat-i.toNat) (c-i.toNat) sz enc (subl l i j):=by
 have hl:=h.len
 have hnc:=h.nc
 refine ⟨by simp [subl];omega,by omega,by have:=h.cap;omega,fun x hx=>h.esz x (List.mem_of_mem_take (List.mem_of_mem_drop hx)),fun hn=>?_⟩
 obtain ⟨b,o,hA,hc⟩:=h.at_ (by omega)
 refine ⟨b,o+i.toNat*sz,?_,fun q hq=>?_⟩
 ·unfold slA
  rw [if_neg (by omega),hA]
  simp [Addr.add_lit]
 ·have hq':i.toNat+q < l.length:=by simp [subl] at hq;omega
  have hx:(subl l i j)[q]=l[i.toNat+q]:=by simp [subl]
  rw [hx,Nat.add_assoc,← Nat.add_mul]
  exact hc _ hq'
theorem Axb {t x lo A m c e sz k1} {i:Int} {dst:Option Tmp} {ty:TypeId} {pos:String} {after:Array Edge} {guard:Option (Nat × Bool)} (hx:evo fr x=some (.slice A m c)) (hl:evo fr lo=some (.int k1 i)) (ht:Jb P t e sz)
  (h0:0≤i) (h1:i≤(m:Int)) :
  Ev P n ⟨dst,.slice t x (some lo) none none,ty,pos,after,guard⟩ fr L (.slice (slA A c i.toNat sz) (m-i.toNat) (c-i.toNat)) :=
 Asg hx hl ht (by omega) (by omega)
theorem Af4 {t x hi A m c e sz k2} {j:Int} {dst:Option Tmp} {ty:TypeId} {pos:String} {after:Array Edge} {guard:Option (Nat × Bool)} (hx:evo fr x=some (.slice A m c)) (hh:evo fr hi=some (.int k2 j)) (ht:Jb P t e sz)
  (h0:0≤j) (h2:j≤(c:Int)) :
  Ev P n ⟨dst,.slice t x none (some hi) none,ty,pos,after,guard⟩ fr L (.slice A j.toNat c) :=
 Asf hx hh ht (by omega) (by omega)
theorem Has.subL {α:Type} {K:List Ent} {A m c sz} {enc:α→List Value} {l:List α} (h:Has K A m c sz enc l) {i:Int} (h1:0≤i) (h2:i≤(m:Int)) :
  Has K (slA A c i.toNat sz) (m-i.toNat) (c-i.toNat) sz enc (subl l i (m:Int)):=h.sub h1 h2 (Int.le_refl _)
theorem Has.subH {α:Type} {K:List Ent} {A m c sz} {enc:α→List Value} {l:List α} (h:Has K A m c sz enc l) {j:Int} (h1:0≤j) (h2:j≤(m:Int)) :
  Has K A j.toNat c sz enc (subl l 0 j):=by
 have hs:subl l 0 j=l.take j.toNat:=by simp [subl]
 rw [hs]
 exact h.take (by omega)
theorem Has.len' {α:Type} {K:List Ent} {A m c sz} {enc:α→List Value} {l:List α} (h:Has K A m c sz enc l):Has K A l.length c sz enc l:=by
 have:=h.len;subst this;exact h
end

/-! ### numbers -/
section
variable {P:Program} {n:Nat} {fr:List (Nat × Value)} {L:List Ent}
variable {dst:Option Tmp} {ty:TypeId} {pos:String} {after:Array Edge} {guard:Option (Nat × Bool)}
theorem Axc {t x k a} (hx:evo fr x=some (.int k a)):Ev P n ⟨dst,.unOp .neg t x,ty,pos,after,guard⟩ fr L (.int k (k.wrap (-a))):=fun ac w ha _=>by
 simp only [execOp,ha.eval hx,Op.unary,Op.intArith,Int.zero_sub]
 rfl
def Dn (k:IntKind) (a b:Int):Int:=k.wrap (BitVec.ofInt k.bits a &&& BitVec.ofInt k.bits b).toNat
def Ms (k:IntKind) (a b:Int):Int:=k.wrap (BitVec.ofInt k.bits a ||| BitVec.ofInt k.bits b).toNat
def Aav (k:IntKind) (a b:Int):Int:=k.wrap (BitVec.ofInt k.bits a ^^^ BitVec.ofInt k.bits b).toNat
theorem Ae8 {t t' x y k a b} (hx:evo fr x=some (.int k a)) (hy:evo fr y=some (.int k b)):Ev P n ⟨dst,.binOp .and t x y t',ty,pos,after,guard⟩ fr L (.int k (Dn k a b)) :=
 Jw hx hy fun w=>by rw [binOp_and,Op.intBits];rfl
theorem Ahn {t t' x y k a b} (hx:evo fr x=some (.int k a)) (hy:evo fr y=some (.int k b)):Ev P n ⟨dst,.binOp .or t x y t',ty,pos,after,guard⟩ fr L (.int k (Ms k a b)) :=
 Jw hx hy fun w=>by rw [binOp_or,Op.intBits];rfl
theorem Ae9 {t t' x y k a b} (hx:evo fr x=some (.int k a)) (hy:evo fr y=some (.int k b)):Ev P n ⟨dst,.binOp .xor t x y t',ty,pos,after,guard⟩ fr L (.int k (Aav k a b)) :=
 Jw hx hy fun w=>by rw [binOp_xor,Op.intBits];rfl
def shl_ (k:IntKind) (a b:Int):Int:=k.wrap (a*2 ^ (min b.toNat k.bits))
def shr_ (k:IntKind) (a b:Int):Int:=a.fdiv (2 ^ (min b.toNat k.bits))
theorem Af5 {t t' x y k k' a b} (hx:evo fr x=some (.int k a)) (hy:evo fr y=some (.int k' b)) (hb:0≤b):Ev P n ⟨dst,.binOp .shl t x y t',ty,pos,after,guard⟩ fr L (.int k (shl_ k a b)):=by
 intro ac w ha _
 have:Op.shift .shl k a k' b=pure (.int k (shl_ k a b)):=by
  unfold Op.shift
  rw [if_neg (by omega)];rfl
 simp [execOp,ha.eval hx,ha.eval hy,eqGuard_at_int,binOp_shl,this]
theorem Sf {t t' x y k k' a b} (hx:evo fr x=some (.int k a)) (hy:evo fr y=some (.int k' b)) (hb:0≤b):Ev P n ⟨dst,.binOp .shr t x y t',ty,pos,after,guard⟩ fr L (.int k (shr_ k a b)):=by
 intro ac w ha _
 have:Op.shift .shr k a k' b=pure (.int k (shr_ k a b)):=by
  unfold Op.shift
  rw [if_neg (by omega)];rfl
 simp [execOp,ha.eval hx,ha.eval hy,eqGuard_at_int,binOp_shr,this]
end
theorem SubE.app2 {K E E':List Ent} (h:SubE E E'):SubE (K++E) (K++E'):=⟨fun w hw x hx=>by
 rcases List.mem_append.1 hx with hx | hx
 ·exact hw x (List.mem_append_left _ hx)
 ·exact h.ok w (fun y hy=>hw y (List.mem_append_right _ hy)) x hx⟩
theorem SubE.appR2 {K E E':List Ent} (h:SubE E E'):SubE E (K++E'):=⟨fun w hw=>h.ok w fun x hx=>hw x (List.mem_append_right _ hx)⟩
theorem Has.up0 {α:Type} {K:List Ent} {A:Option Addr} {n c sz:Nat} {enc:α→List Value} {l:List α} (h:Has K A n c sz enc l):Has (K++[]) A n c sz enc l:=by rw [List.append_nil];exact h
theorem Has.assoc {α:Type} {K E E':List Ent} {A:Option Addr} {n c sz:Nat} {enc:α→List Value} {l:List α} (h:Has (K++E++E') A n c sz enc l):Has (K++(E++E')) A n c sz enc l:=by rw [← List.append_assoc];exact h
section
variable {P:Program} {n:Nat} {fr:List (Nat × Value)} {L:List Ent}
/-- The end of a function. -/
theorem Bq {fn:Func} {R:Value→List Ent→Prop} {w0:World} {rs vs} {Ln:List Ent} (hr:fn.results=rs.toArray) (h:Res P fr L rs vs) (hR:R (Rm vs) Ln) (hlo:∀ x∈Ln,x.low=0) (hs:Da L (Ln++[.old w0])) :
  T n (bodyPost P fn (fun e w'=>∃ v Ln,e = .returned v∧R v Ln∧(∀ x∈Ln,x.low=0)∧Heap (Ln++[.old w0]) w') .ret) fr L :=
 Ax3 hr h fun _ hw=>⟨_,Ln,rfl,hR,hlo,hw.pick hs⟩
theorem Azl {fn:Func} {R:Value→List Ent→Prop} {w0:World} {rs vs} {Ln:List Ent} (hr:fn.results=rs.toArray) (h:Res P fr L rs vs) (hR:R (Rm vs) Ln) (hlo:∀ x∈Ln,x.low=0) (hs:Da L (Ln++[.old w0])) :
  T n (bodyPost P fn (fun e w'=>∃ v Ln,e = .returned v∧R v Ln∧(∀ x∈Ln,x.low=0)∧Heap (Ln++[.old w0]) w') .normal) fr L :=
 Ax4 hr h fun _ hw=>⟨_,Ln,rfl,hR,hlo,hw.pick hs⟩
end
end Go.Proofs.YtbkobeeileemjaaGreat
