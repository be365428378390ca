/- Steps of the judgement T that follow a plain function: loops, meeting ways, elements, rows, calls. -/
import Derived.Test.YtjfndjmabhbicaaGreatPure
namespace Go.Proofs.YtjfndjmabhbicaaGreat
open Go Go.RowKit


def Aac:List Ent->Nat->Option (Ent × List Ent)
 | [],_=>none
 | e::r,0=>some (e,r)
 | e::r,i+1=>match Aac r i with
  | some (x,r')=>some (x,e::r')
  | none=>none
theorem Xr:∀ {L:List Ent} {i:Nat} {e:Ent} {L1:List Ent},Aac L i=some (e,L1)->L.Perm (e::L1)
 | [],_,_,_,h=>by simp[Aac] at h
 | x::r,0,e,L1,h=>by simp[Aac] at h;obtain ⟨rfl,rfl⟩:=h;exact List.Perm.refl _
 | x::r,i+1,e,L1,h=>by
  simp only[Aac] at h
  split at h
  ·rename_i y r' hy
   injection h with h;injection h with h1 h2
   subst h1;subst h2
   exact ((Xr hy).cons x).trans (List.Perm.swap _ _ _)
  ·cases h
inductive Gp:List Ent->List Ent->Prop
 | refl {L}:Gp L L
 | pick {L e L1 L'} (i:Nat):Aac L i=some (e,L1)->Gp L1 L'->Gp L (e::L')
 | drop {L e L1 L'} (i:Nat):Aac L i=some (e,L1)->Gp L1 L'->Gp L L'
theorem Gp.sub {L L':List Ent} (h:Gp L L'):∃ M,L.Perm M/\L'.Sublist M:=by
 induction h with
 | refl=>exact ⟨_,List.Perm.refl _,List.Sublist.refl _⟩
 | pick i ht _ ih=>
  obtain ⟨M,h1,h2⟩:=ih
  exact ⟨_,(Xr ht).trans (h1.cons _),h2.cons_cons _⟩
 | drop i ht _ ih=>
  obtain ⟨M,h1,h2⟩:=ih
  exact ⟨_,(Xr ht).trans (h1.cons _),h2.cons _⟩
theorem Heap.pick {L L':List Ent} {w:World} (h:Heap L w) (hp:Gp L L'):Heap L' w:=by
 obtain ⟨M,h1,h2⟩:=hp.sub
 have h':=h.perm h1
 exact ⟨fun e he=>h'.ok e (h2.mem he),h'.sep.sublist h2⟩

section
variable {P:Program} {n:Nat} {N:Act->World->Prop} {Q:Exit->Act->World->Prop} {fr:List (Nat × Value)} {L:List Ent}

def Met {τ γ ρ:Type} (n:Nat) (J:τ->Option ρ) (out:ρ) (I:τ->γ->List (Nat × Value)) (H:τ->γ->List Ent) (G:τ->γ->Prop) (a:Act) (w:World):Prop :=
 ∃ s g,J s=some out/\G s g/\Fr n (I s g) a/\Heap (H s g) w
theorem Xs {τ γ ρ:Type} {J:τ->Option ρ} {out:ρ} (I:τ->γ->List (Nat × Value)) (H:τ->γ->List Ent) (G:τ->γ->Prop) {x y:Code}
  (k2:∀ s g,J s=some out->G s g->T n (y.wp P Q) (I s g) (H s g)) (k:T n (x.wp P (Exit.then (Met n J out I H G) Q)) fr L):T n ((Code.seq x y).wp P Q) fr L:=by
 intro a w ha hw
 refine wp_seq (wp_mono (k a w ha hw) ?_)
 intro e a' w' hq
 cases e with
 | normal=>obtain ⟨s,g,h1,h2,h3,h4⟩:=hq;exact k2 s g h1 h2 a' w' h3 h4
 | _=>exact hq
theorem Alx {τ γ ρ:Type} {J:τ->Option ρ} {out:ρ} {I:τ->γ->List (Nat × Value)} {H:τ->γ->List Ent} {G:τ->γ->Prop} (s:τ) (g:γ) (hJ:J s=some out) (hG:G s g) (hF:SubF (I s g) fr) (hH:Gp L (H s g)) :
  T n (Exit.then (Met n J out I H G) Q .normal) fr L:=fun _ _ ha hw=>⟨s,g,hJ,hG,ha.sub hF,hw.pick hH⟩

def Rnd {σ τ γ:Type} (n:Nat) (x:Sum σ τ) (I:σ->γ->List (Nat × Value)) (H:σ->γ->List Ent) (G:σ->γ->Prop) (a:Act) (w:World):Prop :=
 ∃ s g,x = .inl s/\G s g/\Fr n (I s g) a/\Heap (H s g) w
theorem Aib {σ τ γ:Type} {B:σ->Option (Sum σ τ)} {s0:σ} {t:τ} (hl:lfix B s0=some t) (I:σ->γ->List (Nat × Value)) (H:σ->γ->List Ent) (G:σ->γ->Prop) (g0:γ) (hG:G s0 g0) (hF:SubF (I s0 g0) fr) (hH:Gp L (H s0 g0)) {c:Code}
  (body:∀ s g,G s g->∀ x,B s=some x->(∀ t',x = .inr t'->t'=t)->T n (c.wp P (Exit.then (Rnd n x I H G) Q)) (I s g) (H s g)) :
  T n ((Code.loop c).wp P Q) fr L:=by
 refine fun a w ha hw=>?_
 refine Aqv (fr:=fr) (L:=H s0 g0) (σ:=σ × γ) (fun s=>I s.1 s.2) (fun s=>H s.1 s.2) (fun s=>G s.1 s.2/\lfix B s.1=some t) (fun s=>Zm B s.1) (s0,g0) ⟨hG,hl⟩ hF .refl ?_ a w ha (hw.pick hH)
 clear ha hw a w
 rintro ⟨s,g⟩ ⟨hG,hs⟩
 have hs0:=hs
 rw[Bk] at hs
 cases hb:B s with
 | none=>rw[hb] at hs;cases hs
 | some x=>
  intro a w ha hw
  refine wp_mono (body s g hG x hb (fun t' hx=>?_) a w ha hw) ?_
  ·subst hx;rw[hb] at hs;injection hs
  ·intro e a' w' hq
   cases e with
   | normal=>
    obtain ⟨s',g',hx,h1,h2,h3⟩:=hq
    subst hx
    obtain ⟨h4,h5⟩:=Atb hs0 hb
    exact ⟨(s',g'),⟨h1,h4⟩,h5,h2,h3⟩
   | _=>exact hq
theorem Ae0 {σ τ γ:Type} {x:Sum σ τ} {I:σ->γ->List (Nat × Value)} {H:σ->γ->List Ent} {G:σ->γ->Prop} (s:σ) (g:γ) (hx:some (.inl s)=some x) (hG:G s g) (hF:SubF (I s g) fr) (hH:Gp L (H s g)) :
  T n (Exit.then (Rnd n x I H G) Q .normal) fr L:=fun _ _ ha hw=>⟨s,g,(Option.some.inj hx).symm,hG,ha.sub hF,hw.pick hH⟩
theorem Lc {σ τ:Type} {x:Sum σ τ} {t t':τ} (ht:∀ t',x = .inr t'->t'=t) (hx:some (.inr t')=some x):t'=t:=ht t' (Option.some.inj hx).symm

theorem Aly (k:T n N fr L):T n N fr ([]++L):=k
theorem Xt {a:Ent} (k:T n N fr (a::L)):T n N fr ([a]++L):=k
theorem Td {a b:Ent} (k:T n N fr (a::b::L)):T n N fr ([a,b]++L):=k
theorem Vz {a b c:Ent} (k:T n N fr (a::b::c::L)):T n N fr ([a,b,c]++L):=k
theorem Ae1 {a b c d:Ent} (k:T n N fr (a::b::c::d::L)):T n N fr ([a,b,c,d]++L):=k
theorem Asr {a b c d e:Ent} (k:T n N fr (a::b::c::d::e::L)):T n N fr ([a,b,c,d,e]++L):=k
theorem Ab7 {a b c d e f:Ent} (k:T n N fr (a::b::c::d::e::f::L)):T n N fr ([a,b,c,d,e,f]++L):=k

theorem Has.at_idx {α:Type} {K:List Ent} {A m c sz} {enc:α->List Value} {l:List α} {i:Int} {x:α} (h:Has K A m c sz enc l) (hi:idx l i=some x) :
  ∃ (b o j:Nat),A=some ⟨b,o,none⟩/\i=(j:Int)/\j < m/\Pt K b (o+j*sz) (enc x):=by
 obtain ⟨j,hj,h1,h2⟩:=Abj hi
 obtain ⟨b,o,hA,hp⟩:=h.elem hj
 exact ⟨b,o,j,hA,h1,by have:=h.len;omega,by rw[<- h2];exact hp⟩
theorem Has.ofRow {α:Type} {enc:α->List Value} {A m c t sz} {l:List α} (hz:0 < sz) (he:∀ x,(enc x).length=sz) {w:World} (hok:Ent.ok w (.r A m c t sz (l.flatMap enc))) :
  Has [.r A m c t sz (l.flatMap enc)] A m c sz enc l:=by
 have hlen:(l.flatMap enc).length=l.length*sz:=by
  clear hok
  induction l with
  | nil=>simp
  | cons x r ih=>rw[List.flatMap_cons,List.length_append,he x,ih,List.length_cons,Nat.succ_mul];omega
 have hm:m=l.length:=by
  have h1:=hok.1
  rw[hlen] at h1
  exact (Nat.eq_of_mul_eq_mul_right hz h1).symm
 subst hm
 exact Has.ofR hz (fun x _=>he x) hok
theorem Ayj {α:Type} {enc:α->List Value} {l:List α} {k A m c t sz} {i:Int} {x:α} (hk:nthE L k=some (.r A m c t sz (l.flatMap enc))) (hz:0 < sz) (he:∀ x,(enc x).length=sz) (hi:idx l i=some x)
  (kk:∀ (g j:Nat),A=some ⟨g,0,none⟩->i=(j:Int)->j < m->m=l.length->Pt [.r A m c t sz (l.flatMap enc)] g (0+j*sz) (enc x)->T n N fr L):T n N fr L:=by
 intro a w ha hw
 have hok:=hw.ok _ (Eu hk)
 have hs:=Has.ofRow hz he hok
 obtain ⟨b,o,j,hA,h1,h2,h3⟩:=hs.at_idx hi
 have hA0:∃ g,A=some ⟨g,0,none⟩:=by
  obtain ⟨_,h⟩:=hok
  rcases h with ⟨hv,h0⟩ | ⟨g,cap,cur,hv,_⟩
  ·omega
  ·injection hv with hA;exact ⟨g,hA⟩
 obtain ⟨g,hg⟩:=hA0
 rw[hg] at hA
 injection hA with hA
 injection hA with e1 e2 _
 subst e1;subst e2
 exact kk _ j hg h1 h2 hs.len.symm h3 a w ha hw
theorem Aic {α:Type} {enc:α->List Value} {l:List α} {k A m c t sz} (hk:nthE L k=some (.r A m c t sz (l.flatMap enc))) (hz:0 < sz) (he:∀ x,(enc x).length=sz)
  (kk:m=l.length->Has [.r A m c t sz (l.flatMap enc)] A m c sz enc l->T n N fr L):T n N fr L:=by
 intro a w ha hw
 have hs:=Has.ofRow hz he (hw.ok _ (Eu hk))
 exact kk hs.len.symm hs a w ha hw
theorem Apw {α:Type} (enc:α->List Value) (l:List α) (ix:Int) (u:α) {j sz:Nat} {m:Nat} {x y g o A c t v ty' i L'} {ty:TypeId} {pos:String} {after:Array Edge} {guard:Option (Nat × Bool)}
  (hx:evo fr x=some (.pointer (some ⟨g,o,none⟩))) (hy:evo fr y=some v) (hv:v.cells=(enc u).toArray)
  (hL:SetE L i (.r A m c t sz (l.flatMap enc)) (.r A m c t sz ((setI l ix u).flatMap enc)) L') (hA:A=some ⟨g,0,none⟩) (ho:o=0+j*sz) (hix:ix=(j:Int)) (hj:j < m)
  (he:∀ x,(enc x).length=sz) (hz:0 < sz) (h1:Jt (enc u)=true) (hsz:∀ w,(sizeOf ty').run P w = .ok sz w)
  (k:T n N fr L'):Wh P Q n ⟨none,.store ty' x y,ty,pos,after,guard⟩ fr L N:=by
 intro a w ha hw
 have hm:m=l.length:=(Has.ofRow hz he (hw.ok _ hL.mem)).len.symm
 subst hm
 subst hix
 rw[Vd] at hL
 exact Apl u hx hy hv hL hA (by omega) hj (fun x _=>he x) (he u) hz h1 hsz k a w ha hw

theorem Ant {α:Type} {enc:α->List Value} {l:List α} {i A m c t sz q L'} (hL:SetE L i (.r A m c t sz (l.flatMap enc)) (.r A q c t sz ((l.take q).flatMap enc)) L') (hq:q<=l.length) (hz:0 < sz) (he:∀ x,(enc x).length=sz)
  (k:T n N fr L'):T n N fr L:=by
 intro a w ha hw
 refine k a w ha (Heap.turn (e:=.r A m c t sz (l.flatMap enc)) (e':=.r A q c t sz ((l.take q).flatMap enc)) (w:=w) (w':=w) ⟨rfl,rfl,rfl,Nat.le_refl _,fun _ _ _=>rfl⟩ ?_ (Nat.le_refl _) (fun g hg=>.inl (by cases A <;> exact hg)) hL hw)
 have hfl:∀ m:List α,(m.flatMap enc).length=m.length*sz:=by
  intro m
  induction m with
  | nil=>simp
  | cons x r ih=>rw[List.flatMap_cons,List.length_append,he x,ih,List.length_cons,Nat.succ_mul];omega
 have hok:=hw.ok _ hL.mem
 have hm:m=l.length:=(Has.ofRow hz he hok).len.symm
 subst hm
 have htk:(l.take q).flatMap enc=(l.flatMap enc).take (q*sz):=by
  have h0:l.flatMap enc=(l.take q).flatMap enc++(l.drop q).flatMap enc:=by rw[<- List.flatMap_append,List.take_append_drop]
  have hlt:((l.take q).flatMap enc).length=q*sz:=by rw[hfl,List.length_take,Nat.min_eq_left hq]
  rw[h0,<- hlt,List.take_left]
 refine ⟨by rw[hfl,List.length_take,Nat.min_eq_left hq],?_⟩
 rcases hok.2 with ⟨hv,h0⟩ | ⟨g,cap,cur,hv,hb,hh,h3,h4,h5,h6⟩
 ·injection hv with e1 e2 e3
  subst e1;subst e3
  left
  have:q=0:=by omega
  subst this;exact ⟨rfl,rfl⟩
 ·injection hv with e1 e2 e3
  subst e1;subst e3
  refine .inr ⟨g,c,cur,rfl,hb,hh,by omega,h4,h5,?_⟩
  rw[htk,<- h6,List.take_take,Nat.min_eq_left (Nat.mul_le_mul_right _ hq)]

theorem Ig {α:Type} (enc:α->List Value) (l ys:List α) {d:Nat} {s x t e sz bytes A m c g B q q' t' i i' news ty'} {pos:String} {after:Array Edge} {guard:Option (Nat × Bool)} {L' L2:Option Addr->Nat->List Ent}
  (hs:evo fr s=some (.slice A m c)) (hx:evo fr x=some (.slice B q q')) (hB:B=some ⟨g,0,none⟩) (ht:Vx P t e sz bytes) (he:∀ x,(enc x).length=sz)
  (hL2:nthE L i'=some (.m g t' news)) (hn:news=ys.flatMap enc) (hq:q=ys.length) (h1:Jt news=true) (hb:(l.length+ys.length)*bytes<=140737488355328) (hd:Nat.blt d n=true)
  (hL:∀ A' c',SetE L i (.r A m c e sz (l.flatMap enc)) (.r A' (l++ys).length c' e sz ((l++ys).flatMap enc)) (L' A' c')) (hsub:∀ A' c',HSub (L' A' c') (L2 A' c'))
  (h0:0 < bytes)
  (k:∀ A' c',T n N ((d,.slice A' (l++ys).length c')::fr) (L2 A' c')) :
  Wh P Q n ⟨some d,.call ⟨.builtin .append,#[s,x],#[t,t]⟩,ty',pos,after,guard⟩ fr L N:=by
 intro a w ha hw
 have hm:m=l.length:=(Has.ofRow ht.pos he (hw.ok _ (hL none 0).mem)).len.symm
 subst hm
 have hfl:∀ m:List α,(m.flatMap enc).length=m.length*sz:=by
  intro m
  induction m with
  | nil=>simp
  | cons x r ih=>rw[List.flatMap_cons,List.length_append,he x,ih,List.length_cons,Nat.succ_mul];omega
 subst hn
 have hlq:l.length+q=(l++ys).length:=by rw[List.length_append,hq]
 have h63:l.length+q<=9223372036854775807:=by
  have h3:=Nat.mul_le_mul_left (l.length+ys.length) h0
  rw[Nat.mul_succ,Nat.mul_zero,Nat.zero_add] at h3
  omega
 refine Apm (i:=i) (xs:=l.flatMap enc) (L':=L') (L2:=L2) hs hx hB ht hL2 (by rw[hfl,hq]) h1 (by rw[hq];exact hb) h63 hd ?_ hsub ?_ a w ha hw
 ·intro A' c'
  have:=hL A' c'
  rw[hlq,<- List.flatMap_append]
  exact this
 ·intro A' c'
  rw[hlq]
  exact k A' c'

theorem Ae2 {α:Type} (enc:α->List Value) (x0:α) {d:Nat} {t e x y k1 k2 i1 i2 i z} {ty:TypeId} {pos:String} {after:Array Edge} {guard:Option (Nat × Bool)} (hx:evo fr x=some (.int k1 i1)) (hy:evo fr y=some (.int k2 i2)) (h12:i1=i2) (hp:0<=i1)
  (ht:P.underlying t=some (.slice e)) (hi:P.info? e=some i) (hz:i.zero=some z) (hzc:z.cells = #[z]) (hze:enc x0=[z]) (hs:i.size=1) (hb:i.bytes*i1.toNat<=140737488355328) (hb0:0 < i.bytes)
  (hd:Nat.blt d n=true) (k:∀ A,T n N ((d,.slice A (List.replicate i1.toNat x0).length (List.replicate i1.toNat x0).length)::fr) (.r A (List.replicate i1.toNat x0).length (List.replicate i1.toNat x0).length e 1 ((List.replicate i1.toNat x0).flatMap enc)::L)) :
  Wx P Q n ⟨some d,.makeSlice t x y,ty,pos,after,guard⟩ fr L N:=by
 have h2:=Nat.mul_le_mul_right i1.toNat hb0
 rw[Nat.succ_mul,Nat.zero_mul,Nat.zero_add] at h2
 refine Ar7 (z:=z) (m:=i1.toNat) hx hy (by omega) (by omega) ht hi hz hzc hs (by omega) (by omega) hd (fun A=>?_)
 have hk:=k A
 rw[List.length_replicate] at hk
 have hf:(List.replicate i1.toNat x0).flatMap enc=List.replicate i1.toNat z:=by
  generalize i1.toNat=m
  induction m with
  | zero=>rfl
  | succ m ih=>rw[List.replicate_succ,List.flatMap_cons,hze,ih,List.replicate_succ];rfl
 rw[hf] at hk
 exact hk

theorem Has.low {α:Type} {K E:List Ent} {w:World} {A m c sz} {enc:α->List Value} {l:List α} (h:Has (K++E) A m c sz enc l) (hK:∀ e∈K,Ent.ok w e):Has (.old w::E) A m c sz enc l:=by
 refine ⟨h.len,h.nc,h.cap,h.esz,fun hn=>?_⟩
 obtain ⟨b,o,hA,hc⟩:=h.at_ hn
 refine ⟨b,o,hA,fun i hi w' hw' j u hu=>hc i hi w' (fun e he=>?_) j u hu⟩
 rcases List.mem_append.1 he with he | he
 ·exact Ent.ext (hK e he) (hw' (.old w) List.mem_cons_self)
 ·exact hw' e (List.mem_cons_of_mem _ he)
def slA (A:Option Addr) (c p sz:Nat):Option Addr:=if c=p then A else A.map (·.add (p*sz))
theorem Has.sub {α:Type} {K:List Ent} {A m c sz} {enc:α->List Value} {l:List α} (h:Has K A m c sz enc l) {i j:Int} (h1:0<=i) (h2:i<=j) (h3:j<=(m:Int)) :
  Has K (slA A c i.toNat sz) (j.toNat-i.toNat) (c-i.toNat) sz enc (subl l i j):=by
 have hl:=h.len
 have hnc:=h.nc
 refine ⟨by simp[subl];omega,by omega,by have:=h.cap;omega,fun x hx=>h.esz x (List.mem_of_mem_take (List.mem_of_mem_drop hx)),fun hn=>?_⟩
 obtain ⟨b,o,hA,hc⟩:=h.at_ (by omega)
 refine ⟨b,o+i.toNat*sz,?_,fun q hq=>?_⟩
 ·unfold slA
  rw[if_neg (by omega),hA]
  simp[Addr.add_lit]
 ·have hq':i.toNat+q < l.length:=by simp[subl] at hq;omega
  have hx:(subl l i j)[q]=l[i.toNat+q]:=by simp[subl]
  rw[hx,Nat.add_assoc,<- Nat.add_mul]
  exact hc _ hq'
theorem Aid {t x lo A m c e sz k1} {i:Int} {dst:Option Tmp} {ty:TypeId} {pos:String} {after:Array Edge} {guard:Option (Nat × Bool)} (hx:evo fr x=some (.slice A m c)) (hl:evo fr lo=some (.int k1 i)) (ht:Kh P t e sz)
  (h0:0<=i) (h1:i<=(m:Int)) :
  Ev P n ⟨dst,.slice t x (some lo) none none,ty,pos,after,guard⟩ fr L (.slice (slA A c i.toNat sz) (m-i.toNat) (c-i.toNat)) :=
 Ao2 hx hl ht (by omega) (by omega)
theorem Aie {t x hi A m c e sz k2} {j:Int} {dst:Option Tmp} {ty:TypeId} {pos:String} {after:Array Edge} {guard:Option (Nat × Bool)} (hx:evo fr x=some (.slice A m c)) (hh:evo fr hi=some (.int k2 j)) (ht:Kh P t e sz)
  (h0:0<=j) (h2:j<=(c:Int)) :
  Ev P n ⟨dst,.slice t x none (some hi) none,ty,pos,after,guard⟩ fr L (.slice A j.toNat c) :=
 Ao1 hx hh ht (by omega) (by omega)
theorem Has.subL {α:Type} {K:List Ent} {A m c sz} {enc:α->List Value} {l:List α} (h:Has K A m c sz enc l) {i:Int} (h1:0<=i) (h2:i<=(m:Int)) :
  Has K (slA A c i.toNat sz) (m-i.toNat) (c-i.toNat) sz enc (subl l i (m:Int)):=h.sub h1 h2 (Int.le_refl _)
theorem Has.subH {α:Type} {K:List Ent} {A m c sz} {enc:α->List Value} {l:List α} (h:Has K A m c sz enc l) {j:Int} (h1:0<=j) (h2:j<=(m:Int)) :
  Has K A j.toNat c sz enc (subl l 0 j):=by
 have hs:subl l 0 j=l.take j.toNat:=by simp[subl]
 rw[hs]
 exact h.take (by omega)
theorem Has.len' {α:Type} {K:List Ent} {A m c sz} {enc:α->List Value} {l:List α} (h:Has K A m c sz enc l):Has K A l.length c sz enc l:=by
 have:=h.len;subst this;exact h
end

section
variable {P:Program} {n:Nat} {fr:List (Nat × Value)} {L:List Ent}
variable {dst:Option Tmp} {ty:TypeId} {pos:String} {after:Array Edge} {guard:Option (Nat × Bool)}
theorem Anu {t x k a} (hx:evo fr x=some (.int k a)):Ev P n ⟨dst,.unOp .neg t x,ty,pos,after,guard⟩ fr L (.int k (k.wrap (-a))):=fun ac w ha _=>by
 simp only[execOp,ha.eval hx,Op.unary,Op.intArith,Int.zero_sub]
 rfl
def Px (k:IntKind) (a b:Int):Int:=k.wrap (BitVec.ofInt k.bits a &&& BitVec.ofInt k.bits b).toNat
def Aad (k:IntKind) (a b:Int):Int:=k.wrap (BitVec.ofInt k.bits a ||| BitVec.ofInt k.bits b).toNat
def Yr (k:IntKind) (a b:Int):Int:=k.wrap (BitVec.ofInt k.bits a ^^^ BitVec.ofInt k.bits b).toNat
theorem Acv {t t' x y k a b} (hx:evo fr x=some (.int k a)) (hy:evo fr y=some (.int k b)):Ev P n ⟨dst,.binOp .and t x y t',ty,pos,after,guard⟩ fr L (.int k (Px k a b)) :=
 Kx hx hy fun w=>by rw[binOp_and,Op.intBits];rfl
theorem Ae3 {t t' x y k a b} (hx:evo fr x=some (.int k a)) (hy:evo fr y=some (.int k b)):Ev P n ⟨dst,.binOp .or t x y t',ty,pos,after,guard⟩ fr L (.int k (Aad k a b)) :=
 Kx hx hy fun w=>by rw[binOp_or,Op.intBits];rfl
theorem Acw {t t' x y k a b} (hx:evo fr x=some (.int k a)) (hy:evo fr y=some (.int k b)):Ev P n ⟨dst,.binOp .xor t x y t',ty,pos,after,guard⟩ fr L (.int k (Yr k a b)) :=
 Kx hx hy fun w=>by rw[binOp_xor,Op.intBits];rfl
def shl_ (k:IntKind) (a b:Int):Int:=k.wrap (a*2 ^ (min b.toNat k.bits))
def shr_ (k:IntKind) (a b:Int):Int:=a.fdiv (2 ^ (min b.toNat k.bits))
theorem Avj {t t' x y k k' a b} (hx:evo fr x=some (.int k a)) (hy:evo fr y=some (.int k' b)) (hb:0<=b):Ev P n ⟨dst,.binOp .shl t x y t',ty,pos,after,guard⟩ fr L (.int k (shl_ k a b)):=by
 intro ac w ha _
 have:Op.shift .shl k a k' b=pure (.int k (shl_ k a b)):=by
  unfold Op.shift
  rw[if_neg (by omega)];rfl
 simp[execOp,ha.eval hx,ha.eval hy,eqGuard_at_int,binOp_shl,this]
theorem Avk {t t' x y k k' a b} (hx:evo fr x=some (.int k a)) (hy:evo fr y=some (.int k' b)) (hb:0<=b):Ev P n ⟨dst,.binOp .shr t x y t',ty,pos,after,guard⟩ fr L (.int k (shr_ k a b)):=by
 intro ac w ha _
 have:Op.shift .shr k a k' b=pure (.int k (shr_ k a b)):=by
  unfold Op.shift
  rw[if_neg (by omega)];rfl
 simp[execOp,ha.eval hx,ha.eval hy,eqGuard_at_int,binOp_shr,this]
end
theorem SubE.app2 {K E E':List Ent} (h:SubE E E'):SubE (K++E) (K++E'):=⟨fun w hw x hx=>by
 rcases List.mem_append.1 hx with hx | hx
 ·exact hw x (List.mem_append_left _ hx)
 ·exact h.ok w (fun y hy=>hw y (List.mem_append_right _ hy)) x hx⟩
theorem SubE.appR2 {K E E':List Ent} (h:SubE E E'):SubE E (K++E'):=⟨fun w hw=>h.ok w fun x hx=>hw x (List.mem_append_right _ hx)⟩
theorem Has.up0 {α:Type} {K:List Ent} {A:Option Addr} {n c sz:Nat} {enc:α->List Value} {l:List α} (h:Has K A n c sz enc l):Has (K++[]) A n c sz enc l:=by rw[List.append_nil];exact h
theorem Has.assoc {α:Type} {K E E':List Ent} {A:Option Addr} {n c sz:Nat} {enc:α->List Value} {l:List α} (h:Has (K++E++E') A n c sz enc l):Has (K++(E++E')) A n c sz enc l:=by rw[<- List.append_assoc];exact h
section
variable {P:Program} {n:Nat} {fr:List (Nat × Value)} {L:List Ent}
theorem Hc {fn:Func} {R:Value->List Ent->Prop} {w0:World} {rs vs} {Ln:List Ent} (hr:fn.results=rs.toArray) (h:Res P fr L rs vs) (hR:R (Ph vs) Ln) (hlo:∀ x∈Ln,x.low=0) (hs:Gp L (Ln++[.old w0])) :
  T n (bodyPost P fn (fun e w'=>∃ v Ln,e = .returned v/\R v Ln/\(∀ x∈Ln,x.low=0)/\Heap (Ln++[.old w0]) w') .ret) fr L :=
 Ar8 hr h fun _ hw=>⟨_,Ln,rfl,hR,hlo,hw.pick hs⟩
theorem Ayk {fn:Func} {R:Value->List Ent->Prop} {w0:World} {rs vs} {Ln:List Ent} (hr:fn.results=rs.toArray) (h:Res P fr L rs vs) (hR:R (Ph vs) Ln) (hlo:∀ x∈Ln,x.low=0) (hs:Gp L (Ln++[.old w0])) :
  T n (bodyPost P fn (fun e w'=>∃ v Ln,e = .returned v/\R v Ln/\(∀ x∈Ln,x.low=0)/\Heap (Ln++[.old w0]) w') .normal) fr L :=
 Ar9 hr h fun _ hw=>⟨_,Ln,rfl,hR,hlo,hw.pick hs⟩
end
theorem Anv {ρ:Type} {r:ρ} {p:Prop} (h:(none:Option ρ)=some r):p:=nomatch h
theorem Jw {α:Type} {enc:α->List Value} {sz:Nat} (he:∀ x,(enc x).length=sz):∀ m:List α,(m.flatMap enc).length=m.length*sz:=by
 intro m
 induction m with
 | nil=>simp
 | cons x r ih=>rw[List.flatMap_cons,List.length_append,he x,ih,List.length_cons,Nat.succ_mul];omega
theorem Has.dn0 {α:Type} {K:List Ent} {A:Option Addr} {n c sz:Nat} {enc:α->List Value} {l:List α} (h:Has (K++[]) A n c sz enc l):Has K A n c sz enc l:=by rw[List.append_nil] at h;exact h

def raw (x:List Value):List Value:=x
def HasN {α:Type} (K:List Ent) (A:Option Addr) (n c sz:Nat) (R:List Ent->α->List Value->Prop) (l:List α):Prop :=
 ∃ hl:List (List Value),Has K A n c sz raw hl/\hl.length=l.length/\∀ (i:Nat) (h:i < l.length) (h':i < hl.length),R K l[i] hl[i]
theorem HasN.len {α:Type} {K:List Ent} {A:Option Addr} {n c sz:Nat} {R:List Ent->α->List Value->Prop} {l:List α} (h:HasN K A n c sz R l):l.length=n:=by
 obtain ⟨hl,h1,h2,_⟩:=h;rw[<- h2];exact h1.len
theorem HasN.len' {α:Type} {K:List Ent} {A:Option Addr} {n c sz:Nat} {R:List Ent->α->List Value->Prop} {l:List α} (h:HasN K A n c sz R l):HasN K A l.length c sz R l:=by
 have:=h.len;subst this;exact h
theorem HasN.up {α:Type} {K L:List Ent} {A:Option Addr} {n c sz:Nat} {R:List Ent->α->List Value->Prop} {l:List α} (hm:∀ {K L:List Ent} {x:α} {ys:List Value},SubE K L->R K x ys->R L x ys) (h:HasN K A n c sz R l) (hK:SubE K L):HasN L A n c sz R l:=by
 obtain ⟨hl,h1,h2,h3⟩:=h
 exact ⟨hl,h1.up hK,h2,fun i h h'=>hm hK (h3 i h h')⟩
theorem HasN.nil {α:Type} {K:List Ent} {sz:Nat} {R:List Ent->α->List Value->Prop}:HasN K none 0 0 sz R ([]:List α):=⟨[],Has.nil,rfl,fun i h=>absurd h (by simp)⟩
theorem HasN.up0 {α:Type} {K:List Ent} {A:Option Addr} {n c sz:Nat} {R:List Ent->α->List Value->Prop} {l:List α} (h:HasN K A n c sz R l):HasN (K++[]) A n c sz R l:=by rw[List.append_nil];exact h
theorem HasN.dn0 {α:Type} {K:List Ent} {A:Option Addr} {n c sz:Nat} {R:List Ent->α->List Value->Prop} {l:List α} (h:HasN (K++[]) A n c sz R l):HasN K A n c sz R l:=by rw[List.append_nil] at h;exact h
theorem HasN.assoc {α:Type} {K E E':List Ent} {A:Option Addr} {n c sz:Nat} {R:List Ent->α->List Value->Prop} {l:List α} (h:HasN (K++E++E') A n c sz R l):HasN (K++(E++E')) A n c sz R l:=by rw[<- List.append_assoc];exact h
theorem HasN.at_idx {α:Type} {K:List Ent} {A:Option Addr} {m c sz:Nat} {R:List Ent->α->List Value->Prop} {l:List α} {i:Int} {x:α} (h:HasN K A m c sz R l) (hi:idx l i=some x) :
  ∃ (b o j:Nat) (ys:List Value),A=some ⟨b,o,none⟩/\i=(j:Int)/\j < m/\Pt K b (o+j*sz) ys/\R K x ys:=by
 obtain ⟨hl,h1,h2,h3⟩:=h
 obtain ⟨j,hj,e1,e2⟩:=Abj hi
 obtain ⟨b,o,hA,hp⟩:=h1.elem (i:=j) (by omega)
 exact ⟨b,o,j,_,hA,e1,by have:=h1.len;omega,hp,by rw[<- e2];exact h3 j hj (by omega)⟩
theorem Pt.low {K E:List Ent} {w:World} {b o:Nat} {ys:List Value} (h:Pt (K++E) b o ys) (hK:∀ e∈K,Ent.ok w e):Pt (.old w::E) b o ys:=fun w' hw'=>h w' (fun e he=>by
 rcases List.mem_append.1 he with he | he
 ·exact Ent.ext (hK e he) (hw' (.old w) List.mem_cons_self)
 ·exact hw' e (List.mem_cons_of_mem _ he))
section
variable {P:Program} {n:Nat} {N:Act->World->Prop} {Q:Exit->Act->World->Prop} {fr:List (Nat × Value)} {L:List Ent}
theorem T_mr {α:Type} {enc:α->List Value} (l:List α) {i g t sz cs q L'} (hL:SetE L i (.m g t cs) (.r (some ⟨g,0,none⟩) q q t sz (l.flatMap enc)) L') (hc:cs=l.flatMap enc) (hq:q=l.length) (he:∀ x,(enc x).length=sz) (hm:q<=maxLen)
  (k:T n N fr L'):T n N fr L:=by
 intro a w ha hw
 refine k a w ha (Heap.turn (e:=.m g t cs) (e':=.r (some ⟨g,0,none⟩) q q t sz (l.flatMap enc)) (w:=w) (w':=w) ⟨rfl,rfl,rfl,Nat.le_refl _,fun _ _ _=>rfl⟩ ?_ (Nat.le_refl _) (fun g hg=>.inl hg) hL hw)
 have hok:w.heap[g]? = some (.cells cs.toArray t (0,0)):=hw.ok _ hL.mem
 subst hc;subst hq
 have hl:=Jw he l
 exact ⟨hl,.inr ⟨g,l.length,_,rfl,Nat.zero_le _,hok,Nat.le_refl _,hm,by simpa using hl,by show List.take _ (l.flatMap enc)=_;rw[<- hl,List.take_length]⟩⟩
theorem Anw {α:Type} {enc:α->List Value} {l r:List α} {i A m c t sz L'} (hp:∃ k,r=l.take k) (hL:SetE L i (.r A m c t sz (l.flatMap enc)) (.r A r.length c t sz (r.flatMap enc)) L') (hz:0 < sz) (he:∀ x,(enc x).length=sz)
  (k:T n N fr L'):T n N fr L:=by
 obtain ⟨q,rfl⟩:=hp
 rcases Nat.le_total q l.length with h | h
 ·rw[List.length_take,Nat.min_eq_left h] at hL
  exact Ant hL h hz he k
 ·rw[List.take_of_length_le h] at hL
  intro a w ha hw
  have hm:m=l.length:=(Has.ofRow hz he (hw.ok _ hL.mem)).len.symm
  subst hm
  rw[hL.same rfl] at k
  exact k a w ha hw
theorem Alz (w:World) (r:Option Nat):w.grownBy w r:=⟨rfl,rfl,rfl,Nat.le_refl _,fun _ _ _=>rfl⟩
theorem Abb (P:Program) (w:World) (base:Nat) (t ty e:TypeId) (i:TypeInfo) (size:Nat) (ht:P.underlying t=some (.slice e)) (hi:P.info? e=some i)
  (v:Value) (n:Nat) (xs:List Value) (hown:w.ownsRow base e size v n xs) (c:Nat):(Builtin.append_ #[t,t] ty #[v,.slice none 0 c]).run P w = .ok v w:=by
 rcases hown.2 with ⟨rfl,rfl⟩ | ⟨g,cap,cur,rfl,_,_,hnc,_⟩
 ·simp[Builtin.append_,run_underlying ht,sizeOf,typeInfo,hi,Builtin.lenOf,Builtin.firstCells]
 ·simp[Builtin.append_,run_underlying ht,sizeOf,typeInfo,hi,Builtin.lenOf,Builtin.firstCells,hnc,storeCells]
theorem Al0 {α:Type} (enc:α->List Value) (l ys:List α) {d:Nat} {s x t e sz bytes A m c B q q' i ty'} {pos:String} {after:Array Edge} {guard:Option (Nat × Bool)} {L':Option Addr->Nat->List Ent} {K:List Ent}
  (hs:evo fr s=some (.slice A m c)) (hx:evo fr x=some (.slice B q q')) (ht:Vx P t e sz bytes) (he:∀ x,(enc x).length=sz)
  (hy:Has K B q q' sz enc ys) (hK:SubE K L) (h1:∀ x,Jt (enc x)=true) (hb:(l.length+ys.length)*bytes<=140737488355328) (hd:Nat.blt d n=true)
  (hL:∀ A' c',SetE L i (.r A m c e sz (l.flatMap enc)) (.r A' (l++ys).length c' e sz ((l++ys).flatMap enc)) (L' A' c'))
  (h0:0 < bytes)
  (k:∀ A' c',T n N ((d,.slice A' (l++ys).length c')::fr) (L' A' c')) :
  Wh P Q n ⟨some d,.call ⟨.builtin .append,#[s,x],#[t,t]⟩,ty',pos,after,guard⟩ fr L N:=by
 intro a w ha hw
 have hm:m=l.length:=(Has.ofRow ht.pos he (hw.ok _ (hL none 0).mem)).len.symm
 subst hm
 have hq:=hy.len
 subst hq
 have hl:=Jw he l
 have hly:=Jw he ys
 have h63:l.length+ys.length<=9223372036854775807:=by
  have h3:=Nat.mul_le_mul_left (l.length+ys.length) h0
  rw[Nat.mul_succ,Nat.mul_zero,Nat.zero_add] at h3
  omega
 obtain ⟨i0,z,e1,e2,e3,e4,e5⟩:=ht.ex
 have hown:w.ownsRow 0 e sz (.slice A l.length c) l.length (l.flatMap enc):=hw.ok _ (hL none 0).mem
 have hsl:=hy.at hK hw
 have hone:∀ u∈ys.flatMap enc,u.oneCell'=true:=by
  intro u hu
  obtain ⟨x,_,hu⟩:=List.mem_flatMap.1 hu
  exact Ol (h1 x) u hu
 have main:∃ v' w',(Builtin.append_ #[t,t] ty' #[.slice A l.length c,.slice B ys.length q']).run P w = .ok v' w'/\w'.ownsRow 0 e sz v' (l.length+ys.length) (l.flatMap enc++ys.flatMap enc) /\
   w.grownBy w' (Value.slice A l.length c).ownBlock/\(v'.ownBlock=(Value.slice A l.length c).ownBlock\/v'.ownBlock=some w.heap.size):=by
  by_cases hn:0 < ys.length
  ·obtain ⟨b,o,hB,hcell⟩:=hsl.at_ hn
   subst hB
   have hnew:∀ (j:Nat) (u:Value),(ys.flatMap enc)[j]? = some u->w.cell? ((⟨b,o,none⟩:Addr).add j)=some u:=fun j u hj=>by
    have hjl:j < (ys.flatMap enc).length:=(List.getElem?_eq_some_iff.1 hj).1
    rw[hly] at hjl
    have hdm:j=j / sz*sz+j % sz:=by have:=Nat.div_add_mod j sz;rw[Nat.mul_comm] at this;omega
    have hq:j / sz < ys.length:=(Nat.div_lt_iff_lt_mul ht.pos).2 hjl
    have hmod:=Nat.mod_lt j ht.pos
    obtain ⟨u',hu'⟩:∃ u',(enc ys[j / sz])[j % sz]? = some u':=⟨_,List.getElem?_eq_getElem (by rw[he ys[j / sz]];exact hmod)⟩
    have hf:=Wc ys (j / sz) hq (fun x _=>he x) (j % sz) u' hu'
    rw[<- hdm,hj] at hf
    injection hf with hf
    subst hf
    have:=hcell (j / sz) hq (j % sz) u hu'
    rw[Addr.add_lit,hdm,<- Nat.add_assoc];exact this
   obtain ⟨v',w',hr,h2,h3,_,h5⟩:=run_append_own_at (P:=P) w 0 t ty' e i0 z sz bytes ht.sl e1 e2 e3 e4 e5 ht.pos _ _ _ hown ⟨b,o,none⟩ ys.length q' (ys.flatMap enc) hly hnew hone (by unfold maxLen;omega) hb (Nat.zero_le _)
   exact ⟨v',w',hr,h2,h3,h5⟩
  ·have h0:ys=[]:=List.eq_nil_of_length_eq_zero (by omega)
   subst h0
   cases B with
   | none=>exact ⟨_,w,Abb P w 0 t ty' e i0 sz ht.sl e1 _ _ _ hown q',by simpa using hown,Alz w _,.inl rfl⟩
   | some b=>
    obtain ⟨v',w',hr,h2,h3,_,h5⟩:=run_append_own_at (P:=P) w 0 t ty' e i0 z sz bytes ht.sl e1 e2 e3 e4 e5 ht.pos _ _ _ hown b 0 q' [] (by simp) (fun j u hj=>by simp at hj) (fun u hu=>by simp at hu) (by unfold maxLen;omega) hb (Nat.zero_le _)
    exact ⟨v',w',hr,h2,h3,h5⟩
 obtain ⟨v',w',hr,h2,h3,h5⟩:=main
 have hlq:l.length+ys.length=(l++ys).length:=by rw[List.length_append]
 have hv':∃ A' c',v' = .slice A' (l.length+ys.length) c':=by
  rcases h2.2 with ⟨hv,h0⟩ | ⟨g',cap,cur,hv,_⟩
  ·exact ⟨none,0,by rw[hv,h0]⟩
  ·exact ⟨_,_,hv⟩
 obtain ⟨A',c',rfl⟩:=hv'
 rw[hlq] at hr h2 h5
 rw[<- List.flatMap_append] at h2
 have hrun:(execOp a.eval ⟨some d,.call ⟨.builtin .append,#[s,x],#[t,t]⟩,ty',pos,after,guard⟩).run P w = .ok (.value (.slice A' (l++ys).length c')) w':=by
  simp[execOp,resolve,invoke,builtin,ha.eval hs,ha.eval hx,hr]
 simp only[Oper.wp,hrun,Oper.upon_value]
 refine k A' c' _ _ (ha.put hd) (Heap.turn (e:=.r A l.length c e sz (l.flatMap enc)) (e':=.r A' (l++ys).length c' e sz ((l++ys).flatMap enc)) h3 h2 (Nat.le_refl _) (fun g' hg'=>?_) (hL A' c') hw)
 simp only[Ent.blk] at hg' ⊢
 rcases h5 with h5 | h5
 ·left;rw[<- h5];exact hg'
 ·right;rw[h5] at hg';injection hg' with hg';omega
theorem Anx {t x k a} {dst:Option Tmp} {ty:TypeId} {pos:String} {after:Array Edge} {guard:Option (Nat × Bool)} (hx:evo fr x=some (.int k a)):Ev P n ⟨dst,.unOp .xor t x,ty,pos,after,guard⟩ fr L (.int k (Yr k (if k.signed then -1 else k.max) a)):=fun ac w ha _=>by
 simp only[execOp,ha.eval hx,Op.unary,Op.intBits]
 rfl
theorem Ass {d:Nat} {pos:String} {after:Array Edge} {guard:Option (Nat × Bool)} {f:FuncId} {cf:Operand} {xs:List Operand} {vs:List Value} {ts:Array TypeId} {ty':TypeId} {R:Value->List Ent->Prop} (hcf:evo fr cf=some (.func (.func f) #[] #[])) (hx:evos fr xs=some vs) (hc:∀ w,Heap L w->CtL P f vs w R) (hd:Nat.blt d n=true)
  (k:∀ v Ln,(∀ x∈Ln,x.low=0)->R v Ln->T n N ((d,v)::fr) (Ln++L)):Wx P Q n ⟨some d,.call ⟨.value cf,xs.toArray,ts⟩,ty',pos,after,guard⟩ fr L N:=by
 intro a w ha hw
 obtain ⟨hf,hcall⟩:=hc w hw
 have hrun:(execOp a.eval ⟨some d,.call ⟨.value cf,xs.toArray,ts⟩,ty',pos,after,guard⟩).run P w = .ok (.enter f vs.toArray) w:=by
  obtain ⟨fn,h1,h2,h3⟩:=hf
  have:=ha.evals hx
  have h2' : fn.name ≠ "runtime.NumGoroutine" := by simpa using h2
  have h3':fn.body≠none:=by intro h;rw[h] at h3;cases h3
  simp[execOp,resolve,Deferred.ofValue,invoke,callFunc,ha.eval hcf,this,h1,h2',h3']
 simp only[Oper.wp,hrun,Oper.upon_enter]
 refine hcall.mono ?_
 rintro e w' ⟨v,Ln,rfl,hR,hl,hh⟩
 exact ⟨hh.ok (.old w) (by simp),k v Ln hl hR _ _ (ha.put hd) (hw.join hl hh)⟩
end
section
variable {P:Program} {n:Nat} {fr:List (Nat × Value)} {L:List Ent}
variable {dst:Option Tmp} {ty:TypeId} {pos:String} {after:Array Edge} {guard:Option (Nat × Bool)}
theorem Aae {t t' x y a b} (hx:evo fr x=some (.int .i64 a)) (hy:evo fr y=some (.int .i64 b)):Ev P n ⟨dst,.binOp .add t x y t',ty,pos,after,guard⟩ fr L (.int .i64 (w64 (a+b))):=Ahg hx hy
theorem Ae4 {t t' x y a b} (hx:evo fr x=some (.int .i64 a)) (hy:evo fr y=some (.int .i64 b)):Ev P n ⟨dst,.binOp .sub t x y t',ty,pos,after,guard⟩ fr L (.int .i64 (w64 (a-b))):=Ahh hx hy
theorem Ae5 {t t' x y a b} (hx:evo fr x=some (.int .i64 a)) (hy:evo fr y=some (.int .i64 b)):Ev P n ⟨dst,.binOp .mul t x y t',ty,pos,after,guard⟩ fr L (.int .i64 (w64 (a*b))):=Ahi hx hy
theorem Al1 {t t' x y a b} (hx:evo fr x=some (.int .i64 a)) (hy:evo fr y=some (.int .i64 b)) (h:b≠0):Ev P n ⟨dst,.binOp .quo t x y t',ty,pos,after,guard⟩ fr L (.int .i64 (w64 (Int.tdiv a b))):=Ahj hx hy h
theorem Ae6 {t x a} (hx:evo fr x=some (.int .i64 a)):Ev P n ⟨dst,.unOp .neg t x,ty,pos,after,guard⟩ fr L (.int .i64 (w64 (-a))):=Anu hx
theorem Xu {src dt x k v} (hx:evo fr x=some (.int k v)) (hs:(P.underlying src).isSome=true) (hd:P.underlying dt=some (.int .i64)):Ev P n ⟨dst,.convert src dt x,ty,pos,after,guard⟩ fr L (.int .i64 (w64 v)):=Adk hx hs hd
theorem Acx {t t' x y a b} (hx:evo fr x=some (.int .u64 a)) (hy:evo fr y=some (.int .u64 b)):Ev P n ⟨dst,.binOp .add t x y t',ty,pos,after,guard⟩ fr L (.int .u64 (wu64 (a+b))):=Ahg hx hy
theorem Acy {t t' x y a b} (hx:evo fr x=some (.int .u64 a)) (hy:evo fr y=some (.int .u64 b)):Ev P n ⟨dst,.binOp .sub t x y t',ty,pos,after,guard⟩ fr L (.int .u64 (wu64 (a-b))):=Ahh hx hy
theorem Acz {t t' x y a b} (hx:evo fr x=some (.int .u64 a)) (hy:evo fr y=some (.int .u64 b)):Ev P n ⟨dst,.binOp .mul t x y t',ty,pos,after,guard⟩ fr L (.int .u64 (wu64 (a*b))):=Ahi hx hy
theorem Aj8 {t t' x y a b} (hx:evo fr x=some (.int .u64 a)) (hy:evo fr y=some (.int .u64 b)) (h:b≠0):Ev P n ⟨dst,.binOp .quo t x y t',ty,pos,after,guard⟩ fr L (.int .u64 (wu64 (Int.tdiv a b))):=Ahj hx hy h
theorem Aj9 {t x a} (hx:evo fr x=some (.int .u64 a)):Ev P n ⟨dst,.unOp .neg t x,ty,pos,after,guard⟩ fr L (.int .u64 (wu64 (-a))):=Anu hx
theorem Aif {src dt x k v} (hx:evo fr x=some (.int k v)) (hs:(P.underlying src).isSome=true) (hd:P.underlying dt=some (.int .u64)):Ev P n ⟨dst,.convert src dt x,ty,pos,after,guard⟩ fr L (.int .u64 (wu64 v)):=Adk hx hs hd
theorem Ac0 {t t' x y a b} (hx:evo fr x=some (.int .u32 a)) (hy:evo fr y=some (.int .u32 b)):Ev P n ⟨dst,.binOp .add t x y t',ty,pos,after,guard⟩ fr L (.int .u32 (wu32 (a+b))):=Ahg hx hy
theorem Ac1 {t t' x y a b} (hx:evo fr x=some (.int .u32 a)) (hy:evo fr y=some (.int .u32 b)):Ev P n ⟨dst,.binOp .sub t x y t',ty,pos,after,guard⟩ fr L (.int .u32 (wu32 (a-b))):=Ahh hx hy
theorem Ac2 {t t' x y a b} (hx:evo fr x=some (.int .u32 a)) (hy:evo fr y=some (.int .u32 b)):Ev P n ⟨dst,.binOp .mul t x y t',ty,pos,after,guard⟩ fr L (.int .u32 (wu32 (a*b))):=Ahi hx hy
theorem Aka {t t' x y a b} (hx:evo fr x=some (.int .u32 a)) (hy:evo fr y=some (.int .u32 b)) (h:b≠0):Ev P n ⟨dst,.binOp .quo t x y t',ty,pos,after,guard⟩ fr L (.int .u32 (wu32 (Int.tdiv a b))):=Ahj hx hy h
theorem Aig {src dt x k v} (hx:evo fr x=some (.int k v)) (hs:(P.underlying src).isSome=true) (hd:P.underlying dt=some (.int .u32)):Ev P n ⟨dst,.convert src dt x,ty,pos,after,guard⟩ fr L (.int .u32 (wu32 v)):=Adk hx hs hd
theorem Akb {src dt x k v} (hx:evo fr x=some (.int k v)) (hs:(P.underlying src).isSome=true) (hd:P.underlying dt=some (.int .u8)):Ev P n ⟨dst,.convert src dt x,ty,pos,after,guard⟩ fr L (.int .u8 (wu8 v)):=Adk hx hs hd
end
end Go.Proofs.YtjfndjmabhbicaaGreat
