/- Walks of the program, with their plain functions: LabelLifts, LabelKinds. -/
import Derived.Test.YtbkobeeileemjaaGreatY6
import Derived.Test.YtbkobeeileemjaaGreatH9
import Derived.Test.YtbkobeeileemjaaGreatFlow8
import Derived.Test.YtbkobeeileemjaaGreatRows
import Derived.ProofKit
import Derived.OpenShut
import Derived.ShutString
import Derived.ChangeOld
import Derived.Below
import Derived.Carry
import Derived.ChangeArms
import Derived.Deep.Slices
namespace Go.Proofs.YtbkobeeileemjaaGreat
open Go Go.RowKit

instance:UndI Tryz.prog 70 (.int .i16):=⟨Tryz.underlying70⟩
noncomputable def Eo (p0:List Aa) (p2:Int):((List Aa) × Int)→Option (Sum ((List Aa) × Int) (List Aa)):=fun s0 =>
 if s0.2 < ((((p0).length:Nat):Int)) then (bnd (idx p0 s0.2) fun x0 =>
 gd (((s0.1).length+1)*72≤140737488355328) <|
 some (.inl (s0.1++[(⟨x0.Id,x0.X,x0.Y,(⟨w64 (x0.Z.Lo+(w64 (p2))),w64 (x0.Z.Hi+(w64 (p2)))⟩:Bl),x0.Wide,x0.Num,x0.Of,x0.Class⟩:Aa)],w64 (s0.2+1))))
 else (some (.inr s0.1))
noncomputable def Fz (p0:List Aa) (p1:Af) (p2:Int):Option Bool :=
 bnd (Lm p0 p1 12) fun r2 =>
 if r2=true then (jn (fun (s6:List Aa) =>
 bnd (Ia s6) fun r0 =>
 if r0=true then (bnd (Ko p0 p1) fun r1 =>
 bnd (Ko s6 p1) fun r3 =>
 jn (fun (s0:Bool) =>
 some s0)
 (fun j0=>if r1.2=0 then (if r3.2=0 then (bnd (Hc r1.1 r3.1) fun r4 =>
 if r4=true then (if ((((r1.1).length:Nat):Int))=((((p0).length:Nat):Int)) then (bnd (Gh) fun r5 =>
 j0 r5)
 else (j0 false))
 else (j0 false))
 else (j0 false))
 else (j0 false)))
 else (bnd (Gh) fun r6 =>
 some r6))
 (fun j6=>bnd (lfix (Eo p0 p2) (([]:List Aa),0)) fun t0 =>
 j6 t0))
 else (bnd (Gh) fun r7 =>
 some r7)
set_option maxHeartbeats 1000000 in
set_option maxRecDepth 100000 in
instance Vn (p0:List Aa) (p1:Af) (p2:Int):Con (Fz p0 p1 p2) Tryz.prog 11 (fun K vs=>∃ (A0_0:Option Addr) (c0_0:Nat),vs=[.slice (A0_0) ((p0).length) (c0_0),.agg #[.int .i64 (p1.Cell),.int .i64 (p1.Reach),.int .i64 (p1.Slope),.int .i64 (p1.Link),.int .i64 (p1.Flat),.int .i64 (p1.Tall),.int .i64 (p1.High),.int .i64 (p1.Low),.int .i64 (p1.Brush),.int .i64 (p1.Few)],.int .i16 (p2)]∧Has K A0_0 (p0).length c0_0 9 Ag (p0)∧True) (fun _ r=>fun v Ln=>v = .bool (r)∧Ln=[]∧True):=⟨by
 rintro K _ r ⟨A0_0,c0_0,rfl,ha0,-⟩ hx w hK;replace ha0:=Has.lo ha0 hK;unfold Fz at hx;refine CtS Tryz.ntmps11 Tryz.results11 ?_;refine pre ?_;intros;rename_i hx
 refine Cq4 (s:=17) hx rfl (fun _ hx=>?_) (fun _ hx=>?_)
 ·exact au
 ·refine pre ?_;intros;rename_i hx
  refine Mq ?_;refine pre ?_;intros;rename_i hx
  apply Jr (γ:=(Option Addr) × Nat) hx [0,4] (fun s6 y6 f=>(7,.slice (y6.1) ((s6).length) (y6.2))::f) [0,999] (fun s6 y6 l=>.r (y6.1) ((s6).length) (y6.2) 66 9 ((s6).flatMap Ag)::l);exact kk
  ·intro s6 y6 hx;refine pre ?_;intros;rename_i hx
   refine Cq4 (s:=49) hx rfl (fun _ hx=>?_) (fun _ hx=>?_)
   ·exact au
   ·refine pre ?_;intros;rename_i hx
    apply Jr (γ:=Unit) hx [] (fun s0 y0 f=>(6,.bool (s0))::f) [999] (fun s0 y0 l=>l);exact kk
    ·intro s0 y0 hx;exact au
    ·intro _ hx;exact au
  ·intro _ hx;refine pre ?_;intros;rename_i hx
   refine Bq 66 9 ?_
   apply Lr (γ:=(Option Addr) × Nat) hx [0,2,4] (fun s1 y1 f=>(7,.slice (y1.1) ((s1.1).length) (y1.2))::(8,.int .i64 (s1.2))::f) [1,999] (fun s1 y1 l=>.r (y1.1) ((s1.1).length) (y1.2) 66 9 ((s1.1).flatMap Ag)::l) (_,_);exact kk;exact sk;intro s1 y1 x0 hx _;unfold Eo at hx
   exact au⟩
theorem Uu (p0:List Aa) (p1:Af) (p2:Int) {K:List Ent} {A0_0:Option Addr} {c0_0:Nat} (ha0:Has K A0_0 (p0).length c0_0 9 Ag (p0)) {r:Bool} (hx:Fz p0 p1 p2=some r) (w:World) (hK:∀ e∈K,Ent.ok w e):CtL Tryz.prog 11 [.slice (A0_0) ((p0).length) (c0_0),.agg #[.int .i64 (p1.Cell),.int .i64 (p1.Reach),.int .i64 (p1.Slope),.int .i64 (p1.Link),.int .i64 (p1.Flat),.int .i64 (p1.Tall),.int .i64 (p1.High),.int .i64 (p1.Low),.int .i64 (p1.Brush),.int .i64 (p1.Few)],.int .i16 (p2)] w fun v Ln=>v = .bool (r)∧Ln=[]∧True:=(Vn p0 p1 p2).h K _ _ ⟨_,_,rfl,ha0,trivial⟩ hx w hK
end Go.Proofs.YtbkobeeileemjaaGreat
/- Classes of points; LabelKinds. -/
namespace Go.Proofs.YtbkobeeileemjaaGreat
open Go Go.RowKit Go.Sort
theorem Akt {α β:Type} (l:List α) (f:α→β) (B:List β × Int→Option (Sum (List β × Int) (List β)))
  (h1:∀ (j:Nat) (hj:j < l.length) (s:List β),s.length=j→B (s,(j:Int))=some (.inl (s++[f l[j]],((j+1:Nat):Int)))) (h2:∀ s,B (s,(l.length:Int))=some (.inr s)):lfix B ([],0)=some (l.map f):=by
 have key:∀ (m k:Nat),k≤l.length→l.length-k=m→lfix B ((l.take k).map f,(k:Int))=some (l.map f):=by
  intro m
  induction m with
  | zero =>
   intro k hk hm
   obtain rfl:k=l.length:=by omega
   rw [Cy,h2,List.take_length]
  | succ m ih =>
   intro k hk hm
   have hlt:k < l.length:=by omega
   rw [Cy,h1 k hlt _ (by rw [List.length_map,List.length_take];omega)]
   dsimp only
   have:(l.take k).map f++[f l[k]]=(l.take (k+1)).map f:=by rw [List.take_succ_eq_append_getElem hlt,List.map_append];rfl
   rw [this]
   exact ih (k+1) (by omega) (by omega)
 exact key l.length 0 (Nat.zero_le _) rfl
def Aam (m:Bd) (r:Af) (S G R:List Int) (p:Aa):Int :=
 if p.Id∈S then 7 else if p.Id∈G then 2 else match Wa m.V m.T p with
 | none=>1
 | some s=>if r.High < s.Lo∨s.Hi < -r.Low then 7 else if p.Id∈R then 6 else if r.Brush≤s.Lo then 5 else 1
theorem Ar0 {m:Bd} (h:Msh m) {r:Af} (hr:X.okRules r=true) {S G R:List Int} {ms mg mr:List (Int × Bool)} (hs:∀ x,(mget ms x).getD false=decide (x∈S)) (hg:∀ x,(mget mg x).getD false=decide (x∈G)) (hR:∀ x,(mget mr x).getD false=decide (x∈R))
  {p:Aa} (hp:X.okPt p=true):Fi ⟨r,m,ms,mg,mr⟩ p=some (Aam m r S G R p):=by
 have hpp:=X.okPt_rng hp
 have hrr:=X.okRules_rng hr
 unfold Fi Aam
 dsimp only
 rw [gd_t (by omega),Ah,hs]
 by_cases c1:p.Id∈S
 ·rw [if_pos (decide_eq_true c1),if_pos c1]
 ·rw [if_neg (by simpa using c1),if_neg c1,gd_t (by omega),Ah,hg]
  by_cases c2:p.Id∈G
  ·rw [if_pos (decide_eq_true c2),if_pos c2]
  ·rw [if_neg (by simpa using c2),if_neg c2,Ao6 h hp,jn_d,Ah]
   cases e:Wa m.V m.T p with
   | none=>rfl
   | some s =>
    dsimp only
    rw [if_pos rfl,jn_d,gd_t (by omega),Ah,hR,Bo (x:=-r.Low) (by omega) (by omega)]
    by_cases c3:r.High < s.Lo
    ·simp [c3]
    ·by_cases c4:s.Hi < -r.Low
     ·simp [c3,c4]
     ·by_cases c5:p.Id∈R
      ·simp [c3,c4,c5]
      ·by_cases c6:r.Brush≤s.Lo
       ·simp [c3,c4,c5,c6]
       ·simp [c3,c4,c5,c6]
noncomputable def Aaa (l:List Aa) (r:Af):List Int:=Db ((X.sunkL l r).map (·.Id))
section
variable {l:List Aa} {r:Af} {C:List Aa} (hc:Ctx l r C) {g:List Int} (hg:GOk C g)
include hc
omit hc in
theorem Aob {L:List Aa} (hL:∀ p∈L,X.okPt p=true) {i:Int} (h:i∈Db (L.map (·.Id))):-9223372036854775808≤i∧i≤9223372036854775807:=by
 obtain ⟨p,hp,rfl⟩:=List.mem_map.1 ((X.perm_sortI _).mem_iff.1 h)
 have:=X.okPt_rng (hL p hp)
 omega
include hg
/-- The classes of all points. -/
theorem Ado (e:Dw l r=some g):∃ G S,Fg (Mi l (Fb l g) g r) r=some G∧lfix (Ij G) (List.replicate (Mi l (Fb l g) g r).length (0:Int),0)=some S ∧
  Mw l (Fb l g) g r=some (Db ((Hk (Aai G S r) (Mi l (Fb l g) g r)).map (·.Id))) ∧
  Fj l r=some (l.map (Aam (Fb l g) r (Aaa l r) g (Db ((Hk (Aai G S r) (Mi l (Fb l g) g r)).map (·.Id))))):=by
 obtain ⟨hs,_,_,_,hm⟩:=Rr hc hg
 have hF:=X.Fit.of hc.val
 have hn:=hc.few
 have hgl:=GOk.len hg
 have hcl:=hc.len
 have hsl:(X.sunkL l r).length≤l.length:=List.length_filter_le _ _
 obtain ⟨G,S,e1,e2,e3⟩:=Atx hc.val hc.rul hm (g:=g) (by omega)
 refine ⟨G,S,e1,e2,e3,?_⟩
 have hfl:=Yu (Aai G S r) (Mi l (Fb l g) g r)
 have hhn:=(Wb (m:=Fb l g) (g:=g) (r:=r) hc.val).n
 generalize hR:Db ((Hk (Aai G S r) (Mi l (Fb l g) g r)).map (·.Id))=R at *
 have hRl:R.length≤1000000:=by
  rw [← hR,(X.perm_sortI _).length_eq,List.length_map]
  omega
 obtain ⟨ms,a1,a2⟩:=Ano (ids:=Aaa l r) (by unfold Aaa;rw [(X.perm_sortI _).length_eq,List.length_map];omega) (fun i hi=>Aob (L:=X.sunkL l r) (fun p hp=>hF.ok p (List.mem_filter.1 hp).1) hi)
 obtain ⟨mg,b1,b2⟩:=Ano (ids:=g) (by omega) (fun i hi=>GOk.rng hc hg hi)
 obtain ⟨mr,c1,c2⟩:=Ano (ids:=R) hRl (fun i hi=>Aob (L:=Hk (Aai G S r) (Mi l (Fb l g) g r)) (fun p hp=>hF.ok p (Aq1 (Alx hp)).1) (by rw [hR];exact hi))
 unfold Fj
 rw [X.parted_eq hc.val hc.rul,Ah,e,Ah,hs,Ah,jn_d]
 dsimp only
 rw [if_pos rfl,X.ids_eq (by omega),Ah,show Db ((X.sunkL l r).map (·.Id))=Aaa l r from rfl,a1,Ah,b1,Ah,e3,Ah,c1,Ah,gd_t (by omega),jn_d]
 refine (congrArg (fun o=>bnd o _) (Akt l (Aam (Fb l g) r (Aaa l r) g R) _ (fun j hj s hs=>?_) (fun s=>?_))).trans rfl
 ·unfold Mf
  dsimp only
  rw [if_pos (by omega),Bg hj,Ah,Ar0 hm hc.rul a2 b2 c2 (hF.ok _ (List.getElem_mem hj)),Ah,gd_t (by omega),Bt (by omega)]
 ·unfold Mf
  dsimp only
  rw [if_neg (by omega)]
end
theorem Adp {l:List Aa} {r:Af} (hl:X.validL l=true) (hr:X.okRules r=true) {c:List Int} (h:Fj l r=some c):Ko l r=some (c,0):=by
 unfold Ko
 rw [X.checked_eq,if_pos hr,if_pos hl,Ah,if_pos rfl,h,Ah]
section
variable {l:List Aa} {r:Af} {C:List Aa} (hc:Ctx l r C) {g:List Int} (hg:Grnd l r C g) {R:List Int}
include hc hg
end
end Go.Proofs.YtbkobeeileemjaaGreat
/- Rounds of growing depend neither on the order of the candidates nor on what all heights are measured from. -/
namespace Go.Proofs.YtbkobeeileemjaaGreat
open Go Go.RowKit Go.Sort
/-- What is added, told by the offers alone. -/
theorem Aku {g:List Int} {F:FitF} {C:List Aa} (hC:(C.map (·.Id)).Nodup) (i:Int):i∈adds g F C↔∃ p∈C,p.Id=i∧p.Id ∉ g∧(F p).2.1=true∧∀ q∈C,q.Id ∉ g→(F q).2.1=true→(F q).1=(F p).1→¬ btr (F q).2.2 q ⟨p,(F p).2.2⟩:=by
 have hb:=Yq g F C
 constructor
 ·intro h
  obtain ⟨o,ho,rfl⟩:=List.mem_map.1 h
  obtain ⟨h1,h2,h3⟩:=hb.src o ho
  refine ⟨o.2.p,h1,rfl,h2,by rw [h3],fun q hq hqg hqf he=>?_⟩
  obtain ⟨o',ho',hn⟩:=hb.all q hq hqg hqf
  rw [he,h3] at ho'
  have:=Pk hb.map ho
  dsimp only at ho'
  rw [this] at ho'
  cases ho'
  rw [h3]
  exact hn
 ·rintro ⟨p,hp,rfl,hpg,hpf,hmin⟩
  obtain ⟨o,ho,hn⟩:=hb.all p hp hpg hpf
  have hom:=Hw ho
  obtain ⟨h1,h2,h3⟩:=hb.src _ hom
  dsimp only at h1 h2 h3
  have h4:=hmin o.p h1 h2 (by rw [h3]) (by rw [h3])
  rw [h3] at h4
  dsimp only at h4
  have e:o.p.Id=p.Id:=by
   unfold btr at h4 hn
   dsimp only at h4
   have e1:o.far=(F p).2.2:=by
    by_cases c:o.far < (F p).2.2
    ·exact absurd (.inl c) h4
    ·by_cases c2:(F p).2.2 < o.far
     ·exact absurd (.inl c2) hn
     ·omega
   refine X.lowB_total (Bool.eq_false_iff.2 fun c=>h4 (.inr ⟨e1,c⟩)) (Bool.eq_false_iff.2 fun c=>hn (.inr ⟨e1.symm,c⟩))
  rw [← e]
  exact List.mem_map.2 ⟨_,hom,rfl⟩
theorem Akv {g:List Int} {F F':FitF} {C C':List Aa} (φ:Aa→Aa) (hC:(C.map (·.Id)).Nodup) (hp:C'.Perm (C.map φ)) (hid:∀ p,(φ p).Id=p.Id) (hlow:∀ p q,X.lowB (φ p) (φ q)=X.lowB p q)
  (hF:∀ p∈C,F' (φ p)=F p):Nt g F' C'=Nt g F C:=by
 have hC':(C'.map (·.Id)).Nodup:=by
  rw [(hp.map _).nodup_iff,List.map_map]
  have:((·.Id) ∘ φ:Aa→Int)=(·.Id):=funext hid
  rw [this]
  exact hC
 unfold Nt
 refine X.sortI_perm (List.Perm.append_left g ((List.perm_ext_iff_of_nodup (Aa0 hC') (Aa0 hC)).2 fun i=>?_))
 rw [Aku hC',Aku hC]
 have hbtr:∀ p q f f',btr f (φ p) ⟨φ q,f'⟩↔btr f p ⟨q,f'⟩:=fun p q f f'=>by unfold btr;dsimp only;rw [hlow]
 constructor
 ·rintro ⟨p',hp',e,h2,h3,h4⟩
  obtain ⟨p,hp1,rfl⟩:=List.mem_map.1 (hp.mem_iff.1 hp')
  rw [hid] at e h2
  rw [hF p hp1] at h3 h4
  refine ⟨p,hp1,e,h2,h3,fun q hq hqg hqf he=>?_⟩
  have:=h4 (φ q) (hp.mem_iff.2 (List.mem_map_of_mem hq)) (by rw [hid];exact hqg) (by rw [hF q hq];exact hqf) (by rw [hF q hq];exact he)
  rw [hF q hq,hbtr] at this
  exact this
 ·rintro ⟨p,hp1,e,h2,h3,h4⟩
  refine ⟨φ p,hp.mem_iff.2 (List.mem_map_of_mem hp1),by rw [hid];exact e,by rw [hid];exact h2,by rw [hF p hp1];exact h3,fun q' hq' hqg hqf he=>?_⟩
  obtain ⟨q,hq,rfl⟩:=List.mem_map.1 (hp.mem_iff.1 hq')
  rw [hid] at hqg
  rw [hF q hq] at hqf he ⊢
  rw [hF p hp1] at he ⊢
  rw [hbtr]
  exact h4 q hq hqg hqf he
/-- Rounds, at most so many. -/
def Aab (gr:List Int→List Int):Nat→List Int→List Int
 | 0,g=>g
 | n+1,g=>if (gr g).length=g.length then g else Aab gr n (gr g)
theorem Adq {gr gr':List Int→List Int} {P:List Int→Prop} (h:∀ g,P g→gr' g=gr g∧P (gr g)):∀ (n:Nat) (g:List Int),P g→Aab gr' n g=Aab gr n g
 | 0,_,_=>rfl
 | n+1,g,hg=>by
  unfold Aab
  rw [(h g hg).1]
  by_cases c:(gr g).length=g.length
  ·rw [if_pos c,if_pos c]
  ·rw [if_neg c,if_neg c]
   exact Adq h n _ (h g hg).2
theorem Aac {l:List Aa} {r:Af} {C:List Aa} (hc:Ctx l r C) (hC:Cm l r=some C):Dw l r=some (Aab (fun g=>Nt g (gFit l r g) C) C.length (X.seedL l r)):=by
 have:=Dl (B:=Gp l C r) (fun g=>C.length-g.length) (fun g=>GOk C g∧∃ k,C.length≤k+g.length∧Aab (fun g=>Nt g (gFit l r g) C) k g=Aab (fun g=>Nt g (gFit l r g) C) C.length (X.seedL l r)) (fun g=>g=Aab (fun g=>Nt g (gFit l r g) C) C.length (X.seedL l r)) (fun g hs=>by
  obtain ⟨h1,k,h2,h3⟩:=hs
  have h4:=Ajw hc h1
  have l1:=GOk.len h4
  have l2:=Ac2 (g:=g) (F:=gFit l r g) (C:=C)
  unfold Gp
  rw [Apa hc h1,Ah,jn_d]
  dsimp only
  rw [if_pos rfl]
  by_cases e:(Nt g (gFit l r g) C).length=g.length
  ·right
   rw [if_pos (decide_eq_true (by omega))]
   refine ⟨g,rfl,?_⟩
   rw [← h3]
   cases k with
   | zero=>rfl
   | succ k=>unfold Aab;rw [if_pos e]
  ·left
   rw [if_neg (by rw [decide_eq_true_eq];omega)]
   cases k with
   | zero=>omega
   | succ k =>
    refine ⟨_,rfl,⟨h4,k,by omega,?_⟩,by omega⟩
    rw [← h3]
    conv=>rhs;unfold Aab
    rw [if_neg e]) (X.seedL l r) ⟨Ajx hc,C.length,by omega,rfl⟩
 obtain ⟨g,e,rfl⟩:=this
 unfold Dw
 rw [hC,Ah,Apb hc,Ah,e,Ah]
/-! ### points, lifted -/
def Ca (n:Int) (p:Aa):Aa:=⟨p.Id,p.X,p.Y,⟨p.Z.Lo+n,p.Z.Hi+n⟩,p.Wide,p.Num,p.Of,p.Class⟩
section
variable (n:Int)
theorem Akw (p q:Aa):X.lowB (Ca n p) (Ca n q)=X.lowB p q:=by
 unfold X.lowB Ca
 refine decide_eq_decide.2 ?_
 dsimp only
 omega
theorem Afe (l:List Aa):(l.map (Ca n)).map (·.Id)=l.map (·.Id):=by rw [List.map_map];rfl
theorem Ahp {α β σ τ:Type} (f:σ→α→Sum σ τ) (fin:σ→τ) (φ:β→α):∀ (l:List β) (s:σ),X.foldE f fin (l.map φ) s=X.foldE (fun s x=>f s (φ x)) fin l s
 | [],_=>rfl
 | x::l,s=>by
  rw [List.map_cons]
  unfold X.foldE
  cases f s (φ x) with
  | inl s'=>exact Ahp f fin φ l s'
  | inr t=>rfl
theorem Ahq (l:List Aa) (r:Af) (p:Aa):X.sunkB (l.map (Ca n)) r (Ca n p)=X.sunkB l r p:=by
 unfold X.sunkB
 rw [Ahp]
 have:(fun (s:Bool) x=>X.sunkF (Ca n p) r s (Ca n x))=X.sunkF p r:=by
  funext s q
  unfold X.sunkF Ca X.sq
  dsimp only
  rw [show q.Z.Lo+n-(p.Z.Hi+n)=q.Z.Lo-p.Z.Hi by omega]
 rw [this]
theorem Oz {f f':Aa→Bool} (h:∀ p,f' (Ca n p)=f p) (l:List Aa):(l.map (Ca n)).filter f'=(l.filter f).map (Ca n):=by
 rw [List.filter_map]
 congr 1
 exact List.filter_congr fun p _=>h p
theorem Akx (l:List Aa) (r:Af):X.dryL (l.map (Ca n)) r=(X.dryL l r).map (Ca n):=Oz n (fun p=>by rw [Ahq]) l
theorem Ams (l:List Aa) (r:Af):X.sunkL (l.map (Ca n)) r=(X.sunkL l r).map (Ca n):=Oz n (fun p=>by rw [Ahq]) l
theorem Aff {kf:Aa→Ab} (hk:∀ p,kf (Ca n p)=kf p) (l:List Aa):X.bot kf (l.map (Ca n))=(X.bot kf l).map (Ca n):=by
 unfold X.bot
 refine Oz n (fun p=>?_) l
 rw [List.all_map]
 refine congrArg (fun f=>l.all f) (funext fun q=>?_)
 simp only [Function.comp,hk,Akw]
theorem Ahr (l:List Aa) (r:Af):X.candL (l.map (Ca n)) r=(X.candL l r).map (Ca n):=by
 unfold X.candL X.lastL
 rw [Akx,Oz n (f:=fun p=>decide (p.Num=p.Of)) (fun p=>rfl),Aff n (fun p=>rfl)]
theorem Aqa (l:List Aa) (r:Af):X.seedL (l.map (Ca n)) r=X.seedL l r:=by
 unfold X.seedL
 rw [Ahr,Aff n (fun p=>rfl),Afe]
theorem Aqb (l:List Aa) (g:List Int):Rq (l.map (Ca n)) g=(Rq l g).map (Ca n):=by
 unfold Rq selL
 rw [Oz n (f:=fun p=>decide (p.Id∈g)) (fun p=>rfl)]
 unfold Be
 rw [List.map_mergeSort]
 intro a _ b _
 rfl
theorem Aiv {α β:Type} (f:α→β) (l:List α) (i:Int):idx (l.map f) i=(idx l i).map f:=by
 unfold idx
 split
 ·rw [List.getElem?_map]
 ·rfl
theorem Ar1 (L:List Aa) (i:Int):idx (vxL (L.map (Ca n))) i=(idx (vxL L) i).map fun x=>⟨x.X,x.Y,⟨x.Z.Lo+n,x.Z.Hi+n⟩⟩:=by
 unfold vxL
 rw [List.map_map,Aiv,Aiv,Option.map_map]
 rfl
theorem Wo (L:List Aa):plV (vxL (L.map (Ca n)))=plV (vxL L):=by
 funext i
 unfold plV
 rw [Ar1]
 cases idx (vxL L) i <;> rfl
theorem Aiw (L:List Aa):(vxL L).length=L.length:=by unfold vxL;rw [List.length_map]
theorem Aix (L:List Aa) {i:Int} (hi:inN (vxL L).length i):zV (vxL (L.map (Ca n))) i=⟨(zV (vxL L) i).Lo+n,(zV (vxL L) i).Hi+n⟩:=by
 obtain ⟨k,rfl,hk⟩:=Oe hi
 unfold zV
 rw [Ar1,Bg hk]
 rfl
end
theorem Wc.congr {v v':List Ae} {T:List Aq} (hlen:v'.length=v.length) (hp:plV v'=plV v) (h:Wc v T):Wc v' T:=by
 have hh:hV v'=hV v:=by
  funext i
  unfold hV aft
  rw [hp,hlen]
 refine ⟨h.ord,h.nd,fun t=>?_⟩
 rw [h.mem t]
 unfold Del
 rw [hlen,hp,hh]
theorem Amt {v v':List Ae} (hp:plV v'=plV v) (t:Aq):Uo v' t=Uo v t:=by unfold Uo;rw [hp]
theorem Ahs {v v':List Ae} (hp:plV v'=plV v) (T:List Aq) (at_:Ab):locT v' T at_=locT v T at_:=by
 unfold locT
 have:covT v' at_=covT v at_:=by funext t;unfold covT;rw [hp]
 rw [this]
section
variable (n:Int) {L:List Aa} {T:List Aq} (hT:∀ t∈T,inN (vxL L).length t.a0∧inN (vxL L).length t.a1∧inN (vxL L).length t.a2∧0 < Uo (vxL L) t)
include hT
theorem Aky (at_:Ab) {t:Aq} (ht:t∈T):bndT (vxL (L.map (Ca n))) at_ t=⟨(bndT (vxL L) at_ t).Lo+n,(bndT (vxL L) at_ t).Hi+n⟩:=by
 obtain ⟨h0,h1,h2,ha⟩:=hT t ht
 have hs:=Ajv (plV (vxL L) t.a0) (plV (vxL L) t.a1) (plV (vxL L) t.a2) at_
 unfold bndT
 rw [Amt (Wo n L)]
 unfold wsum Uo at *
 rw [Wo,Aix n L h0,Aix n L h1,Aix n L h2]
 dsimp only
 generalize crs (plV (vxL L) t.a1) (plV (vxL L) t.a2) at_=w0 at *
 generalize crs (plV (vxL L) t.a2) (plV (vxL L) t.a0) at_=w1 at *
 generalize crs (plV (vxL L) t.a0) (plV (vxL L) t.a1) at_=w2 at *
 generalize crs (plV (vxL L) t.a0) (plV (vxL L) t.a1) (plV (vxL L) t.a2)=A at *
 have e1:∀ z0 z1 z2:Int,w0*(z0+n)+w1*(z1+n)+w2*(z2+n)=(w0*z0+w1*z1+w2*z2)+n*A:=fun z0 z1 z2=>by rw [← hs];grind
 have e2:∀ z0 z1 z2:Int,-(w0*(z0+n)+w1*(z1+n)+w2*(z2+n)) = -(w0*z0+w1*z1+w2*z2)+(-n)*A:=fun z0 z1 z2=>by rw [← hs];grind
 rw [e2,e1,Int.add_mul_ediv_right _ _ (by omega),Int.add_mul_ediv_right _ _ (by omega)]
 congr 1
 omega
theorem Ar2 (r:Af) (p:Aa):fitV (vxL (L.map (Ca n))) T r (Ca n p)=fitV (vxL L) T r p:=by
 unfold fitV
 rw [show X.plF (Ca n p)=X.plF p from rfl,Ahs (Wo n L)]
 cases e:locT (vxL L) T (X.plF p) with
 | none=>rfl
 | some i =>
  dsimp only
  cases e2:idx T (i:Int) with
  | none=>rfl
  | some t =>
   dsimp only
   have ht:t∈T:=by
    obtain ⟨j,hj,_,rfl⟩:=Tr e2
    exact List.getElem_mem hj
   obtain ⟨h0,h1,h2,_⟩:=hT t ht
   have hg:∀ a b:Bl,gapI ⟨a.Lo+n,a.Hi+n⟩ ⟨b.Lo+n,b.Hi+n⟩=gapI a b:=fun a b=>by
    unfold gapI
    dsimp only
    omega
   have hgen:∀ k,inN (vxL L).length k→Od (vxL (L.map (Ca n))) r (Ca n p) k=Od (vxL L) r p k:=fun k hk=>by
    unfold Od
    rw [Aix n L hk,Wo,show (Ca n p).Z=⟨p.Z.Lo+n,p.Z.Hi+n⟩ from rfl,hg]
    rfl
   rw [Aky n hT _ ht,show (Ca n p).Z=⟨p.Z.Lo+n,p.Z.Hi+n⟩ from rfl,hg,hgen _ h0,hgen _ h1,hgen _ h2]
theorem Aqc (p:Aa):Wa (vxL (L.map (Ca n))) T (Ca n p)=Wa (vxL L) T p:=by
 unfold Wa
 rw [show X.plF (Ca n p)=X.plF p from rfl,Ahs (Wo n L)]
 cases e:locT (vxL L) T (X.plF p) with
 | none=>rfl
 | some i =>
  dsimp only
  cases e2:idx T (i:Int) with
  | none=>rfl
  | some t =>
   dsimp only
   have ht:t∈T:=by
    obtain ⟨j,hj,_,rfl⟩:=Tr e2
    exact List.getElem_mem hj
   rw [Aky n hT _ ht]
   unfold Ca
   dsimp only
   congr 2 <;> omega
end
end Go.Proofs.YtbkobeeileemjaaGreat
/- LabelLifts. -/
namespace Go.Proofs.YtbkobeeileemjaaGreat
open Go Go.RowKit Go.Sort
theorem Au8 {α β ρ:Type} (o:Option α) (f:α→β) (k:β→Option ρ):bnd (o.map f) k=bnd o fun x=>k (f x):=by cases o <;> rfl
theorem Aqd (n:Int) (p q:Aa) (m:Int):Kz (Ca n p) (Ca n q) m=Kz p q m:=rfl
theorem Ar3 (n:Int) (p q:Aa):Kk (Ca n p).Z (Ca n q).Z=Kk p.Z q.Z:=by
 unfold Kk Ca
 dsimp only
 rw [show p.Z.Lo+n-(q.Z.Hi+n)=p.Z.Lo-q.Z.Hi by omega,show q.Z.Lo+n-(p.Z.Hi+n)=q.Z.Lo-p.Z.Hi by omega]
theorem Ar4 (n:Int) (t:Aq) (H:List Aa) (r:Af):Ey t (H.map (Ca n)) r=Ey t H r:=by
 funext s
 unfold Ey
 simp only [Aiv,Au8,Aqd,Ar3]
theorem Ar5 (n:Int) {x x':Bd × Int} (h:x'.1.T=x.1.T) (H:List Aa) (r:Af):Ez x' (H.map (Ca n)) r=Ez x H r:=by
 funext s
 unfold Ez
 rw [h]
 simp only [Ar4]
theorem Au9 (n:Int) (H:List Aa):Fv (H.map (Ca n))=Fv H:=by
 funext s
 unfold Fv
 rw [List.length_map]
theorem Akz (n:Int) {H:List Aa} {r:Af} (hH:X.Fit H) (hH':X.Fit (H.map (Ca n))) (ha:Qa H) (ha':Qa (H.map (Ca n))):Fg (H.map (Ca n)) r=Fg H r:=by
 obtain ⟨x,e,⟨e0,_,e1,_,e3⟩ | ⟨_,e0⟩⟩:=Zp hH
 ·obtain ⟨x',e',⟨e0',_,e1',_,e3'⟩ | ⟨_,e0'⟩⟩:=Zp hH'
  ·have hT:x'.1.T=x.1.T:=e3'.unique (e3.congr (by rw [Aiw,Aiw,List.length_map]) (Wo n H))
   unfold Fg
   rw [List.length_map,Au9]
   refine congrArg _ ?_
   rw [jn_d,jn_d]
   refine congrArg _ (funext fun s=>?_)
   dsimp only
   rw [e,e',Ah,Ah,if_pos e0,if_pos e0',jn_d,jn_d,Ar5 n hT]
  ·exact absurd ha' e0'
 ·exact absurd ha e0
theorem Ak0 {α β:Type} (p:Nat→Bool) (f:α→β) (l:List α):Hk p (l.map f)=(Hk p l).map f:=by
 unfold Hk
 rw [List.zipIdx_map,List.filter_map,List.map_map,List.map_map]
 rfl
section
variable (n:Int) {l:List Aa} {r:Af} {C C':List Aa} (hc:Ctx l r C) (hc':Ctx (l.map (Ca n)) r C')
include hc hc'
theorem Aht:C'.Perm (C.map (Ca n)):=by
 refine hc'.perm.trans ?_
 rw [Ahr]
 exact (hc.perm.map _).symm
theorem Ak1 {g:List Int} (h:GOk C g):GOk C' g:=⟨h.nd,fun i hi=>by
 obtain ⟨p,hp,e⟩:=h.src i hi
 exact ⟨Ca n p,(Aht n hc hc').mem_iff.2 (List.mem_map_of_mem hp),e⟩⟩
variable {g:List Int} (hg:GOk C g)
include hg
theorem Afg:(Fb (l.map (Ca n)) g).V=vxL ((Rq l g).map (Ca n))∧(Fb (l.map (Ca n)) g).T=(Fb l g).T:=by
 obtain ⟨_,v1,_,t1,_⟩:=Rr hc hg
 obtain ⟨_,v2,_,t2,_⟩:=Rr hc' (Ak1 n hc hc' hg)
 rw [Aqb] at v2 t2
 exact ⟨v2,t2.unique (t1.congr (by rw [Aiw,Aiw,List.length_map]) (Wo n _))⟩
omit hc' in
theorem Aw2:∀ t∈(Fb l g).T,inN (vxL (Rq l g)).length t.a0∧inN (vxL (Rq l g)).length t.a1∧inN (vxL (Rq l g)).length t.a2∧0 < Uo (vxL (Rq l g)) t:=by
 obtain ⟨_,v1,_,_,hm⟩:=Rr hc hg
 have:=hm.t
 rw [v1] at this
 exact this
theorem Aqe (p:Aa):gFit (l.map (Ca n)) r g (Ca n p)=gFit l r g p:=by
 obtain ⟨v2,t2⟩:=Afg n hc hc' hg
 obtain ⟨_,v1,_,_,_⟩:=Rr hc hg
 unfold gFit
 rw [v2,t2,v1]
 exact Ar2 n (Aw2 hc hg) r p
theorem Afh (p:Aa):Wa (Fb (l.map (Ca n)) g).V (Fb (l.map (Ca n)) g).T (Ca n p)=Wa (Fb l g).V (Fb l g).T p:=by
 obtain ⟨v2,t2⟩:=Afg n hc hc' hg
 obtain ⟨_,v1,_,_,_⟩:=Rr hc hg
 rw [v2,t2,v1]
 exact Aqc n (Aw2 hc hg) p
theorem Aqf:Mi (l.map (Ca n)) (Fb (l.map (Ca n)) g) g r=(Mi l (Fb l g) g r).map (Ca n):=by
 unfold Mi
 rw [Akx,Oz n (f:=Un (Fb l g) g r) (fun p=>by unfold Un;rw [Afh n hc hc' hg];rfl),Aff n (fun p=>rfl)]
 unfold Be
 rw [List.map_mergeSort]
 intro a _ b _
 rfl
theorem Amu (R:List Int) (p:Aa):Aam (Fb (l.map (Ca n)) g) r (Aaa (l.map (Ca n)) r) g R (Ca n p)=Aam (Fb l g) r (Aaa l r) g R p:=by
 have hs:Aaa (l.map (Ca n)) r=Aaa l r:=by unfold Aaa;rw [Ams,Afe]
 unfold Aam
 rw [Afh n hc hc' hg,hs]
 rfl
end
theorem Ak2 (n:Int) {l:List Aa} {r:Af} {C C':List Aa} (hc:Ctx l r C) (hc':Ctx (l.map (Ca n)) r C') (hC:Cm l r=some C) (hC':Cm (l.map (Ca n)) r=some C'):Dw (l.map (Ca n)) r=Dw l r:=by
 have hp:=Aht n hc hc'
 rw [Aac hc' hC',Aac hc hC,Aqa,hp.length_eq,List.length_map]
 refine congrArg some (Adq (P:=GOk C) (fun g hg=>⟨?_,Ajw hc hg⟩) C.length _ (Ajx hc))
 exact Akv (Ca n) hc.fit.id hp (fun p=>rfl) (Akw n) (fun p _=>Aqe n hc hc' hg p)
theorem Ag4 (n:Int) {l:List Aa} {r:Af} {C C':List Aa} (hc:Ctx l r C) (hc':Ctx (l.map (Ca n)) r C') (hC:Cm l r=some C) (hC':Cm (l.map (Ca n)) r=some C') :
  ∃ c,Fj l r=some c∧Fj (l.map (Ca n)) r=some c∧c.length=l.length:=by
 obtain ⟨g,e,hG⟩:=Al3 hc hC
 have hg:=hG.ok
 have hg':=Ak1 n hc hc' hg
 obtain ⟨G,S,a1,a2,a3,a4⟩:=Ado hc hg e
 obtain ⟨G',S',b1,b2,b3,b4⟩:=Ado hc' hg' ((Ak2 n hc hc' hC hC').trans e)
 have hh:=Aqf n hc hc' hg
 have hH:=Wb (m:=Fb l g) (g:=g) (r:=r) hc.val
 have hH':=Wb (m:=Fb (l.map (Ca n)) g) (g:=g) (r:=r) hc'.val
 have hA:=Yt (m:=Fb l g) (g:=g) (r:=r) hc.val
 have hA':=Yt (m:=Fb (l.map (Ca n)) g) (g:=g) (r:=r) hc'.val
 rw [hh] at b1 b2 b4 hH' hA'
 rw [Akz n hH hH' hA hA',a1] at b1
 obtain rfl:=Option.some.inj b1
 rw [List.length_map,a2] at b2
 obtain rfl:=Option.some.inj b2
 refine ⟨_,a4,?_,List.length_map _⟩
 rw [b4,Ak0,Afe,List.map_map]
 refine congrArg some (List.map_congr_left fun p _=>?_)
 exact Amu n hc hc' hg _ p
theorem Ay0 {l:List Aa} (hl:X.Fit l) {n:Int} (hn:-32768≤n∧n≤32767):lfix (Eo l n) (([]:List Aa),0)=some (l.map (Ca n)):=by
 have hln:=hl.n
 refine Akt l (Ca n) _ (fun j hj s hs=>?_) (fun s=>?_)
 ·have hp:=X.okPt_rng (hl.ok _ (List.getElem_mem hj))
  unfold Eo
  dsimp only
  rw [if_pos (by omega),Bg hj,Ah,gd_t (by omega),Bt (by omega),Bo (x:=n) (by omega) (by omega),Bo (x:=l[j].Z.Lo+n) (by omega) (by omega),Bo (x:=l[j].Z.Hi+n) (by omega) (by omega)]
  rfl
 ·unfold Eo
  dsimp only
  rw [if_neg (by omega)]
theorem Ag5 (l:List Aa) (r:Af) (n:Int) (hn:-32768≤n∧n≤32767):Fz l r n=some true:=by
 unfold Fz
 rw [show (12:Int)=((12:Nat):Int) from rfl,Av8,Ah]
 by_cases c:Ac9 l r 12
 ·rw [decide_eq_true c,if_pos rfl]
  obtain ⟨c1,c2,c3⟩:=c
  rw [jn_d,Ay0 (X.Fit.of c2) hn,Ah]
  dsimp only
  rw [X.rvalid_eq,Ah]
  by_cases c4:X.validL (l.map (Ca n))=true
  ·rw [if_pos c4]
   obtain ⟨C,hC,hc⟩:=At8 c2 c3 (by omega)
   obtain ⟨C',hC',hc'⟩:=At8 c4 c3 (by rw [List.length_map];omega)
   obtain ⟨k,k1,k2,k3⟩:=Ag4 n hc hc' hC hC'
   rw [Adp c2 c3 k1,Ah,Adp c4 c3 k2,Ah,jn_d]
   dsimp only
   rw [if_pos rfl,if_pos rfl,X.sameInts_self (by omega),Ah,if_pos rfl,if_pos (by omega),X.first_eq,Ah]
  ·rw [if_neg c4,X.first_eq,Ah]
 ·rw [decide_eq_false c,if_neg (by simp),X.first_eq,Ah]
end Go.Proofs.YtbkobeeileemjaaGreat
/- What the arguments of a law are, read off the way a law's claim is told of them: lists, structs. -/
namespace Go.Proofs.YtbkobeeileemjaaGreat
open Go.ChangeShapes Go.WideShapes Go.ChangeAt Go.RowKit

theorem own2:ownKnob Tryz.prog.godebug=none:=by kernel_rfl
theorem Afi:laidOutB Tryz.prog=true:=by kernel_rfl
def rI64 (z:Int):Prop:=-9223372036854775808≤z∧z≤9223372036854775807
def rI16 (z:Int):Prop:=-32768≤z∧z≤32767
theorem Amv {cs:List Value} {o:Nat} (h:cs.length=o):cs.drop o=[]:=by rw [← h,List.drop_length]
theorem Gm {cs X R:List Value} {o k o':Nat} (h1:(cs.drop o).take k=X) (h2:cs.drop o'=R) (ho:o'=o+k):cs.drop o=X++R:=by
 subst ho;rw [← h1,← h2,← List.drop_drop,List.take_append_drop]
section
variable {H:Type} {enc:TypeId × Value→H} {w:World} {base:Nat} {spare:Nat→Bool} {held:Bool} {P:Program}
theorem Axj {t:TypeId} (ht:P.underlying t=some (.int .i64)) {fuel:Nat} {cs:List Value} {x:DataW H × List MemPlace} (h:DataW.trod enc P w base spare held fuel t cs=some x):∃ z:Int,cs=[.int .i64 z]∧rI64 z:=by
 obtain ⟨n,hc,_,hw⟩:=DataW.trod_int ht h
 refine ⟨n,hc,?_⟩
 have h1:IntKind.i64.min = -9223372036854775808:=rfl
 have h2:IntKind.i64.max=9223372036854775807:=rfl
 simp only [Lit.wf,Bool.and_eq_true,decide_eq_true_eq] at hw
 unfold rI64;omega
theorem Axk {t:TypeId} (ht:P.underlying t=some (.int .i16)) {fuel:Nat} {cs:List Value} {x:DataW H × List MemPlace} (h:DataW.trod enc P w base spare held fuel t cs=some x):∃ z:Int,cs=[.int .i16 z]∧rI16 z:=by
 obtain ⟨n,hc,_,hw⟩:=DataW.trod_int ht h
 refine ⟨n,hc,?_⟩
 have h1:IntKind.i16.min = -32768:=rfl
 have h2:IntKind.i16.max=32767:=rfl
 simp only [Lit.wf,Bool.and_eq_true,decide_eq_true_eq] at hw
 unfold rI16;omega
theorem Ar6 {α:Type} {en:α→List Value} {okα:α→Prop} {t e:TypeId} {sz:Nat} (ht:P.underlying t=some (.slice e)) (hsz:P.cellsOf e=sz) (hp:0 < sz)
  (hel:∀ {fuel:Nat} {cs:List Value} {x:DataW H × List MemPlace},DataW.trod enc P w base spare held fuel e cs=some x→∃ v,cs=en v∧okα v)
  {fuel:Nat} {cs:List Value} {x:DataW H × List MemPlace} (h:DataW.trod enc P w base spare held fuel t cs=some x) :
  ∃ (v:List α) (A:Option Addr) (c:Nat),cs=[.slice A v.length c]∧Has [.old w] A v.length c sz en v∧∀ z∈v,okα z:=by
 rcases Go.Deep.open_slice ht h with ⟨rfl,_⟩ | ⟨a,len,cap,m,n,D,Pl,rfl,hb,hl,hm,hmm,_,hx⟩
 ·exact ⟨[],none,0,rfl,Has.nil,fun z hz=>by simp at hz⟩
 ·have hle:len≤m:=by rw [hmm];split <;> omega
  have key:∀ k,k≤len→∃ v:List α,v.length=k∧(∀ z∈v,okα z)∧∀ i (hi:i < v.length),w.cells? base (a.add (i*sz)) sz=some (en v[i]):=by
   intro k
   induction k with
   | zero=>intro _;exact ⟨[],rfl,fun z hz=>by simp at hz,fun i hi=>by simp at hi⟩
   | succ k ih =>
    intro hk
    obtain ⟨v,h1,h2,h3⟩:=ih (by omega)
    obtain ⟨cs',h4,h5⟩:=hx k (by omega)
    obtain ⟨z,rfl,hz⟩:=hel h5
    rw [hsz] at h4
    refine ⟨v++[z],by simp [h1],fun y hy=>?_,fun i hi=>?_⟩
    ·rcases List.mem_append.1 hy with hy | hy
     ·exact h2 y hy
     ·simp at hy;subst hy;exact hz
    ·simp at hi
     rcases Nat.lt_or_ge i v.length with hlt | hge
     ·rw [List.getElem_append_left hlt];exact h3 i hlt
     ·have:i=k:=by omega
      subst this
      rw [List.getElem_append_right hge]
      simp [h1];exact h4
  obtain ⟨v,h1,h2,h3⟩:=key len (Nat.le_refl _)
  subst h1
  have hesz:∀ z∈v,(en z).length=sz:=by
   intro z hz
   obtain ⟨i,hi,rfl⟩:=List.getElem_of_mem hz
   exact (World.cells?_some (h3 i hi)).2.1
  have hsl:Sl w (some a) v.length cap sz en v:=by
   refine ⟨rfl,hl,hm,hesz,fun hn=>?_⟩
   have hsp:a.spot=none:=by
    have h4:=(World.cells?_some (h3 0 hn)).2.2 0 hp
    have h5:(en v[0])[0]? = some ((en v[0])[0]'(by rw [hesz _ (List.getElem_mem hn)];exact hp)):=List.getElem?_eq_getElem _
    rw [h5] at h4
    simp only [Nat.zero_mul,Addr.add,if_true] at h4
    unfold World.cell? at h4
    split at h4
    ·split at h4
     ·cases h4
     ·rename_i hs;simpa using hs
    ·cases h4
   obtain ⟨b,o,sp⟩:=a
   have hsp:sp=none:=hsp
   subst hsp
   refine ⟨b,o,rfl,fun i hi j u hu=>?_⟩
   have hj:j < sz:=by rw [← hesz _ (List.getElem_mem hi)];exact (List.getElem?_eq_some_iff.1 hu).1
   have h4:=(World.cells?_some (h3 i hi)).2.2 j hj
   rw [hu,Addr.add_lit,Addr.add_lit] at h4
   exact h4
  exact ⟨v,some a,cap,rfl,hsl.has,h2⟩
end
theorem Ay1 (w:World):∀ e∈[Ent.old w],Ent.ok w e:=fun e he=>by simp at he;subst he;exact ⟨Below.refl _ _,Nat.le_refl _⟩
end Go.Proofs.YtbkobeeileemjaaGreat
