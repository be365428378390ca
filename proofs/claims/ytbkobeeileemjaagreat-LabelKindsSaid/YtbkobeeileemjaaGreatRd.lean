/- Classes of points; LabelKinds. -/
import Derived.Test.YtbkobeeileemjaaGreatY7
import Derived.Test.YtbkobeeileemjaaGreatFlow8
import Derived.Test.YtbkobeeileemjaaGreatRows
import Derived.ProofKit
import Derived.OpenShut
import Derived.ShutString
import Derived.ChangeOld
import Derived.Below
import Derived.Carry
import Derived.ChangeArms
import Derived.Deep.Slices
namespace Go.Proofs.YtbkobeeileemjaaGreat
open Go Go.RowKit Go.Sort
theorem Arh {α β:Type} (l:List α) (f:α→β) (B:List β × Int→Option (Sum (List β × Int) (List β)))
  (h1:∀ (j:Nat) (hj:j < l.length) (s:List β),s.length=j→B (s,(j:Int))=some (.inl (s++[f l[j]],((j+1:Nat):Int)))) (h2:∀ s,B (s,(l.length:Int))=some (.inr s)):lfix B ([],0)=some (l.map f):=by
 have key:∀ (m k:Nat),k≤l.length→l.length-k=m→lfix B ((l.take k).map f,(k:Int))=some (l.map f):=by
  intro m
  induction m with
  | zero =>
   intro k hk hm
   obtain rfl:k=l.length:=by omega
   rw [Cu,h2,List.take_length]
  | succ m ih =>
   intro k hk hm
   have hlt:k < l.length:=by omega
   rw [Cu,h1 k hlt _ (by rw [List.length_map,List.length_take];omega)]
   dsimp only
   have:(l.take k).map f++[f l[k]]=(l.take (k+1)).map f:=by rw [List.take_succ_eq_append_getElem hlt,List.map_append];rfl
   rw [this]
   exact ih (k+1) (by omega) (by omega)
 exact key l.length 0 (Nat.zero_le _) rfl
def Ws (m:Bb) (r:Af) (S G R:List Int) (p:Aa):Int :=
 if p.Id∈S then 7 else if p.Id∈G then 2 else match Ta m.V m.T p with
 | none=>1
 | some s=>if r.High < s.Lo∨s.Hi < -r.Low then 7 else if p.Id∈R then 6 else if r.Brush≤s.Lo then 5 else 1
theorem Ari {m:Bb} (h:Msh m) {r:Af} (hr:X.okRules r=true) {S G R:List Int} {ms mg mr:List (Int × Bool)} (hs:∀ x,(mget ms x).getD false=decide (x∈S)) (hg:∀ x,(mget mg x).getD false=decide (x∈G)) (hR:∀ x,(mget mr x).getD false=decide (x∈R))
  {p:Aa} (hp:X.okPt p=true):Fi ⟨r,m,ms,mg,mr⟩ p=some (Ws m r S G R p):=by
 have hpp:=X.okPt_rng hp
 have hrr:=X.okRules_rng hr
 unfold Fi Ws
 dsimp only
 rw [gd_t (by omega),Ah,hs]
 by_cases c1:p.Id∈S
 ·rw [if_pos (decide_eq_true c1),if_pos c1]
 ·rw [if_neg (by simpa using c1),if_neg c1,gd_t (by omega),Ah,hg]
  by_cases c2:p.Id∈G
  ·rw [if_pos (decide_eq_true c2),if_pos c2]
  ·rw [if_neg (by simpa using c2),if_neg c2,Aih h hp,jn_d,Ah]
   cases e:Ta m.V m.T p with
   | none=>rfl
   | some s =>
    dsimp only
    rw [if_pos rfl,jn_d,gd_t (by omega),Ah,hR,Bo (x:=-r.Low) (by omega) (by omega)]
    by_cases c3:r.High < s.Lo
    ·simp [c3]
    ·by_cases c4:s.Hi < -r.Low
     ·simp [c3,c4]
     ·by_cases c5:p.Id∈R
      ·simp [c3,c4,c5]
      ·by_cases c6:r.Brush≤s.Lo
       ·simp [c3,c4,c5,c6]
       ·simp [c3,c4,c5,c6]
noncomputable def Tb (l:List Aa) (r:Af):List Int:=Cp ((X.sunkL l r).map (·.Id))
section
variable {l:List Aa} {r:Af} {C:List Aa} (hc:Ctx l r C) {g:List Int} (hg:GOk C g)
include hc
omit hc in
theorem Anu {L:List Aa} (hL:∀ p∈L,X.okPt p=true) {i:Int} (h:i∈Cp (L.map (·.Id))):-9223372036854775808≤i∧i≤9223372036854775807:=by
 obtain ⟨p,hp,rfl⟩:=List.mem_map.1 ((X.perm_sortI _).mem_iff.1 h)
 have:=X.okPt_rng (hL p hp)
 omega
include hg
/-- The classes of all points. -/
theorem Akk (e:Fg l r=some g):∃ G S,Jf (Kd l (Do l g) g r) r=some G∧lfix (If G) (List.replicate (Kd l (Do l g) g r).length (0:Int),0)=some S ∧
  Jg l (Do l g) g r=some (Cp ((Ha (Um G S r) (Kd l (Do l g) g r)).map (·.Id))) ∧
  Il l r=some (l.map (Ws (Do l g) r (Tb l r) g (Cp ((Ha (Um G S r) (Kd l (Do l g) g r)).map (·.Id))))):=by
 obtain ⟨hs,_,_,_,hm⟩:=Rt hc hg
 have hF:=X.Fit.of hc.val
 have hn:=hc.few
 have hgl:=GOk.len hg
 have hcl:=hc.len
 have hsl:(X.sunkL l r).length≤l.length:=List.length_filter_le _ _
 obtain ⟨G,S,e1,e2,e3⟩:=Arc hc.val hc.rul hm (g:=g) (by omega)
 refine ⟨G,S,e1,e2,e3,?_⟩
 have hfl:=Ul (Um G S r) (Kd l (Do l g) g r)
 have hhn:=(Zj (m:=Do l g) (g:=g) (r:=r) hc.val).n
 generalize hR:Cp ((Ha (Um G S r) (Kd l (Do l g) g r)).map (·.Id))=R at *
 have hRl:R.length≤1000000:=by
  rw [← hR,(X.perm_sortI _).length_eq,List.length_map]
  omega
 obtain ⟨ms,a1,a2⟩:=Al6 (ids:=Tb l r) (by unfold Tb;rw [(X.perm_sortI _).length_eq,List.length_map];omega) (fun i hi=>Anu (L:=X.sunkL l r) (fun p hp=>hF.ok p (List.mem_filter.1 hp).1) hi)
 obtain ⟨mg,b1,b2⟩:=Al6 (ids:=g) (by omega) (fun i hi=>GOk.rng hc hg hi)
 obtain ⟨mr,c1,c2⟩:=Al6 (ids:=R) hRl (fun i hi=>Anu (L:=Ha (Um G S r) (Kd l (Do l g) g r)) (fun p hp=>hF.ok p (Ahg (Ado hp)).1) (by rw [hR];exact hi))
 unfold Il
 rw [X.parted_eq hc.val hc.rul,Ah,e,Ah,hs,Ah,jn_d]
 dsimp only
 rw [if_pos rfl,X.ids_eq (by omega),Ah,show Cp ((X.sunkL l r).map (·.Id))=Tb l r from rfl,a1,Ah,b1,Ah,e3,Ah,c1,Ah,gd_t (by omega),jn_d]
 refine (congrArg (fun o=>bnd o _) (Arh l (Ws (Do l g) r (Tb l r) g R) _ (fun j hj s hs=>?_) (fun s=>?_))).trans rfl
 ·unfold Mi
  dsimp only
  rw [if_pos (by omega),Bf hj,Ah,Ari hm hc.rul a2 b2 c2 (hF.ok _ (List.getElem_mem hj)),Ah,gd_t (by omega),Bt (by omega)]
 ·unfold Mi
  dsimp only
  rw [if_neg (by omega)]
theorem Aui {R:List Int} (e:Jg l (Do l g) g r=some R):Rr l g r=some (R,0):=by
 obtain ⟨hs,_⟩:=Rt hc hg
 unfold Rr
 rw [X.checked_eq,if_pos hc.rul,if_pos hc.val,Ah,if_pos rfl,hs,Ah]
 dsimp only
 rw [if_pos rfl,e,Ah]
theorem Awv {p:Aa} (hp:X.okPt p=true):Tk (Do l g) p=some (match Ta (Do l g).V (Do l g).T p with | some s=>(s,true,0) | none=>(⟨0,0⟩,false,0)):=by
 obtain ⟨_,_,_,_,hm⟩:=Rt hc hg
 unfold Tk
 rw [X.validPoint_eq,Ah,if_pos hp,Avm hc hg,Ah,if_pos rfl,Aih hm hp,Ah]
 cases Ta (Do l g).V (Do l g).T p <;> rfl
end
theorem Akl {l:List Aa} {r:Af} (hl:X.validL l=true) (hr:X.okRules r=true) {c:List Int} (h:Il l r=some c):Ng l r=some (c,0):=by
 unfold Ng
 rw [X.checked_eq,if_pos hr,if_pos hl,Ah,if_pos rfl,h,Ah]
section
variable {l:List Aa} {r:Af} {C:List Aa} (hc:Ctx l r C) {g:List Int} (hg:Grnd l r C g) {R:List Int}
include hc hg
theorem Ame (hR:R.length≤1000000) (hRm:∀ i∈R,∃ p∈Kd l (Do l g) g r,p.Id=i) {j:Nat} (hj:j < l.length) (e1 e2 e3 e4 e5:Int) :
  Ej l (Do l g,e1) (l.map (Ws (Do l g) r (Tb l r) g R),e2) (Tb l r,e3) (g,e4) (R,e5) r (j:Int)=some (.inl ((j+1:Nat):Int)):=by
 have hF:=X.Fit.of hc.val
 have hn:=hc.few
 have hgl:=GOk.len hg.ok
 have hcl:=hc.len
 have hsl:(Tb l r).length≤1000000:=Atf hc
 have hm:=List.getElem_mem hj
 have hp:=hF.ok _ hm
 obtain ⟨_,_,_,_,hM⟩:=Rt hc hg.ok
 have hrr:=X.okRules_rng hc.rul
 have hrr2:0≤r.Tall:=by
  have:=hc.rul
  unfold X.okRules at this
  rw [decide_eq_true_eq] at this
  omega
 have a1:l[j].Id∈Tb l r→l[j].Id ∉ g:=fun h1 h2=>by
  obtain ⟨q,hq,e⟩:=hg.ok.src _ h2
  exact Ate hc hq (by rw [e];exact h1)
 have a2:l[j].Id∈R→l[j].Of=1∧l[j].Id ∉ g∧l[j].Id ∉ Tb l r∧∃ s,Ta (Do l g).V (Do l g).T l[j]=some s∧r.Tall≤s.Lo∧s.Lo≤r.High:=fun h1=>by
  obtain ⟨q,hq,e⟩:=hRm _ h1
  obtain ⟨q1,q2,q3,q4,q5⟩:=Ahg hq
  have:=X.id_inj hF.id q1 hm e
  rw [← this]
  refine ⟨q3,q4,fun h=>?_,q5⟩
  have:=(Ath hc q1).1 h
  rw [q2] at this
  cases this
 have a3:∀ s,Ta (Do l g).V (Do l g).T l[j]=some s→s.Lo≤s.Hi:=fun s hs=>(Aq9 hM hp hs).1
 have hcl2:j < (l.map (Ws (Do l g) r (Tb l r) g R)).length:=by rw [List.length_map];exact hj
 have hx:(l.map (Ws (Do l g) r (Tb l r) g R))[j]=Ws (Do l g) r (Tb l r) g R l[j]:=List.getElem_map _
 unfold Ej
 dsimp only
 rw [if_pos (by omega),Bf hj,Ah,Awv hc hg.ok hp,Ah,Bf hcl2,hx,Bt (by omega)]
 have hG:=@has_eq g (by omega)
 simp only [Ah,has_eq hsl,hG,has_eq hR]
 unfold Ws
 generalize l[j]=p at *
 generalize Tb l r=S at *
 cases e:Ta (Do l g).V (Do l g).T p with
 | none =>
  have b2:p.Id ∉ R:=fun h=>by
   obtain ⟨_,_,_,s,hs,_⟩:=a2 h
   rw [e] at hs;cases hs
  by_cases c1:p.Id∈S
  ·have b1:=a1 c1
   simp [jn_d,Ah,c1,b1,b2]
  ·by_cases c2:p.Id∈g
   ·simp [jn_d,Ah,c1,c2,b2]
   ·simp [jn_d,Ah,c1,c2,b2]
 | some s =>
  have b4:=a3 s e
  by_cases c1:p.Id∈S
  ·have b1:=a1 c1
   have b2:p.Id ∉ R:=fun h=>(a2 h).2.2.1 c1
   simp [jn_d,Ah,c1,b1,b2]
  ·by_cases c2:p.Id∈g
   ·have b2:p.Id ∉ R:=fun h=>(a2 h).2.1 c2
    simp [jn_d,Ah,c1,c2,b2]
   ·by_cases c3:p.Id∈R
    ·obtain ⟨b5,_,_,s',hs',b6,b7⟩:=a2 c3
     rw [e] at hs'
     cases hs'
     have b8:¬ s.Hi < -r.Low:=by omega
     have b9:¬ s.Lo < r.Tall:=by omega
     have b10:¬ r.High < s.Lo:=by omega
     simp [jn_d,Ah,c1,c2,c3,b5,b8,b9,b10]
    ·by_cases c4:r.High < s.Lo
     ·simp [jn_d,Ah,c1,c2,c3,c4]
     ·by_cases c5:s.Hi < -r.Low
      ·simp [jn_d,Ah,c1,c2,c3,c4,c5]
      ·by_cases c6:r.Brush≤s.Lo
       ·have b11:¬ s.Lo < r.Brush:=by omega
        simp [jn_d,Ah,c1,c2,c3,c4,c5,c6,b11]
       ·simp [jn_d,Ah,c1,c2,c3,c4,c5,c6]
end
theorem Agz (l:List Aa) (r:Af):Fw l r=some true:=by
 unfold Fw
 rw [show (12:Int)=((12:Nat):Int) from rfl,Avl,Ah]
 by_cases c:Ac7 l r 12
 ·rw [decide_eq_true c,if_pos rfl]
  obtain ⟨c1,c2,c3⟩:=c
  obtain ⟨C,hC,hc⟩:=Axt c2 c3 (by omega)
  obtain ⟨g,e,hg⟩:=Alh hc hC
  obtain ⟨G,S,_,_,e3,e4⟩:=Akk hc hg.ok e
  have hfl:=Ul (Um G S r) (Kd l (Do l g) g r)
  have hhn:=(Zj (m:=Do l g) (g:=g) (r:=r) c2).n
  have hRl:(Cp ((Ha (Um G S r) (Kd l (Do l g) g r)).map (·.Id))).length≤1000000:=by
   rw [(X.perm_sortI _).length_eq,List.length_map]
   omega
  have hRm:∀ i∈Cp ((Ha (Um G S r) (Kd l (Do l g) g r)).map (·.Id)),∃ p∈Kd l (Do l g) g r,p.Id=i:=fun i hi=>by
   obtain ⟨p,hp,rfl⟩:=List.mem_map.1 ((X.perm_sortI _).mem_iff.1 hi)
   exact ⟨p,Ado hp,rfl⟩
  generalize Cp ((Ha (Um G S r) (Kd l (Do l g) g r)).map (·.Id))=R at *
  rw [Akl c2 c3 e4,Ah,Aqh c2 c3 e,Ah,X.Sunk_eq,if_pos c3,if_pos c2,Ah,jn_d]
  dsimp only
  rw [if_pos rfl,if_pos rfl,if_pos rfl,List.length_map]
  simp only [decide_true,Bool.not_true,Bool.false_eq_true,if_false]
  rw [Aui hc hg.ok e3,Ah,Aqi hc hg.ok,Ah,jn_d]
  dsimp only
  rw [if_pos rfl]
  simp only [decide_true,Bool.not_true,Bool.false_eq_true,if_false]
  rw [jn_d,show Cp ((X.sunkL l r).map (·.Id))=Tb l r from rfl,Ac8 (n:=l.length) (u:=()) (fun j hj=>Ame hc hg hRl hRm hj 0 0 0 0 0) ?_,Ah]
  ·dsimp only
   rw [X.first_eq,Ah]
  ·unfold Ej
   rw [if_neg (by omega)]
 ·rw [decide_eq_false c,if_neg (by simp),X.first_eq,Ah]
end Go.Proofs.YtbkobeeileemjaaGreat
/- What the arguments of a law are, read off the way a law's claim is told of them: lists, structs. -/
namespace Go.Proofs.YtbkobeeileemjaaGreat
open Go.ChangeShapes Go.WideShapes Go.ChangeAt Go.RowKit

theorem own2:ownKnob Tryz.prog.godebug=none:=by kernel_rfl
theorem Akm:laidOutB Tryz.prog=true:=by kernel_rfl
def rI64 (z:Int):Prop:=-9223372036854775808≤z∧z≤9223372036854775807
theorem Amf {cs:List Value} {o:Nat} (h:cs.length=o):cs.drop o=[]:=by rw [← h,List.drop_length]
theorem Gj {cs X R:List Value} {o k o':Nat} (h1:(cs.drop o).take k=X) (h2:cs.drop o'=R) (ho:o'=o+k):cs.drop o=X++R:=by
 subst ho;rw [← h1,← h2,← List.drop_drop,List.take_append_drop]
section
variable {H:Type} {enc:TypeId × Value→H} {w:World} {base:Nat} {spare:Nat→Bool} {held:Bool} {P:Program}
theorem Aww {t:TypeId} (ht:P.underlying t=some (.int .i64)) {fuel:Nat} {cs:List Value} {x:DataW H × List MemPlace} (h:DataW.trod enc P w base spare held fuel t cs=some x):∃ z:Int,cs=[.int .i64 z]∧rI64 z:=by
 obtain ⟨n,hc,_,hw⟩:=DataW.trod_int ht h
 refine ⟨n,hc,?_⟩
 have h1:IntKind.i64.min = -9223372036854775808:=rfl
 have h2:IntKind.i64.max=9223372036854775807:=rfl
 simp only [Lit.wf,Bool.and_eq_true,decide_eq_true_eq] at hw
 unfold rI64;omega
theorem Arj {α:Type} {en:α→List Value} {okα:α→Prop} {t e:TypeId} {sz:Nat} (ht:P.underlying t=some (.slice e)) (hsz:P.cellsOf e=sz) (hp:0 < sz)
  (hel:∀ {fuel:Nat} {cs:List Value} {x:DataW H × List MemPlace},DataW.trod enc P w base spare held fuel e cs=some x→∃ v,cs=en v∧okα v)
  {fuel:Nat} {cs:List Value} {x:DataW H × List MemPlace} (h:DataW.trod enc P w base spare held fuel t cs=some x) :
  ∃ (v:List α) (A:Option Addr) (c:Nat),cs=[.slice A v.length c]∧Has [.old w] A v.length c sz en v∧∀ z∈v,okα z:=by
 rcases Go.Deep.open_slice ht h with ⟨rfl,_⟩ | ⟨a,len,cap,m,n,D,Pl,rfl,hb,hl,hm,hmm,_,hx⟩
 ·exact ⟨[],none,0,rfl,Has.nil,fun z hz=>by simp at hz⟩
 ·have hle:len≤m:=by rw [hmm];split <;> omega
  have key:∀ k,k≤len→∃ v:List α,v.length=k∧(∀ z∈v,okα z)∧∀ i (hi:i < v.length),w.cells? base (a.add (i*sz)) sz=some (en v[i]):=by
   intro k
   induction k with
   | zero=>intro _;exact ⟨[],rfl,fun z hz=>by simp at hz,fun i hi=>by simp at hi⟩
   | succ k ih =>
    intro hk
    obtain ⟨v,h1,h2,h3⟩:=ih (by omega)
    obtain ⟨cs',h4,h5⟩:=hx k (by omega)
    obtain ⟨z,rfl,hz⟩:=hel h5
    rw [hsz] at h4
    refine ⟨v++[z],by simp [h1],fun y hy=>?_,fun i hi=>?_⟩
    ·rcases List.mem_append.1 hy with hy | hy
     ·exact h2 y hy
     ·simp at hy;subst hy;exact hz
    ·simp at hi
     rcases Nat.lt_or_ge i v.length with hlt | hge
     ·rw [List.getElem_append_left hlt];exact h3 i hlt
     ·have:i=k:=by omega
      subst this
      rw [List.getElem_append_right hge]
      simp [h1];exact h4
  obtain ⟨v,h1,h2,h3⟩:=key len (Nat.le_refl _)
  subst h1
  have hesz:∀ z∈v,(en z).length=sz:=by
   intro z hz
   obtain ⟨i,hi,rfl⟩:=List.getElem_of_mem hz
   exact (World.cells?_some (h3 i hi)).2.1
  have hsl:Sl w (some a) v.length cap sz en v:=by
   refine ⟨rfl,hl,hm,hesz,fun hn=>?_⟩
   have hsp:a.spot=none:=by
    have h4:=(World.cells?_some (h3 0 hn)).2.2 0 hp
    have h5:(en v[0])[0]? = some ((en v[0])[0]'(by rw [hesz _ (List.getElem_mem hn)];exact hp)):=List.getElem?_eq_getElem _
    rw [h5] at h4
    simp only [Nat.zero_mul,Addr.add,if_true] at h4
    unfold World.cell? at h4
    split at h4
    ·split at h4
     ·cases h4
     ·rename_i hs;simpa using hs
    ·cases h4
   obtain ⟨b,o,sp⟩:=a
   have hsp:sp=none:=hsp
   subst hsp
   refine ⟨b,o,rfl,fun i hi j u hu=>?_⟩
   have hj:j < sz:=by rw [← hesz _ (List.getElem_mem hi)];exact (List.getElem?_eq_some_iff.1 hu).1
   have h4:=(World.cells?_some (h3 i hi)).2.2 j hj
   rw [hu,Addr.add_lit,Addr.add_lit] at h4
   exact h4
  exact ⟨v,some a,cap,rfl,hsl.has,h2⟩
end
theorem Ayc (w:World):∀ e∈[Ent.old w],Ent.ok w e:=fun e he=>by simp at he;subst he;exact ⟨Below.refl _ _,Nat.le_refl _⟩
end Go.Proofs.YtbkobeeileemjaaGreat
