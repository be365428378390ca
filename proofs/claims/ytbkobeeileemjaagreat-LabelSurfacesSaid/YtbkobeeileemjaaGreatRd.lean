/- What the arguments of a law are, read off the way a law's claim is told of them: lists, structs. -/
import Derived.Test.YtbkobeeileemjaaGreatFlow2
import Derived.Test.YtbkobeeileemjaaGreatRows
import Derived.ProofKit
import Derived.OpenShut
import Derived.ShutString
import Derived.ChangeOld
import Derived.Below
import Derived.Carry
import Derived.ChangeArms
import Derived.Deep.Slices
namespace Go.Proofs.YtbkobeeileemjaaGreat
open Go.ChangeShapes Go.WideShapes Go.ChangeAt Go.RowKit

theorem own2:ownKnob Tryz.prog.godebug=none:=by kernel_rfl
theorem Ahy:laidOutB Tryz.prog=true:=by kernel_rfl
def rI64 (z:Int):Prop:=-9223372036854775808≤z∧z≤9223372036854775807
theorem Anv {cs:List Value} {o:Nat} (h:cs.length=o):cs.drop o=[]:=by rw [← h,List.drop_length]
theorem Rc {cs X R:List Value} {o k o':Nat} (h1:(cs.drop o).take k=X) (h2:cs.drop o'=R) (ho:o'=o+k):cs.drop o=X++R:=by
 subst ho;rw [← h1,← h2,← List.drop_drop,List.take_append_drop]
section
variable {H:Type} {enc:TypeId × Value→H} {w:World} {base:Nat} {spare:Nat→Bool} {held:Bool} {P:Program}
theorem Ar7 {t:TypeId} (ht:P.underlying t=some (.int .i64)) {fuel:Nat} {cs:List Value} {x:DataW H × List MemPlace} (h:DataW.trod enc P w base spare held fuel t cs=some x):∃ z:Int,cs=[.int .i64 z]∧rI64 z:=by
 obtain ⟨n,hc,_,hw⟩:=DataW.trod_int ht h
 refine ⟨n,hc,?_⟩
 have h1:IntKind.i64.min = -9223372036854775808:=rfl
 have h2:IntKind.i64.max=9223372036854775807:=rfl
 simp only [Lit.wf,Bool.and_eq_true,decide_eq_true_eq] at hw
 unfold rI64;omega
theorem Ahz {α:Type} {en:α→List Value} {okα:α→Prop} {t e:TypeId} {sz:Nat} (ht:P.underlying t=some (.slice e)) (hsz:P.cellsOf e=sz) (hp:0 < sz)
  (hel:∀ {fuel:Nat} {cs:List Value} {x:DataW H × List MemPlace},DataW.trod enc P w base spare held fuel e cs=some x→∃ v,cs=en v∧okα v)
  {fuel:Nat} {cs:List Value} {x:DataW H × List MemPlace} (h:DataW.trod enc P w base spare held fuel t cs=some x) :
  ∃ (v:List α) (A:Option Addr) (c:Nat),cs=[.slice A v.length c]∧Has [.old w] A v.length c sz en v∧∀ z∈v,okα z:=by
 rcases Go.Deep.open_slice ht h with ⟨rfl,_⟩ | ⟨a,len,cap,m,n,D,Pl,rfl,hb,hl,hm,hmm,_,hx⟩
 ·exact ⟨[],none,0,rfl,Has.nil,fun z hz=>by simp at hz⟩
 ·have hle:len≤m:=by rw [hmm];split <;> omega
  have key:∀ k,k≤len→∃ v:List α,v.length=k∧(∀ z∈v,okα z)∧∀ i (hi:i < v.length),w.cells? base (a.add (i*sz)) sz=some (en v[i]):=by
   intro k
   induction k with
   | zero=>intro _;exact ⟨[],rfl,fun z hz=>by simp at hz,fun i hi=>by simp at hi⟩
   | succ k ih =>
    intro hk
    obtain ⟨v,h1,h2,h3⟩:=ih (by omega)
    obtain ⟨cs',h4,h5⟩:=hx k (by omega)
    obtain ⟨z,rfl,hz⟩:=hel h5
    rw [hsz] at h4
    refine ⟨v++[z],by simp [h1],fun y hy=>?_,fun i hi=>?_⟩
    ·rcases List.mem_append.1 hy with hy | hy
     ·exact h2 y hy
     ·simp at hy;subst hy;exact hz
    ·simp at hi
     rcases Nat.lt_or_ge i v.length with hlt | hge
     ·rw [List.getElem_append_left hlt];exact h3 i hlt
     ·have:i=k:=by omega
      subst this
      rw [List.getElem_append_right hge]
      simp [h1];exact h4
  obtain ⟨v,h1,h2,h3⟩:=key len (Nat.le_refl _)
  subst h1
  have hesz:∀ z∈v,(en z).length=sz:=by
   intro z hz
   obtain ⟨i,hi,rfl⟩:=List.getElem_of_mem hz
   exact (World.cells?_some (h3 i hi)).2.1
  have hsl:Sl w (some a) v.length cap sz en v:=by
   refine ⟨rfl,hl,hm,hesz,fun hn=>?_⟩
   have hsp:a.spot=none:=by
    have h4:=(World.cells?_some (h3 0 hn)).2.2 0 hp
    have h5:(en v[0])[0]? = some ((en v[0])[0]'(by rw [hesz _ (List.getElem_mem hn)];exact hp)):=List.getElem?_eq_getElem _
    rw [h5] at h4
    simp only [Nat.zero_mul,Addr.add,if_true] at h4
    unfold World.cell? at h4
    split at h4
    ·split at h4
     ·cases h4
     ·rename_i hs;simpa using hs
    ·cases h4
   obtain ⟨b,o,sp⟩:=a
   have hsp:sp=none:=hsp
   subst hsp
   refine ⟨b,o,rfl,fun i hi j u hu=>?_⟩
   have hj:j < sz:=by rw [← hesz _ (List.getElem_mem hi)];exact (List.getElem?_eq_some_iff.1 hu).1
   have h4:=(World.cells?_some (h3 i hi)).2.2 j hj
   rw [hu,Addr.add_lit,Addr.add_lit] at h4
   exact h4
  exact ⟨v,some a,cap,rfl,hsl.has,h2⟩
end
theorem Ath (w:World):∀ e∈[Ent.old w],Ent.ok w e:=fun e he=>by simp at he;subst he;exact ⟨Below.refl _ _,Nat.le_refl _⟩
end Go.Proofs.YtbkobeeileemjaaGreat
