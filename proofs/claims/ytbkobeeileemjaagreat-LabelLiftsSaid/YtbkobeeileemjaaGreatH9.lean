/- Classes: heights above the ground, high points, groups, roofs. -/
import Derived.Test.YtbkobeeileemjaaGreatH7
import Derived.Test.YtbkobeeileemjaaGreatY6
namespace Go.Proofs.YtbkobeeileemjaaGreat
open Go Go.RowKit Go.Sort
/-! ### heights above a mesh -/
def Wa (v:List Ae) (T:List Aq) (p:Aa):Option Bl:=match locT v T (X.plF p) with
 | none=>none
 | some i=>match idx T (i:Int) with
  | none=>none
  | some t=>some ⟨p.Z.Lo-(bndT v (X.plF p) t).Hi,p.Z.Hi-(bndT v (X.plF p) t).Lo⟩
section
variable {m:Bd} (h:Msh m) {p:Aa} (hp:X.okPt p=true)
include h hp
theorem Ao6:Ok m p=some (match Wa m.V m.T p with | some s=>(s,true) | none=>(⟨0,0⟩,false)):=by
 have hpp:=X.okPt_rng hp
 have hq:=Aa4 hp
 unfold Ok
 rw [Ac8,Ah,Aia h hq,Ah]
 unfold Wa
 cases e:locT m.V m.T (X.plF p) with
 | none=>rfl
 | some i =>
  dsimp only
  have e':=e
  unfold locT at e'
  rw [List.findIdx?_eq_some_iff_getElem] at e'
  obtain ⟨hi,hc,_⟩:=e'
  have hb:=Al1 h (List.getElem_mem hi) hc
  rw [if_neg (by omega),Ah,Aib h hq hi hc,Ah,Bg hi,Bo (by omega) (by omega),Bo (by omega) (by omega)]
end
/-! ### high points -/
def Un (m:Bd) (g:List Int) (r:Af) (p:Aa):Bool:=decide (p.Of=1∧p.Id ∉ g) && match Wa m.V m.T p with
 | some s=>decide (r.Tall≤s.Lo∧s.Lo≤r.High)
 | none=>false
noncomputable def Mi (l:List Aa) (m:Bd) (g:List Int) (r:Af):List Aa:=Be Ik (X.bot X.plF ((X.dryL l r).filter (Un m g r)))
theorem Ann {l:List Aa} (hf:X.Fit l):∃ L,L.Perm (X.bot X.plF l)∧Ph Ch l=some L:=by
 obtain ⟨L,h1,h2⟩:=X.lowest_eq X.plF Ch Afa l [] hf.n hf.id (fun p hp=>⟨rfl,by have:=X.okPt_rng (hf.ok p hp);simp only [X.plF];omega⟩)
 refine ⟨L,h1,?_⟩
 have hlen:L.length≤1024:=by rw [h1.length_eq];exact Nat.le_trans (List.length_filter_le _ _) hf.n
 unfold Ph
 rw [h2,X.foldlM_stepC L [] (by simpa using hlen)];rfl
theorem Fit.bot {l:List Aa} (h:X.Fit l):X.Fit (X.bot X.plF l):=h.filter _
section
variable {l:List Aa} {r:Af} (hl:X.validL l=true) (hr:X.okRules r=true) {m:Bd} (h:Msh m) {g:List Int} (hg:g.length≤1000000)
theorem Wb (hl:X.validL l=true):X.Fit (Mi l m g r):=(Fit.bot (((X.Fit.of hl).filter _).filter _)).perm (Jg _ _).symm
theorem Aq1 {p:Aa} (hp:p∈Mi l m g r):p∈l∧X.sunkB l r p=false∧p.Of=1∧p.Id ∉ g∧∃ s,Wa m.V m.T p=some s∧r.Tall≤s.Lo∧s.Lo≤r.High:=by
 have h1:=(X.mem_bot.1 (Jp.1 hp)).1
 rw [List.mem_filter] at h1
 obtain ⟨h2,h3⟩:=h1
 unfold X.dryL at h2
 rw [List.mem_filter] at h2
 unfold Un at h3
 rw [Bool.and_eq_true,decide_eq_true_eq] at h3
 refine ⟨h2.1,by simpa using h2.2,h3.1.1,h3.1.2,?_⟩
 cases e:Wa m.V m.T p with
 | none=>rw [e] at h3;cases h3.2
 | some s=>rw [e] at h3;exact ⟨s,rfl,by simpa using h3.2⟩
theorem Yt (hl:X.validL l=true):Qa (Mi l m g r):=by
 have hf:=(Wb (m:=m) (g:=g) (r:=r) hl).id
 rw [List.Nodup,List.pairwise_map] at hf
 unfold Qa
 refine List.Pairwise.imp_of_mem ?_ hf
 intro a b ha hb hne e
 obtain ⟨a1,a2⟩:=X.mem_bot.1 (Jp.1 ha)
 obtain ⟨b1,b2⟩:=X.mem_bot.1 (Jp.1 hb)
 have e':X.plF a=X.plF b:=by unfold X.plF;rw [e.1,e.2]
 exact hne (X.lowB_total (b2 a a1 e') (a2 b b1 e'.symm))
include hl hr h hg
theorem Av3:Qo l m g r=some (Mi l m g r):=by
 have hF:=X.Fit.of hl
 have hn:=hF.n
 have hd:X.Fit (X.dryL l r):=hF.filter _
 have hdn:=hd.n
 obtain ⟨L,h1,h2⟩:=Ann (hd.filter (Un m g r))
 have hL:X.Fit L:=(Fit.bot (hd.filter _)).perm h1.symm
 have hLn:=hL.n
 unfold Qo
 rw [X.parted_eq hl hr,Ah,jn_d,X.lfix_filter (X.dryL l r) (Un m g r) (Nz (X.dryL l r,X.sunkL l r) m r g) (fun j hj s hs=>?_) (fun s=>?_),Ah]
 ·dsimp only
  rw [h2,Ah,gd_t ⟨by omega,fun x hx=>⟨hx,Agi hL⟩⟩]
  unfold Mi
  rw [Po (totP L) (fun x hx=>⟨hx,Agi hL⟩) h1]
 ·unfold Nz
  dsimp only
  rw [if_pos (by omega),jn_d,Bg hj,Ah,jn_d,Bt (by omega)]
  have hp:=hd.ok _ (List.getElem_mem hj)
  have hrr:=X.okRules_rng hr
  generalize (X.dryL l r)[j]=p at *
  by_cases c:p.Of=1
  ·rw [if_pos c,Ad9 hg,Ah]
   dsimp only
   by_cases c2:p.Id∈g
   ·have hv:Un m g r p=false:=by unfold Un;rw [decide_eq_false (fun h:p.Of=1∧p.Id ∉ g=>h.2 c2)];rfl
    rw [if_pos (decide_eq_true c2),hv]
    rfl
   ·rw [if_neg (by simpa using c2),Ao6 h hp,Ah,jn_d]
    cases e:Wa m.V m.T p with
    | none =>
     have hv:Un m g r p=false:=by unfold Un;rw [e,Bool.and_false]
     rw [hv]
     rfl
    | some z =>
     have hv:Un m g r p=decide (r.Tall≤z.Lo∧z.Lo≤r.High):=by unfold Un;rw [decide_eq_true (⟨c,c2⟩:p.Of=1∧p.Id ∉ g),Bool.true_and,e]
     dsimp only
     rw [if_pos rfl,X.within_eq,Ah,gd_t (by omega),hv]
     by_cases c3:r.Tall≤z.Lo∧z.Lo≤r.High
     ·rw [decide_eq_true c3];rfl
     ·rw [decide_eq_false c3];rfl
  ·have hv:Un m g r p=false:=by unfold Un;rw [decide_eq_false (fun h:p.Of=1∧p.Id ∉ g=>c h.1)];rfl
   rw [if_neg c,hv]
   rfl
 ·unfold Nz
  dsimp only
  rw [if_neg (by omega)]
end
/-! ### sets -/
theorem Ano {ids:List Int} (h:ids.length≤1000000) (hr:∀ i∈ids,-9223372036854775808≤i∧i≤9223372036854775807):∃ m,Pb ids=some m∧∀ x,(mget m x).getD false=decide (x∈ids):=by
 have:=Dl (B:=Si ids) (fun s=>ids.length-s.2.toNat) (fun s=>∃ k:Nat,k≤ids.length∧s.2=(k:Int)∧s.1.length≤k∧(∀ p∈s.1,p.2=true)∧∀ x,x∈s.1.map (·.1)↔x∈ids.take k)
  (fun m=>(∀ p∈m,p.2=true)∧∀ x,x∈m.map (·.1)↔x∈ids) (fun s hs=>by
  obtain ⟨m,i⟩:=s
  obtain ⟨k,hk,hi,hlen,ht,hx⟩:=hs
  dsimp only at hi hlen ht hx
  subst hi
  unfold Si
  dsimp only
  by_cases hk2:k < ids.length
  ·left
   rw [if_pos (by omega),Bg hk2,Ah,gd_t (hr _ (List.getElem_mem hk2)),gd_t (by omega),Bt (by omega)]
   have hsub:∀ p∈mdel m ids[k],p∈m:=fun p hp=>(Ii.1 hp).1
   refine ⟨_,rfl,⟨k+1,hk2,rfl,?_,?_,fun x=>?_⟩,by dsimp only;omega⟩
   ·show (mdel m ids[k]).length+1≤k+1
    have:(mdel m ids[k]).length≤m.length:=List.length_filter_le _ _
    omega
   ·intro p hp
    rcases List.mem_cons.1 hp with rfl | hp
    ·rfl
    ·exact ht p (hsub p hp)
   ·dsimp only
    show x∈ids[k]::(mdel m ids[k]).map (·.1)↔_
    rw [List.mem_cons,List.take_succ_eq_append_getElem hk2,List.mem_append,List.mem_singleton,← hx x]
    constructor
    ·rintro (e | e)
     ·exact .inr e
     ·obtain ⟨p,hp,rfl⟩:=List.mem_map.1 e
      exact .inl (List.mem_map_of_mem (hsub p hp))
    ·rintro (e | e)
     ·by_cases c:x=ids[k]
      ·exact .inl c
      ·obtain ⟨p,hp,rfl⟩:=List.mem_map.1 e
       exact .inr (List.mem_map.2 ⟨p,Ii.2 ⟨hp,c⟩,rfl⟩)
     ·exact .inl e
  ·right
   rw [if_neg (by omega)]
   have:k=ids.length:=by omega
   subst this
   rw [List.take_length] at hx
   exact ⟨_,rfl,ht,hx⟩) (([]:List (Int × Bool)),0) ⟨0,by omega,rfl,by simp,fun p hp=>(by cases hp),fun x=>by simp⟩
 obtain ⟨m,e,h1,h2⟩:=this
 refine ⟨m,?_,fun x=>?_⟩
 ·unfold Pb
  rw [jn_d,e,Ah]
 ·rw [X.mget_true h1]
  exact decide_eq_decide.2 (h2 x)
end Go.Proofs.YtbkobeeileemjaaGreat
/- Groups and roofs. -/
namespace Go.Proofs.YtbkobeeileemjaaGreat
open Go Go.RowKit Go.Sort
/-- Each name of a group is that of a point that does not come later. -/
def UF (s:List Int):Prop:=∀ k (hk:k < s.length),0≤s[k]∧s[k]≤(k:Int)
theorem Ajr {s:List Int} (hu:UF s) {i:Nat} (hi:i < s.length):∃ j:Nat,j≤i∧Mv s (i:Int)=some (j:Int):=by
 have:=Dl (B:=Qz s) (fun x=>x.toNat) (fun x=>∃ k:Nat,x=(k:Int)∧k≤i) (fun t=>∃ j:Nat,t=(j:Int)∧j≤i) (fun x hx=>by
  obtain ⟨k,rfl,hk⟩:=hx
  have hk2:k < s.length:=by omega
  have h1:=hu k hk2
  unfold Qz
  rw [Bg hk2,Ah,Ah]
  by_cases c:s[k]=(k:Int)
  ·right
   rw [if_pos c]
   exact ⟨_,rfl,k,rfl,hk⟩
  ·left
   rw [if_neg c]
   exact ⟨_,rfl,⟨s[k].toNat,by omega,by omega⟩,by omega⟩) (i:Int) ⟨i,rfl,Nat.le_refl _⟩
 obtain ⟨t,ht,j,rfl,hj⟩:=this
 refine ⟨j,hj,?_⟩
 unfold Mv
 rw [jn_d,ht,Ah]
theorem UF.set {s:List Int} (hu:UF s) {a b:Nat} (h:b≤a):UF (setI s (a:Int) (b:Int)):=by
 rw [Agm]
 intro k hk
 rw [List.length_set] at hk
 rw [List.getElem_set]
 by_cases c:a=k
 ·rw [if_pos c];omega
 ·rw [if_neg c];exact hu k hk
theorem Atv {n:Nat} {t:Aq} (h0:inN n t.a0) (h1:inN n t.a1) (h2:inN n t.a2) {k:Nat} (hk:k < 3) :
  ∃ a b:Nat,idx [t.a0,t.a1,t.a2] (k:Int)=some (a:Int)∧idx [t.a0,t.a1,t.a2] (Int.tmod (w64 ((k:Int)+1)) 3)=some (b:Int)∧a < n∧b < n:=by
 obtain ⟨a,ea,ha⟩:=Oe h0
 obtain ⟨b,eb,hb⟩:=Oe h1
 obtain ⟨c,ec,hc⟩:=Oe h2
 rw [ea,eb,ec,Bt (by omega)]
 rcases (by omega:k=0∨k=1∨k=2) with rfl | rfl | rfl
 ·exact ⟨a,b,rfl,rfl,ha,hb⟩
 ·exact ⟨b,c,rfl,rfl,hb,hc⟩
 ·exact ⟨c,a,rfl,rfl,hc,ha⟩
section
variable {L:List Aa} {r:Af} (hL:X.Fit L) (hr:X.okRules r=true)
include hL hr
theorem Anp {t:Aq} (h0:inN L.length t.a0) (h1:inN L.length t.a1) (h2:inN L.length t.a2) {s:List Int} (hu:UF s) (hn:s.length=L.length) :
  ∃ s',lfix (Ey t L r) (s,0)=some s'∧UF s'∧s'.length=L.length:=by
 have hrr:=X.okRules_rng hr
 have:=Dl (B:=Ey t L r) (fun x=>3-x.2.toNat) (fun x=>∃ k:Nat,k≤3∧x.2=(k:Int)∧UF x.1∧x.1.length=L.length) (fun s'=>UF s'∧s'.length=L.length) (fun x hx=>by
  obtain ⟨s,i⟩:=x
  obtain ⟨k,hk,hi,hu,hn⟩:=hx
  dsimp only at hi hu hn
  subst hi
  unfold Ey
  dsimp only
  by_cases hk2:k < 3
  ·left
   obtain ⟨a,b,ea,eb,ha,hb⟩:=Atv h0 h1 h2 hk2
   have pa:=hL.ok _ (List.getElem_mem ha)
   have pb:=hL.ok _ (List.getElem_mem hb)
   have ra:=X.okPt_rng pa
   have rb:=X.okPt_rng pb
   rw [if_pos (by omega),jn_d,ea,Ah,eb,Ah,jn_d,Bg ha,Ah,Bg hb,Ah,X.near_eq pa pb (by omega) (by omega),Ah,Bt (by omega)]
   by_cases c:X.sq L[a] L[b]≤r.Link*r.Link
   ·rw [if_pos (decide_eq_true c),Ah,Ah,(Ant (a:=L[a].Z) (b:=L[b].Z) (by omega) (by omega)).1,Ah]
    dsimp only
    by_cases c2:r.Flat < gapI L[a].Z L[b].Z
    ·rw [if_pos (decide_eq_true c2)]
     exact ⟨_,rfl,⟨k+1,hk2,rfl,hu,hn⟩,by dsimp only;omega⟩
    ·obtain ⟨x,hx,ex⟩:=Ajr hu (i:=a) (by omega)
     obtain ⟨y,hy,ey⟩:=Ajr hu (i:=b) (by omega)
     have em:max (x:Int) (y:Int)=((max x y:Nat):Int):=by omega
     have en:min (x:Int) (y:Int)=((min x y:Nat):Int):=by omega
     have hm:max x y < s.length:=by omega
     rw [if_neg (by simpa using c2),ex,Ah,ey,Ah,em,en,Bg hm,Ah]
     exact ⟨_,rfl,⟨k+1,hk2,rfl,hu.set (by omega),by rw [Cs];exact hn⟩,by dsimp only;omega⟩
   ·rw [if_neg (by simpa using c)]
    dsimp only
    rw [if_pos rfl]
    exact ⟨_,rfl,⟨k+1,hk2,rfl,hu,hn⟩,by dsimp only;omega⟩
  ·right
   rw [if_neg (by omega)]
   exact ⟨_,rfl,hu,hn⟩) (s,0) ⟨0,by omega,rfl,hu,hn⟩
 obtain ⟨s',e,h⟩:=this
 exact ⟨s',e,h⟩
theorem Aq2 (ha:Qa L):∃ G,Fg L r=some G∧G.length=L.length∧∀ x∈G,∃ k:Nat,x=(k:Int)∧k < L.length:=by
 have hn:=hL.n
 obtain ⟨x,e,⟨e0,_,e1,e2,e3⟩ | ⟨_,e0⟩⟩:=Zp hL
 ·have hm:=At7 hL e1 e3
  have hvl:x.1.V.length=L.length:=by rw [e1];unfold vxL;rw [List.length_map]
  have i1:∃ s,lfix (Fv L) (List.replicate (Int.toNat (((L.length:Nat):Int))) (0:Int),0)=some s∧UF s∧s.length=L.length:=by
   have:=Dl (B:=Fv L) (fun s=>L.length-s.2.toNat) (fun s=>∃ k:Nat,k≤L.length∧s.2=(k:Int)∧UF s.1∧s.1.length=L.length) (fun s=>UF s∧s.length=L.length) (fun s hs=>by
    obtain ⟨s,i⟩:=s
    obtain ⟨k,hk,hi,hu,hs⟩:=hs
    dsimp only at hi hu hs
    subst hi
    unfold Fv
    dsimp only
    rw [List.length_replicate]
    by_cases hk2:k < L.length
    ·left
     rw [if_pos (by omega),Bg (show k < s.length by omega),Ah,Bt (by omega)]
     exact ⟨_,rfl,⟨k+1,hk2,rfl,hu.set (Nat.le_refl _),by rw [Cs];exact hs⟩,by dsimp only;omega⟩
    ·right
     rw [if_neg (by omega)]
     exact ⟨_,rfl,hu,hs⟩) (List.replicate (Int.toNat (((L.length:Nat):Int))) (0:Int),0) ⟨0,by omega,rfl,fun k hk=>by dsimp only;rw [List.getElem_replicate];omega,by dsimp only;rw [List.length_replicate];omega⟩
   exact this
  obtain ⟨s1,l1,u1,n1⟩:=i1
  have i2:∃ s,lfix (Ez x L r) (s1,0)=some s∧UF s∧s.length=L.length:=by
   have hTl:=hm.len
   have:=Dl (B:=Ez x L r) (fun s=>x.1.T.length-s.2.toNat) (fun s=>∃ k:Nat,k≤x.1.T.length∧s.2=(k:Int)∧UF s.1∧s.1.length=L.length) (fun s=>UF s∧s.length=L.length) (fun s hs=>by
    obtain ⟨s,i⟩:=s
    obtain ⟨k,hk,hi,hu,hs⟩:=hs
    dsimp only at hi hu hs
    subst hi
    unfold Ez
    dsimp only
    by_cases hk2:k < x.1.T.length
    ·left
     obtain ⟨t0,t1,t2,_⟩:=hm.t _ (List.getElem_mem hk2)
     rw [hvl] at t0 t1 t2
     obtain ⟨s',g1,g2,g3⟩:=Anp hL hr t0 t1 t2 hu hs
     rw [if_pos (by omega),jn_d,Bg hk2,Ah,g1,Ah,Bt (by omega)]
     exact ⟨_,rfl,⟨k+1,hk2,rfl,g2,g3⟩,by dsimp only;omega⟩
    ·right
     rw [if_neg (by omega)]
     exact ⟨_,rfl,hu,hs⟩) (s1,0) ⟨0,by omega,rfl,u1,n1⟩
   exact this
  obtain ⟨s2,l2,u2,n2⟩:=i2
  have i3:∃ s,lfix (Kf s2) (s2,0)=some s∧UF s∧s.length=L.length:=by
   have:=Dl (B:=Kf s2) (fun s=>s2.length-s.2.toNat) (fun s=>∃ k:Nat,k≤s2.length∧s.2=(k:Int)∧UF s.1∧s.1.length=L.length) (fun s=>UF s∧s.length=L.length) (fun s hs=>by
    obtain ⟨s,i⟩:=s
    obtain ⟨k,hk,hi,hu,hs⟩:=hs
    dsimp only at hi hu hs
    subst hi
    unfold Kf
    dsimp only
    by_cases hk2:k < s2.length
    ·left
     have hk3:k < s.length:=by omega
     obtain ⟨y,hy,ey⟩:=Ajr hu hk3
     rw [if_pos (by omega),ey,Ah,Bg hk3,Ah,Bt (by omega)]
     exact ⟨_,rfl,⟨k+1,hk2,rfl,hu.set hy,by rw [Cs];exact hs⟩,by dsimp only;omega⟩
    ·right
     rw [if_neg (by omega)]
     exact ⟨_,rfl,hu,hs⟩) (s2,0) ⟨0,by omega,rfl,u2,n2⟩
   exact this
  obtain ⟨s3,l3,u3,n3⟩:=i3
  refine ⟨s3,?_,n3,fun z hz=>?_⟩
  ·unfold Fg
   rw [gd_t (by omega),jn_d,l1,Ah]
   dsimp only
   rw [e,Ah,if_pos e0,jn_d,l2,Ah]
   dsimp only
   rw [jn_d,l3,Ah]
  ·obtain ⟨k,hk,rfl⟩:=List.getElem_of_mem hz
   have:=u3 k hk
   exact ⟨s3[k].toNat,by omega,by omega⟩
 ·exact absurd ha e0
end
/-! ### roofs -/
def Hk {α:Type} (p:Nat→Bool) (l:List α):List α:=(l.zipIdx.filter fun x=>p x.2).map (·.1)
theorem Ajs {α:Type} {p:Nat→Bool} {l:List α} {k:Nat} (hk:k < l.length):Hk p (l.take (k+1))=if p k=true then Hk p (l.take k)++[l[k]] else Hk p (l.take k):=by
 unfold Hk
 rw [List.take_succ_eq_append_getElem hk,List.zipIdx_append,List.filter_append,List.map_append,List.length_take,Nat.min_eq_left (by omega)]
 simp only [List.zipIdx_cons,List.zipIdx_nil,Nat.zero_add]
 by_cases c:p k=true
 ·rw [if_pos c,List.filter_cons_of_pos (by simpa using c)];rfl
 ·rw [if_neg c,List.filter_cons_of_neg (by simpa using c)];simp
theorem Alx {α:Type} {p:Nat→Bool} {l:List α} {x:α} (h:x∈Hk p l):x∈l:=by
 unfold Hk at h
 obtain ⟨y,hy,rfl⟩:=List.mem_map.1 h
 exact List.fst_mem_of_mem_zipIdx (List.mem_filter.1 hy).1
theorem Yu {α:Type} (p:Nat→Bool) (l:List α):(Hk p l).length≤l.length:=by
 unfold Hk
 rw [List.length_map]
 have:=List.length_filter_le (fun x:α × Nat=>p x.2) l.zipIdx
 rw [List.length_zipIdx] at this
 exact this
theorem Ajt {α:Type} (l:List α) (p:Nat→Bool) (B:List α × Int→Option (Sum (List α × Int) (List α)))
  (h1:∀ (j:Nat) (hj:j < l.length) (s:List α),s.length≤j→B (s,(j:Int))=some (.inl (if p j=true then s++[l[j]] else s,((j+1:Nat):Int)))) (h2:∀ s,B (s,(l.length:Int))=some (.inr s)):lfix B ([],0)=some (Hk p l):=by
 have key:∀ (m k:Nat),k≤l.length→l.length-k=m→lfix B (Hk p (l.take k),(k:Int))=some (Hk p l):=by
  intro m
  induction m with
  | zero =>
   intro k hk hm
   obtain rfl:k=l.length:=by omega
   rw [Cy,h2,List.take_length]
  | succ m ih =>
   intro k hk hm
   have hlt:k < l.length:=by omega
   have:=Yu p (l.take k)
   rw [List.length_take] at this
   rw [Cy,h1 k hlt _ (by omega)]
   dsimp only
   rw [← Ajs hlt]
   exact ih (k+1) (by omega) (by omega)
 exact key l.length 0 (Nat.zero_le _) rfl
def Aai (G S:List Int) (r:Af) (j:Nat):Bool:=match idx G (j:Int) with
 | some x=>(match idx S x with
  | some z=>decide (r.Few≤z)
  | none=>false)
 | none=>false
theorem Atw {G:List Int} {n:Nat} (hn:G.length≤1000000) (hg:∀ x∈G,∃ k:Nat,x=(k:Int)∧k < n):∃ S,lfix (Ij G) (List.replicate n (0:Int),0)=some S∧S.length=n:=by
 have:=Dl (B:=Ij G) (fun s=>G.length-s.2.toNat) (fun s=>∃ k:Nat,k≤G.length∧s.2=(k:Int)∧s.1.length=n) (fun s=>s.length=n) (fun s hs=>by
  obtain ⟨s,i⟩:=s
  obtain ⟨k,hk,hi,hs⟩:=hs
  dsimp only at hi hs
  subst hi
  unfold Ij
  dsimp only
  by_cases hk2:k < G.length
  ·left
   obtain ⟨x,hx,hx2⟩:=hg _ (List.getElem_mem hk2)
   have hx3:x < s.length:=by omega
   rw [if_pos (by omega),Bg hk2,Ah,hx,Bg hx3,Ah,Ah,Bt (by omega)]
   exact ⟨_,rfl,⟨k+1,hk2,rfl,by rw [Cs];exact hs⟩,by dsimp only;omega⟩
  ·right
   rw [if_neg (by omega)]
   exact ⟨_,rfl,hs⟩) (List.replicate n (0:Int),0) ⟨0,by omega,rfl,List.length_replicate⟩
 exact this
theorem Atx {l:List Aa} {r:Af} (hl:X.validL l=true) (hr:X.okRules r=true) {m:Bd} (h:Msh m) {g:List Int} (hg:g.length≤1000000) :
  ∃ G S,Fg (Mi l m g r) r=some G∧lfix (Ij G) (List.replicate (Mi l m g r).length (0:Int),0)=some S∧Mw l m g r=some (Db ((Hk (Aai G S r) (Mi l m g r)).map (·.Id))):=by
 have hF:=Wb (m:=m) (g:=g) (r:=r) hl
 have hn:=hF.n
 obtain ⟨G,e1,e2,e3⟩:=Aq2 hF hr (Yt hl)
 obtain ⟨S,e4,e5⟩:=Atw (n:=(Mi l m g r).length) (by omega) e3
 refine ⟨G,S,e1,e4,?_⟩
 unfold Mw
 rw [Av3 hl hr h hg,Ah,e1,Ah,gd_t (by omega),jn_d,show Int.toNat ((((Mi l m g r).length:Nat):Int))=(Mi l m g r).length from rfl,e4,Ah]
 dsimp only
 rw [jn_d,Ajt (Mi l m g r) (Aai G S r) (Li (Mi l m g r) G S r) (fun j hj s hs=>?_) (fun s=>?_),Ah]
 ·dsimp only
  have hl2:=Yu (Aai G S r) (Mi l m g r)
  rw [X.ids_eq (by omega),Ah]
 ·unfold Li
  dsimp only
  have hj2:j < G.length:=by omega
  obtain ⟨x,hx,hx2⟩:=e3 _ (List.getElem_mem hj2)
  have hx3:x < S.length:=by omega
  rw [if_pos (by omega),jn_d,Bg hj,Ah,Bg hj2,Ah,hx,Bg hx3,Ah,Bt (by omega)]
  have hv:Aai G S r j=decide (r.Few≤S[x]):=by
   unfold Aai
   rw [Bg hj2]
   dsimp only
   rw [hx,Bg hx3]
  rw [hv]
  by_cases c:r.Few≤S[x]
  ·rw [if_pos c,gd_t (by omega),if_pos (decide_eq_true c)]
  ·rw [if_neg c,if_neg (by simpa using c)]
 ·unfold Li
  dsimp only
  rw [if_neg (by omega)]
end Go.Proofs.YtbkobeeileemjaaGreat
