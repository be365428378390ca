/- Classes: heights above the ground, high points, groups, roofs. -/
import Derived.Test.YtbkobeeileemjaaGreatH7
import Derived.Test.YtbkobeeileemjaaGreatY6
namespace Go.Proofs.YtbkobeeileemjaaGreat
open Go Go.RowKit Go.Sort
/-! ### heights above a mesh -/
def Ae2 (v:List Ae) (T:List Aw) (p:Aa):Option Br:=match locT v T (X.plF p) with
 | none=>none
 | some i=>match idx T (i:Int) with
  | none=>none
  | some t=>some ⟨p.Z.Lo-(bndT v (X.plF p) t).Hi,p.Z.Hi-(bndT v (X.plF p) t).Lo⟩
section
variable {m:Bg} (h:Msh m) {p:Aa} (hp:X.okPt p=true)
include h hp
theorem Apt:Pm m p=some (match Ae2 m.V m.T p with | some s=>(s,true) | none=>(⟨0,0⟩,false)):=by
 have hpp:=X.okPt_rng hp
 have hq:=Abu hp
 unfold Pm
 rw [Ad3,Ah,Ai5 h hq,Ah]
 unfold Ae2
 cases e:locT m.V m.T (X.plF p) with
 | none=>rfl
 | some i =>
  dsimp only
  have e':=e
  unfold locT at e'
  rw [List.findIdx?_eq_some_iff_getElem] at e'
  obtain ⟨hi,hc,_⟩:=e'
  have hb:=Amq h (List.getElem_mem hi) hc
  rw [if_neg (by omega),Ah,Ai6 h hq hi hc,Ah,Bf hi,Bp (by omega) (by omega),Bp (by omega) (by omega)]
end
/-! ### high points -/
def Yo (m:Bg) (g:List Int) (r:Ag) (p:Aa):Bool:=decide (p.Of=1∧p.Id ∉ g) && match Ae2 m.V m.T p with
 | some s=>decide (r.Tall≤s.Lo∧s.Lo≤r.High)
 | none=>false
noncomputable def Pe (l:List Aa) (m:Bg) (g:List Int) (r:Ag):List Aa:=Ar Bn (X.bot X.plF ((X.dryL l r).filter (Yo m g r)))
theorem An8 {l:List Aa} (hf:X.Fit l):∃ L,L.Perm (X.bot X.plF l)∧Qh Ck l=some L:=by
 obtain ⟨L,h1,h2⟩:=X.lowest_eq X.plF Ck Agf l [] hf.n hf.id (fun p hp=>⟨rfl,by have:=X.okPt_rng (hf.ok p hp);simp only [X.plF];omega⟩)
 refine ⟨L,h1,?_⟩
 have hlen:L.length≤1024:=by rw [h1.length_eq];exact Nat.le_trans (List.length_filter_le _ _) hf.n
 unfold Qh
 rw [h2,X.foldlM_stepC L [] (by simpa using hlen)];rfl
theorem Fit.bot {l:List Aa} (h:X.Fit l):X.Fit (X.bot X.plF l):=h.filter _
section
variable {l:List Aa} {r:Ag} (hl:X.validL l=true) (hr:X.okRules r=true) {m:Bg} (h:Msh m) {g:List Int} (hg:g.length≤1000000)
theorem Ad0 (hl:X.validL l=true):X.Fit (Pe l m g r):=(Fit.bot (((X.Fit.of hl).filter _).filter _)).perm (Ei _ _).symm
theorem Ars {p:Aa} (hp:p∈Pe l m g r):p∈l∧X.sunkB l r p=false∧p.Of=1∧p.Id ∉ g∧∃ s,Ae2 m.V m.T p=some s∧r.Tall≤s.Lo∧s.Lo≤r.High:=by
 have h1:=(X.mem_bot.1 (Iq.1 hp)).1
 rw [List.mem_filter] at h1
 obtain ⟨h2,h3⟩:=h1
 unfold X.dryL at h2
 rw [List.mem_filter] at h2
 unfold Yo at h3
 rw [Bool.and_eq_true,decide_eq_true_eq] at h3
 refine ⟨h2.1,by simpa using h2.2,h3.1.1,h3.1.2,?_⟩
 cases e:Ae2 m.V m.T p with
 | none=>rw [e] at h3;cases h3.2
 | some s=>rw [e] at h3;exact ⟨s,rfl,by simpa using h3.2⟩
theorem Amf (hl:X.validL l=true):Tb (Pe l m g r):=by
 have hf:=(Ad0 (m:=m) (g:=g) (r:=r) hl).id
 rw [List.Nodup,List.pairwise_map] at hf
 unfold Tb
 refine List.Pairwise.imp_of_mem ?_ hf
 intro a b ha hb hne e
 obtain ⟨a1,a2⟩:=X.mem_bot.1 (Iq.1 ha)
 obtain ⟨b1,b2⟩:=X.mem_bot.1 (Iq.1 hb)
 have e':X.plF a=X.plF b:=by unfold X.plF;rw [e.1,e.2]
 exact hne (X.lowB_total (b2 a a1 e') (a2 b b1 e'.symm))
include hl hr h hg
theorem Awz:Rn l m g r=some (Pe l m g r):=by
 have hF:=X.Fit.of hl
 have hn:=hF.n
 have hd:X.Fit (X.dryL l r):=hF.filter _
 have hdn:=hd.n
 obtain ⟨L,h1,h2⟩:=An8 (hd.filter (Yo m g r))
 have hL:X.Fit L:=(Fit.bot (hd.filter _)).perm h1.symm
 have hLn:=hL.n
 unfold Rn
 rw [X.parted_eq hl hr,Ah,jn_d,X.lfix_filter (X.dryL l r) (Yo m g r) (Pa (X.dryL l r,X.sunkL l r) m r g) (fun j hj s hs=>?_) (fun s=>?_),Ah]
 ·dsimp only
  rw [h2,Ah,gd_t ⟨by omega,fun x hx=>⟨hx,Zy hL⟩⟩]
  unfold Pe
  rw [Ql (totP L) (fun x hx=>⟨hx,Zy hL⟩) h1]
 ·unfold Pa
  dsimp only
  rw [if_pos (by omega),jn_d,Bf hj,Ah,jn_d,Bs (by omega)]
  have hp:=hd.ok _ (List.getElem_mem hj)
  have hrr:=X.okRules_rng hr
  generalize (X.dryL l r)[j]=p at *
  by_cases c:p.Of=1
  ·rw [if_pos c,Ae7 hg,Ah]
   dsimp only
   by_cases c2:p.Id∈g
   ·have hv:Yo m g r p=false:=by unfold Yo;rw [decide_eq_false (fun h:p.Of=1∧p.Id ∉ g=>h.2 c2)];rfl
    rw [if_pos (decide_eq_true c2),hv]
    rfl
   ·rw [if_neg (by simpa using c2),Apt h hp,Ah,jn_d]
    cases e:Ae2 m.V m.T p with
    | none =>
     have hv:Yo m g r p=false:=by unfold Yo;rw [e,Bool.and_false]
     rw [hv]
     rfl
    | some z =>
     have hv:Yo m g r p=decide (r.Tall≤z.Lo∧z.Lo≤r.High):=by unfold Yo;rw [decide_eq_true (⟨c,c2⟩:p.Of=1∧p.Id ∉ g),Bool.true_and,e]
     dsimp only
     rw [if_pos rfl,X.within_eq,Ah,gd_t (by omega),hv]
     by_cases c3:r.Tall≤z.Lo∧z.Lo≤r.High
     ·rw [decide_eq_true c3];rfl
     ·rw [decide_eq_false c3];rfl
  ·have hv:Yo m g r p=false:=by unfold Yo;rw [decide_eq_false (fun h:p.Of=1∧p.Id ∉ g=>c h.1)];rfl
   rw [if_neg c,hv]
   rfl
 ·unfold Pa
  dsimp only
  rw [if_neg (by omega)]
end
/-! ### sets -/
theorem An9 {ids:List Int} (h:ids.length≤1000000) (hr:∀ i∈ids,-9223372036854775808≤i∧i≤9223372036854775807):∃ m,Qa ids=some m∧∀ x,(mget m x).getD false=decide (x∈ids):=by
 have:=Du (B:=Tt ids) (fun s=>ids.length-s.2.toNat) (fun s=>∃ k:Nat,k≤ids.length∧s.2=(k:Int)∧s.1.length≤k∧(∀ p∈s.1,p.2=true)∧∀ x,x∈s.1.map (·.1)↔x∈ids.take k)
  (fun m=>(∀ p∈m,p.2=true)∧∀ x,x∈m.map (·.1)↔x∈ids) (fun s hs=>by
  obtain ⟨m,i⟩:=s
  obtain ⟨k,hk,hi,hlen,ht,hx⟩:=hs
  dsimp only at hi hlen ht hx
  subst hi
  unfold Tt
  dsimp only
  by_cases hk2:k < ids.length
  ·left
   rw [if_pos (by omega),Bf hk2,Ah,gd_t (hr _ (List.getElem_mem hk2)),gd_t (by omega),Bs (by omega)]
   have hsub:∀ p∈mdel m ids[k],p∈m:=fun p hp=>(Io.1 hp).1
   refine ⟨_,rfl,⟨k+1,hk2,rfl,?_,?_,fun x=>?_⟩,by dsimp only;omega⟩
   ·show (mdel m ids[k]).length+1≤k+1
    have:(mdel m ids[k]).length≤m.length:=List.length_filter_le _ _
    omega
   ·intro p hp
    rcases List.mem_cons.1 hp with rfl | hp
    ·rfl
    ·exact ht p (hsub p hp)
   ·dsimp only
    show x∈ids[k]::(mdel m ids[k]).map (·.1)↔_
    rw [List.mem_cons,List.take_succ_eq_append_getElem hk2,List.mem_append,List.mem_singleton,← hx x]
    constructor
    ·rintro (e | e)
     ·exact .inr e
     ·obtain ⟨p,hp,rfl⟩:=List.mem_map.1 e
      exact .inl (List.mem_map_of_mem (hsub p hp))
    ·rintro (e | e)
     ·by_cases c:x=ids[k]
      ·exact .inl c
      ·obtain ⟨p,hp,rfl⟩:=List.mem_map.1 e
       exact .inr (List.mem_map.2 ⟨p,Io.2 ⟨hp,c⟩,rfl⟩)
     ·exact .inl e
  ·right
   rw [if_neg (by omega)]
   have:k=ids.length:=by omega
   subst this
   rw [List.take_length] at hx
   exact ⟨_,rfl,ht,hx⟩) (([]:List (Int × Bool)),0) ⟨0,by omega,rfl,by simp,fun p hp=>(by cases hp),fun x=>by simp⟩
 obtain ⟨m,e,h1,h2⟩:=this
 refine ⟨m,?_,fun x=>?_⟩
 ·unfold Qa
  rw [jn_d,e,Ah]
 ·rw [X.mget_true h1]
  exact decide_eq_decide.2 (h2 x)
end Go.Proofs.YtbkobeeileemjaaGreat
/- Groups and roofs. -/
namespace Go.Proofs.YtbkobeeileemjaaGreat
open Go Go.RowKit Go.Sort
/-- Each name of a group is that of a point that does not come later. -/
def UF (s:List Int):Prop:=∀ k (hk:k < s.length),0≤s[k]∧s[k]≤(k:Int)
theorem Akk {s:List Int} (hu:UF s) {i:Nat} (hi:i < s.length):∃ j:Nat,j≤i∧Np s (i:Int)=some (j:Int):=by
 have:=Du (B:=Sc s) (fun x=>x.toNat) (fun x=>∃ k:Nat,x=(k:Int)∧k≤i) (fun t=>∃ j:Nat,t=(j:Int)∧j≤i) (fun x hx=>by
  obtain ⟨k,rfl,hk⟩:=hx
  have hk2:k < s.length:=by omega
  have h1:=hu k hk2
  unfold Sc
  rw [Bf hk2,Ah,Ah]
  by_cases c:s[k]=(k:Int)
  ·right
   rw [if_pos c]
   exact ⟨_,rfl,k,rfl,hk⟩
  ·left
   rw [if_neg c]
   exact ⟨_,rfl,⟨s[k].toNat,by omega,by omega⟩,by omega⟩) (i:Int) ⟨i,rfl,Nat.le_refl _⟩
 obtain ⟨t,ht,j,rfl,hj⟩:=this
 refine ⟨j,hj,?_⟩
 unfold Np
 rw [jn_d,ht,Ah]
theorem UF.set {s:List Int} (hu:UF s) {a b:Nat} (h:b≤a):UF (setI s (a:Int) (b:Int)):=by
 rw [Xf]
 intro k hk
 rw [List.length_set] at hk
 rw [List.getElem_set]
 by_cases c:a=k
 ·rw [if_pos c];omega
 ·rw [if_neg c];exact hu k hk
theorem Auk {n:Nat} {t:Aw} (h0:inN n t.a0) (h1:inN n t.a1) (h2:inN n t.a2) {k:Nat} (hk:k < 3) :
  ∃ a b:Nat,idx [t.a0,t.a1,t.a2] (k:Int)=some (a:Int)∧idx [t.a0,t.a1,t.a2] (Int.tmod (w64 ((k:Int)+1)) 3)=some (b:Int)∧a < n∧b < n:=by
 obtain ⟨a,ea,ha⟩:=Qw h0
 obtain ⟨b,eb,hb⟩:=Qw h1
 obtain ⟨c,ec,hc⟩:=Qw h2
 rw [ea,eb,ec,Bs (by omega)]
 rcases (by omega:k=0∨k=1∨k=2) with rfl | rfl | rfl
 ·exact ⟨a,b,rfl,rfl,ha,hb⟩
 ·exact ⟨b,c,rfl,rfl,hb,hc⟩
 ·exact ⟨c,a,rfl,rfl,hc,ha⟩
section
variable {L:List Aa} {r:Ag} (hL:X.Fit L) (hr:X.okRules r=true)
include hL hr
theorem Aoa {t:Aw} (h0:inN L.length t.a0) (h1:inN L.length t.a1) (h2:inN L.length t.a2) {s:List Int} (hu:UF s) (hn:s.length=L.length) :
  ∃ s',lfix (Kr t L r) (s,0)=some s'∧UF s'∧s'.length=L.length:=by
 have hrr:=X.okRules_rng hr
 have:=Du (B:=Kr t L r) (fun x=>3-x.2.toNat) (fun x=>∃ k:Nat,k≤3∧x.2=(k:Int)∧UF x.1∧x.1.length=L.length) (fun s'=>UF s'∧s'.length=L.length) (fun x hx=>by
  obtain ⟨s,i⟩:=x
  obtain ⟨k,hk,hi,hu,hn⟩:=hx
  dsimp only at hi hu hn
  subst hi
  unfold Kr
  dsimp only
  by_cases hk2:k < 3
  ·left
   obtain ⟨a,b,ea,eb,ha,hb⟩:=Auk h0 h1 h2 hk2
   have pa:=hL.ok _ (List.getElem_mem ha)
   have pb:=hL.ok _ (List.getElem_mem hb)
   have ra:=X.okPt_rng pa
   have rb:=X.okPt_rng pb
   rw [if_pos (by omega),jn_d,ea,Ah,eb,Ah,jn_d,Bf ha,Ah,Bf hb,Ah,X.near_eq pa pb (by omega) (by omega),Ah,Bs (by omega)]
   by_cases c:X.sq L[a] L[b]≤r.Link*r.Link
   ·rw [if_pos (decide_eq_true c),Ah,Ah,(Aoh (a:=L[a].Z) (b:=L[b].Z) (by omega) (by omega)).1,Ah]
    dsimp only
    by_cases c2:r.Flat < gapI L[a].Z L[b].Z
    ·rw [if_pos (decide_eq_true c2)]
     exact ⟨_,rfl,⟨k+1,hk2,rfl,hu,hn⟩,by dsimp only;omega⟩
    ·obtain ⟨x,hx,ex⟩:=Akk hu (i:=a) (by omega)
     obtain ⟨y,hy,ey⟩:=Akk hu (i:=b) (by omega)
     have em:max (x:Int) (y:Int)=((max x y:Nat):Int):=by omega
     have en:min (x:Int) (y:Int)=((min x y:Nat):Int):=by omega
     have hm:max x y < s.length:=by omega
     rw [if_neg (by simpa using c2),ex,Ah,ey,Ah,em,en,Bf hm,Ah]
     exact ⟨_,rfl,⟨k+1,hk2,rfl,hu.set (by omega),by rw [Bo];exact hn⟩,by dsimp only;omega⟩
   ·rw [if_neg (by simpa using c)]
    dsimp only
    rw [if_pos rfl]
    exact ⟨_,rfl,⟨k+1,hk2,rfl,hu,hn⟩,by dsimp only;omega⟩
  ·right
   rw [if_neg (by omega)]
   exact ⟨_,rfl,hu,hn⟩) (s,0) ⟨0,by omega,rfl,hu,hn⟩
 obtain ⟨s',e,h⟩:=this
 exact ⟨s',e,h⟩
theorem Art (ha:Tb L):∃ G,Jt L r=some G∧G.length=L.length∧∀ x∈G,∃ k:Nat,x=(k:Int)∧k < L.length:=by
 have hn:=hL.n
 obtain ⟨x,e,⟨e0,_,e1,e2,e3⟩ | ⟨_,e0⟩⟩:=Ai7 hL
 ·have hm:=Au7 hL e1 e3
  have hvl:x.1.V.length=L.length:=by rw [e1];unfold vxL;rw [List.length_map]
  have i1:∃ s,lfix (Lx L) (List.replicate (Int.toNat (((L.length:Nat):Int))) (0:Int),0)=some s∧UF s∧s.length=L.length:=by
   have:=Du (B:=Lx L) (fun s=>L.length-s.2.toNat) (fun s=>∃ k:Nat,k≤L.length∧s.2=(k:Int)∧UF s.1∧s.1.length=L.length) (fun s=>UF s∧s.length=L.length) (fun s hs=>by
    obtain ⟨s,i⟩:=s
    obtain ⟨k,hk,hi,hu,hs⟩:=hs
    dsimp only at hi hu hs
    subst hi
    unfold Lx
    dsimp only
    rw [List.length_replicate]
    by_cases hk2:k < L.length
    ·left
     rw [if_pos (by omega),Bf (show k < s.length by omega),Ah,Bs (by omega)]
     exact ⟨_,rfl,⟨k+1,hk2,rfl,hu.set (Nat.le_refl _),by rw [Bo];exact hs⟩,by dsimp only;omega⟩
    ·right
     rw [if_neg (by omega)]
     exact ⟨_,rfl,hu,hs⟩) (List.replicate (Int.toNat (((L.length:Nat):Int))) (0:Int),0) ⟨0,by omega,rfl,fun k hk=>by dsimp only;rw [List.getElem_replicate];omega,by dsimp only;rw [List.length_replicate];omega⟩
   exact this
  obtain ⟨s1,l1,u1,n1⟩:=i1
  have i2:∃ s,lfix (Ks x L r) (s1,0)=some s∧UF s∧s.length=L.length:=by
   have hTl:=hm.len
   have:=Du (B:=Ks x L r) (fun s=>x.1.T.length-s.2.toNat) (fun s=>∃ k:Nat,k≤x.1.T.length∧s.2=(k:Int)∧UF s.1∧s.1.length=L.length) (fun s=>UF s∧s.length=L.length) (fun s hs=>by
    obtain ⟨s,i⟩:=s
    obtain ⟨k,hk,hi,hu,hs⟩:=hs
    dsimp only at hi hu hs
    subst hi
    unfold Ks
    dsimp only
    by_cases hk2:k < x.1.T.length
    ·left
     obtain ⟨t0,t1,t2,_⟩:=hm.t _ (List.getElem_mem hk2)
     rw [hvl] at t0 t1 t2
     obtain ⟨s',g1,g2,g3⟩:=Aoa hL hr t0 t1 t2 hu hs
     rw [if_pos (by omega),jn_d,Bf hk2,Ah,g1,Ah,Bs (by omega)]
     exact ⟨_,rfl,⟨k+1,hk2,rfl,g2,g3⟩,by dsimp only;omega⟩
    ·right
     rw [if_neg (by omega)]
     exact ⟨_,rfl,hu,hs⟩) (s1,0) ⟨0,by omega,rfl,u1,n1⟩
   exact this
  obtain ⟨s2,l2,u2,n2⟩:=i2
  have i3:∃ s,lfix (Kt s2) (s2,0)=some s∧UF s∧s.length=L.length:=by
   have:=Du (B:=Kt s2) (fun s=>s2.length-s.2.toNat) (fun s=>∃ k:Nat,k≤s2.length∧s.2=(k:Int)∧UF s.1∧s.1.length=L.length) (fun s=>UF s∧s.length=L.length) (fun s hs=>by
    obtain ⟨s,i⟩:=s
    obtain ⟨k,hk,hi,hu,hs⟩:=hs
    dsimp only at hi hu hs
    subst hi
    unfold Kt
    dsimp only
    by_cases hk2:k < s2.length
    ·left
     have hk3:k < s.length:=by omega
     obtain ⟨y,hy,ey⟩:=Akk hu hk3
     rw [if_pos (by omega),ey,Ah,Bf hk3,Ah,Bs (by omega)]
     exact ⟨_,rfl,⟨k+1,hk2,rfl,hu.set hy,by rw [Bo];exact hs⟩,by dsimp only;omega⟩
    ·right
     rw [if_neg (by omega)]
     exact ⟨_,rfl,hu,hs⟩) (s2,0) ⟨0,by omega,rfl,u2,n2⟩
   exact this
  obtain ⟨s3,l3,u3,n3⟩:=i3
  refine ⟨s3,?_,n3,fun z hz=>?_⟩
  ·unfold Jt
   rw [gd_t (by omega),jn_d,l1,Ah]
   dsimp only
   rw [e,Ah,if_pos e0,jn_d,l2,Ah]
   dsimp only
   rw [jn_d,l3,Ah]
  ·obtain ⟨k,hk,rfl⟩:=List.getElem_of_mem hz
   have:=u3 k hk
   exact ⟨s3[k].toNat,by omega,by omega⟩
 ·exact absurd ha e0
end
/-! ### roofs -/
def Ko {α:Type} (p:Nat→Bool) (l:List α):List α:=(l.zipIdx.filter fun x=>p x.2).map (·.1)
theorem Akl {α:Type} {p:Nat→Bool} {l:List α} {k:Nat} (hk:k < l.length):Ko p (l.take (k+1))=if p k=true then Ko p (l.take k)++[l[k]] else Ko p (l.take k):=by
 unfold Ko
 rw [List.take_succ_eq_append_getElem hk,List.zipIdx_append,List.filter_append,List.map_append,List.length_take,Nat.min_eq_left (by omega)]
 simp only [List.zipIdx_cons,List.zipIdx_nil,Nat.zero_add]
 by_cases c:p k=true
 ·rw [if_pos c,List.filter_cons_of_pos (by simpa using c)];rfl
 ·rw [if_neg c,List.filter_cons_of_neg (by simpa using c)];simp
theorem Amg {α:Type} {p:Nat→Bool} {l:List α} {x:α} (h:x∈Ko p l):x∈l:=by
 unfold Ko at h
 obtain ⟨y,hy,rfl⟩:=List.mem_map.1 h
 exact List.fst_mem_of_mem_zipIdx (List.mem_filter.1 hy).1
theorem Zv {α:Type} (p:Nat→Bool) (l:List α):(Ko p l).length≤l.length:=by
 unfold Ko
 rw [List.length_map]
 have:=List.length_filter_le (fun x:α × Nat=>p x.2) l.zipIdx
 rw [List.length_zipIdx] at this
 exact this
theorem Akm {α:Type} (l:List α) (p:Nat→Bool) (B:List α × Int→Option (Sum (List α × Int) (List α)))
  (h1:∀ (j:Nat) (hj:j < l.length) (s:List α),s.length≤j→B (s,(j:Int))=some (.inl (if p j=true then s++[l[j]] else s,((j+1:Nat):Int)))) (h2:∀ s,B (s,(l.length:Int))=some (.inr s)):lfix B ([],0)=some (Ko p l):=by
 have key:∀ (m k:Nat),k≤l.length→l.length-k=m→lfix B (Ko p (l.take k),(k:Int))=some (Ko p l):=by
  intro m
  induction m with
  | zero =>
   intro k hk hm
   obtain rfl:k=l.length:=by omega
   rw [Dq,h2,List.take_length]
  | succ m ih =>
   intro k hk hm
   have hlt:k < l.length:=by omega
   have:=Zv p (l.take k)
   rw [List.length_take] at this
   rw [Dq,h1 k hlt _ (by omega)]
   dsimp only
   rw [← Akl hlt]
   exact ih (k+1) (by omega) (by omega)
 exact key l.length 0 (Nat.zero_le _) rfl
def Aa8 (G S:List Int) (r:Ag) (j:Nat):Bool:=match idx G (j:Int) with
 | some x=>(match idx S x with
  | some z=>decide (r.Few≤z)
  | none=>false)
 | none=>false
theorem Aul {G:List Int} {n:Nat} (hn:G.length≤1000000) (hg:∀ x∈G,∃ k:Nat,x=(k:Int)∧k < n):∃ S,lfix (Ip G) (List.replicate n (0:Int),0)=some S∧S.length=n:=by
 have:=Du (B:=Ip G) (fun s=>G.length-s.2.toNat) (fun s=>∃ k:Nat,k≤G.length∧s.2=(k:Int)∧s.1.length=n) (fun s=>s.length=n) (fun s hs=>by
  obtain ⟨s,i⟩:=s
  obtain ⟨k,hk,hi,hs⟩:=hs
  dsimp only at hi hs
  subst hi
  unfold Ip
  dsimp only
  by_cases hk2:k < G.length
  ·left
   obtain ⟨x,hx,hx2⟩:=hg _ (List.getElem_mem hk2)
   have hx3:x < s.length:=by omega
   rw [if_pos (by omega),Bf hk2,Ah,hx,Bf hx3,Ah,Ah,Bs (by omega)]
   exact ⟨_,rfl,⟨k+1,hk2,rfl,by rw [Bo];exact hs⟩,by dsimp only;omega⟩
  ·right
   rw [if_neg (by omega)]
   exact ⟨_,rfl,hs⟩) (List.replicate n (0:Int),0) ⟨0,by omega,rfl,List.length_replicate⟩
 exact this
theorem Aum {l:List Aa} {r:Ag} (hl:X.validL l=true) (hr:X.okRules r=true) {m:Bg} (h:Msh m) {g:List Int} (hg:g.length≤1000000) :
  ∃ G S,Jt (Pe l m g r) r=some G∧lfix (Ip G) (List.replicate (Pe l m g r).length (0:Int),0)=some S∧Nq l m g r=some (Dr ((Ko (Aa8 G S r) (Pe l m g r)).map (·.Id))):=by
 have hF:=Ad0 (m:=m) (g:=g) (r:=r) hl
 have hn:=hF.n
 obtain ⟨G,e1,e2,e3⟩:=Art hF hr (Amf hl)
 obtain ⟨S,e4,e5⟩:=Aul (n:=(Pe l m g r).length) (by omega) e3
 refine ⟨G,S,e1,e4,?_⟩
 unfold Nq
 rw [Awz hl hr h hg,Ah,e1,Ah,gd_t (by omega),jn_d,show Int.toNat ((((Pe l m g r).length:Nat):Int))=(Pe l m g r).length from rfl,e4,Ah]
 dsimp only
 rw [jn_d,Akm (Pe l m g r) (Aa8 G S r) (Ly (Pe l m g r) G S r) (fun j hj s hs=>?_) (fun s=>?_),Ah]
 ·dsimp only
  have hl2:=Zv (Aa8 G S r) (Pe l m g r)
  rw [X.ids_eq (by omega),Ah]
 ·unfold Ly
  dsimp only
  have hj2:j < G.length:=by omega
  obtain ⟨x,hx,hx2⟩:=e3 _ (List.getElem_mem hj2)
  have hx3:x < S.length:=by omega
  rw [if_pos (by omega),jn_d,Bf hj,Ah,Bf hj2,Ah,hx,Bf hx3,Ah,Bs (by omega)]
  have hv:Aa8 G S r j=decide (r.Few≤S[x]):=by
   unfold Aa8
   rw [Bf hj2]
   dsimp only
   rw [hx,Bf hx3]
  rw [hv]
  by_cases c:r.Few≤S[x]
  ·rw [if_pos c,gd_t (by omega),if_pos (decide_eq_true c)]
  ·rw [if_neg c,if_neg (by simpa using c)]
 ·unfold Ly
  dsimp only
  rw [if_neg (by omega)]
end Go.Proofs.YtbkobeeileemjaaGreat
/- Walks of the program, with their plain functions: LabelLifts, LabelKinds. -/
namespace Go.Proofs.YtbkobeeileemjaaGreat
open Go Go.RowKit

instance:UndI Tryz.prog 70 (.int .i16):=⟨Tryz.underlying70⟩
end Go.Proofs.YtbkobeeileemjaaGreat
/- Classes of points; LabelKinds. -/
namespace Go.Proofs.YtbkobeeileemjaaGreat
open Go Go.RowKit Go.Sort
theorem Aun {α β:Type} (l:List α) (f:α→β) (B:List β × Int→Option (Sum (List β × Int) (List β)))
  (h1:∀ (j:Nat) (hj:j < l.length) (s:List β),s.length=j→B (s,(j:Int))=some (.inl (s++[f l[j]],((j+1:Nat):Int)))) (h2:∀ s,B (s,(l.length:Int))=some (.inr s)):lfix B ([],0)=some (l.map f):=by
 have key:∀ (m k:Nat),k≤l.length→l.length-k=m→lfix B ((l.take k).map f,(k:Int))=some (l.map f):=by
  intro m
  induction m with
  | zero =>
   intro k hk hm
   obtain rfl:k=l.length:=by omega
   rw [Dq,h2,List.take_length]
  | succ m ih =>
   intro k hk hm
   have hlt:k < l.length:=by omega
   rw [Dq,h1 k hlt _ (by rw [List.length_map,List.length_take];omega)]
   dsimp only
   have:(l.take k).map f++[f l[k]]=(l.take (k+1)).map f:=by rw [List.take_succ_eq_append_getElem hlt,List.map_append];rfl
   rw [this]
   exact ih (k+1) (by omega) (by omega)
 exact key l.length 0 (Nat.zero_le _) rfl
def Akn (m:Bg) (r:Ag) (S G R:List Int) (p:Aa):Int :=
 if p.Id∈S then 7 else if p.Id∈G then 2 else match Ae2 m.V m.T p with
 | none=>1
 | some s=>if r.High < s.Lo∨s.Hi < -r.Low then 7 else if p.Id∈R then 6 else if r.Brush≤s.Lo then 5 else 1
theorem Auo {m:Bg} (h:Msh m) {r:Ag} (hr:X.okRules r=true) {S G R:List Int} {ms mg mr:List (Int × Bool)} (hs:∀ x,(mget ms x).getD false=decide (x∈S)) (hg:∀ x,(mget mg x).getD false=decide (x∈G)) (hR:∀ x,(mget mr x).getD false=decide (x∈R))
  {p:Aa} (hp:X.okPt p=true):Fq ⟨r,m,ms,mg,mr⟩ p=some (Akn m r S G R p):=by
 have hpp:=X.okPt_rng hp
 have hrr:=X.okRules_rng hr
 unfold Fq Akn
 dsimp only
 rw [gd_t (by omega),Ah,hs]
 by_cases c1:p.Id∈S
 ·rw [if_pos (decide_eq_true c1),if_pos c1]
 ·rw [if_neg (by simpa using c1),if_neg c1,gd_t (by omega),Ah,hg]
  by_cases c2:p.Id∈G
  ·rw [if_pos (decide_eq_true c2),if_pos c2]
  ·rw [if_neg (by simpa using c2),if_neg c2,Apt h hp,jn_d,Ah]
   cases e:Ae2 m.V m.T p with
   | none=>rfl
   | some s =>
    dsimp only
    rw [if_pos rfl,jn_d,gd_t (by omega),Ah,hR,Bp (x:=-r.Low) (by omega) (by omega)]
    by_cases c3:r.High < s.Lo
    ·simp [c3]
    ·by_cases c4:s.Hi < -r.Low
     ·simp [c3,c4]
     ·by_cases c5:p.Id∈R
      ·simp [c3,c4,c5]
      ·by_cases c6:r.Brush≤s.Lo
       ·simp [c3,c4,c5,c6]
       ·simp [c3,c4,c5,c6]
noncomputable def Amh (l:List Aa) (r:Ag):List Int:=Dr ((X.sunkL l r).map (·.Id))
section
variable {l:List Aa} {r:Ag} {C:List Aa} (hc:Ctx l r C) {g:List Int} (hg:GOk C g)
include hc
omit hc in
theorem Apu {L:List Aa} (hL:∀ p∈L,X.okPt p=true) {i:Int} (h:i∈Dr (L.map (·.Id))):-9223372036854775808≤i∧i≤9223372036854775807:=by
 obtain ⟨p,hp,rfl⟩:=List.mem_map.1 ((X.perm_sortI _).mem_iff.1 h)
 have:=X.okPt_rng (hL p hp)
 omega
include hg
/-- The classes of all points. -/
theorem Ami (e:Im l r=some g):∃ G S,Jt (Pe l (Nd l g) g r) r=some G∧lfix (Ip G) (List.replicate (Pe l (Nd l g) g r).length (0:Int),0)=some S ∧
  Nq l (Nd l g) g r=some (Dr ((Ko (Aa8 G S r) (Pe l (Nd l g) g r)).map (·.Id))) ∧
  Gq l r=some (l.map (Akn (Nd l g) r (Amh l r) g (Dr ((Ko (Aa8 G S r) (Pe l (Nd l g) g r)).map (·.Id))))):=by
 obtain ⟨hs,_,_,_,hm⟩:=Ahk hc hg
 have hF:=X.Fit.of hc.val
 have hn:=hc.few
 have hgl:=GOk.len hg
 have hcl:=hc.len
 have hsl:(X.sunkL l r).length≤l.length:=List.length_filter_le _ _
 obtain ⟨G,S,e1,e2,e3⟩:=Aum hc.val hc.rul hm (g:=g) (by omega)
 refine ⟨G,S,e1,e2,e3,?_⟩
 have hfl:=Zv (Aa8 G S r) (Pe l (Nd l g) g r)
 have hhn:=(Ad0 (m:=Nd l g) (g:=g) (r:=r) hc.val).n
 generalize hR:Dr ((Ko (Aa8 G S r) (Pe l (Nd l g) g r)).map (·.Id))=R at *
 have hRl:R.length≤1000000:=by
  rw [← hR,(X.perm_sortI _).length_eq,List.length_map]
  omega
 obtain ⟨ms,a1,a2⟩:=An9 (ids:=Amh l r) (by unfold Amh;rw [(X.perm_sortI _).length_eq,List.length_map];omega) (fun i hi=>Apu (L:=X.sunkL l r) (fun p hp=>hF.ok p (List.mem_filter.1 hp).1) hi)
 obtain ⟨mg,b1,b2⟩:=An9 (ids:=g) (by omega) (fun i hi=>GOk.rng hc hg hi)
 obtain ⟨mr,c1,c2⟩:=An9 (ids:=R) hRl (fun i hi=>Apu (L:=Ko (Aa8 G S r) (Pe l (Nd l g) g r)) (fun p hp=>hF.ok p (Ars (Amg hp)).1) (by rw [hR];exact hi))
 unfold Gq
 rw [X.parted_eq hc.val hc.rul,Ah,e,Ah,hs,Ah,jn_d]
 dsimp only
 rw [if_pos rfl,X.ids_eq (by omega),Ah,show Dr ((X.sunkL l r).map (·.Id))=Amh l r from rfl,a1,Ah,b1,Ah,e3,Ah,c1,Ah,gd_t (by omega),jn_d]
 refine (congrArg (fun o=>bnd o _) (Aun l (Akn (Nd l g) r (Amh l r) g R) _ (fun j hj s hs=>?_) (fun s=>?_))).trans rfl
 ·unfold Na
  dsimp only
  rw [if_pos (by omega),Bf hj,Ah,Auo hm hc.rul a2 b2 c2 (hF.ok _ (List.getElem_mem hj)),Ah,gd_t (by omega),Bs (by omega)]
 ·unfold Na
  dsimp only
  rw [if_neg (by omega)]
end
section
variable {l:List Aa} {r:Ag} {C:List Aa} (hc:Ctx l r C) {g:List Int} (hg:Grnd l r C g) {R:List Int}
include hc hg
end
end Go.Proofs.YtbkobeeileemjaaGreat
