/- TopOneMesh: its loops. -/
import Derived.Test.YtgfiafnelibjgaaGreatU34
import Derived.Test.YtgfiafnelibjgaaGreatE6
import Derived.Test.YtgfiafnelibjgaaGreatFlow2
import Derived.Test.YtgfiafnelibjgaaGreatRows
import Derived.ProofKit
import Derived.OpenShut
import Derived.ShutString
import Derived.ChangeOld
import Derived.Below
import Derived.Carry
import Derived.ChangeArms
import Derived.Deep.Slices
namespace Go.Proofs.YtgfiafnelibjgaaGreat
open Go Go.RowKit
section
variable {v v':List Ab} {l:List Aa} {T:List Aj} {o:List Int}
theorem Afz (x:Int):0≤wu64 x:=by rw [Za];omega
theorem Aef {x n:Int} (h0:0≤x) (hn:0 < n) (hn2:n≤1000000):0≤Int.tmod x n∧Int.tmod x n < n∧w64 (Int.tmod x n)=Int.tmod x n:=by
 have h1:=Int.tmod_nonneg n h0
 have h2:=Int.tmod_lt_of_pos x hn
 exact ⟨h1,h2,Dl (by omega) (by omega)⟩
/-- An order of n things. -/
theorem Ahg (n:Nat) (hn:n≤1000000) (by_:List Int) (hb:by_.length≤1000000):∃ o,Im (n:Int) by_=some o∧o.Perm (inds n):=by
 have e3:lfix (Hp (n:Int)) ([],0)=some (inds n):=by
  refine Aib n (fun k=>(k:Int)) _ (fun j hj acc ha=>?_) (fun acc ha=>?_)
  ·unfold Hp
   dsimp only
   rw [if_pos (by omega),gd_t (by omega),Bj (by omega)]
  ·unfold Hp
   dsimp only
   rw [if_neg (by omega)]
 obtain ⟨t,t1,t2⟩:=Dw (B:=Js by_ (n:Int)) (fun s=>by_.length-s.2.toNat)
  (fun s=>s.1.Perm (inds n)∧∃ k:Nat,s.2=(k:Int)∧k≤by_.length) (fun t=>t.Perm (inds n)) (by
   rintro ⟨o,q⟩ ⟨hp,k,rfl,hk⟩
   unfold Js
   dsimp only at hp ⊢
   by_cases hlt:k < by_.length
   ·left
    rw [if_pos (by omega),jn_d,Bg hlt,Ai]
    have hlen:o.length=n:=by rw [hp.length_eq,Ov]
    by_cases c:0 < (n:Int)
    ·have wn:wu64 (n:Int)=n:=by rw [Za];omega
     rw [if_pos c,gd_t (by omega),wn,gd_t (by omega)]
     obtain ⟨a1,a2,_⟩:=Aef (x:=(k:Int)) (n:=(n:Int)) (by omega) c (by omega)
     obtain ⟨b1,b2,b3⟩:=Aef (x:=wu64 by_[k]) (n:=(n:Int)) (Afz _) c (by omega)
     rw [b3]
     obtain ⟨a,ha⟩:∃ a:Nat,Int.tmod (k:Int) (n:Int)=(a:Int):=⟨(Int.tmod (k:Int) (n:Int)).toNat,by omega⟩
     obtain ⟨b,hb'⟩:∃ b:Nat,Int.tmod (wu64 by_[k]) (n:Int)=(b:Int):=⟨(Int.tmod (wu64 by_[k]) (n:Int)).toNat,by omega⟩
     rw [ha,hb']
     have la:a < o.length:=by omega
     have lb:b < o.length:=by omega
     rw [Bg lb,Ai,Bg la,Ai,Ai,Rz,Bg (by rw [List.length_set];exact lb),Ai,Rz]
     exact ⟨_,by rw [Bj (by omega)],⟨(List.set_set_perm la lb).trans hp,k+1,rfl,by omega⟩,by dsimp only;omega⟩
    ·rw [if_neg c]
     exact ⟨_,by rw [Bj (by omega)],⟨hp,k+1,rfl,by omega⟩,by dsimp only;omega⟩
   ·right
    rw [if_neg (by omega)]
    exact ⟨_,rfl,hp⟩)
  (inds n,0) ⟨List.Perm.refl _,0,rfl,by omega⟩
 refine ⟨t,?_,t2⟩
 unfold Im
 rw [jn_d,e3,Ai]
 dsimp only
 rw [jn_d,t1,Ai]
/-- A list has a triangle, or it turned. -/
theorem Arz {t:Aj} (hT:T.length≤100000000) (h:rot3 t∈T):Lw T t=some true:=by
 haveI:DecidableEq Aj:=fun a b=>Classical.propDecidable _
 have e2:lfix (Kt T t) 0=some (.inr true):=by
  rw [Qo (β:=Unit) (γ:=Bool) T (fun x=>!decide (x=t∨x=⟨t.a1,t.a2,t.a0⟩∨x=⟨t.a2,t.a0,t.a1⟩)) _ () true (fun j hj=>?_) ?_,if_neg]
  ·intro g
   rw [List.all_eq_true] at g
   have:=g _ h
   simp only [Bool.not_eq_true',decide_eq_false_iff_not] at this
   exact this (Ad7 t)
  ·unfold Kt
   rw [if_neg (by omega)]
  ·unfold Kt
   rw [if_pos (by omega),Bg hj,Ai,jn_d,Bj (by omega)]
   have q:∀ b0 b1 b2:Int,((((T[j].a0) == (b0)) && (((T[j].a1) == (b1)) && (((T[j].a2) == (b2)) && true))))=decide (T[j]=⟨b0,b1,b2⟩):=fun b0 b1 b2=>by
    rw [Bool.eq_iff_iff]
    obtain ⟨x0,x1,x2⟩:=T[j]
    simp
   rw [q,q,q]
   by_cases c0:T[j]=⟨t.a0,t.a1,t.a2⟩
   ·rw [decide_eq_true c0,if_pos rfl]
    dsimp only
    rw [if_pos rfl,if_neg]
    simp only [Bool.not_eq_true',decide_eq_false_iff_not]
    exact fun g=>g (.inl c0)
   ·rw [decide_eq_false c0,if_neg (by simp)]
    by_cases c1:T[j]=⟨t.a1,t.a2,t.a0⟩
    ·rw [decide_eq_true c1,if_pos rfl]
     dsimp only
     rw [if_pos rfl,if_neg]
     simp only [Bool.not_eq_true',decide_eq_false_iff_not]
     exact fun g=>g (.inr (.inl c1))
    ·rw [decide_eq_false c1,if_neg (by simp)]
     by_cases c2:T[j]=⟨t.a2,t.a0,t.a1⟩
     ·rw [decide_eq_true c2]
      dsimp only
      rw [if_pos rfl,if_neg]
      simp only [Bool.not_eq_true',decide_eq_false_iff_not]
      exact fun g=>g (.inr (.inr c2))
     ·rw [decide_eq_false c2]
      dsimp only
      rw [if_neg (by simp),if_pos]
      simp only [Bool.not_eq_true',decide_eq_false_iff_not]
      rintro (g | g | g)
      ·exact c0 g
      ·exact c1 g
      ·exact c2 g
 unfold Lw
 rw [jn_d,e2,Ai]
/-- The vertices in order, and where each of them lies. -/
theorem Ar0 (p:By) (hn:p.V.length≤1000000) (h:Ord p.V o):∃ q,lfix (Gd o p) ([],List.replicate o.length 0,0)=some (o.map (Md p.V),q)∧q.length=o.length∧∀ (k:Nat) (hk:k < o.length),Nc q o[k]=k:=by
 have hlen:=h.len
 obtain ⟨t,t1,t2⟩:=Dw (B:=Gd o p) (fun s=>o.length-s.2.2.toNat)
  (fun s=>∃ k:Nat,s.2.2=(k:Int)∧k≤o.length∧s.1=(o.take k).map (Md p.V)∧s.2.1.length=o.length∧∀ (j:Nat) (hj:j < o.length),j < k→Nc s.2.1 o[j]=j)
  (fun t=>t.1=o.map (Md p.V)∧t.2.length=o.length∧∀ (j:Nat) (hj:j < o.length),Nc t.2 o[j]=j) (by
   rintro ⟨vs,q,i⟩ ⟨k,rfl,hk,rfl,hq,hj⟩
   unfold Gd
   dsimp only at hq hj ⊢
   by_cases hlt:k < o.length
   ·left
    have hin:=h.mem.1 (List.getElem_mem hlt)
    have hin':inN q.length o[k]:=by rw [hq,hlen];exact hin
    rw [if_pos (by omega),Bg hlt,Ai,Adg hin,Ai,gd_t (by simp;omega),Pv hin',Ai]
    refine ⟨_,by rw [Bj (by omega)],⟨k+1,rfl,by omega,?_,by rw [Br];exact hq,fun j hj' hjk=>?_⟩,by dsimp only;omega⟩
    ·dsimp only
     rw [Bt hlt,List.map_append];rfl
    ·dsimp only
     have hjn:=h.mem.1 (List.getElem_mem hj')
     obtain ⟨a,ha⟩:∃ a:Nat,o[k]=(a:Int):=⟨o[k].toNat,by unfold inN at hin;omega⟩
     obtain ⟨b,hb⟩:∃ b:Nat,o[j]=(b:Int):=⟨o[j].toNat,by unfold inN at hjn;omega⟩
     have lb:b < q.length:=by unfold inN at hjn;omega
     by_cases e:j=k
     ·subst e
      rw [ha,Rz,Od (by rw [List.length_set];unfold inN at hin;omega)]
      simp
     ·have g:=hj j hj' (by omega)
      have ne:a≠b:=fun g'=>e ((List.getElem_inj h.nd).1 (show o[j]=o[k] by rw [ha,hb,g']))
      rw [hb,Od lb] at g
      rw [ha,hb,Rz,Od (by rw [List.length_set];exact lb),List.getElem_set_ne ne]
      exact g
   ·obtain rfl:k=o.length:=by omega
    right
    rw [if_neg (by omega)]
    refine ⟨_,rfl,?_,hq,fun j hj'=>hj j hj' hj'⟩
    dsimp only
    rw [List.take_length])
  ([],List.replicate o.length 0,0) ⟨0,rfl,by omega,rfl,by simp,fun j _ hj=>absurd hj (by omega)⟩
 obtain ⟨x,q⟩:=t
 obtain ⟨rfl,h2,h3⟩:=t2
 exact ⟨q,t1,h2,h3⟩
theorem Apo (h:Ord v o) {q:List Int} (hq:q.length=o.length) (hk:∀ (k:Nat) (hk:k < o.length),Nc q o[k]=k):Inv v (o.map (Md v)) (Nc o) (Nc q):=by
 have key:∀ i,inN v.length i→inN o.length (Nc q i)∧Nc o (Nc q i)=i:=fun i hi=>by
  obtain ⟨k,hk',e⟩:=List.getElem_of_mem (h.mem.2 hi)
  have:=hk k hk'
  rw [e] at this
  rw [this,Od hk']
  exact ⟨by unfold inN;omega,e⟩
 exact ⟨fun i hi=>by rw [List.length_map];exact (key i hi).1,fun i hi=>(key i hi).2⟩
/-- The lines. -/
theorem App (p:By) (hl:p.Lines.length≤1000000) (hok:∀ s∈p.Lines,okL p.V s) {q:List Int} (hq:q.length=p.V.length) (vs:List Ab):lfix (Fq p (vs,q)) ([],w64 ((p.Lines.length:Int)-1))=some (Tp (Nc q) p.Lines):=by
 rw [Dl (by omega) (by omega)]
 obtain ⟨t,t1,t2⟩:=Dw (B:=Fq p (vs,q)) (fun s=>(s.2+1).toNat)
  (fun s=>∃ k:Nat,k≤p.Lines.length∧s.2=(p.Lines.length:Int)-1-k∧s.1=(p.Lines.reverse.take k).map fun x=>⟨Nc q x.a1,Nc q x.a0⟩)
  (fun t=>t=Tp (Nc q) p.Lines) (by
   rintro ⟨out,i⟩ ⟨k,hk,h1,rfl⟩
   dsimp only at h1
   unfold Fq
   dsimp only
   by_cases hlt:k < p.Lines.length
   ·left
    have hrev:k < p.Lines.reverse.length:=by rw [List.length_reverse];exact hlt
    have e:p.Lines.reverse[k]=p.Lines[p.Lines.length-1-k]:=List.getElem_reverse hrev
    have hi:i=((p.Lines.length-1-k:Nat):Int):=by omega
    have hm:=hok _ (List.getElem_mem (l:=p.Lines) (n:=p.Lines.length-1-k) (by omega))
    obtain ⟨g0,g1,_⟩:=hm
    rw [← hq] at g0 g1
    rw [if_pos (by omega),hi,Bg (by omega),Ai,Pv g1,Ai,Ai,Pv g0,Ai,gd_t (by simp;omega),Dl (by omega) (by omega)]
    refine ⟨_,rfl,⟨k+1,by omega,by dsimp only;omega,?_⟩,by dsimp only;omega⟩
    dsimp only
    rw [Bt hrev,List.map_append,e];rfl
   ·obtain rfl:k=p.Lines.length:=by omega
    right
    rw [if_neg (by omega)]
    refine ⟨_,rfl,?_⟩
    unfold Tp
    rw [List.take_of_length_le (by simp)])
  ([],(p.Lines.length:Int)-1) ⟨0,by omega,by dsimp only;omega,rfl⟩
 rw [t1,t2]
/-- All triangles are there. -/
theorem Apq {r r':Ax × Int} (hT:r.1.T.length≤1000000000) (hT':r'.1.T.length≤100000000) (h:∀ x∈r.1.T,inN o.length x.a0∧inN o.length x.a1∧inN o.length x.a2) (h2:∀ x∈r.1.T,rot3 (map3 (Nc o) x)∈r'.1.T):lfix (Fs r o r') 0=some (.inl ()):=by
 rw [Qo (β:=Unit) (γ:=Bool) r.1.T (fun _=>true) _ () false (fun j hj=>?_) ?_]
 ·simp
 ·unfold Fs
  rw [if_neg (by omega)]
 ·unfold Fs
  have hm:=List.getElem_mem hj
  obtain ⟨g0,g1,g2⟩:=h _ hm
  have e:=Arz hT' (h2 _ hm)
  unfold map3 at e
  rw [if_pos (by omega),Bg hj,Ai,Pv g0,Ai,Pv g1,Ai,Pv g2,Ai,e,Ai,if_pos rfl,if_pos rfl,Bj (by omega)]
theorem Abx:Av cmp2 (([]:List Aa).map prL)=[]:=by simp [Av]
theorem Yu (h:Dx v=0):∃ T,Bw v []=some (⟨v,T,[]⟩,0)∧Qt v [] T:=by
 obtain ⟨T,e1,e2⟩:=Atf (l:=[]) h (by simp) Wv
 rw [Abx] at e1 e2
 exact ⟨T,e1,e2⟩
theorem Akj:Qt [] [] []:=by
 have h:Dx []=0:=Yp (by simp) (by simp) (by unfold Dj;exact List.Pairwise.nil)
 obtain ⟨T,e1,_,_,_,e7⟩:=Pk (l:=[]) h (by simp) Wv
 obtain ⟨T',f1,f2⟩:=Yu h
 rcases e7 with ⟨_,rfl⟩ | ⟨g,_⟩
 ·rw [Abx] at e1
  rw [e1] at f1
  injection f1 with f1
  injection f1 with f1 _
  injection f1 with _ f1 _
  subst f1
  exact f2
 ·exact absurd (fun i j k hi _ _=>by unfold inN at hi;simp at hi;omega) g
/-- One vertex after the other. -/
theorem Apr {s:List Ab × List Int} (h:Dx s.1=0):∃ T,lfix (Ft s) ([],[],[],0)=some (.inl (s.1,T,[]))∧Qt s.1 [] T:=by
 have hn:=(Dy h).1
 obtain ⟨t,t1,T,t2,t3⟩:=Dw (B:=Ft s) (fun q=>s.1.length-q.2.2.2.toNat)
  (fun q=>∃ k:Nat,k≤s.1.length∧∃ T,q=(s.1.take k,T,[],(k:Int))∧Qt (s.1.take k) [] T)
  (fun t=>∃ T,t = .inl (s.1,T,[])∧Qt s.1 [] T) (by
   rintro q ⟨k,hk,T,rfl,hM⟩
   unfold Ft
   dsimp only
   by_cases hlt:k < s.1.length
   ·left
    have hv:Dx (s.1.take (k+1))=0:=Abp h (List.take_sublist _ _)
    obtain ⟨T',e1,e2⟩:=Yu hv
    have hx:∀ x:Ab,(⟨x.X,x.Y,⟨x.Z.Lo,x.Z.Hi⟩⟩:Ab)=x:=fun _=>rfl
    rw [if_pos (by omega),Bg hlt,Ai,hx,hM.insert s.1[k],← Bt hlt,e1,Ai]
    dsimp only
    rw [if_pos rfl,Bj (by omega)]
    exact ⟨_,rfl,⟨k+1,by omega,T',rfl,e2⟩,by dsimp only;omega⟩
   ·obtain rfl:k=s.1.length:=by omega
    right
    rw [if_neg (by omega)]
    rw [List.take_length] at hM ⊢
    exact ⟨_,rfl,T,rfl,hM⟩)
  ([],[],[],0) ⟨0,by omega,[],rfl,Akj⟩
 subst t2
 exact ⟨T,t1,t3⟩
end
end Go.Proofs.YtgfiafnelibjgaaGreat
/- TopOneMesh. -/
namespace Go.Proofs.YtgfiafnelibjgaaGreat
open Go Go.RowKit
theorem Ss:Ff=some true:=by
 unfold Ff
 refine Eq.trans (congrArg (fun z=>bnd z _) Aht) ?_
 show bnd (some _) _=_
 rw [Ai,jn_d]
 rfl
theorem Ac8 (p:By) (by_:List Int) (i:Int):Hq p by_ i=some true:=by
 unfold Hq Kr
 have yes:∀ x:Bool,x=true→(if x=true then bnd Ff (fun r18=>some r18) else none)=some true:=fun x hx=>by rw [if_pos hx,Ss,Ai]
 rw [jn_d,jn_d]
 by_cases c:14 < ((p.V.length:Nat):Int)
 ·rw [if_pos c,Ai,if_pos rfl]
  try dsimp only
  rw [if_pos rfl,Ss,Ai]
 rw [if_neg c,Ai]
 by_cases c2:6 < ((p.Lines.length:Nat):Int)
 ·rw [decide_eq_true c2,if_pos rfl]
  try dsimp only
  rw [if_pos rfl,Ss,Ai]
 rw [decide_eq_false c2,if_neg (by simp)]
 by_cases c3:30 < ((by_.length:Nat):Int)
 ·rw [if_pos c3]
  try dsimp only
  rw [if_pos rfl,Ss,Ai]
 have hl:p.Lines.length≤1000000:=by omega
 rw [if_neg c3,Aeb hl,Ai]
 try dsimp only
 by_cases w:(if Dx p.V=0 then Iz p.V p.Lines else Dx p.V)=0
 case neg=>rw [decide_eq_false w,if_pos (by simp),Ss,Ai]
 rw [decide_eq_true w,if_neg (by simp)]
 obtain ⟨h,h1⟩:Dx p.V=0∧Iz p.V p.Lines=0:=by
  by_cases g:Dx p.V=0
  ·rw [if_pos g] at w;exact ⟨g,w⟩
  ·rw [if_neg g] at w;exact absurd w g
 obtain ⟨o,o1,o2⟩:=Ahg p.V.length (by omega) by_ (by omega)
 have hO:Ord p.V o:=⟨o2⟩
 have hlen:=hO.len
 obtain ⟨q,q1,q2,q3⟩:=Ar0 p (by omega) hO
 have h':Dx (o.map (Md p.V))=0:=Afs h hO.permV
 have hI:=Apo hO q2 q3
 have hok:=(Fn.1 h1).1.1
 have hn:=(Dy h').1
 obtain ⟨T,T',e1,e2,e3,e4,e5,e6⟩:=Ahd h h' hO.re hI hl h1
 rw [o1,Ai,gd_t (by omega),jn_d,Int.toNat_natCast,q1,Ai]
 try dsimp only
 rw [jn_d,App p hl hok (by omega),Ai]
 try dsimp only
 rw [e1,Ai,e2,Ai,jn_d]
 rw [if_pos rfl,if_pos rfl,decide_eq_true (by dsimp only;omega)]
 try dsimp only
 rw [if_neg (by simp),jn_d,Apq (by dsimp only;omega) (by dsimp only;omega) (by dsimp only;rw [List.length_map] at e6;exact e6) (by dsimp only;exact e5),Ai]
 try dsimp only
 obtain ⟨G,g1,g2⟩:=Apr (s:=(o.map (Md p.V),q)) h'
 dsimp only at g1 g2
 rw [jn_d,g1,Ai]
 try dsimp only
 rw [g2.bld,Ai,jn_d]
 try dsimp only
 rw [if_pos rfl,g2.me,Ai]
 try dsimp only
 rw [if_neg (by simp)]
 by_cases z:(((o.map (Md p.V)).length:Nat):Int)=0
 ·rw [if_pos z,Ss,Ai]
 rw [if_neg z]
 have hpos:0 < (((o.map (Md p.V)).length:Nat):Int):=by omega
 have wn:wu64 (((o.map (Md p.V)).length:Nat):Int)=(((o.map (Md p.V)).length:Nat):Int):=by rw [Za];omega
 obtain ⟨k1,k2,k3⟩:=Aef (x:=wu64 i) (Afz _) hpos (by omega)
 rw [wn,gd_t (by omega),k3]
 generalize Int.tmod (wu64 i) (((o.map (Md p.V)).length:Nat):Int)=k at k1 k2 k3 ⊢
 generalize o.map (Md p.V)=V at *
 have hd:(([]:List Ab)++subl V 0 k)++subl V (k+1) ((V.length:Nat):Int)=delI V k:=by
  unfold subl delI
  rw [List.nil_append,Int.toNat_natCast,List.take_length,Int.toNat_zero,List.drop_zero,show (k+1).toNat=k.toNat+1 by omega]
 have hlen:(delI V k).length≤V.length:=by rw [Ag9 k1 (by omega)];omega
 have hl1:(subl V 0 k).length≤V.length:=by rw [Aq9,List.length_take];omega
 have hsub:(delI V k).Sublist V:=by
  unfold delI
  have e:V=V.take k.toNat++V.drop k.toNat:=(List.take_append_drop _ _).symm
  conv=>rhs;rw [e]
  refine List.Sublist.append (List.Sublist.refl _) ?_
  exact List.drop_sublist_drop_left _ (by omega)
 obtain ⟨D,d1,d2⟩:=Yu (Abp h' hsub)
 obtain ⟨t,t1,t2⟩:=g2.remove k k1 k2
 rcases t1 with ⟨_,rfl⟩ | ⟨⟨s,hs,_⟩,_⟩
 case inr=>cases hs
 dsimp only [List.map_nil] at t2
 rw [t2,show List.map (decS k) []=[] from rfl,d1,Ai,gd_t (by omega),show w64 (k+1)=k+1 from Dl (by omega) (by omega),gd_t (by omega),gd_t (by simp only [List.length_nil];omega),gd_t (by rw [← List.length_append,hd];omega),hd,d1,Ai,jn_d]
 try dsimp only
 rw [if_pos rfl,if_pos rfl,d2.me,Ai,if_pos rfl,Ss,Ai]
end Go.Proofs.YtgfiafnelibjgaaGreat
/- What the arguments of a law are, read off the way a law's claim is told of them: lists, structs. -/
namespace Go.Proofs.YtgfiafnelibjgaaGreat
open Go.ChangeShapes Go.WideShapes Go.ChangeAt Go.RowKit

theorem own2:ownKnob Tryz.prog.godebug=none:=by kernel_rfl
theorem Aby:laidOutB Tryz.prog=true:=by kernel_rfl
def rI64 (z:Int):Prop:=-9223372036854775808≤z∧z≤9223372036854775807
theorem Aeg {cs:List Value} {o:Nat} (h:cs.length=o):cs.drop o=[]:=by rw [← h,List.drop_length]
theorem Pn {cs X R:List Value} {o k o':Nat} (h1:(cs.drop o).take k=X) (h2:cs.drop o'=R) (ho:o'=o+k):cs.drop o=X++R:=by
 subst ho;rw [← h1,← h2,← List.drop_drop,List.take_append_drop]
section
variable {H:Type} {enc:TypeId × Value→H} {w:World} {base:Nat} {spare:Nat→Bool} {held:Bool} {P:Program}
theorem Ar1 {t:TypeId} (ht:P.underlying t=some (.int .i64)) {fuel:Nat} {cs:List Value} {x:DataW H × List MemPlace} (h:DataW.trod enc P w base spare held fuel t cs=some x):∃ z:Int,cs=[.int .i64 z]∧rI64 z:=by
 obtain ⟨n,hc,_,hw⟩:=DataW.trod_int ht h
 refine ⟨n,hc,?_⟩
 have h1:IntKind.i64.min = -9223372036854775808:=rfl
 have h2:IntKind.i64.max=9223372036854775807:=rfl
 simp only [Lit.wf,Bool.and_eq_true,decide_eq_true_eq] at hw
 unfold rI64;omega
theorem Abz {α:Type} {en:α→List Value} {okα:α→Prop} {t e:TypeId} {sz:Nat} (ht:P.underlying t=some (.slice e)) (hsz:P.cellsOf e=sz) (hp:0 < sz)
  (hel:∀ {fuel:Nat} {cs:List Value} {x:DataW H × List MemPlace},DataW.trod enc P w base spare held fuel e cs=some x→∃ v,cs=en v∧okα v)
  {fuel:Nat} {cs:List Value} {x:DataW H × List MemPlace} (h:DataW.trod enc P w base spare held fuel t cs=some x) :
  ∃ (v:List α) (A:Option Addr) (c:Nat),cs=[.slice A v.length c]∧Has [.old w] A v.length c sz en v∧∀ z∈v,okα z:=by
 rcases Go.Deep.open_slice ht h with ⟨rfl,_⟩ | ⟨a,len,cap,m,n,D,Pl,rfl,hb,hl,hm,hmm,_,hx⟩
 ·exact ⟨[],none,0,rfl,Has.nil,fun z hz=>by simp at hz⟩
 ·have hle:len≤m:=by rw [hmm];split <;> omega
  have key:∀ k,k≤len→∃ v:List α,v.length=k∧(∀ z∈v,okα z)∧∀ i (hi:i < v.length),w.cells? base (a.add (i*sz)) sz=some (en v[i]):=by
   intro k
   induction k with
   | zero=>intro _;exact ⟨[],rfl,fun z hz=>by simp at hz,fun i hi=>by simp at hi⟩
   | succ k ih =>
    intro hk
    obtain ⟨v,h1,h2,h3⟩:=ih (by omega)
    obtain ⟨cs',h4,h5⟩:=hx k (by omega)
    obtain ⟨z,rfl,hz⟩:=hel h5
    rw [hsz] at h4
    refine ⟨v++[z],by simp [h1],fun y hy=>?_,fun i hi=>?_⟩
    ·rcases List.mem_append.1 hy with hy | hy
     ·exact h2 y hy
     ·simp at hy;subst hy;exact hz
    ·simp at hi
     rcases Nat.lt_or_ge i v.length with hlt | hge
     ·rw [List.getElem_append_left hlt];exact h3 i hlt
     ·have:i=k:=by omega
      subst this
      rw [List.getElem_append_right hge]
      simp [h1];exact h4
  obtain ⟨v,h1,h2,h3⟩:=key len (Nat.le_refl _)
  subst h1
  have hesz:∀ z∈v,(en z).length=sz:=by
   intro z hz
   obtain ⟨i,hi,rfl⟩:=List.getElem_of_mem hz
   exact (World.cells?_some (h3 i hi)).2.1
  have hsl:Sl w (some a) v.length cap sz en v:=by
   refine ⟨rfl,hl,hm,hesz,fun hn=>?_⟩
   have hsp:a.spot=none:=by
    have h4:=(World.cells?_some (h3 0 hn)).2.2 0 hp
    have h5:(en v[0])[0]? = some ((en v[0])[0]'(by rw [hesz _ (List.getElem_mem hn)];exact hp)):=List.getElem?_eq_getElem _
    rw [h5] at h4
    simp only [Nat.zero_mul,Addr.add,if_true] at h4
    unfold World.cell? at h4
    split at h4
    ·split at h4
     ·cases h4
     ·rename_i hs;simpa using hs
    ·cases h4
   obtain ⟨b,o,sp⟩:=a
   have hsp:sp=none:=hsp
   subst hsp
   refine ⟨b,o,rfl,fun i hi j u hu=>?_⟩
   have hj:j < sz:=by rw [← hesz _ (List.getElem_mem hi)];exact (List.getElem?_eq_some_iff.1 hu).1
   have h4:=(World.cells?_some (h3 i hi)).2.2 j hj
   rw [hu,Addr.add_lit,Addr.add_lit] at h4
   exact h4
  exact ⟨v,some a,cap,rfl,hsl.has,h2⟩
end
theorem Atl (w:World):∀ e∈[Ent.old w],Ent.ok w e:=fun e he=>by simp at he;subst he;exact ⟨Below.refl _ _,Nat.le_refl _⟩
end Go.Proofs.YtgfiafnelibjgaaGreat
