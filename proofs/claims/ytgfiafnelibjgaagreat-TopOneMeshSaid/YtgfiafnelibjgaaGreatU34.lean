/- Build, Check, Insert and Remove of the program alone. -/
import Derived.Test.YtgfiafnelibjgaaGreatU31a
namespace Go.Proofs.YtgfiafnelibjgaaGreat
open Go Go.RowKit
section
variable {v:List Ab} {l L:List Aa} {T:List Aj}
/-- Build of the lines in order is Build of the lines. -/
theorem Afr (h:Dx v=0) (hl:l.length≤1000000) (h1:Iz v l=0):Bw v (Av cmp2 (l.map prL))=Bw v l:=by
 obtain ⟨hn,_,hv⟩:=Dy h
 obtain ⟨g1,g2,g3⟩:=Up hv hn h1
 have hE:=Fn.1 h1
 have hLs:=Pb hv hE.1 hE.2
 have sm:∀ s∈l.map prL,Ix s:=fun s hs=>by
  obtain ⟨⟨k1,k2,_⟩,_⟩:=hLs.ok s (Dh.2 hs)
  exact Vj hn k1 k2
 have sm2:∀ s∈(Av cmp2 (l.map prL)).map prL,Ix s:=fun s hs=>by
  rw [Ajg (fun s hs=>(hLs.ok s hs).2)] at hs
  exact sm s (Dh.1 hs)
 unfold Bw
 rw [Rs hv hn hl,Rs hv hn (by omega),h1,g1,Uy hl sm,Uy (by omega) sm2,g2]
theorem Pk (h:Dx v=0) (hl:l.length≤1000000) (h1:Iz v l=0) :
  ∃ T,Bw v l=some (⟨v,T,Av cmp2 (l.map prL)⟩,0)∧T.length≤1048576∧Ld ⟨v,T,Av cmp2 (l.map prL)⟩=some 0∧Bw v (Av cmp2 (l.map prL))=some (⟨v,T,Av cmp2 (l.map prL)⟩,0)∧((Wg v∧T=[])∨(¬ Wg v∧∃ m,Mesh v (Av cmp2 (l.map prL)) m∧Tt v m T)):=by
 obtain ⟨hn,_,hv⟩:=Dy h
 obtain ⟨g1,g2,g3⟩:=Up hv hn h1
 have hE:=Fn.1 h1
 obtain ⟨T,e1,e4⟩:=Aau h hl hE.1 hE.2
 have e5:(Wg v∧T=[])∨(¬ Wg v∧∃ m,Mesh v (Av cmp2 (l.map prL)) m∧Tt v m T):=by
  rcases e4 with g | ⟨g,m,hM,rfl⟩
  ·exact .inl g
  ·exact .inr ⟨g,m,hM,Ao2 (v:=v) hM.map⟩
 have hT:T.length≤1048576:=by
  rcases e5 with ⟨_,rfl⟩ | ⟨_,m,hM,hT⟩
  ·simp
  ·exact hT.len hn hM
 have f1:=(Afr h hl h1).trans e1
 refine ⟨T,e1,hT,?_,f1,e5⟩
 unfold Ld
 dsimp only
 rw [f1,Ai,jn_d]
 dsimp only
 rw [if_pos rfl,Ak6 (by omega),Ai,if_pos rfl,Ak7 (by omega),Ai]
 rfl
/-- A mesh that Build has built. -/
structure Qt (v:List Ab) (L:List Aa) (T:List Aj):Prop where
 ve:Dx v=0
 le:Iz v L=0
 len:L.length≤1000000
 ord:Av cmp2 (L.map prL)=L
 tl:T.length≤1048576
 chk:Ld ⟨v,T,L⟩=some 0
 bld:Bw v L=some (⟨v,T,L⟩,0)
theorem Atf (h:Dx v=0) (hl:l.length≤1000000) (h1:Iz v l=0):∃ T,Bw v l=some (⟨v,T,Av cmp2 (l.map prL)⟩,0)∧Qt v (Av cmp2 (l.map prL)) T:=by
 obtain ⟨hn,_,hv⟩:=Dy h
 obtain ⟨g1,g2,g3⟩:=Up hv hn h1
 obtain ⟨T,e1,e3,e4,e5,_⟩:=Pk h hl h1
 exact ⟨T,e1,h,g1,by omega,g2,e3,e4,e5⟩
theorem Qt.me (h:Qt v L T):Dk ⟨v,T,L⟩ ⟨v,T,L⟩=some true:=by
 have:=(Dy h.ve).1
 exact Agh (by dsimp only;omega) (by have:=h.tl;dsimp only;omega) (by have:=h.len;dsimp only;omega)
theorem Qt.small (h:Qt v L T):smL L:=fun s hs=>by
 have hn:=(Dy h.ve).1
 have hL:=Fn.1 h.le
 obtain ⟨⟨k1,k2,_⟩,_⟩:=(Pb (Dy h.ve).2.2 hL.1 hL.2).ok s (by rw [h.ord];exact hs)
 unfold inN at k1 k2
 exact ⟨⟨by omega,by omega⟩,by omega,by omega⟩
theorem Qt.insert (h:Qt v L T) (x:Ab):Mw ⟨v,T,L⟩ x=Bw (v++[x]) L:=by
 have hn:=(Dy h.ve).1
 unfold Mw
 dsimp only
 rw [h.chk,Ai,if_pos rfl,jn_d]
 unfold Fj
 rw [gd_t (by omega),Ai,gd_t (by omega)]
 cases Bw (v++[x]) L with
 | none=>rfl
 | some r=>rfl
theorem Qt.remove (h:Qt v L T) (i:Int) (hi:0≤i) (hi2:i < (v.length:Int)):∃ t,RmL i L t∧Mx ⟨v,T,L⟩ i=(match t with | .inl z=>Bw (delI v i) z | .inr z=>some z):=by
 have hn:=(Dy h.ve).1
 obtain ⟨t,t1,t2⟩:=Aqb (p:=⟨v,T,L⟩) hi h.len h.small
 refine ⟨t,t2,?_⟩
 unfold Mx
 dsimp only
 rw [h.chk,Ai,if_pos rfl,jn_d,if_neg (by omega),decide_eq_false (by omega)]
 dsimp only
 rw [if_neg (by simp),jn_d,t1,Ai]
 cases t with
 | inr z=>rfl
 | inl z =>
  dsimp only
  unfold Fj
  rw [gd_t (by omega),Ai,gd_t ⟨⟨hi,Dl (by omega) (by omega)⟩,by omega⟩]
  cases Bw (delI v i) z with
  | none=>rfl
  | some r=>rfl
/-- The first side of the hull. -/
theorem Akb (hv:Cg v) {f b k:Int} (hf:inN v.length f) (low:∀ k,inN v.length k→k=f∨befP (plV v f) (plV v k)) (hb:inN v.length b) (hbf:b≠f) (hk:inN v.length k) (hkf:k≠f) (hn:¬ behind v f b k) {j:Int} (hj:inN v.length j) (hjf:j≠f) (h:behind v f b j):behind v f k j:=by
 have up:∀ k,inN v.length k→k≠f→ph lexA 1 (plV v f) < ph lexA 1 (plV v k):=fun k hk hne=>(Ar2 (hv.ok f hf) (hv.ok k hk)).2 ((low k hk).resolve_left hne)
 have po:=up b hb hbf
 have pk:=up k hk hkf
 have pj:=up j hj hjf
 have t:(ph lexA 1 (plV v b)-ph lexA 1 (plV v f))*crs (plV v f) (plV v k) (plV v j)=(ph lexA 1 (plV v k)-ph lexA 1 (plV v f))*crs (plV v f) (plV v b) (plV v j)-(ph lexA 1 (plV v j)-ph lexA 1 (plV v f))*crs (plV v f) (plV v b) (plV v k):=by
  have:=Ate lexA 1 (plV v f) (plV v b) (plV v k) (plV v j)
  rw [Amp (plV v f) (plV v b) (plV v j),Int.mul_neg] at this
  omega
 unfold behind at hn
 have hn1:¬ 0 < crs (plV v f) (plV v b) (plV v k):=fun g=>hn (.inl g)
 by_cases c1:crs (plV v f) (plV v b) (plV v k) < 0
 ·left
  have m2:=Int.mul_pos (show 0 < ph lexA 1 (plV v j)-ph lexA 1 (plV v f) by omega) (show 0 < -crs (plV v f) (plV v b) (plV v k) by omega)
  rw [Int.mul_neg] at m2
  have m1:0≤(ph lexA 1 (plV v k)-ph lexA 1 (plV v f))*crs (plV v f) (plV v b) (plV v j):=Int.mul_nonneg (by omega) (by rcases h with g | g <;> omega)
  exact Abl (x:=ph lexA 1 (plV v b)-ph lexA 1 (plV v f)) (by omega) (by omega)
 ·have c2:crs (plV v f) (plV v b) (plV v k)=0:=by omega
  have c3:befP (plV v k) (plV v b):=Classical.byContradiction fun g=>hn (.inr ⟨c2,g⟩)
  rw [c2,Int.mul_zero,Int.sub_zero] at t
  rcases h with g | ⟨g,g'⟩
  ·left
   have m1:=Int.mul_pos (show 0 < ph lexA 1 (plV v k)-ph lexA 1 (plV v f) by omega) g
   exact Abl (x:=ph lexA 1 (plV v b)-ph lexA 1 (plV v f)) (by omega) (by omega)
  ·right
   rw [g,Int.mul_zero] at t
   refine ⟨?_,fun e=>?_⟩
   ·rcases Int.mul_eq_zero.1 t with t | t
    ·omega
    ·exact t
   ·unfold befP at *
    omega
theorem Ao8 (hv:Cg v) {f:Int} (hf:inN v.length f) (low:∀ k,inN v.length k→k=f∨befP (plV v f) (plV v k)) (h2:2≤v.length) :
  ∃ b,inN v.length b∧b≠f∧∀ k,inN v.length k→k≠f→behind v f b k:=by
 have self:∀ k,behind v f k k:=fun k=>.inr ⟨Bo _ _,Apu _⟩
 have key:∀ n:Nat,n≤v.length→(∀ j,inN v.length j→j < (n:Int)→j=f)∨∃ b,inN v.length b∧b≠f∧∀ j,inN v.length j→j < (n:Int)→j≠f→behind v f b j:=by
  intro n
  induction n with
  | zero=>exact fun _=>.inl fun j hj hl=>by unfold inN at hj;omega
  | succ n ih =>
   intro hn
   have hkn:inN v.length (n:Int):=by unfold inN;omega
   by_cases e1:(n:Int)=f
   ·rcases ih (by omega) with g | ⟨b,g1,g2,g3⟩
    ·exact .inl fun j hj hl=>by
      by_cases e:j=(n:Int)
      ·rw [e];exact e1
      ·exact g j hj (by omega)
    ·exact .inr ⟨b,g1,g2,fun j hj hl hne=>g3 j hj (by omega) hne⟩
   ·right
    rcases ih (by omega) with g | ⟨b,g1,g2,g3⟩
    ·refine ⟨(n:Int),hkn,e1,fun j hj hl hne=>?_⟩
     by_cases e:j=(n:Int)
     ·rw [e];exact self _
     ·exact absurd (g j hj (by omega)) hne
    ·by_cases c:behind v f b (n:Int)
     ·refine ⟨b,g1,g2,fun j hj hl hne=>?_⟩
      by_cases e:j=(n:Int)
      ·rw [e];exact c
      ·exact g3 j hj (by omega) hne
     ·refine ⟨(n:Int),hkn,e1,fun j hj hl hne=>?_⟩
      by_cases e:j=(n:Int)
      ·rw [e];exact self _
      ·exact Akb hv hf low g1 g2 hkn e1 c hj hne (g3 j hj (by omega) hne)
 rcases key v.length (Nat.le_refl _) with g | ⟨b,g1,g2,g3⟩
 ·exfalso
  have a0:=g 0 (by unfold inN;omega) (by omega)
  have a1:=g 1 (by unfold inN;omega) (by omega)
  omega
 ·exact ⟨b,g1,g2,fun k hk hne=>g3 k hk (by unfold inN at hk;omega) hne⟩
end
end Go.Proofs.YtgfiafnelibjgaaGreat
/- The triangles of a mesh do not depend on the order of its vertices and lines. -/
namespace Go.Proofs.YtgfiafnelibjgaaGreat
open Go Go.RowKit
section
variable {v v':List Ab} {L L':List Aa} {m m':Mp} {s:Int→Int}
/-- The same places in another order. -/
structure Re (v v':List Ab) (s:Int→Int):Prop where
 len:v'.length=v.length
 inn:∀ i,inN v'.length i→inN v.length (s i)
 pl:∀ i,inN v'.length i→plV v' i=plV v (s i)
 onto:∀ k,inN v.length k→∃ i,inN v'.length i∧s i=k
theorem Ahc (p:Ac):Cf p p:=⟨rfl,rfl⟩
theorem Re.inj (hv':Cg v') (R:Re v v' s) {i j:Int} (hi:inN v'.length i) (hj:inN v'.length j) (e:s i=s j):i=j :=
 hv'.dist i j hi hj (by rw [R.pl i hi,R.pl j hj,e];exact Ahc _)
theorem Re.symm (hv':Cg v') (R:Re v v' s):∃ t:Int→Int,Re v' v t∧(∀ i,inN v'.length i→t (s i)=i)∧∀ k,inN v.length k→s (t k)=k:=by
 have key:∀ k:Int,∃ i:Int,inN v.length k→inN v'.length i∧s i=k:=fun k=>by
  by_cases h:inN v.length k
  ·obtain ⟨i,h1⟩:=R.onto k h
   exact ⟨i,fun _=>h1⟩
  ·exact ⟨0,fun g=>absurd g h⟩
 refine ⟨fun k=>Classical.choose (key k),⟨R.len.symm,fun k hk=>(Classical.choose_spec (key k) hk).1,fun k hk=>?_,fun i hi=>⟨s i,R.inn i hi,?_⟩⟩,fun i hi=>?_,fun k hk=>(Classical.choose_spec (key k) hk).2⟩
 ·obtain ⟨h1,h2⟩:=Classical.choose_spec (key k) hk
  rw [R.pl _ h1,h2]
 ·obtain ⟨h1,h2⟩:=Classical.choose_spec (key (s i)) (R.inn i hi)
  exact R.inj hv' h1 hi h2
 ·obtain ⟨h1,h2⟩:=Classical.choose_spec (key (s i)) (R.inn i hi)
  exact R.inj hv' h1 hi h2
theorem Re.perm (hv':Cg v') (R:Re v v' s):((inds v'.length).map s).Perm (inds v.length):=by
 refine (List.perm_ext_iff_of_nodup ?_ Lg).2 fun k=>?_
 ·unfold List.Nodup
  rw [List.pairwise_map]
  refine List.Pairwise.imp_of_mem (fun {a b} ha hb hne e=>hne (R.inj hv' (Iq.1 ha) (Iq.1 hb) e)) Lg
 ·rw [List.mem_map,Iq]
  constructor
  ·rintro ⟨i,hi,rfl⟩
   exact R.inn i (Iq.1 hi)
  ·intro hk
   obtain ⟨i,hi,e⟩:=R.onto k hk
   exact ⟨i,Iq.2 hi,e⟩
theorem Re.aftE (hv':Cg v') (R:Re v v' s) {i:Int} (hi:inN v'.length i):aft v' i=aft v (s i):=by
 unfold aft
 rw [← (R.perm hv').countP_eq,List.countP_map]
 refine List.countP_congr fun j hj=>?_
 rw [R.pl i hi,R.pl j (Iq.1 hj)]
 rfl
theorem Re.hvE (hv':Cg v') (R:Re v v' s) {i:Int} (hi:inN v'.length i):hV v' i=hV v (s i):=by
 unfold hV
 rw [R.aftE hv' hi,R.pl i hi,R.len]
theorem Re.dh (hv':Cg v') (R:Re v v' s) {a b c d:Int} (ha:inN v'.length a) (hb:inN v'.length b) (hc:inN v'.length c) (hd:inN v'.length d):DH (plV v') (hV v') a b c d=DH (plV v) (hV v) (s a) (s b) (s c) (s d):=by
 unfold DH
 rw [R.hvE hv' ha,R.hvE hv' hb,R.hvE hv' hc,R.hvE hv' hd,R.pl a ha,R.pl b hb,R.pl c hc,R.pl d hd]
theorem Re.crsE (R:Re v v' s) {a b c:Int} (ha:inN v'.length a) (hb:inN v'.length b) (hc:inN v'.length c):crs (plV v' a) (plV v' b) (plV v' c)=crs (plV v (s a)) (plV v (s b)) (plV v (s c)):=by rw [R.pl a ha,R.pl b hb,R.pl c hc]
/-- The same lines. -/
def Abn (s:Int→Int) (y x:Aa):Prop:=(s y.a0=x.a0∧s y.a1=x.a1)∨(s y.a0=x.a1∧s y.a1=x.a0)
structure Rl (v':List Ab) (L L':List Aa) (s:Int→Int):Prop where
 ok:∀ y∈L',okL v' y
 fwd:∀ x∈L,∃ y∈L',Abn s y x
 bwd:∀ y∈L',∃ x∈L,Abn s y x
theorem Zx (R:Re v v' s) {i k:Int} {x y:Aa} (hi:inN v'.length i) (hk:inN v'.length k) (hy:okL v' y) (h:Abn s y x):Fh v (s i) (s k) x.a0 x.a1↔Fh v' i k y.a0 y.a1:=by
 have e:Fh v' i k y.a0 y.a1↔Fh v (s i) (s k) (s y.a0) (s y.a1):=by
  unfold Fh
  rw [R.pl i hi,R.pl k hk,R.pl _ hy.1,R.pl _ hy.2.1]
 rw [e]
 rcases h with ⟨e0,e1⟩ | ⟨e0,e1⟩
 ·rw [e0,e1]
 ·rw [e0,e1];exact ⟨Fh.rev,Fh.rev⟩
theorem Rl.seen (R:Re v v' s) (hl:Rl v' L L' s) {i k:Int} (hi:inN v'.length i) (hk:inN v'.length k):Seen v' L' i k↔Seen v L (s i) (s k):=by
 constructor
 ·intro h x hx g
  obtain ⟨y,hy,e⟩:=hl.fwd x hx
  exact h y hy ((Zx R hi hk (hl.ok y hy) e).1 g)
 ·intro h y hy g
  obtain ⟨x,hx,e⟩:=hl.bwd y hy
  exact h x hx ((Zx R hi hk (hl.ok y hy) e).2 g)
theorem Rl.top (hv':Cg v') (R:Re v v' s) (hl:Rl v' L L' s) {a b c:Int} (ha:inN v'.length a) (hb:inN v'.length b) (h:TopS v' (See2 v' L' a b) a b c):TopS v (See2 v L (s a) (s b)) (s a) (s b) (s c):=by
 obtain ⟨hc,h1,⟨h2,h3⟩,h4⟩:=h
 refine ⟨R.inn c hc,by rw [← R.crsE ha hb hc];exact h1,⟨(hl.seen R ha hc).1 h2,(hl.seen R hb hc).1 h3⟩,fun d hd g1 g2 g3=>?_⟩
 obtain ⟨d',hd',rfl⟩:=R.onto d hd
 rw [← R.dh hv' ha hb hc hd']
 exact h4 d' hd' (by rw [R.crsE ha hb hd'];exact g1) ⟨(hl.seen R ha hd').2 g2.1,(hl.seen R hb hd').2 g2.2⟩ (fun e=>g3 (by rw [e]))
/-- The triangles are the same. -/
theorem Ao9 (hv:Cg v) (hv':Cg v') (R:Re v v' s) (hl:Rl v' L L' s) (hn:v'.length≤1024) (h:Mesh v L m) (h':Mesh v' L' m') {i j k:Int} (hk:apM m' i j=some k):apM m (s i) (s j)=some (s k):=by
 have fit:∀ {a b c e:Int},apM m' a b=some c→apM m (s a) (s b)=some e→e=s c:=fun {a b c e} g1 g2=>by
  obtain ⟨va,vb,_,_⟩:=h'.tri.ccw _ _ _ g1
  exact (h.topS hv g2).unique (hl.top hv' R va vb (h'.topS hv' g1))
 refine (Alr (X:=fun a b c=>apM m' a b=some c∧apM m (s a) (s b)=some (s c)) hv' h' (fun a b c g=>g.1) (fun a b c g=>⟨h'.tri.rot _ _ _ g.1,h.tri.rot _ _ _ g.2⟩) (fun a b c g d hd hlt=>?_) ?_ hk).2
 ·obtain ⟨va,vb,_,_⟩:=h'.tri.ccw _ _ _ g.1
  obtain ⟨e,he⟩:∃ e,apM m' b a=some e:=Option.ne_none_iff_exists'.1 fun n=>by
   have:=h'.cov _ _ _ g.1 n d hd;omega
  obtain ⟨e2,he2⟩:∃ e,apM m (s b) (s a)=some e:=Option.ne_none_iff_exists'.1 fun n=>by
   have:=h.cov _ _ _ g.2 n (s d) (R.inn d hd)
   rw [← R.crsE va vb hd] at this;omega
  obtain rfl:=fit he he2
  exact ⟨e,he,he2⟩
 ·obtain ⟨x,y,z,g⟩:∃ x y z,apM m' x y=some z:=⟨_,_,_,hk⟩
  obtain ⟨vx,vy,vz,_⟩:=h'.tri.ccw _ _ _ g
  obtain ⟨n1,n2,n3⟩:=h'.tri.ne g
  have h2:2≤v'.length:=by unfold inN at vx vy;omega
  obtain ⟨f,hf,low⟩:=Ao1 hv' hn (by omega)
  obtain ⟨b,b2,b3,b4⟩:=Ao8 hv' hf low h2
  obtain ⟨e,he⟩:=Ad2 hv' h' hf low b2 b3 b4
  obtain ⟨e2,he2⟩:=Ad2 hv h (R.inn f hf) (fun k hk=>by
   obtain ⟨k',hk',rfl⟩:=R.onto k hk
   rw [← R.pl f hf,← R.pl k' hk']
   exact (low k' hk').imp (fun e=>by rw [e]) id) (R.inn b b2) (fun e=>b3 (R.inj hv' b2 hf e)) (fun k hk hne=>by
   obtain ⟨k',hk',rfl⟩:=R.onto k hk
   have:=b4 k' hk' (fun e=>hne (by rw [e]))
   unfold behind at this ⊢
   rw [R.pl f hf,R.pl b b2,R.pl k' hk'] at this
   exact this)
  obtain rfl:=fit he he2
  exact ⟨f,b,e,he,he2⟩
theorem Re.flat (R:Re v v' s) (h:Wg v):Wg v':=fun i j k hi hj hk=>by rw [R.crsE hi hj hk];exact h _ _ _ (R.inn i hi) (R.inn j hj) (R.inn k hk)
end
end Go.Proofs.YtgfiafnelibjgaaGreat
/- The lists of triangles of two meshes over the same places; vertices and lines in another order. -/
namespace Go.Proofs.YtgfiafnelibjgaaGreat
open Go Go.RowKit
section
variable {v v':List Ab} {L L' l:List Aa} {m m':Mp} {s:Int→Int} {T T':List Aj} {o:List Int}
/-- A triangle with its least corner first. -/
def rot3 (t:Aj):Aj:=if t.a0 < t.a1∧t.a0 < t.a2 then t else if t.a1 < t.a2∧t.a1 < t.a0 then ⟨t.a1,t.a2,t.a0⟩ else ⟨t.a2,t.a0,t.a1⟩
def map3 (s:Int→Int) (t:Aj):Aj:=⟨s t.a0,s t.a1,s t.a2⟩
theorem Ad7 (t:Aj):rot3 t=t∨rot3 t=⟨t.a1,t.a2,t.a0⟩∨rot3 t=⟨t.a2,t.a0,t.a1⟩:=by
 unfold rot3
 split
 ·exact .inl rfl
 ·split
  ·exact .inr (.inl rfl)
  ·exact .inr (.inr rfl)
theorem Akc (h:Tri (plV v) (inN v.length) (apM m)) {t:Aj} (hk:apM m t.a0 t.a1=some t.a2):Aaw m (rot3 t):=by
 obtain ⟨n1,n2,n3⟩:=h.ne hk
 unfold rot3
 by_cases c:t.a0 < t.a1∧t.a0 < t.a2
 ·rw [if_pos c];exact ⟨c.1,c.2,hk⟩
 ·rw [if_neg c]
  by_cases d:t.a1 < t.a2∧t.a1 < t.a0
  ·rw [if_pos d];exact ⟨d.1,d.2,h.rot _ _ _ hk⟩
  ·rw [if_neg d]
   exact ⟨by dsimp only;omega,by dsimp only;omega,h.rot2 hk⟩
theorem Alz (hv:Cg v) (hv':Cg v') (R:Re v v' s) (hl:Rl v' L L' s) (hn:v'.length≤1024) (h:Mesh v L m) (h':Mesh v' L' m') (hT:Tt v m T) (hT':Tt v' m' T') {t:Aj} (ht:t∈T'):rot3 (map3 s t)∈T:=by
 obtain ⟨_,_,hk⟩:=(hT'.mem t).1 ht
 exact (hT.mem _).2 (Akc h.tri (t:=map3 s t) (Ao9 hv hv' R hl hn h h' hk))
theorem Al0 (hv:Cg v) (hv':Cg v') (R:Re v v' s) (hl:Rl v' L L' s) (hn:v'.length≤1024) (h:Mesh v L m) (h':Mesh v' L' m') (hT:Tt v m T) (hT':Tt v' m' T'):T'.length≤T.length:=by
 have nd:(T'.map fun t=>rot3 (map3 s t)).Nodup:=by
  unfold List.Nodup
  rw [List.pairwise_map]
  refine List.Pairwise.imp_of_mem (fun {t u} ht hu hne e=>hne ?_) hT'.nd
  obtain ⟨t1,t2,t3⟩:=(hT'.mem t).1 ht
  obtain ⟨u1,u2,u3⟩:=(hT'.mem u).1 hu
  obtain ⟨p0,p1,p2,_⟩:=h'.tri.ccw _ _ _ t3
  obtain ⟨q0,q1,q2,_⟩:=h'.tri.ccw _ _ _ u3
  have inj:=fun {a b:Int} (ha:inN v'.length a) (hb:inN v'.length b) (e:s a=s b)=>R.inj hv' ha hb e
  obtain ⟨x0,x1,x2⟩:=t
  obtain ⟨y0,y1,y2⟩:=u
  dsimp only at *
  have fin:∀ a0 a1 a2 b0 b1 b2:Int,(⟨a0,a1,a2⟩:Aj)=⟨b0,b1,b2⟩→a0=b0∧a1=b1∧a2=b2:=fun a0 a1 a2 b0 b1 b2 e=>by
   injection e with e0 e1 e2;exact ⟨e0,e1,e2⟩
  rcases Ad7 (map3 s ⟨x0,x1,x2⟩) with e1 | e1 | e1 <;> rcases Ad7 (map3 s ⟨y0,y1,y2⟩) with e2 | e2 | e2 <;> rw [e1,e2] at e <;> (obtain ⟨g0,g1,g2⟩:=fin _ _ _ _ _ _ e)
  ·have:=inj p0 q0 g0;have:=inj p1 q1 g1;have:=inj p2 q2 g2;subst_vars;rfl
  ·have:=inj p0 q1 g0;have:=inj p1 q2 g1;have:=inj p2 q0 g2;omega
  ·have:=inj p0 q2 g0;have:=inj p1 q0 g1;have:=inj p2 q1 g2;omega
  ·have:=inj p1 q0 g0;have:=inj p2 q1 g1;have:=inj p0 q2 g2;omega
  ·have:=inj p1 q1 g0;have:=inj p2 q2 g1;have:=inj p0 q0 g2;subst_vars;rfl
  ·have:=inj p1 q2 g0;have:=inj p2 q0 g1;have:=inj p0 q1 g2;omega
  ·have:=inj p2 q0 g0;have:=inj p0 q1 g1;have:=inj p1 q2 g2;omega
  ·have:=inj p2 q1 g0;have:=inj p0 q2 g1;have:=inj p1 q0 g2;omega
  ·have:=inj p2 q2 g0;have:=inj p0 q0 g1;have:=inj p1 q1 g2;subst_vars;rfl
 have:=nd.length_le_of_subset (l₂:=T) fun x hx=>by
  obtain ⟨t,ht,rfl⟩:=List.mem_map.1 hx
  exact Alz hv hv' R hl hn h h' hT hT' ht
 rwa [List.length_map] at this
/-! ### another order -/
def Nc (o:List Int) (i:Int):Int:=(idx o i).getD 0
def Md (v:List Ab) (i:Int):Ab:=(idx v i).getD ⟨0,0,⟨0,0⟩⟩
theorem Pv {i:Int} (hi:inN o.length i):idx o i=some (Nc o i):=by
 obtain ⟨k,rfl⟩:∃ k:Nat,i=(k:Int):=⟨i.toNat,by unfold inN at hi;omega⟩
 unfold Nc
 rw [Bg (by unfold inN at hi;omega)];rfl
theorem Adg {i:Int} (hi:inN v.length i):idx v i=some (Md v i):=by
 obtain ⟨k,rfl⟩:∃ k:Nat,i=(k:Int):=⟨i.toNat,by unfold inN at hi;omega⟩
 unfold Md
 rw [Bg (by unfold inN at hi;omega)];rfl
theorem Od {k:Nat} (h:k < o.length):Nc o (k:Int)=o[k]:=by unfold Nc;rw [Bg h];rfl
theorem Akd {k:Nat} (h:k < v.length):Md v (k:Int)=v[k]:=by unfold Md;rw [Bg h];rfl
theorem Al1:(inds v.length).map (Md v)=v:=by
 apply List.ext_getElem
 ·rw [List.length_map,Ov]
 ·intro k h1 h2
  rw [List.getElem_map]
  unfold inds
  rw [List.getElem_map,List.getElem_range,Akd h2]
theorem Al2 {i:Int} (hi:inN v.length i):plV v i=pP (Md v i):=by
 unfold plV
 rw [Adg hi];rfl
/-- The vertices in the order o. -/
structure Ord (v:List Ab) (o:List Int):Prop where
 perm:o.Perm (inds v.length)
theorem Ord.len (h:Ord v o):o.length=v.length:=by rw [h.perm.length_eq,Ov]
theorem Ord.nd (h:Ord v o):o.Nodup:=(h.perm.nodup_iff).2 Lg
theorem Ord.mem (h:Ord v o) {i:Int}:i∈o↔inN v.length i:=by rw [h.perm.mem_iff,Iq]
theorem Ord.permV (h:Ord v o):(o.map (Md v)).Perm v:=by
 have:=h.perm.map (Md v)
 rwa [Al1] at this
theorem Ord.re (h:Ord v o):Re v (o.map (Md v)) (Nc o):=by
 refine ⟨by rw [List.length_map,h.len],fun i hi=>?_,fun i hi=>?_,fun k hk=>?_⟩
 ·rw [List.length_map] at hi
  obtain ⟨k,rfl⟩:∃ k:Nat,i=(k:Int):=⟨i.toNat,by unfold inN at hi;omega⟩
  have hk:k < o.length:=by unfold inN at hi;omega
  rw [Od hk]
  exact h.mem.1 (List.getElem_mem hk)
 ·rw [List.length_map] at hi
  obtain ⟨k,rfl⟩:∃ k:Nat,i=(k:Int):=⟨i.toNat,by unfold inN at hi;omega⟩
  have hk:k < o.length:=by unfold inN at hi;omega
  rw [Zc (by rw [List.length_map];exact hk),List.getElem_map,Od hk,Al2 (h.mem.1 (List.getElem_mem hk))]
 ·obtain ⟨j,hj,e⟩:=List.getElem_of_mem (h.mem.2 hk)
  exact ⟨(j:Int),by rw [List.length_map];unfold inN;omega,by rw [Od hj];exact e⟩
theorem Yp {v:List Ab} (h1:v.length≤1024) (h2:∀ x∈v,Jp x) (h3:Dj v):Dx v=0:=by
 unfold Dx
 rw [if_neg (by omega),if_neg (fun g=>g h2),if_neg (fun g=>g h3)]
theorem Abo {v:List Ab} (h:Dx v=0):v.length≤1024∧(∀ x∈v,Jp x)∧Dj v:=by
 unfold Dx at h
 split at h
 ·omega
 ·split at h
  ·omega
  ·split at h
   ·omega
   ·rename_i h1 h2 h3
    exact ⟨by omega,Classical.not_not.1 h2,Classical.not_not.1 h3⟩
theorem Afs (h:Dx v=0) (hp:v'.Perm v):Dx v'=0:=by
 obtain ⟨h1,h2,h3⟩:=Abo h
 refine Yp (by rw [hp.length_eq];exact h1) (fun x hx=>h2 x (hp.mem_iff.1 hx)) ?_
 unfold Dj at *
 exact (hp.pairwise_iff (fun {x y} g e=>g ⟨e.1.symm,e.2.symm⟩)).2 h3
theorem Abp (h:Dx v=0) (hp:v'.Sublist v):Dx v'=0:=by
 obtain ⟨h1,h2,h3⟩:=Abo h
 exact Yp (Nat.le_trans hp.length_le h1) (fun x hx=>h2 x (hp.subset hx)) (List.Pairwise.sublist hp h3)
/-! ### the lines in another order -/
theorem Al3 (x:Aa):prL x=x∨prL x=⟨x.a1,x.a0⟩:=by
 obtain ⟨a,b⟩:=x
 unfold prL pr2
 simp only [Gx]
 omega
theorem BtwF.swap {p q r:Ac} (h:BtwF p q r):BtwF q p r:=⟨⟨by have:=h.1.1;rw [Ay];omega,fun e=>h.1.2 e.symm⟩,h.2.2,h.2.1⟩
/-- The lines with other numbers and turned, from the last one on. -/
def Tp (t:Int→Int) (l:List Aa):List Aa:=l.reverse.map fun x=>⟨t x.a1,t x.a0⟩
structure Inv (v v':List Ab) (s t:Int→Int):Prop where
 inn:∀ i,inN v.length i→inN v'.length (t i)
 st:∀ i,inN v.length i→s (t i)=i
theorem Inv.inj {t:Int→Int} (I:Inv v v' s t) {i j:Int} (hi:inN v.length i) (hj:inN v.length j) (e:t i=t j):i=j:=by rw [← I.st i hi,← I.st j hj,e]
theorem Inv.pl {t:Int→Int} (R:Re v v' s) (I:Inv v v' s t) {i:Int} (hi:inN v.length i):plV v' (t i)=plV v i:=by rw [R.pl _ (I.inn i hi),I.st i hi]
theorem Abq {t:Int→Int} (R:Re v v' s) (I:Inv v v' s t) (h:Iz v l=0):Iz v' (Tp t l)=0:=by
 obtain ⟨⟨h1,h2⟩,h3,h4⟩:=Fn.1 h
 refine Fn.2 ⟨⟨fun y hy=>?_,?_⟩,fun y hy k hk=>?_,?_⟩
 ·obtain ⟨x,hx,rfl⟩:=List.mem_map.1 hy
  obtain ⟨g0,g1,g2⟩:=h1 x (List.mem_reverse.1 hx)
  exact ⟨I.inn _ g1,I.inn _ g0,fun e=>g2 (I.inj g1 g0 e).symm⟩
 ·unfold Tp
  rw [List.map_map]
  unfold List.Nodup at h2 ⊢
  rw [List.pairwise_map] at h2 ⊢
  rw [List.pairwise_reverse]
  refine List.Pairwise.imp_of_mem (fun {x y} hx hy hne e=>hne ?_) h2
  obtain ⟨x0,x1,_⟩:=h1 x hx
  obtain ⟨y0,y1,_⟩:=h1 y hy
  unfold prL at e ⊢
  rcases Zf e with ⟨e1,e2⟩ | ⟨e1,e2⟩
  ·rw [I.inj y1 x1 e1,I.inj y0 x0 e2]
  ·rw [Jg,I.inj y1 x0 e1,I.inj y0 x1 e2]
 ·obtain ⟨x,hx,rfl⟩:=List.mem_map.1 hy
  have hx:=List.mem_reverse.1 hx
  obtain ⟨g0,g1,_⟩:=h1 x hx
  intro g
  dsimp only at g
  rw [I.pl R g0,I.pl R g1,R.pl k hk] at g
  exact h3 x hx _ (R.inn k hk) g.swap
 ·unfold Tp
  rw [List.pairwise_map,List.pairwise_reverse]
  refine List.Pairwise.imp_of_mem (fun {x y} hx hy hne g=>hne ?_) h4
  obtain ⟨x0,x1,_⟩:=h1 x hx
  obtain ⟨y0,y1,_⟩:=h1 y hy
  have g':Fw v y.a1 y.a0 x.a1 x.a0:=by
   obtain ⟨⟨n1,n2,n3,n4⟩,g⟩:=g
   dsimp only at n1 n2 n3 n4 g
   rw [I.pl R x0,I.pl R x1,I.pl R y0,I.pl R y1] at g
   exact ⟨⟨fun e=>n1 (by rw [e]),fun e=>n2 (by rw [e]),fun e=>n3 (by rw [e]),fun e=>n4 (by rw [e])⟩,g⟩
  exact g'.swap.symm.swap
theorem Apa {t:Int→Int} (hv':Cg v') (R:Re v v' s) (I:Inv v v' s t) (h:Iz v l=0):Rl v' (Av cmp2 (l.map prL)) (Av cmp2 ((Tp t l).map prL)) s:=by
 have h1:=(Fn.1 h).1.1
 have hb:=Fn.1 (Abq R I h)
 have one:∀ x∈l,Abn s (prL ⟨t x.a1,t x.a0⟩) (prL x):=fun x hx=>by
  obtain ⟨g0,g1,_⟩:=h1 x hx
  have e0:=I.st _ g0
  have e1:=I.st _ g1
  unfold Abn
  rcases Al3 x with p | p <;> rcases Al3 ⟨t x.a1,t x.a0⟩ with q | q <;> rw [p,q] <;> dsimp only <;> rw [e0,e1] <;> simp
 refine ⟨fun y hy=>((Pb hv' hb.1 hb.2).ok y hy).1,fun x hx=>?_,fun y hy=>?_⟩
 ·obtain ⟨x0,hx0,rfl⟩:=List.mem_map.1 (Dh.1 hx)
  exact ⟨prL ⟨t x0.a1,t x0.a0⟩,Dh.2 (List.mem_map_of_mem (List.mem_map.2 ⟨x0,List.mem_reverse.2 hx0,rfl⟩)),one x0 hx0⟩
 ·obtain ⟨y0,hy0,rfl⟩:=List.mem_map.1 (Dh.1 hy)
  obtain ⟨x0,hx0,rfl⟩:=List.mem_map.1 hy0
  have hx0:=List.mem_reverse.1 hx0
  exact ⟨prL x0,Dh.2 (List.mem_map_of_mem hx0),one x0 hx0⟩
/-- Both meshes have as many triangles, and those of the one are those of the other. -/
theorem Ahd {t:Int→Int} (h:Dx v=0) (h':Dx v'=0) (R:Re v v' s) (I:Inv v v' s t) (hl:l.length≤1000000) (h1:Iz v l=0) :
  ∃ T T',Bw v l=some (⟨v,T,Av cmp2 (l.map prL)⟩,0)∧Bw v' (Tp t l)=some (⟨v',T',Av cmp2 ((Tp t l).map prL)⟩,0)∧T.length=T'.length∧T.length≤1048576∧(∀ x∈T',rot3 (map3 s x)∈T)∧∀ x∈T',inN v'.length x.a0∧inN v'.length x.a1∧inN v'.length x.a2:=by
 obtain ⟨hn,_,hv⟩:=Dy h
 obtain ⟨hn',_,hv'⟩:=Dy h'
 have h1':=Abq R I h1
 have hl':(Tp t l).length≤1000000:=by unfold Tp;rw [List.length_map,List.length_reverse];exact hl
 obtain ⟨T,e1,e3,_,_,e7⟩:=Pk h hl h1
 obtain ⟨T',f1,f3,_,_,f7⟩:=Pk h' hl' h1'
 obtain ⟨t',R',ts,st⟩:=R.symm hv'
 refine ⟨T,T',e1,f1,?_⟩
 rcases e7 with ⟨g,rfl⟩ | ⟨g,m,hM,hT⟩
 ·rcases f7 with ⟨_,rfl⟩ | ⟨g',_⟩
  ·exact ⟨rfl,e3,fun x hx=>(by cases hx),fun x hx=>(by cases hx)⟩
  ·exact absurd (R.flat g) g'
 ·rcases f7 with ⟨g',_⟩ | ⟨g',m',hM',hT'⟩
  ·exact absurd (R'.flat g') g
  ·have hr:=Apa hv' R I h1
   have hL:=(Fn.1 h1)
   have hr':Rl v (Av cmp2 ((Tp t l).map prL)) (Av cmp2 (l.map prL)) t':=by
    have fl:∀ {x y:Aa},okL v x→okL v' y→Abn s y x→Abn t' x y:=fun {x y} hx hy e=>by
     obtain ⟨x0,x1,_⟩:=hx
     obtain ⟨y0,y1,_⟩:=hy
     rcases e with ⟨e0,e1⟩ | ⟨e0,e1⟩
     ·exact .inl ⟨by rw [← e0,ts _ y0],by rw [← e1,ts _ y1]⟩
     ·exact .inr ⟨by rw [← e1,ts _ y1],by rw [← e0,ts _ y0]⟩
    refine ⟨fun x hx=>((Pb hv hL.1 hL.2).ok x hx).1,fun y hy=>?_,fun x hx=>?_⟩
    ·obtain ⟨x,hx,e⟩:=hr.bwd y hy
     exact ⟨x,hx,fl ((Pb hv hL.1 hL.2).ok x hx).1 (hr.ok y hy) e⟩
    ·obtain ⟨y,hy,e⟩:=hr.fwd x hx
     exact ⟨y,hy,fl ((Pb hv hL.1 hL.2).ok x hx).1 (hr.ok y hy) e⟩
   refine ⟨Nat.le_antisymm (Al0 hv' hv R' hr' hn hM' hM hT' hT) (Al0 hv hv' R hr hn' hM hM' hT hT'),e3,fun x hx=>Alz hv hv' R hr hn' hM hM' hT hT' hx,fun x hx=>?_⟩
   obtain ⟨_,_,hk⟩:=(hT'.mem x).1 hx
   obtain ⟨p,q,r,_⟩:=hM'.tri.ccw _ _ _ hk
   exact ⟨p,q,r⟩
end
end Go.Proofs.YtgfiafnelibjgaaGreat
