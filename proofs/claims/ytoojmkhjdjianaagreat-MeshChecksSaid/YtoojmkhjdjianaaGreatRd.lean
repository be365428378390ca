/- Check of any mesh: the program's and the reference's; what is refused. -/
import Derived.Test.YtoojmkhjdjianaaGreatU22
import Derived.Test.YtoojmkhjdjianaaGreatFlow2
import Derived.Test.YtoojmkhjdjianaaGreatRows
import Derived.ProofKit
import Derived.OpenShut
import Derived.ShutString
import Derived.ChangeOld
import Derived.Below
import Derived.Carry
import Derived.ChangeArms
import Derived.Deep.Slices
namespace Go.Proofs.YtoojmkhjdjianaaGreat
open Go Go.RowKit
theorem Wf {α:Type} {a b:List α} {e:α->α->Bool} (he:∀ x y,e x y=true↔x=y) (hlen:a.length=b.length) (ha:a.length<=100000000) {B:Int->Option (Sum Int (Sum Unit Bool))}
  (h1:∀ (j:Nat) (h:j < a.length) (h':j < b.length),B j=if e a[j] b[j]=true then some (.inl (w64 ((j:Int)+1))) else some (.inr (.inr false))) (h2:B a.length=some (.inr (.inl ()))) :
  ∃ t,lfix B 0=some t/\((a=b/\t = .inl ())\/(a≠b/\t = .inr false)):=by
 refine Cf (fun s=>a.length-s.toNat) (fun s=>∃ k:Nat,s=(k:Int)/\k<=a.length/\a.take k=b.take k) (fun (t:Sum Unit Bool)=>(a=b/\t = .inl ())\/(a≠b/\t = .inr false)) ?_ 0 ⟨0,rfl,by omega,by simp⟩
 rintro s ⟨k,rfl,hk,ht⟩
 by_cases hlt:k < a.length
 ·have hlt':k < b.length:=by omega
  rw [h1 k hlt hlt']
  by_cases c:e a[k] b[k]=true
  ·left
   rw [if_pos c,Bk (by omega)]
   exact ⟨_,rfl,⟨k+1,rfl,by omega,by rw [Bw hlt,Bw hlt',ht,(he _ _).1 c]⟩,by omega⟩
  ·right
   rw [if_neg c]
   refine ⟨_,rfl,.inr ⟨fun e'=>c ((he _ _).2 ?_),rfl⟩⟩
   subst e'
   rfl
 ·obtain rfl:k=a.length:=by omega
  right
  rw [h2]
  rw [List.take_length,hlen,List.take_length] at ht
  exact ⟨_,rfl,.inl ⟨ht,rfl⟩⟩
theorem Amz (a b:List Ah) (ha:a.length<=100000000):∃ q,Bu a b=some q/\(q=true↔a=b):=by
 unfold Bu
 by_cases c:((a.length:Nat):Int)=((b.length:Nat):Int)
 ·obtain ⟨t,t1,t2⟩:=Wf (a:=a) (b:=b) (e:=fun x y=>((((x.a0) == (y.a0)) && (((x.a1) == (y.a1)) && (((x.a2) == (y.a2)) && true))))) (fun x y=>by
   obtain ⟨x0,x1,x2⟩:=x
   obtain ⟨y0,y1,y2⟩:=y
   simp) (by omega) ha (B:=Ba a b) (fun j h h'=>by
   unfold Ba
   rw [if_pos (by omega),Ay h,Ad,Ay h',Ad]) (by
   unfold Ba
   rw [if_neg (by omega)])
  rw [if_pos c,jn_d,t1,Ad]
  rcases t2 with ⟨h,rfl⟩ | ⟨h,rfl⟩
  ·exact ⟨true,rfl,by simp [h]⟩
  ·exact ⟨false,rfl,by simp [h]⟩
 ·rw [if_neg c]
  exact ⟨false,rfl,by simp;intro h;exact c (by rw [h])⟩
theorem Am0 (a b:List Aa) (ha:a.length<=100000000):∃ q,Bv a b=some q/\(q=true↔a=b):=by
 unfold Bv
 by_cases c:((a.length:Nat):Int)=((b.length:Nat):Int)
 ·obtain ⟨t,t1,t2⟩:=Wf (a:=a) (b:=b) (e:=fun x y=>((((x.a0) == (y.a0)) && (((x.a1) == (y.a1)) && true)))) (fun x y=>by
   obtain ⟨x0,x1⟩:=x
   obtain ⟨y0,y1⟩:=y
   simp) (by omega) ha (B:=Bb a b) (fun j h h'=>by
   unfold Bb
   rw [if_pos (by omega),Ay h,Ad,Ay h',Ad]) (by
   unfold Bb
   rw [if_neg (by omega)])
  rw [if_pos c,jn_d,t1,Ad]
  rcases t2 with ⟨h,rfl⟩ | ⟨h,rfl⟩
  ·exact ⟨true,rfl,by simp [h]⟩
  ·exact ⟨false,rfl,by simp [h]⟩
 ·rw [if_neg c]
  exact ⟨false,rfl,by simp;intro h;exact c (by rw [h])⟩
theorem Aia (a b:Ao) (h1:a.V.length<=100000000) (h2:a.T.length<=100000000) (h3:a.Lines.length<=100000000):∃ q,Cj a b=some q/\(q=true↔a.V=b.V/\a.T=b.T/\a.Lines=b.Lines):=by
 unfold Cj
 rw [jn_d]
 by_cases c1:((a.V.length:Nat):Int)=((b.V.length:Nat):Int)
 case neg =>
  rw [if_neg c1]
  try dsimp only
  rw [if_pos rfl]
  exact ⟨false,rfl,by simp;intro h;exact absurd (by rw [h]) c1⟩
 by_cases c2:((a.T.length:Nat):Int)=((b.T.length:Nat):Int)
 case neg =>
  rw [if_pos c1,if_neg c2]
  try dsimp only
  rw [if_pos rfl]
  exact ⟨false,rfl,by simp;intro _ h;exact absurd (by rw [h]) c2⟩
 by_cases c3:((a.Lines.length:Nat):Int)=((b.Lines.length:Nat):Int)
 case neg =>
  rw [if_pos c1,if_pos c2,decide_eq_false c3]
  try dsimp only
  rw [if_pos (by rfl)]
  exact ⟨false,rfl,by simp;intro _ _ h;exact absurd (by rw [h]) c3⟩
 rw [if_pos c1,if_pos c2,decide_eq_true c3]
 try dsimp only
 rw [if_neg (by simp)]
 obtain ⟨t,t1,t2⟩:=Wf (a:=a.V) (b:=b.V) (e:=fun x y=>((((x.X) == (y.X)) && (((x.Y) == (y.Y)) && ((((x.Z.Lo) == (y.Z.Lo)) && (((x.Z.Hi) == (y.Z.Hi)) && true)) && true))))) (fun x y=>by
  obtain ⟨x0,x1,x2,x3⟩:=x
  obtain ⟨y0,y1,y2,y3⟩:=y
  simp) (by omega) h1 (B:=Ce a b) (fun j h h'=>by
  unfold Ce
  rw [if_pos (by omega),Ay h,Ad,Ay h',Ad]) (by
  unfold Ce
  rw [if_neg (by omega)])
 rw [jn_d,t1,Ad]
 rcases t2 with ⟨g1,rfl⟩ | ⟨g1,rfl⟩
 case inr=>exact ⟨false,rfl,by simp [g1]⟩
 dsimp only
 obtain ⟨t,t1,t2⟩:=Wf (a:=a.T) (b:=b.T) (e:=fun x y=>((((x.a0) == (y.a0)) && (((x.a1) == (y.a1)) && (((x.a2) == (y.a2)) && true))))) (fun x y=>by
  obtain ⟨x0,x1,x2⟩:=x
  obtain ⟨y0,y1,y2⟩:=y
  simp) (by omega) h2 (B:=Bz a b) (fun j h h'=>by
  unfold Bz
  rw [if_pos (by omega),Ay h,Ad,Ay h',Ad]) (by
  unfold Bz
  rw [if_neg (by omega)])
 rw [jn_d,t1,Ad]
 rcases t2 with ⟨g2,rfl⟩ | ⟨g2,rfl⟩
 case inr=>exact ⟨false,rfl,by simp [g2]⟩
 dsimp only
 obtain ⟨t,t1,t2⟩:=Wf (a:=a.Lines) (b:=b.Lines) (e:=fun x y=>((((x.a0) == (y.a0)) && (((x.a1) == (y.a1)) && true)))) (fun x y=>by
  obtain ⟨x0,x1⟩:=x
  obtain ⟨y0,y1⟩:=y
  simp) (by omega) h3 (B:=Ca a b) (fun j h h'=>by
  unfold Ca
  rw [if_pos (by omega),Ay h,Ad,Ay h',Ad]) (by
  unfold Ca
  rw [if_neg (by omega)])
 rw [jn_d,t1,Ad]
 rcases t2 with ⟨g3,rfl⟩ | ⟨g3,rfl⟩
 case inr=>exact ⟨false,rfl,by simp [g3]⟩
 exact ⟨true,rfl,by simp [g1,g2,g3]⟩
theorem Ajw (p:Ao) (h1:p.V.length<=1000000) (h2:p.T.length<=1000000) (h3:p.Lines.length<=1000000):∃ c,Db p=some c/\Im p=some c/\(c=0\/c=64):=by
 have done:∀ r:Ao × Int,Et p.V p.Lines=some r->Cg p.V p.Lines=some r->(r.2=0->r.1.V=p.V/\r.1.T.length<=100000000/\r.1.Lines.length<=100000000)->∃ c,Db p=some c/\Im p=some c/\(c=0\/c=64):=by
  intro r r1 r2 r3
  unfold Db Im
  rw [r1,r2,Ad,Ad,jn_d,jn_d]
  by_cases e:r.2=0
  ·obtain ⟨g1,g2,g3⟩:=r3 e
   obtain ⟨q,q1,q2⟩:=Aia p r.1 (by omega) (by omega) (by omega)
   obtain ⟨x,x1,x2⟩:=Amz r.1.T p.T g2
   obtain ⟨y,y1,y2⟩:=Am0 r.1.Lines p.Lines g3
   rw [if_pos e,if_pos e,q1,Ad,x1,Ad,y1]
   have hq:q=true↔x=true/\y=true:=by
    rw [q2,x2,y2]
    exact ⟨fun g=>⟨g.2.1.symm,g.2.2.symm⟩,fun g=>⟨g1.symm,g.1.symm,g.2.symm⟩⟩
   cases x with
   | false =>
    have:q=false:=by
     cases q with
     | false=>rfl
     | true=>exact absurd (hq.1 rfl).1 (by decide)
    subst this
    exact ⟨64,rfl,rfl,.inr rfl⟩
   | true =>
    rw [if_pos rfl,Ad]
    have hqy:q=true↔y=true:=⟨fun g=>(hq.1 g).2,fun g=>hq.2 ⟨rfl,g⟩⟩
    have:q=y:=Bool.eq_iff_iff.2 hqy
    subst this
    cases q with
    | false=>exact ⟨64,rfl,rfl,.inr rfl⟩
    | true=>exact ⟨0,rfl,rfl,.inl rfl⟩
  ·rw [if_neg e,if_neg e]
   exact ⟨64,rfl,rfl,.inr rfl⟩
 by_cases h:Ke p.V=0
 ·by_cases g:Kx p.V p.Lines=0
  ·obtain ⟨T,e1,e2,e3,_⟩:=Ahz h h3 g
   exact done _ e1 e2 (fun _=>⟨rfl,by dsimp only;omega,by dsimp only;rw [(Cy _ _).length_eq,List.length_map];omega⟩)
  ·exact done _ (Aj7 h h3 g) (Ack h3 h g) (fun e=>absurd e g)
 ·exact done _ (Ajk h) (Aep _ h) (fun e=>absurd e h)
theorem Ka {σ τ:Type} {B:σ->Option (Sum σ τ)} {s:σ} {t:τ} (h:B s=some (.inr t)):lfix B s=some t:=by rw [Br,h]
theorem Uu {σ τ:Type} {B:σ->Option (Sum σ τ)} {s s':σ} (h:B s=some (.inl s')):lfix B s=lfix B s':=by rw [Br,h]
theorem Aib:Bp []=some []:=by
 unfold Bp
 rw [jn_d,show lfix (Gj []) ((([]:List Int).length:Nat):Int)=some 0 from Ka (by rfl)]
 rfl
theorem Ap1:Bp [1]=some [1]:=by
 unfold Bp
 rw [jn_d,show lfix (Gj [1]) ((([1]:List Int).length:Nat):Int)=some 1 from Ka (by rfl)]
 rfl
theorem Am1:Bp [0]=some []:=by
 unfold Bp
 rw [jn_d,show lfix (Gj [0]) ((([0]:List Int).length:Nat):Int)=some 0 from (Uu (s':=0) (by rfl)).trans (Ka (by rfl))]
 rfl
theorem Am2:Bp [1,0]=some [1]:=by
 unfold Bp
 rw [jn_d,show lfix (Gj [1,0]) ((([1,0]:List Int).length:Nat):Int)=some 1 from (Uu (s':=1) (by rfl)).trans (Ka (by rfl))]
 rfl
theorem Adu:Gi 0=some ⟨false,[]⟩:=by
 unfold Gi
 rw [jn_d,if_neg (by omega)]
 show (jn _ _:Option Al)=_
 rw [jn_d,show lfix (Nn (wu64 0)) ()=some () from Ka (by rfl)]
 rfl
theorem Aic:Er [] [1]=some (-1):=by rfl
theorem Aid:Er [1] [1]=some 0:=by
 unfold Er
 rw [if_pos rfl,jn_d,show lfix (Mj [1] [1]) (w64 ((([1]:List Int).length:Nat)-1:Int))=some () from (Uu (s':=-1) (by rfl)).trans (Ka (by rfl))]
 rfl
theorem Am3:Ik [1] 1=some ([1],0):=by
 unfold Ik
 rw [gd_t (by decide),jn_d,show lfix (Nq [1] 1) (List.replicate (Int.toNat ((([1]:List Int).length:Nat):Int)) (0:Int),0,w64 ((([1]:List Int).length:Nat)-1:Int))=some ([1],0) from (Uu (s':=([1],0,-1)) (by rfl)).trans (Ka (by rfl)),Ad]
 dsimp only
 rw [Ap1,Ad]
theorem Adv:Cx [] [1]=some ([],[]):=by
 unfold Cx
 rw [Aic,Ad,if_pos (by decide)]
theorem Ajx:Cx [1] [1]=some ([1],[]):=by
 unfold Cx
 rw [Aid,Ad,if_neg (by decide),if_pos (show ((([1]:List Int).length:Nat):Int)=1 from rfl),show idx ([1]:List Int) 0=some 1 from rfl,Ad,Am3,Ad]
 dsimp only
 rw [Adu,Ad]
theorem Asi:Km [] [1]=some [1]:=by
 have s1:Jw ([],[1])=some (.inl ([1],[])):=by
  unfold Jw
  dsimp only
  rw [if_pos (by decide),Adv,Ad]
 unfold Km
 rw [jn_d,show lfix Jw (([]:List Int),[1])=some [1] from (Uu s1).trans (Ka (by rfl))]
 rfl
theorem Afh:Ft ⟨false,[]⟩ ⟨false,[1]⟩=some ⟨⟨false,[]⟩,[1]⟩:=by
 unfold Ft
 dsimp only
 rw [Asi,Ad,Adv,Ad,Ajx,Ad]
 rfl
theorem Am4:Du [] [1]=some []:=by
 unfold Du
 rw [gd_t (by decide),jn_d,show lfix (Fp [] [1]) (List.replicate (Int.toNat (w64 (((([]:List Int).length:Nat):Int)+((([1]:List Int).length:Nat):Int)))) (0:Int),0)=some [0] from Ka (by rfl),Ad]
 dsimp only
 rw [Am1,Ad]
theorem Am5:Du [1] [1]=some [1]:=by
 have i1:lfix (Np [1] [1] ([0,0],0)) ([0,0],0,0)=some ([1,0],0):=(Uu (s':=([1,0],0,1)) (by rfl)).trans (Ka (by rfl))
 have o1:Fp [1] [1] ([0,0],0)=some (.inl ([1,0],1)):=by
  unfold Fp
  dsimp only
  rw [if_pos (by decide),jn_d,i1,Ad]
  rfl
 unfold Du
 rw [gd_t (by decide),jn_d,show lfix (Fp [1] [1]) (List.replicate (Int.toNat (w64 (((([1]:List Int).length:Nat):Int)+((([1]:List Int).length:Nat):Int)))) (0:Int),0)=some [1,0] from (Uu o1).trans (Ka (by rfl)),Ad]
 dsimp only
 rw [Am2,Ad]
theorem Ap2:Jm [] []=some []:=by
 unfold Jm
 rw [jn_d,show lfix (Oj [] []) ()=some () from Ka (by rfl),Ad]
 dsimp only
 rw [Aib,Ad]
theorem mul_zero:Gk ⟨false,[]⟩ ⟨false,[1]⟩=some ⟨false,[]⟩:=by
 unfold Gk
 dsimp only
 rw [Am4,Ad]
 rfl
theorem add_zero:Ko ⟨⟨false,[]⟩,[1]⟩ ⟨⟨false,[]⟩,[1]⟩=some ⟨⟨false,[]⟩,[1]⟩:=by
 unfold Ko
 dsimp only
 rw [mul_zero,Ad,Ad]
 unfold Lb
 dsimp only
 rw [if_pos (show (false == false)=true from rfl),Ap2,Ad,Ad,Am5,Ad,Afh,Ad]
theorem Am6:Gl []=some ([],true):=by
 unfold Gl
 rw [jn_d,show lfix (Ns []) ()=some () from Ka (by rfl),Ad]
 dsimp only
 rw [if_neg (by decide),jn_d,show lfix (Nt []) ()=some () from Ka (by rfl),Ad]
 dsimp only
 rw [Aib,Ad]
theorem Afi:Do ⟨false,[],[]⟩=some true:=by
 have hw:Kn 0=some ⟨⟨false,[]⟩,[1]⟩:=by unfold Kn;rw [Adu,Ad]
 have ho:Mh ⟨false,[],[]⟩=some (⟨⟨false,[]⟩,[1]⟩,true):=by
  unfold Mh
  dsimp only
  rw [Am6,Ad,Ad,jn_d]
  dsimp only
  rw [if_pos rfl]
  try dsimp only
  rw [if_neg (by decide),jn_d,if_pos (show ((([]:List Int).length:Nat):Int)=0 from rfl)]
  dsimp only
  rw [jn_d,if_neg (by decide),Afh,Ad]
 have hc:Kq ⟨⟨false,[]⟩,[1]⟩ ⟨⟨false,[]⟩,[1]⟩=some 0:=by
  unfold Kq Nl
  rw [show Lc ⟨⟨false,[]⟩,[1]⟩=some ⟨⟨false,[]⟩,[1]⟩ from rfl,Ad,add_zero,Ad,Ad]
  rfl
 unfold Do Lk
 rw [hw,Ad,ho,Ad,jn_d]
 dsimp only
 rw [if_pos rfl,hc,Ad]
 rfl
theorem Aeu (p:Ao) (i:Int) (at_:Ac):Gd p i at_=some true:=by
 unfold Gd
 rw [jn_d]
 by_cases c1:24 < ((p.V.length:Nat):Int)
 ·rw [if_pos c1]
  try dsimp only
  rw [if_pos rfl,Adj,Ad]
 by_cases c2:60 < ((p.T.length:Nat):Int)
 ·rw [if_neg c1,if_pos c2]
  try dsimp only
  rw [if_pos rfl,Adj,Ad]
 by_cases c3:12 < ((p.Lines.length:Nat):Int)
 ·rw [if_neg c1,if_neg c2,decide_eq_true c3]
  try dsimp only
  rw [if_pos rfl,Adj,Ad]
 rw [if_neg c1,if_neg c2,decide_eq_false c3]
 try dsimp only
 rw [if_neg (by simp)]
 obtain ⟨c,e1,e2,e3⟩:=Ajw p (by omega) (by omega) (by omega)
 rw [e2,Ad,e1,Ad,if_pos rfl]
 rcases e3 with rfl | rfl
 ·rw [if_pos rfl,Adj,Ad]
 have n0:¬ (64:Int)=0:=by decide
 have nil:Cj ⟨[],[],[]⟩ ⟨[],[],[]⟩=some true:=Ahy (by simp) (by simp) (by simp)
 have f1:∀ x,Ql p x=some (⟨[],[],[]⟩,64):=fun x=>by unfold Ql;rw [e1,Ad,if_neg n0]
 have f2:Qm p i=some (⟨[],[],[]⟩,64):=by unfold Qm;rw [e1,Ad,if_neg n0]
 have f3:Rw p=some ([],64):=by unfold Rw;rw [e1,Ad,if_neg n0]
 have f4:Qn p i=some ([],64):=by unfold Qn;rw [e1,Ad,if_neg n0]
 have f5:Pz p at_=some (0,64):=by unfold Pz;rw [e1,Ad,if_neg n0]
 have f6:Nb p at_=some (⟨false,[],[]⟩,⟨false,[],[]⟩,64):=by unfold Nb;rw [f5,Ad,if_neg n0]
 have f7:Qo p at_=some (⟨0,0⟩,64):=by unfold Qo;rw [f6,Ad,if_neg n0]
 have f8:Tw p=some (0,64):=by unfold Tw;rw [e1,Ad,if_neg n0]
 have g1:Ow p i=some (⟨false,[],[]⟩,⟨false,[],[]⟩,64):=by unfold Ow;rw [e1,Ad,if_neg n0]
 have g2:∀ b,Oc p i b=some ([],64):=fun b=>by unfold Oc;rw [e1,Ad,if_neg n0]
 have g3:∀ s b,Mi p s i b=some (⟨false,[],[]⟩,⟨false,[],[]⟩,64):=fun s b=>by unfold Mi;rw [e1,Ad,if_neg n0]
 have g4:∀ q,Pf p at_ q=some ([],64):=fun q=>by unfold Pf;rw [e1,Ad,if_neg n0]
 rw [if_neg n0,f1,Ad,f2,Ad,f3,Ad,f4,Ad,f5,Ad,f6,Ad,f7,Ad,f8,Ad,jn_d]
 have lp:lfix (Dz (⟨[],[],[]⟩,64) (⟨[],[],[]⟩,64) ([],64) ([],64) (0,64) (⟨false,[],[]⟩,⟨false,[],[]⟩,64) (⟨0,0⟩,64) (0,64)) 0=some (.inl ()):=by
  refine Uj (fun k=>(k:Int)) _ 8 (fun k hk=>?_) ?_
  ·unfold Dz
   dsimp only
   have:idx ([64,64,64,64,64,64,64,64]:List Int) (k:Int)=some 64:=by
    rw [Ay (by simpa using hk)]
    have:k=0\/k=1\/k=2\/k=3\/k=4\/k=5\/k=6\/k=7:=by omega
    rcases this with rfl | rfl | rfl | rfl | rfl | rfl | rfl | rfl <;> rfl
   rw [if_pos (by omega),this,Ad,if_pos rfl,Bk (by omega)]
  ·unfold Dz
   rw [if_neg (by decide)]
 rw [lp,Ad]
 dsimp only
 rw [jn_d,nil,Ad,if_pos rfl,Ad,if_pos rfl,if_pos (by rfl),Afi,Ad,if_pos rfl,Ad,if_pos rfl]
 dsimp only
 rw [if_neg (by decide),g1,Ad,g2,Ad,g3,Ad,g4,Ad,jn_d]
 dsimp only
 rw [if_pos rfl,if_pos rfl,if_pos rfl,if_pos rfl,Afi,Ad,if_pos rfl,Ad,if_pos rfl,if_pos (by rfl),Ad,if_pos rfl,Ad,if_pos rfl,Adj,Ad]
end Go.Proofs.YtoojmkhjdjianaaGreat
namespace Go.Proofs.YtoojmkhjdjianaaGreat
open Go.ChangeShapes Go.WideShapes Go.ChangeAt Go.RowKit

theorem own2:ownKnob Tryz.prog.godebug=none:=by kernel_rfl
theorem Adw:laidOutB Tryz.prog=true:=by kernel_rfl
def rI64 (z:Int):Prop:=-9223372036854775808<=z/\z<=9223372036854775807
theorem Aay {cs:List Value} {o:Nat} (h:cs.length=o):cs.drop o=[]:=by rw [<- h,List.drop_length]
theorem Lm {cs X R:List Value} {o k o':Nat} (h1:(cs.drop o).take k=X) (h2:cs.drop o'=R) (ho:o'=o+k):cs.drop o=X++R:=by
 subst ho;rw [<- h1,<- h2,<- List.drop_drop,List.take_append_drop]
section
variable {H:Type} {enc:TypeId × Value->H} {w:World} {base:Nat} {spare:Nat->Bool} {held:Bool} {P:Program}
theorem Au4 {t:TypeId} (ht:P.underlying t=some (.int .i64)) {fuel:Nat} {cs:List Value} {x:DataW H × List MemPlace} (h:DataW.trod enc P w base spare held fuel t cs=some x):∃ z:Int,cs=[.int .i64 z]/\rI64 z:=by
 obtain ⟨n,hc,_,hw⟩:=DataW.trod_int ht h
 refine ⟨n,hc,?_⟩
 have h1:IntKind.i64.min = -9223372036854775808:=rfl
 have h2:IntKind.i64.max=9223372036854775807:=rfl
 simp only [Lit.wf,Bool.and_eq_true,decide_eq_true_eq] at hw
 unfold rI64;omega
theorem Adx {α:Type} {en:α->List Value} {okα:α->Prop} {t e:TypeId} {sz:Nat} (ht:P.underlying t=some (.slice e)) (hsz:P.cellsOf e=sz) (hp:0 < sz)
  (hel:∀ {fuel:Nat} {cs:List Value} {x:DataW H × List MemPlace},DataW.trod enc P w base spare held fuel e cs=some x->∃ v,cs=en v/\okα v)
  {fuel:Nat} {cs:List Value} {x:DataW H × List MemPlace} (h:DataW.trod enc P w base spare held fuel t cs=some x) :
  ∃ (v:List α) (A:Option Addr) (c:Nat),cs=[.slice A v.length c]/\Has [.old w] A v.length c sz en v/\∀ z∈v,okα z:=by
 rcases Go.Deep.open_slice ht h with ⟨rfl,_⟩ | ⟨a,len,cap,m,n,D,Pl,rfl,hb,hl,hm,hmm,_,hx⟩
 ·exact ⟨[],none,0,rfl,Has.nil,fun z hz=>by simp at hz⟩
 ·have hle:len<=m:=by rw [hmm];split <;> omega
  have key:∀ k,k<=len->∃ v:List α,v.length=k/\(∀ z∈v,okα z)/\∀ i (hi:i < v.length),w.cells? base (a.add (i*sz)) sz=some (en v[i]):=by
   intro k
   induction k with
   | zero=>intro _;exact ⟨[],rfl,fun z hz=>by simp at hz,fun i hi=>by simp at hi⟩
   | succ k ih =>
    intro hk
    obtain ⟨v,h1,h2,h3⟩:=ih (by omega)
    obtain ⟨cs',h4,h5⟩:=hx k (by omega)
    obtain ⟨z,rfl,hz⟩:=hel h5
    rw [hsz] at h4
    refine ⟨v++[z],by simp [h1],fun y hy=>?_,fun i hi=>?_⟩
    ·rcases List.mem_append.1 hy with hy | hy
     ·exact h2 y hy
     ·simp at hy;subst hy;exact hz
    ·simp at hi
     rcases Nat.lt_or_ge i v.length with hlt | hge
     ·rw [List.getElem_append_left hlt];exact h3 i hlt
     ·have:i=k:=by omega
      subst this
      rw [List.getElem_append_right hge]
      simp [h1];exact h4
  obtain ⟨v,h1,h2,h3⟩:=key len (Nat.le_refl _)
  subst h1
  have hesz:∀ z∈v,(en z).length=sz:=by
   intro z hz
   obtain ⟨i,hi,rfl⟩:=List.getElem_of_mem hz
   exact (World.cells?_some (h3 i hi)).2.1
  have hsl:Sl w (some a) v.length cap sz en v:=by
   refine ⟨rfl,hl,hm,hesz,fun hn=>?_⟩
   have hsp:a.spot=none:=by
    have h4:=(World.cells?_some (h3 0 hn)).2.2 0 hp
    have h5:(en v[0])[0]? = some ((en v[0])[0]'(by rw [hesz _ (List.getElem_mem hn)];exact hp)):=List.getElem?_eq_getElem _
    rw [h5] at h4
    simp only [Nat.zero_mul,Addr.add,if_true] at h4
    unfold World.cell? at h4
    split at h4
    ·split at h4
     ·cases h4
     ·rename_i hs;simpa using hs
    ·cases h4
   obtain ⟨b,o,sp⟩:=a
   have hsp:sp=none:=hsp
   subst hsp
   refine ⟨b,o,rfl,fun i hi j u hu=>?_⟩
   have hj:j < sz:=by rw [<- hesz _ (List.getElem_mem hi)];exact (List.getElem?_eq_some_iff.1 hu).1
   have h4:=(World.cells?_some (h3 i hi)).2.2 j hj
   rw [hu,Addr.add_lit,Addr.add_lit] at h4
   exact h4
  exact ⟨v,some a,cap,rfl,hsl.has,h2⟩
end
theorem Aw2 (w:World):∀ e∈[Ent.old w],Ent.ok w e:=fun e he=>by simp at he;subst he;exact ⟨Below.refl _ _,Nat.le_refl _⟩
end Go.Proofs.YtoojmkhjdjianaaGreat
