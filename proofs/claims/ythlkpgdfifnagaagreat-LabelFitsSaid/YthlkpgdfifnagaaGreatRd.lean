import Derived.Test.YthlkpgdfifnagaaGreatX3
import Derived.Test.YthlkpgdfifnagaaGreatRows
import Derived.ProofKit
import Derived.OpenShut
import Derived.ShutString
import Derived.ChangeOld
import Derived.Below
import Derived.Carry
import Derived.ChangeArms
import Derived.Deep.Slices
namespace Go.Proofs.YthlkpgdfifnagaaGreat
open Go Go.RowKit Go.Shelf Go.Sort
abbrev FitF:=Ae->Int × Bool × Int
section
variable {g:List Int} {F:FitF} {C:List Ae}
end
end Go.Proofs.YthlkpgdfifnagaaGreat
namespace Go.Proofs.YthlkpgdfifnagaaGreat.X
open Go Go.RowKit
def cr(a b c:Aa):Int:=(b.X-a.X)*(c.Y-a.Y)-(b.Y-a.Y)*(c.X-a.X)
theorem Ah9{p:Aa}(h:okXY p=true):-268435456<=p.X/\p.X<=268435456/\-268435456<=p.Y/\p.Y<=268435456:=by
 simpa only[okXY,decide_eq_true_eq] using h
theorem Arq{a b:Int}{m:Int}(ha:-m<=a/\a<=m)(hb:-m<=b/\b<=m):-(m*m)<=a*b/\a*b<=m*m:=by
 have hm:0<=m:=oo;rcases Int.le_total 0 a with h | h <;> rcases Int.le_total 0 b with k | k
 ·have h1:=Int.mul_le_mul ha.2 hb.2 k hm;have h2:=Int.mul_nonneg h k;omega
 ·have h1:=Int.mul_le_mul (a:=a) (b:=-b) (c:=m) (d:=m) ha.2 oo oo hm;have h2:=Int.mul_nonneg (a:=a) (b:=-b) h oo;rw[Int.mul_neg] at h1 h2;omega
 ·have h1:=Int.mul_le_mul (a:=-a) (b:=b) (c:=m) (d:=m) oo hb.2 k hm;have h2:=Int.mul_nonneg (a:=-a) (b:=b) oo k;rw[Int.neg_mul] at h1 h2;omega
 ·have h1:=Int.mul_le_mul (a:=-a) (b:=-b) (c:=m) (d:=m) oo oo oo hm;have h2:=Int.mul_nonneg (a:=-a) (b:=-b) oo oo;rw[Int.neg_mul_neg] at h1 h2;omega
theorem cr_w{a b c:Aa}(ha:okXY a=true)(hb:okXY b=true)(hc:okXY c=true):
  w64 ((w64 ((w64 (b.X-a.X))*(w64 (c.Y-a.Y))))-(w64 ((w64 (b.Y-a.Y))*(w64 (c.X-a.X)))))=cr a b c:=by
 have h1:=Ah9 ha;have h2:=Ah9 hb;have h3:=Ah9 hc;rw[As (x:=b.X-a.X) oo oo,As (x:=c.Y-a.Y) oo oo,As (x:=b.Y-a.Y) oo oo,As (x:=c.X-a.X) oo oo];have e1:=Arq (a:=b.X-a.X) (b:=c.Y-a.Y) (m:=536870912) oo oo;have e2:=Arq (a:=b.Y-a.Y) (b:=c.X-a.X) (m:=536870912) oo oo;rw[As (x:=(b.X-a.X)*(c.Y-a.Y)) oo oo,As (x:=(b.Y-a.Y)*(c.X-a.X)) oo oo,As oo oo];rfl
theorem Baj(a b c:Aa):cr b a c = -cr a b c:=by unfold cr;grind
theorem turn_eq{a b c:Aa}(ha:okXY a=true)(hb:okXY b=true)(hc:okXY c=true):Ry a b c=some (Int.sign (cr a b c)):=by
 simp only[Ry,cr_w ha hb hc];rcases Int.lt_trichotomy (cr a b c) 0 with h | h | h
 ·rw[if_neg oo,if_pos h,Int.sign_eq_neg_one_of_neg h]
 ·rw[h];rfl
 ·rw[if_pos h,Int.sign_eq_one_of_pos h]
def onB(c:Aa)(s:Aa × Aa):Bool:=decide (cr s.1 s.2 c=0/\min s.1.X s.2.X<=c.X/\c.X<=max s.1.X s.2.X/\min s.1.Y s.2.Y<=c.Y/\c.Y<=max s.1.Y s.2.Y)
def croB(c:Aa)(s:Aa × Aa):Bool:=decide ((s.1.Y<=c.Y/\c.Y<s.2.Y/\0<cr s.1 s.2 c)\/(c.Y<s.1.Y/\s.2.Y<=c.Y/\cr s.1 s.2 c<0))
theorem sign_pos{x:Int}:0<Int.sign x↔0<x:=by
 rcases Int.lt_trichotomy x 0 with h | h | h
 ·rw[Int.sign_eq_neg_one_of_neg h];omega
 ·rw[h];simp
 ·rw[Int.sign_eq_one_of_pos h];omega
theorem sign_zero{x:Int}:Int.sign x=0↔x=0:=Int.sign_eq_zero_iff_zero
theorem Bey{a b c:Aa}(ha:okXY a=true)(hb:okXY b=true)(hc:okXY c=true):Zs a b c=some (onB c (a,b)):=by
 simp only[Zs,jn_d,turn_eq ha hb hc,Ad,Vc,sign_zero,onB,decide_eq_true_eq]
 by_cases h:cr a b c=0 <;> by_cases h2:(min a.X b.X<=c.X/\c.X<=max a.X b.X) <;> simp[h,h2]
 all_goals (try omega)
theorem Bde{a b c:Aa}(ha:okXY a=true)(hb:okXY b=true)(hc:okXY c=true):Rl a b c=some (croB c (a,b)):=by
 simp only[Rl,turn_eq ha hb hc,turn_eq hb ha hc,Ad,croB,sign_pos,Baj a b c]
 by_cases h1:c.Y<a.Y <;> by_cases h2:c.Y<b.Y <;> simp[h1,h2]
 all_goals (try omega)
 ·rw[if_neg oo];simp;omega
 ·rw[if_pos oo];simp;omega
def Up(p:Aa):List Aa->List (Aa × Aa)
 | []=>[]
 | q::r=>(p,q)::Up q r
def oddB{α:Type}(f:α->Bool):List α->Bool
 | []=>false
 | x::r=>f x != oddB f r
theorem Atq{α:Type}(f:α->Bool){l m:List α}(h:l.Perm m):oddB f l=oddB f m:=by
 induction h with
 | nil=>rfl
 | cons x _ ih=>simp only[oddB,ih]
 | swap x y l=>simp only[oddB];cases f x <;> cases f y <;> cases oddB f l <;> rfl
 | trans _ _ h1 h2=>rw[h1,h2]
def insB(c:Aa)(S:List (Aa × Aa)):Bool:=S.any (onB c) || oddB (croB c) S
theorem Atr{c:Aa}{S S':List (Aa × Aa)}(h:S.Perm S'):insB c S=insB c S':=by
 unfold insB;rw[Atq _ h];have:S.any (onB c)=S'.any (onB c):=by
  rw[Bool.eq_iff_iff,List.any_eq_true,List.any_eq_true];simp only[h.mem_iff]
 rw[this]
def Anv:List Aa->List (Aa × Aa)
 | []=>[]
 | a::r=>Up a (r++[a])
theorem Aj3(p:Aa):∀ (l m:List Aa),Up p (l++m)=Up p l++Up ((p::l).getLast (List.cons_ne_nil _ _)) m
 | [],m=>rfl
 | q::r,m=>by
  have:=Aj3 q r m;simp only[List.cons_append,Up,this];rw[List.getLast_cons (List.cons_ne_nil q r)]
def inF(c:Aa)(s:Bool × Aa)(q:Aa):Sum (Bool × Aa) (Sum Bool Bool):=if onB c (s.2,q)=true then .inr (.inr true) else .inl (if croB c (s.2,q)=true then !s.1 else s.1,q)
theorem Axl(c:Aa):∀ (l:List Aa) (s:Bool × Aa),St (inF c) (fun s=>(.inl s.1:Sum Bool Bool)) l s=if (Up s.2 l).any (onB c)=true then .inr true else .inl (s.1 != oddB (croB c) (Up s.2 l))
 | [],s=>by simp[St,Up,oddB]
 | q::r,s=>by
  unfold St inF
  by_cases h:onB c (s.2,q)=true
  ·rw[if_pos h];simp[Up,h]
  ·rw[if_neg h];dsimp only;have ih:=Axl c r (if croB c (s.2,q)=true then !s.1 else s.1,q);unfold inF at ih;rw[ih];have h':onB c (s.2,q)=false:=by simpa using h
   simp only[Up,List.any_cons,h',Bool.false_or,oddB];cases croB c (s.2,q) <;> cases s.1 <;> cases oddB (croB c) (Up q r) <;> rfl
theorem Ats{l:List Aa}(h1:∀ p∈l,okXY p=true)(h0:0<l.length)(h2:l.length<=1000){c:Aa}(hc:okXY c=true):Sp l c=some (insB c (Anv l)):=by
 have hlast:l.length-1<l.length:=oo;have hw:w64 ((l.length:Int)-1)=((l.length-1:Nat):Int):=by rw[As oo oo];omega
 unfold Sp;rw[hw,At hlast,Ad,jn_d];have key:=Vu l (fun (s:Bool × Aa) (j:Int)=>(s.1,s.2.X,s.2.Y,j)) (inF c) (fun s=>(.inl s.1:Sum Bool Bool)) (Lt l c) (fun _ s=>okXY s.2=true) ?_ ?_ (false,l[l.length-1]) (h1 _ (List.getElem_mem hlast))
 ·have key':lfix (Lt l c) (false,l[l.length-1].X,l[l.length-1].Y,0)=_:=key;rw[key',Ad,Axl];have hp:(Up l[l.length-1] l).Perm (Anv l):=by
   cases l with
   | nil=>simp at h0
   | cons a r=>
    show (Up _ (a::r)).Perm (Up a (r++[a]));rw[Aj3];have:(a::r)[(a::r).length-1]=(a::r).getLast (List.cons_ne_nil _ _):=by rw[List.getLast_eq_getElem]
    rw[this];exact (List.perm_append_singleton _ _).symm
  have e:=Atr (c:=c) hp;unfold insB at e ⊢;rw[<- e];cases (Up l[l.length-1] l).any (onB c) <;> simp
 ·rintro j hj ⟨b,p⟩ hp;dsimp only at hp;have hq:=h1 _ (List.getElem_mem hj);have hb:(⟨p.X,p.Y⟩:Aa)=p:=rfl;unfold inF;simp only[Lt,if_pos (show (j:Int)<(l.length:Int) by omega),jn_d,At hj,Ad,hb,Bey hp hq hc,Bde hp hq hc,Bd (show j<9223372036854775807 by omega)]
  by_cases g:onB c (p,l[j])=true
  ·right;exact⟨_,by rw[if_pos g],by rw[if_pos g]⟩
  ·left;refine⟨_,by rw[if_neg g],?_,hq⟩;rw[if_neg g]
   by_cases g2:croB c (p,l[j])=true <;> simp[g2]
 ·intro s _;simp only[Lt,Int.lt_irrefl,if_false]
def Aet(l:List Aa):Bool:=decide (3<=l.length/\l.length<=64) && l.all okXY
theorem Alh(l:List Aa):Pb l=some (Aet l):=by
 simp only[Pb,Vc,Ad,decide_eq_true_eq,jn_d,Aet]
 by_cases h:(3:Int)<=(l.length:Int)/\(l.length:Int)<=64
 ·rw[if_pos h,decide_eq_true (show 3<=l.length/\l.length<=64 by omega),Bool.true_and];rw[Aaq (β:=Unit) (γ:=Bool) l okXY (Ku l) () false ?_ ?_,Ad]
  ·by_cases hk:l.all okXY=true <;> simp[hk]
  ·intro j hj;simp only[Ku,if_pos (show (j:Int)<(l.length:Int) by omega),At hj,Ad,Xd,Bd (show j<9223372036854775807 by omega)]
  ·simp only[Ku,Int.lt_irrefl,if_false]
 ·rw[if_neg h,decide_eq_false (show ¬ (3<=l.length/\l.length<=64) by omega),Bool.false_and]
def Agg(l:List Aa)(c:Aa):Bool × Int:=if Aet l=true then (if okXY c=true then (insB c (Anv l),0) else (false,11)) else (false,72)
theorem Anw{l:List Aa}(h:Aet l=true):3<=l.length/\l.length<=64/\∀ p∈l,okXY p=true:=by
 simp only[Aet,Bool.and_eq_true,decide_eq_true_eq,List.all_eq_true] at h;exact⟨h.1.1,h.1.2,h.2⟩
theorem Aj4(l:List Aa)(c:Aa):Im l c=some (Agg l c):=by
 simp only[Im,Alh,Ad,Xd,Agg]
 by_cases h:Aet l=true
 ·obtain⟨h1,h2,h3⟩:=Anw h
  by_cases hc:okXY c=true
  ·simp only[h,hc,if_true,Ats h3 oo oo hc,Ad]
  ·simp[h,hc]
 ·simp[h]
def sqr:List Aa:=[⟨0,0⟩,⟨4,0⟩,⟨4,4⟩,⟨0,4⟩]
def pts3:List Ae:=[⟨1,0,0,⟨3,3⟩,0,1,1,0⟩,⟨2,5,5,⟨1,1⟩,0,1,1,0⟩,⟨3,12,0,⟨2,2⟩,0,1,1,0⟩]
def ter3:Am:=⟨10,0,0,1,0,0,0,0,0,1⟩
theorem first_eq:Hv=some true:=by
 have e1:Agg sqr ⟨4,2⟩=(true,0):=dD;have e2:Agg sqr ⟨5,2⟩=(false,0):=dD;have e3:Aqt pts3 ter3=[2,3]:=by
  have:(bot (ceF ter3.Cell) (Aqs pts3 ter3)).map (·.Id)=[2,3]:=dD;unfold Aqt;rw[this];exact (Afh s_ (List.Perm.refl _)).symm
 have e4:okRules ter3=true:=dD;have e5:validL pts3=true:=dD;have f1:Im sqr ⟨4,2⟩=some (true,0):=by rw[Aj4,e1]
 have f2:Im sqr ⟨5,2⟩=some (false,0):=by rw[Aj4,e2]
 have f3:Oi pts3 ter3=some ([2,3],0):=by rw[Avo,if_pos e4,if_pos e5,e3]
 unfold Hv;have g1:Im ([(⟨0,0⟩:Aa),(⟨4,0⟩:Aa),(⟨4,4⟩:Aa),(⟨0,4⟩:Aa)]) (⟨4,2⟩:Aa)=some (true,0):=f1;have g2:Im ([(⟨0,0⟩:Aa),(⟨4,0⟩:Aa),(⟨4,4⟩:Aa),(⟨0,4⟩:Aa)]) (⟨5,2⟩:Aa)=some (false,0):=f2;rw[g1,Ad,g2,Ad];show bnd (Oi pts3 ter3) _=_;rw[f3,Ad];rfl
end Go.Proofs.YthlkpgdfifnagaaGreat.X
namespace Go.Proofs.YthlkpgdfifnagaaGreat
open Go Go.RowKit
theorem Ali(a b c p:Aa):crs b c p+crs c a p+crs a b p=crs a b c:=by unfold crs;grind
theorem Arr{w0 w1 w2:Int}(n0:0<=w0)(n1:0<=w1)(n2:0<=w2)(hA:w0+w1+w2<=2305843009213693952)(h0:0<w0+w1+w2){p:Ag}(k0:-1099511627776<=p.a0/\p.a0<=1099511627776)(k1:-1099511627776<=p.a1/\p.a1<=1099511627776)(k2:-1099511627776<=p.a2/\p.a2<=1099511627776):
  Mv ⟨w0,w1,w2⟩ p=some ((w0*p.a0+w1*p.a1+w2*p.a2) / (w0+w1+w2),-((-(w0*p.a0+w1*p.a1+w2*p.a2)) / (w0+w1+w2))):=by
 obtain⟨m0,rfl⟩:=Int.eq_ofNat_of_zero_le n0;obtain⟨m1,rfl⟩:=Int.eq_ofNat_of_zero_le n1;obtain⟨m2,rfl⟩:=Int.eq_ofNat_of_zero_le n2;obtain⟨b,hb⟩:∃ b,min (min p.a0 p.a1) p.a2=b:=⟨_,rfl⟩;obtain⟨d0,e0⟩:∃ d:Nat,p.a0=b+d:=⟨(p.a0-b).toNat,oo⟩;obtain⟨d1,e1⟩:∃ d:Nat,p.a1=b+d:=⟨(p.a1-b).toNat,oo⟩;obtain⟨d2,e2⟩:∃ d:Nat,p.a2=b+d:=⟨(p.a2-b).toNat,oo⟩;have h:=Azh (m0:=m0) (m1:=m1) (m2:=m2) (d0:=d0) (d1:=d1) (d2:=d2) (b:=b) (p:=p) oo oo oo oo oo oo oo hb e0 e1 e2;rw[h];have hS:(m0:Int)*p.a0+(m1:Int)*p.a1+(m2:Int)*p.a2=((m0*d0+m1*d1+m2*d2:Nat):Int)+b*((m0+m1+m2:Nat):Int):=by
  rw[e0,e1,e2];push_cast;grind
 have hA2:(m0:Int)+(m1:Int)+(m2:Int)=((m0+m1+m2:Nat):Int):=by push_cast;rfl
 rw[hS,hA2];have hpos:0<m0+m1+m2:=oo;clear hS hA2 h e0 e1 e2 hb n0 n1 n2 hA h0 k0 k1 k2;generalize m0*d0+m1*d1+m2*d2=N at *;generalize m0+m1+m2=A at *;have q1:=Nat.div_add_mod N A;have q2:=Nat.mod_lt N hpos;generalize N / A=q at *;generalize N % A=r at *;have q3:(N:Int)=(A:Int)*(q:Int)+(r:Int):=by rw[<- q1];push_cast;rfl
 have l1:((N:Int)+b*(A:Int)) / (A:Int)=b+(q:Int):=X.ediv_of (r:=(r:Int)) oo (by rw[q3];grind) oo oo
 by_cases hr:0<r
 ·have l2:(-((N:Int)+b*(A:Int))) / (A:Int) = -(b+(q:Int)+1):=X.ediv_of (r:=(A:Int)-(r:Int)) oo (by rw[q3];grind) oo oo;rw[l1,l2,if_pos hr,Int.neg_neg]
 ·have l2:(-((N:Int)+b*(A:Int))) / (A:Int) = -(b+(q:Int)):=X.ediv_of (r:=0) oo (by rw[q3,show r=0 by omega];grind) oo oo;rw[l1,l2,if_neg hr,Int.neg_neg,Int.add_zero]
def zV(v:List Ac)(i:Int):Av:=match idx v i with
 | some x=>x.Z
 | none=>⟨0,0⟩
def covT(v:List Ac)(at_:Aa)(t:Ag):Bool:=decide (0<=crs (plV v t.a0) (plV v t.a1) at_/\0<=crs (plV v t.a1) (plV v t.a2) at_/\0<=crs (plV v t.a2) (plV v t.a0) at_)
def Pn(v:List Ac)(t:Ag):Int:=crs (plV v t.a0) (plV v t.a1) (plV v t.a2)
def wsum(v:List Ac)(at_:Aa)(t:Ag)(f:Av->Int):Int :=
 crs (plV v t.a1) (plV v t.a2) at_*f (zV v t.a0)+crs (plV v t.a2) (plV v t.a0) at_*f (zV v t.a1)+crs (plV v t.a0) (plV v t.a1) at_*f (zV v t.a2)
def bndT(v:List Ac)(at_:Aa)(t:Ag):Av:=⟨wsum v at_ t (·.Lo) / Pn v t,-((-(wsum v at_ t (·.Hi))) / Pn v t)⟩
def locT(v:List Ac)(T:List Ag)(at_:Aa):Option Nat:=T.findIdx? (covT v at_)
def gapI(a b:Av):Int:=max (max 0 (a.Lo-b.Hi)) (b.Lo-a.Hi)
def Mn(v:List Ac)(r:Am)(p:Ae)(k:Int):Bool :=
 decide (gapI p.Z (zV v k)*gapI p.Z (zV v k)*1000000<=r.Slope*r.Slope*((p.X-(plV v k).X)*(p.X-(plV v k).X)+(p.Y-(plV v k).Y)*(p.Y-(plV v k).Y)))
def fitV(v:List Ac)(T:List Ag)(r:Am)(p:Ae):Int × Bool × Int:=match locT v T (X.plF p) with
 | none=>(-1,false,0)
 | some i=>match idx T (i:Int) with
  | none=>(-1,false,0)
  | some t=>
   if r.Reach<gapI p.Z (bndT v (X.plF p) t) then ((i:Int),false,0) else
   if Mn v r p t.a0=true/\Mn v r p t.a1=true/\Mn v r p t.a2=true then ((i:Int),true,gapI p.Z (bndT v (X.plF p) t)) else ((i:Int),false,0)
theorem Att{α:Type}(l:List α)(p:α->Bool)(B:Int->Option (Sum Int (Sum Unit Int)))(h1:∀ (j:Nat) (h:j<l.length),B j=if p l[j]=true then some (.inr (.inr (j:Int))) else some (.inl ((j+1:Nat):Int)))(h2:B l.length=some (.inr (.inl ()))):
  lfix B 0=some (match l.findIdx? p with | some i=>.inr (i:Int) | none=>.inl ()):=by
 have key:∀ (m k:Nat),k<=l.length->l.length-k=m->(∀ j (hj:j<l.length),j<k->p l[j]=false)->lfix B k=some (match l.findIdx? p with | some i=>.inr (i:Int) | none=>.inl ()):=by
  intro m
  induction m with
  | zero=>
   intro k hk hm hf;obtain rfl:k=l.length:=oo;rw[Bg,h2];have:l.findIdx? p=none:=by
    rw[List.findIdx?_eq_none_iff];intro x hx;obtain⟨j,hj,rfl⟩:=List.getElem_of_mem hx;exact hf j hj hj
   rw[this]
  | succ m ih=>
   intro k hk hm hf;have hlt:k<l.length:=oo;rw[Bg,h1 k hlt]
   by_cases hp:p l[k]=true
   ·rw[if_pos hp];have:l.findIdx? p=some k:=by
     rw[List.findIdx?_eq_some_iff_getElem];exact⟨hlt,hp,fun j hj=>by rw[hf j oo hj];simp⟩
    rw[this]
   ·rw[if_neg hp];refine ih (k+1) oo oo fun j hj hjk=>?_
    by_cases e:j=k
    ·subst e;exact Bool.eq_false_iff.2 hp
    ·exact hf j hj oo
 exact key l.length 0 (Nat.zero_le _) rfl (fun j _ h=>absurd h oo)
structure Msh(m:Ao):Prop where
 n:m.V.length<=1024
 ok:∀ x∈m.V,Nx x
 len:m.T.length<=1152921504606846976
 t:∀ t∈m.T,inN m.V.length t.a0/\inN m.V.length t.a1/\inN m.V.length t.a2/\0<Pn m.V t
theorem Lm{n:Nat}{i:Int}(h:inN n i):∃ k:Nat,i=(k:Int)/\k<n:=⟨i.toNat,by unfold inN at h;omega,by unfold inN at h;omega⟩
theorem Aia{v:List Ac}{k:Nat}(hk:k<v.length):zV v (k:Int)=v[k].Z:=by unfold zV;rw[At hk]
theorem Gp{v:List Ac}(h:∀ x∈v,Nx x){i:Int}(hi:inN v.length i):okP (plV v i)/\-268435456<=(zV v i).Lo/\(zV v i).Lo<=(zV v i).Hi/\(zV v i).Hi<=268435456:=by
 obtain⟨k,rfl,hk⟩:=Lm hi;rw[Tt hk,Aia hk];exact h _ (List.getElem_mem hk)
theorem Vd{a b c:Aa}(ha:okP a)(hb:okP b)(hc:okP c):Gg a b c=some (crs a b c):=by
 have h0:=Gk ha hb hc;unfold okP at ha hb hc;have h1:=mulB (x:=b.X-a.X) (y:=c.Y-a.Y) (M:=536870912) (N:=536870912) oo oo oo oo oo;have h2:=mulB (x:=b.Y-a.Y) (y:=c.X-a.X) (M:=536870912) (N:=536870912) oo oo oo oo oo;unfold Gg;unfold crs at h0 ⊢;rw[As (x:=b.X-a.X) oo oo,As (x:=c.Y-a.Y) oo oo,As (x:=b.Y-a.Y) oo oo,As (x:=c.X-a.X) oo oo,
  As (x:=(b.X-a.X)*(c.Y-a.Y)) oo oo,As (x:=(b.Y-a.Y)*(c.X-a.X)) oo oo,As oo oo]
theorem Atu{a b:Aa}(ha:okP a)(hb:okP b):Kt a b=some ((a.X-b.X)*(a.X-b.X)+(a.Y-b.Y)*(a.Y-b.Y))/\0<=(a.X-b.X)*(a.X-b.X)+(a.Y-b.Y)*(a.Y-b.Y)/\(a.X-b.X)*(a.X-b.X)+(a.Y-b.Y)*(a.Y-b.Y)<=576460752303423488:=by
 unfold okP at ha hb;obtain⟨a1,a2,a3,a4⟩:=X.sq_w (a:=a.X) (b:=b.X) oo oo;obtain⟨b1,b2,b3,b4⟩:=X.sq_w (a:=a.Y) (b:=b.Y) oo oo;refine⟨?_,oo,oo⟩;unfold Kt;rw[a1,b1,a2,b2,As oo oo]
section
variable {m:Ao} (h:Msh m)
include h
theorem Aib{i:Nat}(hi:i<m.T.length):Lu m (i:Int)=some ⟨plV m.V m.T[i].a0,plV m.V m.T[i].a1,plV m.V m.T[i].a2⟩:=by
 obtain⟨h0,h1,h2,_⟩:=h.t _ (List.getElem_mem hi);obtain⟨a,ea,ha⟩:=Lm h0;obtain⟨b,eb,hb⟩:=Lm h1;obtain⟨c,ec,hc⟩:=Lm h2;unfold Lu Jx;rw[At hi,Ad,ea,eb,ec,At ha,Ad,Ad,At hb,Ad,Ad,At hc,Ad,Ad,Tt ha,Tt hb,Tt hc];rfl
theorem Aj5{p:Aa}(hp:okP p):Nk m p=some (match locT m.V m.T p with | some i=>(i:Int) | none=>-1):=by
 unfold Nk;have hl:=h.len;rw[jn_d,Att m.T (covT m.V p) (Mh m p) (fun j hj=>?_) ?_,Ad]
 ·unfold locT;cases m.T.findIdx? (covT m.V p) <;> rfl
 ·unfold Mh;rw[if_neg oo]
 ·obtain⟨h0,h1,h2,_⟩:=h.t _ (List.getElem_mem hj);have q0:=(Gp h.ok h0).1;have q1:=(Gp h.ok h1).1;have q2:=(Gp h.ok h2).1;unfold Mh;rw[if_pos oo,Aib h hj,Ad,jn_d,Bd oo];dsimp only;rw[Vd q0 q1 hp,Ad];unfold covT
  by_cases c1:0<=crs (plV m.V m.T[j].a0) (plV m.V m.T[j].a1) p
  ·rw[if_pos c1,Vd q1 q2 hp,Ad]
   by_cases c2:0<=crs (plV m.V m.T[j].a1) (plV m.V m.T[j].a2) p
   ·rw[if_pos c2,Vd q2 q0 hp,Ad]
    by_cases c3:0<=crs (plV m.V m.T[j].a2) (plV m.V m.T[j].a0) p
    ·simp[c1,c2,c3]
    ·simp[c1,c2,c3]
   ·rw[if_neg c2,if_neg s_,if_neg (by simp[c2])]
  ·rw[if_neg c1,if_neg s_,if_neg (by simp[c1])]
theorem Aj6{p:Aa}(hp:okP p){i:Nat}(hi:i<m.T.length)(hc:covT m.V p m.T[i]=true):Nl m (i:Int) p=some (bndT m.V p m.T[i]):=by
 obtain⟨h0,h1,h2,hpos⟩:=h.t _ (List.getElem_mem hi);obtain⟨q0,z0⟩:=Gp h.ok h0;obtain⟨q1,z1⟩:=Gp h.ok h1;obtain⟨q2,z2⟩:=Gp h.ok h2;have hs:=Ali (plV m.V m.T[i].a0) (plV m.V m.T[i].a1) (plV m.V m.T[i].a2) p;have hb:=Gk q0 q1 q2;unfold Pn at hpos;unfold covT at hc;rw[decide_eq_true_eq] at hc;obtain⟨a,ea,ha⟩:=Lm h0;obtain⟨b,eb,hb'⟩:=Lm h1;obtain⟨c,ec,hc'⟩:=Lm h2;unfold Nl;rw[Aib h hi,Ad];try rw[jn_d]
 dsimp only;rw[Vd q1 q2 hp,Ad,Vd q2 q0 hp,Ad,Vd q0 q1 hp,Ad,At hi,Ad,jn_d,ea,At ha,Ad,Ad];dsimp only;rw[jn_d,eb,At hb',Ad,Ad];dsimp only;rw[jn_d,ec,At hc',Ad,Ad];dsimp only;rw[<- ea,<- eb,<- ec];have ga:zV m.V m.T[i].a0=m.V[a].Z:=by rw[ea,Aia ha]
 have gb:zV m.V m.T[i].a1=m.V[b].Z:=by rw[eb,Aia hb']
 have gc:zV m.V m.T[i].a2=m.V[c].Z:=by rw[ec,Aia hc']
 rw[ga] at z0;rw[gb] at z1;rw[gc] at z2;rw[Arr oo oo oo oo oo (by dsimp only;omega) (by dsimp only;omega) (by dsimp only;omega),Ad,
  Arr oo oo oo oo oo (by dsimp only;omega) (by dsimp only;omega) (by dsimp only;omega),Ad]
 unfold bndT wsum Pn;rw[ga,gb,gc,hs]
theorem Aa1{p:Aa}{t:Ag}(ht:t∈m.T)(hc:covT m.V p t=true):-268435456<=(bndT m.V p t).Lo/\(bndT m.V p t).Lo<=(bndT m.V p t).Hi/\(bndT m.V p t).Hi<=268435456:=by
 obtain⟨h0,h1,h2,hpos⟩:=h.t _ ht;obtain⟨q0,z0⟩:=Gp h.ok h0;obtain⟨q1,z1⟩:=Gp h.ok h1;obtain⟨q2,z2⟩:=Gp h.ok h2;have hs:=Ali (plV m.V t.a0) (plV m.V t.a1) (plV m.V t.a2) p;unfold Pn at hpos;unfold covT at hc;rw[decide_eq_true_eq] at hc;unfold bndT wsum Pn;dsimp only;rw[<- hs];rw[<- hs] at hpos;obtain⟨n0,n1,n2⟩:=hc;generalize crs (plV m.V t.a1) (plV m.V t.a2) p=w0 at *;generalize crs (plV m.V t.a2) (plV m.V t.a0) p=w1 at *;generalize crs (plV m.V t.a0) (plV m.V t.a1) p=w2 at *;generalize zV m.V t.a0=s0 at *;generalize zV m.V t.a1=s1 at *;generalize zV m.V t.a2=s2 at *;have a0:=Int.mul_le_mul_of_nonneg_left (show -268435456<=s0.Lo by omega) n1;have a1:=Int.mul_le_mul_of_nonneg_left (show -268435456<=s1.Lo by omega) n2;have a2:=Int.mul_le_mul_of_nonneg_left (show -268435456<=s2.Lo by omega) n0;have b0:=Int.mul_le_mul_of_nonneg_left (show s0.Hi<=268435456 by omega) n1;have b1:=Int.mul_le_mul_of_nonneg_left (show s1.Hi<=268435456 by omega) n2;have b2:=Int.mul_le_mul_of_nonneg_left (show s2.Hi<=268435456 by omega) n0;have c0:=Int.mul_le_mul_of_nonneg_left (show s0.Lo<=s0.Hi by omega) n1;have c1:=Int.mul_le_mul_of_nonneg_left (show s1.Lo<=s1.Hi by omega) n2;have c2:=Int.mul_le_mul_of_nonneg_left (show s2.Lo<=s2.Hi by omega) n0;generalize w0*s0.Lo=x0 at *;generalize w1*s1.Lo=x1 at *;generalize w2*s2.Lo=x2 at *;generalize w0*s0.Hi=y0 at *;generalize w1*s1.Hi=y1 at *;generalize w2*s2.Hi=y2 at *;generalize hA:w0+w1+w2=A at *;have e1:-268435456<=(x0+x1+x2) / A:=Int.le_ediv_of_mul_le hpos oo;have e2:-268435456<=(-(y0+y1+y2)) / A:=Int.le_ediv_of_mul_le hpos oo;have g1:=Int.mul_ediv_self_le (x:=x0+x1+x2) (k:=A) oo;have g2:=Int.mul_ediv_self_le (x:=-(y0+y1+y2)) (k:=A) oo;refine⟨e1,?_,oo⟩;refine Int.not_lt.1 fun hlt=>?_
 have g3:=Int.mul_le_mul_of_nonneg_left (show -((-(y0+y1+y2)) / A)+1<=(x0+x1+x2) / A by omega) (show 0<=A by omega);rw[Int.mul_add,Int.mul_neg,Int.mul_one] at g3;omega
end
theorem pow8:(65536:Nat) ^ 8=340282366920938463463374607431768211456:=dD
theorem addI{a b:Int}(ha:a.natAbs<65536 ^ 8)(hb:b.natAbs<65536 ^ 8):Ct (QR (a:Rat)) (QR (b:Rat))=some (QR ((a+b:Int):Rat)):=by
 rw[Ba7 (Sml.int ha oo) (Sml.int hb oo) oo,Rat.intCast_add]
theorem subI{a b:Int}(ha:a.natAbs<65536 ^ 8)(hb:b.natAbs<65536 ^ 8):Dd (QR (a:Rat)) (QR (b:Rat))=some (QR ((a-b:Int):Rat)):=by
 rw[Ba8 (Sml.int ha oo) (Sml.int hb oo) oo,Rat.intCast_sub]
theorem mulI{a b:Int}(ha:a.natAbs<65536 ^ 8)(hb:b.natAbs<65536 ^ 8):Ds (QR (a:Rat)) (QR (b:Rat))=some (QR ((a*b:Int):Rat)):=by
 rw[Bea (Sml.int ha oo) (Sml.int hb oo) oo,Rat.intCast_mul]
theorem Apm{x1 y1 x2 y2 x3 y3:Int}(h:∀ z∈[x1,y1,x2,y2,x3,y3],-268435456<=z/\z<=268435456):
  Hw ⟨QR (x1:Rat),QR (y1:Rat)⟩ ⟨QR (x2:Rat),QR (y2:Rat)⟩ ⟨QR (x3:Rat),QR (y3:Rat)⟩=some (QR ((crs ⟨x1,y1⟩ ⟨x2,y2⟩ ⟨x3,y3⟩:Int):Rat)):=by
 have a1:=h x1 s_;have a2:=h y1 s_;have a3:=h x2 s_;have a4:=h y2 s_;have a5:=h x3 s_;have a6:=h y3 s_;have m1:=mulB (x:=x2-x1) (y:=y3-y1) (M:=536870912) (N:=536870912) oo oo oo oo oo;have m2:=mulB (x:=y2-y1) (y:=x3-x1) (M:=536870912) (N:=536870912) oo oo oo oo oo;unfold Hw;dsimp only;rw[subI (by rw[pow8];omega) (by rw[pow8];omega),Ad,subI (by rw[pow8];omega) (by rw[pow8];omega),Ad,mulI (by rw[pow8];omega) (by rw[pow8];omega),Ad,subI (by rw[pow8];omega) (by rw[pow8];omega),Ad,
  subI (by rw[pow8];omega) (by rw[pow8];omega),Ad,mulI (by rw[pow8];omega) (by rw[pow8];omega),Ad,subI (by rw[pow8];omega) (by rw[pow8];omega),Ad]
 rfl
theorem Aic{z S A:Int}(hA:0<A):(z:Rat)<=(S:Rat) / (A:Rat)↔z*A<=S:=by
 have hA':(0:Rat)<(A:Rat):=by rw[show (0:Rat)=((0:Int):Rat) from rfl,Rat.intCast_lt_intCast];exact hA
 have hne:(A:Rat)≠0:=fun e=>by rw[e] at hA';exact absurd hA' dD
 have e:=Rat.div_mul_cancel (a:=(S:Rat)) hne;rw[<- Rat.intCast_le_intCast,Rat.intCast_mul];generalize (S:Rat) / (A:Rat)=y at *;rw[<- e];constructor
 ·intro h;exact Rat.mul_le_mul_of_nonneg_right h (by grind)
 ·intro h;exact Rat.le_of_mul_le_mul_right h hA'
theorem Atv{S A:Int}(hA:0<A):((S:Rat) / (A:Rat)).floor=S / A:=by
 refine Int.le_antisymm ?_ ?_
 ·have h:=(Rat.le_floor_iff (x:=((S:Rat) / (A:Rat)).floor) (a:=(S:Rat) / (A:Rat))).1 (Int.le_refl _);exact Int.le_ediv_of_mul_le hA ((Aic hA).1 h)
 ·rw[Rat.le_floor_iff,Aic hA];exact Int.ediv_mul_le _ oo
theorem At_Q{p:Aa}(hp:okP p):Ip p=some ⟨QR (p.X:Rat),QR (p.Y:Rat)⟩:=by
 unfold okP at hp;unfold Ip;rw[Abj oo oo,Ad,Abj oo oo,Ad]
section
variable {m:Ao} (h:Msh m)
include h
theorem Atw{p:Aa}(hp:okP p){t:Ag}(ht:t∈m.T):Kz m t ⟨QR (p.X:Rat),QR (p.Y:Rat)⟩ =
  some ⟨QR ((crs (plV m.V t.a1) (plV m.V t.a2) p:Int):Rat),QR ((crs (plV m.V t.a2) (plV m.V t.a0) p:Int):Rat),QR ((crs (plV m.V t.a0) (plV m.V t.a1) p:Int):Rat)⟩:=by
 obtain⟨h0,h1,h2,_⟩:=h.t _ ht;have q0:=(Gp h.ok h0).1;have q1:=(Gp h.ok h1).1;have q2:=(Gp h.ok h2).1;obtain⟨a,ea,ha⟩:=Lm h0;obtain⟨b,eb,hb⟩:=Lm h1;obtain⟨c,ec,hc⟩:=Lm h2;have pa:∀ {k:Nat} (hk:k<m.V.length),An m.V[k]=some (plV m.V (k:Int)):=fun hk=>by rw[Tt hk];rfl
 unfold Kz;rw[ea,eb,ec,At ha,Ad,At hb,Ad,At hc,Ad,pa ha,Ad,pa hb,pa hc];rw[ea] at q0;rw[eb] at q1;rw[ec] at q2;rw[At_Q q0,Ad,Ad,At_Q q1,Ad,Ad,At_Q q2,Ad];generalize plV m.V (a:Int)=A at *;generalize plV m.V (b:Int)=B at *;generalize plV m.V (c:Int)=C at *;have all:∀ {u v w:Aa},okP u->okP v->okP w->∀ z∈[u.X,u.Y,v.X,v.Y,w.X,w.Y],-268435456<=z/\z<=268435456:=fun hu hv hw z hz=>by
  unfold okP at hu hv hw;simp only[List.mem_cons,List.not_mem_nil,or_false] at hz;omega
 rw[Apm (all hp q1 q2),Ad,Apm (all q0 hp q2),Ad,Apm (all q0 q1 hp),Ad];have r1:crs p B C=crs B C p:=by unfold crs;grind
 have r2:crs A p C=crs C A p:=by unfold crs;grind
 show some (⟨QR ((crs p B C:Int):Rat),QR ((crs A p C:Int):Rat),QR ((crs A B p:Int):Rat)⟩:Ri)=_;rw[r1,r2]
theorem Aj7{p:Aa}(hp:okP p){t:Ag}(ht:t∈m.T)(b:Bool)(f:Av->Int)(hf:∀ z,f z=if b=true then z.Hi else z.Lo):
  Hx m t ⟨QR (p.X:Rat),QR (p.Y:Rat)⟩ b=some (QR (((wsum m.V p t f:Int):Rat) / ((Pn m.V t:Int):Rat))):=by
 obtain⟨h0,h1,h2,hpos⟩:=h.t _ ht;obtain⟨q0,z0⟩:=Gp h.ok h0;obtain⟨q1,z1⟩:=Gp h.ok h1;obtain⟨q2,z2⟩:=Gp h.ok h2;have hs:=Ali (plV m.V t.a0) (plV m.V t.a1) (plV m.V t.a2) p;have b0:=Gk q1 q2 hp;have b1:=Gk q2 q0 hp;have b2:=Gk q0 q1 hp;have b3:=Gk q0 q1 q2;unfold Pn at hpos;unfold Hx;rw[Atw h hp ht,Ad,show Cs 0=some (QR ((0:Int):Rat)) from Abj oo oo,Ad,Ad];unfold wsum Pn;obtain⟨a,ea,ha⟩:=Lm h0;obtain⟨b',eb,hb⟩:=Lm h1;obtain⟨c,ec,hc⟩:=Lm h2;have hh:∀ {k:Nat} (hk:k<m.V.length),Ex m.V[k] b=some (f (zV m.V (k:Int))):=fun hk=>by
  unfold Ex;rw[Aia hk,hf];cases b <;> rfl
 rw[<- hs];rw[<- hs] at hpos b3;have f0:-268435456<=f (zV m.V t.a0)/\f (zV m.V t.a0)<=268435456:=by rw[hf];split <;> omega
 have f1:-268435456<=f (zV m.V t.a1)/\f (zV m.V t.a1)<=268435456:=by rw[hf];split <;> omega
 have f2:-268435456<=f (zV m.V t.a2)/\f (zV m.V t.a2)<=268435456:=by rw[hf];split <;> omega
 have k0:=hh ha;have k1:=hh hb;have k2:=hh hc;rw[<- ea] at k0;rw[<- eb] at k1;rw[<- ec] at k2;have i0:idx m.V t.a0=some m.V[a]:=by rw[ea];exact At ha
 have i1:idx m.V t.a1=some m.V[b']:=by rw[eb];exact At hb
 have i2:idx m.V t.a2=some m.V[c]:=by rw[ec];exact At hc
 rw[i0,Ad,k0,Ad];generalize f (zV m.V t.a0)=v0 at *;rw[Abj oo oo,Ad];generalize crs (plV m.V t.a1) (plV m.V t.a2) p=w0 at *;generalize crs (plV m.V t.a2) (plV m.V t.a0) p=w1 at *;generalize crs (plV m.V t.a0) (plV m.V t.a1) p=w2 at *;have m0:=mulB (x:=w0) (y:=v0) (M:=576460752303423488) (N:=268435456) oo oo oo oo oo;dsimp only;rw[mulI (by rw[pow8];omega) (by rw[pow8];omega),Ad,addI (by rw[pow8];omega) (by rw[pow8];omega),Ad,addI (by rw[pow8];omega) (by rw[pow8];omega),Ad,i1,Ad,k1,Ad];generalize f (zV m.V t.a1)=v1 at *;have m1:=mulB (x:=w1) (y:=v1) (M:=576460752303423488) (N:=268435456) oo oo oo oo oo;rw[Abj oo oo,Ad,mulI (by rw[pow8];omega) (by rw[pow8];omega),Ad,addI (by rw[pow8];omega) (by rw[pow8];omega),Ad,addI (by rw[pow8];omega) (by rw[pow8];omega),Ad,i2,Ad,k2,Ad];generalize f (zV m.V t.a2)=v2 at *;have m2:=mulB (x:=w2) (y:=v2) (M:=576460752303423488) (N:=268435456) oo oo oo oo oo;rw[Abj oo oo,Ad,mulI (by rw[pow8];omega) (by rw[pow8];omega),Ad,addI (by rw[pow8];omega) (by rw[pow8];omega),Ad,addI (by rw[pow8];omega) (by rw[pow8];omega),Ad];have e1:0+w0*v0+w1*v1+w2*v2=w0*v0+w1*v1+w2*v2:=oo;have e2:0+w0+w1+w2=w0+w1+w2:=oo;rw[e1,e2];have hne:((w0+w1+w2:Int):Rat)≠0:=fun e=>by
  rw[show (0:Rat)=((0:Int):Rat) from rfl,Rat.intCast_inj] at e;omega
 rw[Bdz (Sml.int (k:=8) (by rw[pow8];omega) oo) (Sml.int (k:=8) (by rw[pow8];omega) oo) oo hne,Ad]
end
theorem Aeu(p:Ae):Cu p=some (X.plF p):=rfl
theorem Wg{p:Ae}(hp:X.okPt p=true):okP (X.plF p):=by
 have:=X.okPt_rng hp;unfold okP X.plF;dsimp only;omega
theorem Apn{a b:Av}(ha:-268435456<=a.Lo/\a.Lo<=a.Hi/\a.Hi<=268435456)(hb:-268435456<=b.Lo/\b.Lo<=b.Hi/\b.Hi<=268435456):Uz a b=some (gapI a b)/\0<=gapI a b/\gapI a b<=536870912:=by
 unfold Uz gapI;rw[As (x:=a.Lo-b.Hi) oo oo,As (x:=b.Lo-a.Hi) oo oo];exact⟨rfl,oo,oo⟩
theorem Axm{g q s:Int}(h1:0<=g)(h2:g<4294967296)(h3:0<=s)(h4:s<4294967296)(h5:0<=q)(h6:q<18446744073709551616):Qw g q s=some (decide (g*g*1000000<=s*s*q)):=by
 obtain⟨a,rfl⟩:=Int.eq_ofNat_of_zero_le h1;obtain⟨b,rfl⟩:=Int.eq_ofNat_of_zero_le h3;obtain⟨c,rfl⟩:=Int.eq_ofNat_of_zero_le h5;rw[Awg oo oo oo];congr 1;rw[Bool.eq_iff_iff,decide_eq_true_eq,decide_eq_true_eq,
  show (a:Int)*(a:Int)*1000000=((a*a*1000000:Nat):Int) by rw[Int.natCast_mul,Int.natCast_mul];rfl,
  show (b:Int)*(b:Int)*(c:Int)=((b*b*c:Nat):Int) by rw[Int.natCast_mul,Int.natCast_mul]]
 exact Int.ofNat_le.symm
section
variable {m:Ao} (h:Msh m) {p:Ae} (hp:X.okPt p=true) {r:Am} (hr:X.okRules r=true)
include h hp hr
theorem Atx{t:Ag}(ht:t∈m.T)(i:Int){j:Nat}(hj:j < [t.a0,t.a1,t.a2].length):
  Pu t m p r i (j:Int)=if Mn m.V r p [t.a0,t.a1,t.a2][j]=true then some (.inl ((j+1:Nat):Int)) else some (.inr (.inr (i,false,0))):=by
 obtain⟨h0,h1,h2,_⟩:=h.t _ ht;have hk:inN m.V.length [t.a0,t.a1,t.a2][j]:=by
  have:[t.a0,t.a1,t.a2][j]∈[t.a0,t.a1,t.a2]:=List.getElem_mem hj;simp only[List.mem_cons,List.not_mem_nil,or_false] at this;rcases this with e | e | e <;> rw[e] <;> assumption
 have hj3:j<3:=hj;have hrr:=X.okRules_rng hr;have hpp:=X.okPt_rng hp;unfold Pu;rw[if_pos oo,At hj,Ad,Bd oo];unfold Mn;generalize [t.a0,t.a1,t.a2][j]=k at *;have hz:=Gp h.ok hk;obtain⟨n,rfl,hn⟩:=Lm hk;rw[Aia hn,Tt hn] at hz ⊢;obtain⟨g1,g2,g3⟩:=Apn (a:=p.Z) (b:=m.V[n].Z) oo hz.2;obtain⟨q1,q2,q3⟩:=Atu (Wg hp) hz.1;have sp:Jx m.V[n]=some (pP m.V[n]):=rfl;rw[At hn,Ad,g1,Ad,Aeu,Ad,sp,Ad,q1,Ad,Axm g2 oo oo oo q2 oo,Ad];rfl
theorem Bak:Vj m p r=some (fitV m.V m.T r p):=by
 have hpp:=X.okPt_rng hp;have hq:=Wg hp;unfold Vj;rw[Aeu,Ad,Aj5 h hq,Ad];unfold fitV;cases e:locT m.V m.T (X.plF p) with
 | none=>rfl
 | some i=>
  dsimp only;have e':=e;unfold locT at e';rw[List.findIdx?_eq_some_iff_getElem] at e';obtain⟨hi,hc,_⟩:=e';have hb:=Aa1 h (List.getElem_mem hi) hc;rw[if_neg oo,Ad,Aj6 h hq hi hc,Ad,(Apn (a:=p.Z) oo hb).1,Ad,At hi];dsimp only
  by_cases c:r.Reach<gapI p.Z (bndT m.V (X.plF p) m.T[i])
  ·rw[if_pos c,if_pos c]
  ·rw[if_neg c,if_neg c,jn_d,Ad,Aaq [m.T[i].a0,m.T[i].a1,m.T[i].a2] (Mn m.V r p) (Pu m.T[i] m p r (i:Int)) () ((i:Int),false,0) (fun j hj=>Atx h hp hr (List.getElem_mem hi) _ hj) ?_,Ad]
   ·by_cases c2:Mn m.V r p m.T[i].a0=true/\Mn m.V r p m.T[i].a1=true/\Mn m.V r p m.T[i].a2=true
    ·rw[if_pos c2,if_pos (by simp[c2])]
    ·rw[if_neg c2,if_neg (by simpa using c2)]
   ·unfold Pu;rw[if_neg s_]
end
theorem Apo{α γ:Type}(l:List α)(p:α->Bool)(g:Nat->γ)(B:Int->Option (Sum Int (Sum Unit γ)))(h1:∀ (j:Nat) (h:j<l.length),B j=if p l[j]=true then some (.inr (.inr (g j))) else some (.inl ((j+1:Nat):Int)))(h2:B l.length=some (.inr (.inl ()))):
  lfix B 0=some (match l.findIdx? p with | some i=>.inr (g i) | none=>.inl ()):=by
 have key:∀ (m k:Nat),k<=l.length->l.length-k=m->(∀ j (hj:j<l.length),j<k->p l[j]=false)->lfix B k=some (match l.findIdx? p with | some i=>.inr (g i) | none=>.inl ()):=by
  intro m
  induction m with
  | zero=>
   intro k hk hm hf;obtain rfl:k=l.length:=oo;rw[Bg,h2];have:l.findIdx? p=none:=by
    rw[List.findIdx?_eq_none_iff];intro x hx;obtain⟨j,hj,rfl⟩:=List.getElem_of_mem hx;exact hf j hj hj
   rw[this]
  | succ m ih=>
   intro k hk hm hf;have hlt:k<l.length:=oo;rw[Bg,h1 k hlt]
   by_cases hp:p l[k]=true
   ·rw[if_pos hp];have:l.findIdx? p=some k:=by
     rw[List.findIdx?_eq_some_iff_getElem];exact⟨hlt,hp,fun j hj=>by rw[hf j oo hj];simp⟩
    rw[this]
   ·rw[if_neg hp];refine ih (k+1) oo oo fun j hj hjk=>?_
    by_cases e:j=k
    ·subst e;exact Bool.eq_false_iff.2 hp
    ·exact hf j hj oo
 exact key l.length 0 (Nat.zero_le _) rfl (fun j _ h=>absurd h oo)
structure Anx(m:Ao):Prop where
 msh:Msh m
 chk:Dq m=some 0
section
variable {m:Ao} (h:Msh m)
include h
theorem Bdf{p:Aa}(hp:okP p){t:Ag}(ht:t∈m.T):Rt m t p=some (covT m.V p t):=by
 obtain⟨h0,h1,h2,_⟩:=h.t _ ht;have q0:=(Gp h.ok h0).1;have q1:=(Gp h.ok h1).1;have q2:=(Gp h.ok h2).1;obtain⟨a,ea,ha⟩:=Lm h0;obtain⟨b,eb,hb⟩:=Lm h1;obtain⟨c,ec,hc⟩:=Lm h2;have pa:∀ {k:Nat} (hk:k<m.V.length),An m.V[k]=some (plV m.V (k:Int)):=fun hk=>by rw[Tt hk];rfl
 have sg:∀ z:Int,Int.sign z<0↔¬ 0<=z:=fun z=>by
  rw[Int.sign_neg_iff];omega
 have st:∀ (j:Nat) (u v:Nat),u<m.V.length->v<m.V.length->idx [t.a0,t.a1,t.a2] (j:Int)=some (u:Int)->idx [t.a0,t.a1,t.a2] (Int.tmod (w64 ((j:Int)+1)) 3)=some (v:Int)->j<3->okP (plV m.V (u:Int))->okP (plV m.V (v:Int)) ->
   Dr t m p (j:Int)=if 0<=crs (plV m.V (u:Int)) (plV m.V (v:Int)) p then some (.inl ((j+1:Nat):Int)) else some (.inr (.inr false)):=fun j u v hu hv e1 e2 hj o1 o2=>by
  unfold Dr;rw[if_pos oo,e1,Ad,At hu,Ad,e2,Ad,At hv,Ad,pa hu,Ad,pa hv,Ad,Rx o1 o2 hp,Ad,Bd oo]
  by_cases c:0<=crs (plV m.V (u:Int)) (plV m.V (v:Int)) p
  ·rw[if_pos c,if_neg (by rw[sg];omega)]
  ·rw[if_neg c,if_pos ((sg _).2 c)]
 rw[ea] at q0;rw[eb] at q1;rw[ec] at q2;have t3:∀ {k:Nat},k<3->∃ u v:Nat,idx [t.a0,t.a1,t.a2] (k:Int)=some (u:Int)/\idx [t.a0,t.a1,t.a2] (Int.tmod (w64 ((k:Int)+1)) 3)=some (v:Int)/\((k=0/\u=a/\v=b)\/(k=1/\u=b/\v=c)\/(k=2/\u=c/\v=a)):=fun {k} hk=>by
  rw[ea,eb,ec,Bd oo];rcases (by omega:k=0\/k=1\/k=2) with rfl | rfl | rfl
  ·exact⟨a,b,rfl,rfl,.inl ⟨rfl,rfl,rfl⟩⟩
  ·exact⟨b,c,rfl,rfl,.inr (.inl ⟨rfl,rfl,rfl⟩)⟩
  ·exact⟨c,a,rfl,rfl,.inr (.inr ⟨rfl,rfl,rfl⟩)⟩
 have s0:Dr t m p ((0:Nat):Int)=if 0<=crs (plV m.V (a:Int)) (plV m.V (b:Int)) p then some (.inl ((0+1:Nat):Int)) else some (.inr (.inr false)):=by
  obtain⟨u,v,e1,e2,g⟩:=t3 (show 0<3 by omega);obtain⟨rfl,rfl⟩:u=a/\v=b:=oo;exact st 0 u v ha hb e1 e2 oo q0 q1
 have s1:Dr t m p ((0+1:Nat):Int)=if 0<=crs (plV m.V (b:Int)) (plV m.V (c:Int)) p then some (.inl ((0+1+1:Nat):Int)) else some (.inr (.inr false)):=by
  obtain⟨u,v,e1,e2,g⟩:=t3 (show 0+1<3 by omega);obtain⟨rfl,rfl⟩:u=b/\v=c:=oo;exact st _ u v hb hc e1 e2 oo q1 q2
 have s2:Dr t m p ((0+1+1:Nat):Int)=if 0<=crs (plV m.V (c:Int)) (plV m.V (a:Int)) p then some (.inl ((0+1+1+1:Nat):Int)) else some (.inr (.inr false)):=by
  obtain⟨u,v,e1,e2,g⟩:=t3 (show 0+1+1<3 by omega);obtain⟨rfl,rfl⟩:u=c/\v=a:=oo;exact st _ u v hc ha e1 e2 oo q2 q0
 have s3:Dr t m p ((0+1+1+1:Nat):Int)=some (.inr (.inl ())):=by
  unfold Dr;rw[if_neg oo]
 unfold Rt covT;rw[jn_d,ea,eb,ec];show bnd (lfix (Dr t m p) ((0:Nat):Int)) _=_
 by_cases c0:0<=crs (plV m.V (a:Int)) (plV m.V (b:Int)) p
 ·by_cases c1:0<=crs (plV m.V (b:Int)) (plV m.V (c:Int)) p
  ·by_cases c2:0<=crs (plV m.V (c:Int)) (plV m.V (a:Int)) p
   ·rw[if_pos c0] at s0;rw[if_pos c1] at s1;rw[if_pos c2] at s2;rw[Bg,s0];dsimp only;rw[Bg,s1];dsimp only;rw[Bg,s2];dsimp only;rw[Bg,s3];simp[Ad,c0,c1,c2]
   ·rw[if_pos c0] at s0;rw[if_pos c1] at s1;rw[if_neg c2] at s2;rw[Bg,s0];dsimp only;rw[Bg,s1];dsimp only;rw[Bg,s2];simp[Ad,c2]
  ·rw[if_pos c0] at s0;rw[if_neg c1] at s1;rw[Bg,s0];dsimp only;rw[Bg,s1];simp[Ad,c1]
 ·rw[if_neg c0] at s0;rw[Bg,s0];simp[Ad,c0]
end
theorem Alj{m:Ao}(h:Anx m){p:Aa}(hp:okP p):Je m p=some (match locT m.V m.T p with | some i=>((i:Int),0) | none=>(0,65)):=by
 unfold Je;rw[h.chk,Ad,if_pos rfl,Ar3,Ad,decide_eq_true hp,if_pos rfl,jn_d];have hl:=h.msh.len;have e:=Apo m.T (covT m.V p) (fun i=>((i:Int),(0:Int))) (Ky m p) (fun j hj=>by
  unfold Ky;rw[if_pos oo,At hj,Ad,Bdf h.msh hp (List.getElem_mem hj),Ad,Bd oo]) (by
  unfold Ky;rw[if_neg oo])
 rw[e,Ad];unfold locT;cases m.T.findIdx? (covT m.V p) <;> rfl
theorem Aid{m:Ao}(h:Anx m){p:Aa}(hp:okP p):Ff m p=some (match locT m.V m.T p with | some i=>(match idx m.T (i:Int) with | some t=>(bndT m.V p t,0) | none=>(⟨0,0⟩,0)) | none=>(⟨0,0⟩,65)):=by
 unfold Ff Mk;rw[Alj h hp,Ad];cases e:locT m.V m.T p with
 | none=>rfl
 | some i=>
  have e':=e;unfold locT at e';rw[List.findIdx?_eq_some_iff_getElem] at e';obtain⟨hi,hc,_⟩:=e';have ht:=List.getElem_mem hi;obtain⟨h0,h1,h2,hpos⟩:=h.msh.t _ ht;have hb:=Aa1 h.msh ht hc;dsimp only;rw[if_pos rfl,At hi,Ad,Ad,At_Q hp,Ad,Aj7 h.msh hp ht false (·.Lo) (fun z=>s_),Ad,Ad,Aj7 h.msh hp ht true (·.Hi) (fun z=>s_),Ad,Ad];dsimp only;rw[if_pos rfl];unfold bndT at hb ⊢;dsimp only at hb;have hd:∀ z:Int,-((z:Rat) / ((Pn m.V m.T[i]:Int):Rat))=((-z:Int):Rat) / ((Pn m.V m.T[i]:Int):Rat):=fun z=>by
   rw[Rat.div_def,Rat.div_def,<- Rat.neg_mul,Rat.intCast_neg]
  have fl:=fun z=>Atv (S:=z) hpos
  have hw:wsum m.V p m.T[i] (·.Lo)<=wsum m.V p m.T[i] (·.Hi):=by
   obtain⟨_,z0⟩:=Gp h.msh.ok h0;obtain⟨_,z1⟩:=Gp h.msh.ok h1;obtain⟨_,z2⟩:=Gp h.msh.ok h2;unfold covT at hc;rw[decide_eq_true_eq] at hc;unfold wsum;dsimp only;have c0:=Int.mul_le_mul_of_nonneg_left z0.2.1 hc.2.1;have c1:=Int.mul_le_mul_of_nonneg_left z1.2.1 hc.2.2;have c2:=Int.mul_le_mul_of_nonneg_left z2.2.1 hc.1;omega
  have big:∀ f:Av->Int,(∀ z:Av,-268435456<=z.Lo->z.Lo<=z.Hi->z.Hi<=268435456->-268435456<=f z/\f z<=268435456)->(wsum m.V p m.T[i] f).natAbs<65536 ^ 8:=fun f hf=>by
   obtain⟨q0,z0⟩:=Gp h.msh.ok h0;obtain⟨q1,z1⟩:=Gp h.msh.ok h1;obtain⟨q2,z2⟩:=Gp h.msh.ok h2;have f0:=hf _ z0.1 z0.2.1 z0.2.2;have f1:=hf _ z1.1 z1.2.1 z1.2.2;have f2:=hf _ z2.1 z2.2.1 z2.2.2;have b0:=Gk q1 q2 hp;have b1:=Gk q2 q0 hp;have b2:=Gk q0 q1 hp;have m0:=mulB (M:=576460752303423488) (N:=268435456) oo b0.1 b0.2 f0.1 f0.2;have m1:=mulB (M:=576460752303423488) (N:=268435456) oo b1.1 b1.2 f1.1 f1.2;have m2:=mulB (M:=576460752303423488) (N:=268435456) oo b2.1 b2.2 f2.1 f2.2;unfold wsum;rw[pow8];omega
  have hA8:(Pn m.V m.T[i]).natAbs<65536 ^ 8:=by
   have:=Gk (Gp h.msh.ok h0).1 (Gp h.msh.ok h1).1 (Gp h.msh.ok h2).1;unfold Pn;rw[pow8];omega
  have hne:((Pn m.V m.T[i]:Int):Rat)≠0:=fun e=>by
   rw[show (0:Rat)=((0:Int):Rat) from rfl,Rat.intCast_inj] at e;omega
  have s1:=big (·.Lo) (fun z a b c=>by constructor <;> omega);have s2:=big (·.Hi) (fun z a b c=>by constructor <;> omega);have x1:Sml 16 (((wsum m.V p m.T[i] (·.Lo):Int):Rat) / ((Pn m.V m.T[i]:Int):Rat)):=Sml.div (Sml.int s1 oo) (Sml.int hA8 oo) hne;have x2:Sml 16 (((wsum m.V p m.T[i] (·.Hi):Int):Rat) / ((Pn m.V m.T[i]:Int):Rat)):=Sml.div (Sml.int s2 oo) (Sml.int hA8 oo) hne;have hpos':(0:Rat)<((Pn m.V m.T[i]:Int):Rat):=Rat.intCast_pos.2 hpos;have hxy:¬ ((wsum m.V p m.T[i] (·.Hi):Int):Rat) / ((Pn m.V m.T[i]:Int):Rat)<((wsum m.V p m.T[i] (·.Lo):Int):Rat) / ((Pn m.V m.T[i]:Int):Rat):=fun hlt=>by
   rw[Rat.div_lt_iff hpos',Rat.div_mul_cancel hne,Rat.intCast_lt_intCast] at hlt;omega
  have e2:(if ((wsum m.V p m.T[i] (·.Lo):Int):Rat) / ((Pn m.V m.T[i]:Int):Rat)<((wsum m.V p m.T[i] (·.Hi):Int):Rat) / ((Pn m.V m.T[i]:Int):Rat) then ((wsum m.V p m.T[i] (·.Hi):Int):Rat) / ((Pn m.V m.T[i]:Int):Rat) else ((wsum m.V p m.T[i] (·.Lo):Int):Rat) / ((Pn m.V m.T[i]:Int):Rat))=((wsum m.V p m.T[i] (·.Hi):Int):Rat) / ((Pn m.V m.T[i]:Int):Rat):=by
   split
   ·rfl
   ·rename_i hlt;exact Rat.le_antisymm (Rat.not_lt.1 hxy) (Rat.not_lt.1 hlt)
  have ar:=Avh x1 x2 oo (by rw[if_neg hxy,fl];omega) (by rw[e2,hd,fl];omega);rw[if_neg hxy,e2,hd,fl,fl] at ar;rw[ar,Ad]
theorem Ars{a b:Av}(ha:-268435456<=a.Lo/\a.Lo<=a.Hi/\a.Hi<=268435456)(hb:-268435456<=b.Lo/\b.Lo<=b.Hi/\b.Hi<=268435456):Gj a b=some (gapI a b):=by
 have hv:∀ {c:Av},-268435456<=c.Lo/\c.Lo<=c.Hi/\c.Hi<=268435456->Kd c=some true:=fun hc=>by
  unfold Kd;rw[jn_d,if_pos oo,if_pos oo,decide_eq_true oo]
 unfold Gj Sq;rw[jn_d,hv ha,Ad,if_pos rfl,hv hb,Ad];dsimp only;rw[if_neg s_,Ad,As oo oo];unfold gapI;dsimp only;congr 1;omega
theorem dig8{z:Int}(h:z.natAbs<65536 ^ 8):(dig 65536 z.natAbs).length<=8:=Eu h
theorem Axn{a b:Int}(ha:a.natAbs<65536 ^ 8)(hb:b.natAbs<65536 ^ 8):Ba (Z16 a) (Z16 b)=some (Z16 (a*b)):=Ajq (by have:=dig8 ha;have:=dig8 hb;omega)
theorem Bez{a b:Int}(ha:a.natAbs<65536 ^ 8)(hb:b.natAbs<65536 ^ 8):Dm (Z16 a) (Z16 b)=some (Int.sign (a-b)):=by
 unfold Dm;rw[Ak8,Ad,Ba6 (by have:=dig8 ha;omega) (by have:=dig8 (z:=-b) (by rw[Int.natAbs_neg];exact hb);omega),Ad,Av3,Ad,Int.sub_eq_add_neg]
section
variable {m:Ao} (h:Msh m) {p:Ae} (hp:X.okPt p=true) {r:Am} (hr:X.okRules r=true)
include h hp hr
theorem Aa2{k:Int}(hk:inN m.V.length k)(R:Option (Bool × Int × Int)):
  (bnd (idx m.V k) fun x32=>
   bnd (Fz (⟨0,x32.X,x32.Y,(⟨0,0⟩:Av),0,0,0,0⟩:Ae) p) fun r45=>
   bnd (Gj p.Z x32.Z) fun r48=>
   bnd (Be r48) fun r51=>
   jn (fun (s21:Bool × List Int)=>
   bnd (Be (w64 (r.Slope*r.Slope))) fun r136=>
   bnd (Be r45) fun r141=>
   bnd (Ba r136 r141) fun r150=>
   bnd (Dm (⟨s21.1,s21.2⟩:Af) r150) fun r159=>
   if 0<r159 then (some (false,0,0))
   else R)
   (fun j21=>bnd (Be 1000000) fun r57=>
   bnd (Ba r57 r51) fun r66=>
   bnd (Ba r66 r51) fun r75=>
   j21 (r75.Neg,r75.L)))=if Mn m.V r p k=true then R else some (false,0,0):=by
 have hrr:=X.okRules_rng hr;have hpp:=X.okPt_rng hp;unfold Mn;have hz:=Gp h.ok hk;obtain⟨n,rfl,hn⟩:=Lm hk;rw[Aia hn,Tt hn] at hz ⊢;obtain⟨z1,z2⟩:=hz;obtain⟨_,g2,g3⟩:=Apn (a:=p.Z) (b:=m.V[n].Z) oo z2;have ap:Fz (⟨0,m.V[n].X,m.V[n].Y,(⟨0,0⟩:Av),0,0,0,0⟩:Ae) p=some ((p.X-(pP m.V[n]).X)*(p.X-(pP m.V[n]).X)+(p.Y-(pP m.V[n]).Y)*(p.Y-(pP m.V[n]).Y)) /\
   0<=(p.X-(pP m.V[n]).X)*(p.X-(pP m.V[n]).X)+(p.Y-(pP m.V[n]).Y)*(p.Y-(pP m.V[n]).Y)/\(p.X-(pP m.V[n]).X)*(p.X-(pP m.V[n]).X)+(p.Y-(pP m.V[n]).Y)*(p.Y-(pP m.V[n]).Y)<=576460752303423488:=by
  unfold okP pP at z1;dsimp only at z1;obtain⟨a1,a2,a3,a4⟩:=X.sq_w (a:=m.V[n].X) (b:=p.X) oo oo;obtain⟨b1,b2,b3,b4⟩:=X.sq_w (a:=m.V[n].Y) (b:=p.Y) oo oo;have s1:(p.X-(pP m.V[n]).X)*(p.X-(pP m.V[n]).X)=(m.V[n].X-p.X)*(m.V[n].X-p.X):=by unfold pP;dsimp only;grind
  have s2:(p.Y-(pP m.V[n]).Y)*(p.Y-(pP m.V[n]).Y)=(m.V[n].Y-p.Y)*(m.V[n].Y-p.Y):=by unfold pP;dsimp only;grind
  rw[s1,s2];refine⟨?_,oo,oo⟩;unfold Fz;dsimp only;rw[a1,b1,a2,b2,As oo oo]
 obtain⟨ap1,ap2,ap3⟩:=ap;rw[At hn,Ad,ap1,Ad,Ars (a:=p.Z) oo z2,Ad];generalize (p.X-(pP m.V[n]).X)*(p.X-(pP m.V[n]).X)+(p.Y-(pP m.V[n]).Y)*(p.Y-(pP m.V[n]).Y)=e at *;generalize gapI p.Z m.V[n].Z=g at *;have ss:=mulB (x:=r.Slope) (y:=r.Slope) (M:=100000) (N:=100000) oo oo oo oo oo;have se:=mulB (x:=r.Slope*r.Slope) (y:=e) (M:=10000000000) (N:=576460752303423488) oo oo oo oo oo;have gg:=mulB (x:=1000000*g) (y:=g) (M:=1000000*536870912) (N:=536870912) oo oo oo oo oo;rw[Xv oo oo,Ad,jn_d,Xv oo oo,Ad,Axn (by rw[pow8];omega) (by rw[pow8];omega),Ad,Axn (by rw[pow8];omega) (by rw[pow8];omega),Ad];dsimp only;rw[As oo oo,Xv oo oo,Ad,Xv oo oo,Ad,Axn (by rw[pow8];omega) (by rw[pow8];omega),Ad];show bnd (Dm (Z16 (1000000*g*g)) (Z16 (r.Slope*r.Slope*e))) _=_;rw[Bez (by rw[pow8];omega) (by rw[pow8];omega),Ad];have e1:1000000*g*g=g*g*1000000:=by grind
 rw[e1];have sp:0<Int.sign (g*g*1000000-r.Slope*r.Slope*e)↔0<g*g*1000000-r.Slope*r.Slope*e:=X.sign_pos
 by_cases c:g*g*1000000<=r.Slope*r.Slope*e
 ·rw[if_neg (by rw[sp];omega),if_pos (decide_eq_true c)]
 ·rw[if_pos (by rw[sp];omega),if_neg (by simpa using c)]
end
theorem Axo{m:Ao}(h:Anx m){p:Ae}(hp:X.okPt p=true){r:Am}(hr:X.okRules r=true):
  Md m p r=some (if (fitV m.V m.T r p).2.1=true then (true,(fitV m.V m.T r p).2.2,(fitV m.V m.T r p).1) else (false,0,0)):=by
 have hpp:=X.okPt_rng hp;have hq:=Wg hp;cases e:locT m.V m.T (X.plF p) with
 | none=>
  unfold Md fitV;rw[show (⟨p.X,p.Y⟩:Aa)=X.plF p from rfl,Alj h hq,e,Ad];rfl
 | some i=>
  have e':=e;unfold locT at e';rw[List.findIdx?_eq_some_iff_getElem] at e';obtain⟨hi,hc,_⟩:=e';have ht:=List.getElem_mem hi;obtain⟨h0,h1,h2,_⟩:=h.msh.t _ ht;have hb:=Aa1 h.msh ht hc;have hB:Ff m (X.plF p)=some (bndT m.V (X.plF p) m.T[i],0):=by
   rw[Aid h hq,e];dsimp only;rw[At hi]
  have hF:Je m (X.plF p)=some ((i:Int),0):=by rw[Alj h hq,e]
  have hV:fitV m.V m.T r p=if r.Reach<gapI p.Z (bndT m.V (X.plF p) m.T[i]) then ((i:Int),false,0) else
    if Mn m.V r p m.T[i].a0=true/\Mn m.V r p m.T[i].a1=true/\Mn m.V r p m.T[i].a2=true then ((i:Int),true,gapI p.Z (bndT m.V (X.plF p) m.T[i])) else ((i:Int),false,0):=by
   unfold fitV;rw[e];dsimp only;rw[At hi]
  rw[hV];unfold Md;rw[show (⟨p.X,p.Y⟩:Aa)=X.plF p from rfl,hF,Ad];dsimp only;rw[if_pos rfl,hB,Ad,At hi];dsimp only;rw[Ars (a:=p.Z) oo hb,Ad]
  by_cases c:r.Reach<gapI p.Z (bndT m.V (X.plF p) m.T[i])
  ·rw[if_pos c,if_pos c];rfl
  ·rw[if_neg c,if_neg c,Ad];refine (Aa2 h.msh hp hr h0 _).trans ?_
   by_cases g0:Mn m.V r p m.T[i].a0=true
   ·rw[if_pos g0,Ad];refine (Aa2 h.msh hp hr h1 _).trans ?_
    by_cases g1:Mn m.V r p m.T[i].a1=true
    ·rw[if_pos g1,Ad];refine (Aa2 h.msh hp hr h2 _).trans ?_
     by_cases g2:Mn m.V r p m.T[i].a2=true
     ·rw[if_pos g2];simp[g0,g1,g2]
     ·rw[if_neg g2];simp[g2]
    ·rw[if_neg g1];simp[g1]
   ·rw[if_neg g0];simp[g0]
end Go.Proofs.YthlkpgdfifnagaaGreat
namespace Go.Proofs.YthlkpgdfifnagaaGreat
open Go Go.RowKit Go.Sort
def Art(v:List Ac)(T:List Ag)(p:Ae):Option Av:=match locT v T (X.plF p) with
 | none=>none
 | some i=>match idx T (i:Int) with
  | none=>none
  | some t=>some ⟨p.Z.Lo-(bndT v (X.plF p) t).Hi,p.Z.Hi-(bndT v (X.plF p) t).Lo⟩
section
variable {m:Ao} (h:Msh m) {p:Ae} (hp:X.okPt p=true)
include h hp
theorem Aru:Vl m p=some (match Art m.V m.T p with | some s=>(s,true) | none=>(⟨0,0⟩,false)):=by
 have hpp:=X.okPt_rng hp;have hq:=Wg hp;unfold Vl;rw[Aeu,Ad,Aj5 h hq,Ad];unfold Art;cases e:locT m.V m.T (X.plF p) with
 | none=>rfl
 | some i=>
  dsimp only;have e':=e;unfold locT at e';rw[List.findIdx?_eq_some_iff_getElem] at e';obtain⟨hi,hc,_⟩:=e';have hb:=Aa1 h (List.getElem_mem hi) hc;rw[if_neg oo,Ad,Aj6 h hq hi hc,Ad,At hi,As oo oo,As oo oo]
end
section
variable {l:List Ae} {r:Am} (hl:X.validL l=true) (hr:X.okRules r=true) {m:Ao} (h:Msh m) {g:List Int} (hg:g.length<=1000000)
include hl hr h hg
end
theorem Bal{m:Ao}(h1:m.V.length<=20)(h2:m.T.length<=60)(h3:m.Lines.length<=30)(e:Ig m=some 0)(e':Dq m=some 0):Anx m:=by
 by_cases h:Ny m.V=0
 ·by_cases g:Oa m.V m.Lines=0
  ·obtain⟨hn,hg,hv⟩:=Sg h;obtain⟨T,t1,_,t3,_,_,_,t4⟩:=Ae3 h oo g;have eT:T=m.T:=by
    obtain⟨x,x1,x2⟩:=Ajs T m.T oo;unfold Ig at e;rw[t1,Ad,jn_d] at e;dsimp only at e;rw[if_pos rfl,x1,Ad] at e;cases x with
    | true=>exact x2.1 rfl
    | false=>simp at e
   subst eT;refine⟨⟨hn,hg,oo,fun t ht=>?_⟩,e'⟩;rcases t4 with⟨_,f⟩|⟨_,mm,hM,hT⟩
   ·rw[f] at ht;cases ht
   ·obtain⟨_,_,k⟩:=(hT.mem t).1 ht;obtain⟨k1,k2,k3,k4⟩:=hM.tri.ccw _ _ _ k;exact⟨k1,k2,k3,k4⟩
  ·unfold Ig at e;rw[Ah0 h oo g,Ad,jn_d] at e;dsimp only at e;rw[if_neg g] at e;simp at e
 ·unfold Ig at e;rw[Agv h,Ad,jn_d] at e;dsimp only at e;rw[if_neg h] at e;simp at e
theorem Anz{m:Ao}(h:Anx m){p:Ae}(hp:X.okPt p=true):Pg m p=some (match Art m.V m.T p with | some s=>(s,true) | none=>(⟨0,0⟩,false)):=by
 have hpp:=X.okPt_rng hp;have hq:=Wg hp;have hb0:=Aid h hq;unfold Pg Art;rw[show (⟨p.X,p.Y⟩:Aa)=X.plF p from rfl];cases e:locT m.V m.T (X.plF p) with
 | none=>
  rw[e] at hb0;rw[hb0];rfl
 | some i=>
  have e':=e;unfold locT at e';rw[List.findIdx?_eq_some_iff_getElem] at e';obtain⟨hi,hc,_⟩:=e';have hb:=Aa1 h.msh (List.getElem_mem hi) hc;rw[e] at hb0;dsimp only at hb0 ⊢;rw[At hi] at hb0 ⊢;rw[hb0,Ad];dsimp only;rw[if_pos rfl,As oo oo,As oo oo]
theorem Bam{v:List Ac}{T:List Ag}{r:Am}{p:Ae}(h:(fitV v T r p).2.1=false):(fitV v T r p).2.2=0:=by
 revert h;unfold fitV;split
 ·exact fun _=>rfl
 ·split
  ·exact fun _=>rfl
  ·split
   ·exact fun _=>rfl
   ·split
    ·intro h;cases h
    ·exact fun _=>rfl
theorem Alk(m:Ao)(p:Ae)(r:Am):Iq m p r=some true:=by
 have fin:(bnd Hv fun r=>some r)=some true:=by rw[X.first_eq,Ad]
 have both:Jd m=some false->∃ a b,Vk m p r=some a/\Pf m p r=some a/\Vm m p=some b/\Ph m p=some b:=fun hw=>by
  have hb:m.V.length<=20/\m.T.length<=60/\m.Lines.length<=30:=by
   unfold Jd at hw;rw[jn_d] at hw
   by_cases c1:(20:Int)<(m.V.length:Int)
   ·rw[if_pos c1] at hw;simp at hw
   ·rw[if_neg c1] at hw
    by_cases c2:(60:Int)<(m.T.length:Int)
    ·rw[if_pos c2] at hw;simp at hw
    ·rw[if_neg c2] at hw;simp at hw;omega
  obtain⟨b1,b2,b3⟩:=hb;obtain⟨c,e1,e2,e3⟩:=Ao4 m oo oo oo;unfold Vk Pf Vm Ph;rw[X.rules_eq,X.rrules_eq,X.validPoint_eq,X.one_eq,Ad,Ad,Ad,Ad];have n0:¬ (64:Int)=0:=dD;cases g2:X.okPt p with
  | false=>
   cases g1:X.okRules r <;> simp only[Ad,if_true,Bool.false_eq_true,if_false] <;> exact⟨_,_,rfl,rfl,rfl,rfl⟩
  | true=>
   rcases e3 with rfl | rfl
   ·have hC:=Bal b1 b2 b3 e1 e2;cases g1:X.okRules r with
    | false=>
     simp only[Ad,if_true,Bool.false_eq_true,if_false,e1,e2,Aru hC.msh g2,Anz hC g2];exact⟨_,_,rfl,rfl,rfl,rfl⟩
    | true=>
     simp only[Ad,if_true,e1,e2,Aru hC.msh g2,Anz hC g2,Bak hC.msh g2 g1,Axo hC g2 g1];refine⟨_,_,rfl,?_,rfl,rfl⟩;split
     ·rename_i q;rw[q]
     ·rename_i q;rw[eq_false_of_ne_true q,Bam (eq_false_of_ne_true q)]
   ·cases g1:X.okRules r <;> simp only[Ad,if_true,Bool.false_eq_true,if_false,e1,e2,if_neg n0] <;> exact⟨_,_,rfl,rfl,rfl,rfl⟩
 obtain⟨w,hw⟩:∃ w,Jd m=some w:=by
  unfold Jd;rw[jn_d];split
  ·exact⟨_,rfl⟩
  ·split <;> exact⟨_,rfl⟩
 unfold Iq;cases w with
 | true=>
  rw[hw,Ad,if_pos rfl];exact fin
 | false=>
  obtain⟨a,b,f1,f2,f3,f4⟩:=both hw;rw[hw,Ad,if_neg dD,f1,f2,f3,f4,Ad,Ad,Ad,Ad,jn_d];simp only[beq_self_eq_true,Bool.and_self,if_true];rw[X.first_eq,Ad]
end Go.Proofs.YthlkpgdfifnagaaGreat
namespace Go.Proofs.YthlkpgdfifnagaaGreat
open Go.ChangeShapes Go.WideShapes Go.ChangeAt Go.RowKit
theorem own2:ownKnob Tryz.prog.godebug=none:=kr
theorem Aie:laidOutB Tryz.prog=true:=kr
def rI64(z:Int):Prop:=-9223372036854775808<=z/\z<=9223372036854775807
theorem Ac4{cs:List Value}{o:Nat}(h:cs.length=o):cs.drop o=[]:=by rw[<- h,List.drop_length]
theorem Dl{cs X R:List Value}{o k o':Nat}(h1:(cs.drop o).take k=X)(h2:cs.drop o'=R)(ho:o'=o+k):cs.drop o=X++R:=by
 subst ho;rw[<- h1,<- h2,<- List.drop_drop,List.take_append_drop]
section
variable {H:Type} {enc:TypeId × Value->H} {w:World} {base:Nat} {spare:Nat->Bool} {held:Bool} {P:Program}
theorem Bdg{t:TypeId}(ht:P.underlying t=some (.int .i64)){fuel:Nat}{cs:List Value}{x:DataW H × List MemPlace}(h:DataW.trod enc P w base spare held fuel t cs=some x):∃ z:Int,cs=[.int .i64 z]/\rI64 z:=by
 obtain⟨n,hc,_,hw⟩:=DataW.trod_int ht h;refine⟨n,hc,?_⟩;have h1:IntKind.i64.min = -9223372036854775808:=rfl;have h2:IntKind.i64.max=9223372036854775807:=rfl;simp only[Lit.wf,Bool.and_eq_true,decide_eq_true_eq] at hw;unfold rI64;omega
theorem Aif{α:Type}{en:α->List Value}{okα:α->Prop}{t e:TypeId}{sz:Nat}(ht:P.underlying t=some (.slice e))(hsz:P.cellsOf e=sz)(hp:0<sz)(hel:∀ {fuel:Nat} {cs:List Value} {x:DataW H × List MemPlace},DataW.trod enc P w base spare held fuel e cs=some x->∃ v,cs=en v/\okα v){fuel:Nat}{cs:List Value}{x:DataW H × List MemPlace}(h:DataW.trod enc P w base spare held fuel t cs=some x):
  ∃ (v:List α) (A:Option Addr) (c:Nat),cs=[.slice A v.length c]/\Has [.old w] A v.length c sz en v/\∀ z∈v,okα z:=by
 rcases Go.Deep.open_slice ht h with⟨rfl,_⟩|⟨a,len,cap,m,n,D,Pl,rfl,hb,hl,hm,hmm,_,hx⟩
 ·exact⟨[],none,0,rfl,Has.nil,fun z hz=>by simp at hz⟩
 ·have hle:len<=m:=by rw[hmm];split <;> omega
  have key:∀ k,k<=len->∃ v:List α,v.length=k/\(∀ z∈v,okα z)/\∀ i (hi:i<v.length),w.cells? base (a.add (i*sz)) sz=some (en v[i]):=by
   intro k
   induction k with
   | zero=>intro _;exact⟨[],rfl,fun z hz=>by simp at hz,fun i hi=>by simp at hi⟩
   | succ k ih=>
    intro hk;obtain⟨v,h1,h2,h3⟩:=ih oo;obtain⟨cs',h4,h5⟩:=hx k oo;obtain⟨z,rfl,hz⟩:=hel h5;rw[hsz] at h4;refine⟨v++[z],by simp[h1],fun y hy=>?_,fun i hi=>?_⟩
    ·rcases List.mem_append.1 hy with hy | hy
     ·exact h2 y hy
     ·simp at hy;subst hy;exact hz
    ·simp at hi;rcases Nat.lt_or_ge i v.length with hlt | hge
     ·rw[List.getElem_append_left hlt];exact h3 i hlt
     ·have:i=k:=oo;subst this;rw[List.getElem_append_right hge];simp[h1];exact h4
  obtain⟨v,h1,h2,h3⟩:=key len (Nat.le_refl _);subst h1;have hesz:∀ z∈v,(en z).length=sz:=by
   intro z hz;obtain⟨i,hi,rfl⟩:=List.getElem_of_mem hz;exact (World.cells?_some (h3 i hi)).2.1
  have hsl:Sl w (some a) v.length cap sz en v:=by
   refine⟨rfl,hl,hm,hesz,fun hn=>?_⟩;have hsp:a.spot=none:=by
    have h4:=(World.cells?_some (h3 0 hn)).2.2 0 hp;have h5:(en v[0])[0]? = some ((en v[0])[0]'(by rw[hesz _ (List.getElem_mem hn)];exact hp)):=List.getElem?_eq_getElem _;rw[h5] at h4;simp only[Nat.zero_mul,Addr.add,if_true] at h4;unfold World.cell? at h4;split at h4
    ·split at h4
     ·cases h4
     ·rename_i hs;simpa using hs
    ·cases h4
   obtain⟨b,o,sp⟩:=a;have hsp:sp=none:=hsp;subst hsp;refine⟨b,o,rfl,fun i hi j u hu=>?_⟩;have hj:j<sz:=by rw[<- hesz _ (List.getElem_mem hi)];exact (List.getElem?_eq_some_iff.1 hu).1
   have h4:=(World.cells?_some (h3 i hi)).2.2 j hj;rw[hu,Addr.add_lit,Addr.add_lit] at h4;exact h4
  exact⟨v,some a,cap,rfl,hsl.has,h2⟩
end
theorem Be0(w:World):∀ e∈[Ent.old w],Ent.ok w e:=fun e he=>by simp at he;subst he;exact⟨Below.refl _ _,Nat.le_refl _⟩
end Go.Proofs.YthlkpgdfifnagaaGreat
