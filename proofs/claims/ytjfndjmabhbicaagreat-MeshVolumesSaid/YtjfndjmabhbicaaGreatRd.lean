/- The volume between a mesh and a height. -/
import Derived.Test.YtjfndjmabhbicaaGreatZ4
import Derived.Test.YtjfndjmabhbicaaGreatU22
import Derived.Test.YtjfndjmabhbicaaGreatX5
import Derived.Test.YtjfndjmabhbicaaGreatFlow2
import Derived.Test.YtjfndjmabhbicaaGreatRows
import Derived.ProofKit
import Derived.OpenShut
import Derived.ShutString
import Derived.ChangeOld
import Derived.Below
import Derived.Carry
import Derived.ChangeArms
import Derived.Deep.Slices
namespace Go.Proofs.YtjfndjmabhbicaaGreat
open Go Go.RowKit
theorem vadd (k:Dj) {x y:Int} (hx:x.natAbs < 85070591730234615865843651857942052864) (hy:y.natAbs < 85070591730234615865843651857942052864):Nt k (CR x 1) (CR y 1)=some (CR (x+y) 1):=by
 obtain ⟨n,h1,h2⟩:=Ayl (x:=x) (y:=y) (d:=1) (e:=1) (by omega) (by omega) (by omega) (by omega) hx hy
 rw[show x*((1:Nat):Int)+y*((1:Nat):Int)=x+y by omega,Nat.mul_one] at h2
 unfold Nt Vh
 rw[An0 (Abd (by omega) (by omega)) (Abd (by omega) (by omega)),Ad,if_neg (by simp),of_eq (by omega) (by omega) (by omega) (Nat.gcd_one_right _),Ad,of_eq (by omega) (by omega) (by omega) (Nat.gcd_one_right _),Ad,h1,Ad,
  Aih h2 (by omega) (by omega) (Red.id (Nat.gcd_one_right _) (by omega)),Ad,Ad]
theorem vmul (k:Dj) {x y:Int} (hx:x.natAbs < 1000000000000000000000) (hy:y.natAbs < 10000000000000000):Nu k (CR x 1) (CR y 1)=some (CR (x*y) 1):=by
 obtain ⟨n,h1,h2⟩:=Aym (x:=x) (y:=y) (d:=1) (e:=1) (by omega) (by omega) (by omega) (by omega)
 rw[Nat.mul_one] at h2
 have hb:(x*y).natAbs<=1000000000000000000000*10000000000000000:=by rw[Int.natAbs_mul];exact Nat.mul_le_mul (by omega) (by omega)
 unfold Nu Vi
 rw[An0 (Abd (by omega) (by omega)) (Abd (by omega) (by omega)),Ad,if_neg (by simp),of_eq (by omega) (by omega) (by omega) (Nat.gcd_one_right _),Ad,of_eq (by omega) (by omega) (by omega) (Nat.gcd_one_right _),Ad,h1,Ad,
  Aih h2 (by omega) (by omega) (Red.id (Nat.gcd_one_right _) (by omega)),Ad,Ad]
section
variable {v:List Ab} {L:List Aa} {T:List Ae} {m:Mp}
def hz (v:List Ab) (h:Bool) (i:Int):Int:=match idx v i with
 | some x=>if h=true then x.Z.Hi else x.Z.Lo
 | none=>0
def Fn (v:List Ab) (t:Ae):Int:=crs (plV v t.a0) (plV v t.a1) (plV v t.a2)
def vol (v:List Ab) (b:Int) (h:Bool) (t:Ae):Int:=Fn v t*(hz v h t.a0+hz v h t.a1+hz v h t.a2-3*b)
structure MesV (v:List Ab) (T:List Ae):Prop where
 ok:∀ x∈v,La x
 len:T.length<=1048576
 cor:∀ t∈T,inN v.length t.a0/\inN v.length t.a1/\inN v.length t.a2
theorem MesV.at_ (h:MesV v T) {i:Int} (hi:inN v.length i):∃ x,idx v i=some x/\La x/\(⟨x.X,x.Y⟩:Ac)=plV v i/\okP (plV v i)/\hz v false i=x.Z.Lo/\hz v true i=x.Z.Hi:=by
 unfold inN at hi
 obtain ⟨k,rfl⟩:∃ k:Nat,i=(k:Int):=⟨i.toNat,by omega⟩
 have hk:k < v.length:=by omega
 have g:=h.ok _ (List.getElem_mem hk)
 refine ⟨v[k],Bb hk,g,?_,?_,?_,?_⟩
 ·rw[Zz hk];rfl
 ·rw[Zz hk];exact g.1
 ·unfold hz;rw[Bb hk];rfl
 ·unfold hz;rw[Bb hk];rfl
theorem Ayu {a b c:Ac} (ha:okP a) (hb:okP b) (hc:okP c):-576460752303423488<=crs a b c/\crs a b c<=576460752303423488:=by
 unfold okP at ha hb hc
 have m1:=mulB (x:=b.X-a.X) (y:=c.Y-a.Y) (M:=536870912) (N:=536870912) (by omega) (by omega) (by omega) (by omega) (by omega)
 have m2:=mulB (x:=b.Y-a.Y) (y:=c.X-a.X) (M:=536870912) (N:=536870912) (by omega) (by omega) (by omega) (by omega) (by omega)
 unfold crs
 omega
theorem MesV.tri (h:MesV v T) {t:Ae} (ht:t∈T) (hi:Bool):(-576460752303423488<=Fn v t/\Fn v t<=576460752303423488)/\(-268435456<=hz v hi t.a0/\hz v hi t.a0<=268435456)/\(-268435456<=hz v hi t.a1/\hz v hi t.a1<=268435456)/\(-268435456<=hz v hi t.a2/\hz v hi t.a2<=268435456):=by
 obtain ⟨h0,h1,h2⟩:=h.cor t ht
 have key:∀ i,inN v.length i->-268435456<=hz v hi i/\hz v hi i<=268435456:=fun i hi'=>by
  obtain ⟨x,_,⟨_,g1,g2,g3⟩,_,_,e1,e2⟩:=h.at_ hi'
  cases hi
  ·rw[e1];omega
  ·rw[e2];omega
 obtain ⟨_,_,_,_,o0,_⟩:=h.at_ h0
 obtain ⟨_,_,_,_,o1,_⟩:=h.at_ h1
 obtain ⟨_,_,_,_,o2,_⟩:=h.at_ h2
 exact ⟨Ayu o0 o1 o2,key _ h0,key _ h1,key _ h2⟩
theorem Ama (h:MesV v T) {b:Int} (hb:-268435456<=b/\b<=268435456) {t:Ae} (ht:t∈T) (hi:Bool):(vol v b hi t).natAbs<=928455029464035206174343168:=by
 obtain ⟨⟨a1,a2⟩,⟨b1,b2⟩,⟨c1,c2⟩,d1,d2⟩:=h.tri ht hi
 unfold vol
 have:=mulB (x:=Fn v t) (y:=hz v hi t.a0+hz v hi t.a1+hz v hi t.a2-3*b) (M:=576460752303423488) (N:=1610612736) (by omega) (by omega) (by omega) (by omega) (by omega)
 omega
theorem Amb {α:Type} {f:α->Int} {B:Nat}:∀ {l:List α},(∀ x∈l,(f x).natAbs<=B)->(tot f l).natAbs<=l.length*B
 | [],_=>by simp[tot]
 | x::r,h=>by
  have h1:=h x List.mem_cons_self
  have h2:=Amb (l:=r) fun y hy=>h y (List.mem_cons_of_mem _ hy)
  have e:(x::r).length*B=r.length*B+B:=by rw[List.length_cons,Nat.succ_mul]
  rw[e]
  show (f x+tot f r).natAbs<=_
  generalize r.length*B=q at *
  omega
theorem Xw {α:Type} (f:α->Int) (l:List α) (x:α):tot f (l++[x])=tot f l+f x:=by
 rw[Aaa]
 show tot f l+(f x+0)=_
 omega
theorem Tx (h:MesV v T) {b:Int} (hb:-268435456<=b/\b<=268435456) (hi:Bool) (k:Nat):(tot (vol v b hi) (T.take k)).natAbs<=973555660975280180349468061728768:=by
 have h1:=Amb (f:=vol v b hi) (B:=928455029464035206174343168) (l:=T.take k) fun t ht=>Ama h hb (List.mem_of_mem_take ht) hi
 have h2:(T.take k).length<=1048576:=by have:=h.len;rw[List.length_take];omega
 have h3:(T.take k).length*928455029464035206174343168<=1048576*928455029464035206174343168:=Nat.mul_le_mul h2 (Nat.le_refl _)
 omega
theorem As3 (h:MesV v T) {b:Int} (hb:-268435456<=b/\b<=268435456) :
  lfix (Ox ⟨v,T,L⟩ b) (false,[],[],false,[],[],0)=some ((CR (tot (vol v b false) T) 1).Neg,(CR (tot (vol v b false) T) 1).Num,[],(CR (tot (vol v b true) T) 1).Neg,(CR (tot (vol v b true) T) 1).Num,[]):=by
 have hl:=h.len
 obtain ⟨r,r1,r2⟩:=Bl (B:=Ox ⟨v,T,L⟩ b) (fun s=>T.length-s.2.2.2.2.2.2.toNat)
  (fun s=>∃ k:Nat,k<=T.length/\s=((CR (tot (vol v b false) (T.take k)) 1).Neg,(CR (tot (vol v b false) (T.take k)) 1).Num,[],(CR (tot (vol v b true) (T.take k)) 1).Neg,(CR (tot (vol v b true) (T.take k)) 1).Num,[],(k:Int)))
  (fun r=>r=((CR (tot (vol v b false) T) 1).Neg,(CR (tot (vol v b false) T) 1).Num,[],(CR (tot (vol v b true) T) 1).Neg,(CR (tot (vol v b true) T) 1).Num,[])) (by
   rintro s ⟨k,hk,rfl⟩
   unfold Ox
   dsimp only
   by_cases hlt:k < T.length
   ·left
    have ht:=List.getElem_mem hlt
    obtain ⟨h0,h1,h2⟩:=h.cor _ ht
    obtain ⟨x0,i0,_,p0,o0,l0,u0⟩:=h.at_ h0
    obtain ⟨x1,i1,_,p1,o1,l1,u1⟩:=h.at_ h1
    obtain ⟨x2,i2,_,p2,o2,l2,u2⟩:=h.at_ h2
    obtain ⟨⟨a1,a2⟩,⟨b1,b2⟩,⟨c1,c2⟩,d1,d2⟩:=h.tri ht false
    obtain ⟨_,⟨b3,b4⟩,⟨c3,c4⟩,d3,d4⟩:=h.tri ht true
    have q1:=Tx h hb false k
    have q2:=Tx h hb true k
    have q3:=Ama h hb ht false
    have q4:=Ama h hb ht true
    have eA:Ss (plV v T[k].a0) (plV v T[k].a1) (plV v T[k].a2)=some (Fn v T[k]):=Ot o0 o1 o2
    rw[l0] at b1 b2
    rw[l1] at c1 c2
    rw[l2] at d1 d2
    rw[u0] at b3 b4
    rw[u1] at c3 c4
    rw[u2] at d3 d4
    have eL:Fn v T[k] * (x0.Z.Lo+x1.Z.Lo+x2.Z.Lo-3*b)=vol v b false T[k]:=by unfold vol;rw[l0,l1,l2]
    have eH:Fn v T[k] * (x0.Z.Hi+x1.Z.Hi+x2.Z.Hi-3*b)=vol v b true T[k]:=by unfold vol;rw[u0,u1,u2]
    have w3:w64 (3*b)=3*b:=Ay (by omega) (by omega)
    have wL:w64 (w64 (w64 (x0.Z.Lo+x1.Z.Lo)+x2.Z.Lo)-3*b)=x0.Z.Lo+x1.Z.Lo+x2.Z.Lo-3*b:=by
     rw[Ay (x:=x0.Z.Lo+x1.Z.Lo) (by omega) (by omega),Ay (x:=x0.Z.Lo+x1.Z.Lo+x2.Z.Lo) (by omega) (by omega),Ay (by omega) (by omega)]
    have wH:w64 (w64 (w64 (x0.Z.Hi+x1.Z.Hi)+x2.Z.Hi)-3*b)=x0.Z.Hi+x1.Z.Hi+x2.Z.Hi-3*b:=by
     rw[Ay (x:=x0.Z.Hi+x1.Z.Hi) (by omega) (by omega),Ay (x:=x0.Z.Hi+x1.Z.Hi+x2.Z.Hi) (by omega) (by omega),Ay (by omega) (by omega)]
    have cA:(⟨(CR (Fn v T[k]) 1).Neg,(CR (Fn v T[k]) 1).Num,(CR (Fn v T[k]) 1).Den⟩:As)=CR (Fn v T[k]) 1:=rfl
    have cL:(⟨(CR (tot (vol v b false) (T.take k)) 1).Neg,(CR (tot (vol v b false) (T.take k)) 1).Num,[]⟩:As)=CR (tot (vol v b false) (T.take k)) 1:=rfl
    have cH:(⟨(CR (tot (vol v b true) (T.take k)) 1).Neg,(CR (tot (vol v b true) (T.take k)) 1).Num,[]⟩:As)=CR (tot (vol v b true) (T.take k)) 1:=rfl
    rw[if_pos (by omega),Bb hlt,Ad]
    unfold Pf Cu
    dsimp only
    rw[i0,Ad,i1,Ad,i2,Ad,Ad]
    dsimp only
    rw[Ad,Ad,Ad,p0,p1,p2,eA,Ad,Al4 _ (by omega) (by omega),Ad]
    rw[w3,wL,wH,Al4 _ (by omega) (by omega),Ad,vmul _ (by omega) (by omega),Ad,cL,eL,vadd _ (by omega) (by omega),Ad,Al4 _ (by omega) (by omega),Ad,vmul _ (by omega) (by omega),Ad,cH,eH,vadd _ (by omega) (by omega),Ad,Be (by omega)]
    exact ⟨_,rfl,⟨k+1,by omega,by rw[Br hlt,Xw,Xw];rfl⟩,by dsimp only;omega⟩
   ·right
    obtain rfl:k=T.length:=by omega
    rw[if_neg (by omega)]
    exact ⟨_,rfl,by rw[List.take_length]⟩)
  (false,[],[],false,[],[],0) ⟨0,by omega,rfl⟩
 rw[r1,r2]
theorem Ag6 (h:MesV v T) (hc:Mr ⟨v,T,L⟩=some 0) {b:Int} (hb:-268435456<=b/\b<=268435456):Mo ⟨v,T,L⟩ b=some (CR (tot (vol v b false) T) 1,CR (tot (vol v b true) T) 1,0):=by
 unfold Mo
 rw[hc,Ad,if_pos rfl,jn_d,if_neg (by omega),decide_eq_false (by omega)]
 dsimp only
 rw[if_neg Bool.false_ne_true,jn_d,As3 h hb,Ad]
 rfl
theorem Amc (hc:Mr ⟨v,T,L⟩=some 0) {b:Int} (hb:¬ (-268435456<=b/\b<=268435456)):Mo ⟨v,T,L⟩ b=some (⟨false,[],[]⟩,⟨false,[],[]⟩,2):=by
 unfold Mo
 rw[hc,Ad,if_pos rfl,jn_d]
 by_cases h1:b < -268435456
 ·rw[if_pos h1]
  rfl
 ·rw[if_neg h1,decide_eq_true (by omega)]
  rfl
def q3 (x y:Int) (i:Int):Bool × List Int × List Int × Bool × List Int × List Int × Int:=(decide (x < 0),L16 x.natAbs,[1],decide (y < 0),L16 y.natAbs,[1],i)
theorem Ab9 {t:Ae} {b A x y i:Int} {c:Int} {z:Ab} (hA:A.natAbs<=576460752303423488) (hx:x.natAbs<=1000000000000000000000000000000000000) (hy:y.natAbs<=1000000000000000000000000000000000000) (hb:-268435456<=b/\b<=268435456)
  (h0:i < 3) (hi:idx [t.a0,t.a1,t.a2] i=some c) (hz':idx v c=some z) (hg:La z) :
  Dk t ⟨v,T,L⟩ b ⟨⟨decide (A < 0),L16 A.natAbs⟩,[1]⟩ (q3 x y i)=some (.inl (q3 (x+A*(z.Z.Lo-b)) (y+A*(z.Z.Hi-b)) (w64 (i+1)))):=by
 obtain ⟨_,g1,g2,g3⟩:=hg
 have mL:=mulB (x:=A) (y:=z.Z.Lo-b) (M:=576460752303423488) (N:=536870912) (by omega) (by omega) (by omega) (by omega) (by omega)
 have mH:=mulB (x:=A) (y:=z.Z.Hi-b) (M:=576460752303423488) (N:=536870912) (by omega) (by omega) (by omega) (by omega) (by omega)
 unfold Dk q3
 dsimp only
 have cA:(⟨(⟨decide (A < 0),L16 A.natAbs⟩:Ai),[1]⟩:Am)=Q1 A:=rfl
 have cx:(⟨(⟨decide (x < 0),L16 x.natAbs⟩:Ai),[1]⟩:Am)=Q1 x:=rfl
 have cy:(⟨(⟨decide (y < 0),L16 y.natAbs⟩:Ai),[1]⟩:Am)=Q1 y:=rfl
 rw[if_pos h0,hi,Ad,hz',Ad,Ay (x:=z.Z.Lo-b) (by omega) (by omega),Aag (by omega) (by omega),Ad,cA,mulQ (Iz (by omega)) (Iz (by omega)) (Iz (by omega)),Ad,cx,addQ (Iz (by omega)) (Iz (by omega)) (Iz (by omega)),Ad,
  Ad,Ay (x:=z.Z.Hi-b) (by omega) (by omega),Aag (by omega) (by omega),Ad,mulQ (Iz (by omega)) (Iz (by omega)) (Iz (by omega)),Ad,cy,addQ (Iz (by omega)) (Iz (by omega)) (Iz (by omega)),Ad]
 rfl
theorem As4 (h:MesV v T) {b:Int} (hb:-268435456<=b/\b<=268435456) {t:Ae} (ht:t∈T) {x y:Int} (hx:x.natAbs<=100000000000000000000000000000000000) (hy:y.natAbs<=100000000000000000000000000000000000) :
  lfix (Dk t ⟨v,T,L⟩ b ⟨⟨decide (Fn v t < 0),L16 (Fn v t).natAbs⟩,[1]⟩) (q3 x y 0)=some (decide (x+vol v b false t < 0),L16 (x+vol v b false t).natAbs,[1],decide (y+vol v b true t < 0),L16 (y+vol v b true t).natAbs,[1]):=by
 obtain ⟨h0,h1,h2⟩:=h.cor _ ht
 obtain ⟨x0,i0,g0,_,_,l0,u0⟩:=h.at_ h0
 obtain ⟨x1,i1,g1,_,_,l1,u1⟩:=h.at_ h1
 obtain ⟨x2,i2,g2,_,_,l2,u2⟩:=h.at_ h2
 obtain ⟨⟨a1,a2⟩,_⟩:=h.tri ht false
 have m0:=mulB (x:=Fn v t) (y:=x0.Z.Lo-b) (M:=576460752303423488) (N:=536870912) (by omega) (by omega) (by omega) (by have:=g0.2;omega) (by have:=g0.2;omega)
 have n0:=mulB (x:=Fn v t) (y:=x0.Z.Hi-b) (M:=576460752303423488) (N:=536870912) (by omega) (by omega) (by omega) (by have:=g0.2;omega) (by have:=g0.2;omega)
 have m1:=mulB (x:=Fn v t) (y:=x1.Z.Lo-b) (M:=576460752303423488) (N:=536870912) (by omega) (by omega) (by omega) (by have:=g1.2;omega) (by have:=g1.2;omega)
 have n1:=mulB (x:=Fn v t) (y:=x1.Z.Hi-b) (M:=576460752303423488) (N:=536870912) (by omega) (by omega) (by omega) (by have:=g1.2;omega) (by have:=g1.2;omega)
 rw[Bk,Ab9 (by omega) (by omega) (by omega) hb (by omega) rfl i0 g0]
 dsimp only
 rw[show w64 (0+1)=1 from Ay (by omega) (by omega),Bk,Ab9 (by omega) (by omega) (by omega) hb (by omega) rfl i1 g1]
 dsimp only
 rw[show w64 (1+1)=2 from Ay (by omega) (by omega),Bk,Ab9 (by omega) (by omega) (by omega) hb (by omega) rfl i2 g2]
 dsimp only
 rw[show w64 (2+1)=3 from Ay (by omega) (by omega),Bk]
 have eL:x+Fn v t*(x0.Z.Lo-b)+Fn v t*(x1.Z.Lo-b)+Fn v t*(x2.Z.Lo-b)=x+vol v b false t:=by unfold vol;rw[l0,l1,l2];grind
 have eH:y+Fn v t*(x0.Z.Hi-b)+Fn v t*(x1.Z.Hi-b)+Fn v t*(x2.Z.Hi-b)=y+vol v b true t:=by unfold vol;rw[u0,u1,u2];grind
 rw[eL,eH]
 unfold Dk q3
 dsimp only
 rw[if_neg (by omega)]
theorem Ap1 (h:MesV v T) {b:Int} (hb:-268435456<=b/\b<=268435456) :
  lfix (Fp ⟨v,T,L⟩ b) (q3 0 0 0)=some ((Q1 (tot (vol v b false) T)).N.Neg,(Q1 (tot (vol v b false) T)).N.L,[1],(Q1 (tot (vol v b true) T)).N.Neg,(Q1 (tot (vol v b true) T)).N.L,[1]):=by
 have hl:=h.len
 obtain ⟨r,r1,r2⟩:=Bl (B:=Fp ⟨v,T,L⟩ b) (fun s=>T.length-s.2.2.2.2.2.2.toNat)
  (fun s=>∃ k:Nat,k<=T.length/\s=q3 (tot (vol v b false) (T.take k)) (tot (vol v b true) (T.take k)) (k:Int))
  (fun r=>r=((Q1 (tot (vol v b false) T)).N.Neg,(Q1 (tot (vol v b false) T)).N.L,[1],(Q1 (tot (vol v b true) T)).N.Neg,(Q1 (tot (vol v b true) T)).N.L,[1])) (by
   rintro s ⟨k,hk,rfl⟩
   unfold Fp
   by_cases hlt:k < T.length
   ·left
    have ht:=List.getElem_mem hlt
    obtain ⟨h0,h1,h2⟩:=h.cor _ ht
    obtain ⟨x0,i0,_,p0,o0,_⟩:=h.at_ h0
    obtain ⟨x1,i1,_,p1,o1,_⟩:=h.at_ h1
    obtain ⟨x2,i2,_,p2,o2,_⟩:=h.at_ h2
    obtain ⟨⟨a1,a2⟩,_⟩:=h.tri ht false
    have q1:=Tx h hb false k
    have q2:=Tx h hb true k
    have eA:Jk (plV v T[k].a0) (plV v T[k].a1) (plV v T[k].a2)=some (Fn v T[k]):=Ag2 o0 o1 o2
    have e3:=As4 (L:=L) h hb ht (x:=tot (vol v b false) (T.take k)) (y:=tot (vol v b true) (T.take k)) (by omega) (by omega)
    have g0:(q3 (tot (vol v b false) (T.take k)) (tot (vol v b true) (T.take k)) (k:Int)).2.2.2.2.2.2=(k:Int):=rfl
    rw[g0,if_pos (by dsimp only;omega),jn_d,Bb hlt,Ad]
    dsimp only
    rw[i0,Ad,i1,Ad,i2,Ad]
    unfold Aj
    dsimp only
    rw[Ad,Ad,Ad,p0,p1,p2,eA,Ad,Aag (by omega) (by omega),Ad]
    refine ⟨q3 (tot (vol v b false) (T.take (k+1))) (tot (vol v b true) (T.take (k+1))) ((k+1:Nat):Int),?_,⟨k+1,by omega,rfl⟩,by show T.length-(((k+1:Nat):Int)).toNat < T.length-((k:Int)).toNat;omega⟩
    show bnd (lfix (Dk T[k] ⟨v,T,L⟩ b ⟨⟨decide (Fn v T[k] < 0),L16 (Fn v T[k]).natAbs⟩,[1]⟩) (q3 (tot (vol v b false) (T.take k)) (tot (vol v b true) (T.take k)) 0)) _=_
    rw[e3,Ad,Br hlt,Xw,Xw]
    dsimp only
    rw[Be (by omega)]
    rfl
   ·right
    obtain rfl:k=T.length:=by omega
    refine ⟨_,by rw[if_neg (by show ¬ ((T.length:Nat):Int) < ((T.length:Nat):Int);omega)],?_⟩
    rw[List.take_length]
    rfl)
  (q3 0 0 0) ⟨0,by omega,rfl⟩
 rw[r1,r2]
theorem Amd (h:MesV v T) (hc:Hn ⟨v,T,L⟩=some 0) {b:Int} (hb:-268435456<=b/\b<=268435456):Ge ⟨v,T,L⟩ b=some (Q1 (tot (vol v b false) T),Q1 (tot (vol v b true) T),0):=by
 unfold Ge
 rw[hc,Ad,if_pos rfl,jn_d,if_neg (by omega),decide_eq_false (by omega)]
 dsimp only
 rw[if_neg Bool.false_ne_true,Aag (by omega) (by omega),Ad,Ad,jn_d]
 show bnd (lfix (Fp ⟨v,T,L⟩ b) (q3 0 0 0)) _=_
 rw[Ap1 h hb,Ad]
 rfl
theorem Akf (hc:Hn ⟨v,T,L⟩=some 0) {b:Int} (hb:¬ (-268435456<=b/\b<=268435456)):Ge ⟨v,T,L⟩ b=some (⟨⟨false,[]⟩,[]⟩,⟨⟨false,[]⟩,[]⟩,2):=by
 unfold Ge
 rw[hc,Ad,if_pos rfl,jn_d]
 by_cases h1:b < -268435456
 ·rw[if_pos h1]
  rfl
 ·rw[if_neg h1,decide_eq_true (by omega)]
  rfl
end
section
variable {v:List Ab} {L:List Aa} {T:List Ae} {m:Mp}
theorem Afa (b:Int) (h:Bool):∀ l:List Ae,tot (vol v (b+1) h) l=tot (vol v b h) l-3*tot (Fn v) l
 | []=>rfl
 | t::r=>by
  have ih:=Afa b h r
  show vol v (b+1) h t+tot (vol v (b+1) h) r=vol v b h t+tot (vol v b h) r-3*(Fn v t+tot (Fn v) r)
  rw[ih]
  unfold vol
  grind
theorem Ap2 (h:MesV v T) (hc:Mr ⟨v,T,L⟩=some 0):Vj ⟨v,T,L⟩=some (w64 (tot (Fn v) T),0):=by
 have hl:=h.len
 have key:lfix (Qw ⟨v,T,L⟩) (0,0)=some (w64 (tot (Fn v) T)):=by
  obtain ⟨r,r1,r2⟩:=Bl (B:=Qw ⟨v,T,L⟩) (fun s=>T.length-s.2.toNat)
   (fun s=>∃ k:Nat,k<=T.length/\s=(w64 (tot (Fn v) (T.take k)),(k:Int))) (fun r=>r=w64 (tot (Fn v) T)) (by
    rintro s ⟨k,hk,rfl⟩
    unfold Qw
    dsimp only
    by_cases hlt:k < T.length
    ·left
     have ht:=List.getElem_mem hlt
     obtain ⟨h0,h1,h2⟩:=h.cor _ ht
     obtain ⟨x0,i0,_,p0,o0,_⟩:=h.at_ h0
     obtain ⟨x1,i1,_,p1,o1,_⟩:=h.at_ h1
     obtain ⟨x2,i2,_,p2,o2,_⟩:=h.at_ h2
     have eA:Ss (plV v T[k].a0) (plV v T[k].a1) (plV v T[k].a2)=some (Fn v T[k]):=Ot o0 o1 o2
     have w:w64 (w64 (tot (Fn v) (T.take k))+Fn v T[k])=w64 (tot (Fn v) (T.take k)+Fn v T[k]):=by rw[Aip,Aip,Aip];omega
     rw[if_pos (by omega),Bb hlt,Ad]
     unfold Pf Cu
     dsimp only
     rw[i0,Ad,i1,Ad,i2,Ad,Ad]
     dsimp only
     rw[Ad,Ad,Ad,p0,p1,p2,eA,Ad,w,Be (by omega)]
     exact ⟨_,rfl,⟨k+1,by omega,by rw[Br hlt,Xw]⟩,by dsimp only;omega⟩
    ·right
     obtain rfl:k=T.length:=by omega
     rw[if_neg (by omega)]
     exact ⟨_,rfl,by rw[List.take_length]⟩)
   (0,0) ⟨0,by omega,rfl⟩
  rw[r1,r2]
 unfold Vj
 rw[hc,Ad,if_pos rfl,jn_d,key,Ad]
theorem Bbe {a b:Ac} (ha:okP a) (hb:okP b):(xp a b).natAbs<=144115188075855872:=by
 unfold okP at ha hb
 have m1:=mulB (x:=a.X) (y:=b.Y) (M:=268435456) (N:=268435456) (by omega) (by omega) (by omega) (by omega) (by omega)
 have m2:=mulB (x:=a.Y) (y:=b.X) (M:=268435456) (N:=268435456) (by omega) (by omega) (by omega) (by omega) (by omega)
 unfold xp
 omega
theorem Ame (h:MesV v T) (hv:Bu v) (hn:v.length<=24) (hM:Mesh v L m) (hT:Qo v m T):(tot (Fn v) T).natAbs<=6629298651489370112:=by
 have e:=Aso hM.tri hT
 have c:=Asp hv (by omega) hM hT
 have hb:(bds m T).length<=46:=by omega
 have h1:=Amb (f:=fun s:Int × Int=>xp (plV v s.1) (plV v s.2)) (B:=144115188075855872) (l:=bds m T) fun s hs=>by
  obtain ⟨p,q⟩:=s
  obtain ⟨⟨x,hx⟩,_⟩:=(Vy hM.tri hT).1 hs
  obtain ⟨i1,i2,_⟩:=hM.tri.ccw _ _ _ hx
  exact Bbe (hv.ok _ i1) (hv.ok _ i2)
 rw[<- e] at h1
 have h2:(bds m T).length*144115188075855872<=46*144115188075855872:=Nat.mul_le_mul hb (Nat.le_refl _)
 show (tot (fun t:Ae=>crs (plV v t.a0) (plV v t.a1) (plV v t.a2)) T).natAbs<=_
 omega
end
theorem Afb (p:Du) (b:Int):Gf p b=some true:=by
 obtain ⟨v,l⟩:=p
 unfold Gf Py
 dsimp only
 rw[jn_d]
 by_cases c:24 < ((v.length:Nat):Int)
 ·rw[if_pos c,Ad,if_pos rfl,Aab,Ad]
 ·rw[if_neg c,Ad]
  by_cases c2:8 < ((l.length:Nat):Int)
  ·rw[decide_eq_true c2,if_pos rfl,Aab,Ad]
  ·rw[decide_eq_false c2,if_neg Bool.false_ne_true]
   have hl:l.length<=1000000:=by omega
   by_cases h:Nw v=0
   ·by_cases h1:Nz v l=0
    ·obtain ⟨hn,hgood,hv⟩:=Qh h
     obtain ⟨T,e1,e2,e3,e4,e5,e6,e7⟩:=Aj7 h hl h1
     have hlen:(Au cmp2 (l.map prL)).length=l.length:=by rw[(Cz _ _).length_eq,List.length_map]
     revert e1 e2 e4 e5 e6 e7 hlen
     generalize Au cmp2 (l.map prL)=L
     intro e1 e2 e4 e5 e6 e7 hlen
     have chk:Hn ⟨v,T,L⟩=some 0:=by
      unfold Hn
      dsimp only
      rw[e6,Ad,jn_d]
      dsimp only
      rw[if_pos rfl,Aj6 (by dsimp only;omega) (by dsimp only;omega) (by dsimp only;omega),Ad]
      rfl
     have hF:MesV v T:=⟨hgood,e3,by
      rcases e7 with ⟨_,rfl⟩ | ⟨_,m,hM,hT⟩
      ·exact fun t ht=>(by cases ht)
      ·intro t ht
       obtain ⟨_,_,h⟩:=(hT.mem t).1 ht
       obtain ⟨h1,h2,h3,_⟩:=hM.tri.ccw _ _ _ h
       exact ⟨h1,h2,h3⟩⟩
     have hA:(tot (Fn v) T).natAbs<=6629298651489370112:=by
      rcases e7 with ⟨_,rfl⟩ | ⟨_,m,hM,hT⟩
      ·simp[tot]
      ·exact Ame hF hv (by omega) hM hT
     rw[e2,Ad,if_pos rfl]
     dsimp only
     by_cases hb:-268435456<=b/\b<=268435456
     ·have q1:=Tx hF hb false T.length
      have q2:=Tx hF hb true T.length
      rw[List.take_length] at q1 q2
      rw[Ag6 hF e4 hb,Ad,Amd hF chk hb,Ad]
      dsimp only
      rw[if_pos rfl,if_pos rfl,jn_d,Uz (by omega),Ad,if_pos rfl,Uz (by omega),Ad,if_pos rfl]
      by_cases hm:b=268435456
      ·rw[decide_eq_true hm]
       dsimp only
       rw[if_pos rfl,jn_d,if_pos hm,Ad,if_pos rfl,Ad,if_pos rfl,Aab,Ad]
      ·rw[decide_eq_false hm]
       dsimp only
       have hb2:-268435456<=b+1/\b+1<=268435456:=by omega
       have q3:=Tx hF hb2 false T.length
       have q4:=Tx hF hb2 true T.length
       rw[List.take_length] at q3 q4
       have s1:=Afa (v:=v) b false T
       have s2:=Afa (v:=v) b true T
       rw[if_neg Bool.false_ne_true,Ap2 hF e4,Ad,Ay (x:=b+1) (by omega) (by omega),Ag6 hF e4 hb2,Ad,Aag (by omega) (by omega),Ad]
       dsimp only
       rw[Ay (x:=tot (Fn v) T) (by omega) (by omega),Aag (by omega) (by omega),Ad,mulQ (Iz (by omega)) (Iz (by omega)) (Iz (by omega)),Ad,jn_d,if_pos rfl,if_pos rfl,subQ (Iz (by omega)) (Iz (by omega)) (Iz (by omega)),Ad,<- s1,Uz (by omega),Ad,if_pos rfl,
        subQ (Iz (by omega)) (Iz (by omega)) (Iz (by omega)),Ad,<- s2,Uz (by omega),Ad,if_pos rfl,Aab,Ad]
     ·rw[Amc e4 hb,Ad,Akf chk hb,Ad]
      dsimp only
      rw[if_pos rfl,if_neg (by omega),jn_d,Ayq,Ad,if_pos rfl,Ad,if_pos rfl,Aab,Ad]
    ·rw[Aed hl h h1,Ad]
     dsimp only
     rw[if_neg h1,Aab,Ad]
   ·rw[Af7 _ h,Ad]
    dsimp only
    rw[if_neg h,Aab,Ad]
end Go.Proofs.YtjfndjmabhbicaaGreat
namespace Go.Proofs.YtjfndjmabhbicaaGreat
open Go.ChangeShapes Go.WideShapes Go.ChangeAt Go.RowKit

theorem own2:ownKnob Tryz.prog.godebug=none:=by kernel_rfl
theorem Akg:laidOutB Tryz.prog=true:=by kernel_rfl
def rI64 (z:Int):Prop:=-9223372036854775808<=z/\z<=9223372036854775807
theorem Ain {cs:List Value} {o:Nat} (h:cs.length=o):cs.drop o=[]:=by rw[<- h,List.drop_length]
theorem Sp {cs X R:List Value} {o k o':Nat} (h1:(cs.drop o).take k=X) (h2:cs.drop o'=R) (ho:o'=o+k):cs.drop o=X++R:=by
 subst ho;rw[<- h1,<- h2,<- List.drop_drop,List.take_append_drop]
section
variable {H:Type} {enc:TypeId × Value->H} {w:World} {base:Nat} {spare:Nat->Bool} {held:Bool} {P:Program}
theorem Ayv {t:TypeId} (ht:P.underlying t=some (.int .i64)) {fuel:Nat} {cs:List Value} {x:DataW H × List MemPlace} (h:DataW.trod enc P w base spare held fuel t cs=some x):∃ z:Int,cs=[.int .i64 z]/\rI64 z:=by
 obtain ⟨n,hc,_,hw⟩:=DataW.trod_int ht h
 refine ⟨n,hc,?_⟩
 have h1:IntKind.i64.min = -9223372036854775808:=rfl
 have h2:IntKind.i64.max=9223372036854775807:=rfl
 simp only[Lit.wf,Bool.and_eq_true,decide_eq_true_eq] at hw
 unfold rI64;omega
theorem Akh {α:Type} {en:α->List Value} {okα:α->Prop} {t e:TypeId} {sz:Nat} (ht:P.underlying t=some (.slice e)) (hsz:P.cellsOf e=sz) (hp:0 < sz)
  (hel:∀ {fuel:Nat} {cs:List Value} {x:DataW H × List MemPlace},DataW.trod enc P w base spare held fuel e cs=some x->∃ v,cs=en v/\okα v)
  {fuel:Nat} {cs:List Value} {x:DataW H × List MemPlace} (h:DataW.trod enc P w base spare held fuel t cs=some x) :
  ∃ (v:List α) (A:Option Addr) (c:Nat),cs=[.slice A v.length c]/\Has [.old w] A v.length c sz en v/\∀ z∈v,okα z:=by
 rcases Go.Deep.open_slice ht h with ⟨rfl,_⟩ | ⟨a,len,cap,m,n,D,Pl,rfl,hb,hl,hm,hmm,_,hx⟩
 ·exact ⟨[],none,0,rfl,Has.nil,fun z hz=>by simp at hz⟩
 ·have hle:len<=m:=by rw[hmm];split <;> omega
  have key:∀ k,k<=len->∃ v:List α,v.length=k/\(∀ z∈v,okα z)/\∀ i (hi:i < v.length),w.cells? base (a.add (i*sz)) sz=some (en v[i]):=by
   intro k
   induction k with
   | zero=>intro _;exact ⟨[],rfl,fun z hz=>by simp at hz,fun i hi=>by simp at hi⟩
   | succ k ih=>
    intro hk
    obtain ⟨v,h1,h2,h3⟩:=ih (by omega)
    obtain ⟨cs',h4,h5⟩:=hx k (by omega)
    obtain ⟨z,rfl,hz⟩:=hel h5
    rw[hsz] at h4
    refine ⟨v++[z],by simp[h1],fun y hy=>?_,fun i hi=>?_⟩
    ·rcases List.mem_append.1 hy with hy | hy
     ·exact h2 y hy
     ·simp at hy;subst hy;exact hz
    ·simp at hi
     rcases Nat.lt_or_ge i v.length with hlt | hge
     ·rw[List.getElem_append_left hlt];exact h3 i hlt
     ·have:i=k:=by omega
      subst this
      rw[List.getElem_append_right hge]
      simp[h1];exact h4
  obtain ⟨v,h1,h2,h3⟩:=key len (Nat.le_refl _)
  subst h1
  have hesz:∀ z∈v,(en z).length=sz:=by
   intro z hz
   obtain ⟨i,hi,rfl⟩:=List.getElem_of_mem hz
   exact (World.cells?_some (h3 i hi)).2.1
  have hsl:Sl w (some a) v.length cap sz en v:=by
   refine ⟨rfl,hl,hm,hesz,fun hn=>?_⟩
   have hsp:a.spot=none:=by
    have h4:=(World.cells?_some (h3 0 hn)).2.2 0 hp
    have h5:(en v[0])[0]? = some ((en v[0])[0]'(by rw[hesz _ (List.getElem_mem hn)];exact hp)):=List.getElem?_eq_getElem _
    rw[h5] at h4
    simp only[Nat.zero_mul,Addr.add,if_true] at h4
    unfold World.cell? at h4
    split at h4
    ·split at h4
     ·cases h4
     ·rename_i hs;simpa using hs
    ·cases h4
   obtain ⟨b,o,sp⟩:=a
   have hsp:sp=none:=hsp
   subst hsp
   refine ⟨b,o,rfl,fun i hi j u hu=>?_⟩
   have hj:j < sz:=by rw[<- hesz _ (List.getElem_mem hi)];exact (List.getElem?_eq_some_iff.1 hu).1
   have h4:=(World.cells?_some (h3 i hi)).2.2 j hj
   rw[hu,Addr.add_lit,Addr.add_lit] at h4
   exact h4
  exact ⟨v,some a,cap,rfl,hsl.has,h2⟩
end
theorem Bbf (w:World):∀ e∈[Ent.old w],Ent.ok w e:=fun e he=>by simp at he;subst he;exact ⟨Below.refl _ _,Nat.le_refl _⟩
end Go.Proofs.YtjfndjmabhbicaaGreat
